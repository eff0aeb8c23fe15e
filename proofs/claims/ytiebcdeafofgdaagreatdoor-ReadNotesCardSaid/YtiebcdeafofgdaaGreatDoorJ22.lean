/-
  Parts of the proof: Snext Shelf5 Sstep. By an AI agent.
-/
import Derived.Test.YtiebcdeafofgdaaGreatDoorJ21
import Derived.Test.YtiebcdeafofgdaaGreatDoorJ00
import Derived.Test.YtiebcdeafofgdaaGreatDoorJ19
import Derived.Test.YtiebcdeafofgdaaGreatDoorJ01
import Derived.Lib.SlBytesRow
import Derived.Shelf.Unicode.DecodeSlow
set_option maxRecDepth 100000
set_option maxHeartbeats 8000000
namespace Go.Proofs.YtiebcdeafofgdaaGreatDoor
section
open Go.RowKit Go.Lib Go.Proofs
attribute [local go_sem ↓] Go.wp_at_zero Go.wp_at_succ
theorem EY (k:Int) (D:k=0∨k=1∨k=2) (w:World):(Instr.index 104 (.agg #[.int .i64 1,.int .i64 2,.int .i64 3]) (.int .i64 k)).run Tryz.prog w=.ok (.int .i64 (k+1)) w:=by rcases D with rfl | rfl | rfl;all_goals simp [Instr.index,run_underlying Tryz.underlying104,asIntOf,go_sem]
theorem y9 (s:ByteArray):ci s=0∨ci s=1∨ci s=2:=by
 unfold ci;split
 ·exact .inr (.inl rfl)
 ·split
  ·exact .inr (.inr rfl)
  ·exact .inl rfl
theorem sU (l:List UInt8):a8 l≤l.length:=by unfold a8;exact (List.takeWhile_sublist _).length_le
theorem DF (X:Nat) (s:ByteArray) (i:Nat) (l:List bE) (w:World) (h:fd w X s i l) (z:i<s.size) (U:i=0) (D:Lib.hasPrefix s.data.toList [239,187,191]=true) :
  Calls Tryz.prog 73 #[.pointer (some ⟨X,0,none⟩)] w (py X s w 3 l (.tuple #[])):=by
 obtain ⟨lv,nv,ns,I⟩:=h.out;have hb:=I.blk;have q:=h.most;have y:=hb.lt;obtain ⟨x0,x1,x2,x3,f0,f1,f2,f3⟩:=ac hb;have N:=fun W=>di s i z W;subst U;have O:=hid (fun w=>cE s ⟨#[239,187,191]⟩ w);rw [show (⟨#[239,187,191]⟩:BA).data.toList=[239,187,191] from rfl,D] at O;have h3:3≤s.size:=by
  show 3≤s.data.toList.length;cases M:s.data.toList with
  | nil=>rw [M] at D;simp [Lib.hasPrefix] at D
  | cons a r=>cases r with
    | nil=>rw [M] at D;simp [Lib.hasPrefix] at D
    | cons b r=>cases r with
      | nil=>rw [M] at D;simp [Lib.hasPrefix] at D
      | cons c r=>simp
 have J:=hid (h.set 3 (by omega) h3);clear D I hb h;(go_enter Tryz.func73,Tryz.ntmps73);(go_wp2_with fail);refine (O.out _).mono ?_;rintro e w2 ⟨rfl,rfl⟩;(go_wp2_with fail);go_end0;exact ⟨rfl,J.out,(Below.refl X w).setCell (by exact Nat.le_refl X) _⟩
theorem BS (X:Nat) (s:ByteArray) (i:Nat) (l:List bE) (w:World) (h:fd w X s i l) (hi:i<s.size) (q:i=0→Lib.hasPrefix s.data.toList [239,187,191]=false) (c:Nat) (O:c=32∨c=9∨c=13) (hc:aa s i=c) :
  Calls Tryz.prog 73 #[.pointer (some ⟨X,0,none⟩)] w (py X s w (i+1) l (.tuple #[])):=by
 obtain ⟨lv,nv,ns,M⟩:=h.out;have hb:=M.blk;have z:=h.most;have ga:=hb.lt;obtain ⟨x0,x1,x2,x3,f0,f1,f2,f3⟩:=ac hb;have I:=fun W=>di s i hi W;rw [hc] at I;have y:=hid (fun (J:i=0) w=>cE s ⟨#[239,187,191]⟩ w);have U:=hid (fun (J:i=0) w=>show Calls Tryz.prog 95 #[.string s,.string ⟨#[239,187,191]⟩] w (fun e w'=>e=.returned (.bool false)∧w=w') by have:=y.out J w;rw [show (⟨#[239,187,191]⟩:BA).data.toList=[239,187,191] from rfl,q J] at this;exact this);clear q y;have D:=h.set (i+1) (by omega) (by omega);rw [show ((i+1:Nat):Int)=(i:Int)+1 by omega] at D;have N:=hid D;have q1:IntKind.i64.wrap ((i:Int)+1)=(i:Int)+1:=IntWalk.i64_in _ (by omega);clear D hc M hb;rcases O with rfl | rfl | rfl;all_goals
  cases J:((i:Int)==0);all_goals
   (go_enter Tryz.func73,Tryz.ntmps73);(go_wp2_with fail);try
    refine (U.out (by have:=beq_iff_eq.1 J;omega) _).mono ?_
    rintro e w2 ⟨rfl,rfl⟩
    go_wp2_with fail
   go_end0;exact ⟨rfl,N.out,(Below.refl X w).setCell (by exact Nat.le_refl X) _⟩
theorem G6 (X:Nat) (s:ByteArray) (i:Nat) (l:List bE) (w:World) (h:fd w X s i l) (hi:i<s.size) (hm:i=0→Lib.hasPrefix s.data.toList [239,187,191]=false) (hc:aa s i=10) (hl:l.length+1≤65537) (hT:cD w) (M:∀ t∈l,t.text.size≤65536) :
  Calls Tryz.prog 73 #[.pointer (some ⟨X,0,none⟩)] w (py X s w (i+1) (cC l i) (.tuple #[])):=by
 obtain ⟨lv,nv,ns,U⟩:=h.out;have hb:=U.blk;have ge:=h.most;have gg:=hb.lt;obtain ⟨x0,x1,x2,x3,f0,f1,f2,f3⟩:=ac hb;have I:=fun W=>di s i hi W;rw [hc] at I;have HM:=hid (fun (J:i=0) w=>cE s ⟨#[239,187,191]⟩ w);have z:=hid (fun (J:i=0) w=>show Calls Tryz.prog 95 #[.string s,.string ⟨#[239,187,191]⟩] w (fun e w'=>e=.returned (.bool false)∧w=w') by have:=HM.out J w;rw [show (⟨#[239,187,191]⟩:BA).data.toList=[239,187,191] from rfl,hm J] at this;exact this);clear hm HM;have q1:IntKind.i64.wrap ((i:Int)+1)=(i:Int)+1:=IntWalk.i64_in _ (by omega);have HL:=hid (sP X s i l (i:Int) hl w h hT M);clear hc U hb h hT M;cases J:((i:Int)==0);all_goals
  (go_enter Tryz.func73,Tryz.ntmps73);(go_wp2_with fail);try
   refine (z.out (by have:=beq_iff_eq.1 J;omega) _).mono ?_
   rintro e w2 ⟨rfl,rfl⟩
   go_wp2_with fail
  refine HL.out.mono ?_;rintro e w2 ⟨rfl,N,y⟩;have D:=N.set (i+1) (by omega) (by omega);rw [show ((i+1:Nat):Int)=(i:Int)+1 by omega] at D;have q:=hid D;obtain ⟨gd,ga,gb,O⟩:=N.out;clear x0 x1 x2 x3 f0 f1 f2 f3 D HL;obtain ⟨x0,x1,x2,x3,f0,f1,f2,f3⟩:=ac O.blk;(go_wp2_with fail);go_end0;exact ⟨rfl,q.out,y.setCell (by exact Nat.le_refl X) _⟩
theorem DG (X:Nat) (s:ByteArray) (i:Nat) (l:List bE) (w:World) (h:fd w X s i l) (hi:i<s.size) (z:i=0→Lib.hasPrefix s.data.toList [239,187,191]=false) (hn:aa s i≠10∧aa s i≠32∧aa s i≠9∧aa s i≠13) (hl:l.length+1≤65537) (hT:cD w) (J:∀ t∈l,t.text.size≤65536) (r:GQ) (y:dj s i l=some r) :
  Calls Tryz.prog 73 #[.pointer (some ⟨X,0,none⟩)] w (fa X s w r (.tuple #[])):=by
 obtain ⟨lv,nv,ns,M⟩:=h.out;have hb:=M.blk;have ga:=h.most;have gb:=hb.lt;obtain ⟨x0,x1,x2,x3,f0,f1,f2,f3⟩:=ac hb;have U:=fun W=>di s i hi W;have HM:=hid (fun (D:i=0) w=>cE s ⟨#[239,187,191]⟩ w);have N:=hid (fun (D:i=0) w=>show Calls Tryz.prog 95 #[.string s,.string ⟨#[239,187,191]⟩] w (fun e w'=>e=.returned (.bool false)∧w=w') by have:=HM.out D w;rw [show (⟨#[239,187,191]⟩:BA).data.toList=[239,187,191] from rfl,z D] at this;exact this);clear z HM;have q:=hid (nO X s i l w h hT hl J);have gd:=df s i;generalize aa s i=c at *;obtain ⟨m1,m2,m3,m4⟩:=hn;(have gh:((c:Int)==10)=false:=by rw [beq_eq_false_iff_ne];omega);(have ge:((c:Int)==32)=false:=by rw [beq_eq_false_iff_ne];omega);(have e9:((c:Int)==9)=false:=by rw [beq_eq_false_iff_ne];omega);(have gg:((c:Int)==13)=false:=by rw [beq_eq_false_iff_ne];omega);have qc:IntKind.i32.wrap (c:Int)=(c:Int):=IntWalk.i32_in _ (by omega);clear m1 m2 m3 m4;rw [y] at q;clear y M hb h hT J;cases r with
 | go i2 l2=>
  cases D:((i:Int)==0);all_goals
   (go_enter Tryz.func73,Tryz.ntmps73);(go_wp2_with fail);try
    refine (N.out (by have:=beq_iff_eq.1 D;omega) _).mono ?_
    rintro e w2 ⟨rfl,rfl⟩
    go_wp2_with fail
   refine q.out.mono ?_;rintro e w2 ⟨rfl,O,I⟩;(go_wp2_with fail);go_end0;exact ⟨rfl,O,I⟩
 | bad p=>
  cases D:((i:Int)==0);all_goals
   (go_enter Tryz.func73,Tryz.ntmps73);(go_wp2_with fail);try
    refine (N.out (by have:=beq_iff_eq.1 D;omega) _).mono ?_
    rintro e w2 ⟨rfl,rfl⟩
    go_wp2_with fail
   refine q.out.mono ?_;rintro e w2 ⟨rfl,I⟩;unfold ec;exact ⟨rfl,rfl,I⟩
theorem Ac (X:Nat) (s:ByteArray) (i:Nat) (l:List bE) (w:World) (h:fd w X s i l) (hi:i<s.size) (hm:i=0→Lib.hasPrefix s.data.toList [239,187,191]=false) (hn:aa s i≠10∧aa s i≠32∧aa s i≠9∧aa s i≠13) (hl:l.length+1≤65537) (hT:cD w) (N:∀ t∈l,t.text.size≤65536) (hr:dj s i l=none) (hc:a7 (aa s i:Int)=true) :
  Calls Tryz.prog 73 #[.pointer (some ⟨X,0,none⟩)] w (py X s w (i+a8 (s.data.toList.drop i)) (l++[⟨ci (s.extract i (i+a8 (s.data.toList.drop i)))+1,s.extract i (i+a8 (s.data.toList.drop i)),i⟩]) (.tuple #[])):=by
 obtain ⟨lv,nv,ns,ga⟩:=h.out;have hb:=ga.blk;have gx:=h.most;have ge:=hb.lt;obtain ⟨x0,x1,x2,x3,f0,f1,f2,f3⟩:=ac hb;have I:=fun W=>di s i hi W;have HW:=hid (fun w' (hb:Below w.heap.size w w')=>uD 99 Ld Lf X s i l w' (h.below hb));have HM:=hid (fun (M:i=0) w=>cE s ⟨#[239,187,191]⟩ w);have gd:=hid (fun (M:i=0) w=>show Calls Tryz.prog 95 #[.string s,.string ⟨#[239,187,191]⟩] w (fun e w'=>e=.returned (.bool false)∧w=w') by have:=HM.out M w;rw [show (⟨#[239,187,191]⟩:BA).data.toList=[239,187,191] from rfl,hm M] at this;exact this);clear hm HM;have J:=hid (fun w=>dR (aa s i:Int) w);rw [hc] at J;clear hc;have HN:=hid (nO X s i l w h hT hl N);have g0:=df s i;generalize aa s i=c at *;obtain ⟨m1,m2,m3,m4⟩:=hn;(have gm:((c:Int)==10)=false:=by rw [beq_eq_false_iff_ne];omega);(have gk:((c:Int)==32)=false:=by rw [beq_eq_false_iff_ne];omega);(have e9:((c:Int)==9)=false:=by rw [beq_eq_false_iff_ne];omega);(have gl:((c:Int)==13)=false:=by rw [beq_eq_false_iff_ne];omega);have qc:IntKind.i32.wrap (c:Int)=(c:Int):=IntWalk.i32_in _ (by omega);clear m1 m2 m3 m4;rw [hr] at HN;generalize hwl:i+a8 (s.data.toList.drop i)=e at *;(have gz:i≤e:=by omega);clear hr ga hb h hT N hwl;have gg:(e:Int)=(e:Int):=rfl;clear gg;cases M:((i:Int)==0);all_goals
  (go_enter Tryz.func73,Tryz.ntmps73);(go_wp2_with fail);try
   refine (gd.out (by have:=beq_iff_eq.1 M;omega) _).mono ?_
   rintro e w2 ⟨rfl,rfl⟩
   go_wp2_with fail
  refine HN.out.mono ?_;rintro e2 w2 ⟨rfl,q⟩;(go_wp2_with fail);refine (J.out _).mono ?_;rintro e2 w3 ⟨rfl,rfl⟩;(go_wp2_with fail);refine (HW.out _ q).mono ?_;rintro e2 w4 ⟨rfl,D,gj⟩;obtain ⟨gw,gs,gu,z⟩:=D.out;have U:=z.blk;have gq:=D.le;clear x0 x1 x2 x3 f0 f1 f2 f3;obtain ⟨x0,x1,x2,x3,f0,f1,f2,f3⟩:=ac U;(have p0:(0:Int)≤(i:Int):=by omega);(have p1:(i:Int)≤(e:Int):=by omega);(have p2:(e:Int)≤(s.size:Int):=by omega);have hk:=y9 (s.extract i e);have gn:=hid (fun w=>yT (s.extract i e) w);have gb:=fun (w':World) (hb:Below w4.heap.size w4 w')=>iz X s e l (ci (s.extract i e)+1) i (by omega) hl w' (D.below hb);have gp:=hid gb;clear gb;have gy:=fun W=>EY (ci (s.extract i e)) hk W;generalize ci (s.extract i e)=kw at *;clear I gd J HN HW gm gk e9 gl qc x2 x3 f0 f1 f2 f3 U;(go_upto_region 13 with fail);go_region_held3 (fun w'=>w'.cell? ⟨X,0,none⟩=some (.string s)∧w'.cell? ⟨X,1,none⟩=some (.int .i64 (e:Int)))
   (first | exact ⟨z0,z1⟩ | go_keep)
   (first
    | (go_at_call 102;refine (gn.out _).mono ?_;rintro e3 w5 ⟨rfl,rfl⟩)
    | (go_at_call 101;refine (gp.out _ (Below.refl _ _).drew).mono ?_;rintro e3 w6 ⟨rfl,O,gi⟩;obtain ⟨gv,gr,gt,y⟩:=O.out;have gh:=y.blk;obtain ⟨z0,z1,-,-,-,-,-,-⟩:=ac gh))
  all_goals (go_wp2_with fail);go_end0;exact ⟨rfl,O,((q.mono (Nat.le_of_lt ge)).trans gj).drew.trans gi⟩
theorem Ae (X:Nat) (s:ByteArray) (i:Nat) (l:List bE) (w:World) (h:fd w X s i l) (hi:i<s.size) (hm:i=0→Lib.hasPrefix s.data.toList [239,187,191]=false) (hn:aa s i≠10∧aa s i≠32∧aa s i≠9∧aa s i≠13) (hl:l.length+1≤65537) (hT:cD w) (J:∀ t∈l,t.text.size≤65536) (hr:dj s i l=none) (M:a7 (aa s i:Int)=false) (hc:aK (aa s i:Int)=true) :
  Calls Tryz.prog 73 #[.pointer (some ⟨X,0,none⟩)] w (py X s w (i+a8 (s.data.toList.drop i)) (l++[⟨4,s.extract i (i+a8 (s.data.toList.drop i)),i⟩]) (.tuple #[])):=by
 obtain ⟨lv,nv,ns,U⟩:=h.out;have hb:=U.blk;have gp:=h.most;have ga:=hb.lt;obtain ⟨x0,x1,x2,x3,f0,f1,f2,f3⟩:=ac hb;have gd:=fun W=>di s i hi W;have HW:=hid (fun w' (hb:Below w.heap.size w w')=>uD 103 Le Lg X s i l w' (h.below hb));have HM:=hid (fun (I:i=0) w=>cE s ⟨#[239,187,191]⟩ w);have gi:=hid (fun (I:i=0) w=>show Calls Tryz.prog 95 #[.string s,.string ⟨#[239,187,191]⟩] w (fun e w'=>e=.returned (.bool false)∧w=w') by have:=HM.out I w;rw [show (⟨#[239,187,191]⟩:BA).data.toList=[239,187,191] from rfl,hm I] at this;exact this);clear hm HM;have q:=hid (fun w=>dR (aa s i:Int) w);have y:=hid (fun w=>ft (aa s i:Int) w);rw [M] at q;rw [hc] at y;clear hc M;have HN:=hid (nO X s i l w h hT hl J);have gr:=df s i;generalize aa s i=c at *;obtain ⟨m1,m2,m3,m4⟩:=hn;(have gu:((c:Int)==10)=false:=by rw [beq_eq_false_iff_ne];omega);(have gs:((c:Int)==32)=false:=by rw [beq_eq_false_iff_ne];omega);(have e9:((c:Int)==9)=false:=by rw [beq_eq_false_iff_ne];omega);(have gt:((c:Int)==13)=false:=by rw [beq_eq_false_iff_ne];omega);have qc:IntKind.i32.wrap (c:Int)=(c:Int):=IntWalk.i32_in _ (by omega);clear m1 m2 m3 m4;rw [hr] at HN;generalize hwl:i+a8 (s.data.toList.drop i)=e at *;(have gq:i≤e:=by omega);clear hr U hb h hT J hwl;have gb:(e:Int)=(e:Int):=rfl;clear gb;cases I:((i:Int)==0);all_goals
  (go_enter Tryz.func73,Tryz.ntmps73);(go_wp2_with fail);try
   refine (gi.out (by have:=beq_iff_eq.1 I;omega) _).mono ?_
   rintro e w2 ⟨rfl,rfl⟩
   go_wp2_with fail
  refine HN.out.mono ?_;rintro e2 w2 ⟨rfl,N⟩;(go_wp2_with fail);refine (q.out _).mono ?_;rintro e2 w3 ⟨rfl,rfl⟩;(go_wp2_with fail);refine (y.out _).mono ?_;rintro e2 w3 ⟨rfl,rfl⟩;(go_wp2_with fail);refine (HW.out _ N).mono ?_;rintro e2 w4 ⟨rfl,D,gh⟩;obtain ⟨gn,gl,gm,O⟩:=D.out;have gg:=O.blk;have gk:=D.le;clear x0 x1 x2 x3 f0 f1 f2 f3;obtain ⟨x0,x1,x2,x3,f0,f1,f2,f3⟩:=ac gg;(have p0:(0:Int)≤(i:Int):=by omega);(have p1:(i:Int)≤(e:Int):=by omega);(have p2:(e:Int)≤(s.size:Int):=by omega);have gj:=hid (iz X s e l 4 i (by omega) hl w4 D);(go_wp2_with fail);refine gj.out.mono ?_;rintro e3 w6 ⟨rfl,z,ge⟩;(go_wp2_with fail);go_end0;exact ⟨rfl,z,((N.mono (Nat.le_of_lt ga)).trans gh).trans ge⟩
theorem BT (X:Nat) (s:ByteArray) (i:Nat) (l:List bE) (w:World) (h:fd w X s i l) (hi:i<s.size) (hm:i=0→Lib.hasPrefix s.data.toList [239,187,191]=false) (hn:aa s i≠10∧aa s i≠32∧aa s i≠9∧aa s i≠13) (hl:l.length+1≤65537) (hT:cD w) (z:∀ t∈l,t.text.size≤65536) (hr:dj s i l=none) (gd:a7 (aa s i:Int)=false) (gb:aK (aa s i:Int)=false) (en:Nat) (N:en=34∨en=96) (he:aa s i=en) :
  Calls Tryz.prog 73 #[.pointer (some ⟨X,0,none⟩)] w (fa X s w (nP s i l) (.tuple #[])):=by
 obtain ⟨lv,nv,ns,ge⟩:=h.out;have hb:=ge.blk;have gk:=h.most;have ga:=hb.lt;obtain ⟨x0,x1,x2,x3,f0,f1,f2,f3⟩:=ac hb;have gi:=fun W=>di s i hi W;have J:=hid (fun w' (hb:Below w.heap.size w w')=>BR X s i l w' (h.below hb) hi hl en N he);have HM:=hid (fun (M:i=0) w=>cE s ⟨#[239,187,191]⟩ w);have gg:=hid (fun (M:i=0) w=>show Calls Tryz.prog 95 #[.string s,.string ⟨#[239,187,191]⟩] w (fun e w'=>e=.returned (.bool false)∧w=w') by have:=HM.out M w;rw [show (⟨#[239,187,191]⟩:BA).data.toList=[239,187,191] from rfl,hm M] at this;exact this);clear hm HM;have q:=hid (fun w=>dR (aa s i:Int) w);have y:=hid (fun w=>ft (aa s i:Int) w);rw [gd] at q;rw [gb] at y;clear gd gb;have HN:=hid (nO X s i l w h hT hl z);have gl:=df s i;generalize aa s i=c at *;obtain ⟨m1,m2,m3,m4⟩:=hn;(have gp:((c:Int)==10)=false:=by rw [beq_eq_false_iff_ne];omega);(have gm:((c:Int)==32)=false:=by rw [beq_eq_false_iff_ne];omega);(have e9:((c:Int)==9)=false:=by rw [beq_eq_false_iff_ne];omega);(have gn:((c:Int)==13)=false:=by rw [beq_eq_false_iff_ne];omega);have qc:IntKind.i32.wrap (c:Int)=(c:Int):=IntWalk.i32_in _ (by omega);clear m1 m2 m3 m4;rw [hr] at HN;subst he;have gj:=hid N;clear hr ge hb h hT z N;rcases gj.out with rfl | rfl;all_goals
  cases I:nP s i l with
  | go i2 l2=>
   rw [I] at J;clear I;cases M:((i:Int)==0);all_goals
    (go_enter Tryz.func73,Tryz.ntmps73);(go_wp2_with fail);try
     refine (gg.out (by have:=beq_iff_eq.1 M;omega) _).mono ?_
     rintro e w2 ⟨rfl,rfl⟩
     go_wp2_with fail
    refine HN.out.mono ?_;rintro U w2 ⟨rfl,D⟩;(go_wp2_with fail);refine (q.out _).mono ?_;rintro U w3 ⟨rfl,rfl⟩;(go_wp2_with fail);refine (y.out _).mono ?_;rintro U w3 ⟨rfl,rfl⟩;(go_wp2_with fail);refine (J.out _ D).mono ?_;rintro U w3 ⟨rfl,gh,O⟩;(go_wp2_with fail);go_end0;exact ⟨rfl,gh,(D.mono (Nat.le_of_lt ga)).trans O⟩
  | bad p=>
   rw [I] at J;clear I;cases M:((i:Int)==0);all_goals
    (go_enter Tryz.func73,Tryz.ntmps73);(go_wp2_with fail);try
     refine (gg.out (by have:=beq_iff_eq.1 M;omega) _).mono ?_
     rintro e w2 ⟨rfl,rfl⟩
     go_wp2_with fail
    refine HN.out.mono ?_;rintro U w2 ⟨rfl,D⟩;(go_wp2_with fail);refine (q.out _).mono ?_;rintro U w3 ⟨rfl,rfl⟩;(go_wp2_with fail);refine (y.out _).mono ?_;rintro U w3 ⟨rfl,rfl⟩;(go_wp2_with fail);refine (J.out _ D).mono ?_;rintro U w3 ⟨rfl,O⟩;unfold ec;exact ⟨rfl,rfl,(D.mono (Nat.le_of_lt ga)).trans O⟩
theorem DH (X:Nat) (s:ByteArray) (i:Nat) (l:List bE) (w:World) (h:fd w X s i l) (hi:i<s.size) (hm:i=0→Lib.hasPrefix s.data.toList [239,187,191]=false) (hn:aa s i≠10∧aa s i≠32∧aa s i≠9∧aa s i≠13) (hl:l.length+1≤65537) (hT:cD w) (y:∀ t∈l,t.text.size≤65536) (hr:dj s i l=none) (gb:a7 (aa s i:Int)=false) (ga:aK (aa s i:Int)=false) (hq:aa s i≠34∧aa s i≠96) :
  Calls Tryz.prog 73 #[.pointer (some ⟨X,0,none⟩)] w (fa X s w (ik s i l) (.tuple #[])):=by
 obtain ⟨lv,nv,ns,gd⟩:=h.out;have hb:=gd.blk;have gi:=h.most;have z:=hb.lt;obtain ⟨x0,x1,x2,x3,f0,f1,f2,f3⟩:=ac hb;have gh:=fun W=>di s i hi W;have J:=hid (fun w' (hb:Below w.heap.size w w')=>EW X s i l w' (h.below hb) (hT.below hb) hl hi);have HM:=hid (fun (M:i=0) w=>cE s ⟨#[239,187,191]⟩ w);have ge:=hid (fun (M:i=0) w=>show Calls Tryz.prog 95 #[.string s,.string ⟨#[239,187,191]⟩] w (fun e w'=>e=.returned (.bool false)∧w=w') by have:=HM.out M w;rw [show (⟨#[239,187,191]⟩:BA).data.toList=[239,187,191] from rfl,hm M] at this;exact this);clear hm HM;have U:=hid (fun w=>dR (aa s i:Int) w);have q:=hid (fun w=>ft (aa s i:Int) w);rw [gb] at U;rw [ga] at q;clear gb ga;have HN:=hid (nO X s i l w h hT hl y);have gj:=df s i;generalize aa s i=c at *;obtain ⟨m1,m2,m3,m4⟩:=hn;(have gp:((c:Int)==10)=false:=by rw [beq_eq_false_iff_ne];omega);(have gm:((c:Int)==32)=false:=by rw [beq_eq_false_iff_ne];omega);(have e9:((c:Int)==9)=false:=by rw [beq_eq_false_iff_ne];omega);(have gn:((c:Int)==13)=false:=by rw [beq_eq_false_iff_ne];omega);have qc:IntKind.i32.wrap (c:Int)=(c:Int):=IntWalk.i32_in _ (by omega);clear m1 m2 m3 m4;rw [hr] at HN;(have gl:((c:Int)==34)=false:=by rw [beq_eq_false_iff_ne];omega);(have gk:((c:Int)==96)=false:=by rw [beq_eq_false_iff_ne];omega);clear hr gd hb h hT y hq;cases I:ik s i l with
 | go i2 l2=>
  rw [I] at J;clear I;cases M:((i:Int)==0);all_goals
   (go_enter Tryz.func73,Tryz.ntmps73);(go_wp2_with fail);try
    refine (ge.out (by have:=beq_iff_eq.1 M;omega) _).mono ?_
    rintro e w2 ⟨rfl,rfl⟩
    go_wp2_with fail
   refine HN.out.mono ?_;rintro O w2 ⟨rfl,D⟩;(go_wp2_with fail);refine (U.out _).mono ?_;rintro O w3 ⟨rfl,rfl⟩;(go_wp2_with fail);refine (q.out _).mono ?_;rintro O w3 ⟨rfl,rfl⟩;(go_wp2_with fail);refine (J.out _ D).mono ?_;rintro O w3 ⟨rfl,gg,N⟩;(go_wp2_with fail);go_end0;exact ⟨rfl,gg,(D.mono (Nat.le_of_lt z)).trans N⟩
 | bad p=>
  rw [I] at J;clear I;cases M:((i:Int)==0);all_goals
   (go_enter Tryz.func73,Tryz.ntmps73);(go_wp2_with fail);try
    refine (ge.out (by have:=beq_iff_eq.1 M;omega) _).mono ?_
    rintro e w2 ⟨rfl,rfl⟩
    go_wp2_with fail
   refine HN.out.mono ?_;rintro O w2 ⟨rfl,D⟩;(go_wp2_with fail);refine (U.out _).mono ?_;rintro O w3 ⟨rfl,rfl⟩;(go_wp2_with fail);refine (q.out _).mono ?_;rintro O w3 ⟨rfl,rfl⟩;(go_wp2_with fail);refine (J.out _ D).mono ?_;rintro O w3 ⟨rfl,N⟩;unfold ec;exact ⟨rfl,rfl,(D.mono (Nat.le_of_lt z)).trans N⟩
end
section
open Go.RowKit Go.Lib Go.Proofs
structure iq (w:World):Prop where
 tab:cD w
 u8:Lib.Utf8Tabs 0 1 w
theorem iq.below {w w':World} (h:iq w) (hb:Below w.heap.size w w'):iq w':=⟨h.tab.below hb,Go.Proofs.Utf8Tabs_below h.u8 hb⟩
theorem uo (g o c j:Nat) (s:ByteArray) (w:World) (hT:iq w) (hb:Lib.Bytes w g o s) (I:j<s.size) :
  Calls Tryz.prog 94 #[.slice (some ⟨g,o+j,none⟩) (s.size-j) (c-j)] w fun e w'=>e=.returned (.tuple #[.int .i32 (Utf8.decode s j).1,.int .i64 (Utf8.decode s j).2])∧Below w.heap.size w w':=by (have D:(s.extract j s.size).size=s.size-j:=by rw [ByteArray.size_extract];omega);have h:=Any7.utf8_DecodeRune Tryz.laysDecode (s.extract j s.size) g (o+j) (c-j) w hT.u8 (fun m hm=>by rw [D] at hm;rw [sQ,eH,show o+j+m=o+(j+m) by omega,hb (j+m) (by omega)];(have:(s[j+m]'(by omega)).toNat=aa s (j+m):=by unfold aa;rw [List.getD_eq_getElem?_getD,List.getElem?_eq_getElem (by show j+m<s.data.toList.length;have:s.data.toList.length=s.size:=rfl;omega)];rfl);rw [this]);rw [D] at h;(have hd:Lib.decodeGo (s.extract j s.size)=Utf8.decode s j:=by unfold Lib.decodeGo;rw [if_neg (by rw [D];omega),yZ,Nat.add_zero]);rw [hd] at h;exact h
theorem sR (s old new:ByteArray) (w:World) (hT:cD w) (hs:s.size≤65536) (J:1≤old.size) (D:new.size=0) :
  Calls Tryz.prog 116 #[.string s,.string old,.string new] w fun e w'=>
   e=.returned (.string ⟨(Lib.replaceAll s.data.toList old.data.toList new.data.toList).toArray⟩)∧Below w.heap.size w w':=by obtain ⟨m,I⟩:=hT;exact Any.strings_ReplaceAll Tryz.laysReplace Tryz.xReplace s old new m w (by omega) I J (by rw [D];omega)
theorem iA (r:Int) (w:World):Calls Tryz.prog 196 #[.int .i32 r] w fun e w'=>e=.returned (.bool (Lib.validRune r))∧w'=w:=by exact (Any.utf8_ValidRune Tryz.laysValid r w)
def G2 (B b:Nat) (bs:List Value) (w:World):Prop:=Lib.IsBuilder 129 5 B b bs w
theorem sk (B b:Nat) (bs:List Value) (s:ByteArray) (w:World) (h:G2 B b bs w) (D:bs.length+s.size≤140737488355328) (I:B≤w.heap.size) :
  Calls Tryz.prog 146 #[.pointer (some ⟨b,0,none⟩),.string s] w fun e w'=>(∃ v,e=.returned v)∧G2 B b (bs++Lib.strCells s) w'∧Below B w w':=
 (Any.Builder_WriteString (P:=Tryz.prog) (ρ:=Tryz.laysReplace_ren) { Tryz.laysReplace with } Tryz.xReplace B b bs s w h D I).mono fun _ _ h=>⟨⟨_,h.1⟩,.inr h.2.1,h.2.2⟩
def I0:Go.Shelf.Ren := { Tryz.laysReplace_ren with f:=fun | 167=>147 | n=>Tryz.laysReplace_ren.f n }
theorem Lc:Go.Proofs.Lays.n167 Tryz.prog I0:=
 {Tryz.laysReplace with
  f167:=Tryz.func147.trans (congrArg some (by kernel_rfl))
  f240:=Tryz.func197.trans (congrArg some (by kernel_rfl))
  f276:=Tryz.laysReplace.f276.trans (congrArg some (by kernel_rfl)) }
theorem Mq:Go.Proofs.Builder.Extra Tryz.prog I0 := {
 sizeBuilder:=by kernel_rfl
 liesBuilder:=by kernel_rfl
 t5:=Tryz.underlying5
 a5:=Tryz.isAgg5
 z5:=Tryz.sizeOf5
 v5:=Tryz.zeroValue5
 infoByte:=by kernel_rfl
 cellsByte:=by kernel_rfl
 sizeByte:=by kernel_rfl
 neB5:=by decide }
theorem uq (B b:Nat) (bs:List Value) (c:Int) (w:World) (h:G2 B b bs w) (D:bs.length+1≤140737488355328) (I:B≤w.heap.size) :
  Calls Tryz.prog 147 #[.pointer (some ⟨b,0,none⟩),.int .u8 c] w fun e w'=>e=.returned .nilIface∧G2 B b (bs++[.int .u8 c]) w'∧Below B w w':=
 (Any.Builder_WriteByte Lc Mq B b bs c w h D I).mono fun _ _ h=>⟨h.1,.inr h.2.1,h.2.2⟩
theorem y5 (B b:Nat) (l:List UInt8) (w:World) (h:G2 B b (Lib.byteCells l) w) (D:B≤w.heap.size) :
  Calls Tryz.prog 148 #[.pointer (some ⟨b,0,none⟩)] w fun e w'=>e=.returned (.string ⟨l.toArray⟩)∧Below B w w':=
 Any.Builder_String_any Tryz.laysBString Tryz.xBString B b l w h D
def bC (s:ByteArray) (i:Nat) (l:List bE):GQ:=
 if i=0∧Lib.hasPrefix s.data.toList [239,187,191]=true then .go 3 l
 else if aa s i=10 then .go (i+1) (cC l i)
 else if aa s i=32∨aa s i=9∨aa s i=13 then .go (i+1) l
 else match dj s i l with
  | some r=>r
  | none=>
   if a7 (aa s i:Int)=true then .go (i+a8 (s.data.toList.drop i)) (l++[⟨ci (s.extract i (i+a8 (s.data.toList.drop i)))+1,s.extract i (i+a8 (s.data.toList.drop i)),i⟩])
   else if aK (aa s i:Int)=true then .go (i+a8 (s.data.toList.drop i)) (l++[⟨4,s.extract i (i+a8 (s.data.toList.drop i)),i⟩])
   else if aa s i=34∨aa s i=96 then nP s i l
   else ik s i l
inductive I2 where
 | ok (l:List bE)
 | bad (p:Nat)
def aU (s:ByteArray):Nat→Nat→List bE→I2
 | 0,_,_=>.bad 0
 | g+1,i,l=>
  if i<s.size then
   match bC s i l with
   | .go j l'=>aU s g j l'
   | .bad p=>.bad p
  else .ok (cC l (s.size:Int))
inductive iY where
 | toks (l:List bE)
 | err (p:Int) (e:Int)
def nQ:I2→iY
 | .ok l=>.toks l
 | .bad p=>.err p 3
def cr (s:ByteArray):iY:=
 if 65536<s.size then .err 65536 12
 else match dE s with
  | some p=>.err p 2
  | none=>nQ (aU s (s.size+1) 0 [])
def fU (i:Nat) (l:List bE):Prop:=l.length≤i∧∀ t∈l,t.text.size≤65536
theorem fU.push {i j:Nat} {l:List bE} {t:bE} (h:fU i l) (J:i+1≤j) (I:t.text.size≤65536):fU j (l++[t]):=by
 refine ⟨by rw [List.length_append];have:=h.1;simp;omega,fun u D=>?_⟩;rcases List.mem_append.1 D with D | D
 ·exact h.2 u D
 ·(obtain rfl:u=t:=by simpa using D);exact I
theorem fU.le {i j:Nat} {l:List bE} (h:fU i l) (D:i≤j):fU j l:=⟨Nat.le_trans h.1 D,h.2⟩
theorem fU.line {i j:Nat} {l:List bE} (h:fU i l) (D:i+1≤j) (p:Int):fU j (cC l p):=by
 unfold cC;split
 ·exact h.push D (by show (1:Nat)≤65536;omega)
 ·exact h.le (by omega)
theorem mZ (s:ByteArray) (i j:Nat) (h:s.size≤65536):(s.extract i j).size≤65536:=by rw [ByteArray.size_extract];omega
theorem pD (s:ByteArray) (i:Nat):(s.data.toList.drop i).length=s.size-i:=by rw [List.length_drop];rfl
theorem rT (l:List UInt8) (c:UInt8) (r:List UInt8) (h:l=c::r) (hc:bA (c.toNat:Int)=true):1≤a8 l:=by subst h;unfold a8;rw [List.takeWhile_cons,if_pos (by simpa using hc)];simp
theorem Af (s:ByteArray) (i:Nat) (D:i<s.size):∃ c r,s.data.toList.drop i=c::r∧c.toNat=aa s i:=by obtain ⟨c,r,J,I,_⟩:=fT s i D;exact ⟨c,r,J,I⟩
theorem lG (s:ByteArray) (i:Nat) (l:List bE) (hs:s.size≤65536) (hi:i<s.size) (h:fU i l) (j:Nat) (l':List bE) (D:bC s i l=.go j l'):i<j∧j≤s.size∧fU j l':=by
 unfold bC at D;split at D
 ·rename_i h0;injection D with e1 I;subst e1 I;have h3:3≤s.size:=by
   show 3≤s.data.toList.length;have N:=h0.2;cases q:s.data.toList with
   | nil=>rw [q] at N;simp [Lib.hasPrefix] at N
   | cons a r=>cases r with
     | nil=>rw [q] at N;simp [Lib.hasPrefix] at N
     | cons b r=>cases r with
       | nil=>rw [q] at N;simp [Lib.hasPrefix] at N
       | cons c r=>simp
  exact ⟨by omega,h3,h.le (by omega)⟩
 ·split at D
  ·injection D with e1 I;subst e1 I;exact ⟨by omega,by omega,h.line (Nat.le_refl _) _⟩
  ·split at D
   ·injection D with e1 I;subst e1 I;exact ⟨by omega,by omega,h.le (by omega)⟩
   ·have hd:=pD s i;cases J:dj s i l with
    | some r=>
     rw [J] at D;have D:r=.go j l':=D;subst D;unfold dj at J;split at J
     ·rename_i y;have hb:=sT _ y;injection J with J;injection J with e1 I;subst e1 I;exact ⟨by omega,by omega,h.le (by omega)⟩
     ·split at J
      ·split at J
       ·injection J with J;cases J
       ·rename_i hx;have M:=Lib.index_room ((s.data.toList.drop i).drop 2) [42,47] (by omega);rw [List.length_drop,hd] at M;injection J with J;injection J with e1 I;subst e1 I;(have h2:i+((Lib.index ((s.data.toList.drop i).drop 2) [42,47]).toNat+4)≤s.size:=by have I:(([42,47]:List UInt8).length:Int)=2:=rfl;rw [I] at M;omega);refine ⟨by omega,h2,?_⟩;split
        ·exact h.line (by omega) _
        ·exact h.le (by omega)
      ·cases J
    | none=>
     rw [J] at D;obtain ⟨c,r,O,U⟩:=Af s i hi;have hw:=sU (s.data.toList.drop i);simp only at D;split at D
     ·rename_i z;have y:=rT _ c r O (by rw [U];unfold bA;rw [z];rfl);injection D with e1 I;subst e1 I;exact ⟨by omega,by omega,h.push (by omega) (mZ _ _ _ hs)⟩
     ·split at D
      ·rename_i z;have y:=rT _ c r O (by rw [U];unfold bA;rw [z];simp);injection D with e1 I;subst e1 I;exact ⟨by omega,by omega,h.push (by omega) (mZ _ _ _ hs)⟩
      ·split at D
       ·unfold nP at D;split at D
        ·rename_i k hk;have hb:=oz _ _ _ _ _ hk;rw [pD] at hb;injection D with e1 I;subst e1 I;exact ⟨by omega,by omega,h.push (by omega) (mZ _ _ _ hs)⟩
        ·cases D
       ·unfold ik at D;split at D
        ·cases D
        ·rename_i ga;have hb:bV s i≤s.size-i:=by
          unfold bV;split
          ·rename_i h;exact h.1
          ·split
           ·rename_i h;exact h.1
           ·split
            ·rename_i h;exact h.1
            ·omega
         injection D with e1 I;subst e1 I;exact ⟨by omega,by omega,h.push (by omega) (mZ _ _ _ hs)⟩
theorem BU (X:Nat) (s:ByteArray) (i:Nat) (l:List bE) (w:World) (h:fd w X s i l) (hT:cD w) (I:i<s.size) (hv:fU i l) :
  Calls Tryz.prog 73 #[.pointer (some ⟨X,0,none⟩)] w (fa X s w (bC s i l) (.tuple #[])):=by
 (have O:l.length+1≤65537:=by have:=hv.1;have:=h.most;omega);have D:=hv.2;unfold bC;by_cases y:i=0∧Lib.hasPrefix s.data.toList [239,187,191]=true
 ·rw [if_pos y];exact DF X s i l w h I y.1 y.2
 rw [if_neg y];have M:i=0→Lib.hasPrefix s.data.toList [239,187,191]=false:=fun hz=>by
  cases hp:Lib.hasPrefix s.data.toList [239,187,191] with
  | false=>rfl
  | true=>exact absurd ⟨hz,hp⟩ y
 by_cases h1:aa s i=10
 ·rw [if_pos h1];exact G6 X s i l w h I M h1 O hT D
 rw [if_neg h1];by_cases h2:aa s i=32∨aa s i=9∨aa s i=13
 ·rw [if_pos h2];exact BS X s i l w h I M _ h2 rfl
 rw [if_neg h2];(have q:aa s i≠10∧aa s i≠32∧aa s i≠9∧aa s i≠13:=by omega);cases U:dj s i l with
 | some r=>exact DG X s i l w h I M q O hT D r U
 | none=>
  simp only;by_cases J:a7 (aa s i:Int)=true
  ·rw [if_pos J];exact Ac X s i l w h I M q O hT D U J
  rw [if_neg J];have J:=Bool.eq_false_iff.2 J;by_cases N:aK (aa s i:Int)=true
  ·rw [if_pos N];exact Ae X s i l w h I M q O hT D U J N
  rw [if_neg N];have N:=Bool.eq_false_iff.2 N;by_cases z:aa s i=34∨aa s i=96
  ·rw [if_pos z];exact BT X s i l w h I M q O hT D U J N _ z rfl
  rw [if_neg z];exact DH X s i l w h I M q O hT D U J N (by omega)
end
end Go.Proofs.YtiebcdeafofgdaaGreatDoor
