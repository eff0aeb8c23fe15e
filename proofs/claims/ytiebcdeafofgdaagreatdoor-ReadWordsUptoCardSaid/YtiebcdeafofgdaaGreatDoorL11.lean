/-
  Parts of the proof: Snext Shelf5 Sstep Pwrong Bytes Scatch. By an AI agent.
-/
import Derived.Test.YtiebcdeafofgdaaGreatDoorL10
import Derived.Test.YtiebcdeafofgdaaGreatDoorL00
import Derived.Test.YtiebcdeafofgdaaGreatDoorL09
import Derived.Lib.SlBytesRow
import Derived.Shelf.Unicode.DecodeSlow
import Derived.Lib.BufferRead
import Derived.BigQuiet
import Derived.Defers
import Derived.Recover
set_option maxRecDepth 100000
set_option maxHeartbeats 8000000
namespace Go.Proofs.YtiebcdeafofgdaaGreatDoor
section
open Go.RowKit Go.Lib Go.Proofs
attribute [local go_sem ↓] Go.wp_at_zero Go.wp_at_succ
theorem B1 (k:Int) (D:k=0∨k=1∨k=2) (w:World):(Instr.index 104 (.agg #[.int .i64 1,.int .i64 2,.int .i64 3]) (.int .i64 k)).run Tryz.prog w=.ok (.int .i64 (k+1)) w:=by rcases D with rfl | rfl | rfl;all_goals simp [Instr.index,run_underlying Tryz.underlying104,asIntOf,go_sem]
theorem tz (s:ByteArray):aX s=0∨aX s=1∨aX s=2:=by
 unfold aX;split
 ·exact .inr (.inl rfl)
 ·split
  ·exact .inr (.inr rfl)
  ·exact .inl rfl
theorem uT (l:List UInt8):bP l≤l.length:=by unfold bP;exact (List.takeWhile_sublist _).length_le
theorem As (X:Nat) (s:ByteArray) (i:Nat) (l:List cK) (w:World) (h:eo w X s i l) (q:i<s.size) (O:i=0) (D:Lib.hasPrefix s.data.toList [239,187,191]=true) :
  Calls Tryz.prog 73 #[.pointer (some ⟨X,0,none⟩)] w (ne X s w 3 l (.tuple #[])):=by
 obtain ⟨lv,nv,ns,I⟩:=h.out;have hb:=I.blk;have U:=h.most;have j:=hb.lt;obtain ⟨x0,x1,x2,x3,f0,f1,f2,f3⟩:=ac hb;have M:=fun W=>dD s i q W;subst O;have N:=hid (fun w=>bS s ⟨#[239,187,191]⟩ w);rw [show (⟨#[239,187,191]⟩:BA).data.toList=[239,187,191] from rfl,D] at N;have u:3≤s.size:=by
  show 3≤s.data.toList.length;cases K:s.data.toList with
  | nil=>rw [K] at D;simp [Lib.hasPrefix] at D
  | cons a r=>cases r with
    | nil=>rw [K] at D;simp [Lib.hasPrefix] at D
    | cons b r=>cases r with
      | nil=>rw [K] at D;simp [Lib.hasPrefix] at D
      | cons c r=>simp
 have J:=hid (h.set 3 (by omega) u);clear D I hb h;(go_enter Tryz.func73,Tryz.ntmps73);(go_wp2_with fail);refine (N.out _).mono ?_;rintro e w2 ⟨rfl,rfl⟩;(go_wp2_with fail);go_end0;exact ⟨rfl,J.out,(Below.refl X w).setCell (by exact Nat.le_refl X) _⟩
theorem uU (X:Nat) (s:ByteArray) (i:Nat) (l:List cK) (w:World) (h:eo w X s i l) (hi:i<s.size) (U:i=0→Lib.hasPrefix s.data.toList [239,187,191]=false) (c:Nat) (N:c=32∨c=9∨c=13) (j:ab s i=c) :
  Calls Tryz.prog 73 #[.pointer (some ⟨X,0,none⟩)] w (ne X s w (i+1) l (.tuple #[])):=by
 obtain ⟨lv,nv,ns,K⟩:=h.out;have hb:=K.blk;have u:=h.most;have ga:=hb.lt;obtain ⟨x0,x1,x2,x3,f0,f1,f2,f3⟩:=ac hb;have I:=fun W=>dD s i hi W;rw [j] at I;have q:=hid (fun (J:i=0) w=>bS s ⟨#[239,187,191]⟩ w);have O:=hid (fun (J:i=0) w=>show Calls Tryz.prog 95 #[.string s,.string ⟨#[239,187,191]⟩] w (fun e w'=>e=.returned (.bool false)∧w=w') by have:=q.out J w;rw [show (⟨#[239,187,191]⟩:BA).data.toList=[239,187,191] from rfl,U J] at this;exact this);clear U q;have D:=h.set (i+1) (by omega) (by omega);rw [show ((i+1:Nat):Int)=(i:Int)+1 by omega] at D;have M:=hid D;have q1:IntKind.i64.wrap ((i:Int)+1)=(i:Int)+1:=IntWalk.i64_in _ (by omega);clear D j K hb;rcases N with rfl | rfl | rfl;all_goals
  cases J:((i:Int)==0);all_goals
   (go_enter Tryz.func73,Tryz.ntmps73);(go_wp2_with fail);try
    refine (O.out (by have:=beq_iff_eq.1 J;omega) _).mono ?_
    rintro e w2 ⟨rfl,rfl⟩
    go_wp2_with fail
   go_end0;exact ⟨rfl,M.out,(Below.refl X w).setCell (by exact Nat.le_refl X) _⟩
theorem Ex (X:Nat) (s:ByteArray) (i:Nat) (l:List cK) (w:World) (h:eo w X s i l) (hi:i<s.size) (hm:i=0→Lib.hasPrefix s.data.toList [239,187,191]=false) (hc:ab s i=10) (hl:l.length+1≤65537) (hT:bR w) (K:∀ t∈l,t.text.size≤65536) :
  Calls Tryz.prog 73 #[.pointer (some ⟨X,0,none⟩)] w (ne X s w (i+1) (dc l i) (.tuple #[])):=by
 obtain ⟨lv,nv,ns,O⟩:=h.out;have hb:=O.blk;have ge:=h.most;have gg:=hb.lt;obtain ⟨x0,x1,x2,u,f0,f1,f2,f3⟩:=ac hb;have I:=fun W=>dD s i hi W;rw [hc] at I;have HM:=hid (fun (J:i=0) w=>bS s ⟨#[239,187,191]⟩ w);have q:=hid (fun (J:i=0) w=>show Calls Tryz.prog 95 #[.string s,.string ⟨#[239,187,191]⟩] w (fun e w'=>e=.returned (.bool false)∧w=w') by have:=HM.out J w;rw [show (⟨#[239,187,191]⟩:BA).data.toList=[239,187,191] from rfl,hm J] at this;exact this);clear hm HM;have q1:IntKind.i64.wrap ((i:Int)+1)=(i:Int)+1:=IntWalk.i64_in _ (by omega);have HL:=hid (pl X s i l (i:Int) hl w h hT K);clear hc O hb h hT K;cases J:((i:Int)==0);all_goals
  (go_enter Tryz.func73,Tryz.ntmps73);(go_wp2_with fail);try
   refine (q.out (by have:=beq_iff_eq.1 J;omega) _).mono ?_
   rintro e w2 ⟨rfl,rfl⟩
   go_wp2_with fail
  refine HL.out.mono ?_;rintro e w2 ⟨rfl,M,j⟩;have D:=M.set (i+1) (by omega) (by omega);rw [show ((i+1:Nat):Int)=(i:Int)+1 by omega] at D;have U:=hid D;obtain ⟨gd,ga,gb,N⟩:=M.out;clear x0 x1 x2 u f0 f1 f2 f3 D HL;obtain ⟨x0,x1,x2,u,f0,f1,f2,f3⟩:=ac N.blk;(go_wp2_with fail);go_end0;exact ⟨rfl,U.out,j.setCell (by exact Nat.le_refl X) _⟩
theorem At (X:Nat) (s:ByteArray) (i:Nat) (l:List cK) (w:World) (h:eo w X s i l) (hi:i<s.size) (q:i=0→Lib.hasPrefix s.data.toList [239,187,191]=false) (hn:ab s i≠10∧ab s i≠32∧ab s i≠9∧ab s i≠13) (hl:l.length+1≤65537) (u:bR w) (J:∀ t∈l,t.text.size≤65536) (r:Gg) (j:eI s i l=some r) :
  Calls Tryz.prog 73 #[.pointer (some ⟨X,0,none⟩)] w (d9 X s w r (.tuple #[])):=by
 obtain ⟨lv,nv,ns,K⟩:=h.out;have hb:=K.blk;have ga:=h.most;have gb:=hb.lt;obtain ⟨x0,x1,x2,x3,f0,f1,f2,f3⟩:=ac hb;have O:=fun W=>dD s i hi W;have HM:=hid (fun (D:i=0) w=>bS s ⟨#[239,187,191]⟩ w);have M:=hid (fun (D:i=0) w=>show Calls Tryz.prog 95 #[.string s,.string ⟨#[239,187,191]⟩] w (fun e w'=>e=.returned (.bool false)∧w=w') by have:=HM.out D w;rw [show (⟨#[239,187,191]⟩:BA).data.toList=[239,187,191] from rfl,q D] at this;exact this);clear q HM;have U:=hid (lQ X s i l w h u hl J);have gd:=eH s i;generalize ab s i=c at *;obtain ⟨m1,m2,m3,m4⟩:=hn;(have gh:((c:Int)==10)=false:=by rw [beq_eq_false_iff_ne];omega);(have ge:((c:Int)==32)=false:=by rw [beq_eq_false_iff_ne];omega);(have e9:((c:Int)==9)=false:=by rw [beq_eq_false_iff_ne];omega);(have gg:((c:Int)==13)=false:=by rw [beq_eq_false_iff_ne];omega);have qc:IntKind.i32.wrap (c:Int)=(c:Int):=IntWalk.i32_in _ (by omega);clear m1 m2 m3 m4;rw [j] at U;clear j K hb h u J;cases r with
 | go i2 l2=>
  cases D:((i:Int)==0);all_goals
   (go_enter Tryz.func73,Tryz.ntmps73);(go_wp2_with fail);try
    refine (M.out (by have:=beq_iff_eq.1 D;omega) _).mono ?_
    rintro e w2 ⟨rfl,rfl⟩
    go_wp2_with fail
   refine U.out.mono ?_;rintro e w2 ⟨rfl,N,I⟩;(go_wp2_with fail);go_end0;exact ⟨rfl,N,I⟩
 | bad p=>
  cases D:((i:Int)==0);all_goals
   (go_enter Tryz.func73,Tryz.ntmps73);(go_wp2_with fail);try
    refine (M.out (by have:=beq_iff_eq.1 D;omega) _).mono ?_
    rintro e w2 ⟨rfl,rfl⟩
    go_wp2_with fail
   refine U.out.mono ?_;rintro e w2 ⟨rfl,I⟩;unfold dv;exact ⟨rfl,rfl,I⟩
theorem tA (X:Nat) (s:ByteArray) (i:Nat) (l:List cK) (w:World) (h:eo w X s i l) (hi:i<s.size) (hm:i=0→Lib.hasPrefix s.data.toList [239,187,191]=false) (hn:ab s i≠10∧ab s i≠32∧ab s i≠9∧ab s i≠13) (hl:l.length+1≤65537) (hT:bR w) (M:∀ t∈l,t.text.size≤65536) (hr:eI s i l=none) (hc:aA (ab s i:Int)=true) :
  Calls Tryz.prog 73 #[.pointer (some ⟨X,0,none⟩)] w (ne X s w (i+bP (s.data.toList.drop i)) (l++[⟨aX (s.extract i (i+bP (s.data.toList.drop i)))+1,s.extract i (i+bP (s.data.toList.drop i)),i⟩]) (.tuple #[])):=by
 obtain ⟨lv,nv,ns,u⟩:=h.out;have hb:=u.blk;have gw:=h.most;have gd:=hb.lt;obtain ⟨x0,x1,x2,x3,f0,f1,f2,f3⟩:=ac hb;have I:=fun W=>dD s i hi W;have HW:=hid (fun w' (hb:Below w.heap.size w w')=>rG 99 F9 Gb X s i l w' (h.below hb));have HM:=hid (fun (K:i=0) w=>bS s ⟨#[239,187,191]⟩ w);have gb:=hid (fun (K:i=0) w=>show Calls Tryz.prog 95 #[.string s,.string ⟨#[239,187,191]⟩] w (fun e w'=>e=.returned (.bool false)∧w=w') by have:=HM.out K w;rw [show (⟨#[239,187,191]⟩:BA).data.toList=[239,187,191] from rfl,hm K] at this;exact this);clear hm HM;have J:=hid (fun w=>cV (ab s i:Int) w);rw [hc] at J;clear hc;have HN:=hid (lQ X s i l w h hT hl M);have gz:=eH s i;generalize ab s i=c at *;obtain ⟨m1,m2,m3,m4⟩:=hn;(have gl:((c:Int)==10)=false:=by rw [beq_eq_false_iff_ne];omega);(have gj:((c:Int)==32)=false:=by rw [beq_eq_false_iff_ne];omega);(have e9:((c:Int)==9)=false:=by rw [beq_eq_false_iff_ne];omega);(have gk:((c:Int)==13)=false:=by rw [beq_eq_false_iff_ne];omega);have qc:IntKind.i32.wrap (c:Int)=(c:Int):=IntWalk.i32_in _ (by omega);clear m1 m2 m3 m4;rw [hr] at HN;generalize hwl:i+bP (s.data.toList.drop i)=e at *;(have gy:i≤e:=by omega);clear hr u hb h hT M hwl;have ge:(e:Int)=(e:Int):=rfl;clear ge;cases K:((i:Int)==0);all_goals
  (go_enter Tryz.func73,Tryz.ntmps73);(go_wp2_with fail);try
   refine (gb.out (by have:=beq_iff_eq.1 K;omega) _).mono ?_
   rintro e w2 ⟨rfl,rfl⟩
   go_wp2_with fail
  refine HN.out.mono ?_;rintro e2 w2 ⟨rfl,U⟩;(go_wp2_with fail);refine (J.out _).mono ?_;rintro e2 w3 ⟨rfl,rfl⟩;(go_wp2_with fail);refine (HW.out _ U).mono ?_;rintro e2 w4 ⟨rfl,D,gi⟩;obtain ⟨gv,gr,gt,q⟩:=D.out;have O:=q.blk;have gp:=D.le;clear x0 x1 x2 x3 f0 f1 f2 f3;obtain ⟨x0,x1,x2,x3,f0,f1,f2,f3⟩:=ac O;(have p0:(0:Int)≤(i:Int):=by omega);(have p1:(i:Int)≤(e:Int):=by omega);(have p2:(e:Int)≤(s.size:Int):=by omega);have hk:=tz (s.extract i e);have gm:=hid (fun w=>tj (s.extract i e) w);have ga:=fun (w':World) (hb:Below w4.heap.size w4 w')=>fp X s e l (aX (s.extract i e)+1) i (by omega) hl w' (D.below hb);have gn:=hid ga;clear ga;have gx:=fun W=>B1 (aX (s.extract i e)) hk W;generalize aX (s.extract i e)=kw at *;clear I gb J HN HW gl gj e9 gk qc x2 x3 f0 f1 f2 f3 O;(go_upto_region 13 with fail);go_region_held3 (fun w'=>w'.cell? ⟨X,0,none⟩=some (.string s)∧w'.cell? ⟨X,1,none⟩=some (.int .i64 (e:Int)))
   (first | exact ⟨z0,z1⟩ | go_keep)
   (first
    | (go_at_call 102;refine (gm.out _).mono ?_;rintro e3 w5 ⟨rfl,rfl⟩)
    | (go_at_call 101;refine (gn.out _ (Below.refl _ _).drew).mono ?_;rintro e3 w6 ⟨rfl,N,gh⟩;obtain ⟨gu,gq,gs,j⟩:=N.out;have gg:=j.blk;obtain ⟨z0,z1,-,-,-,-,-,-⟩:=ac gg))
  all_goals (go_wp2_with fail);go_end0;exact ⟨rfl,N,((U.mono (Nat.le_of_lt gd)).trans gi).drew.trans gh⟩
theorem tB (X:Nat) (s:ByteArray) (i:Nat) (l:List cK) (w:World) (h:eo w X s i l) (hi:i<s.size) (hm:i=0→Lib.hasPrefix s.data.toList [239,187,191]=false) (hn:ab s i≠10∧ab s i≠32∧ab s i≠9∧ab s i≠13) (hl:l.length+1≤65537) (hT:bR w) (J:∀ t∈l,t.text.size≤65536) (hr:eI s i l=none) (K:aA (ab s i:Int)=false) (hc:ao (ab s i:Int)=true) :
  Calls Tryz.prog 73 #[.pointer (some ⟨X,0,none⟩)] w (ne X s w (i+bP (s.data.toList.drop i)) (l++[⟨4,s.extract i (i+bP (s.data.toList.drop i)),i⟩]) (.tuple #[])):=by
 obtain ⟨lv,nv,ns,O⟩:=h.out;have hb:=O.blk;have gn:=h.most;have u:=hb.lt;obtain ⟨x0,x1,x2,x3,f0,f1,f2,f3⟩:=ac hb;have gb:=fun W=>dD s i hi W;have HW:=hid (fun w' (hb:Below w.heap.size w w')=>rG 103 Ga Gc X s i l w' (h.below hb));have HM:=hid (fun (I:i=0) w=>bS s ⟨#[239,187,191]⟩ w);have gh:=hid (fun (I:i=0) w=>show Calls Tryz.prog 95 #[.string s,.string ⟨#[239,187,191]⟩] w (fun e w'=>e=.returned (.bool false)∧w=w') by have:=HM.out I w;rw [show (⟨#[239,187,191]⟩:BA).data.toList=[239,187,191] from rfl,hm I] at this;exact this);clear hm HM;have U:=hid (fun w=>cV (ab s i:Int) w);have j:=hid (fun w=>eD (ab s i:Int) w);rw [K] at U;rw [hc] at j;clear hc K;have HN:=hid (lQ X s i l w h hT hl J);have gq:=eH s i;generalize ab s i=c at *;obtain ⟨m1,m2,m3,m4⟩:=hn;(have gt:((c:Int)==10)=false:=by rw [beq_eq_false_iff_ne];omega);(have gr:((c:Int)==32)=false:=by rw [beq_eq_false_iff_ne];omega);(have e9:((c:Int)==9)=false:=by rw [beq_eq_false_iff_ne];omega);(have gs:((c:Int)==13)=false:=by rw [beq_eq_false_iff_ne];omega);have qc:IntKind.i32.wrap (c:Int)=(c:Int):=IntWalk.i32_in _ (by omega);clear m1 m2 m3 m4;rw [hr] at HN;generalize hwl:i+bP (s.data.toList.drop i)=e at *;(have gp:i≤e:=by omega);clear hr O hb h hT J hwl;have ga:(e:Int)=(e:Int):=rfl;clear ga;cases I:((i:Int)==0);all_goals
  (go_enter Tryz.func73,Tryz.ntmps73);(go_wp2_with fail);try
   refine (gh.out (by have:=beq_iff_eq.1 I;omega) _).mono ?_
   rintro e w2 ⟨rfl,rfl⟩
   go_wp2_with fail
  refine HN.out.mono ?_;rintro e2 w2 ⟨rfl,M⟩;(go_wp2_with fail);refine (U.out _).mono ?_;rintro e2 w3 ⟨rfl,rfl⟩;(go_wp2_with fail);refine (j.out _).mono ?_;rintro e2 w3 ⟨rfl,rfl⟩;(go_wp2_with fail);refine (HW.out _ M).mono ?_;rintro e2 w4 ⟨rfl,D,gg⟩;obtain ⟨gm,gk,gl,N⟩:=D.out;have ge:=N.blk;have gj:=D.le;clear x0 x1 x2 x3 f0 f1 f2 f3;obtain ⟨x0,x1,x2,x3,f0,f1,f2,f3⟩:=ac ge;(have p0:(0:Int)≤(i:Int):=by omega);(have p1:(i:Int)≤(e:Int):=by omega);(have p2:(e:Int)≤(s.size:Int):=by omega);have gi:=hid (fp X s e l 4 i (by omega) hl w4 D);(go_wp2_with fail);refine gi.out.mono ?_;rintro e3 w6 ⟨rfl,q,gd⟩;(go_wp2_with fail);go_end0;exact ⟨rfl,q,((M.mono (Nat.le_of_lt u)).trans gg).trans gd⟩
theorem uV (X:Nat) (s:ByteArray) (i:Nat) (l:List cK) (w:World) (h:eo w X s i l) (hi:i<s.size) (hm:i=0→Lib.hasPrefix s.data.toList [239,187,191]=false) (hn:ab s i≠10∧ab s i≠32∧ab s i≠9∧ab s i≠13) (hl:l.length+1≤65537) (hT:bR w) (q:∀ t∈l,t.text.size≤65536) (hr:eI s i l=none) (gb:aA (ab s i:Int)=false) (ga:ao (ab s i:Int)=false) (en:Nat) (M:en=34∨en=96) (he:ab s i=en) :
  Calls Tryz.prog 73 #[.pointer (some ⟨X,0,none⟩)] w (d9 X s w (oB s i l) (.tuple #[])):=by
 obtain ⟨lv,nv,ns,gd⟩:=h.out;have hb:=gd.blk;have gj:=h.most;have u:=hb.lt;obtain ⟨x0,x1,x2,x3,f0,f1,f2,f3⟩:=ac hb;have gh:=fun W=>dD s i hi W;have J:=hid (fun w' (hb:Below w.heap.size w w')=>uS X s i l w' (h.below hb) hi hl en M he);have HM:=hid (fun (K:i=0) w=>bS s ⟨#[239,187,191]⟩ w);have ge:=hid (fun (K:i=0) w=>show Calls Tryz.prog 95 #[.string s,.string ⟨#[239,187,191]⟩] w (fun e w'=>e=.returned (.bool false)∧w=w') by have:=HM.out K w;rw [show (⟨#[239,187,191]⟩:BA).data.toList=[239,187,191] from rfl,hm K] at this;exact this);clear hm HM;have U:=hid (fun w=>cV (ab s i:Int) w);have j:=hid (fun w=>eD (ab s i:Int) w);rw [gb] at U;rw [ga] at j;clear gb ga;have HN:=hid (lQ X s i l w h hT hl q);have gk:=eH s i;generalize ab s i=c at *;obtain ⟨m1,m2,m3,m4⟩:=hn;(have gn:((c:Int)==10)=false:=by rw [beq_eq_false_iff_ne];omega);(have gl:((c:Int)==32)=false:=by rw [beq_eq_false_iff_ne];omega);(have e9:((c:Int)==9)=false:=by rw [beq_eq_false_iff_ne];omega);(have gm:((c:Int)==13)=false:=by rw [beq_eq_false_iff_ne];omega);have qc:IntKind.i32.wrap (c:Int)=(c:Int):=IntWalk.i32_in _ (by omega);clear m1 m2 m3 m4;rw [hr] at HN;subst he;have gi:=hid M;clear hr gd hb h hT q M;rcases gi.out with rfl | rfl;all_goals
  cases I:oB s i l with
  | go i2 l2=>
   rw [I] at J;clear I;cases K:((i:Int)==0);all_goals
    (go_enter Tryz.func73,Tryz.ntmps73);(go_wp2_with fail);try
     refine (ge.out (by have:=beq_iff_eq.1 K;omega) _).mono ?_
     rintro e w2 ⟨rfl,rfl⟩
     go_wp2_with fail
    refine HN.out.mono ?_;rintro O w2 ⟨rfl,D⟩;(go_wp2_with fail);refine (U.out _).mono ?_;rintro O w3 ⟨rfl,rfl⟩;(go_wp2_with fail);refine (j.out _).mono ?_;rintro O w3 ⟨rfl,rfl⟩;(go_wp2_with fail);refine (J.out _ D).mono ?_;rintro O w3 ⟨rfl,gg,N⟩;(go_wp2_with fail);go_end0;exact ⟨rfl,gg,(D.mono (Nat.le_of_lt u)).trans N⟩
  | bad p=>
   rw [I] at J;clear I;cases K:((i:Int)==0);all_goals
    (go_enter Tryz.func73,Tryz.ntmps73);(go_wp2_with fail);try
     refine (ge.out (by have:=beq_iff_eq.1 K;omega) _).mono ?_
     rintro e w2 ⟨rfl,rfl⟩
     go_wp2_with fail
    refine HN.out.mono ?_;rintro O w2 ⟨rfl,D⟩;(go_wp2_with fail);refine (U.out _).mono ?_;rintro O w3 ⟨rfl,rfl⟩;(go_wp2_with fail);refine (j.out _).mono ?_;rintro O w3 ⟨rfl,rfl⟩;(go_wp2_with fail);refine (J.out _ D).mono ?_;rintro O w3 ⟨rfl,N⟩;unfold dv;exact ⟨rfl,rfl,(D.mono (Nat.le_of_lt u)).trans N⟩
theorem Au (X:Nat) (s:ByteArray) (i:Nat) (l:List cK) (w:World) (h:eo w X s i l) (hi:i<s.size) (hm:i=0→Lib.hasPrefix s.data.toList [239,187,191]=false) (hn:ab s i≠10∧ab s i≠32∧ab s i≠9∧ab s i≠13) (hl:l.length+1≤65537) (hT:bR w) (j:∀ t∈l,t.text.size≤65536) (hr:eI s i l=none) (ga:aA (ab s i:Int)=false) (u:ao (ab s i:Int)=false) (hq:ab s i≠34∧ab s i≠96) :
  Calls Tryz.prog 73 #[.pointer (some ⟨X,0,none⟩)] w (d9 X s w (f8 s i l) (.tuple #[])):=by
 obtain ⟨lv,nv,ns,gb⟩:=h.out;have hb:=gb.blk;have gh:=h.most;have q:=hb.lt;obtain ⟨x0,x1,x2,x3,f0,f1,f2,f3⟩:=ac hb;have gg:=fun W=>dD s i hi W;have J:=hid (fun w' (hb:Below w.heap.size w w')=>BZ X s i l w' (h.below hb) (hT.below hb) hl hi);have HM:=hid (fun (K:i=0) w=>bS s ⟨#[239,187,191]⟩ w);have gd:=hid (fun (K:i=0) w=>show Calls Tryz.prog 95 #[.string s,.string ⟨#[239,187,191]⟩] w (fun e w'=>e=.returned (.bool false)∧w=w') by have:=HM.out K w;rw [show (⟨#[239,187,191]⟩:BA).data.toList=[239,187,191] from rfl,hm K] at this;exact this);clear hm HM;have O:=hid (fun w=>cV (ab s i:Int) w);have U:=hid (fun w=>eD (ab s i:Int) w);rw [ga] at O;rw [u] at U;clear ga u;have HN:=hid (lQ X s i l w h hT hl j);have gi:=eH s i;generalize ab s i=c at *;obtain ⟨m1,m2,m3,m4⟩:=hn;(have gn:((c:Int)==10)=false:=by rw [beq_eq_false_iff_ne];omega);(have gl:((c:Int)==32)=false:=by rw [beq_eq_false_iff_ne];omega);(have e9:((c:Int)==9)=false:=by rw [beq_eq_false_iff_ne];omega);(have gm:((c:Int)==13)=false:=by rw [beq_eq_false_iff_ne];omega);have qc:IntKind.i32.wrap (c:Int)=(c:Int):=IntWalk.i32_in _ (by omega);clear m1 m2 m3 m4;rw [hr] at HN;(have gk:((c:Int)==34)=false:=by rw [beq_eq_false_iff_ne];omega);(have gj:((c:Int)==96)=false:=by rw [beq_eq_false_iff_ne];omega);clear hr gb hb h hT j hq;cases I:f8 s i l with
 | go i2 l2=>
  rw [I] at J;clear I;cases K:((i:Int)==0);all_goals
   (go_enter Tryz.func73,Tryz.ntmps73);(go_wp2_with fail);try
    refine (gd.out (by have:=beq_iff_eq.1 K;omega) _).mono ?_
    rintro e w2 ⟨rfl,rfl⟩
    go_wp2_with fail
   refine HN.out.mono ?_;rintro N w2 ⟨rfl,D⟩;(go_wp2_with fail);refine (O.out _).mono ?_;rintro N w3 ⟨rfl,rfl⟩;(go_wp2_with fail);refine (U.out _).mono ?_;rintro N w3 ⟨rfl,rfl⟩;(go_wp2_with fail);refine (J.out _ D).mono ?_;rintro N w3 ⟨rfl,ge,M⟩;(go_wp2_with fail);go_end0;exact ⟨rfl,ge,(D.mono (Nat.le_of_lt q)).trans M⟩
 | bad p=>
  rw [I] at J;clear I;cases K:((i:Int)==0);all_goals
   (go_enter Tryz.func73,Tryz.ntmps73);(go_wp2_with fail);try
    refine (gd.out (by have:=beq_iff_eq.1 K;omega) _).mono ?_
    rintro e w2 ⟨rfl,rfl⟩
    go_wp2_with fail
   refine HN.out.mono ?_;rintro N w2 ⟨rfl,D⟩;(go_wp2_with fail);refine (O.out _).mono ?_;rintro N w3 ⟨rfl,rfl⟩;(go_wp2_with fail);refine (U.out _).mono ?_;rintro N w3 ⟨rfl,rfl⟩;(go_wp2_with fail);refine (J.out _ D).mono ?_;rintro N w3 ⟨rfl,M⟩;unfold dv;exact ⟨rfl,rfl,(D.mono (Nat.le_of_lt q)).trans M⟩
end
section
open Go.RowKit Go.Lib Go.Proofs
structure iD (w:World):Prop where
 tab:bR w
 u8:Lib.Utf8Tabs 0 1 w
theorem iD.below {w w':World} (h:iD w) (hb:Below w.heap.size w w'):iD w':=⟨h.tab.below hb,Go.Proofs.Utf8Tabs_below h.u8 hb⟩
theorem rm (g o c j:Nat) (s:ByteArray) (w:World) (I:iD w) (hb:Lib.Bytes w g o s) (J:j<s.size) :
  Calls Tryz.prog 94 #[.slice (some ⟨g,o+j,none⟩) (s.size-j) (c-j)] w fun e w'=>e=.returned (.tuple #[.int .i32 (Utf8.decode s j).1,.int .i64 (Utf8.decode s j).2])∧Below w.heap.size w w':=by (have D:(s.extract j s.size).size=s.size-j:=by rw [ByteArray.size_extract];omega);have h:=Any7.utf8_DecodeRune Tryz.laysDecode (s.extract j s.size) g (o+j) (c-j) w I.u8 (fun m hm=>by rw [D] at hm;rw [pm,dM,show o+j+m=o+(j+m) by omega,hb (j+m) (by omega)];(have:(s[j+m]'(by omega)).toNat=ab s (j+m):=by unfold ab;rw [List.getD_eq_getElem?_getD,List.getElem?_eq_getElem (by show j+m<s.data.toList.length;have:s.data.toList.length=s.size:=rfl;omega)];rfl);rw [this]);rw [D] at h;(have hd:Lib.decodeGo (s.extract j s.size)=Utf8.decode s j:=by unfold Lib.decodeGo;rw [if_neg (by rw [D];omega),tr,Nat.add_zero]);rw [hd] at h;exact h
def dN (s:ByteArray) (i:Nat) (l:List cK):Gg:=
 if i=0∧Lib.hasPrefix s.data.toList [239,187,191]=true then .go 3 l
 else if ab s i=10 then .go (i+1) (dc l i)
 else if ab s i=32∨ab s i=9∨ab s i=13 then .go (i+1) l
 else match eI s i l with
  | some r=>r
  | none=>
   if aA (ab s i:Int)=true then .go (i+bP (s.data.toList.drop i)) (l++[⟨aX (s.extract i (i+bP (s.data.toList.drop i)))+1,s.extract i (i+bP (s.data.toList.drop i)),i⟩])
   else if ao (ab s i:Int)=true then .go (i+bP (s.data.toList.drop i)) (l++[⟨4,s.extract i (i+bP (s.data.toList.drop i)),i⟩])
   else if ab s i=34∨ab s i=96 then oB s i l
   else f8 s i l
inductive FU where
 | ok (l:List cK)
 | bad (p:Nat)
def dw (s:ByteArray):Nat→Nat→List cK→FU
 | 0,_,_=>.bad 0
 | g+1,i,l=>
  if i<s.size then
   match dN s i l with
   | .go j l'=>dw s g j l'
   | .bad p=>.bad p
  else .ok (dc l (s.size:Int))
inductive nj where
 | toks (l:List cK)
 | err (p:Int) (e:Int)
def tC:FU→nj
 | .ok l=>.toks l
 | .bad p=>.err p 3
def di (s:ByteArray):nj:=
 if 65536<s.size then .err 65536 12
 else match io s with
  | some p=>.err p 2
  | none=>tC (dw s (s.size+1) 0 [])
def iu (i:Nat) (l:List cK):Prop:=l.length≤i∧∀ t∈l,t.text.size≤65536
theorem iu.push {i j:Nat} {l:List cK} {t:cK} (h:iu i l) (J:i+1≤j) (I:t.text.size≤65536):iu j (l++[t]):=by
 refine ⟨by rw [List.length_append];have:=h.1;simp;omega,fun u D=>?_⟩;rcases List.mem_append.1 D with D | D
 ·exact h.2 u D
 ·(obtain rfl:u=t:=by simpa using D);exact I
theorem iu.le {i j:Nat} {l:List cK} (h:iu i l) (D:i≤j):iu j l:=⟨Nat.le_trans h.1 D,h.2⟩
theorem iu.line {i j:Nat} {l:List cK} (h:iu i l) (D:i+1≤j) (p:Int):iu j (dc l p):=by
 unfold dc;split
 ·exact h.push D (by show (1:Nat)≤65536;omega)
 ·exact h.le (by omega)
theorem lq (s:ByteArray) (i j:Nat) (h:s.size≤65536):(s.extract i j).size≤65536:=by rw [ByteArray.size_extract];omega
theorem tD (s:ByteArray) (i:Nat):(s.data.toList.drop i).length=s.size-i:=by rw [List.length_drop];rfl
theorem oC (l:List UInt8) (c:UInt8) (r:List UInt8) (h:l=c::r) (D:aG (c.toNat:Int)=true):1≤bP l:=by subst h;unfold bP;rw [List.takeWhile_cons,if_pos (by simpa using D)];simp
theorem tE (s:ByteArray) (i:Nat) (D:i<s.size):∃ c r,s.data.toList.drop i=c::r∧c.toNat=ab s i:=by obtain ⟨c,r,J,I,_⟩:=nh s i D;exact ⟨c,r,J,I⟩
theorem tF (s:ByteArray) (i:Nat) (l:List cK) (hs:s.size≤65536) (hi:i<s.size) (h:iu i l) (j:Nat) (l':List cK) (D:dN s i l=.go j l'):i<j∧j≤s.size∧iu j l':=by
 unfold dN at D;split at D
 ·rename_i h0;injection D with e1 I;subst e1 I;have h3:3≤s.size:=by
   show 3≤s.data.toList.length;have M:=h0.2;cases U:s.data.toList with
   | nil=>rw [U] at M;simp [Lib.hasPrefix] at M
   | cons a r=>cases r with
     | nil=>rw [U] at M;simp [Lib.hasPrefix] at M
     | cons b r=>cases r with
       | nil=>rw [U] at M;simp [Lib.hasPrefix] at M
       | cons c r=>simp
  exact ⟨by omega,h3,h.le (by omega)⟩
 ·split at D
  ·injection D with e1 I;subst e1 I;exact ⟨by omega,by omega,h.line (Nat.le_refl _) _⟩
  ·split at D
   ·injection D with e1 I;subst e1 I;exact ⟨by omega,by omega,h.le (by omega)⟩
   ·have hd:=tD s i;cases J:eI s i l with
    | some r=>
     rw [J] at D;have D:r=.go j l':=D;subst D;unfold eI at J;split at J
     ·rename_i q;have hb:=po _ q;injection J with J;injection J with e1 I;subst e1 I;exact ⟨by omega,by omega,h.le (by omega)⟩
     ·split at J
      ·split at J
       ·injection J with J;cases J
       ·rename_i hx;have K:=Lib.index_room ((s.data.toList.drop i).drop 2) [42,47] (by omega);rw [List.length_drop,hd] at K;injection J with J;injection J with e1 I;subst e1 I;(have h2:i+((Lib.index ((s.data.toList.drop i).drop 2) [42,47]).toNat+4)≤s.size:=by have I:(([42,47]:List UInt8).length:Int)=2:=rfl;rw [I] at K;omega);refine ⟨by omega,h2,?_⟩;split
        ·exact h.line (by omega) _
        ·exact h.le (by omega)
      ·cases J
    | none=>
     rw [J] at D;obtain ⟨c,r,N,O⟩:=tE s i hi;have hw:=uT (s.data.toList.drop i);simp only at D;split at D
     ·rename_i u;have q:=oC _ c r N (by rw [O];unfold aG;rw [u];rfl);injection D with e1 I;subst e1 I;exact ⟨by omega,by omega,h.push (by omega) (lq _ _ _ hs)⟩
     ·split at D
      ·rename_i u;have q:=oC _ c r N (by rw [O];unfold aG;rw [u];simp);injection D with e1 I;subst e1 I;exact ⟨by omega,by omega,h.push (by omega) (lq _ _ _ hs)⟩
      ·split at D
       ·unfold oB at D;split at D
        ·rename_i k hk;have hb:=ni _ _ _ _ _ hk;rw [tD] at hb;injection D with e1 I;subst e1 I;exact ⟨by omega,by omega,h.push (by omega) (lq _ _ _ hs)⟩
        ·cases D
       ·unfold f8 at D;split at D
        ·cases D
        ·rename_i ga;have hb:cQ s i≤s.size-i:=by
          unfold cQ;split
          ·rename_i h;exact h.1
          ·split
           ·rename_i h;exact h.1
           ·split
            ·rename_i h;exact h.1
            ·omega
         injection D with e1 I;subst e1 I;exact ⟨by omega,by omega,h.push (by omega) (lq _ _ _ hs)⟩
theorem uW (X:Nat) (s:ByteArray) (i:Nat) (l:List cK) (w:World) (h:eo w X s i l) (O:bR w) (I:i<s.size) (hv:iu i l) :
  Calls Tryz.prog 73 #[.pointer (some ⟨X,0,none⟩)] w (d9 X s w (dN s i l) (.tuple #[])):=by
 (have N:l.length+1≤65537:=by have:=hv.1;have:=h.most;omega);have D:=hv.2;unfold dN;by_cases q:i=0∧Lib.hasPrefix s.data.toList [239,187,191]=true
 ·rw [if_pos q];exact As X s i l w h I q.1 q.2
 rw [if_neg q];have K:i=0→Lib.hasPrefix s.data.toList [239,187,191]=false:=fun hz=>by
  cases hp:Lib.hasPrefix s.data.toList [239,187,191] with
  | false=>rfl
  | true=>exact absurd ⟨hz,hp⟩ q
 by_cases h1:ab s i=10
 ·rw [if_pos h1];exact Ex X s i l w h I K h1 N O D
 rw [if_neg h1];by_cases h2:ab s i=32∨ab s i=9∨ab s i=13
 ·rw [if_pos h2];exact uU X s i l w h I K _ h2 rfl
 rw [if_neg h2];(have j:ab s i≠10∧ab s i≠32∧ab s i≠9∧ab s i≠13:=by omega);cases U:eI s i l with
 | some r=>exact At X s i l w h I K j N O D r U
 | none=>
  simp only;by_cases J:aA (ab s i:Int)=true
  ·rw [if_pos J];exact tA X s i l w h I K j N O D U J
  rw [if_neg J];have J:=Bool.eq_false_iff.2 J;by_cases M:ao (ab s i:Int)=true
  ·rw [if_pos M];exact tB X s i l w h I K j N O D U J M
  rw [if_neg M];have M:=Bool.eq_false_iff.2 M;by_cases u:ab s i=34∨ab s i=96
  ·rw [if_pos u];exact uV X s i l w h I K j N O D U J M _ u rfl
  rw [if_neg u];exact Au X s i l w h I K j N O D U J M (by omega)
end
section
open Go.RowKit Go.Lib Go.Proofs
attribute [local go_sem ↓] Go.wp_at_zero Go.wp_at_succ
theorem Is:Tryz.prog.underlying 27=some (.slice (Tryz.prog.elem 27)):=by kernel_rfl
theorem Ge:Tryz.prog.elem 27=5:=by kernel_rfl
theorem Iu (w:World):(sizeOf (Tryz.prog.elem 27)).run Tryz.prog w=.ok 1 w:=by rw [Ge];exact Tryz.sizeOf5 w
theorem rn (g o n c k:Nat) (I:k<n) (D:n≤c) (W:World):(Instr.slice 27 (.slice (some ⟨g,o,none⟩) n c) (some (.int .i64 (k:Int))) none none).run Tryz.prog W=.ok (.slice (some ⟨g,o+k,none⟩) (n-k) (c-k)) W:=by rw [run_slice_l (P:=Tryz.prog) W 27 _ n c Is .i64 (k:Int) (by omega) (by omega),Iu];simp only [Result.andThen,sliced,Int.toNat_natCast];rw [if_neg (by omega)];simp [nL]
def sq (r:Option Nat):Int:=match r with | some i=>(i:Int) | none => -1
theorem Ao (g o c:Nat) (s:ByteArray) (w:World) (hT:iD w) (hb:Lib.Bytes w g o s) (hg:g<w.heap.size) (hc:s.size≤c) (gr:s.size≤1000000000) :
  Calls Tryz.prog 71 #[.slice (some ⟨g,o,none⟩) s.size c] w fun e w'=>e=.returned (.int .i64 (sq (io s)))∧Below w.heap.size w w':=by
 have J:=hid (fun w' (hB:Below w.heap.size w w') j (hj:j<s.size)=>rm g o c j s w' (hT.below hB) (fun i hi=>(World.cell?_of_block (a:=⟨g,o+i,none⟩) (hB.block g hg)).trans (hb i hi)) hj);have gn:=run_convert_whole (P:=Tryz.prog) w 27 5 9 Tryz.underlying27 Tryz.underlying5 Tryz.underlying9 g o s hb c;have hcut:=fun k hk W=>rn g o s.size c k hk hc W;obtain ⟨R,hR⟩:∃ R,R=io s:=⟨_,rfl⟩;rw [←hR];have gp:=hid (show ew s s.size 0=R from hR.symm);clear hb hT hR;(go_enter Tryz.func71,Tryz.ntmps71);(go_wp2_with fail);clear gn;go_loopg [3,4,5,6,10,11] s.size (fun gg _ _ _ _ _ _ wr=>∃ j f:Nat,j≤s.size∧s.size-j≤gg∧wr.heap[w.heap.size]? = some (.stringIter s j)∧Below w.heap.size w wr∧ew s f j=R∧s.size-j≤f)
 case atStart=>exact ⟨0,s.size,Nat.zero_le _,by omega,World.iter_heap w _ 0,(Below.refl w.heap.size w).alloc (Nat.le_refl _) _,gp.out,by omega⟩
 case round=>
  obtain ⟨j,f,hj,gv,hit,O,gh,hf⟩:=hrel;have gd:=hid hit;have gb:=hid gh;clear hit gh;by_cases I:j<s.size
  ·obtain ⟨f1,rfl⟩:∃ f1,f=f1+1:=⟨f-1,by omega⟩;have HQ:=hid (fun (_:Nat)=>show (if (Utf8.decode s j).1=0∨((Utf8.decode s j).1=65533∧(Utf8.decode s j).2=1)∨((Utf8.decode s j).1=65279∧0<j) then some j else ew s f1 (j+(Utf8.decode s j).2))=R by have:=gb.out;rw [ew,if_pos I] at this;exact this);have N:=fun ty=>run_next_any_at (P:=Tryz.prog) wr w.heap.size s j ty gd.out I;have gj:1≤(Utf8.decode s j).2∧j+(Utf8.decode s j).2≤s.size:=by
    by_cases gi:ab s j<128
    ·rw [f7 s j gi];exact ⟨Nat.le_refl _,I⟩
    ·have:=fy s j I (by omega);exact ⟨this.2.1,this.2.2.1⟩
   have J:=hid (fun w' (hB:Below w.heap.size w w')=>J.out w' hB j I);generalize Utf8.decode s j=q at *;obtain ⟨r,k⟩:=q;simp only at gj N HQ J;obtain ⟨gt,gs⟩:=gj;have j1:=iterAt_heap wr w.heap.size s j (j+k) gd.out;have K:Below w.heap.size w (wr.iterAt w.heap.size s (j+k)):=b8 O (Nat.le_refl _);have j0:w.heap.size<(wr.iterAt w.heap.size s (j+k)).heap.size:=by
    rcases Nat.lt_or_ge w.heap.size (wr.iterAt w.heap.size s (j+k)).heap.size with h | h
    ·exact h
    ·rw [Array.getElem?_eq_none h] at j1;cases j1
   generalize wr.iterAt w.heap.size s (j+k)=W1 at N j1 K j0;have gw:=hcut j I;have J1:=hid j1;have hq:=trivial;clear j1 O gb;by_cases ge:r=0
   ·have U:=hid (show (r=0∨(r=65533∧k=1)∨(r=65279∧0<j)) by omega);subst ge;have M:=hid (show R=some j by rw [←HQ.out f1,if_pos U.out]);clear hq;(go_wp2_with fail);refine (J.out _ K).mono ?_;rintro e w3 ⟨rfl,D⟩;(go_wp2_with fail);go_ret;exact ⟨by rw [M.out];rfl,am K D⟩
   ·by_cases ga:r=65533
    ·by_cases gm:k=1
     ·have U:=hid (show (r=0∨(r=65533∧k=1)∨(r=65279∧0<j)) by omega);subst ga gm;have M:=hid (show R=some j by rw [←HQ.out f1,if_pos U.out]);clear hq;(go_wp2_with fail);refine (J.out _ K).mono ?_;rintro e w3 ⟨rfl,D⟩;(go_wp2_with fail);go_ret;exact ⟨by rw [M.out];rfl,am K D⟩
     ·have U:=hid (show ¬ (r=0∨(r=65533∧k=1)∨(r=65279∧0<j)) by omega);(have ek:((k:Int)==1)=false:=by rw [beq_eq_false_iff_ne];omega);subst ga;have M:=hid (show ew s f1 (j+k)=R by rw [←HQ.out f1,if_neg U.out]);clear hq;(go_wp2_with fail);refine (J.out _ K).mono ?_;rintro e w3 ⟨rfl,D⟩;have J3:=hid ((D.block w.heap.size j0).trans J1.out);(go_wp2_with fail);go_roundg (s.size-(j+k))
      case measure=>omega
      case rel=>exact ⟨j+k,f1,by omega,Nat.le_refl _,J3.out,am K D,M.out,by omega⟩
    ·by_cases u:r=65279
     ·by_cases gu:0<j
      ·have U:=hid (show (r=0∨(r=65533∧k=1)∨(r=65279∧0<j)) by omega);(have ej:decide ((0:Int)<(j:Int))=true:=by rw [decide_eq_true_iff];omega);subst u;have M:=hid (show R=some j by rw [←HQ.out f1,if_pos U.out]);clear hq;(go_wp2_with fail);refine (J.out _ K).mono ?_;rintro e w3 ⟨rfl,D⟩;(go_wp2_with fail);go_ret;exact ⟨by rw [M.out];rfl,am K D⟩
      ·have U:=hid (show ¬ (r=0∨(r=65533∧k=1)∨(r=65279∧0<j)) by omega);(have ej:decide ((0:Int)<(j:Int))=false:=by rw [decide_eq_false_iff_not];omega);subst u;have M:=hid (show ew s f1 (j+k)=R by rw [←HQ.out f1,if_neg U.out]);clear hq;(go_wp2_with fail);refine (J.out _ K).mono ?_;rintro e w3 ⟨rfl,D⟩;have J3:=hid ((D.block w.heap.size j0).trans J1.out);(go_wp2_with fail);go_roundg (s.size-(j+k))
       case measure=>omega
       case rel=>exact ⟨j+k,f1,by omega,Nat.le_refl _,J3.out,am K D,M.out,by omega⟩
     ·have U:=hid (show ¬ (r=0∨(r=65533∧k=1)∨(r=65279∧0<j)) by omega);(have e0:((r:Int)==0)=false:=by rw [beq_eq_false_iff_ne];omega);(have yk:((r:Int)==65533)=false:=by rw [beq_eq_false_iff_ne];omega);(have gl:((r:Int)==65279)=false:=by rw [beq_eq_false_iff_ne];omega);clear ge ga u;have M:=hid (show ew s f1 (j+k)=R by rw [←HQ.out f1,if_neg U.out]);clear hq;(go_wp2_with fail);refine (J.out _ K).mono ?_;rintro e w3 ⟨rfl,D⟩;have J3:=hid ((D.block w.heap.size j0).trans J1.out);(go_wp2_with fail);go_roundg (s.size-(j+k))
      case measure=>omega
      case rel=>exact ⟨j+k,f1,by omega,Nat.le_refl _,J3.out,am K D,M.out,by omega⟩
  ·have gq:=fun ty=>run_next_end_at (P:=Tryz.prog) wr w.heap.size s j ty gd.out I;have M:=hid (show R=none by
    rw [←gb.out];cases f with
    | zero=>rfl
    | succ f=>rw [ew,if_neg I])
   (go_wp2_with fail);go_ret;exact ⟨by rw [M.out];rfl,O⟩
theorem Ap (w:World) :
  Calls Tryz.prog 71 #[.slice none 0 0] w fun e w'=>e=.returned (.int .i64 (-1))∧Below w.heap.size w w':=by have I:=run_convert_nil_bytes (P:=Tryz.prog) w 27 9 5 0 Tryz.underlying27 Tryz.underlying5 Tryz.underlying9;have hit:=World.iter_heap w ⟨#[]⟩ 0;have D:=fun ty=>run_next_end_at (P:=Tryz.prog) (w.iter ⟨#[]⟩ 0) w.heap.size ⟨#[]⟩ 0 ty hit (by decide);have J:=hid (show Below w.heap.size w (w.iter ⟨#[]⟩ 0) from (Below.refl w.heap.size w).alloc (Nat.le_refl _) _);clear hit;(go_enter Tryz.func71,Tryz.ntmps71);(go_wp2_with fail);refine wp_loop_rounds 1 ?_;rw [rounds_succ];(go_wp2_with fail);go_ret;exact ⟨rfl,J.out⟩
theorem tu {w w':World} {g o:Nat} {s:ByteArray} (h:Lib.Bytes w g o s) (D:g<w.heap.size) (hb:Below w.heap.size w w'):Lib.Bytes w' g o s:=
 fun i hi=>(World.cell?_of_block (a:=⟨g,o+i,none⟩) (hb.block g D)).trans (h i hi)
def du (w:World) (A:Option Addr) (c:Nat) (s:ByteArray):Prop:=
 (A=none∧c=0∧s=⟨#[]⟩)∨∃ g o,A=some ⟨g,o,none⟩∧s.size≤c∧g<w.heap.size∧Lib.Bytes w g o s
theorem du.below {w w':World} {A:Option Addr} {c:Nat} {s:ByteArray} (h:du w A c s) (hb:Below w.heap.size w w'):du w' A c s:=by
 rcases h with h | ⟨g,o,K,J,D,I⟩
 ·exact .inl h
 ·exact .inr ⟨g,o,K,J,Nat.lt_of_lt_of_le D hb.size,tu I D hb⟩
theorem du.wrong {w:World} {A:Option Addr} {c:Nat} {s:ByteArray} (h:du w A c s) (I:iD w) (D:s.size≤1000000000) :
  Calls Tryz.prog 71 #[.slice A s.size c] w fun e w'=>e=.returned (.int .i64 (sq (io s)))∧Below w.heap.size w w':=by
 rcases h with ⟨rfl,rfl,rfl⟩ | ⟨g,o,rfl,M,K,J⟩
 ·exact Ap w
 ·exact Ao g o c s w I J K M D
theorem du.conv {w:World} {A:Option Addr} {c:Nat} {s:ByteArray} (h:du w A c s) :
  (convert 27 9 (.slice A s.size c)).run Tryz.prog w=.ok (.string s) w:=by
 rcases h with ⟨rfl,rfl,rfl⟩ | ⟨g,o,rfl,J,I,D⟩
 ·exact run_convert_nil_bytes (P:=Tryz.prog) w 27 9 5 0 Tryz.underlying27 Tryz.underlying5 Tryz.underlying9
 ·exact run_convert_whole (P:=Tryz.prog) w 27 5 9 Tryz.underlying27 Tryz.underlying5 Tryz.underlying9 g o s D c
theorem Ey (v:Value) (w:World):(Instr.typeAssert (.iface 83 v) 20 83 true).run Tryz.prog w=.ok (.tuple #[v,.bool true]) w:=by kernel_rfl
attribute [local go_sem] Ey
theorem uX (B P Q R:Nat) (p:Nat) (vP vQ vR:Value) (w:World) (u:ar w P 63 #[vP]) (hQ:ar w Q 3 #[vQ]) (hR:ar w R 29 #[vR]) (gd:B≤P) (gb:B≤Q) (ga:B≤R) (O:P≠Q) (N:P≠R) (M:Q≠R) :
  CallsD Tryz.prog 72 #[.pointer (some ⟨P,0,none⟩),.pointer (some ⟨Q,0,none⟩),.pointer (some ⟨R,0,none⟩)] (.panicking [{ v:=.iface 83 (.agg #[.int .i64 (p:Int)]),recovered:=false }]) w
   fun e u' w'=>e=.returned (.tuple #[])∧u'=.panicking [{ v:=.iface 83 (.agg #[.int .i64 (p:Int)]),recovered:=true }] ∧
    ar w' P 63 #[.pointer none]∧ar w' Q 3 #[.int .i64 (p:Int)]∧ar w' R 29 #[.int .i64 3]∧Below B w w':=by refine callsD_of_wpS Tryz.func72 rfl fun c₀ cs hu=>?_;apply wpS_seq;apply wpS_region;simp [wpOpsS,go_sem,recoverD,hu,Tryz.ntmps72,Exit.thenS];apply wpS_seq;apply wpS_region;simp [wpOpsS,go_sem,Exit.thenS];refine wpS_cond (t:=true) (by simp [Act.eval,Array.replicate]) ?_;simp only [if_true];refine wpS_of_wp ?_;change Code.wp _ _ _ { tmps:=#[.pointer (some ⟨P,0,none⟩),.pointer (some ⟨Q,0,none⟩),.pointer (some ⟨R,0,none⟩),.iface 83 (.agg #[.int .i64 (p:Int)]),undef,undef,.iface 83 (.agg #[.int .i64 (p:Int)]),.iface 83 (.agg #[.int .i64 (p:Int)]),.bool true,undef,undef,undef,undef,undef,undef,undef,undef,undef,undef],defers:=[] } _;have J:=u.alloc (.cells #[.int .i64 (p:Int)] 83);have I:=hQ.alloc (.cells #[.int .i64 (p:Int)] 83);have D:=hR.alloc (.cells #[.int .i64 (p:Int)] 83);have U:=ar.new w 83 #[.int .i64 (p:Int)];have ge:Below B w (w.alloc (.cells #[.int .i64 (p:Int)] 83)):=(Below.refl _ _).alloc (by have:=u.lt;omega) _;have gi:=u.lt;have gh:=hQ.lt;have gg:=hR.lt;(go_upto_region 5 with fail);generalize w.alloc (.cells #[.int .i64 (p:Int)] 83)=K at *;(have gl:P≠w.heap.size:=by omega);(have gk:Q≠w.heap.size:=by omega);(have gj:R≠w.heap.size:=by omega);generalize w.heap.size=T at *;have x0:=bc J;have x1:=bc I;have x2:=bc D;have x3:=bc U;have f0:=J.frozen 0;have f1:=I.frozen 0;have f2:=D.frozen 0;go_region;all_goals have q:ar ((((K.setCell ⟨P,0,none⟩ (.pointer none)).setCell ⟨Q,0,none⟩ (.int .i64 (p:Int))).setCell ⟨R,0,none⟩ (.int .i64 3))).drew P 63 #[.pointer none]:=(((show ar (K.setCell ⟨P,0,none⟩ (.pointer none)) P 63 #[.pointer none] by simpa using J.set_ 0 (.pointer none)).far (p:=⟨Q,0,none⟩) O (.int .i64 (p:Int))).far (p:=⟨R,0,none⟩) N (.int .i64 3)).drew;have j:ar ((((K.setCell ⟨P,0,none⟩ (.pointer none)).setCell ⟨Q,0,none⟩ (.int .i64 (p:Int))).setCell ⟨R,0,none⟩ (.int .i64 3))).drew Q 3 #[.int .i64 (p:Int)]:=((show ar ((K.setCell ⟨P,0,none⟩ (.pointer none)).setCell ⟨Q,0,none⟩ (.int .i64 (p:Int))) Q 3 #[.int .i64 (p:Int)] by simpa using (I.far (p:=⟨P,0,none⟩) O.symm (.pointer none)).set_ 0 (.int .i64 (p:Int))).far (p:=⟨R,0,none⟩) M (.int .i64 3)).drew;have h:ar ((((K.setCell ⟨P,0,none⟩ (.pointer none)).setCell ⟨Q,0,none⟩ (.int .i64 (p:Int))).setCell ⟨R,0,none⟩ (.int .i64 3))).drew R 29 #[.int .i64 3]:=(show ar (((K.setCell ⟨P,0,none⟩ (.pointer none)).setCell ⟨Q,0,none⟩ (.int .i64 (p:Int))).setCell ⟨R,0,none⟩ (.int .i64 3)) R 29 #[.int .i64 3] by simpa using ((D.far (p:=⟨P,0,none⟩) N.symm (.pointer none)).far (p:=⟨Q,0,none⟩) M.symm (.int .i64 (p:Int))).set_ 0 (.int .i64 3)).drew;refine ⟨rfl,_,rfl,.tuple #[],?_,rfl,rfl,q,j,h,(((ge.setCell (p:=⟨P,0,none⟩) gd (.pointer none)).setCell (p:=⟨Q,0,none⟩) gb (.int .i64 (p:Int))).setCell (p:=⟨R,0,none⟩) ga (.int .i64 3)).drew⟩;simp [results,Tryz.results72,go_sem]
end
end Go.Proofs.YtiebcdeafofgdaaGreatDoor
