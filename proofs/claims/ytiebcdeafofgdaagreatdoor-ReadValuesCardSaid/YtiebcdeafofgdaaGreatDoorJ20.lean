/-
  Parts of the proof: Swhile Ssign. By an AI agent.
-/
import Derived.Test.YtiebcdeafofgdaaGreatDoorJ17
import Derived.Test.YtiebcdeafofgdaaGreatDoorJ14
import Derived.Test.YtiebcdeafofgdaaGreatDoorJ19
set_option maxRecDepth 100000
set_option maxHeartbeats 8000000
namespace Go.Proofs.YtiebcdeafofgdaaGreatDoor
section
open Go.RowKit Go.Lib Go.Proofs
attribute [local go_sem ↓] Go.wp_at_zero Go.wp_at_succ
def bA (c:Int):Bool:=a7 c||aK c
def a8 (l:List UInt8):Nat:=(l.takeWhile fun c=>bA (c.toNat:Int)).length
theorem mX {α:Type} [Inhabited α] (p:α→Bool):∀ (l:List α) (j:Nat),j≤l.length→(∀ k,k<j→p (l.getD k default)=true)→(j<l.length→p (l.getD j default)=false)→(l.takeWhile p).length=j
 | [],j,h,_,_=>by simp at h;simp [h]
 | x::l,0,_,_,h=>by have:=h (by simp);rw [List.takeWhile_cons,if_neg (by simpa using this)];rfl
 | x::l,j+1,I,D,J=>by have M:=D 0 (by omega);rw [List.takeWhile_cons,if_pos (by simpa using M),List.length_cons,mX p l j (by simpa using I) (fun k hk=>by simpa using D (k+1) (by omega)) (fun h=>by simpa using J (by simpa using h))]
theorem d9 (s:ByteArray) (i:Nat):(s.extract i s.size).data.toList=s.data.toList.drop i:=by rw [ByteArray.data_extract,Array.toList_extract];rw [List.extract_eq_take_drop];exact List.take_of_length_le (by rw [List.length_drop];exact Nat.le_of_eq rfl)
theorem eb (s:ByteArray) (i:Nat):(s.extract i s.size).size=s.size-i:=by have:=congrArg List.length (d9 s i);rw [List.length_drop] at this;exact this
theorem Ld (a:Array Value) (w:World):(callFunc 99 a).run Tryz.prog w=.ok (.enter 99 a) w:=by kernel_rfl
theorem Le (a:Array Value) (w:World):(callFunc 103 a).run Tryz.prog w=.ok (.enter 103 a) w:=by kernel_rfl
theorem Lf (c:Int) (w:World):Calls Tryz.prog 99 #[.int .i32 c] w fun e w'=>e=.returned (.bool (bA c))∧w=w':=by
 unfold bA;cases D:a7 c <;> cases hF:aK c;all_goals
  (go_enter Tryz.func99,Tryz.ntmps99);(go_wp2_with fail);refine (dR _ _).mono ?_;rw [D];rintro e w1 ⟨rfl,rfl⟩;(go_wp2_with fail);try
   refine (ft _ _).mono ?_
   rw [hF]
   rintro e w1 ⟨rfl,rfl⟩
   go_wp2_with fail
  go_ret;exact ⟨rfl,rfl⟩
theorem Lg (c:Int) (w:World):Calls Tryz.prog 103 #[.int .i32 c] w fun e w'=>e=.returned (.bool (bA c))∧w=w':=by
 unfold bA;cases D:a7 c <;> cases hF:aK c;all_goals
  (go_enter Tryz.func103,Tryz.ntmps103);(go_wp2_with fail);refine (dR _ _).mono ?_;rw [D];rintro e w1 ⟨rfl,rfl⟩;(go_wp2_with fail);try
   refine (ft _ _).mono ?_
   rw [hF]
   rintro e w1 ⟨rfl,rfl⟩
   go_wp2_with fail
  go_ret;exact ⟨rfl,rfl⟩
theorem oR {c:Int} (h:128≤c):bA c=false:=by unfold bA;rw [iU h,eh h];rfl
theorem uD (f:FuncId) (hf:∀ a w,(callFunc f a).run Tryz.prog w=.ok (.enter f a) w) (hC:∀ (c:Int) (w:World),Calls Tryz.prog f #[.int .i32 c] w fun e w'=>e=.returned (.bool (bA c))∧w=w')
  (X:Nat) (s:ByteArray) (i:Nat) (l:List bE) (w:World) (h:fd w X s i l) :
  Calls Tryz.prog 98 #[.pointer (some ⟨X,0,none⟩),.func (.func f) #[] #[]] w (py X s w (i+a8 (s.data.toList.drop i)) l (.tuple #[])):=by
 obtain ⟨lv,nv,ns,gq⟩:=h.out;have hb:=gq.blk;have ge:=hb.lt;have gm:=h.le;have gu:=h.most;have HH:=hid h;obtain ⟨x0,x1,x2,x3,f0,f1,f2,f3⟩:=ac hb;(have p0:(0:Int)≤(i:Int):=by omega);(have p2:(i:Int)≤(s.size:Int):=by omega);(go_enter Tryz.func98,Tryz.ntmps98);(go_upto_region 0 with fail);go_cut [15] (fun gi wx=>∃ b,gi=.pointer (some ⟨b,0,none⟩)∧wx.heap[b]? = some (.stringIter (s.extract i s.size) 0)∧w.heap.size≤b∧Below w.heap.size w wx)
 case first=>go_region_law (fail);(all_goals go_wp2_with fail);all_goals go_meet;exact ⟨_,rfl,World.iter_heap w.drew _ 0,Nat.le_refl _,((Below.refl w.heap.size w).drew.alloc (Nat.le_refl _) _)⟩
 case rest=>
  obtain ⟨b,rfl,hit,gp,z⟩:=hcut;have HT:=hid (d9 s i);have gr:=hid (eb s i);generalize s.extract i s.size=t at *;have gt:t.size=s.size-i:=gr.out;clear x0 x1 x2 x3 f0 f1 f2 f3;(go_wp2_with fail);go_loopg [4,5,16,17] t.size (fun g _ _ _ _ wr=>∃ j:Nat,j≤t.size∧t.size-j≤g∧wr.heap[b]? = some (.stringIter t j)∧Below w.heap.size w wr∧(∀ k,k<j→bA ((t.data.toList.getD k 0).toNat:Int)=true))
  case atStart=>exact ⟨0,Nat.zero_le _,by omega,hit,z,fun k hk=>by omega⟩
  case round=>
   clear hit z;obtain ⟨j,hj,hg,hit,hB,y⟩:=hrel;have gd:=hid hit;have HA:=hid y;clear hit y;by_cases I:j<t.size
   ·have hw:=o9 t j I;have ga:=mW t j I;have J:=fun ty=>run_next_any_at (P:=Tryz.prog) wr b t j ty gd.out I;generalize hbb:(t.data.toList.getD j 0).toNat=bb at *;generalize hd:Utf8.decode t j=q at *;obtain ⟨r,k⟩:=q;simp only at hw J ga;have U:bA (r:Int)=bA (bb:Int)∧(bA (r:Int)=true→k=1):=by
     rcases ga with ⟨e,_⟩ | ⟨h1,h2⟩
     ·injection e with e1 e2;subst e1 e2;exact ⟨rfl,fun _=>rfl⟩
     ·rw [oR (by omega),oR (by omega)];exact ⟨rfl,by simp⟩
    have gh:=hid hbb;have D:=hid U;have j1:=iterAt_heap wr b t j (j+k) gd.out;have j2:Below w.heap.size w (wr.iterAt b t (j+k)):=bR hB gp;generalize wr.iterAt b t (j+k)=W1 at J j1 j2;have J1:=hid j1;have N:=HH.out.below j2;obtain ⟨gl,gj,gk,M⟩:=N.out;have gb:=M.blk;obtain ⟨x0,x1,x2,x3,f0,f1,f2,f3⟩:=ac gb;clear U ga j1 hd hbb;cases hW:bA (r:Int) with
    | true=>
     have hk:=D.out.2 hW;have gg:=hid (show ∀ k',k'<j+k→bA ((t.data.toList.getD k' 0).toNat:Int)=true by
      intro k' hk';by_cases e:k'=j
      ·subst e;rw [gh.out,←D.out.1,hW]
      ·exact HA.out k' (by omega))
     clear x0 x1 x2 x3 f0 f1 f2 f3 D HA;(go_wp2_with fail);refine (hC _ _).mono ?_;rw [hW];rintro e w1 ⟨rfl,rfl⟩;(go_wp2_with fail);go_roundg (t.size-(j+k))
     case measure=>omega
     case rel=>exact ⟨j+k,hw.2,Nat.le_refl _,J1.out,j2,gg.out⟩
    | false=>have HL:=hid (show i+a8 (s.data.toList.drop i)=i+j by rw [←HT.out];congr 1;refine mX _ _ j (by simpa using hj) (fun k' hk'=>HA.out k' hk') (fun _=>?_);have:=D.out.1;rw [hW,←gh.out] at this;exact this.symm);clear D HA;(go_wp2_with fail);refine (hC _ _).mono ?_;rw [hW];rintro e w1 ⟨rfl,rfl⟩;have q1:IntKind.i64.wrap ((i:Int)+(j:Int))=(i:Int)+(j:Int):=IntWalk.i64_in _ (by omega);(go_wp2_with fail);refine bodyPost_ret (results_none rfl _ _ _) rfl ?_;rw [HL.out];have O:=N.set (i+j) (by omega) (by omega);rw [show ((i+j:Nat):Int)=(i:Int)+(j:Int) by omega] at O;exact ⟨rfl,O,(j2.mono (Nat.le_of_lt ge)).setCell (Nat.le_refl _) _⟩
   ·(have gn:j=t.size:=by omega);have HL:=hid (show i+a8 (s.data.toList.drop i)=s.size by rw [←HT.out,show a8 t.data.toList=j from mX _ _ j (by simpa using hj) (fun k' hk'=>HA.out k' hk') (fun h=>absurd h (by rw [gn];simp))];omega);have gs:=fun ty=>run_next_end_at (P:=Tryz.prog) wr b t j ty gd.out I;have N:=HH.out.below hB;obtain ⟨gl,gj,gk,M⟩:=N.out;have gb:=M.blk;obtain ⟨x0,x1,x2,x3,f0,f1,f2,f3⟩:=ac gb;(go_wp2_with fail);go_end0;rw [HL.out];exact ⟨rfl,N.set s.size gm (Nat.le_refl _),(hB.mono (Nat.le_of_lt ge)).setCell (Nat.le_refl _) _⟩
theorem cE (s p:ByteArray) (w:World):Calls Tryz.prog 95 #[.string s,.string p] w fun e w'=>e=.returned (.bool (Lib.hasPrefix s.data.toList p.data.toList))∧w=w':=
 (Any.strings_HasPrefix Tryz.laysPrefix s p w).mono fun _ _ h=>⟨h.1,h.2.symm⟩
theorem oS (s:ByteArray) (c:Int) (w:World):Calls Tryz.prog 115 #[.string s,.int .u8 c] w fun e w'=>e=.returned (.int .i64 (Lib.indexByte s.data.toList (UInt8.ofNat c.toNat)))∧w=w':=
 (Any.strings_IndexByte Tryz.laysIndexByte s c w).mono fun _ _ h=>⟨h.1,h.2.symm⟩
theorem DD (s sub:ByteArray) (w:World) (hT:cD w) (hs:s.size≤2000000000) :
  Calls Tryz.prog 108 #[.string s,.string sub] w fun e w'=>e=.returned (.int .i64 (Lib.index s.data.toList sub.data.toList))∧w=w':=by obtain ⟨m,D⟩:=hT;exact (Any.strings_Index Tryz.laysIndex s sub m w (by omega) D).mono fun _ _ h=>⟨h.1,h.2.symm⟩
def ec (p:Nat):Ending:=.panicked [{ v:=.iface 83 (.agg #[.int .i64 (p:Int)]),recovered:=false }]
theorem ir (X:Nat) (p:Int) (w:World):Calls Tryz.prog 142 #[.pointer (some ⟨X,0,none⟩),.bool true,.int .i64 p] w fun e w'=>e=.returned (.tuple #[])∧w=w':=by (go_enter Tryz.func142,Tryz.ntmps142);(go_wp2_with fail);go_end0;exact ⟨rfl,rfl⟩
theorem eS (X:Nat) (p:Nat) (w:World):Calls Tryz.prog 142 #[.pointer (some ⟨X,0,none⟩),.bool false,.int .i64 (p:Int)] w fun e w'=>e=ec p∧w=w':=by (go_enter Tryz.func142,Tryz.ntmps142);(go_wp2_with fail);exact ⟨rfl,rfl,rfl⟩
inductive GQ where
 | go (i:Nat) (l:List bE)
 | bad (p:Nat)
def fa (X:Nat) (s:ByteArray) (w:World) (r:GQ) (v:Value) (e:Ending) (w':World):Prop:=
 match r with
 | .go i l=>py X s w i l v e w'
 | .bad p=>e=ec p∧Below X w w'
def nM:ByteArray:=(⟨#[60,60,61,32,62,62,61,32,38,94,61,32,46,46,46]⟩:BA)
def nN:ByteArray:=(⟨#[38,38,32,124,124,32,61,61,32,33,61,32,60,61,32,62,61,32,58,61,32,43,43,32,45,45,32,43,61,32,45,61,32,42,61,32,47,61,32,37,61,32,38,61,32,124,61,32,94,61,32,60,60,32,62,62,32,38,94,32,60,45]⟩:BA)
def sm:ByteArray:=(⟨#[43,32,45,32,42,32,47,32,37,32,38,32,124,32,94,32,60,32,62,32,61,32,33,32,40,32,41,32,91,32,93,32,123,32,125,32,44,32,59,32,46,32,58,32,126]⟩:BA)
theorem y8 {fn:Func} {q:Tmp} {ty:TypeId} (I:fn.results = #[.cell q 125]) (tmps:Array Value) {w:World} {g:Nat} {a b c:Value} (J:tmps.getD q undef=.pointer (some ⟨g,0,none⟩)) (hb:aj w g ty #[a,b,c]) :
  (results fn tmps).run Tryz.prog w=.ok (.agg #[a,b,c]) w:=by obtain ⟨O,N,M⟩:=LU hb;unfold results;rw [I];(have D:tmps[q]?.getD undef=.pointer (some ⟨g,0,none⟩):=by simpa using J);simp [D,go_sem,O,N,M]
theorem DE (w:World):Calls Tryz.prog 143 #[] w fun e w'=>e=.returned (.agg #[.string nM,.string nN,.string sm])∧Below w.heap.size w w':=by (go_enter Tryz.func143,Tryz.ntmps143);(go_wp2_with fail);refine bodyPost_ret (y8 (ty:=125) rfl _ (g:=w.heap.size) (by rfl) (a:=.string nM) (b:=.string nN) (c:=.string sm) (aj.new w _ _)) rfl ?_;exact ⟨rfl,(Below.refl _ _).alloc (Nat.le_refl _) _⟩
theorem wR (a b c:ByteArray) (i:Nat) (D:i<3) (w:World):(Instr.index 125 (.agg #[.string a,.string b,.string c]) (.int .i64 (i:Int))).run Tryz.prog w=.ok (.string (if i=0 then a else if i=1 then b else c)) w:=by
 rcases i with _ | _ | _ | i
 ·simp [Instr.index,run_underlying Tryz.underlying125,asIntOf,go_sem]
 ·simp [Instr.index,run_underlying Tryz.underlying125,asIntOf,go_sem]
 ·simp [Instr.index,run_underlying Tryz.underlying125,asIntOf,go_sem]
 ·omega
def l6 (row:ByteArray) (t:ByteArray) (n:Nat):Bool:=Lib.contains ((⟨#[32]⟩++row++⟨#[32]⟩:ByteArray)).data.toList ((⟨#[32]⟩++t.extract 0 n++⟨#[32]⟩:ByteArray)).data.toList
def bV (s:ByteArray) (i:Nat):Nat:=
 if 3≤s.size-i∧l6 nM (s.extract i s.size) 3=true then 3
 else if 2≤s.size-i∧l6 nN (s.extract i s.size) 2=true then 2
 else if 1≤s.size-i∧l6 sm (s.extract i s.size) 1=true then 1
 else 0
def ik (s:ByteArray) (i:Nat) (l:List bE):GQ:=
 if bV s i=0 then .bad i else .go (i+bV s i) (l++[⟨6,s.extract i (i+bV s i),i⟩])
theorem EW (X:Nat) (s:ByteArray) (i:Nat) (l:List bE) (w:World) (h:fd w X s i l) (hT:cD w) (hl:l.length+1≤65537) (hi:i<s.size) :
  Calls Tryz.prog 105 #[.pointer (some ⟨X,0,none⟩)] w (fa X s w (ik s i l) (.tuple #[])):=by
 obtain ⟨lv,nv,ns,gj⟩:=h.out;have hb:=gj.blk;have gx:=h.le;have gw:=h.most;have y:=hb.lt;have HH:=hid h;obtain ⟨x0,x1,x2,x3,-,-,-,-⟩:=ac hb;(have p0:(0:Int)≤(i:Int):=by omega);(have p2:(i:Int)≤(s.size:Int):=by omega);have gd:=eb s i;have M:=hid (show bV s i=if 3≤(s.extract i s.size).size∧l6 nM (s.extract i s.size) 3=true then 3 else if 2≤(s.extract i s.size).size∧l6 nN (s.extract i s.size) 2=true then 2 else if 1≤(s.extract i s.size).size∧l6 sm (s.extract i s.size) 1=true then 1 else 0 by rw [gd];rfl);have H3:=hid (fun w' (hb:Below w.heap.size w w')=>dO (⟨#[32]⟩++nM++⟨#[32]⟩) (⟨#[32]⟩++(s.extract i s.size).extract 0 3++⟨#[32]⟩) w' (hT.below hb) (Nat.le_trans (show _≤100 by decide +kernel) (by omega)));have H2:=hid (fun w' (hb:Below w.heap.size w w')=>dO (⟨#[32]⟩++nN++⟨#[32]⟩) (⟨#[32]⟩++(s.extract i s.size).extract 0 2++⟨#[32]⟩) w' (hT.below hb) (Nat.le_trans (show _≤100 by decide +kernel) (by omega)));have H1:=hid (fun w' (hb:Below w.heap.size w w')=>dO (⟨#[32]⟩++sm++⟨#[32]⟩) (⟨#[32]⟩++(s.extract i s.size).extract 0 1++⟨#[32]⟩) w' (hT.below hb) (Nat.le_trans (show _≤100 by decide +kernel) (by omega)));rw [show Lib.contains ((⟨#[32]⟩++sm++⟨#[32]⟩:ByteArray)).data.toList ((⟨#[32]⟩++(s.extract i s.size).extract 0 1++⟨#[32]⟩:ByteArray)).data.toList=l6 sm (s.extract i s.size) 1 from rfl] at H1;rw [show Lib.contains ((⟨#[32]⟩++nN++⟨#[32]⟩:ByteArray)).data.toList ((⟨#[32]⟩++(s.extract i s.size).extract 0 2++⟨#[32]⟩:ByteArray)).data.toList=l6 nN (s.extract i s.size) 2 from rfl] at H2;rw [show Lib.contains ((⟨#[32]⟩++nM++⟨#[32]⟩:ByteArray)).data.toList ((⟨#[32]⟩++(s.extract i s.size).extract 0 3++⟨#[32]⟩:ByteArray)).data.toList=l6 nM (s.extract i s.size) 3 from rfl] at H3;clear hT;generalize l6 nM (s.extract i s.size) 3=c3 at *;generalize l6 nN (s.extract i s.size) 2=c2 at *;generalize l6 sm (s.extract i s.size) 1=c1 at *;(have g3:nM.size≤100:=by decide +kernel);(have g2:nN.size≤100:=by decide +kernel);(have g1:sm.size≤100:=by decide +kernel);have gk:=hid (fun w=>DE w);generalize nM=r3 at *;generalize nN=r2 at *;generalize sm=r1 at *;(go_enter Tryz.func105,Tryz.ntmps105);(go_wp2_with fail);go_quiet (fail);have hB:=al (Below.refl w.heap.size w) nq;generalize w.drewN nq=w1 at *;generalize s.extract i s.size=t at *;clear x0 x1 x2 x3;(go_wp2_with fail);refine (gk.out _).mono ?_;rintro e w2 ⟨rfl,gh⟩;have I:=hB.trans (gh.mono hB.size);clear gh gk;have HQ:=HH.out.below I;obtain ⟨gq,gn,gp,gb⟩:=HQ.out;have gi:=gb.blk;obtain ⟨x0,x1,x2,x3,f0,f1,f2,f3⟩:=ac gi;have gv:∀ W:World,(Instr.index 125 (.agg #[.string r3,.string r2,.string r1]) (.int .i64 0)).run Tryz.prog W=.ok (.string r3) W:=fun W=>wR r3 r2 r1 0 (by omega) W;have gu:∀ W:World,(Instr.index 125 (.agg #[.string r3,.string r2,.string r1]) (.int .i64 1)).run Tryz.prog W=.ok (.string r2) W:=fun W=>wR r3 r2 r1 1 (by omega) W;have gt:∀ W:World,(Instr.index 125 (.agg #[.string r3,.string r2,.string r1]) (.int .i64 2)).run Tryz.prog W=.ok (.string r1) W:=fun W=>wR r3 r2 r1 2 (by omega) W;(have k1:1≤t.size:=by omega);have z:=hid gd;clear hb gi HH h gd gj gb;(go_wp2_with fail);refine wp_loop_rounds 4 ?_;by_cases k3:3≤t.size
 ·(have gm:(3:Int)≤(t.size:Int):=by omega);rw [rounds_succ];cases c3 with
  | true=>(go_wp2_with fail);refine (H3.out _ I).mono ?_;rintro e w3 ⟨rfl,rfl⟩;have q:=hid (show bV s i=3 by rw [M.out];simp [k3]);have q1:IntKind.i64.wrap ((i:Int)+3)=(i:Int)+3:=IntWalk.i64_in _ (by omega);(have q2:IntKind.i64.wrap ((i:Int)+3-3)=(i:Int):=by rw [show (i:Int)+3-3=(i:Int) by omega];exact IntWalk.i64_in _ (by omega));(have N:i+3≤s.size:=by have:=z.out;omega);have D:=HQ.set (i+3) (by omega) N;rw [show ((i+3:Nat):Int)=(i:Int)+3 by omega] at D;have J:=hid D;clear D;(go_wp2_with fail);have D:=J.out;refine (iz X s (i+3) l 6 i (by omega) hl _ D).mono ?_;rintro e w4 ⟨rfl,O,U⟩;(go_wp2_with fail);refine bodyPost_ret (results_none rfl _ _ _) rfl ?_;unfold fa ik;rw [if_neg (by rw [q.out];omega),q.out];exact ⟨rfl,O,((I.mono (Nat.le_of_lt y)).setCell (Nat.le_refl _) _).trans U⟩
  | false=>
   (go_wp2_with fail);refine (H3.out _ I).mono ?_;rintro e w3 ⟨rfl,rfl⟩;(go_wp2_with fail);(have k2:2≤t.size:=by omega);(have ge:(2:Int)≤(t.size:Int):=by omega);rw [rounds_succ];cases c2 with
   | true=>(go_wp2_with fail);refine (H2.out _ I).mono ?_;rintro e w3 ⟨rfl,rfl⟩;have q:=hid (show bV s i=2 by rw [M.out];simp [k2]);have q1:IntKind.i64.wrap ((i:Int)+2)=(i:Int)+2:=IntWalk.i64_in _ (by omega);(have q2:IntKind.i64.wrap ((i:Int)+2-2)=(i:Int):=by rw [show (i:Int)+2-2=(i:Int) by omega];exact IntWalk.i64_in _ (by omega));(have N:i+2≤s.size:=by have:=z.out;omega);have D:=HQ.set (i+2) (by omega) N;rw [show ((i+2:Nat):Int)=(i:Int)+2 by omega] at D;have J:=hid D;clear D;(go_wp2_with fail);have D:=J.out;refine (iz X s (i+2) l 6 i (by omega) hl _ D).mono ?_;rintro e w4 ⟨rfl,O,U⟩;(go_wp2_with fail);refine bodyPost_ret (results_none rfl _ _ _) rfl ?_;unfold fa ik;rw [if_neg (by rw [q.out];omega),q.out];exact ⟨rfl,O,((I.mono (Nat.le_of_lt y)).setCell (Nat.le_refl _) _).trans U⟩
   | false=>
    (go_wp2_with fail);refine (H2.out _ I).mono ?_;rintro e w3 ⟨rfl,rfl⟩;(go_wp2_with fail);(have gg:(1:Int)≤(t.size:Int):=by omega);rw [rounds_succ];cases c1 with
    | true=>(go_wp2_with fail);refine (H1.out _ I).mono ?_;rintro e w3 ⟨rfl,rfl⟩;have q:=hid (show bV s i=1 by rw [M.out];simp [k1]);have q1:IntKind.i64.wrap ((i:Int)+1)=(i:Int)+1:=IntWalk.i64_in _ (by omega);(have q2:IntKind.i64.wrap ((i:Int)+1-1)=(i:Int):=by rw [show (i:Int)+1-1=(i:Int) by omega];exact IntWalk.i64_in _ (by omega));(have N:i+1≤s.size:=by have:=z.out;omega);have D:=HQ.set (i+1) (by omega) N;rw [show ((i+1:Nat):Int)=(i:Int)+1 by omega] at D;have J:=hid D;clear D;(go_wp2_with fail);have D:=J.out;refine (iz X s (i+1) l 6 i (by omega) hl _ D).mono ?_;rintro e w4 ⟨rfl,O,U⟩;(go_wp2_with fail);refine bodyPost_ret (results_none rfl _ _ _) rfl ?_;unfold fa ik;rw [if_neg (by rw [q.out];omega),q.out];exact ⟨rfl,O,((I.mono (Nat.le_of_lt y)).setCell (Nat.le_refl _) _).trans U⟩
    | false=>(go_wp2_with fail);refine (H1.out _ I).mono ?_;rintro e w3 ⟨rfl,rfl⟩;(go_wp2_with fail);have q:=hid (show bV s i=0 by rw [M.out];simp []);rw [rounds_succ];(go_wp2_with fail);refine (eS X i _).mono ?_;rintro e w4 ⟨rfl,rfl⟩;unfold ec;refine ⟨rfl,?_⟩;unfold fa ik;rw [if_pos q.out];exact ⟨rfl,I.mono (Nat.le_of_lt y)⟩
 ·(have gr:decide (3≤t.size)=false:=by rw [decide_eq_false_iff_not];exact k3);(have gm:decide ((3:Int)≤(t.size:Int))=false:=by rw [decide_eq_false_iff_not];omega);have ga:=hid k3;clear k3;rw [rounds_succ];(go_wp2_with fail);by_cases k2:2≤t.size
  ·(have ge:(2:Int)≤(t.size:Int):=by omega);rw [rounds_succ];cases c2 with
   | true=>(go_wp2_with fail);refine (H2.out _ I).mono ?_;rintro e w3 ⟨rfl,rfl⟩;have q:=hid (show bV s i=2 by rw [M.out];simp [ga.out,k2]);have q1:IntKind.i64.wrap ((i:Int)+2)=(i:Int)+2:=IntWalk.i64_in _ (by omega);(have q2:IntKind.i64.wrap ((i:Int)+2-2)=(i:Int):=by rw [show (i:Int)+2-2=(i:Int) by omega];exact IntWalk.i64_in _ (by omega));(have N:i+2≤s.size:=by have:=z.out;omega);have D:=HQ.set (i+2) (by omega) N;rw [show ((i+2:Nat):Int)=(i:Int)+2 by omega] at D;have J:=hid D;clear D;(go_wp2_with fail);have D:=J.out;refine (iz X s (i+2) l 6 i (by omega) hl _ D).mono ?_;rintro e w4 ⟨rfl,O,U⟩;(go_wp2_with fail);refine bodyPost_ret (results_none rfl _ _ _) rfl ?_;unfold fa ik;rw [if_neg (by rw [q.out];omega),q.out];exact ⟨rfl,O,((I.mono (Nat.le_of_lt y)).setCell (Nat.le_refl _) _).trans U⟩
   | false=>
    (go_wp2_with fail);refine (H2.out _ I).mono ?_;rintro e w3 ⟨rfl,rfl⟩;(go_wp2_with fail);(have gg:(1:Int)≤(t.size:Int):=by omega);rw [rounds_succ];cases c1 with
    | true=>(go_wp2_with fail);refine (H1.out _ I).mono ?_;rintro e w3 ⟨rfl,rfl⟩;have q:=hid (show bV s i=1 by rw [M.out];simp [ga.out,k1]);have q1:IntKind.i64.wrap ((i:Int)+1)=(i:Int)+1:=IntWalk.i64_in _ (by omega);(have q2:IntKind.i64.wrap ((i:Int)+1-1)=(i:Int):=by rw [show (i:Int)+1-1=(i:Int) by omega];exact IntWalk.i64_in _ (by omega));(have N:i+1≤s.size:=by have:=z.out;omega);have D:=HQ.set (i+1) (by omega) N;rw [show ((i+1:Nat):Int)=(i:Int)+1 by omega] at D;have J:=hid D;clear D;(go_wp2_with fail);have D:=J.out;refine (iz X s (i+1) l 6 i (by omega) hl _ D).mono ?_;rintro e w4 ⟨rfl,O,U⟩;(go_wp2_with fail);refine bodyPost_ret (results_none rfl _ _ _) rfl ?_;unfold fa ik;rw [if_neg (by rw [q.out];omega),q.out];exact ⟨rfl,O,((I.mono (Nat.le_of_lt y)).setCell (Nat.le_refl _) _).trans U⟩
    | false=>(go_wp2_with fail);refine (H1.out _ I).mono ?_;rintro e w3 ⟨rfl,rfl⟩;(go_wp2_with fail);have q:=hid (show bV s i=0 by rw [M.out];simp [ga.out]);rw [rounds_succ];(go_wp2_with fail);refine (eS X i _).mono ?_;rintro e w4 ⟨rfl,rfl⟩;unfold ec;refine ⟨rfl,?_⟩;unfold fa ik;rw [if_pos q.out];exact ⟨rfl,I.mono (Nat.le_of_lt y)⟩
  ·(have gs:decide (2≤t.size)=false:=by rw [decide_eq_false_iff_not];exact k2);(have ge:decide ((2:Int)≤(t.size:Int))=false:=by rw [decide_eq_false_iff_not];omega);have gl:=hid k2;clear k2;rw [rounds_succ];(go_wp2_with fail);(have gg:(1:Int)≤(t.size:Int):=by omega);rw [rounds_succ];cases c1 with
   | true=>(go_wp2_with fail);refine (H1.out _ I).mono ?_;rintro e w3 ⟨rfl,rfl⟩;have q:=hid (show bV s i=1 by rw [M.out];simp [ga.out,gl.out,k1]);have q1:IntKind.i64.wrap ((i:Int)+1)=(i:Int)+1:=IntWalk.i64_in _ (by omega);(have q2:IntKind.i64.wrap ((i:Int)+1-1)=(i:Int):=by rw [show (i:Int)+1-1=(i:Int) by omega];exact IntWalk.i64_in _ (by omega));(have N:i+1≤s.size:=by have:=z.out;omega);have D:=HQ.set (i+1) (by omega) N;rw [show ((i+1:Nat):Int)=(i:Int)+1 by omega] at D;have J:=hid D;clear D;(go_wp2_with fail);have D:=J.out;refine (iz X s (i+1) l 6 i (by omega) hl _ D).mono ?_;rintro e w4 ⟨rfl,O,U⟩;(go_wp2_with fail);refine bodyPost_ret (results_none rfl _ _ _) rfl ?_;unfold fa ik;rw [if_neg (by rw [q.out];omega),q.out];exact ⟨rfl,O,((I.mono (Nat.le_of_lt y)).setCell (Nat.le_refl _) _).trans U⟩
   | false=>(go_wp2_with fail);refine (H1.out _ I).mono ?_;rintro e w3 ⟨rfl,rfl⟩;(go_wp2_with fail);have q:=hid (show bV s i=0 by rw [M.out];simp [ga.out,gl.out]);rw [rounds_succ];(go_wp2_with fail);refine (eS X i _).mono ?_;rintro e w4 ⟨rfl,rfl⟩;unfold ec;refine ⟨rfl,?_⟩;unfold fa ik;rw [if_pos q.out];exact ⟨rfl,I.mono (Nat.le_of_lt y)⟩
end
end Go.Proofs.YtiebcdeafofgdaaGreatDoor
