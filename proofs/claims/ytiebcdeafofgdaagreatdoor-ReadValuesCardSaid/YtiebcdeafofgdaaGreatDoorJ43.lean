/-
  Parts of the proof: Expr OkF Pix Ptok Pout. By an AI agent.
-/
import Derived.Test.YtiebcdeafofgdaaGreatDoorJ42
import Derived.Test.YtiebcdeafofgdaaGreatDoorJ41
import Derived.Test.YtiebcdeafofgdaaGreatDoorJ37
import Derived.Test.YtiebcdeafofgdaaGreatDoorJ31
import Derived.Test.YtiebcdeafofgdaaGreatDoorJ33
import Derived.Test.YtiebcdeafofgdaaGreatDoorJ04
import Derived.Test.YtiebcdeafofgdaaGreatDoorJ02
import Derived.Test.YtiebcdeafofgdaaGreatDoorJ35
import Derived.Test.YtiebcdeafofgdaaGreatDoorJ22
set_option maxRecDepth 100000
set_option maxHeartbeats 8000000
namespace Go.Proofs.YtiebcdeafofgdaaGreatDoor
section
open Go.RowKit Go.Lib Go.Proofs
attribute [local go_sem ↓] Go.wp_at_zero Go.wp_at_succ
attribute [local go_sem] aW aX aY aZ
def iD (c:Cx):cZ Nd→pU
 | .out=>.out
 | .fail p=>.bad p 5
 | .ok n s1=>if s1.at_<c.toks.length then .bad (an c s1) 5 else if eT n=true then .tree n else .bad 0 11
def il (F:eB) (s:ByteArray):pU:=match bv s with
 | .err p n=>.bad p n
 | .toks L=>iD ⟨L,(s.size:Int)⟩ (cI F.expr ⟨L,(s.size:Int)⟩ ⟨0,false,-1⟩)
theorem ng (a:Array Value) (w:World):(callFunc 40 a).run Tryz.prog w=.ok (.enter 40 a) w:=by kernel_rfl
theorem yd (s:ByteArray) (w:World) (hT:iq w) (g1:s.size≤1000000000) (F:eB)
  (hF:∀ L E w',bv s=.toks L→uL E w' s L→mA E F) (gu:il F s≠.out)
  (gy:∀ L n s1,bv s=.toks L→cI F.expr ⟨L,(s.size:Int)⟩ ⟨0,false,-1⟩=.ok n s1→s1.at_≤L.length∧oy 101 n∧(bg 100 n).length≤1000000000) :
  Calls Tryz.prog 16 #[.string s] w (pV w (il F s)):=by
 have g4:∀ (fn:Fn) (first cap:Array Value) (w:World),(Instr.makeFunc fn first cap).run Tryz.prog w=.ok (.func fn first cap) w:=fun _ _ _ _=>rfl;obtain ⟨W0,A0,cp,gr,g0,N,U,J⟩:∃ (W0:World) (A0:Option Addr) (cp:Nat),(Go.convert 9 27 (.string s)).run Tryz.prog (w.alloc (.cells aV 24))=.ok (.slice A0 s.size cp) W0∧dr W0 A0 cp s∧Below w.heap.size w W0∧aj W0 w.heap.size 24 aV∧W0.heap.size=w.heap.size+2:=
  ⟨_,_,_,run_bytes_of_string (P:=Tryz.prog) (w.alloc (.cells aV 24)) 9 27 5 s Tryz.underlying9 Tryz.underlying27 Tryz.underlying5,fu s _,((Below.refl _ _).alloc (Nat.le_refl _) _).drew.alloc (by show w.heap.size≤(w.heap.push _).size;simp) _,(aj.new w _ _).drew.alloc _,by show ((w.heap.push _).push _).size=_;simp⟩
 unfold aV at gr;have gd:=hid (uM _ _ s W0 g0 (hT.below N) g1);(have g3:2<w.heap.size:=by obtain ⟨m,h⟩:=hT.tab;exact World.block_lt_of_cell? w _ h);have HT:=hid hT;obtain ⟨O,hO⟩:∃ O,il F s=O:=⟨_,rfl⟩;rw [hO] at gu ⊢;clear g0 hT;cases ht:bv s with
 | err p n=>have HX:=hid (show O=.bad p n by rw [←hO,il,ht]);have hn:=mc ht;(have g2:(n != 0)=true:=by rw [bne_iff_ne];exact hn);rw [ht] at gd;clear hO gu gy hF ht hn;(go_enter Tryz.func16,Tryz.ntmps16);(go_wp2_with fail);refine gd.out.mono ?_;rintro e w1 ⟨rfl,D⟩;have M:=(N.trans (D.mono N.size)).alloc (by have:=D.size;omega) (.cells #[.pointer none] 52);have y:=(U.below D U.lt).alloc (.cells #[.pointer none] 52);clear gd U N D gr J;obtain ⟨d0,d1,d2,d3,e0,e1,e2,e3⟩:=ac y;(go_wp2_with fail);have q:=br y (.int .i64 0) (.string ⟨#[]⟩) (.slice none 0 0) (.int .i64 0);(have z:Below w.heap.size w (bu (w1.alloc (.cells #[.pointer none] 52)) w.heap.size (.int .i64 0) (.string ⟨#[]⟩) (.slice none 0 0) (.int .i64 0)):=by unfold bu;exact (((M.setCell (Nat.le_refl _) _).setCell (Nat.le_refl _) _).setCell (Nat.le_refl _) _).setCell (Nat.le_refl _) _);unfold bu at q z;refine bodyPost_ret (cF rfl _ (by rfl) (by rfl) (by rfl) q) rfl ?_;rw [HX.out];exact ⟨rfl,z⟩
 | toks L=>
  (have gb:iD ⟨L,(s.size:Int)⟩ (cI F.expr ⟨L,(s.size:Int)⟩ ⟨0,false,-1⟩)=O:=by rw [←hO,il,ht]);have HF:=hid (fun E w' (h:uL E w' s L)=>hF L E w' ht h);have gt:=fun n s1 h=>gy L n s1 ht h;rw [ht] at gd;clear hO gy hF ht;cases hP:cI F.expr ⟨L,(s.size:Int)⟩ ⟨0,false,-1⟩ with
  | out=>rw [hP] at gb;exact absurd gb.symm gu
  | fail p=>have HX:=hid (show O=.bad p 5 by rw [←gb,hP];rfl);clear gb gu gt;(go_enter Tryz.func16,Tryz.ntmps16);(go_wp2_with fail);refine gd.out.mono ?_;rintro e w1 ⟨E,rfl,I,gn,D⟩;rw [J] at gn;have M:=N.trans (D.mono N.size);have gj:=U.below D U.lt;have gm:=D.size;rw [J] at gm;have gv:=I.at_.lt;have gi:=ll E F.expr (HF.out E w1 I).expr w1.heap.size (w1.alloc (.cells #[.pointer (some ⟨E.R,0,none⟩)] 52)) (aj.new w1 _ _) (by omega);have gk:=I.c;have gg:=I.at_.below ((Below.refl _ w1).alloc (Nat.le_refl _) (.cells #[.pointer (some ⟨E.R,0,none⟩)] 52));have gl:=(HT.out.below (M.alloc (by omega) (.cells #[.pointer (some ⟨E.R,0,none⟩)] 52))).tab;clear gd U N D I gr J;have ga:=hid (Ay E 40 #[] #[.pointer (some ⟨w1.heap.size,0,none⟩)] (cI F.expr) ⟨0,false,-1⟩ p (⟨#[101,120,112,114,101,115,115,105,111,110]⟩:BA) (w1.alloc (.cells #[.pointer (some ⟨E.R,0,none⟩)] 52)) gg ng (by simpa using gi) (by rw [gk];exact hP));clear gg gi hP gl;(go_wp2_with fail);refine ga.out.mono ?_;rintro e w2 ⟨rfl,gh⟩;clear ga;(have gx:(w1.alloc (.cells #[.pointer (some ⟨E.R,0,none⟩)] 52)).heap.size=w1.heap.size+1:=by simp);have gp:=M.trans ((Below.refl _ w1).alloc (by omega) (.cells #[.pointer (some ⟨E.R,0,none⟩)] 52) |>.trans (dv gh (B:=w.heap.size) (by omega) (by omega)));have y:=(gj.alloc (.cells #[.pointer (some ⟨E.R,0,none⟩)] 52)).grown gh (fun e=>by injection e with e;omega);obtain ⟨d0,d1,d2,d3,e0,e1,e2,e3⟩:=ac y;unfold aV;clear gj M;(go_wp2_with fail);have q:=br y (.int .i64 0) (.string ⟨#[]⟩) (.slice none 0 0) (.int .i64 0);(have z:Below w.heap.size w (bu w2 w.heap.size (.int .i64 0) (.string ⟨#[]⟩) (.slice none 0 0) (.int .i64 0)):=by unfold bu;exact (((gp.setCell (Nat.le_refl _) _).setCell (Nat.le_refl _) _).setCell (Nat.le_refl _) _).setCell (Nat.le_refl _) _);unfold bu at q z;refine bodyPost_ret (cF rfl _ (by rfl) (by rfl) (by rfl) q) rfl ?_;rw [HX.out];exact ⟨rfl,z⟩
  | ok n s1=>
   obtain ⟨g5,gq,ge⟩:=gt n s1 hP;rw [hP,iD] at gb;clear gu gt;by_cases gs:s1.at_<L.length
   ·have HX:=hid (show O=.bad (an ⟨L,(s.size:Int)⟩ s1) 5 by rw [←gb,if_pos gs]);clear gb;(go_enter Tryz.func16,Tryz.ntmps16);(go_wp2_with fail);refine gd.out.mono ?_;rintro e w1 ⟨E,rfl,I,gn,D⟩;rw [J] at gn;have M:=N.trans (D.mono N.size);have gj:=U.below D U.lt;have gm:=D.size;rw [J] at gm;have gv:=I.at_.lt;have gi:=ll E F.expr (HF.out E w1 I).expr w1.heap.size (w1.alloc (.cells #[.pointer (some ⟨E.R,0,none⟩)] 52)) (aj.new w1 _ _) (by omega);have gk:=I.c;have gg:=I.at_.below ((Below.refl _ w1).alloc (Nat.le_refl _) (.cells #[.pointer (some ⟨E.R,0,none⟩)] 52));have gl:=(HT.out.below (M.alloc (by omega) (.cells #[.pointer (some ⟨E.R,0,none⟩)] 52))).tab;clear gd U N D I gr J;have ga:=Az E 40 #[] #[.pointer (some ⟨w1.heap.size,0,none⟩)] (cI F.expr) ⟨0,false,-1⟩ s1 n (⟨#[101,120,112,114,101,115,115,105,111,110]⟩:BA) (w1.alloc (.cells #[.pointer (some ⟨E.R,0,none⟩)] 52)) gg ng (by simpa using gi) (by rw [gk];exact hP) (by rw [gk];exact gs);rw [gk] at ga;have ga:=hid ga;clear gg gi hP gl gs;(go_wp2_with fail);refine ga.out.mono ?_;rintro e w2 ⟨rfl,gh⟩;clear ga;(have gx:(w1.alloc (.cells #[.pointer (some ⟨E.R,0,none⟩)] 52)).heap.size=w1.heap.size+1:=by simp);have gp:=M.trans ((Below.refl _ w1).alloc (by omega) (.cells #[.pointer (some ⟨E.R,0,none⟩)] 52) |>.trans (dv gh (B:=w.heap.size) (by omega) (by omega)));have y:=(gj.alloc (.cells #[.pointer (some ⟨E.R,0,none⟩)] 52)).grown gh (fun e=>by injection e with e;omega);obtain ⟨d0,d1,d2,d3,e0,e1,e2,e3⟩:=ac y;unfold aV;clear gj M;(go_wp2_with fail);have q:=br y (.int .i64 0) (.string ⟨#[]⟩) (.slice none 0 0) (.int .i64 0);(have z:Below w.heap.size w (bu w2 w.heap.size (.int .i64 0) (.string ⟨#[]⟩) (.slice none 0 0) (.int .i64 0)):=by unfold bu;exact (((gp.setCell (Nat.le_refl _) _).setCell (Nat.le_refl _) _).setCell (Nat.le_refl _) _).setCell (Nat.le_refl _) _);unfold bu at q z;refine bodyPost_ret (cF rfl _ (by rfl) (by rfl) (by rfl) q) rfl ?_;rw [HX.out];exact ⟨rfl,z⟩
   ·(have gw:s1.at_=L.length:=by omega);rw [if_neg gs] at gb;cases hr:eT n with
    | false=>have HX:=hid (show O=.bad 0 11 by rw [←gb,hr];rfl);clear gb gs;(go_enter Tryz.func16,Tryz.ntmps16);(go_wp2_with fail);refine gd.out.mono ?_;rintro e w1 ⟨E,rfl,I,gn,D⟩;rw [J] at gn;have M:=N.trans (D.mono N.size);have gj:=U.below D U.lt;have gm:=D.size;rw [J] at gm;have gv:=I.at_.lt;have gi:=ll E F.expr (HF.out E w1 I).expr w1.heap.size (w1.alloc (.cells #[.pointer (some ⟨E.R,0,none⟩)] 52)) (aj.new w1 _ _) (by omega);have gk:=I.c;have gg:=I.at_.below ((Below.refl _ w1).alloc (Nat.le_refl _) (.cells #[.pointer (some ⟨E.R,0,none⟩)] 52));have gl:=(HT.out.below (M.alloc (by omega) (.cells #[.pointer (some ⟨E.R,0,none⟩)] 52))).tab;clear gd U N D I gr J;have ga:=hid (DZ E 40 #[] #[.pointer (some ⟨w1.heap.size,0,none⟩)] (cI F.expr) ⟨0,false,-1⟩ s1 n (w1.alloc (.cells #[.pointer (some ⟨E.R,0,none⟩)] 52)) gg ng (by simpa using gi) (by rw [gk];exact hP) (by rw [gk];exact gw) hr gl (by omega) gq ge);clear gg gi hP gl gq ge;(go_wp2_with fail);refine ga.out.mono ?_;rintro e w2 ⟨rfl,gh⟩;clear ga;(have gx:(w1.alloc (.cells #[.pointer (some ⟨E.R,0,none⟩)] 52)).heap.size=w1.heap.size+1:=by simp);have gp:=M.trans ((Below.refl _ w1).alloc (by omega) (.cells #[.pointer (some ⟨E.R,0,none⟩)] 52) |>.trans (dv gh (B:=w.heap.size) (by omega) (by omega)));have y:=(gj.alloc (.cells #[.pointer (some ⟨E.R,0,none⟩)] 52)).grown gh (fun e=>by injection e with e;omega);obtain ⟨d0,d1,d2,d3,e0,e1,e2,e3⟩:=ac y;unfold aV;clear gj M;(go_wp2_with fail);have q:=br y (.int .i64 0) (.string ⟨#[]⟩) (.slice none 0 0) (.int .i64 0);(have z:Below w.heap.size w (bu w2 w.heap.size (.int .i64 0) (.string ⟨#[]⟩) (.slice none 0 0) (.int .i64 0)):=by unfold bu;exact (((gp.setCell (Nat.le_refl _) _).setCell (Nat.le_refl _) _).setCell (Nat.le_refl _) _).setCell (Nat.le_refl _) _);unfold bu at q z;refine bodyPost_ret (cF rfl _ (by rfl) (by rfl) (by rfl) q) rfl ?_;rw [HX.out];exact ⟨rfl,z⟩
    | true=>have HX:=hid (show O=.tree n by rw [←gb,hr];rfl);clear gb gs;(go_enter Tryz.func16,Tryz.ntmps16);(go_wp2_with fail);refine gd.out.mono ?_;rintro e w1 ⟨E,rfl,I,gn,D⟩;rw [J] at gn;have M:=N.trans (D.mono N.size);have gj:=U.below D U.lt;have gm:=D.size;rw [J] at gm;have gv:=I.at_.lt;have gi:=ll E F.expr (HF.out E w1 I).expr w1.heap.size (w1.alloc (.cells #[.pointer (some ⟨E.R,0,none⟩)] 52)) (aj.new w1 _ _) (by omega);have gk:=I.c;have gg:=I.at_.below ((Below.refl _ w1).alloc (Nat.le_refl _) (.cells #[.pointer (some ⟨E.R,0,none⟩)] 52));have gl:=(HT.out.below (M.alloc (by omega) (.cells #[.pointer (some ⟨E.R,0,none⟩)] 52))).tab;clear gd U N D I gr J;have ga:=hid (Is E 40 #[] #[.pointer (some ⟨w1.heap.size,0,none⟩)] (cI F.expr) ⟨0,false,-1⟩ s1 n (w1.alloc (.cells #[.pointer (some ⟨E.R,0,none⟩)] 52)) gg ng (by simpa using gi) (by rw [gk];exact hP) (by rw [gk];exact gw) hr gl (by omega) gq ge);clear gg gi hP gl gq ge;(go_wp2_with fail);refine ga.out.mono ?_;rintro e w2 ⟨⟨v,rfl,hv⟩,gh⟩;(have gx:(w1.alloc (.cells #[.pointer (some ⟨E.R,0,none⟩)] 52)).heap.size=w1.heap.size+1:=by simp);have gp:=M.trans ((Below.refl _ w1).alloc (by omega) (.cells #[.pointer (some ⟨E.R,0,none⟩)] 52) |>.trans (dv gh (B:=w.heap.size) (by omega) (by omega)));have y:=(gj.alloc (.cells #[.pointer (some ⟨E.R,0,none⟩)] 52)).grown gh (fun e=>by injection e with e;omega);obtain ⟨A,cp,rfl,hC⟩:=hv.toC;obtain ⟨d0,d1,d2,d3,e0,e1,e2,e3⟩:=ac y;clear gj M ga hC;(go_wp2_with fail);have q:=br y (.int .i64 n.kind) (.string n.text) (.slice A n.kids.length cp) (.int .i64 n.pos);have gz:=hv.kept (bK (X:=fun b=>(w1.alloc (.cells #[.pointer (some ⟨E.R,0,none⟩)] 52)).heap.size≤b) (wk:=w2) (g:=w.heap.size) (fun b hb=>by have hb:(w1.alloc (.cells #[.pointer (some ⟨E.R,0,none⟩)] 52)).heap.size≤b:=hb;simp at hb;omega) (.int .i64 n.kind) (.string n.text) (.slice A n.kids.length cp) (.int .i64 n.pos));(have z:Below w.heap.size w (bu w2 w.heap.size (.int .i64 n.kind) (.string n.text) (.slice A n.kids.length cp) (.int .i64 n.pos)):=by unfold bu;exact (((gp.setCell (Nat.le_refl _) _).setCell (Nat.le_refl _) _).setCell (Nat.le_refl _) _).setCell (Nat.le_refl _) _);unfold bu at q gz z;refine bodyPost_ret (cF rfl _ (by rfl) (by rfl) (by rfl) q) rfl ?_;rw [HX.out];exact ⟨_,rfl,gz.mono fun b hb _=>by have hb:(w1.alloc (.cells #[.pointer (some ⟨E.R,0,none⟩)] 52)).heap.size≤b:=hb;simp at hb;omega,z⟩
end
section
open Go.RowKit Go.Lib Go.Proofs
theorem Mk (E:bN) (D:CW E) (J:∀ g,g+1≤1000000→∀ s x s1,s.at_≤E.c.toks.length→(pv g).expr E.c s=.ok x s1→Ix x∧s1.at_≤E.c.toks.length) (O:∀ g,te E (pv g)) (q:th E) (I:Ii E):∀ g,g≤1000000→mA E (pv g)
 | 0,_=>⟨fun _ _ _ h=>absurd rfl h,fun _ _ _ h=>absurd rfl h,fun _ _ _ h=>absurd rfl h,fun _ _ _ h=>absurd rfl h,fun _ _ _ h=>absurd rfl h,Nat.zero_le _⟩
 | g+1,N=>by have hF:=Mk E D J O q I g (by omega);(have M:(pv g).g=g:=by cases g <;> rfl);have U:=D3 E (pv g) hF (AI E (pv g) hF D (J g N) (by rw [M];omega));exact ⟨GU E (pv g) hF,FP E (pv g) U,U,Fh E (pv g) hF (E9 E (pv g) hF) (O g) q I,Fg E (pv g) hF,N⟩
theorem D5 {E:bN} (h:∀ t∈E.c.toks,t.text.size≤65536):th E:=fun t ht=>Nat.le_trans (h t ht) (by decide)
end
section
section
variable {c:Cx}
theorem IE {n:Nd} (h:nh n):Ix n:=by obtain ⟨k,t,l,a⟩:=n;obtain ⟨D,-,-,I⟩:=h;have D:l=[]:=D;have I:k=0∨k=6:=I;subst D;unfold Ix;exact ⟨fun h=>by omega,by simp,by unfold su;trivial⟩
mutual
theorem I7 {i j:Nat} : ∀ n:Nd,aL c i j n→eU n≤1000000→Ix n
 | .mk k t l a,h,hc=>by obtain ⟨y,N,m,q,U,O,M⟩:=dP.1 h;rw [aF] at hc;have:=pY l;unfold Ix;refine ⟨fun J=>?_,by omega,F1 l M (by omega)⟩;obtain ⟨x,r,e,I,D,-⟩:=N J;exact ⟨x,r,e,I,D⟩
theorem F1 {i j:Nat} : ∀ l:List Nd,ap c i j l→f6 l≤1000000→su l
 | [],_,_=>by unfold su;trivial
 | x::r,h,hc=>by rw [bX] at h;rw [aq] at hc;unfold su;exact ⟨h.1.elim IE fun h=>I7 x h (by omega),F1 r h.2 (by omega)⟩
end
theorem tJ:∀ {l:List Nd} {n:Nd},n∈l→eU n≤f6 l
 | m::l,n,h=>by
  rw [aq];rcases List.mem_cons.1 h with rfl | h
  ·omega
  ·have:=tJ h;omega
theorem ap.mem {i j:Nat} : ∀ {l:List Nd} {n:Nd},ap c i j l→n∈l→nh n∨aL c i j n
 | m::l,n,h,D=>by
  rw [bX] at h;rcases List.mem_cons.1 D with rfl | D
  ·exact h.1
  ·exact h.2.mem D
theorem oF:∀ (g:Nat) (n:Nd),(bg g n).length≤eU n
 | 0,n=>by simp [bg]
 | g+1,n=>by
  have key:∀ l:List Nd,(l.flatMap (bg g)).length≤f6 l:=by
   intro l;induction l with
   | nil=>rw [aB];simp
   | cons m l ih=>have:=oF g m;rw [List.flatMap_cons,List.length_append,aq];omega
  have:=key n.kids;obtain ⟨k,t,l,a⟩:=n;unfold bg;rw [List.length_cons,aF];exact Nat.succ_le_succ this
theorem yn:∀ (g:Nat) {i j:Nat} (n:Nd),(nh n∨aL c i j n)→eU n≤1000000000→oy g n
 | 0,_,_,_,_,_=>by unfold oy;trivial
 | g+1,i,j,.mk k t l a,h,hc=>by
  rw [aF] at hc;have:=pY l;unfold oy;rcases h with ⟨I,-,J,-⟩ | h
  ·have I:l=[]:=I;have J:t.size=0:=J;subst I;exact ⟨⟨by simp,by show t.size≤_;omega⟩,fun k D=>by simp at D⟩
  ·obtain ⟨I,U,m,J,O,N,M⟩:=dP.1 h;refine ⟨⟨by show l.length≤_;omega,I⟩,fun k D=>?_⟩;have D:k∈l:=D;exact yn g k (M.mem D) (by have:=tJ D;omega)
theorem F2:∀ (g:Nat) (s:St) (n:Nd) (s1:St),c.toks.length≤s.at_→(pv g).expr c s≠.ok n s1
 | 0,_,_,_,_=>nofun
 | g+1,s,n,s1,hs=>by
  have U:=lL hs;(have D:∀ (x:ByteArray) (s':St),s'.at_=s.at_→aE c s' x=false:=fun x s' he=>by unfold aE yJ;rw [he,U];simp);have N:∀ b,cT (pv g) c s≠b∨∀ x s',b≠.ok x s':=fun b=>by
   unfold cT;rw [U];simp only;rw [if_neg (by decide),if_neg (by decide),if_neg (by decide),if_neg (by rw [D _ { s with part := -1 } rfl];decide),if_neg (by rw [D _ { s with part := -1 } rfl];decide),if_neg (by unfold dq;rw [D _ { s with part := -1 } rfl,Bool.false_and];exact Bool.false_ne_true)];by_cases hb:(cZ.fail c.fin:cZ (Nd × Bool))=b
   ·right;subst hb;exact nofun
   ·left;exact hb
  have M:∀ x s',dY (pv g) c s≠.ok x s':=fun x s'=>by
   unfold dY;cases O:cT (pv g) c s with
   | out=>exact nofun
   | fail p=>exact nofun
   | ok y s2=>exact absurd ((N _).resolve_left (fun h=>h O) y s2) (fun h=>h rfl)
  (have J:∀ x s',eX (pv g) c s≠.ok x s':=fun x s'=>by unfold eX;rw [D _ _ rfl,D _ _ rfl];exact M x s');have I:∀ k x s',im (pv g) k c s≠.ok x s':=by
   intro k;induction k with
   | zero=>exact J
   | succ k ih=>
    intro x s';unfold im;cases O:im (pv g) k c s with
    | out=>exact nofun
    | fail p=>exact nofun
    | ok y s2=>exact absurd O (ih y s2)
  exact I 5 n s1
end
end
section
open Go.Lib
abbrev bytes (s:ByteArray):List UInt8:=s.data.toList
theorem bS (x y:ByteArray):bytes (x++y)=bytes x++bytes y:=by unfold bytes;rw [ByteArray.data_append,Array.toList_append]
theorem dx (s:ByteArray) (i j:Nat):bytes (s.extract i j)=((bytes s).drop i).take (j-i):=by unfold bytes;rw [ByteArray.data_extract,Array.toList_extract,List.extract_eq_take_drop]
theorem rG {x y:ByteArray} (h:bytes x=bytes y):x=y:=by obtain ⟨a⟩:=x;obtain ⟨b⟩:=y;have:a=b:=Array.ext' h;rw [this]
theorem bz (s:ByteArray):(bytes s).length=s.size:=rfl
def NB (t:bE):Prop:=t.kind=5∨(32:UInt8) ∉ bytes t.text
theorem nj {row x:List UInt8} (h:contains (32::row++[32]) (32::x++[32])=true):∃ k,k≤(32::row++[32]).length∧(32::x++[32]).isPrefixOf ((32::row++[32]).drop k)=true:=by
 unfold contains at h;rw [decide_eq_true_eq] at h;rcases index_spec (32::row++[32]) (32::x++[32]) with ⟨J,_⟩ | ⟨i,_,I,D,_⟩
 ·omega
 ·exact ⟨i,I,D⟩
theorem iE {p l:List UInt8} (h:p.isPrefixOf l=true):l.take p.length=p:=by rw [List.isPrefixOf_iff_prefix] at h;exact (List.prefix_iff_eq_take.1 h).symm
def Ml (row:ByteArray) (m n:Nat):Bool:=(List.range m).all fun k=>
 let w:=((32::bytes row++[32]).drop k).take n
 !(decide (w.length=n)&&(w.getD 0 0==32&&(w.getD (n-1) 0==32&&w.getD 1 0 != 32)))||(w.getD 2 0 != 32&&(n==4||w.getD 3 0 != 32))
theorem Mf:Ml nM 18 5=true:=by decide +kernel
theorem Mg:Ml nN 65 4=true:=by decide +kernel
theorem F3 (k:Nat) (D:k<18) (a b c:UInt8) (h:((32::bytes nM++[32]).drop k).take 5=[32,a,b,c,32]) (I:a≠32):b≠32∧c≠32:=by have:=List.all_eq_true.1 Mf k (List.mem_range.2 D);rw [h] at this;simpa [I] using this
theorem F4 (k:Nat) (D:k<65) (a b:UInt8) (h:((32::bytes nN++[32]).drop k).take 4=[32,a,b,32]) (I:a≠32):b≠32:=by have:=List.all_eq_true.1 Mg k (List.mem_range.2 D);rw [h] at this;simpa [I] using this
theorem tK:(32::bytes nM++[32]).length=17∧(32::bytes nN++[32]).length=64:=by decide +kernel
theorem lM (row t:ByteArray) (n:Nat):l6 row t n=contains (32::bytes row++[32]) (32::(bytes t).take n++[32]):=by unfold l6;(have I:((⟨#[32]⟩++row++⟨#[32]⟩:ByteArray)).data.toList=32::bytes row++[32]:=by show bytes _=_;rw [bS,bS];rfl);(have D:((⟨#[32]⟩++t.extract 0 n++⟨#[32]⟩:ByteArray)).data.toList=32::(bytes t).take n++[32]:=by show bytes _=_;rw [bS,bS,dx];simp [bytes]);rw [I,D]
theorem IF (s:ByteArray) (i:Nat) (hb:aa s i≠32) (z:bV s i≠0):(32:UInt8) ∉ bytes (s.extract i (i+bV s i)):=by
 (have hd:∀ n,bytes (s.extract i (i+n))=((bytes s).drop i).take n:=fun n=>by rw [dx];congr 1;omega);(have N:bytes (s.extract i s.size)=(bytes s).drop i:=by rw [dx];exact List.take_of_length_le (by rw [List.length_drop,bz];omega));(have D:((bytes s).drop i).length=s.size-i:=by rw [List.length_drop,bz]);(have I:((bytes s).drop i).getD 0 0≠32:=by intro h;apply hb;unfold aa;rw [List.getD_eq_getElem?_getD,List.getElem?_drop,Nat.add_zero,←List.getD_eq_getElem?_getD] at h;show ((bytes s).getD i 0).toNat=32;rw [h];rfl);revert z;unfold bV;rw [lM,lM,N];generalize (bytes s).drop i=r at *;split
 ·rename_i h;intro _;rw [hd];obtain ⟨k,U,M⟩:=nj h.2;have O:=iE M;rw [tK.1] at U;have y:=h.1;clear h M hd N;rcases r with _ | ⟨a,_ | ⟨b,_ | ⟨c,q⟩⟩⟩
  ·simp at D;omega
  ·simp at D;omega
  ·simp at D;omega
  ·(have J:a≠32:=by simpa using I);have:=F3 k (by omega) a b c (by simpa using O) J;simp only [List.take_succ_cons,List.take_zero,List.mem_cons,List.not_mem_nil,or_false,not_or];exact ⟨fun e=>J e.symm,fun e=>this.1 e.symm,fun e=>this.2 e.symm⟩
 ·split
  ·rename_i h;intro _;rw [hd];obtain ⟨k,U,M⟩:=nj h.2;have O:=iE M;rw [tK.2] at U;have y:=h.1;clear h M hd N;rcases r with _ | ⟨a,_ | ⟨b,q⟩⟩
   ·simp at D;omega
   ·simp at D;omega
   ·(have J:a≠32:=by simpa using I);have:=F4 k (by omega) a b (by simpa using O) J;simp only [List.take_succ_cons,List.take_zero,List.mem_cons,List.not_mem_nil,or_false,not_or];exact ⟨fun e=>J e.symm,fun e=>this e.symm⟩
  ·split
   ·rename_i h;intro _;rw [hd];have y:=h.1;clear h hd N;rcases r with _ | ⟨a,q⟩
    ·simp at D;omega
    ·(have J:a≠32:=by simpa using I);simp only [List.take_succ_cons,List.take_zero,List.mem_cons,List.not_mem_nil,or_false];exact fun e=>J e.symm
   ·intro h;exact absurd rfl h
theorem oV {α:Type} (p:α→Bool):∀ (l:List α) (x:α),x∈l.takeWhile p→p x=true
 | [],x,h=>by simp at h
 | y::l,x,h=>by
  rw [List.takeWhile_cons] at h;split at h
  ·rename_i D;rcases List.mem_cons.1 h with rfl | h
   ·exact D
   ·exact oV p l x h
  ·simp at h
theorem Da (s:ByteArray) (i:Nat):(32:UInt8) ∉ bytes (s.extract i (i+a8 (s.data.toList.drop i))):=by rw [dx];show (32:UInt8) ∉ ((bytes s).drop i).take (i+a8 ((bytes s).drop i)-i);generalize (bytes s).drop i=r;rw [show i+a8 r-i=a8 r by omega];unfold a8;intro h;(have e:r.take (r.takeWhile fun c=>bA (c.toNat:Int)).length=r.takeWhile fun c=>bA (c.toNat:Int):=by have:=List.takeWhile_prefix (p:=fun c:UInt8=>bA (c.toNat:Int)) (l:=r);exact (List.prefix_iff_eq_take.1 this).symm);rw [e] at h;exact absurd (oV _ _ _ h) (by decide)
def KD (t:bE):Prop:=t.kind=2→ci t.text=1
theorem Mb (x:ByteArray) (p:Int):KD ⟨6,x,p⟩:=fun h=>absurd (show (6:Int)=2 from h) (by decide)
theorem Ea (s:ByteArray) (i:Nat) (l:List bE) (j:Nat) (l':List bE) (h:bC s i l=.go j l'):l'=l∨∃ t,l'=l++[t]∧t.pos=(i:Int)∧NB t∧KD t:=by
 have N:∀ p:Int,cC l p=l∨cC l p=l++[⟨6,⟨#[10]⟩,p⟩]:=fun p=>by
  unfold cC;split
  ·exact .inr rfl
  ·exact .inl rfl
 have I:∀ p:Int,NB ⟨6,⟨#[10]⟩,p⟩:=fun p=>.inr (by show (32:UInt8) ∉ ([10]:List UInt8);decide);unfold bC at h;split at h
 ·injection h with _ h;exact .inl h.symm
 ·split at h
  ·injection h with _ h;subst h;exact (N _).imp id fun e=>⟨_,e,rfl,I _,Mb _ _⟩
  ·split at h
   ·injection h with _ h;exact .inl h.symm
   ·rename_i M;cases D:dj s i l with
    | some r=>
     rw [D] at h;have h:r=.go j l':=h;subst h;unfold dj at D;split at D
     ·injection D with D;injection D with _ e2;exact .inl e2.symm
     ·split at D
      ·split at D
       ·injection D with D;cases D
       ·injection D with D;injection D with _ e2;subst e2;split
        ·exact (N _).imp id fun e=>⟨_,e,rfl,I _,Mb _ _⟩
        ·exact .inl rfl
      ·cases D
    | none=>
     rw [D] at h;simp only at h;split at h
     ·injection h with _ h;exact .inr ⟨_,h.symm,rfl,.inr (Da s i),fun e=>by have e:ci (s.extract i (i+a8 (s.data.toList.drop i)))+1=2:=e;show ci (s.extract i (i+a8 (s.data.toList.drop i)))=1;omega⟩
     ·split at h
      ·injection h with _ h;exact .inr ⟨_,h.symm,rfl,.inr (Da s i),fun e=>absurd (show (4:Int)=2 from e) (by decide)⟩
      ·split at h
       ·unfold nP at h;split at h
        ·injection h with _ h;exact .inr ⟨_,h.symm,rfl,.inl rfl,fun e=>absurd (show (5:Int)=2 from e) (by decide)⟩
        ·cases h
       ·unfold ik at h;split at h
        ·cases h
        ·rename_i J;injection h with _ h;exact .inr ⟨_,h.symm,rfl,.inr (IF s i (fun e=>M (.inl e)) J),Mb _ _⟩
structure nZ (i:Nat) (l:List bE):Prop where
 nb:∀ t∈l,NB t
 at_:∀ t∈l,0≤t.pos∧t.pos≤(i:Int)
 up:l.Pairwise fun a b=>a.pos≤b.pos
 kd:∀ t∈l,KD t
theorem nZ.le {i j:Nat} {l:List bE} (h:nZ i l) (D:i≤j):nZ j l:=⟨h.nb,fun t ht=>by have:=h.at_ t ht;omega,h.up,h.kd⟩
theorem nZ.push {i j:Nat} {l:List bE} {t:bE} (h:nZ i l) (M:i≤j) (N:t.pos=(i:Int)) (I:NB t) (J:KD t):nZ j (l++[t]):=by
 refine ⟨fun u D=>?_,fun u D=>?_,?_,fun u D=>?_⟩
 ·rcases List.mem_append.1 D with D | D
  ·exact h.nb u D
  ·(obtain rfl:u=t:=by simpa using D);exact I
 ·rcases List.mem_append.1 D with D | D
  ·have:=h.at_ u D;omega
  ·(obtain rfl:u=t:=by simpa using D);omega
 ·rw [List.pairwise_append];refine ⟨h.up,List.pairwise_singleton _ _,fun a ha b hb=>?_⟩;(obtain rfl:b=t:=by simpa using hb);have:=(h.at_ a ha).2;omega
 ·rcases List.mem_append.1 D with D | D
  ·exact h.kd u D
  ·(obtain rfl:u=t:=by simpa using D);exact J
theorem tL (s:ByteArray) (hs:s.size≤65536):∀ (g i:Nat) (l r:List bE),i≤s.size→fU i l→nZ i l→aU s g i l=.ok r→nZ s.size r
 | 0,_,_,_,_,_,_,h=>by cases h
 | g+1,i,l,r,q,M,I,h=>by
  unfold aU at h;split at h
  ·rename_i J;cases D:bC s i l with
   | go j l'=>
    rw [D] at h;obtain ⟨h1,h2,z⟩:=lG s i l hs J M j l' D;refine tL s hs g j l' r h2 z ?_ h;rcases Ea s i l j l' D with rfl | ⟨t,rfl,N,O,U⟩
    ·exact I.le (by omega)
    ·exact I.push (by omega) N O U
   | bad p=>rw [D] at h;cases h
  ·injection h with h;subst h;unfold cC;split
   ·(have y:i=s.size:=by omega);subst y;exact I.push (Nat.le_refl _) rfl (.inr (by show (32:UInt8) ∉ ([10]:List UInt8);decide)) (Mb _ _)
   ·exact I.le q
theorem lw {s:ByteArray} {L:List bE} (h:cr s=.toks L):nZ s.size L:=by
 unfold cr at h;split at h
 ·cases h
 ·split at h
  ·cases h
  ·cases hs:aU s (s.size+1) 0 [] with
   | ok l=>rw [hs] at h;injection h with h;subst h;exact tL s (by omega) _ 0 [] l (Nat.zero_le _) ⟨by simp,fun t ht=>by simp at ht⟩ ⟨fun t ht=>by simp at ht,fun t ht=>by simp at ht,List.Pairwise.nil,fun t ht=>by simp at ht⟩ hs
   | bad p=>rw [hs] at h;cases h
end
section
theorem Eb (m:Nat):(fH m).length≤2:=by
 unfold fH;split
 ·simp
 ·split <;> simp
theorem we (f:Nat):∀ (l:List Nat) (m:Nat),(dJ f l m).length≤l.length+2
 | [],m=>by unfold dJ;have:=Eb m;simpa using this
 | x::r,m=>by unfold dJ;have:=we f r ((x * f+m) / 10);simp only [List.length_cons];omega
theorem tM (radix:Nat):∀ (l:List UInt8) (v:List Nat) (line:Bool) (many:Nat) (v':List Nat) (p:Bool × Nat),dX radix l v line many=some (v',p)→v'.length≤v.length+2 * l.length
 | [],v,line,many,v',p,h=>by unfold dX at h;injection h with h;injection h with h _;subst h;simp
 | c::r,v,line,many,v',p,h=>by
  unfold dX at h;simp only [List.length_cons];split at h
  ·have:=tM radix r v true many v' p h;omega
  ·split at h
   ·cases h
   ·rename_i d _;split at h
    ·have:=tM radix r _ false (many+1) v' p h;have:=we radix v d;omega
    ·cases h
theorem F5 (l:List UInt8):(sJ l).2.length≤l.length:=by
 unfold sJ;split
 ·simp
 ·simp
 ·split
  ·split
   ·simp only [List.length_cons];omega
   ·split
    ·simp only [List.length_cons];omega
    ·split <;> simp only [List.length_cons] <;> omega
  ·simp
theorem Ec (s:ByteArray):(mL s).size≤1000000000:=by
 unfold mL lW;split
 ·exact Nat.zero_le _
 ·rename_i hs;simp only;split
  ·exact Nat.zero_le _
  ·split
   ·exact Nat.zero_le _
   ·rename_i v line many hn;split
    ·exact Nat.zero_le _
    ·have D:=tM _ _ _ _ _ _ _ hn;have J:=F5 s.data.toList;have I:s.data.toList.length=s.size:=rfl;show (fI v).size≤_;unfold fI;show ((if v=[] then [0] else v.reverse).map fun d=>UInt8.ofNat (48+d)).toArray.size≤_;rw [List.size_toArray,List.length_map];simp only [List.length_nil] at D;split
     ·simp
     ·rw [List.length_reverse];omega
theorem wg (v:Int):(Utf8.encode v).data.toList.length≤4:=by unfold Utf8.encode;simp only;(repeat' split);all_goals simp
theorem F6 {o:Option Nat} {b:Nat→Bool} {f:Nat→List UInt8} (I:∀ v,(f v).length≤4) {n:Nat} (D:1≤n) {p:List UInt8 × Nat} (h:(o.bind fun v=>if b v=true then some (f v,n) else none)=some p):p.1.length≤4∧1≤p.2:=by
 cases o with
 | none=>cases h
 | some v=>
  rw [Option.bind_some] at h;split at h
  ·injection h with h;subst h;exact ⟨I v,D⟩
  ·cases h
theorem LB {o:Option Nat} {p:List UInt8 × Nat} (h:(o.bind fun v=>if v≤255 then some ([UInt8.ofNat v],3) else none)=some p):p.1.length≤4∧1≤p.2:=by
 cases o with
 | none=>cases h
 | some v=>
  rw [Option.bind_some] at h;split at h
  ·injection h with h;subst h;simp
  ·cases h
theorem F7 (l:List UInt8) (p:List UInt8 × Nat) (h:iW l=some p):p.1.length≤4∧1≤p.2:=by
 cases l with
 | nil=>cases h
 | cons c r=>
  rw [iW] at h;split at h
  ·injection h with h;subst h;simp
  ·split at h
   ·cases hd:ct r 2 16 with
    | none=>rw [hd] at h;cases h
    | some v=>rw [hd] at h;injection h with h;subst h;simp
   ·split at h
    ·exact F6 (b:=fun v=>Utf8.valid (v:Int)) (f:=fun v=>(Utf8.encode (v:Int)).data.toList) (fun v=>wg (v:Int)) (by omega) h
    ·split at h
     ·exact F6 (b:=fun v=>Utf8.valid (v:Int)) (f:=fun v=>(Utf8.encode (v:Int)).data.toList) (fun v=>wg (v:Int)) (by omega) h
     ·exact LB h
theorem pi:∀ (g:Nat) (l t:List UInt8),dp g l=some t→t.length≤4 * l.length
 | 0,_,_,h=>by simp [dp] at h
 | _+1,[],t,h=>by unfold dp at h;injection h with h;subst h;simp
 | g+1,c::r,t,h=>by
  unfold dp at h;simp only [List.length_cons];split at h
  ·rw [Option.bind_eq_some_iff] at h;obtain ⟨p,J,h⟩:=h;rw [Option.map_eq_some_iff] at h;obtain ⟨u,D,rfl⟩:=h;have M:=F7 _ _ J;have I:=pi g _ _ D;rw [List.length_drop] at I;rw [List.length_append];omega
  ·split at h
   ·cases h
   ·rw [Option.map_eq_some_iff] at h;obtain ⟨u,D,rfl⟩:=h;have I:=pi g _ _ D;simp only [List.length_cons];omega
theorem Cm (s:ByteArray):(i8 s).size≤1000000000:=by
 unfold i8 ef;(have I:(s.data.toList.extract 1 (s.size-1)).length≤s.size:=by rw [List.extract_eq_take_drop,List.length_take,List.length_drop];show min _ (s.size-1)≤s.size;omega);split
 ·exact Nat.zero_le _
 ·split
  ·exact Nat.zero_le _
  ·split
   ·exact Nat.zero_le _
   ·split
    ·cases D:dp (s.size+1) (s.data.toList.extract 1 (s.size-1)) with
     | none=>exact Nat.zero_le _
     | some t=>have:=pi _ _ _ D;have e:(t.toArray).size=t.length:=List.size_toArray;exact Nat.le_trans (Nat.le_of_eq e) (by omega)
    ·split
     ·split
      ·exact Nat.zero_le _
      ·have e:(((s.data.toList.extract 1 (s.size-1)).filter fun c=>c.toNat != 13).toArray).size=_:=List.size_toArray;have:=List.length_filter_le (fun c:UInt8=>c.toNat != 13) (s.data.toList.extract 1 (s.size-1));exact Nat.le_trans (Nat.le_of_eq e) (by omega)
     ·exact Nat.zero_le _
def rH (x:ByteArray):Nat:=(bytes x).count 32
theorem cX (x y:ByteArray):rH (x++y)=rH x+rH y:=by unfold rH;rw [bS,List.count_append]
theorem mH {t:bE} (h:NB t) (D:t.kind≠5):rH t.text=0:=List.count_eq_zero.2 (h.resolve_left D)
theorem LZ {c:Cx} (h:∀ t∈c.toks,NB t):∀ s x s',cv c s=some (x,s')→s'.at_≤c.toks.length:=by
 intro s x s' J;unfold cv at J;simp only at J;split at J
 ·rename_i z;injection J with J;injection J with _ J;subst J;exact lm z
 ·split at J
  ·rename_i a b d r hl;(have M:(c.toks.drop s.at_).length=r.length+3:=by rw [hl];simp);rw [List.length_drop] at M;split at J
   ·injection J with J;injection J with _ J;subst J;show s.at_+3≤_;omega
   ·split at J
    ·rename_i h3;injection J with J;injection J with _ J;subst J;show s.at_+5≤_;obtain ⟨ha,hd,-,I⟩:=h3;have O:∀ t,t∈a::b::d::r→NB t:=fun t ht=>h t (List.mem_of_mem_drop (i:=s.at_) (by rw [hl];exact ht));have ba:=mH (O a (by simp)) (by omega);have bd:=mH (O d (by simp)) (by omega);(have D:rH (a.text++(⟨#[32,44,32]⟩:BA)++d.text++(⟨#[32,58,61,32,114,97,110,103,101]⟩:BA))=4:=by rw [cX,cX,cX,ba,bd];decide);(have N:4≤(a.text++(⟨#[32,44,32]⟩:BA)++d.text++(⟨#[32,58,61,32,114,97,110,103,101]⟩:BA)).size:=by rw [←bz,←D];exact List.count_le_length);rw [hl] at I
     match r,M,I,O with
     | [],_,I,O=>
      exfalso;unfold cG at I;split at I
      ·rw [←I] at N;have:(0:Nat)≥4:=N;omega
      ·rename_i q;(have U:b.kind≠5:=by intro hb;apply q;simp [hb]);have bb:=mH (O b (by simp)) U;rw [←I] at D;simp only [List.take_succ_cons,List.take_nil,List.foldl_cons,List.foldl_nil] at D;rw [cX,cX,cX,cX,ba,bb,bd] at D;revert D;decide
     | [e],_,I,O=>
      exfalso;unfold cG at I;split at I
      ·rw [←I] at N;have:(0:Nat)≥4:=N;omega
      ·rename_i q;(have U:b.kind≠5:=by intro hb;apply q;simp [hb]);(have y:e.kind≠5:=by intro hb;apply q;simp [hb]);have bb:=mH (O b (by simp)) U;have be:=mH (O e (by simp)) y;rw [←I] at D;simp only [List.take_succ_cons,List.take_nil,List.foldl_cons,List.foldl_nil] at D;rw [cX,cX,cX,cX,cX,cX,ba,bb,bd,be] at D;revert D;decide
     | _::_::_,M,_,_=>simp only [List.length_cons] at M;omega
    ·cases J
  ·cases J
theorem IG {c:Cx} (I:∀ t∈c.toks,t.text.size≤65536) (D:∀ t∈c.toks,NB t):sp c:=⟨I,fun _ _=>Ec _,fun _ _=>Cm _,LZ D⟩
end
end Go.Proofs.YtiebcdeafofgdaaGreatDoor
