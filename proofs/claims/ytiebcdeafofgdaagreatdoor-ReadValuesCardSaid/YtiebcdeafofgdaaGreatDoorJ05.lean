/-
  Parts of the proof: Gneed Rmem Die Rsmall. By an AI agent.
-/
import Derived.Test.YtiebcdeafofgdaaGreatDoorJ04
import Derived.Test.YtiebcdeafofgdaaGreatDoorJ01
import Derived.Test.YtiebcdeafofgdaaGreatDoorJ00
import Derived.Test.YtiebcdeafofgdaaGreatDoorProg
import Derived.WalkKit
import Derived.Lib.Hide
import Derived.WalkLawsBesides
import Derived.WalkSpells
import Derived.RegionTactic
import Derived.Deep.QuietTactic
import Derived.BigQuiet
import Derived.Deep.DeepCutAuto
import Derived.Deep.CutBlock
import Derived.Deep.RegionHeld3
import Derived.Deep.RegionWith
import Derived.StillTailTactics
import Derived.Outline
import Derived.Deep.DrawnRows
import Derived.Deep.Draws
import Derived.Deep.RegionHeld2
set_option maxRecDepth 100000
set_option maxHeartbeats 8000000
namespace Go.Proofs.YtiebcdeafofgdaaGreatDoor
section
def F9 (k:Int) (m:Nat):Prop:=(k=2∨k=4→1≤m)∧(k=3∨k=22→2≤m)
mutual
def r9:Nd→Prop
 | .mk k _ l _=>F9 k l.length∧AZ l
def AZ:List Nd→Prop
 | []=>True
 | n::l=>r9 n∧AZ l
end
theorem wh:∀ l:List Nd,AZ l↔∀ k∈l,r9 k
 | []=>by simp [AZ]
 | n::l=>by rw [AZ,wh l];simp
theorem wi (n:Nd):r9 n↔F9 n.kind n.kids.length∧∀ k∈n.kids,r9 k:=by
 cases n with
 | mk k t l a=>rw [r9,wh];rfl
theorem r9.need:∀ (g:Nat) (n:Nd),r9 n→L2 g n
 | 0,_,_=>trivial
 | g+1,n,h=>⟨((wi n).1 h).1,fun k hk=>r9.need g k (((wi n).1 h).2 k hk)⟩
section
variable {F:eF}
end
end
section
open Go.RowKit Go.Lib Go.Proofs
attribute [local go_sem ↓] Go.wp_at_zero Go.wp_at_succ
def mx (t:bE):List Value:=[.int .i64 t.kind,.string t.text,.int .i64 t.pos]
theorem eg (t:bE):(mx t).length=3:=rfl
structure bN where
 R:Nat
 A:Option Addr
 cap:Nat
 c:Cx
 w0:World
def pw (E:bN) (s:St):Array Value:=#[.slice E.A E.c.toks.length E.cap,.int .i64 s.at_,.int .i64 E.c.fin,.bool s.head,.int .i64 s.part]
def GS (E:bN) (w:World):Prop:=∀ b,b<E.R→w.heap[b]? = E.w0.heap[b]?
structure aD (E:bN) (w:World) (s:St):Prop where
 blk:aj w E.R 62 (pw E s)
 toks:ez (· < E.R) w 3 E.A E.c.toks.length (E.c.toks.flatMap mx)
 le:s.at_≤E.c.toks.length
 most:E.c.toks.length≤1000000
 fits:E.c.toks.length≤E.cap
 old:GS E w
section
variable {E:bN} {w w':World} {s s':St}
theorem aD.lt (h:aD E w s):E.R<w.heap.size:=h.blk.lt
theorem aD.keep (h:aD E w s) (D:∀ b,b≤E.R→w'.heap[b]? = w.heap[b]?):aD E w' s:=
 ⟨(D _ (Nat.le_refl _)).trans h.blk,h.toks.keep (fun b hb _=>D b (Nat.le_of_lt hb)),h.le,h.most,h.fits,fun b hb=>(D b (Nat.le_of_lt hb)).trans (h.old b hb)⟩
theorem aD.below (h:aD E w s) (hb:Below w.heap.size w w'):aD E w' s:=h.keep fun b hbR=>hb.block b (Nat.lt_of_le_of_lt hbR h.lt)
theorem aD.drew (h:aD E w s):aD E w.drew s:=h.below (Below.refl _ _).drew
theorem aD.drewN (h:aD E w s) (n:Nat):aD E (w.drewN n) s:=h.below (below_drewN (Below.refl _ _) n)
theorem aD.alloc (h:aD E w s) (o:Obj):aD E (w.alloc o) s:=h.below ((Below.refl _ _).alloc (Nat.le_refl _) o)
theorem aD.far (h:aD E w s) {p:Addr} (D:E.R<p.block) (u:Value):aD E (w.setCell p u) s:=
 h.keep fun b hb=>Below.heap_setCell w p u b (by omega)
theorem aD.grown (h:aD E w s) {row:Option Nat} (I:w.grownBy w' row) (D:∀ g,row=some g→E.R<g):aD E w' s:=
 h.keep fun b hb=>I.block b (Nat.lt_of_le_of_lt hb h.lt) (fun e=>by have:=D b e.symm;omega)
theorem aD.toks_keep (h:aD E w s) (D:w.grownBy w' (some E.R)):ez (· < E.R) w' 3 E.A E.c.toks.length (E.c.toks.flatMap mx):=
 h.toks.keep fun b hb hlt=>D.block b hlt (fun e=>by injection e with e;omega)
theorem aD.setAt (h:aD E w s) (n:Nat) (D:n≤E.c.toks.length):aD E (w.setCell ⟨E.R,1,none⟩ (.int .i64 (n:Int))) { s with at_:=n } :=
 ⟨by simpa [pw] using h.blk.set_ 1 (.int .i64 (n:Int)),h.toks_keep (fw _ _ _ _),D,h.most,h.fits,fun k hk=>(Below.heap_setCell w _ _ k (by show k≠E.R;omega)).trans (h.old k hk)⟩
theorem aD.setHead (h:aD E w s) (b:Bool):aD E (w.setCell ⟨E.R,3,none⟩ (.bool b)) { s with head:=b } :=
 ⟨by simpa [pw] using h.blk.set_ 3 (.bool b),h.toks_keep (fw _ _ _ _),h.le,h.most,h.fits,fun k hk=>(Below.heap_setCell w _ _ k (by show k≠E.R;omega)).trans (h.old k hk)⟩
theorem aD.setPart (h:aD E w s) (n:Int):aD E (w.setCell ⟨E.R,4,none⟩ (.int .i64 n)) { s with part:=n } :=
 ⟨by simpa [pw] using h.blk.set_ 4 (.int .i64 n),h.toks_keep (fw _ _ _ _),h.le,h.most,h.fits,fun k hk=>(Below.heap_setCell w _ _ k (by show k≠E.R;omega)).trans (h.old k hk)⟩
theorem aD.cells (h:aD E w s):w.cell? ⟨E.R,0,none⟩=some (.slice E.A E.c.toks.length E.cap)∧w.cell? ⟨E.R,1,none⟩=some (.int .i64 s.at_)∧w.cell? ⟨E.R,2,none⟩=some (.int .i64 E.c.fin) ∧
  w.cell? ⟨E.R,3,none⟩=some (.bool s.head)∧w.cell? ⟨E.R,4,none⟩=some (.int .i64 s.part)∧(∀ i,w.frozen? ⟨E.R,i,none⟩=false):=by have c0:=h.blk.cell 0;have c1:=h.blk.cell 1;have c2:=h.blk.cell 2;have c3:=h.blk.cell 3;have c4:=h.blk.cell 4;simp [pw] at c0 c1 c2 c3 c4;exact ⟨c0,c1,c2,c3,c4,h.blk.frozen⟩
theorem aD.tok (h:aD E w s) (i:Nat) (D:i<E.c.toks.length):∃ b off,E.A=some ⟨b,off,none⟩∧b<E.R∧w.cell? ⟨b,off+i * 3,none⟩=some (.int .i64 (am E.c i).kind) ∧
  w.cell? ⟨b,off+i * 3+1,none⟩=some (.string (am E.c i).text)∧w.cell? ⟨b,off+i * 3+2,none⟩=some (.int .i64 (am E.c i).pos):=by
 obtain ⟨b,off,e,hb,hc⟩:=h.toks.2 (by omega);(have I:am E.c i=E.c.toks[i]:=by unfold am;rw [List.getElem?_eq_getElem D]);rw [I];refine ⟨b,off,e,hb,hc (i * 3) _ ?_,hc (i * 3+1) _ ?_,hc (i * 3+2) _ ?_⟩
 ·have:=iH eg E.c.toks i 0 D (by omega);rw [Nat.add_zero] at this;rw [this];rfl
 ·rw [iH eg E.c.toks i 1 D (by omega)];rfl
 ·rw [iH eg E.c.toks i 2 D (by omega)];rfl
theorem my (c:Cx) (i:Nat) (h:c.toks.length≤i):am c i=⟨0,⟨#[]⟩,c.fin⟩:=by unfold am;rw [List.getElem?_eq_none h]
end
def eO (t:bE):Value:=.agg #[.int .i64 t.kind,.string t.text,.int .i64 t.pos]
theorem al {B:Nat} {a w:World} (h:Below B a w) (n:Nat):Below B a (w.drewN n):=h.trans ⟨rfl,rfl,rfl,Nat.le_refl _,fun _ _=>rfl⟩
theorem bw (E:bN) (s:St) (w:World) (h:aD E w s):Calls Tryz.prog 62 #[.pointer (some ⟨E.R,0,none⟩)] w fun e w'=>e=.returned (eO (am E.c s.at_))∧Below w.heap.size w w':=by
 obtain ⟨c0,c1,c2,_,_,_⟩:=h.cells;have M:=h.lt;have q:=Nat.ne_of_lt M;have J:=h.most;by_cases D:s.at_=E.c.toks.length
 ·have N:=my E.c s.at_ (by omega);rw [N];rw [D] at c1;clear N D h;(go_enter Tryz.func62,Tryz.ntmps62);(go_wp2_with fail);go_quiet (fail);(go_wp2_with fail);refine bodyPost_ret (v:=eO ⟨0,⟨#[]⟩,E.c.fin⟩) (by simp [results,eO,Tryz.results62,go_sem]) rfl ⟨rfl,?_⟩;(repeat' (first | with_reducible exact Below.refl _ _ | with_reducible refine Below.alloc ?_ ?_ _ | with_reducible refine Below.setCell ?_ ?_ _ | with_reducible refine Below.drew ?_ | with_reducible refine al ?_ _ | (simp <;> omega) | omega))
 ·(have I:s.at_<E.c.toks.length:=by have:=h.le;omega);obtain ⟨b,off,eA,hb,t0,z,y⟩:=h.tok s.at_ I;rw [eA] at c0;(have g1:((s.at_:Int)==(E.c.toks.length:Int))=false:=by simp;omega);(have g2:(0:Int)≤(s.at_:Int):=by omega);(have g3:(s.at_:Int)<(E.c.toks.length:Int):=by omega);(have U:b<w.heap.size:=by omega);(have O:b≠w.heap.size:=by omega);clear D h eA;(go_enter Tryz.func62,Tryz.ntmps62);(go_wp2_with fail);go_quiet (fail);(go_wp2_with fail);go_region;(go_wp2_with fail);refine bodyPost_ret (v:=eO (am E.c s.at_)) (by simp [results,eO,Tryz.results62,go_sem]) rfl ⟨rfl,?_⟩;(repeat' (first | with_reducible exact Below.refl _ _ | with_reducible refine Below.alloc ?_ ?_ _ | with_reducible refine Below.setCell ?_ ?_ _ | with_reducible refine Below.drew ?_ | with_reducible refine al ?_ _ | (simp <;> omega) | omega))
end
section
open Go.Proofs
section
variable {P:Program} {md:Region.Mode} {ops:Array Oper} {Q:Exit→Act→World→Prop} {S:World→Prop}
theorem b8 (i:Nat) {oi:Oper} {v:Value} {fuel:Nat} {listed:Array Bool} {a:Act} {w:World} (J:ops[i]? = some oi)
  (hb:(Region.noSelect ops&&(Region.free md ops listed i&&(Region.ready md ops listed).contains i))=true) (N:∀ c a w,Q (.panic c) (a.put oi.dst v) w→Q (.panic c) a w)
  (I:Region.wanted oi (yielded ops a.tmps)=true) (D:∀ w,S w→(execOp a.eval oi).run P w=.ok (.value v) w) (M:S w)
  (h:wpAnyH P md ops Q S fuel (listed.setIfInBounds i true) (a.put oi.dst v) w):wpAnyH P md ops Q S (fuel+1) listed a w:=by rw [Bool.and_eq_true,Bool.and_eq_true] at hb;exact wpAnyH_take J hb.1 hb.2.1 hb.2.2 N (Or.inl ⟨I,D⟩) M h
theorem oP (i:Nat) {fuel:Nat} {listed:Array Bool} {a:Act} {w:World} {o:Oper} (D:Region.ready md ops listed=[i]) (I:ops[i]? = some o)
 (h:∀ K':Act→World→Prop,Shut (∀ a w,S w→(S w→wpAnyH P md ops Q S fuel (listed.setIfInBounds i true) a w)→K' a w)→if Region.wanted o (yielded ops a.tmps)=true then Oper.wp P o a w K' Q else K' (a.put o.dst undef) w) :
 wpAnyH P md ops Q S (fuel+1) listed a w:=wpAnyH_ready D (by simp) (AllReadyH.cons I h AllReadyH.nil)
end
end
section
open Go.RowKit Go.Lib Go.Proofs
attribute [local go_sem ↓] Go.wp_at_zero Go.wp_at_succ
theorem toList_inj {a b:ByteArray} : a.toList=b.toList↔a=b:=by
 constructor
 ·intro h;rw [ByteArray.toList_eq,ByteArray.toList_eq] at h;cases a;cases b;congr;exact Array.ext' h
 ·rintro rfl;rfl
theorem cU (a b:ByteArray):(a.toList==b.toList)=decide (a=b):=by rw [Bool.eq_iff_iff];simp only [beq_iff_eq,decide_eq_true_eq];exact toList_inj
theorem aM (f:ByteArray):f.toList.isEmpty=decide (f=⟨#[]⟩):=by have h:=cU f ⟨#[]⟩;rw [←h];(have e:(⟨#[]⟩:BA).toList=[]:=by rw [ByteArray.toList_eq]);rw [e];cases f.toList <;> rfl
section
variable (a b c d:Value) (w:World)
theorem aG:(Instr.field 43 (.agg #[a,b,c]) 0).run Tryz.prog w=.ok a w:=by kernel_rfl
theorem aH:(Instr.field 43 (.agg #[a,b,c]) 1).run Tryz.prog w=.ok b w:=by kernel_rfl
theorem aI:(Instr.field 43 (.agg #[a,b,c]) 2).run Tryz.prog w=.ok c w:=by kernel_rfl
theorem aW:(Instr.field 24 (.agg #[a,b,c,d]) 0).run Tryz.prog w=.ok a w:=by kernel_rfl
theorem aX:(Instr.field 24 (.agg #[a,b,c,d]) 1).run Tryz.prog w=.ok b w:=by kernel_rfl
theorem aY:(Instr.field 24 (.agg #[a,b,c,d]) 2).run Tryz.prog w=.ok c w:=by kernel_rfl
theorem aZ:(Instr.field 24 (.agg #[a,b,c,d]) 3).run Tryz.prog w=.ok d w:=by kernel_rfl
end
attribute [local go_sem] aG aH aI aW aX aY aZ
def ag (p:Int):Ending:=.panicked [{ v:=.iface 73 (.agg #[.int .i64 p,.int .i64 5]),recovered:=false }]
theorem dB (E:bN) (s:St) (w:World) (h:aD E w s):Calls Tryz.prog 60 #[.pointer (some ⟨E.R,0,none⟩)] w fun e w'=>e=ag (an E.c s)∧Below w.heap.size w w':=by have D:=hid h;clear h;(go_enter Tryz.func60,Tryz.ntmps60);(go_wp2_with fail);refine (bw E s w D.out).mono ?_;rintro e w' ⟨rfl,hb⟩;unfold eO;have I:=hid hb;clear hb;(go_wp2_with fail);exact ⟨rfl,rfl,I.out⟩
theorem bo (E:bN) (s:St) (x:ByteArray) (w:World) (h:aD E w s):Calls Tryz.prog 42 #[.pointer (some ⟨E.R,0,none⟩),.string x] w fun e w'=>e=.returned (.bool (aE E.c s x))∧Below w.heap.size w w':=by have I:=hid h;(have hT:aE E.c s x=(((am E.c s.at_).kind==2||(am E.c s.at_).kind==6)&&((am E.c s.at_).text.toList==x.toList)):=by unfold aE yJ;rw [cU]);rw [hT];have D:=hid (bw E s w h);clear hT h I;generalize am E.c s.at_=t at *;obtain ⟨tk,tt,tp⟩:=t;unfold eO at D;simp only at *;cases O:(tk==2) <;> cases N:(tk==6) <;> cases M:(tt.toList==x.toList);all_goals (go_enter Tryz.func42,Tryz.ntmps42);(go_wp2_with fail);refine D.out.mono ?_;rintro e w' ⟨rfl,hb⟩;have J:=hid hb;clear hb;(go_wp2_with fail);go_ret;have hb:=J.out;exact ⟨rfl,(((hb.alloc hb.size _)))⟩
structure cw (E:bN) (s:St) (w w':World):Prop where
 rd:aD E w' s
 bel:Below w.heap.size w w'
theorem cw.refl {E:bN} {s:St} {w:World} (h:aD E w s):cw E s w w:=⟨h,Below.refl _ _⟩
theorem cw.step {E:bN} {s:St} {w w1 w2:World} (h:cw E s w w1) (hb:Below w1.heap.size w1 w2):cw E s w w2:=⟨h.rd.below hb,h.bel.trans (hb.mono h.bel.size)⟩
theorem cw.alloc {E:bN} {s:St} {w w1:World} (h:cw E s w w1) (o:Obj):cw E s w (w1.alloc o):=h.step ((Below.refl _ _).alloc (Nat.le_refl _) o)
theorem cw.drew {E:bN} {s:St} {w w1:World} (h:cw E s w w1):cw E s w w1.drew:=h.step (Below.refl _ _).drew
structure ar (E:bN) (s:St) (w w':World):Prop where
 rd:aD E w' s
 gr:w.grownBy w' (some E.R)
theorem cw.moved {E:bN} {s:St} {w w':World} (h:cw E s w w'):ar E s w w':=⟨h.rd,ai _ h.bel⟩
theorem ar.refl {E:bN} {s:St} {w:World} (h:aD E w s):ar E s w w:=⟨h,World.grownBy.refl w _⟩
theorem ar.setAt {E:bN} {s:St} {w w':World} (h:ar E s w w') (n:Nat) (D:n≤E.c.toks.length):ar E { s with at_:=n } w (w'.setCell ⟨E.R,1,none⟩ (.int .i64 (n:Int))):=
 ⟨h.rd.setAt n D,h.gr.trans (fw _ _ _ _)⟩
theorem ar.setHead {E:bN} {s:St} {w w':World} (h:ar E s w w') (b:Bool):ar E { s with head:=b } w (w'.setCell ⟨E.R,3,none⟩ (.bool b)):=
 ⟨h.rd.setHead b,h.gr.trans (fw _ _ _ _)⟩
theorem ar.setPart {E:bN} {s:St} {w w':World} (h:ar E s w w') (n:Int):ar E { s with part:=n } w (w'.setCell ⟨E.R,4,none⟩ (.int .i64 n)):=
 ⟨h.rd.setPart n,h.gr.trans (fw _ _ _ _)⟩
theorem ar.trans {E:bN} {s s':St} {w w1 w2:World} (h:ar E s w w1) (h':ar E s' w1 w2):ar E s' w w2:=⟨h'.rd,h.gr.trans h'.gr⟩
theorem ar.step {E:bN} {s:St} {w w1 w2:World} (h:ar E s w w1) (hb:Below w1.heap.size w1 w2):ar E s w w2:=h.trans ⟨h.rd.below hb,ai _ hb⟩
theorem ar.alloc {E:bN} {s:St} {w w1:World} (h:ar E s w w1) (o:Obj):ar E s w (w1.alloc o):=h.step ((Below.refl _ _).alloc (Nat.le_refl _) o)
theorem ar.drew {E:bN} {s:St} {w w1:World} (h:ar E s w w1):ar E s w w1.drew:=h.step (Below.refl _ _).drew
theorem ar.drewN {E:bN} {s:St} {w w1:World} (h:ar E s w w1) (n:Nat):ar E s w (w1.drewN n):=h.step (al (Below.refl _ _) n)
theorem cw.drewN {E:bN} {s:St} {w w1:World} (h:cw E s w w1) (n:Nat):cw E s w (w1.drewN n):=h.step (al (Below.refl _ _) n)
theorem ar.own {E:bN} {s:St} {w w1:World} (h:ar E s w w1) {p:Addr} (D:w.heap.size≤p.block) (I:E.R<p.block) (u:Value):ar E s w (w1.setCell p u):=
 ⟨h.rd.far I u,by obtain ⟨b,o,z⟩:=p;exact ⟨h.gr.os,h.gr.tape,h.gr.output,by simpa using h.gr.size,fun k hk hne=>(Below.heap_setCell w1 ⟨b,o,z⟩ u k (by simp at D ⊢;omega)).trans (h.gr.block k hk hne)⟩⟩
theorem nE {E:bN} {s:St} {w:World} (_h:aD E w s) {x:ByteArray} (D:aE E.c s x=true):s.at_<E.c.toks.length:=by
 rcases Nat.lt_or_ge s.at_ E.c.toks.length with h | h
 ·exact h
 ·unfold aE at D;rw [my E.c s.at_ h] at D;simp [yJ] at D
theorem aQ (E:bN) (s:St) (x:ByteArray) (w:World) (h:aD E w s) (D:aE E.c s x=true):Calls Tryz.prog 84 #[.pointer (some ⟨E.R,0,none⟩),.string x] w fun e w'=>e=.returned (.bool true)∧ar E (adv s) w w':=by have N:=nE h D;have I:=h.most;have O:=hid D;have U:=hid (bo E s x w h);clear D;(go_enter Tryz.func84,Tryz.ntmps84);(go_wp2_with fail);refine U.out.mono ?_;rw [O.out];rintro e w' ⟨rfl,hb⟩;have M:=(cw.refl h).step hb;obtain ⟨c0,c1,c2,c3,c4,J⟩:=M.rd.cells;have q:=hid J;have f1:=J 1;clear hb J;(go_wp2_with fail);go_ret;exact ⟨rfl,M.moved.setAt (s.at_+1) (by omega)⟩
theorem bh (E:bN) (s:St) (x:ByteArray) (w:World) (h:aD E w s) (D:aE E.c s x=false):Calls Tryz.prog 84 #[.pointer (some ⟨E.R,0,none⟩),.string x] w fun e w'=>e=.returned (.bool false)∧cw E s w w':=by have J:=hid D;have M:=hid (bo E s x w h);clear D;(go_enter Tryz.func84,Tryz.ntmps84);(go_wp2_with fail);refine M.out.mono ?_;rw [J.out];rintro e w' ⟨rfl,hb⟩;have I:=(cw.refl h).step hb;clear hb;(go_wp2_with fail);go_ret;exact ⟨rfl,I⟩
theorem ch (E:bN) (s:St) (x:ByteArray) (w:World) (h:aD E w s) (D:aE E.c s x=true):Calls Tryz.prog 63 #[.pointer (some ⟨E.R,0,none⟩),.string x] w fun e w'=>e=.returned (.tuple #[])∧ar E (adv s) w w':=by have J:=hid (aQ E s x w h D);clear D h;(go_enter Tryz.func63,Tryz.ntmps63);(go_wp2_with fail);refine J.out.mono ?_;rintro e w' ⟨rfl,I⟩;(go_wp2_with fail);go_end0;exact ⟨rfl,I⟩
theorem cS (E:bN) (s:St) (x:ByteArray) (w:World) (h:aD E w s) (I:aE E.c s x=false):Calls Tryz.prog 63 #[.pointer (some ⟨E.R,0,none⟩),.string x] w fun e w'=>e=ag (an E.c s)∧Below w.heap.size w w':=by have J:=hid (bh E s x w h I);clear I h;(go_enter Tryz.func63,Tryz.ntmps63);(go_wp2_with fail);refine J.out.mono ?_;rintro e w' ⟨rfl,D⟩;(go_wp2_with fail);refine (dB E s w' D.rd).mono ?_;rintro e w2 ⟨rfl,hb⟩;unfold ag;exact ⟨rfl,rfl,D.bel.trans (hb.mono D.bel.size)⟩
theorem yK (E:bN) (s:St) (w:World) (h:aD E w s):Calls Tryz.prog 85 #[.pointer (some ⟨E.R,0,none⟩)] w fun e w'=>e=.returned (.bool (db E.c s))∧cw E s w w':=by have D:=cw.refl h;have hs:db E.c s=(aE E.c s (⟨#[59]⟩:BA)||aE E.c s (⟨#[10]⟩:BA)):=rfl;have J:=hid (fun w' (h:aD E w' s)=>bo E s (⟨#[59]⟩:BA) w' h);have I:=hid (fun w' (h:aD E w' s)=>bo E s (⟨#[10]⟩:BA) w' h);rw [hs];clear hs;generalize aE E.c s (⟨#[59]⟩:BA)=a at *;generalize aE E.c s (⟨#[10]⟩:BA)=b at *;cases a <;> cases b;all_goals (go_enter Tryz.func85,Tryz.ntmps85);(go_wp2_with fail);refine (J.out _ h).mono ?_;rintro e w' ⟨rfl,hb⟩;replace D:=D.step hb;clear hb;go_wp2_with (go_at_call 42;refine (I.out _ D.rd).mono ?_;rintro e w' ⟨rfl,hb⟩;replace D:=D.step hb;clear hb);go_ret;exact ⟨rfl,D⟩
theorem sK (E:bN) (s:St) (w:World) (h:aD E w s):Calls Tryz.prog 238 #[.pointer (some ⟨E.R,0,none⟩)] w fun e w'=>e=.returned (.bool (fx E.c s))∧cw E s w w':=by have D:=cw.refl h;have hs:fx E.c s=(aE E.c s (⟨#[44]⟩:BA)||aE E.c s (⟨#[93]⟩:BA)):=rfl;have J:=hid (fun w' (h:aD E w' s)=>bo E s (⟨#[44]⟩:BA) w' h);have I:=hid (fun w' (h:aD E w' s)=>bo E s (⟨#[93]⟩:BA) w' h);rw [hs];clear hs;generalize aE E.c s (⟨#[44]⟩:BA)=a at *;generalize aE E.c s (⟨#[93]⟩:BA)=b at *;cases a <;> cases b;all_goals (go_enter Tryz.func238,Tryz.ntmps238);(go_wp2_with fail);refine (J.out _ h).mono ?_;rintro e w' ⟨rfl,hb⟩;replace D:=D.step hb;clear hb;go_wp2_with (go_at_call 42;refine (I.out _ D.rd).mono ?_;rintro e w' ⟨rfl,hb⟩;replace D:=D.step hb;clear hb);go_ret;exact ⟨rfl,D⟩
theorem fL (E:bN) (s:St) (w:World) (h:aD E w s):Calls Tryz.prog 66 #[.pointer (some ⟨E.R,0,none⟩)] w fun e w'=>e=.returned (.bool (db E.c s))∧ar E (dA E.c s) w w':=by
 have O:=hid (yK E s w h);have hs:dA E.c s=if db E.c s=true then adv s else s:=rfl;have M:db E.c s=true→s.at_<E.c.toks.length:=fun hb=>by
  unfold db at hb;rcases Bool.or_eq_true_iff.1 hb with J | J
  ·exact nE h J
  ·exact nE h J
 have I:=h.most;rw [hs];clear hs;generalize db E.c s=a at *;cases a
 ·(go_enter Tryz.func66,Tryz.ntmps66);(go_wp2_with fail);refine O.out.mono ?_;rintro e w' ⟨rfl,D⟩;(go_wp2_with fail);go_ret;exact ⟨rfl,D.moved⟩
 ·have U:=M rfl;clear M;(go_enter Tryz.func66,Tryz.ntmps66);(go_wp2_with fail);refine O.out.mono ?_;rintro e w' ⟨rfl,D⟩;obtain ⟨c0,c1,c2,c3,c4,N⟩:=D.rd.cells;have f1:=N 1;clear N;(go_wp2_with fail);go_ret;exact ⟨rfl,D.moved.setAt (s.at_+1) (by omega)⟩
theorem EG (E:bN) (s:St) (D:(am E.c s.at_).kind=1):s.at_<E.c.toks.length:=by
 rcases Nat.lt_or_ge s.at_ E.c.toks.length with h | h
 ·exact h
 ·rw [my E.c s.at_ h] at D;simp at D
theorem fM (E:bN) (s:St) (w:World) (h:aD E w s) (N:(am E.c s.at_).kind=1):Calls Tryz.prog 65 #[.pointer (some ⟨E.R,0,none⟩)] w fun e w'=>e=.returned (.string (am E.c s.at_).text)∧ar E (adv s) w w':=by have q:=EG E s N;have J:=h.most;have U:=hid (bw E s w h);generalize am E.c s.at_=t at *;obtain ⟨tk,tt,tp⟩:=t;unfold eO at U;simp only at *;subst N;(go_enter Tryz.func65,Tryz.ntmps65);(go_wp2_with fail);refine U.out.mono ?_;rintro e w' ⟨rfl,hb⟩;have I:=(cw.refl h).step hb;obtain ⟨c0,c1,c2,c3,c4,O⟩:=I.rd.cells;have f1:=O 1;have D:=I.rd.lt;have M:=Nat.ne_of_lt D;clear O;(go_wp2_with fail);go_ret;exact ⟨rfl,(I.moved.setAt (s.at_+1) (by omega)).alloc _⟩
theorem i9 (E:bN) (s:St) (w:World) (h:aD E w s) (M:¬ (am E.c s.at_).kind=1):Calls Tryz.prog 65 #[.pointer (some ⟨E.R,0,none⟩)] w fun e w'=>e=ag (an E.c s)∧Below w.heap.size w w':=by have I:=hid (bw E s w h);generalize am E.c s.at_=t at *;obtain ⟨tk,tt,tp⟩:=t;unfold eO at I;simp only at *;(go_enter Tryz.func65,Tryz.ntmps65);(go_wp2_with fail);refine I.out.mono ?_;rintro e w' ⟨rfl,hb⟩;have D:=((cw.refl h).step hb).alloc (.cells #[.int .i64 tk,.string tt,.int .i64 tp] 43);(have J:(tk != 1)=true:=by simpa using M);(go_wp2_with fail);refine (dB E s _ D.rd).mono ?_;rintro e w2 ⟨rfl,hb⟩;unfold ag;exact ⟨rfl,rfl,D.bel.trans (hb.mono D.bel.size)⟩
theorem Du (E:bN) (s:St) (w:World) (h:aD E w s):Calls Tryz.prog 180 #[.pointer (some ⟨E.R,0,none⟩)] w fun e w'=>e=.returned (.bool (oZ E.c s))∧cw E s w w':=by
 have D:=cw.refl h;have hs:oZ E.c s=((am E.c s.at_).kind==1||(aE E.c s (⟨#[91]⟩:BA)||(aE E.c s (⟨#[40]⟩:BA)||aE E.c s (⟨#[102,117,110,99]⟩:BA)))):=rfl;have I:=hid (bw E s w h);have N:=hid (fun w' (h:aD E w' s)=>bo E s (⟨#[91]⟩:BA) w' h);have M:=hid (fun w' (h:aD E w' s)=>bo E s (⟨#[40]⟩:BA) w' h);have J:=hid (fun w' (h:aD E w' s)=>bo E s (⟨#[102,117,110,99]⟩:BA) w' h);rw [hs];clear hs;generalize aE E.c s (⟨#[91]⟩:BA)=a at *;generalize aE E.c s (⟨#[40]⟩:BA)=b at *;generalize aE E.c s (⟨#[102,117,110,99]⟩:BA)=d at *;generalize am E.c s.at_=t at *;obtain ⟨tk,tt,tp⟩:=t;unfold eO at I;simp only at *;cases O:(tk==1) <;> cases a <;> cases b <;> cases d;all_goals
  (go_enter Tryz.func180,Tryz.ntmps180);(go_wp2_with fail);refine I.out.mono ?_;rintro e w' ⟨rfl,hb⟩;replace D:=D.step hb;clear hb;go_wp2_with (first
   | (go_at_call 42;with_reducible refine (N.out _ D.rd).mono ?_;rintro e w' ⟨rfl,hb⟩;replace D:=D.step hb;clear hb)
   | (go_at_call 42;with_reducible refine (M.out _ D.rd).mono ?_;rintro e w' ⟨rfl,hb⟩;replace D:=D.step hb;clear hb)
   | (go_at_call 42;with_reducible refine (J.out _ D.rd).mono ?_;rintro e w' ⟨rfl,hb⟩;replace D:=D.step hb;clear hb))
  go_ret;exact ⟨rfl,D⟩
theorem aC (a k:Int) (t:ByteArray) (v:Value) (w:World) (D:∃ A n c,v=.slice A n c):Calls Tryz.prog 64 #[.int .i64 a,.int .i64 k,.string t,v] w fun e w'=>e=.returned (.agg #[.int .i64 k,.string t,v,.int .i64 a])∧Below w.heap.size w w':=by obtain ⟨A,n,c,rfl⟩:=D;(go_enter Tryz.func64,Tryz.ntmps64);(go_wp2_with fail);refine bodyPost_ret (v:=.agg #[.int .i64 k,.string t,.slice A n c,.int .i64 a]) (by simp [results,Tryz.results64,go_sem]) rfl ⟨rfl,?_⟩;(repeat' (first | with_reducible exact Below.refl _ _ | with_reducible refine Below.alloc ?_ ?_ _ | with_reducible refine Below.setCell ?_ ?_ _ | with_reducible refine Below.drew ?_ | with_reducible refine al ?_ _ | (simp <;> omega) | omega))
end
end Go.Proofs.YtiebcdeafofgdaaGreatDoor
