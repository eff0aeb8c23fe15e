/-
  Parts of the proof: Rmem Die Rsmall Rrow Rfree Rslice. By an AI agent.
-/
import Derived.Test.YtcoiialmdncpfaaGreatDoorJ01
import Derived.Test.YtcoiialmdncpfaaGreatDoorJ00
import Derived.Test.YtcoiialmdncpfaaGreatDoorProg
import Derived.WalkKit
import Derived.Lib.Hide
import Derived.WalkLawsBesides
import Derived.WalkSpells
import Derived.RegionTactic
import Derived.Deep.QuietTactic
import Derived.BigQuiet
import Derived.Deep.DeepCutAuto
import Derived.Deep.CutBlock
import Derived.Deep.RegionHeld3
import Derived.Deep.RegionWith
import Derived.StillTailTactics
import Derived.Outline
import Derived.Deep.DrawnRows
import Derived.Deep.Draws
import Derived.Deep.RegionHeld2
import Derived.Defers
import Derived.Recover
import Derived.IntWalk
open Go.Proofs.Tryz
set_option maxRecDepth 100000
set_option maxHeartbeats 8000000
namespace Go.Proofs.YtcoiialmdncpfaaGreatDoor
section
open Go.RowKit Go.Lib Go.Proofs
attribute [local go_sem ↓] Go.wp_at_zero Go.wp_at_succ
theorem gB:type_of% @Nat.le_refl:=@Nat.le_refl
theorem gC:type_of% @Go.RowKit.Below.refl:=@Go.RowKit.Below.refl
theorem gK:type_of% @List.length_append:=@List.length_append
theorem gN:type_of% @Nat.le_trans:=@Nat.le_trans
theorem gP:type_of% @Go.World.size_alloc:=@Go.World.size_alloc
theorem gQ:type_of% @Go.IntWalk.i64_in:=@Go.IntWalk.i64_in
theorem gX:type_of% @Bool.false_eq_true:=@Bool.false_eq_true
theorem gZ:type_of% @Go.wp_at_zero:=@Go.wp_at_zero
theorem jA:type_of% @Go.wp_at_succ:=@Go.wp_at_succ
theorem jD:type_of% @Go.bodyPost_ret:=@Go.bodyPost_ret
theorem jW:type_of% @Bool.eq_iff_iff:=@Bool.eq_iff_iff
theorem jY:type_of% @Nat.lt_of_lt_of_le:=@Nat.lt_of_lt_of_le
theorem kK:type_of% @if_false:=@if_false
theorem kL:type_of% @Nat.zero_add:=@Nat.zero_add
theorem kP:type_of% @Go.World.ownsRow_nil:=@Go.World.ownsRow_nil
theorem kS:type_of% @if_true:=@if_true
theorem m7:type_of% @Go.wpQuiet_nil:=@Go.wpQuiet_nil
theorem qr:type_of% @Go.info_parts:=@Go.info_parts
theorem qN:type_of% @List.not_mem_nil:=@List.not_mem_nil
theorem qT:type_of% @Option.isSome_none:=@Option.isSome_none
theorem qW:type_of% @Go.ByteArray.toList_eq:=@Go.ByteArray.toList_eq
theorem vb:type_of% @List.mem_cons:=@List.mem_cons
theorem ve:type_of% @Nat.ne_of_lt:=@Nat.ne_of_lt
theorem vp:type_of% @List.getElem?_take_of_lt:=@List.getElem?_take_of_lt
theorem vE:type_of% @Go.wp_append_lies:=@Go.wp_append_lies
theorem xj:type_of% @or_false:=@or_false
theorem az{B:Nat}{a w:World}(h:Below B a w)(n:Nat):Below B a (w.drewN n):=h.trans ⟨rfl,rfl,rfl,gB _,fun _ _=>rfl⟩
def mc(t:cz):List Value:=[.int .i64 t.kind,.string t.text,.int .i64 t.pos]
theorem dX(t:cz):(mc t).length=3:=rfl
structure bC where
 R:Nat
 A:Option Addr
 cap:Nat
 c:Cx
 w0:World
def re(E:bC)(s:St):Array Value:=#[.slice E.A E.c.toks.length E.cap,.int .i64 s.at_,.int .i64 E.c.fin,.bool s.head,.int .i64 s.part]
def Mx(E:bC)(w:World):Prop:=∀b,b<E.R->w.heap[b]? = E.w0.heap[b]?
structure aH(E:bC)(w:World)(s:St):Prop where
 blk:aa w E.R 156 (re E s)
 toks:bK (· < E.R) w 3 E.A E.c.toks.length (E.c.toks.flatMap mc)
 le:s.at_<=E.c.toks.length
 most:E.c.toks.length<=1000000
 fits:E.c.toks.length<=E.cap
 old:Mx E w
section
variable {E:bC} {w w':World} {s s':St}
theorem aH.lt(h:aH E w s):E.R<w.heap.size:=h.blk.lt
theorem aH.keep(h:aH E w s)(D:∀b,b<=E.R->w'.heap[b]? = w.heap[b]?):aH E w' s:=
 ⟨(D _ (gB _)).trans h.blk,h.toks.keep (fun b hb _=>D b (Nat.le_of_lt hb)),h.le,h.most,h.fits,fun b hb=>(D b (Nat.le_of_lt hb)).trans (h.old b hb)⟩
theorem aH.below(h:aH E w s)(hb:Below w w w'):aH E w' s:=h.keep fun b hbR=>hb.block b (Nat.lt_of_le_of_lt hbR h.lt)
theorem aH.drew(h:aH E w s):aH E w.drew s:=h.below (gC _ _).drew
theorem aH.drewN(h:aH E w s)(n:Nat):aH E (w.drewN n) s:=h.below (az (gC _ _) n)
theorem aH.alloc(h:aH E w s)(o:Obj):aH E (w.alloc o) s:=h.below ((gC _ _).alloc (gB _) o)
theorem aH.far(h:aH E w s){p:Addr}(D:E.R<p.block)(u:Value):aH E (w.setCell p u) s:=
 h.keep fun b hb=>gF w p u b (by omega)
theorem aH.grown(h:aH E w s){row:Option Nat}(I:w.grownBy w' row)(D:∀g,row=some g->E.R<g):aH E w' s:=
 h.keep fun b hb=>I.block b (Nat.lt_of_le_of_lt hb h.lt) (fun e=>by have:=D b e.symm;omega)
theorem aH.toks_keep(h:aH E w s)(D:w.grownBy w' (some E.R)):bK (· < E.R) w' 3 E.A E.c.toks.length (E.c.toks.flatMap mc):=
 h.toks.keep fun b hb hlt=>D.block b hlt (fun e=>by injection e with e;omega)
theorem aH.setAt(h:aH E w s)(n:Nat)(D:n<=E.c.toks.length):aH E (w.setCell ⟨E.R,1,none⟩ (.int .i64 (n:Int))) { s with at_:=n } :=
 ⟨by simpa[re]using h.blk.set_ 1 (.int .i64 (n:Int)),h.toks_keep (ft _ _ _ _),D,h.most,h.fits,fun k hk=>(gF w _ _ k (by show k≠E.R;omega)).trans (h.old k hk)⟩
theorem aH.setHead(h:aH E w s)(b:Bool):aH E (w.setCell ⟨E.R,3,none⟩ (.bool b)) { s with head:=b } :=
 ⟨by simpa[re]using h.blk.set_ 3 (.bool b),h.toks_keep (ft _ _ _ _),h.le,h.most,h.fits,fun k hk=>(gF w _ _ k (by show k≠E.R;omega)).trans (h.old k hk)⟩
theorem aH.setPart(h:aH E w s)(n:Int):aH E (w.setCell ⟨E.R,4,none⟩ (.int .i64 n)) { s with part:=n } :=
 ⟨by simpa[re]using h.blk.set_ 4 (.int .i64 n),h.toks_keep (ft _ _ _ _),h.le,h.most,h.fits,fun k hk=>(gF w _ _ k (by show k≠E.R;omega)).trans (h.old k hk)⟩
theorem aH.cells(h:aH E w s):w.cell? ⟨E.R,0,none⟩=some (.slice E.A E.c.toks.length E.cap)/\w.cell? ⟨E.R,1,none⟩=some (.int .i64 s.at_)/\w.cell? ⟨E.R,2,none⟩=some (.int .i64 E.c.fin) /\
  w.cell? ⟨E.R,3,none⟩=some (.bool s.head)/\w.cell? ⟨E.R,4,none⟩=some (.int .i64 s.part)/\(∀i,w.frozen? ⟨E.R,i,none⟩=false):=by have c0:=h.blk.cell 0;have c1:=h.blk.cell 1;have c2:=h.blk.cell 2;have c3:=h.blk.cell 3;have c4:=h.blk.cell 4;simp[re]at c0 c1 c2 c3 c4;exact⟨c0,c1,c2,c3,c4,h.blk.frozen⟩
theorem aH.tok(h:aH E w s)(i:Nat)(D:i<E.c.toks.length):∃b off,E.A=some ⟨b,off,none⟩/\b<E.R/\w.cell? ⟨b,off+i*3,none⟩=some (.int .i64 (aj E.c i).kind) /\
  w.cell? ⟨b,off+i*3+1,none⟩=some (.string (aj E.c i).text)/\w.cell? ⟨b,off+i*3+2,none⟩=some (.int .i64 (aj E.c i).pos):=by
 obtain⟨b,off,e,hb,I⟩:=h.toks.2 (by omega);(have J:aj E.c i=E.c.toks[i]:=by unfold aj;rw[gO D]);rw[J];refine⟨b,off,e,hb,I (i*3) _ ?_,I (i*3+1) _ ?_,I (i*3+2) _ ?_⟩
 ·have:=eB dX E.c.toks i 0 D (by omega);rw[Nat.add_zero]at this;rw[this];rfl
 ·rw[eB dX E.c.toks i 1 D (by omega)];rfl
 ·rw[eB dX E.c.toks i 2 D (by omega)];rfl
theorem mA(c:Cx)(i:Nat)(h:c.toks.length<=i):aj c i=⟨0,⟨#[]⟩,c.fin⟩:=by unfold aj;rw[List.getElem?_eq_none h]
end
def eR(t:cz):Value:=.agg #[t.kind,t.text,t.pos]
theorem bel{p:Prop}(h:p:=by repeat'(first|with_reducible exact gC _ _|with_reducible refine Below.alloc ?_ ?_ _|with_reducible refine Below.setCell ?_ ?_ _|with_reducible refine Below.drew ?_ |with_reducible refine az ?_ _|(simp<;>omega)|omega)):p:=h
theorem lh{p:Prop}(h:p:=by repeat'(first|with_reducible assumption|with_reducible exact gC _ _|with_reducible refine Below.alloc ?_ ?_ _|with_reducible refine Below.setCell ?_ ?_ _|with_reducible refine Below.drew ?_ |with_reducible refine az ?_ _|(simp<;>omega)|omega)):p:=h
theorem bh(E:bC)(s:St)(w:World)(h:aH E w s):Calls prog 89 #[E.R] w fun e w'=>e=.returned (eR (aj E.c s.at_))/\Below w w w':=by
 obtain⟨c0,c1,c2,_,_,_⟩:=h.cells;have M:=h.lt;have y:=ve M;have J:=h.most;by_cases D:s.at_=E.c.toks.length
 ·have O:=mA E.c s.at_ (by omega);rw[O];rw[D]at c1;clear O D h;(go_enter func89,ntmps89);go_wp2_with fail;go_quiet (fail);go_wp2_with fail;refine jD (v:=eR ⟨0,⟨#[]⟩,E.c.fin⟩) (by simp[results,eR,results89,go_sem]) rfl ⟨rfl,?_⟩;exact bel
 ·(have I:s.at_<E.c.toks.length:=by have:=h.le;omega);obtain⟨b,off,eA,hb,t0,t1,z⟩:=h.tok s.at_ I;rw[eA]at c0;(have g1:((s.at_:Int)==(E.c.toks.length:Int))=false:=by simp;omega);(have g2:(0:Int)<=(s.at_:Int):=by omega);(have g3:(s.at_:Int)<(E.c.toks.length:Int):=by omega);(have x:b<w.heap.size:=by omega);(have q:b≠w.heap.size:=by omega);clear D h eA;(go_enter func89,ntmps89);go_wp2_with fail;go_quiet (fail);go_wp2_with fail;go_region;go_wp2_with fail;refine jD (v:=eR (aj E.c s.at_)) (by simp[results,eR,results89,go_sem]) rfl ⟨rfl,?_⟩;exact bel
end
section
open Go.Proofs
section
variable {P:Program} {md:Region.Mode} {ops:Array Oper} {Q:Exit->Act->World->Prop} {S:World->Prop}
theorem dF(i:Nat){oi:Oper}{v:Value}{fuel:Nat}{listed:Array Bool}{a:Act}{w:World}(M:S w)(h:wpAnyH P md ops Q S fuel (listed.setIfInBounds i true) (a.put oi.dst v) w)
  (J:ops[i]? = some oi:=by rfl)(hb:(Region.noSelect ops&&(Region.free md ops listed i&&(Region.ready md ops listed).contains i))=true:=by kernel_rfl)
  (O:∀c a w,Q (.panic c) (a.put oi.dst v) w->Q (.panic c) a w:=by exact fun _ _ _ h=>h)(I:Region.wanted oi (yielded ops a.tmps)=true:=by rfl)
  (D:∀w,S w->(execOp a.eval oi).run P w=.ok (.value v) w:=by intro w hSw;(try dsimp only[SS]at hSw);go_simp;try(with_reducible rfl)):wpAnyH P md ops Q S (fuel+1) listed a w:=by rw[Bool.and_eq_true,Bool.and_eq_true]at hb;exact wpAnyH_take J hb.1 hb.2.1 hb.2.2 O (Or.inl ⟨I,D⟩) M h
theorem yd(i:Nat){fuel:Nat}{listed:Array Bool}{a:Act}{w:World}{o:Oper}
 (h:∀K':Act->World->Prop,Shut (∀a w,S w->(S w->wpAnyH P md ops Q S fuel (listed.setIfInBounds i true) a w)->K' a w)->if Region.wanted o (yielded ops a.tmps)=true then Oper.wp P o a w K' Q else K' (a.put o.dst undef) w)
 (D:Region.ready md ops listed=[i]:=by kernel_rfl)(I:ops[i]? = some o:=by rfl):wpAnyH P md ops Q S (fuel+1) listed a w:=wpAnyH_ready D (by simp) (AllReadyH.cons I h AllReadyH.nil)
end
end
section
open Go.RowKit Go.Lib Go.Proofs
attribute [local go_sem ↓] Go.wp_at_zero Go.wp_at_succ
theorem toList_inj{a b:ByteArray}:a.toList=b.toList↔a=b:=by
 constructor
 ·intro h;rw[qW,qW]at h;cases a;cases b;congr;exact Array.ext' h
 ·rintro rfl;rfl
theorem bW(a b:ByteArray):(a.toList==b.toList)=decide (a=b):=by rw[jW];simp only[beq_iff_eq,decide_eq_true_eq];exact toList_inj
theorem aF(f:ByteArray):f.toList.isEmpty=decide (f=⟨#[]⟩):=by have h:=bW f ⟨#[]⟩;rw[<-h];(have e:(⟨#[]⟩:BA).toList=[]:=by rw[qW]);rw[e];cases f.toList<;>rfl
section
variable (a b c d:Value) (w:World)
theorem aK:(Instr.field 105 (.agg #[a,b,c]) 0).run prog w=.ok a w:=by kernel_rfl
theorem aL:(Instr.field 105 (.agg #[a,b,c]) 1).run prog w=.ok b w:=by kernel_rfl
theorem aM:(Instr.field 105 (.agg #[a,b,c]) 2).run prog w=.ok c w:=by kernel_rfl
theorem aZ:(Instr.field 41 (.agg #[a,b,c,d]) 0).run prog w=.ok a w:=by kernel_rfl
theorem a6:(Instr.field 41 (.agg #[a,b,c,d]) 1).run prog w=.ok b w:=by kernel_rfl
theorem a7:(Instr.field 41 (.agg #[a,b,c,d]) 2).run prog w=.ok c w:=by kernel_rfl
theorem a8:(Instr.field 41 (.agg #[a,b,c,d]) 3).run prog w=.ok d w:=by kernel_rfl
end
attribute [local go_sem] aK aL aM aZ a6 a7 a8
def ag(p:Int):Ending:=.panicked [{ v:=.iface 158 (.agg #[p,.int .i64 5]),recovered:=false }]
theorem dh(E:bC)(s:St)(w:World)(h:aH E w s):Calls prog 87 #[E.R] w fun e w'=>e=ag (ar E.c s)/\Below w w w':=by have D:=hid h;clear h;(go_enter func87,ntmps87);go_wp2_with fail;refine(bh E s w D.out).mono ?_;rintro e w'⟨rfl,hb⟩;unfold eR;have I:=hid hb;clear hb;go_wp2_with fail;exact⟨rfl,rfl,I.out⟩
theorem bL(E:bC)(s:St)(x:ByteArray)(w:World)(h:aH E w s):Calls prog 94 #[E.R,x] w fun e w'=>e=.returned (.bool (aR E.c s x))/\Below w w w':=by have I:=hid h;(have hT:aR E.c s x=(((aj E.c s.at_).kind==2||(aj E.c s.at_).kind==6)&&((aj E.c s.at_).text.toList==x.toList)):=by unfold aR NV;rw[bW]);rw[hT];have D:=hid (bh E s w h);clear hT h I;generalize aj E.c s.at_=t at *;obtain⟨tk,tt,tp⟩:=t;unfold eR at D;simp only at *;cases q:(tk==2)<;>cases O:(tk==6)<;>cases M:(tt.toList==x.toList);all_goals(go_enter func94,ntmps94);go_wp2_with fail;refine D.out.mono ?_;rintro e w'⟨rfl,hb⟩;have J:=hid hb;clear hb;go_wp2_with fail;go_ret;have hb:=J.out;exact⟨rfl,(((hb.alloc hb.size _)))⟩
structure bX(E:bC)(s:St)(w w':World):Prop where
 rd:aH E w' s
 bel:Below w w w'
theorem bX.refl{E:bC}{s:St}{w:World}(h:aH E w s):bX E s w w:=⟨h,gC _ _⟩
theorem bX.step{E:bC}{s:St}{w w1 w2:World}(h:bX E s w w1)(hb:Below w1 w1 w2):bX E s w w2:=⟨h.rd.below hb,aE h.bel hb⟩
theorem bX.alloc{E:bC}{s:St}{w w1:World}(h:bX E s w w1)(o:Obj):bX E s w (w1.alloc o):=h.step ((gC _ _).alloc (gB _) o)
theorem bX.drew{E:bC}{s:St}{w w1:World}(h:bX E s w w1):bX E s w w1.drew:=h.step (gC _ _).drew
structure au(E:bC)(s:St)(w w':World):Prop where
 rd:aH E w' s
 gr:w.grownBy w' (some E.R)
theorem bX.moved{E:bC}{s:St}{w w':World}(h:bX E s w w'):au E s w w':=⟨h.rd,ac _ h.bel⟩
theorem au.refl{E:bC}{s:St}{w:World}(h:aH E w s):au E s w w:=⟨h,vU w _⟩
theorem au.setAt{E:bC}{s:St}{w w':World}(h:au E s w w')(n:Nat)(D:n<=E.c.toks.length):au E { s with at_:=n } w (w'.setCell ⟨E.R,1,none⟩ (.int .i64 (n:Int))):=
 ⟨h.rd.setAt n D,h.gr.trans (ft _ _ _ _)⟩
theorem au.setHead{E:bC}{s:St}{w w':World}(h:au E s w w')(b:Bool):au E { s with head:=b } w (w'.setCell ⟨E.R,3,none⟩ (.bool b)):=
 ⟨h.rd.setHead b,h.gr.trans (ft _ _ _ _)⟩
theorem au.setPart{E:bC}{s:St}{w w':World}(h:au E s w w')(n:Int):au E { s with part:=n } w (w'.setCell ⟨E.R,4,none⟩ (.int .i64 n)):=
 ⟨h.rd.setPart n,h.gr.trans (ft _ _ _ _)⟩
theorem au.trans{E:bC}{s s':St}{w w1 w2:World}(h:au E s w w1)(h':au E s' w1 w2):au E s' w w2:=⟨h'.rd,h.gr.trans h'.gr⟩
theorem au.step{E:bC}{s:St}{w w1 w2:World}(h:au E s w w1)(hb:Below w1 w1 w2):au E s w w2:=h.trans ⟨h.rd.below hb,ac _ hb⟩
theorem au.alloc{E:bC}{s:St}{w w1:World}(h:au E s w w1)(o:Obj):au E s w (w1.alloc o):=h.step ((gC _ _).alloc (gB _) o)
theorem au.drew{E:bC}{s:St}{w w1:World}(h:au E s w w1):au E s w w1.drew:=h.step (gC _ _).drew
theorem au.drewN{E:bC}{s:St}{w w1:World}(h:au E s w w1)(n:Nat):au E s w (w1.drewN n):=h.step (az (gC _ _) n)
theorem bX.drewN{E:bC}{s:St}{w w1:World}(h:bX E s w w1)(n:Nat):bX E s w (w1.drewN n):=h.step (az (gC _ _) n)
theorem au.own{E:bC}{s:St}{w w1:World}(h:au E s w w1){p:Addr}(D:w.heap.size<=p.block)(I:E.R<p.block)(u:Value):au E s w (w1.setCell p u):=
 ⟨h.rd.far I u,by obtain⟨b,o,z⟩:=p;exact⟨h.gr.os,h.gr.tape,h.gr.output,by simpa using h.gr.size,fun k hk hne=>(gF w1 ⟨b,o,z⟩ u k (by simp at D |-;omega)).trans (h.gr.block k hk hne)⟩⟩
theorem pv{E:bC}{s:St}{w:World}(_h:aH E w s){x:ByteArray}(D:aR E.c s x=true):s.at_<E.c.toks.length:=by
 rcases kN s.at_ E.c.toks.length with h|h
 ·exact h
 ·unfold aR at D;rw[mA E.c s.at_ h]at D;simp[NV]at D
theorem aS(E:bC)(s:St)(x:ByteArray)(w:World)(h:aH E w s)(D:aR E.c s x=true):Calls prog 139 #[E.R,x] w fun e w'=>e=.returned (.bool true)/\au E (am s) w w':=by have O:=pv h D;have I:=h.most;have q:=hid D;have y:=hid (bL E s x w h);clear D;(go_enter func139,ntmps139);go_wp2_with fail;refine y.out.mono ?_;rw[q.out];rintro e w'⟨rfl,hb⟩;have M:=(bX.refl h).step hb;obtain⟨c0,c1,c2,c3,c4,J⟩:=M.rd.cells;have z:=hid J;have f1:=J 1;clear hb J;go_wp2_with fail;go_ret;exact⟨rfl,M.moved.setAt (s.at_+1) (by omega)⟩
theorem aW(E:bC)(s:St)(x:ByteArray)(w:World)(h:aH E w s)(D:aR E.c s x=false):Calls prog 139 #[E.R,x] w fun e w'=>e=.returned (.bool false)/\bX E s w w':=by have J:=hid D;have M:=hid (bL E s x w h);clear D;(go_enter func139,ntmps139);go_wp2_with fail;refine M.out.mono ?_;rw[J.out];rintro e w'⟨rfl,hb⟩;have I:=(bX.refl h).step hb;clear hb;go_wp2_with fail;go_ret;exact⟨rfl,I⟩
theorem cW(E:bC)(s:St)(x:ByteArray)(w:World)(h:aH E w s)(D:aR E.c s x=true):Calls prog 90 #[E.R,x] w fun e w'=>e=.returned (.tuple #[])/\au E (am s) w w':=by have J:=hid (aS E s x w h D);clear D h;(go_enter func90,ntmps90);go_wp2_with fail;refine J.out.mono ?_;rintro e w'⟨rfl,I⟩;go_wp2_with fail;go_end0;exact⟨rfl,I⟩
theorem dN(E:bC)(s:St)(x:ByteArray)(w:World)(h:aH E w s)(D:aR E.c s x=false):Calls prog 90 #[E.R,x] w fun e w'=>e=ag (ar E.c s)/\Below w w w':=by have J:=hid (aW E s x w h D);clear D h;(go_enter func90,ntmps90);go_wp2_with fail;refine J.out.mono ?_;rintro e w'⟨rfl,I⟩;go_wp2_with fail;refine(dh E s w' I.rd).mono ?_;rintro e w2⟨rfl,hb⟩;unfold ag;exact⟨rfl,rfl,aE I.bel hb⟩
theorem Bz(E:bC)(s:St)(w:World)(h:aH E w s):Calls prog 140 #[E.R] w fun e w'=>e=.returned (.bool (dK E.c s))/\bX E s w w':=by have D:=bX.refl h;have I:dK E.c s=(aR E.c s ⟨#[59]⟩||aR E.c s ⟨#[10]⟩):=rfl;have M:=hid (fun w'(h:aH E w' s)=>bL E s ⟨#[59]⟩ w' h);have J:=hid (fun w'(h:aH E w' s)=>bL E s ⟨#[10]⟩ w' h);rw[I];clear I;generalize aR E.c s ⟨#[59]⟩=a at *;generalize aR E.c s ⟨#[10]⟩=b at *;cases a<;>cases b;all_goals(go_enter func140,ntmps140);go_wp2_with fail;refine(M.out _ h).mono ?_;rintro e w'⟨rfl,hb⟩;replace D:=D.step hb;clear hb;go_wp2_with (go_at_call 94;refine(J.out _ D.rd).mono ?_;rintro e w'⟨rfl,hb⟩;replace D:=D.step hb;clear hb);go_ret;exact⟨rfl,D⟩
theorem uh(E:bC)(s:St)(w:World)(h:aH E w s):Calls prog 325 #[E.R] w fun e w'=>e=.returned (.bool (iG E.c s))/\bX E s w w':=by have D:=bX.refl h;have I:iG E.c s=(aR E.c s ⟨#[44]⟩||aR E.c s ⟨#[93]⟩):=rfl;have M:=hid (fun w'(h:aH E w' s)=>bL E s ⟨#[44]⟩ w' h);have J:=hid (fun w'(h:aH E w' s)=>bL E s ⟨#[93]⟩ w' h);rw[I];clear I;generalize aR E.c s ⟨#[44]⟩=a at *;generalize aR E.c s ⟨#[93]⟩=b at *;cases a<;>cases b;all_goals(go_enter func325,ntmps325);go_wp2_with fail;refine(M.out _ h).mono ?_;rintro e w'⟨rfl,hb⟩;replace D:=D.step hb;clear hb;go_wp2_with (go_at_call 94;refine(J.out _ D.rd).mono ?_;rintro e w'⟨rfl,hb⟩;replace D:=D.step hb;clear hb);go_ret;exact⟨rfl,D⟩
theorem fJ(E:bC)(s:St)(w:World)(h:aH E w s):Calls prog 93 #[E.R] w fun e w'=>e=.returned (.bool (dK E.c s))/\au E (dL E.c s) w w':=by
 have x:=hid (Bz E s w h);have M:dL E.c s=if dK E.c s=true then am s else s:=rfl;have O:dK E.c s=true->s.at_<E.c.toks.length:=fun hb=>by
  unfold dK at hb;rcases Bool.or_eq_true_iff.1 hb with J|J
  ·exact pv h J
  ·exact pv h J
 have I:=h.most;rw[M];clear M;generalize dK E.c s=a at *;cases a
 ·(go_enter func93,ntmps93);go_wp2_with fail;refine x.out.mono ?_;rintro e w'⟨rfl,D⟩;go_wp2_with fail;go_ret;exact⟨rfl,D.moved⟩
 ·have y:=O rfl;clear O;(go_enter func93,ntmps93);go_wp2_with fail;refine x.out.mono ?_;rintro e w'⟨rfl,D⟩;obtain⟨c0,c1,c2,c3,c4,q⟩:=D.rd.cells;have f1:=q 1;clear q;go_wp2_with fail;go_ret;exact⟨rfl,D.moved.setAt (s.at_+1) (by omega)⟩
theorem GY(E:bC)(s:St)(D:(aj E.c s.at_).kind=1):s.at_<E.c.toks.length:=by
 rcases kN s.at_ E.c.toks.length with h|h
 ·exact h
 ·rw[mA E.c s.at_ h]at D;simp at D
theorem fK(E:bC)(s:St)(w:World)(h:aH E w s)(O:(aj E.c s.at_).kind=1):Calls prog 92 #[E.R] w fun e w'=>e=.returned (.string (aj E.c s.at_).text)/\au E (am s) w w':=by have y:=GY E s O;have J:=h.most;have x:=hid (bh E s w h);generalize aj E.c s.at_=t at *;obtain⟨tk,tt,tp⟩:=t;unfold eR at x;simp only at *;subst O;(go_enter func92,ntmps92);go_wp2_with fail;refine x.out.mono ?_;rintro e w'⟨rfl,hb⟩;have I:=(bX.refl h).step hb;obtain⟨c0,c1,c2,c3,c4,q⟩:=I.rd.cells;have f1:=q 1;have D:=I.rd.lt;have M:=ve D;clear q;go_wp2_with fail;go_ret;exact⟨rfl,(I.moved.setAt (s.at_+1) (by omega)).alloc _⟩
theorem lj(E:bC)(s:St)(w:World)(h:aH E w s)(M:¬ (aj E.c s.at_).kind=1):Calls prog 92 #[E.R] w fun e w'=>e=ag (ar E.c s)/\Below w w w':=by have I:=hid (bh E s w h);generalize aj E.c s.at_=t at *;obtain⟨tk,tt,tp⟩:=t;unfold eR at I;simp only at *;(go_enter func92,ntmps92);go_wp2_with fail;refine I.out.mono ?_;rintro e w'⟨rfl,hb⟩;have D:=((bX.refl h).step hb).alloc (.cells #[.int .i64 tk,.string tt,.int .i64 tp] 105);(have J:(tk != 1)=true:=by simpa using M);go_wp2_with fail;refine(dh E s _ D.rd).mono ?_;rintro e w2⟨rfl,hb⟩;unfold ag;exact⟨rfl,rfl,aE D.bel hb⟩
theorem Fl(E:bC)(s:St)(w:World)(h:aH E w s):Calls prog 264 #[E.R] w fun e w'=>e=.returned (.bool (AC E.c s))/\bX E s w w':=by
 have D:=bX.refl h;have I:AC E.c s=((aj E.c s.at_).kind==1||(aR E.c s ⟨#[91]⟩||(aR E.c s ⟨#[40]⟩||aR E.c s ⟨#[102,117,110,99]⟩))):=rfl;have J:=hid (bh E s w h);have q:=hid (fun w'(h:aH E w' s)=>bL E s ⟨#[91]⟩ w' h);have O:=hid (fun w'(h:aH E w' s)=>bL E s ⟨#[40]⟩ w' h);have M:=hid (fun w'(h:aH E w' s)=>bL E s ⟨#[102,117,110,99]⟩ w' h);rw[I];clear I;generalize aR E.c s ⟨#[91]⟩=a at *;generalize aR E.c s ⟨#[40]⟩=b at *;generalize aR E.c s ⟨#[102,117,110,99]⟩=d at *;generalize aj E.c s.at_=t at *;obtain⟨tk,tt,tp⟩:=t;unfold eR at J;simp only at *;cases x:(tk==1)<;>cases a<;>cases b<;>cases d;all_goals
  (go_enter func264,ntmps264);go_wp2_with fail;refine J.out.mono ?_;rintro e w'⟨rfl,hb⟩;replace D:=D.step hb;clear hb;go_wp2_with (first
   |(go_at_call 94;with_reducible refine(q.out _ D.rd).mono ?_;rintro e w'⟨rfl,hb⟩;replace D:=D.step hb;clear hb)
   |(go_at_call 94;with_reducible refine(O.out _ D.rd).mono ?_;rintro e w'⟨rfl,hb⟩;replace D:=D.step hb;clear hb)
   |(go_at_call 94;with_reducible refine(M.out _ D.rd).mono ?_;rintro e w'⟨rfl,hb⟩;replace D:=D.step hb;clear hb))
  go_ret;exact⟨rfl,D⟩
theorem aI(a k:Int)(t:ByteArray)(v:Value)(w:World)(D:∃A n c,v=.slice A n c):Calls prog 91 #[a,k,t,v] w fun e w'=>e=.returned (.agg #[k,t,v,a])/\Below w w w':=by obtain⟨A,n,c,rfl⟩:=D;(go_enter func91,ntmps91);go_wp2_with fail;refine jD (v:=.agg #[k,t,.slice A n c,a]) (by simp[results,results91,go_sem]) rfl ⟨rfl,?_⟩;exact bel
def ic(E:bC)(w:World)(r:d5 Nd)(e:Ending)(w':World):Prop:=
 match r with
 | .ok n s=>(∃v,e=.returned v/\aq (fun b=>w.heap.size<=b) w' v n)/\au E s w w'
 | .fail p=>e=ag p/\w.grownBy w' (some E.R)
 | .out=>False
def cS(X:Nat->Prop)(w:World)(v:Value)(l:List Nd):Prop:=
 ∃A cap xs,v=.slice A l.length cap/\l.length<=cap/\bK X w 4 A l.length xs/\ae X w l xs
def GZ(E:bC)(w:World)(r:d5 (List Nd))(e:Ending)(w':World):Prop:=
 match r with
 | .ok l s=>(∃v,e=.returned v/\cS (fun b=>w.heap.size<=b) w' v l)/\au E s w w'
 | .fail p=>e=ag p/\w.grownBy w' (some E.R)
 | .out=>False
def eu(E:bC)(k:FuncId)(args:Array Value)(m:R Nd)(w0:World):Prop:=
 ∀(w:World)(s:St),w0.grownBy w (some E.R)->aH E w s->m E.c s≠.out->Calls prog k args w (ic E w (m E.c s))
theorem eu.grown{E:bC}{k:FuncId}{args:Array Value}{m:R Nd}{w0 w1:World}(h:eu E k args m w0)(D:w0.grownBy w1 (some E.R)):eu E k args m w1:=
 fun w s hw hr hm=>h w s (D.trans hw) hr hm
theorem pw:(prog.info? 41).map (fun i=>(i.zero,i.size,i.bytes))=some (some (.agg #[.int .i64 0,.string ⟨#[]⟩,.slice none 0 0,.int .i64 0]),4,56):=by kernel_rfl
structure mB(B:Nat)(w:World)(v:Value)(l:List Nd):Prop where
 out:∃xs,w.ownsRow B 41 4 v l.length xs/\ae (fun b=>B<=b/\some b≠v.ownBlock) w l xs
theorem mB.nil(B:Nat)(w:World):mB B w (.slice none 0 0) []:=⟨[],kP _ _ _ _,ae.nil⟩
theorem mB.keep{B:Nat}{w w':World}{v:Value}{l:List Nd}(h:mB B w v l)(J:∀b,B<=b->b<w.heap.size->w'.heap[b]? = w.heap[b]?):mB B w' v l:=by
 obtain⟨xs,O,q⟩:=h.out;refine⟨xs,⟨O.1,?_⟩,q.keep fun b hb D=>J b hb.1 D⟩;rcases O.2 with x|⟨g,cap,cur,e,M,I,r⟩
 ·exact .inl x
 ·refine .inr ⟨g,cap,cur,e,M,?_,r⟩;have D:g<w.heap.size:=by
   rcases kN g w.heap.size with D|hge
   ·exact D
   ·rw[kH hge]at I;cases I
  exact(J g M D).trans I
theorem mB.grown{B R:Nat}{w w':World}{v:Value}{l:List Nd}(h:mB B w v l)(D:w.grownBy w' (some R))(I:R<B):mB B w' v l:=
 h.keep fun b hb hlt=>D.block b hlt (fun e=>by injection e;omega)
theorem mB.values{B:Nat}{w:World}{v:Value}{l:List Nd}(h:mB B w v l):cS (fun b=>B<=b) w v l:=by
 obtain⟨xs,D,J⟩:=h.out;rcases D.2 with⟨rfl,z⟩|⟨g,cap,cur,rfl,y,x,I,_,O,M⟩
 ·exact⟨none,0,xs,by rw[z],by omega,⟨D.1,fun h=>by omega⟩,J.mono fun b hb _=>hb.1⟩
 ·refine⟨_,cap,xs,rfl,I,⟨D.1,fun _=>⟨g,0,rfl,y,fun j u hu=>?_⟩⟩,J.mono fun b hb _=>hb.1⟩;(have q:j<l.length*4:=by have:=(List.getElem?_eq_some_iff.1 hu).1;rw[D.1]at this;exact this);rw[kL];unfold World.cell?;rw[x];simp only[qT,gX,kK];rw[<-M,vp q]at hu;rw[<-hu];simp
theorem mB.push{B S:Nat}{w1 w2:World}{u v':Value}{l:List Nd}{n:Nd}{o:Obj}{cs:List Value}{xs:List Value}
  (h:ae (fun b=>B<=b/\some b≠u.ownBlock) w1 l xs)
  (x:aY (fun b=>S<=b) w1 n cs)(y:B<=S)(O:∀g,u.ownBlock=some g->g<S)
  (I:w2.ownsRow B 41 4 v' (l.length+1) (xs++cs))(q:(w1.alloc o).grownBy w2 u.ownBlock)(J:v'.ownBlock=u.ownBlock\/v'.ownBlock=some (w1.alloc o).heap.size):mB B w2 v' (l++[n]):=by
 refine⟨xs++cs,by rw[gK];exact I,?_⟩;have h1:ae (fun b=>B<=b/\some b≠u.ownBlock/\b<w1.heap.size) w1 (l++[n]) (xs++cs):=
  (h.mono fun b hb D=>⟨hb.1,hb.2,D⟩).app (ae.one (x.mono fun b hb D=>⟨gN y hb,fun e=>by have:=O b e.symm;omega,D⟩))
 have z:=h1.keep (w':=w2) fun b hb D=>(q.block b (by rw[gP];omega) hb.2.1).trans (gS w1 o b D);refine z.mono fun b hb _=>⟨hb.1,?_⟩;rcases J with e|e
 ·rw[e];exact hb.2.1
 ·rw[e,gP];intro M;injection M with M;omega
theorem rf(n:Nd)(A:Option Addr)(cap:Nat):∀u∈[Value.int .i64 n.kind,.string n.text,.slice A n.kids.length cap,.int .i64 n.pos],u.oneCell'=true:=by intro u D;simp only[vb,qN,xj]at D;rcases D with rfl|rfl|rfl|rfl<;>rfl
theorem mB.lt{B:Nat}{w:World}{v:Value}{l:List Nd}(h:mB B w v l):∀g,v.ownBlock=some g->B<=g/\g<w.heap.size:=by obtain⟨xs,D,_⟩:=h.out;exact fun g hg=>D.lt g hg
structure G0(E:bC)(s:St)(B:Nat)(w w1 w2:World)(v':Value)(l:List Nd):Prop where
 own:mB B w2 v' l
 mov:au E s w w2
 old:∀b,b<w1.heap.size->(B<=b->False)->w2.heap[b]? = w1.heap[b]?
 le:w1.heap.size<=w2.heap.size
theorem My{o:Oper}{a:Act}{K:Act->World->Prop}{Q:Exit->Act->World->Prop}(s x:Operand)
  (ho:o.op=.call { callee:=.builtin .append,args:=#[s,x],argTypes:=#[39,39] })
  (E:bC)(st:St)(B S:Nat)(w w1:World)(u:Value)(l:List Nd)(n:Nd)(A:Option Addr)(cap:Nat)(hs:a.eval s=u)(hx:a.eval x=.slice (some ⟨w1,0,none⟩) 1 1)
  (hO:mB B w1 u l)(D:au E st w w1)(gd:w.heap.size<=B)(hR:E.R<B)(hB:B<=S)(hS:S<=w1.heap.size)(hu:∀g,u.ownBlock=some g->g<S)(hl:l.length<=1000000)
  (hV:aY (fun b=>S<=b) w1 n [.int .i64 n.kind,.string n.text,.slice A n.kids.length cap,.int .i64 n.pos])
  (h:∀g c w2,G0 E st B w w1 w2 (.slice (some ⟨g,0,none⟩) (l.length+1) c) (l++[n])->K (a.put o.dst (.slice (some ⟨g,0,none⟩) (l.length+1) c)) w2):
  o.wp prog a (w1.alloc (.cells (nv n A cap) 41)) K Q:=by
 obtain⟨i0,hi,y,q,O⟩:=qr pw;obtain⟨xs,J,ga⟩:=hO.out;refine vE _ s x 39 ho B 41 i0 _ 4 56 underlying39 hi y q O rfl (by omega) u l.length xs hs (J.alloc _) ⟨w1,0,none⟩ 1 1 [.int .i64 n.kind,.string n.text,.slice A n.kids.length cap,.int .i64 n.pos] hx rfl
  (qQ (cs:=(nv n A cap)) (kJ _ _)) (rf n A cap) (by omega) (by unfold maxLen;omega) (by omega) (by rw[gP];omega) _ rfl ?_
 intro g c w2 hown1 I gb _;have z:∀g,u.ownBlock=some g->B<=g:=fun g I=>(hO.lt g I).1;have hold:∀b,b<w1.heap.size->(B<=b->False)->w2.heap[b]? = w1.heap[b]? :=fun b hb hBb=>(I.block b (by rw[gP];omega) (fun e=>hBb (z b e.symm))).trans (gS w1 _ b hb);have M:w1.heap.size<=w2.heap.size:=gN (by rw[gP];omega) I.size;refine h g c w2 ⟨mB.push ga hV hB hu hown1 I ?_,⟨D.rd.keep fun b hb=>?_,?_⟩,hold,M⟩
 ·rcases gb with e|e
  ·exact .inl (by rw[e];rfl)
  ·exact .inr (by rw[e];rfl)
 ·exact hold b (Nat.lt_of_le_of_lt hb D.rd.lt) (fun h2=>by omega)
 ·refine⟨I.os.trans D.gr.os,I.tape.trans D.gr.tape,I.output.trans D.gr.output,gN D.gr.size M,fun k hk hne=>?_⟩;exact(hold k (jY hk D.gr.size) (fun h2=>by omega)).trans (D.gr.block k hk hne)
theorem BB{ops:Array Oper}{rest:List Oper}{o:Oper}{a:Act}{Q:Exit->Act->World->Prop}(I:o.guard=none)(s x:Operand)
  (q:o.op=.call { callee:=.builtin .append,args:=#[s,x],argTypes:=#[39,39] })
  (E:bC)(st:St)(B S:Nat)(w w1:World)(u:Value)(l:List Nd)(n:Nd)(A:Option Addr)(cap:Nat)(O:a.eval s=u)(J:a.eval x=.slice (some ⟨w1,0,none⟩) 1 1)
  (hO:mB B w1 u l)(y:au E st w w1)(D:w.heap.size<=B)(hR:E.R<B)(hB:B<=S)(hS:S<=w1.heap.size)(M:∀g,u.ownBlock=some g->g<S)(z:l.length<=1000000)
  (hV:aY (fun b=>S<=b) w1 n [.int .i64 n.kind,.string n.text,.slice A n.kids.length cap,.int .i64 n.pos])
  (h:∀g c w2,G0 E st B w w1 w2 (.slice (some ⟨g,0,none⟩) (l.length+1) c) (l++[n])->wpList prog ops Q rest (a.put o.dst (.slice (some ⟨g,0,none⟩) (l.length+1) c)) w2):
  wpList prog ops Q (o::rest) a (w1.alloc (.cells (nv n A cap) 41)):=
 vJ I fun _ hK=>My s x q E st B S w w1 u l n A cap O J hO y D hR hB hS M z hV fun g c w2 hp=>hK _ _ (h g c w2 hp)
theorem lk(E:bC)(k:FuncId)(first cap:Array Value)(part:R Nd)(en:ByteArray)(g:Nat)(s:St)(w:World)(h:aH E w s)
  (hk:∀a w,(callFunc k a).run prog w=.ok (.enter k a) w)(hp:eu E k (first++cap) part w)(gj:aU part en g [] E.c s≠.out)(gu:g<=1000000):
  Calls prog 196 #[E.R,en,.func (.func k) first cap] w (GZ E w (aU part en g [] E.c s)):=by
 generalize hres:aU part en g [] E.c s=res at *;have ga:=hid hres;have HP:=hid hp;have gp:=hid gj;obtain⟨i0,hi,g2,g0,gz⟩:=qr pw;clear hres hp gj;(go_enter func196,ntmps196);go_wp2_with fail;go_loopg [7] g (fun g u7 wr=>∃(acc:List Nd)(s':St),mB w.heap.size wr u7 acc/\acc.length+g<=1000000/\aU part en g acc E.c s'=res/\au E s' w wr)
 case atStart=>exact⟨[],s,mB.nil _ _,by simpa using gu,ga.out,au.refl h⟩
 case round=>
  obtain⟨acc,x,y,gy,hr,hm⟩:=hrel;have HR:=hid hr;have HO:=hid y;clear hr y ga;cases gk with
  |zero=>exact absurd HR.out.symm (by rw[aU];exact gp.out)
  | succ g1=>
   cases hA:aR E.c x en with
   |true=>have HF:=hid (show res=.ok acc (am x)by rw[<-HR.out,aU];simp only[hA,kS]);go_wp2_with fail;refine(aS E x en _ hm.rd hA).mono ?_;rintro e w1⟨rfl,D⟩;clear hA;go_wp2_with fail;go_ret;rw[HF.out];exact⟨⟨_,rfl,(HO.out.grown D.gr (h.lt)).values⟩,hm.trans D⟩
   | false=>
    have HE:=hid (show(part E.c x).bind (fun n s2=>if aR E.c s2 en then .ok (acc++[n]) (am s2)else(need ⟨#[44]⟩ E.c s2).bind fun _ s3=>aU part en g1 (acc++[n]) E.c s3)=res by rw[<-HR.out,aU];simp only[hA,gX,kK]);clear HR;go_wp2_with fail;refine(aW E x en _ hm.rd hA).mono ?_;rintro e w1⟨rfl,gd⟩;clear hA;have D:=hm.trans gd.moved;have gh:=hid (HO.out.grown gd.moved.gr h.lt);clear HO hm gd;go_wp2_with fail;cases z:part E.c x with
    |out=>exact absurd HE.out.symm (by rw[z];exact gp.out)
    |fail p=>have HF:Hid (res=.fail p):=hid (by rw[<-HE.out,z];rfl);refine(HP.out w1 x D.gr D.rd (by rw[z];exact nofun)).mono ?_;rw[z];rintro e w2⟨rfl,gt⟩;unfold ag;refine⟨rfl,?_⟩;rw[HF.out];exact⟨rfl,D.gr.trans gt⟩
    | ok n s2=>
     have q:=hid (show(if aR E.c s2 en then .ok (acc++[n]) (am s2)else(need ⟨#[44]⟩ E.c s2).bind fun _ s3=>aU part en g1 (acc++[n]) E.c s3)=res by rw[<-HE.out,z];rfl);refine(HP.out w1 x D.gr D.rd (by rw[z];exact nofun)).mono ?_;rw[z];rintro e w2⟨⟨v,rfl,hv⟩,O⟩;obtain⟨A,cp,rfl,hC⟩:=hv.toC;have gs:=D.gr.size;have gm:=O.gr.size;have I:=h.lt;have HU:Hid (∀g,u7.ownBlock=some g->g<w1.heap.size):=hid (fun g hg=>(gh.out.lt g hg).2);have gn:=hid (gh.out.grown O.gr I);have HC:=hid hC;have gq:=hid (D.trans O);(have ge:acc.length<=1000000:=by omega);clear z HE HP hv hC D O gh;go_wp2_with (at_builtin;refine BB rfl (.tmp 12) (.tmp 15) rfl E s2 w.heap.size w1.heap.size w w2 u7 acc n A cp rfl rfl gn.out gq.out (gB _) I gs gm HU.out ge HC.out ?_;intro g3 c3 w3 hp3);have M:=hp3.mov;have gg:=hid hp3.own;clear hp3 gn gq HC HU;cases hB:aR E.c s2 en with
     |true=>have HF:=hid (show res=.ok (acc++[n]) (am s2)by rw[<-q.out];simp only[hB,kS]);refine(aS E s2 en _ M.rd hB).mono ?_;rintro e w4⟨rfl,J⟩;clear hB q;go_wp2_with fail;go_ret;rw[HF.out];exact⟨⟨_,rfl,(gg.out.grown J.gr I).values⟩,M.trans J⟩
     | false=>
      have gi:=hid (show(need ⟨#[44]⟩ E.c s2).bind (fun _ s3=>aU part en g1 (acc++[n]) E.c s3)=res by rw[<-q.out];simp only[hB,gX,kK]);refine(aW E s2 en _ M.rd hB).mono ?_;rintro e w4⟨rfl,gb⟩;have J:=M.trans gb.moved;have gw:=hid (gg.out.grown gb.moved.gr I);clear hB q gg gb M;go_wp2_with fail;cases hD:aR E.c s2 ⟨#[44]⟩with
      |true=>
       have gx:Hid (aU part en g1 (acc++[n]) E.c (am s2)=res):=hid (by rw[<-gi.out,need];simp only[hD,kS,d5.bind_ok]);refine(cW E s2 ⟨#[44]⟩ _ J.rd hD).mono ?_;rintro e w5⟨rfl,gl⟩;clear hD gi;go_wp2_with fail;go_roundg g1
       case measure=>omega
       case rel=>exact⟨acc++[n],am s2,gw.out.grown gl.gr I,by rw[gK];simp;omega,gx.out,J.trans gl⟩
      |false=>have HF:=hid (show res=.fail (ar E.c s2)by rw[<-gi.out,need];simp only[hD,gX,kK,d5.bind_fail]);refine(dN E s2 ⟨#[44]⟩ _ J.rd hD).mono ?_;rintro e w5⟨rfl,gv⟩;unfold ag;refine⟨rfl,?_⟩;rw[HF.out];exact⟨rfl,J.gr.trans (ac _ gv)⟩
structure ak(X:Nat->Prop)(w w':World):Prop where
 size:w.heap.size<=w'.heap.size
 block:∀b,X b->b<w.heap.size->w'.heap[b]? = w.heap[b]?
section
variable {X:Nat->Prop} {w w' w'':World}
theorem ak.refl(X:Nat->Prop)(w:World):ak X w w:=⟨gB _,fun _ _ _=>rfl⟩
theorem ak.trans(h:ak X w w')(h':ak X w' w''):ak X w w'':=
 ⟨gN h.size h'.size,fun b hb hlt=>(h'.block b hb (jY hlt h.size)).trans (h.block b hb hlt)⟩
theorem ak.alloc(h:ak X w w')(o:Obj):ak X w (w'.alloc o):=
 h.trans ⟨by rw[gP];omega,fun b _ hlt=>gS w' o b hlt⟩
theorem ak.drew(h:ak X w w'):ak X w w'.drew:=h.trans ⟨gB _,fun _ _ _=>rfl⟩
theorem ak.drewN(h:ak X w w')(n:Nat):ak X w (w'.drewN n):=h.trans ⟨(az (gC 0 _) n).size,fun b _ hlt=>(az (gC w'.heap.size w') n).block b hlt⟩
theorem ak.setCell(h:ak X w w'){p:Addr}(D:X p.block->False)(u:Value):ak X w (w'.setCell p u):=
 h.trans ⟨by simp[World.setCell],fun b hb _=>gF w' p u b (fun e=>D (e▸hb))⟩
theorem ak.of_grown{r:Option Nat}(D:w.grownBy w' r)(I:∀g,r=some g->X g->False:=by intro g e hX;injection e with e;(try dsimp only at hX);omega):ak X w w':=
 ⟨D.size,fun b hb hlt=>D.block b hlt (fun e=>I b e.symm hb)⟩
theorem ak.of_below{B:Nat}(D:Below B w w')(I:∀b,X b->b<w.heap.size->b<B):ak X w w':=
 ⟨D.size,fun b hb hlt=>D.block b (I b hb hlt)⟩
theorem aq.kept{v:Value}{n:Nd}(h:aq X w v n)(D:ak X w w'):aq X w' v n:=h.keep D.block
theorem cS.kept{v:Value}{l:List Nd}(h:cS X w v l)(D:ak X w w'):cS X w' v l:=by obtain⟨A,cap,xs,e,M,J,I⟩:=h;exact⟨A,cap,xs,e,M,J.keep D.block,I.keep D.block⟩
theorem cS.mono{Y:Nat->Prop}{v:Value}{l:List Nd}(h:cS X w v l)(D:∀b,X b->b<w.heap.size->Y b):cS Y w v l:=by obtain⟨A,cap,xs,e,M,J,I⟩:=h;exact⟨A,cap,xs,e,M,J.mono D (by omega),I.mono D⟩
theorem ah{g:Nat}{t:TypeId}{a b c d:Value}(h:aa w g t #[a,b,c,d]):w.cell? ⟨g,0,none⟩=some a/\w.cell? ⟨g,1,none⟩=some b/\w.cell? ⟨g,2,none⟩=some c/\w.cell? ⟨g,3,none⟩=some d /\
  w.frozen? ⟨g,0,none⟩=false/\w.frozen? ⟨g,1,none⟩=false/\w.frozen? ⟨g,2,none⟩=false/\w.frozen? ⟨g,3,none⟩=false:=by have c0:=h.cell 0;have c1:=h.cell 1;have c2:=h.cell 2;have c3:=h.cell 3;simp at c0 c1 c2 c3;exact⟨c0,c1,c2,c3,h.frozen 0,h.frozen 1,h.frozen 2,h.frozen 3⟩
end
def bg:Array Value:=#[.int .i64 0,.string ⟨#[]⟩,.slice none 0 0,.int .i64 0]
theorem dx{fn:Func}{q:Tmp}(I:fn.results = #[.cell q 41])(tmps:Array Value){w:World}{g:Nat}{a b c d:Value}(J:tmps.getD q undef=.pointer (some ⟨g,0,none⟩))(hb:aa w g 41 #[a,b,c,d]):
  (results fn tmps).run prog w=.ok (.agg #[a,b,c,d]) w:=by obtain⟨x,h,O,M,_,_,_,_⟩:=ah hb;unfold results;rw[I];(have D:tmps[q]?.getD undef=.pointer (some ⟨g,0,none⟩):=by simpa using J);simp[D,go_sem,x,h,O,M]
theorem BC(E:bC)(k:FuncId)(first cap:Array Value)(part:R Nd)(s:St)(w:World)(h:aH E w s)
  (hk:∀a w,(callFunc k a).run prog w=.ok (.enter k a) w)(hp:eu E k (first++cap) part w)(q:bZ part E.c s≠.out):
  Calls prog 202 #[E.R,.func (.func k) first cap] w (ic E w (bZ part E.c s)):=by
 generalize hres:bZ part E.c s=res at *;have D:=hid hres;have HP:=hid hp;have ge:=hid q;obtain⟨c0,c1,c2,c3,c4,f0⟩:=h.cells;have f3:=f0 3;have x:=h.lt;have gg:=ve x;clear hres hp q f0;(go_enter func202,ntmps202);go_wp2_with fail;have I:au E { s with head:=false } w ((w.setCell ⟨E.R,3,none⟩ (.bool false)).alloc (.cells bg 41)):=((au.refl h).setHead false).alloc _;(have gd:aa ((w.setCell ⟨E.R,3,none⟩ (.bool false)).alloc (.cells bg 41)) w.heap.size 41 bg:=by have:=aa.new (w.setCell ⟨E.R,3,none⟩ (.bool false)) 41 bg;simpa[World.setCell]using this);cases M:part E.c { s with head:=false }with
 |out=>exact absurd D.out.symm (by rw[bZ,M];exact ge.out)
 |fail p=>have HF:Hid (res=.fail p):=hid (by rw[<-D.out,bZ,M];rfl);refine(HP.out _ _ I.gr I.rd (by rw[M];exact nofun)).mono ?_;rw[M];rintro e w2⟨rfl,ga⟩;unfold ag;refine⟨rfl,?_⟩;rw[HF.out];exact⟨rfl,I.gr.trans ga⟩
 |ok n s1=>
  have HF:=hid (show res=.ok n { s1 with head:=s.head }by rw[<-D.out,bZ,M];rfl);refine(HP.out _ _ I.gr I.rd (by rw[M];exact nofun)).mono ?_;rw[M];rintro e w2⟨⟨v,rfl,hv⟩,J⟩;obtain⟨A,cp,rfl,hC⟩:=hv.toC;have O:=gd.grown J.gr;obtain⟨d0,d1,d2,d3,e0,e1,e2,e3⟩:=ah O;obtain⟨x0,x1,x2,x3,x4,y0⟩:=J.rd.cells;have y3:=y0 3;have gi:=J.rd.lt;have gh:=O.lt;have y:=J.gr.size;have z:=I.trans J;simp only[gP]at y;clear M D HP y0;go_wp2_with fail;have gb:=((((O.far (p:=⟨E.R,3,none⟩) (by show w.heap.size≠E.R;omega) (.bool s.head)).set_ 0 (.int .i64 n.kind)).set_ 1 (.string n.text)).set_ 2 (.slice A n.kids.length cp)).set_ 3 (.int .i64 n.pos) |>.alloc (.cells (nv n A cp) 41);refine jD (dx rfl _ (by rfl) (by simpa[bg]using gb)) rfl ?_;rw[HF.out];refine⟨⟨_,rfl,(hv.kept ?_).mono ?_⟩,?_⟩
  ·(repeat'(first|with_reducible exact ak.refl _ _|with_reducible refine ak.alloc ?_ _|with_reducible refine ak.setCell ?_ ?_ _|with_reducible refine ak.drew ?_ |with_reducible refine ak.drewN ?_ _|(intro hX;simp at hX;omega)))
  ·intro b hb _;simp at hb;omega
  ·have gj:=z.setHead s.head;(repeat'(first|with_reducible assumption|with_reducible refine au.alloc ?_ _|with_reducible refine au.own ?_ ?_ ?_ _|with_reducible refine au.drew ?_ |with_reducible refine au.drewN ?_ _|(simp<;>omega)|omega))
theorem dH(E:bC)(k:FuncId)(first cap:Array Value)(part:R Nd)(s:St)(w:World)(h:aH E w s)
  (hk:∀a w,(callFunc k a).run prog w=.ok (.enter k a) w)(hp:eu E k (first++cap) part w)(q:cV part E.c s≠.out):
  Calls prog 296 #[E.R,.func (.func k) first cap] w (ic E w (cV part E.c s)):=by
 generalize hres:cV part E.c s=res at *;have D:=hid hres;have HP:=hid hp;have ge:=hid q;obtain⟨c0,c1,c2,c3,c4,f0⟩:=h.cells;have f3:=f0 3;have x:=h.lt;have gg:=ve x;clear hres hp q f0;(go_enter func296,ntmps296);go_wp2_with fail;have I:au E { s with head:=true } w ((w.setCell ⟨E.R,3,none⟩ (.bool true)).alloc (.cells bg 41)):=((au.refl h).setHead true).alloc _;(have gd:aa ((w.setCell ⟨E.R,3,none⟩ (.bool true)).alloc (.cells bg 41)) w.heap.size 41 bg:=by have:=aa.new (w.setCell ⟨E.R,3,none⟩ (.bool true)) 41 bg;simpa[World.setCell]using this);cases M:part E.c { s with head:=true }with
 |out=>exact absurd D.out.symm (by rw[cV,M];exact ge.out)
 |fail p=>have HF:Hid (res=.fail p):=hid (by rw[<-D.out,cV,M];rfl);refine(HP.out _ _ I.gr I.rd (by rw[M];exact nofun)).mono ?_;rw[M];rintro e w2⟨rfl,ga⟩;unfold ag;refine⟨rfl,?_⟩;rw[HF.out];exact⟨rfl,I.gr.trans ga⟩
 |ok n s1=>
  have HF:=hid (show res=.ok n { s1 with head:=s.head }by rw[<-D.out,cV,M];rfl);refine(HP.out _ _ I.gr I.rd (by rw[M];exact nofun)).mono ?_;rw[M];rintro e w2⟨⟨v,rfl,hv⟩,J⟩;obtain⟨A,cp,rfl,hC⟩:=hv.toC;have O:=gd.grown J.gr;obtain⟨d0,d1,d2,d3,e0,e1,e2,e3⟩:=ah O;obtain⟨x0,x1,x2,x3,x4,y0⟩:=J.rd.cells;have y3:=y0 3;have gi:=J.rd.lt;have gh:=O.lt;have y:=J.gr.size;have z:=I.trans J;simp only[gP]at y;clear M D HP y0;go_wp2_with fail;have gb:=((((O.far (p:=⟨E.R,3,none⟩) (by show w.heap.size≠E.R;omega) (.bool s.head)).set_ 0 (.int .i64 n.kind)).set_ 1 (.string n.text)).set_ 2 (.slice A n.kids.length cp)).set_ 3 (.int .i64 n.pos) |>.alloc (.cells (nv n A cp) 41);refine jD (dx rfl _ (by rfl) (by simpa[bg]using gb)) rfl ?_;rw[HF.out];refine⟨⟨_,rfl,(hv.kept ?_).mono ?_⟩,?_⟩
  ·(repeat'(first|with_reducible exact ak.refl _ _|with_reducible refine ak.alloc ?_ _|with_reducible refine ak.setCell ?_ ?_ _|with_reducible refine ak.drew ?_ |with_reducible refine ak.drewN ?_ _|(intro hX;simp at hX;omega)))
  ·intro b hb _;simp at hb;omega
  ·have gj:=z.setHead s.head;(repeat'(first|with_reducible assumption|with_reducible refine au.alloc ?_ _|with_reducible refine au.own ?_ ?_ ?_ _|with_reducible refine au.drew ?_ |with_reducible refine au.drewN ?_ _|(simp<;>omega)|omega))
def ui(E:bC)(k:FuncId)(args:Array Value)(m:R (List Nd))(w0:World):Prop:=
 ∀(w:World)(s:St),w0.grownBy w (some E.R)->aH E w s->m E.c s≠.out->Calls prog k args w (GZ E w (m E.c s))
theorem lD(E:bC)(k:FuncId)(first cap:Array Value)(part:R (List Nd))(s:St)(w:World)(h:aH E w s)
  (hk:∀a w,(callFunc k a).run prog w=.ok (.enter k a) w)(hp:ui E k (first++cap) part w)(M:bZ part E.c s≠.out):
  Calls prog 315 #[E.R,.func (.func k) first cap] w (GZ E w (bZ part E.c s)):=by
 generalize hres:bZ part E.c s=res at *;have I:=hid hres;have z:=hid hp;have ga:=hid M;obtain⟨c0,c1,c2,c3,c4,f0⟩:=h.cells;have f3:=f0 3;clear hres hp M f0;(go_enter func315,ntmps315);go_wp2_with fail;have D:=(au.refl h).setHead false;cases J:part E.c { s with head:=false }with
 |out=>exact absurd I.out.symm (by rw[bZ,J];exact ga.out)
 |fail p=>have HF:Hid (res=.fail p):=hid (by rw[<-I.out,bZ,J];rfl);refine(z.out _ _ D.gr D.rd (by rw[J];exact nofun)).mono ?_;rw[J];rintro e w2⟨rfl,y⟩;unfold ag;refine⟨rfl,?_⟩;rw[HF.out];exact⟨rfl,D.gr.trans y⟩
 |ok n s1=>
  have HF:=hid (show res=.ok n { s1 with head:=s.head }by rw[<-I.out,bZ,J];rfl);refine(z.out _ _ D.gr D.rd (by rw[J];exact nofun)).mono ?_;rw[J];rintro e w2⟨⟨v,rfl,hv⟩,O⟩;obtain⟨x0,x1,x2,x3,x4,y0⟩:=O.rd.cells;have y3:=y0 3;have x:=D.trans O;have gb:=h.lt;have q:=D.gr.size;clear J I z y0;go_wp2_with fail;go_ret;rw[HF.out];refine⟨⟨_,rfl,(hv.kept ?_).mono ?_⟩,?_⟩
  ·(repeat'(first|with_reducible exact ak.refl _ _|with_reducible refine ak.alloc ?_ _|with_reducible refine ak.setCell ?_ ?_ _|with_reducible refine ak.drew ?_ |with_reducible refine ak.drewN ?_ _|(intro hX;simp at hX;omega)))
  ·intro b hb _;exact gN q hb
  ·exact x.setHead s.head
def PJ(E:bC)(s:St)(b off:Nat)(k:Int)(x:ByteArray)(w:World):Prop:=
 w.cell? ⟨E.R,0,none⟩=some (.slice (some ⟨b,off,none⟩) E.c.toks.length E.cap)/\w.cell? ⟨E.R,1,none⟩=some (.int .i64 s.at_) /\
 w.cell? ⟨b,off+(s.at_+1)*3,none⟩=some (.int .i64 k)/\w.cell? ⟨b,off+(s.at_+1)*3+1,none⟩=some (.string x)
theorem G1{E:bC}{s:St}{w:World}(h:aH E w s)(D:s.at_+1<E.c.toks.length):∃b off,∀w',aH E w' s->PJ E s b off (aj E.c (s.at_+1)).kind (aj E.c (s.at_+1)).text w':=by obtain⟨b,off,eA,hb,y,x,q⟩:=h.tok _ D;refine⟨b,off,fun w' h'=>?_⟩;obtain⟨c0,c1,_,_,_,_⟩:=h'.cells;obtain⟨b',off',eA',O,J,I,M⟩:=h'.tok _ D;rw[eA]at eA' c0;injection eA' with e;injection e with e1 e2;subst e1 e2;exact⟨c0,c1,J,I⟩
theorem oF(E:bC)(s:St)(w:World)(h:aH E w s):Calls prog 195 #[E.R] w fun e w'=>e=.returned (.bool (dG E.c s))/\bX E s w w':=by
 have O:=hid (fun w'(h:aH E w' s)=>bL E s ⟨#[91]⟩ w' h);have x:=h.most;have M:=bX.refl h;by_cases D:aR E.c s ⟨#[91]⟩=true
 ·have y:=pv h D;by_cases J:s.at_+1<E.c.toks.length
  ·obtain⟨b,off,z⟩:=G1 h J;have q:=hid z;(have I:dG E.c s=((aj E.c (s.at_+1)).kind==6&&((aj E.c (s.at_+1)).text.toList==(⟨#[93]⟩:BA).toList)):=by unfold dG;rw[D,gO J,bW];unfold aj;rw[gO J];rfl);rw[I];(have g1:decide ((s.at_:Int)+1<(E.c.toks.length:Int))=true:=by simp;omega);(have g2:(0:Int)<=(s.at_:Int)+1:=by omega);(have g3:(s.at_:Int)+1<(E.c.toks.length:Int):=by omega);have g4:IntKind.i64.wrap ((s.at_:Int)+1)=(s.at_:Int)+1:=gQ _ (by omega);(have g5:((s.at_:Int)+1).toNat=s.at_+1:=by omega);rw[D]at O;clear I z D;generalize aj E.c (s.at_+1)=t at *;obtain⟨tk,tt,tp⟩:=t;simp only at *;have k0:∀n:Wd (bX E s w),n.wd.cell? ⟨E.R,0,none⟩=some (.slice (some ⟨b,off,none⟩) E.c.toks.length E.cap):=fun n=>(q.out _ n.ok.rd).1;have k1:∀n:Wd (bX E s w),n.wd.cell? ⟨E.R,1,none⟩=some (.int .i64 s.at_):=fun n=>(q.out _ n.ok.rd).2.1;have k2:∀n:Wd (bX E s w),n.wd.cell? ⟨b,off+(s.at_+1)*3,none⟩=some (.int .i64 tk):=fun n=>(q.out _ n.ok.rd).2.2.1;have k3:∀n:Wd (bX E s w),n.wd.cell? ⟨b,off+(s.at_+1)*3+1,none⟩=some (.string tt):=fun n=>(q.out _ n.ok.rd).2.2.2;(have z1:(⟨#[93]⟩:BA).toList=[93]:=by decide +kernel);rw[z1];cases h1:(tk==6)<;>cases h2:(tt.toList==[93]);all_goals
    (go_enter func195,ntmps195);go_wp2_with fail;haveI:Nonempty (Wd (bX E s w)):=⟨⟨w,M⟩⟩
    refine fh (bX E s w) (by kernel_rfl) (by kernel_rfl) M.drew ?_;(repeat(go_big_quiet_step ((go_at_call 94;rename_i n;refine(O.out _ n.ok.rd).mono ?_;rintro e w'⟨rfl,hb⟩;exact⟨rfl,⟨w',n.ok.step hb⟩,rfl⟩))));refine m7 ?_;intro n;go_wp2_with fail;go_ret;exact⟨rfl,n.ok⟩
  ·(have I:dG E.c s=false:=by unfold dG;rw[D,List.getElem?_eq_none (by omega)];rfl);rw[I];(have g1:decide ((s.at_:Int)+1<(E.c.toks.length:Int))=false:=by simp;omega);have g4:IntKind.i64.wrap ((s.at_:Int)+1)=(s.at_:Int)+1:=gQ _ (by omega);have k0:∀n:Wd (bX E s w),n.wd.cell? ⟨E.R,0,none⟩=some (.slice E.A E.c.toks.length E.cap):=fun n=>n.ok.rd.cells.1;have k1:∀n:Wd (bX E s w),n.wd.cell? ⟨E.R,1,none⟩=some (.int .i64 s.at_):=fun n=>n.ok.rd.cells.2.1;rw[D]at O;clear I D
   ·(go_enter func195,ntmps195);go_wp2_with fail;haveI:Nonempty (Wd (bX E s w)):=⟨⟨w,M⟩⟩
    refine fh (bX E s w) (by kernel_rfl) (by kernel_rfl) M.drew ?_;(repeat(go_big_quiet_step ((go_at_call 94;rename_i n;refine(O.out _ n.ok.rd).mono ?_;rintro e w'⟨rfl,hb⟩;exact⟨rfl,⟨w',n.ok.step hb⟩,rfl⟩))));refine m7 ?_;intro n;go_wp2_with fail;go_ret;exact⟨rfl,n.ok⟩
 ·(have I:dG E.c s=false:=by unfold dG;simp[D]);rw[I];rw[show aR E.c s ⟨#[91]⟩=false by simpa using D]at O;clear I D
  ·go_enter func195,ntmps195
   ·go_wp2_with fail;haveI:Nonempty (Wd (bX E s w)):=⟨⟨w,M⟩⟩
    refine fh (bX E s w) (by kernel_rfl) (by kernel_rfl) M.drew ?_;(repeat(go_big_quiet_step ((go_at_call 94;rename_i n;refine(O.out _ n.ok.rd).mono ?_;rintro e w'⟨rfl,hb⟩;exact⟨rfl,⟨w',n.ok.step hb⟩,rfl⟩))));refine m7 ?_;intro n;go_wp2_with fail;go_ret;exact⟨rfl,n.ok⟩
end
end Go.Proofs.YtcoiialmdncpfaaGreatDoor
