/-
  Parts of the proof: Tsize Tright Tright2 Gsize Rall. By an AI agent.
-/
import Derived.Test.YtiebcdeafofgdaaGreatDoorJ30
import Derived.Test.YtiebcdeafofgdaaGreatDoorJ25
import Derived.BigQuiet
import Derived.Defers
import Derived.Recover
open Go.Proofs.Tryz
set_option maxRecDepth 100000
set_option maxHeartbeats 8000000
namespace Go.Proofs.YtiebcdeafofgdaaGreatDoor
section
open Go.RowKit Go.Lib Go.Proofs Go.Shelf
attribute [local go_sem ↓] Go.wp_at_zero Go.wp_at_succ
attribute [local go_sem] Oper.semAt_some
theorem uL(a:Array Value)(w:World):(callFunc 176 a).run prog w=.ok (.enter 176 a) w:=by kernel_rfl
theorem TH(p q:Nat)(a b:Value)(t:Array Value):((#[p,q]:Array Nat).zip #[a,b]).foldl (fun t x=>t.setIfInBounds x.fst x.snd) t=(t.setIfInBounds p a).setIfInBounds q b:=by simp
theorem LM(w:World)(c:Array Value)(k:Int):an ((((w.alloc (.cells c 24)).alloc (.cells #[.int .i64 0] 3)).alloc (.cells c 24)).alloc (.cells #[k] 3)) (w.heap.size+1) 3 #[.int .i64 0]/\an ((((w.alloc (.cells c 24)).alloc (.cells #[.int .i64 0] 3)).alloc (.cells c 24)).alloc (.cells #[k] 3)) (w.heap.size+1+1) 24 c/\an ((((w.alloc (.cells c 24)).alloc (.cells #[.int .i64 0] 3)).alloc (.cells c 24)).alloc (.cells #[k] 3)) (w.heap.size+1+1+1) 3 #[k] /\
 Below w w ((((w.alloc (.cells c 24)).alloc (.cells #[.int .i64 0] 3)).alloc (.cells c 24)).alloc (.cells #[k] 3))/\((((w.alloc (.cells c 24)).alloc (.cells #[.int .i64 0] 3)).alloc (.cells c 24)).alloc (.cells #[k] 3)).heap.size=w.heap.size+4:=⟨((an.new_at (by simp) _ _).alloc _).alloc _,(an.new_at (by simp) _ _).alloc _,an.new_at (by simp) _ _,lU,by simp⟩
theorem LN(v:Value)(n:Nd)(w:World)(hv:aF w v n)(hw:sF 100 n)(M:(aP 100 n).length<=1000000000):
  CallsIn Fence.wide 9 prog 83 #[v] w fun e w'=>e=.returned (.int .i64 ((aP 100 n).length:Int))/\Below w w w':=by
 have U:=hv;obtain⟨A,cp,rfl,hC⟩:=hv.toC;have O:af (· < w.heap.size) w _ n:=U.mono fun b _ h=>h;have HV:=hid O;have HW:=hid hw;have HC:=hid M;clear U hv hC O hw M;refine callsIn_of_wp_marks func83 rfl trivial ?_ rfl;simp only[ntmps83,vg,gS,qa,Nat.reduceAdd,Nat.reduceSub,qM,qN,vh,qR,vb,jP]
 gi_wp2
 refine⟨trivial,(Co 8 _ 100 n _ ((HV.out.wide).below lU)).mono ?_⟩;simp only[Value.cells];rintro e w1⟨rfl,rfl⟩;obtain⟨o1,o2,o3,hB,hz⟩:=LM w (nv n A cp) 100
 gi_wp2
 generalize(((w.alloc (.cells (nv n A cp) 24)).alloc (.cells #[.int .i64 0] 3)).alloc (.cells (nv n A cp) 24)).alloc (.cells #[.int .i64 100] 3)=W0 at *;have I:SeqStopsK Fence.wide (9-1) prog 176 #[.pointer (some ⟨w.heap.size+1+1,0,none⟩),.pointer (some ⟨w.heap.size+1+1+1,0,none⟩)] yE (yD w.heap.size (w.heap.size+1)) (fun ys=>ys.map (·.2.1)=aP 100 n) (fun _=>True) (aP 100 n).length W0:=
  fun l J Jx W N hJ hJx hY h0=>yF l w.heap.size (w.heap.size+1) 8 100 _ n J Jx (fun s W o hs=>hJ s W _ none hs (World.grownBy_alloc W o none) (fun r e=>by cases e)) hY W _ _ A cp rfl (by omega) (o2.below N (by omega)) (o3.below N (by omega))
   (HV.out.keep fun b hb _=>(N.block b (by omega)).trans (hB.block b hb)) HW.out (kC hB.size N.size) (by have:=N.size;omega) h0
 have ga:=hid I;obtain⟨oc,of⟩:W0.cell? ⟨w.heap.size+1,0,none⟩=some (.int .i64 0)/\W0.frozen? ⟨w.heap.size+1,0,none⟩=false:=⟨a7 o1,o1.frozen 0⟩;clear I o1 o2 o3;refine wpIn_rangeFunc_ownF (w0:=W0) rfl (by omega) (gf:=176) (lb:=#[.pointer (some ⟨w.heap.size+1+1,0,none⟩),.pointer (some ⟨w.heap.size+1+1+1,0,none⟩)]) rfl trivial uL ga.out (fun h k=>h.trans k) (fun W l o o'=>E1 hB.size W l o o') (gG _ _) (fun _=>rfl)
  (fun pre W=>(W.cell? ⟨w.heap.size+1,0,none⟩=some (.int .i64 (pre.length:Int))/\W.frozen? ⟨w.heap.size+1,0,none⟩=false)/\Below w w W) (fun _ _ _=>False)
  (OwnFrom.and (Own.from (fun s A B row hs hg hr=>⟨Go.cell_kept hs.1 hg hr,(Go.frozen_kept hs.1 hg hr).trans hs.2⟩) _) (ownFrom_below (gA _) (by omega)))
  (fun _ _ _ _ _ hs _ _=>hs) ⟨⟨oc,of⟩,hB⟩
  (fun x=>{ tmps:=#[.agg (nv n A cp),.pointer (some ⟨w,0,none⟩),.int .i64 0,.pointer (some ⟨w.heap.size+1,0,none⟩),.agg (nv n A cp),
   .func (.func 176) #[] #[.pointer (some ⟨w.heap.size+1+1,0,none⟩),.pointer (some ⟨w.heap.size+1+1+1,0,none⟩)],x.1,.int .i64 (x.2.1:Int),undef,undef,undef],defers:=[] }) ?assign ?body ?done ?stop
 case assign=>
  intro l x W K hK;unfold yE
  gi_wp2
  rw[TH];exact hK
 case body=>
  rintro l pre x W⟨⟨M,hf⟩,hb⟩hl;have gb:=kH hl HC.out;have HB:=hid hb;have gd:=hb.size;clear hb hl
  gi_wp2
  refine⟨KeepsOthers.setCell _ _ _,⟨(gG _ _).setCell (p:=⟨w.heap.size+1,0,none⟩) (by show w.heap.size<=w.heap.size+1;omega) _,fun k hk _=>jN W ⟨w.heap.size+1,0,none⟩ _ k hk⟩,⟨?_,?_⟩,HB.out.setCell (p:=⟨w.heap.size+1,0,none⟩) (by show w.heap.size<=w.heap.size+1;omega) _⟩
  ·rw[World.cell?_setCell_same' _ _ _ (by rw[M];rfl)];simp
  ·rw[World.frozen?_setCell];exact hf
 case done=>
  rintro D ys W hD hys⟨⟨M,hf⟩,hb⟩hK;have HB:=hid (hb.trans (E1 (OB:=0) hB.size W D _ (.deferred none) hD hK rfl rfl).bel);have HY:Hid (ys.length=(aP 100 n).length):=hid (by rw[<-hys,jT]);clear hb hys
  gi_wp2
  refine⟨by simp,.inl ⟨_,_,rfl,run_takeDeferred hK,?_⟩⟩;exact⟨_,results_tmp rfl _ _ _,by rw[<-HY.out];rfl,HB.out⟩
 case stop=>rintro D c pre W _ _ h _;exact h.elim
def R5(l:List Nat):Nat:=l.foldl (fun d l=>max d (102-l)) 0
theorem LO(l:List Nat)(x:Nat):R5 (l++[x])=max (R5 l) (102-x):=by unfold R5;rw[List.foldl_append];rfl
theorem R6(l:List Nat):R5 l<=102:=((mU l 0 102).2 ⟨by omega,fun _ _=>by omega⟩)
theorem GE(v:Value)(n:Nd)(w:World)(hv:aF w v n)(hw:sF 101 n):
  CallsIn Fence.wide 9 prog 82 #[v] w fun e w'=>e=.returned (.int .i64 (eN n:Int))/\Below w w w':=by
 have O:=hv;obtain⟨A,cp,rfl,hC⟩:=hv.toC;have N:af (· < w.heap.size) w _ n:=O.mono fun b _ h=>h;have HV:=hid N;have HW:=hid hw;clear O hv hC N hw;refine callsIn_of_wp_marks func82 rfl trivial ?_ rfl;simp only[ntmps82,vg,gS,qa,Nat.reduceAdd,Nat.reduceSub,qM,qN,vh,qR,vb,jP]
 gi_wp2
 refine⟨trivial,(Co 8 _ 101 n _ ((HV.out.wide).below lU)).mono ?_⟩;simp only[Value.cells];rintro e w1⟨rfl,rfl⟩;obtain⟨o1,o2,o3,hB,hz⟩:=LM w (nv n A cp) 101
 gi_wp2
 generalize(((w.alloc (.cells (nv n A cp) 24)).alloc (.cells #[.int .i64 0] 3)).alloc (.cells (nv n A cp) 24)).alloc (.cells #[.int .i64 101] 3)=W0 at *;have I:SeqStopsK Fence.wide (9-1) prog 176 #[.pointer (some ⟨w.heap.size+1+1,0,none⟩),.pointer (some ⟨w.heap.size+1+1+1,0,none⟩)] yE (yD w.heap.size (w.heap.size+1)) (fun ys=>ys.map (·.2.1)=aP 101 n) (fun _=>True) (aP 101 n).length W0:=
  fun l J Jx W M hJ hJx hY h0=>yF l w.heap.size (w.heap.size+1) 8 101 _ n J Jx (fun s W o hs=>hJ s W _ none hs (World.grownBy_alloc W o none) (fun r e=>by cases e)) hY W _ _ A cp rfl (by omega) (o2.below M (by omega)) (o3.below M (by omega))
   (HV.out.keep fun b hb _=>(M.block b (by omega)).trans (hB.block b hb)) HW.out (kC hB.size M.size) (by have:=M.size;omega) h0
 have U:=hid I;obtain⟨oc,of⟩:W0.cell? ⟨w.heap.size+1,0,none⟩=some (.int .i64 0)/\W0.frozen? ⟨w.heap.size+1,0,none⟩=false:=⟨a7 o1,o1.frozen 0⟩;clear I o1 o2 o3;refine wpIn_rangeFunc_ownF (w0:=W0) rfl (by omega) (gf:=176) (lb:=#[.pointer (some ⟨w.heap.size+1+1,0,none⟩),.pointer (some ⟨w.heap.size+1+1+1,0,none⟩)]) rfl trivial uL U.out (fun h k=>h.trans k) (fun W l o o'=>E1 hB.size W l o o') (gG _ _) (fun _=>rfl)
  (fun pre W=>(W.cell? ⟨w.heap.size+1,0,none⟩=some (.int .i64 (R5 (pre.map (·.2.1)):Int))/\W.frozen? ⟨w.heap.size+1,0,none⟩=false)/\Below w w W) (fun _ _ _=>False)
  (OwnFrom.and (Own.from (fun s A B row hs hg hr=>⟨Go.cell_kept hs.1 hg hr,(Go.frozen_kept hs.1 hg hr).trans hs.2⟩) _) (ownFrom_below (gA _) (by omega)))
  (fun _ _ _ _ _ hs _ _=>hs) ⟨⟨oc,of⟩,hB⟩
  (fun x=>{ tmps:=#[.agg (nv n A cp),.pointer (some ⟨w,0,none⟩),.int .i64 0,.pointer (some ⟨w.heap.size+1,0,none⟩),undef,.int .i64 (x.2.1:Int),.agg (nv n A cp),
   .func (.func 176) #[] #[.pointer (some ⟨w.heap.size+1+1,0,none⟩),.pointer (some ⟨w.heap.size+1+1+1,0,none⟩)],x.1,.int .i64 (x.2.1:Int),undef,undef,undef,undef,undef],defers:=[] }) ?assign ?body ?done ?stop
 case assign=>
  intro l x W K hK;unfold yE
  gi_wp2
  exact hK
 case body=>
  rintro l pre x W⟨⟨hc,hf⟩,hb⟩hl;have ga:=x.2.2;have gb:=R6 (pre.map (·.2.1));have HS:=hid (LO (pre.map (·.2.1)) x.2.1);generalize R5 (pre.map (·.2.1))=dd at *;have HB:=hid hb;have gd:=hb.size;clear hb hl
  gi_wp2
  refine⟨KeepsOthers.setCell _ _ _,⟨(gG _ _).setCell (p:=⟨w.heap.size+1,0,none⟩) (by show w.heap.size<=w.heap.size+1;omega) _,fun k hk _=>jN W ⟨w.heap.size+1,0,none⟩ _ k hk⟩,⟨?_,?_⟩,HB.out.setCell (p:=⟨w.heap.size+1,0,none⟩) (by show w.heap.size<=w.heap.size+1;omega) _⟩
  ·rw[World.cell?_setCell_same' _ _ _ (by rw[hc];rfl),kT,List.map_singleton,HS.out];rw[show max (dd:Int) (102-(x.2.1:Int))=((max dd (102-x.2.1):Nat):Int)by omega]
  ·rw[World.frozen?_setCell];exact hf
 case done=>
  rintro D ys W hD hys⟨⟨hc,hf⟩,hb⟩hK;have HB:=hid (hb.trans (E1 (OB:=0) hB.size W D _ (.deferred none) hD hK rfl rfl).bel);have HY:Hid (R5 (ys.map (·.2.1))=eN n):=hid (by rw[hys];rfl);clear hb hys
  gi_wp2
  refine⟨by simp,.inl ⟨_,_,rfl,run_takeDeferred hK,?_⟩⟩;exact⟨_,results_tmp rfl _ _ _,by rw[<-HY.out];rfl,HB.out⟩
 case stop=>rintro D c pre W _ _ h _;exact h.elim
end
section
open Go.RowKit Go.Lib Go.Proofs
attribute [local go_sem ↓] Go.wp_at_zero Go.wp_at_succ
theorem GF(t:TypeId)(w:World):(Instr.makeMap t none).run prog w=.ok (.map (some w.heap.size)) (w.alloc (.map #[] 0)):=rfl
theorem LP{α:Type}(a:Array α)(x y:α):(a.push x).setIfInBounds a.size y=a.push y:=by rw[Array.push_eq_append,Array.push_eq_append,<-Array.toList_inj];simp[Array.toList_setIfInBounds]
theorem LQ(e:Bool)(k:ByteArray)(w:World):(Instr.checkKey e 10000 9 (.string k)).run prog w=.ok () w:=by show(Instr.checkKey e (9999+1) 9 (.string k)).run prog w=.ok () w;rw[Instr.checkKey];simp only[Sem.run_bind,qh underlying9,Result.andThen_ok,Sem.run_pure]
theorem eQ(w:World)(es:Array MapEntry)(clock:Nat)(key:ByteArray)(v:Value)(D:Instr.findNow .string (.string key) es.toList 0=some none):
  (Instr.mapUpdate 92 (.map (some w.heap.size)) (.string key) v).run prog (w.alloc (.map es clock))=.ok () (w.alloc (.map (es.push ⟨.string key,v,clock⟩) (clock+1))):=by have hb:(w.alloc (.map es clock)).heap[w.heap.size]? = some (.map es clock):=qu w _;(have I:(getObj w.heap.size).run prog (w.alloc (.map es clock))=.ok (.map es clock) (w.alloc (.map es clock)):=by rw[getObj,Sem.run,hb];rfl);(have hs:(setObj w.heap.size (.map (es.push ⟨.string key,v,clock⟩) (clock+1))).run prog (w.alloc (.map es clock))=.ok () (w.alloc (.map (es.push ⟨.string key,v,clock⟩) (clock+1))):=by rw[setObj,Sem.run,hb];exact jM (fun h=>Result.ok () { w with heap:=h }) (LP w.heap _ _));unfold Instr.mapUpdate;simp only[qh underlying92,Sem.run_bind,Result.andThen_ok,I,LQ,qh underlying9,Instr.findKey,D,Sem.run_pure,hs]
def ly:Array MapEntry:=#[⟨.string ⟨#[102,105,108,101]⟩,.func (.func 117) #[] #[],0⟩,⟨.string ⟨#[100,101,99,108,97,114,97,116,105,111,110]⟩,.func (.func 120) #[] #[],1⟩,⟨.string ⟨#[116,121,112,101]⟩,.func (.func 121) #[] #[],2⟩,
 ⟨.string ⟨#[101,120,112,114,101,115,115,105,111,110]⟩,.func (.func 122) #[] #[],3⟩,⟨.string ⟨#[115,116,97,116,101,109,101,110,116]⟩,.func (.func 123) #[] #[],4⟩,⟨.string ⟨#[115,105,103,110,97,116,117,114,101]⟩,.func (.func 124) #[] #[],5⟩]
theorem yG(w:World):Calls prog 81 #[] w fun e w'=>e=.returned (.map (some w.heap.size))/\w'=w.alloc (.map ly 6):=by have D:=GF;have U:=eQ w #[] 0 ⟨#[102,105,108,101]⟩ (.func (.func 117) #[] #[]) rfl;have O:=eQ w #[⟨.string ⟨#[102,105,108,101]⟩,.func (.func 117) #[] #[],0⟩] 1 ⟨#[100,101,99,108,97,114,97,116,105,111,110]⟩ (.func (.func 120) #[] #[]) rfl;have N:=eQ w #[⟨.string ⟨#[102,105,108,101]⟩,.func (.func 117) #[] #[],0⟩,⟨.string ⟨#[100,101,99,108,97,114,97,116,105,111,110]⟩,.func (.func 120) #[] #[],1⟩] 2 ⟨#[116,121,112,101]⟩ (.func (.func 121) #[] #[]) rfl;have M:=eQ w #[⟨.string ⟨#[102,105,108,101]⟩,.func (.func 117) #[] #[],0⟩,⟨.string ⟨#[100,101,99,108,97,114,97,116,105,111,110]⟩,.func (.func 120) #[] #[],1⟩,⟨.string ⟨#[116,121,112,101]⟩,.func (.func 121) #[] #[],2⟩] 3 ⟨#[101,120,112,114,101,115,115,105,111,110]⟩ (.func (.func 122) #[] #[]) rfl;have J:=eQ w #[⟨.string ⟨#[102,105,108,101]⟩,.func (.func 117) #[] #[],0⟩,⟨.string ⟨#[100,101,99,108,97,114,97,116,105,111,110]⟩,.func (.func 120) #[] #[],1⟩,⟨.string ⟨#[116,121,112,101]⟩,.func (.func 121) #[] #[],2⟩,⟨.string ⟨#[101,120,112,114,101,115,115,105,111,110]⟩,.func (.func 122) #[] #[],3⟩] 4 ⟨#[115,116,97,116,101,109,101,110,116]⟩ (.func (.func 123) #[] #[]) rfl;have I:=eQ w #[⟨.string ⟨#[102,105,108,101]⟩,.func (.func 117) #[] #[],0⟩,⟨.string ⟨#[100,101,99,108,97,114,97,116,105,111,110]⟩,.func (.func 120) #[] #[],1⟩,⟨.string ⟨#[116,121,112,101]⟩,.func (.func 121) #[] #[],2⟩,⟨.string ⟨#[101,120,112,114,101,115,115,105,111,110]⟩,.func (.func 122) #[] #[],3⟩,⟨.string ⟨#[115,116,97,116,101,109,101,110,116]⟩,.func (.func 123) #[] #[],4⟩] 5 ⟨#[115,105,103,110,97,116,117,114,101]⟩ (.func (.func 124) #[] #[]) rfl;(go_enter func81,ntmps81);go_wp2_with fail;go_ret;exact⟨rfl,rfl⟩
theorem Cp(w:World)(b:Nat)(key:ByteArray)(v:Value)(i:Nat)(hb:w.heap[b]? = some (.map ly 6))(D:Instr.findNow .string (.string key) ly.toList 0=some (some (i,v))):
  (Instr.lookup 92 (.map (some b)) (.string key) true).run prog w=.ok (.tuple #[v,.bool true]) w:=by(have I:(getObj b).run prog w=.ok (.map ly 6) w:=by rw[getObj,Sem.run,hb];rfl);unfold Instr.lookup;simp only[qh underlying92,Sem.run_bind,Result.andThen_ok,I,LQ,qh underlying9,Instr.findKey,D,Sem.run_pure,kW]
theorem LR(a:Array Value)(w:World):(callFunc 120 a).run prog w=.ok (.enter 120 a) w:=by kernel_rfl
theorem LS(a:Array Value)(w:World):(callFunc 117 a).run prog w=.ok (.enter 117 a) w:=by kernel_rfl
theorem O3(g:Nat)(F:cQ)(hF:r6 g F):f9 g (nn F) 120:=by
 cases g with
 |zero=>exact fun _ _ _ _ _ h=>h.elim
 |succ d=>exact RX d F hF.pred
theorem R7(g:Nat)(F:cQ)(hF:r6 g F):f9 (g+1) (tr F) 117:=by
 intro w v n h hv hd;have M:=hv;obtain⟨A,cp,rfl,hC⟩:=hv.toC;have hB:=(aj w #[n.kind,n.text,.slice A n.kids.length cp,n.pos]).1;have b1:=(aj w #[n.kind,n.text,.slice A n.kids.length cp,n.pos]).2;have HI:=hid (fun w'(hb:Below (w.alloc (.cells #[n.kind,n.text,.slice A n.kids.length cp,n.pos] 24)).heap.size (w.alloc (.cells #[n.kind,n.text,.slice A n.kids.length cp,n.pos] 24)) w')=>iL g (nn F) ⟨120,#[]⟩ A cp n.kids _ ((M.below hB).below hb).kidsV hd.2 hd.1.1 ((O3 g F hF).so LR _ ((h.below hB).below hb)));(have hE:tr F n=((n.kind==1)&&(aE n.text&&n.kids.all (nn F))):=by unfold tr;rw[fH]);rw[hE];clear hE M hv hC h hF hd;generalize n.kids.all (nn F)=q at *;generalize n.kind=k at *;cases h1:(k==1)with
 |false=>(go_enter func117,ntmps117);go_wp2_with fail;go_ret;exact⟨rfl,hB⟩
 |true=>
  rw[kF]at h1;subst h1;cases U:aE n.text with
  |false=>(go_enter func117,ntmps117);go_wp2_with fail;refine(sK _ _).mono ?_;rw[U];rintro e w1⟨rfl,D⟩;have I:=aD hB D;clear D;go_wp2_with fail;go_ret;exact⟨rfl,I⟩
  |true=>(go_enter func117,ntmps117);go_wp2_with fail;refine(sK _ _).mono ?_;rw[U];rintro e w1⟨rfl,D⟩;have I:=aD hB D;have O:=hid (HI.out _ D);obtain⟨x0,x1,x2,x3,_,_,_,_⟩:=ab (b1.below D (by simp));clear D HI;go_wp2_with fail;refine O.out.mono ?_;rintro e w2⟨rfl,J⟩;have N:=aD I J;clear J;go_wp2_with fail;go_ret;exact⟨rfl,N⟩
theorem uM(v:Value)(n:Nd)(w:World)(I:aF w v n)(D:sF 101 n):
 Calls prog 82 #[v] w fun e w'=>e=.returned (.int .i64 (eN n:Int))/\Below w w w':=callsIn_wide.1 (GE v n w I D)
theorem yH(v:Value)(n:Nd)(w:World)(I:aF w v n)(D:sF 100 n)(J:(aP 100 n).length<=1000000000):
 Calls prog 83 #[v] w fun e w'=>e=.returned (.int .i64 ((aP 100 n).length:Int))/\Below w w w':=callsIn_wide.1 (LN v n w I D J)
theorem sF.pred:∀{g:Nat}{n:Nd},sF (g+1) n->sF g n
 |0,_,_=>trivial
 |_+1,_,h=>⟨h.1,fun k hk=>sF.pred (h.2 k hk)⟩
theorem AB(n:Nd):eO n=(decide ((eN n:Int)<=100)&&(decide (((aP 100 n).length:Int)<=65536)&&tr (aa 100) n)):=by(have I:decide ((eN n:Int)<=100)=decide (eN n<=100):=by rw[kU];omega);(have D:decide (((aP 100 n).length:Int)<=65536)=decide ((aP 100 n).length<=65536):=by rw[kU];omega);rw[I,D];unfold eO yt;generalize tr (aa 100) n=q;rfl
theorem GG(v:Value)(n:Nd)(w:World)(hT:cP w)(h:aF w v n)(hw:sF 101 n)(hc:(aP 100 n).length<=1000000000):
  Calls prog 61 #[v,.string ⟨#[102,105,108,101]⟩] w fun e w'=>e=.returned (.bool (eO n))/\Below w w w':=by
 have M:=h;obtain⟨A,cp,rfl,hC⟩:=h.toC;have hB:=((gG w.heap.size w).alloc (gA _) (.cells #[n.kind,n.text,.slice A n.kids.length cp,n.pos] 24)).alloc (by simp) (.map ly 6);have b1:an ((w.alloc (.cells #[n.kind,n.text,.slice A n.kids.length cp,n.pos] 24)).alloc (.map ly 6)) w.heap.size 24 #[n.kind,n.text,.slice A n.kids.length cp,n.pos]:=(an.new w _ _).alloc _;have gg:=Cp ((w.alloc (.cells #[n.kind,n.text,.slice A n.kids.length cp,n.pos] 24)).alloc (.map ly 6)) (w.heap.size+1) ⟨#[102,105,108,101]⟩ (.func (.func 117) #[] #[]) 0 (tm (by simp) _) rfl;have HV:=hid (M.below hB);have HT:=hid (hT.below hB);have HW:=hid hw;have HC:=hid hc;have he:=LS;clear M h hC hT hw hc;(go_enter func61,ntmps61);go_wp2_with fail;refine(yG _).mono ?_;rintro e w1⟨rfl,rfl⟩;go_wp2_with fail;refine(uM _ n _ HV.out HW.out).mono ?_;rintro e w1⟨rfl,I⟩;have HE:=hid (AB n);have O:=aD hB I;have c1:=b1.below I (by simp;omega);obtain⟨x0,x1,x2,x3,_,_,_,_⟩:=ab c1;have U:=hid (HV.out.below I);have ge:=hid (HT.out.below I);clear I b1 hB;cases hd:decide ((eN n:Int)<=100)with
 |false=>go_wp2_with fail;go_ret;exact⟨by rw[HE.out,hd];rfl,O⟩
 |true=>
  have HD:=hid (lW (HW.out.pred) (by have:=of_decide_eq_true hd;omega));go_wp2_with fail;refine(yH _ n _ U.out HW.out.pred HC.out).mono ?_;rintro e w2⟨rfl,D⟩;have N:=aD O D;have c2:=c1.bl D;obtain⟨y0,y1,y2,y3,_,_,_,_⟩:=ab c2;have gb:=hid (U.out.below D);have gd:=hid (ge.out.below D);clear D c1 c2 x0 x1 x2 x3;cases hs:decide (((aP 100 n).length:Int)<=65536)with
  |false=>go_wp2_with fail;go_ret;exact⟨by rw[HE.out,hd,hs];rfl,N⟩
  |true=>go_wp2_with fail;refine(R7 100 (aa 100) (R4 100) _ _ n gd.out gb.out HD.out.succ).mono ?_;rintro e w3⟨rfl,J⟩;have ga:=aD N J;clear J;go_wp2_with fail;go_ret;exact⟨by rw[HE.out,hd,hs];rfl,ga⟩
def bG(n:Nd):Bool:=decide (eN n<=100)&&(decide (yt 100 n<=65536)&&aA (aa 100) n)
theorem r7(n:Nd):bG n=(decide ((eN n:Int)<=100)&&(decide (((aP 100 n).length:Int)<=65536)&&aA (aa 100) n)):=by(have I:decide ((eN n:Int)<=100)=decide (eN n<=100):=by rw[kU];omega);(have D:decide (((aP 100 n).length:Int)<=65536)=decide ((aP 100 n).length<=65536):=by rw[kU];omega);rw[I,D];unfold bG yt;generalize aA (aa 100) n=q;rfl
theorem D4(v:Value)(n:Nd)(w:World)(hT:cP w)(h:aF w v n)(hw:sF 101 n)(hc:(aP 100 n).length<=1000000000):
  Calls prog 61 #[v,.string ⟨#[101,120,112,114,101,115,115,105,111,110]⟩] w fun e w'=>e=.returned (.bool (bG n))/\Below w w w':=by
 have M:=h;obtain⟨A,cp,rfl,hC⟩:=h.toC;have hB:=((gG w.heap.size w).alloc (gA _) (.cells (nv n A cp) 24)).alloc (by simp) (.map ly 6);have b1:an ((w.alloc (.cells (nv n A cp) 24)).alloc (.map ly 6)) w.heap.size 24 (nv n A cp):=(an.new w _ _).alloc _;have gg:=Cp ((w.alloc (.cells (nv n A cp) 24)).alloc (.map ly 6)) (w.heap.size+1) ⟨#[101,120,112,114,101,115,115,105,111,110]⟩ (.func (.func 122) #[] #[]) 3 (tm (by simp) _) rfl;have HV:=hid (M.below hB);have HT:=hid (hT.below hB);have HW:=hid hw;have HC:=hid hc;have he:=dM;clear M h hC hT hw hc;(go_enter func61,ntmps61);go_wp2_with fail;refine(yG _).mono ?_;rintro e w1⟨rfl,rfl⟩;go_wp2_with fail;refine(uM _ n _ HV.out HW.out).mono ?_;rintro e w1⟨rfl,I⟩;have HE:=hid (r7 n);have O:=aD hB I;have c1:=b1.below I (by simp;omega);obtain⟨x0,x1,x2,x3,_,_,_,_⟩:=ab c1;have U:=hid (HV.out.below I);have ge:=hid (HT.out.below I);clear I b1 hB;cases hd:decide ((eN n:Int)<=100)with
 |false=>go_wp2_with fail;go_ret;exact⟨by rw[HE.out,hd];rfl,O⟩
 |true=>
  have HD:=hid (lW (HW.out.pred) (by have:=of_decide_eq_true hd;omega));go_wp2_with fail;refine(yH _ n _ U.out HW.out.pred HC.out).mono ?_;rintro e w2⟨rfl,D⟩;have N:=aD O D;have c2:=c1.bl D;obtain⟨y0,y1,y2,y3,_,_,_,_⟩:=ab c2;have gb:=hid (U.out.below D);have gd:=hid (ge.out.below D);clear D c1 c2 x0 x1 x2 x3;cases hs:decide (((aP 100 n).length:Int)<=65536)with
  |false=>go_wp2_with fail;go_ret;exact⟨by rw[HE.out,hd,hs];rfl,N⟩
  |true=>go_wp2_with fail;refine(LG 100 (aa 100) (R4 100) _ _ n gd.out gb.out HD.out.succ).mono ?_;rintro e w3⟨rfl,J⟩;have ga:=aD N J;clear J;go_wp2_with fail;go_ret;exact⟨by rw[HE.out,hd,hs];rfl,ga⟩
theorem Aj:∀(d:Nat)(v:Value)(n:Nd)(w:World),d<=1000->aF w v n->sF d n->(aP d n).length<=1000000000 ->
  Calls prog 22 #[v,(d:Int)] w fun e w'=>e=.returned (.int .i64 ((aP d n).length:Int))/\Below w w w':=by
 intro d;induction d with
 |zero=>intro v n w _ hv _ _;obtain⟨A,cp,rfl,hC⟩:=hv.toC;clear hv hC;have hB:=(aj w #[n.kind,n.text,.slice A n.kids.length cp,n.pos]).1;(go_enter func22,ntmps22);go_wp2_with fail;go_ret;exact⟨rfl,hB⟩
 | succ d ih=>
  intro v n w hd hv hw hN;have HV:=hid hv;have HW:=hid hw;have HI:=hid ih;have HN:=hid hN;have ge:=hw.1.1;obtain⟨A,cp,rfl,hC⟩:=hv.toC;clear hv hC hw ih hN;have hB:=(aj w #[n.kind,n.text,.slice A n.kids.length cp,n.pos]).1;have M:=(aj w #[n.kind,n.text,.slice A n.kids.length cp,n.pos]).2;(have hz:((d:Int)+1==0)=false:=by simp;omega);have hT:=hid (show(aP (d+1) n).length=1+(n.kids.flatMap (aP d)).length by rw[aP,gS,Nat.add_comm]);(go_enter func22,ntmps22);go_wp2_with fail;go_loopg [5,6] n.kids.length (fun g1 u5 u6 wr=>∃i:Nat,i<=n.kids.length/\n.kids.length-i<=g1/\u6=.int .i64 (i:Int)/\u5=.int .i64 ((1+((n.kids.take i).flatMap (aP d)).length:Nat):Int)/\Below w w wr/\an wr w.heap.size 24 #[n.kind,n.text,.slice A n.kids.length cp,n.pos])
  case atStart=>exact⟨0,gP _,by omega,rfl,by simp,hB,M⟩
  case round=>
   clear M hB;obtain⟨i,hi,hg,rfl,rfl,hB,M⟩:=hrel;obtain⟨x0,x1,x2,x3,-,-,-,-⟩:=ab M;by_cases D:i<n.kids.length
   ·(have N:(i:Int)<(n.kids.length:Int):=by omega);(have h0:(0:Int)<=(i:Int):=by omega);obtain⟨b,off,A1,gh,rfl,-,gg,k0,k1,k2,k3,O⟩:=(HV.out.below hB).kidsV.kid i D;have I:=gX D;have HM:=hid (HW.out.2 _ I);have gb:=hid (show((n.kids.take (i+1)).flatMap (aP d)).length=((n.kids.take i).flatMap (aP d)).length+(aP d n.kids[i]).length by rw[gZ D,kJ,gL];simp);(have h:((n.kids.take i).flatMap (aP d)).length+(aP d n.kids[i]).length<=(n.kids.flatMap (aP d)).length:=by(conv=>rhs;rw[<-va (i+1) n.kids,kJ,gZ D,kJ]);simp);clear I;generalize n.kids[i]=x at *;generalize((n.kids.take i).flatMap (aP d)).length=m at *;have U:=HN.out;rw[hT.out]at U;have HC:=hid (HI.out _ x wr (by omega) O HM.out (by omega));(have gd:m+(aP d x).length<=1000000000:=by omega);generalize(aP d x).length=p at *;clear O h U HM;go_wp2_with fail;refine HC.out.mono ?_;rintro e w2⟨rfl,J⟩;have ga:=aD hB J;have b2:=M.bl J;clear J M HC k0 k1 k2 k3 x0 x1 x2 x3;go_wp2_with fail;go_roundg (n.kids.length-(i+1))
    case measure=>omega
    case rel=>exact⟨i+1,by omega,by omega,by go_num,by rw[gb.out];congr 1;go_num,ga,b2⟩
   ·(have N:¬ (i:Int)<(n.kids.length:Int):=by omega);have ht:n.kids.take i=n.kids:=jA (by omega);have HE:Hid (1+((n.kids.take i).flatMap (aP d)).length=(aP (d+1) n).length):=hid (by rw[ht,hT.out]);clear ht hT;generalize 1+((n.kids.take i).flatMap (aP d)).length=q at *;go_wp2_with fail;go_ret;exact⟨by rw[HE.out];rfl,hB⟩
end
section
open Go.RowKit Go.Lib Go.Proofs
attribute [local go_sem ↓] Go.wp_at_zero Go.wp_at_succ
attribute [local go_sem] aV aW aX bv bw bz bA
theorem cP.grown{w w':World}{R:Nat}(h:cP w)(I:w.grownBy w' (some R))(D:2≠R):cP w':=by obtain⟨m,h⟩:=h;exact⟨m,(kY (I.block _ (jB w _ h) (fun e=>D (by injection e)))).trans h⟩
def Whole(E:cy)(w:World)(n:Nd)(e:Ending)(w':World):Prop:=
 (∃v,e=.returned (.tuple #[v,.int .i64 0,.int .i64 0])/\af (fun b=>w.heap.size<=b) w' v n)/\w.grownBy w' (some E.R)
def Deep(E:cy)(w:World)(e:Ending)(w':World):Prop:=e=.returned (.tuple #[.agg bP,.int .i64 0,.int .i64 11])/\w.grownBy w' (some E.R)
theorem LT{E:cy}{s:St}{w w1:World}{a0 b0 c0 d0 y z:Value}(N:an w1 w.heap.size 24 #[a0,b0,c0,d0])(M:an w1 (w.heap.size+1) 3 #[y])(J:an w1 (w.heap.size+2) 29 #[z])(I:aw E s w w1)(D:E.R<w.heap.size)(a b c d:Value):
  ∃w2,dO w1 w.heap.size a b c d=w2/\an w2 w.heap.size 24 #[a,b,c,d]/\an w2 (w.heap.size+1) 3 #[y]/\an w2 (w.heap.size+2) 29 #[z]/\aw E s w w2/\ar (fun b=>w.heap.size+3<=b) w1 w2:=by have far:∀{g t cs},an w1 g t cs->g≠w.heap.size->an (dO w1 w.heap.size a b c d) g t cs:=fun h hg=>(((h.far (p:=⟨w,0,none⟩) hg a).far (p:=⟨w,1,none⟩) hg b).far (p:=⟨w,2,none⟩) hg c).far (p:=⟨w,3,none⟩) hg d;exact⟨_,rfl,dJ N a b c d,far M (by omega),far J (by omega),fv I (gA _) D a b c d,dF (X:=fun b=>w.heap.size+3<=b) (wk:=w1) (g:=w.heap.size) (fun b hb=>by have hb:w.heap.size+3<=b:=hb;omega) a b c d⟩
theorem Rq{E:cy}{s:St}{w w1:World}{a0 b0 c0 d0 y z:Value}(h0:an w1 w.heap.size 24 #[a0,b0,c0,d0])(h1:an w1 (w.heap.size+1) 3 #[y])(h:an w1 (w.heap.size+2) 29 #[z])(U:aw E s w w1)(O:E.R<w.heap.size)(a b c d:Value)(x:Int):
  ∃w2,((dO w1 w.heap.size a b c d).setCell ⟨w.heap.size+1,0,none⟩ (.int .i64 0)).setCell ⟨w.heap.size+1+1,0,none⟩ (.int .i64 x)=w2/\an w2 w.heap.size 24 #[a,b,c,d]/\an w2 (w.heap.size+1) 3 #[.int .i64 0]/\an w2 (w.heap.size+2) 29 #[x]/\aw E s w w2/\ar (fun b=>w.heap.size+3<=b) w1 w2:=by
 obtain⟨w5,rfl,N,M,J,kM,kX⟩:=LT h0 h1 h U O a b c d;have I:=M.set_ 0 (.int .i64 0);have D:=(J.far (p:=⟨w.heap.size+1,0,none⟩) (by show w.heap.size+2≠w.heap.size+1;omega) (.int .i64 0)).set_ 0 (.int .i64 x);exact⟨_,rfl,(N.far (by show w.heap.size≠w.heap.size+1;omega) _).far (by show w.heap.size≠w.heap.size+1+1;omega) _,by simpa using I.far (p:=⟨w.heap.size+1+1,0,none⟩) (by show w.heap.size+1≠w.heap.size+1+1;omega) (.int .i64 x),by simpa using D,
  (kM.own (by show w.heap.size<=w.heap.size+1;omega) (by show E.R<w.heap.size+1;omega) _).own (by show w.heap.size<=w.heap.size+1+1;omega) (by show E.R<w.heap.size+1+1;omega) _,
  (kX.setCell (p:=⟨w.heap.size+1,0,none⟩) (fun hb=>by have hb:w.heap.size+3<=w.heap.size+1:=hb;omega) _).setCell (p:=⟨w.heap.size+1+1,0,none⟩) (fun hb=>by have hb:w.heap.size+3<=w.heap.size+1+1:=hb;omega) _⟩
theorem E2(E:cy)(k:FuncId)(first cap:Array Value)(part:R Nd)(s s1:St)(n:Nd)(w:World)(h:aU E w s)
  (hk:∀a w,(callFunc k a).run prog w=.ok (.enter k a) w)(hp:fZ E k (first++cap) part w)(hP:part E.c s=.ok n s1)(gz:s1.at_=E.c.toks.length)(hT:cP w)(hR:2≠E.R)
  (sort:ByteArray)(ok:Bool)(hr:∀w v,cP w->aF w v n->Calls prog 61 #[v,sort] w fun e w'=>e=.returned (.bool ok)/\Below w w w'):
  Calls prog 31 #[E.R,sort,.func (.func k) first cap] w (cond ok (Whole E w n) (Deep E w)):=by
 have hg:∀(fn:Fn)(first cap:Array Value)(w:World),(Instr.makeFunc fn first cap).run prog w=.ok (.func fn first cap) w:=fun _ _ _ _=>rfl;have U:=h.lt;have gg:=(((aw.refl h).alloc (.cells bP 24)).alloc (.cells #[.int .i64 0] 3)).alloc (.cells #[.int .i64 0] 29);have g3:an (((w.alloc (.cells bP 24)).alloc (.cells #[.int .i64 0] 3)).alloc (.cells #[.int .i64 0] 29)) w.heap.size 24 bP:=((an.new w _ _).alloc _).alloc _;have g2:an (((w.alloc (.cells bP 24)).alloc (.cells #[.int .i64 0] 3)).alloc (.cells #[.int .i64 0] 29)) (w.heap.size+1) 3 #[.int .i64 0]:=(an.new_at (by simp) _ _).alloc _;have g1:an (((w.alloc (.cells bP 24)).alloc (.cells #[.int .i64 0] 3)).alloc (.cells #[.int .i64 0] 29)) (w.heap.size+2) 29 #[.int .i64 0]:=an.new_at (by simp) _ _;have HC:=hid (hp _ s gg.gr gg.rd (by rw[hP];exact nofun));rw[hP]at HC;have g5:=hid hT;have hc:=hid hr;have ha:=hid hR;have he:=hid gz;clear hp hP hr hT hR gz;(go_enter_defers func31,ntmps31);go_wp2_with fail;refine HC.out.mono ?_;rintro e w1⟨⟨v,rfl,hv⟩,N⟩;obtain⟨A,cp,rfl,hC⟩:=hv.toC;have gd:=g3.grown N.gr;have gm:=g2.grown N.gr;have gj:=g1.grown N.gr;have g0:=gg.trans N;(have g7:(((w.alloc (.cells bP 24)).alloc (.cells #[.int .i64 0] 3)).alloc (.cells #[.int .i64 0] 29)).heap.size=w.heap.size+3:=by simp);have g6:=N.gr.size;rw[g7]at g6 hv;obtain⟨d0,d1,d2,d3,e0,e1,e2,e3⟩:=ab gd;obtain⟨w2,g8,M,gb,ga,ge,gy⟩:=LT gd gm gj g0 U (.int .i64 n.kind) (.string n.text) (.slice A n.kids.length cp) (.int .i64 n.pos);subst g8;have gq:=hv.kept gy;clear gy;obtain⟨c0,c1,-,-,-,-⟩:=ge.rd.cells;rw[he.out]at c1;unfold dO at c0 c1 M gb ga ge gq;clear g0;clear gd gm gj N;clear g3 g2 g1;clear gg;clear HC hC;clear hv;(go_upto_region 3 with fail);generalize(((w1.setCell ⟨w,0,none⟩ (.int .i64 n.kind)).setCell ⟨w,1,none⟩ (.string n.text)).setCell ⟨w,2,none⟩ (.slice A n.kids.length cp)).setCell ⟨w,3,none⟩ (.int .i64 n.pos)=w2 at *;clear d0 d1 d2 d3 e0 e1 e2 e3;go_wp2_with fail;go_quiet (fail);have gw:=gq.below ((bg (gG _ w2) nq));have gu:=ge.drewN nq;have g4:=hid (g5.out.grown gu.gr ha.out);obtain⟨x0,x1,x2,x3,-,-,-,-⟩:=ab (M.drewN nq);have gl:=gb.drewN nq;have gi:=ga.drewN nq;have gp:=M.drewN nq;have gv:=hid gw;clear gq ge M gb ga c0 c1 gw;generalize w2.drewN nq=w3 at *;go_wp2_with fail;refine(hc.out _ _ g4.out gv.out.wide).mono ?_;rintro e w4⟨rfl,O⟩;have g9:=hid (gv.out.below O);have gt:=gu.step O;have J:=gp.bl O;have I:=gl.bl O;have D:=gi.bl O;have hf:=gt.gr.size;clear O gu gp gl gi gv g4 x0 x1 x2 x3;obtain⟨x0,x1,x2,x3,y0,y1,y2,y3⟩:=ab J;have z0:=a7 I;have z1:=I.frozen 0;have u0:=a7 D;have u1:=D.frozen 0;cases ok
 case' false=>obtain⟨w7,e7,gn,gk,gh,gs,gx⟩:=Rq J I D gt U (.int .i64 0) (.string ⟨#[]⟩) (.slice none 0 0) (.int .i64 0) 11
 case' true=>obtain⟨w7,e7,gn,gk,gh,gs,gx⟩:=Rq J I D gt U (.int .i64 n.kind) (.string n.text) (.slice A n.kids.length cp) (.int .i64 n.pos) 0
 all_goals unfold dO at e7;have E7:=hid e7;clear e7 J I D;go_wp2_with fail;rw[E7.out];refine qd (f:=59) (args:=#[w,.pointer (some ⟨w.heap.size+1,0,none⟩),.pointer (some ⟨w.heap.size+1+1,0,none⟩)]) (by simp) (by simp[go_sem]) ?_;refine(Ly _ _ _ _).mono ?_;rintro e u' w8⟨rfl,rfl,rfl⟩;clear x0 x1 x2 x3 y0 y1 y2 y3 z0 z1 u0 u1;obtain⟨x0,x1,x2,x3,-,-,-,-⟩:=ab gn;have z0:=a7 gk;have u0:=a7 gh;simp[Leaves,settle,results,results31,go_sem,x0,x1,x2,x3,z0,show _=some _ from u0]
 ·exact⟨⟨_,rfl,(g9.out.kept gx).mono fun b hb _=>by have hb:w.heap.size+3<=b:=hb;omega⟩,gs.gr⟩
 ·exact⟨rfl,gs.gr⟩
end
end Go.Proofs.YtiebcdeafofgdaaGreatDoor
