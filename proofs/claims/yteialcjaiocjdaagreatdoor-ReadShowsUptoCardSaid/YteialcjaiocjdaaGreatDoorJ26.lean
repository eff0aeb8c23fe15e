/-
  Parts of the proof: Tsize Tright Tright2 Rlev Gsize. By an AI agent.
-/
import Derived.Test.YteialcjaiocjdaaGreatDoorJ25
open Go.Proofs.Tryz
set_option maxRecDepth 100000
set_option maxHeartbeats 8000000
namespace Go.Proofs.YteialcjaiocjdaaGreatDoor
section
open Go.RowKit Go.Lib Go.Proofs Go.Shelf
attribute [local go_sem ↓] Go.wp_at_zero Go.wp_at_succ
attribute [local go_sem] Oper.semAt_some
theorem uR(a:Array Value)(w:World):(callFunc 164 a).run prog w=.ok (.enter 164 a) w:=by kernel_rfl
theorem T1(p q:Nat)(a b:Value)(t:Array Value):((#[p,q]:Array Nat).zip #[a,b]).foldl (fun t x=>t.setIfInBounds x.fst x.snd) t=(t.setIfInBounds p a).setIfInBounds q b:=by simp
theorem LX(w:World)(c:Array Value)(k:Int):aq ((((w.alloc (.cells c 24)).alloc (.cells #[.int .i64 0] 3)).alloc (.cells c 24)).alloc (.cells #[k] 3)) (w.heap.size+1) 3 #[.int .i64 0]/\aq ((((w.alloc (.cells c 24)).alloc (.cells #[.int .i64 0] 3)).alloc (.cells c 24)).alloc (.cells #[k] 3)) (w.heap.size+1+1) 24 c/\aq ((((w.alloc (.cells c 24)).alloc (.cells #[.int .i64 0] 3)).alloc (.cells c 24)).alloc (.cells #[k] 3)) (w.heap.size+1+1+1) 3 #[k] /\
 Below w w ((((w.alloc (.cells c 24)).alloc (.cells #[.int .i64 0] 3)).alloc (.cells c 24)).alloc (.cells #[k] 3))/\((((w.alloc (.cells c 24)).alloc (.cells #[.int .i64 0] 3)).alloc (.cells c 24)).alloc (.cells #[k] 3)).heap.size=w.heap.size+4:=⟨((aq.new_at (by simp) _ _).alloc _).alloc _,(aq.new_at (by simp) _ _).alloc _,aq.new_at (by simp) _ _,rk,by simp⟩
theorem LY(v:Value)(n:Nd)(w:World)(hv:aF w v n)(hw:rn 100 n)(M:(aO 100 n).length<=1000000000):
  CallsIn Fence.wide 9 prog 71 #[v] w fun e w'=>e=.returned (.int .i64 ((aO 100 n).length:Int))/\Below w w w':=by
 have U:=hv;obtain⟨A,cp,rfl,hC⟩:=hv.toC;have O:af (· < w.heap.size) w _ n:=U.mono fun b _ h=>h;have HV:=hid O;have HW:=hid hw;have HC:=hid M;clear U hv hC O hw M;refine callsIn_of_wp_marks func71 rfl trivial ?_ rfl;simp only[ntmps71,qW,gO,qd,Nat.reduceAdd,Nat.reduceSub,qB,qC,qX,qH,qR,jJ]
 gi_wp2
 refine⟨trivial,(CD 8 _ 100 n _ ((HV.out.wide).below rk)).mono ?_⟩;simp only[Value.cells];rintro e w1⟨rfl,rfl⟩;obtain⟨o1,o2,o3,hB,hz⟩:=LX w (nv n A cp) 100
 gi_wp2
 generalize(((w.alloc (.cells (nv n A cp) 24)).alloc (.cells #[.int .i64 0] 3)).alloc (.cells (nv n A cp) 24)).alloc (.cells #[.int .i64 100] 3)=W0 at *;have I:SeqStopsK Fence.wide (9-1) prog 164 #[.pointer (some ⟨w.heap.size+1+1,0,none⟩),.pointer (some ⟨w.heap.size+1+1+1,0,none⟩)] yZ (yY w.heap.size (w.heap.size+1)) (fun ys=>ys.map (·.2.1)=aO 100 n) (fun _=>True) (aO 100 n).length W0:=
  fun l J Jx W N hJ hJx hY h0=>y5 l w.heap.size (w.heap.size+1) 8 100 _ n J Jx (fun s W o hs=>hJ s W _ none hs (World.grownBy_alloc W o none) (fun r e=>by cases e)) hY W _ _ A cp rfl (by omega) (o2.below N (by omega)) (o3.below N (by omega))
   (HV.out.keep fun b hb _=>(N.block b (by omega)).trans (hB.block b hb)) HW.out (jZ hB.size N.size) (by have:=N.size;omega) h0
 have ga:=hid I;obtain⟨oc,of⟩:W0.cell? ⟨w.heap.size+1,0,none⟩=some (.int .i64 0)/\W0.frozen? ⟨w.heap.size+1,0,none⟩=false:=⟨ce o1,o1.frozen 0⟩;clear I o1 o2 o3;refine wpIn_rangeFunc_ownF (w0:=W0) rfl (by omega) (gf:=164) (lb:=#[.pointer (some ⟨w.heap.size+1+1,0,none⟩),.pointer (some ⟨w.heap.size+1+1+1,0,none⟩)]) rfl trivial uR ga.out (fun h k=>h.trans k) (fun W l o o'=>FE hB.size W l o o') (gH _ _) (fun _=>rfl)
  (fun pre W=>(W.cell? ⟨w.heap.size+1,0,none⟩=some (.int .i64 (pre.length:Int))/\W.frozen? ⟨w.heap.size+1,0,none⟩=false)/\Below w w W) (fun _ _ _=>False)
  (OwnFrom.and (Own.from (fun s A B row hs hg hr=>⟨Go.cell_kept hs.1 hg hr,(Go.frozen_kept hs.1 hg hr).trans hs.2⟩) _) (ownFrom_below (gC _) (by omega)))
  (fun _ _ _ _ _ hs _ _=>hs) ⟨⟨oc,of⟩,hB⟩
  (fun x=>{ tmps:=#[.agg (nv n A cp),.pointer (some ⟨w,0,none⟩),.int .i64 0,.pointer (some ⟨w.heap.size+1,0,none⟩),.agg (nv n A cp),
   .func (.func 164) #[] #[.pointer (some ⟨w.heap.size+1+1,0,none⟩),.pointer (some ⟨w.heap.size+1+1+1,0,none⟩)],x.1,.int .i64 (x.2.1:Int),undef,undef,undef],defers:=[] }) ?assign ?body ?done ?stop
 case assign=>
  intro l x W K hK;unfold yZ
  gi_wp2
  rw[T1];exact hK
 case body=>
  rintro l pre x W⟨⟨M,hf⟩,hb⟩hl;have gb:=kK hl HC.out;have HB:=hid hb;have gd:=hb.size;clear hb hl
  gi_wp2
  refine⟨KeepsOthers.setCell _ _ _,⟨(gH _ _).setCell (p:=⟨w.heap.size+1,0,none⟩) (by show w.heap.size<=w.heap.size+1;omega) _,fun k hk _=>jU W ⟨w.heap.size+1,0,none⟩ _ k hk⟩,⟨?_,?_⟩,HB.out.setCell (p:=⟨w.heap.size+1,0,none⟩) (by show w.heap.size<=w.heap.size+1;omega) _⟩
  ·rw[World.cell?_setCell_same' _ _ _ (by rw[M];rfl)];simp
  ·rw[World.frozen?_setCell];exact hf
 case done=>
  rintro D ys W hD hys⟨⟨M,hf⟩,hb⟩hK;have HB:=hid (hb.trans (FE (OB:=0) hB.size W D _ (.deferred none) hD hK rfl rfl).bel);have HY:Hid (ys.length=(aO 100 n).length):=hid (by rw[<-hys,jR]);clear hb hys
  gi_wp2
  refine⟨by simp,.inl ⟨_,_,rfl,run_takeDeferred hK,?_⟩⟩;exact⟨_,results_tmp rfl _ _ _,by rw[<-HY.out];rfl,HB.out⟩
 case stop=>rintro D c pre W _ _ h _;exact h.elim
def Sv(l:List Nat):Nat:=l.foldl (fun d l=>max d (102-l)) 0
theorem LZ(l:List Nat)(x:Nat):Sv (l++[x])=max (Sv l) (102-x):=by unfold Sv;rw[List.foldl_append];rfl
theorem Sw(l:List Nat):Sv l<=102:=((m9 l 0 102).2 ⟨by omega,fun _ _=>by omega⟩)
theorem GX(v:Value)(n:Nd)(w:World)(hv:aF w v n)(hw:rn 101 n):
  CallsIn Fence.wide 9 prog 70 #[v] w fun e w'=>e=.returned (.int .i64 (et n:Int))/\Below w w w':=by
 have O:=hv;obtain⟨A,cp,rfl,hC⟩:=hv.toC;have N:af (· < w.heap.size) w _ n:=O.mono fun b _ h=>h;have HV:=hid N;have HW:=hid hw;clear O hv hC N hw;refine callsIn_of_wp_marks func70 rfl trivial ?_ rfl;simp only[ntmps70,qW,gO,qd,Nat.reduceAdd,Nat.reduceSub,qB,qC,qX,qH,qR,jJ]
 gi_wp2
 refine⟨trivial,(CD 8 _ 101 n _ ((HV.out.wide).below rk)).mono ?_⟩;simp only[Value.cells];rintro e w1⟨rfl,rfl⟩;obtain⟨o1,o2,o3,hB,hz⟩:=LX w (nv n A cp) 101
 gi_wp2
 generalize(((w.alloc (.cells (nv n A cp) 24)).alloc (.cells #[.int .i64 0] 3)).alloc (.cells (nv n A cp) 24)).alloc (.cells #[.int .i64 101] 3)=W0 at *;have I:SeqStopsK Fence.wide (9-1) prog 164 #[.pointer (some ⟨w.heap.size+1+1,0,none⟩),.pointer (some ⟨w.heap.size+1+1+1,0,none⟩)] yZ (yY w.heap.size (w.heap.size+1)) (fun ys=>ys.map (·.2.1)=aO 101 n) (fun _=>True) (aO 101 n).length W0:=
  fun l J Jx W M hJ hJx hY h0=>y5 l w.heap.size (w.heap.size+1) 8 101 _ n J Jx (fun s W o hs=>hJ s W _ none hs (World.grownBy_alloc W o none) (fun r e=>by cases e)) hY W _ _ A cp rfl (by omega) (o2.below M (by omega)) (o3.below M (by omega))
   (HV.out.keep fun b hb _=>(M.block b (by omega)).trans (hB.block b hb)) HW.out (jZ hB.size M.size) (by have:=M.size;omega) h0
 have U:=hid I;obtain⟨oc,of⟩:W0.cell? ⟨w.heap.size+1,0,none⟩=some (.int .i64 0)/\W0.frozen? ⟨w.heap.size+1,0,none⟩=false:=⟨ce o1,o1.frozen 0⟩;clear I o1 o2 o3;refine wpIn_rangeFunc_ownF (w0:=W0) rfl (by omega) (gf:=164) (lb:=#[.pointer (some ⟨w.heap.size+1+1,0,none⟩),.pointer (some ⟨w.heap.size+1+1+1,0,none⟩)]) rfl trivial uR U.out (fun h k=>h.trans k) (fun W l o o'=>FE hB.size W l o o') (gH _ _) (fun _=>rfl)
  (fun pre W=>(W.cell? ⟨w.heap.size+1,0,none⟩=some (.int .i64 (Sv (pre.map (·.2.1)):Int))/\W.frozen? ⟨w.heap.size+1,0,none⟩=false)/\Below w w W) (fun _ _ _=>False)
  (OwnFrom.and (Own.from (fun s A B row hs hg hr=>⟨Go.cell_kept hs.1 hg hr,(Go.frozen_kept hs.1 hg hr).trans hs.2⟩) _) (ownFrom_below (gC _) (by omega)))
  (fun _ _ _ _ _ hs _ _=>hs) ⟨⟨oc,of⟩,hB⟩
  (fun x=>{ tmps:=#[.agg (nv n A cp),.pointer (some ⟨w,0,none⟩),.int .i64 0,.pointer (some ⟨w.heap.size+1,0,none⟩),undef,.int .i64 (x.2.1:Int),.agg (nv n A cp),
   .func (.func 164) #[] #[.pointer (some ⟨w.heap.size+1+1,0,none⟩),.pointer (some ⟨w.heap.size+1+1+1,0,none⟩)],x.1,.int .i64 (x.2.1:Int),undef,undef,undef,undef,undef],defers:=[] }) ?assign ?body ?done ?stop
 case assign=>
  intro l x W K hK;unfold yZ
  gi_wp2
  exact hK
 case body=>
  rintro l pre x W⟨⟨hc,hf⟩,hb⟩hl;have ga:=x.2.2;have gb:=Sw (pre.map (·.2.1));have HS:=hid (LZ (pre.map (·.2.1)) x.2.1);generalize Sv (pre.map (·.2.1))=dd at *;have HB:=hid hb;have gd:=hb.size;clear hb hl
  gi_wp2
  refine⟨KeepsOthers.setCell _ _ _,⟨(gH _ _).setCell (p:=⟨w.heap.size+1,0,none⟩) (by show w.heap.size<=w.heap.size+1;omega) _,fun k hk _=>jU W ⟨w.heap.size+1,0,none⟩ _ k hk⟩,⟨?_,?_⟩,HB.out.setCell (p:=⟨w.heap.size+1,0,none⟩) (by show w.heap.size<=w.heap.size+1;omega) _⟩
  ·rw[World.cell?_setCell_same' _ _ _ (by rw[hc];rfl),kS,List.map_singleton,HS.out];rw[show max (dd:Int) (102-(x.2.1:Int))=((max dd (102-x.2.1):Nat):Int)by omega]
  ·rw[World.frozen?_setCell];exact hf
 case done=>
  rintro D ys W hD hys⟨⟨hc,hf⟩,hb⟩hK;have HB:=hid (hb.trans (FE (OB:=0) hB.size W D _ (.deferred none) hD hK rfl rfl).bel);have HY:Hid (Sv (ys.map (·.2.1))=et n):=hid (by rw[hys];rfl);clear hb hys
  gi_wp2
  refine⟨by simp,.inl ⟨_,_,rfl,run_takeDeferred hK,?_⟩⟩;exact⟨_,results_tmp rfl _ _ _,by rw[<-HY.out];rfl,HB.out⟩
 case stop=>rintro D c pre W _ _ h _;exact h.elim
end
section
open Go.RowKit Go.Lib Go.Proofs
attribute [local go_sem ↓] Go.wp_at_zero Go.wp_at_succ
theorem GY(t:TypeId)(w:World):(Instr.makeMap t none).run prog w=.ok (.map (some w.heap.size)) (w.alloc (.map #[] 0)):=rfl
theorem L0{α:Type}(a:Array α)(x y:α):(a.push x).setIfInBounds a.size y=a.push y:=by rw[Array.push_eq_append,Array.push_eq_append,<-Array.toList_inj];simp[Array.toList_setIfInBounds]
theorem L1(e:Bool)(k:ByteArray)(w:World):(Instr.checkKey e 10000 9 (.string k)).run prog w=.ok () w:=by show(Instr.checkKey e (9999+1) 9 (.string k)).run prog w=.ok () w;rw[Instr.checkKey];simp only[Sem.run_bind,qh underlying9,Result.andThen_ok,Sem.run_pure]
theorem fa(w:World)(es:Array MapEntry)(clock:Nat)(key:ByteArray)(v:Value)(D:Instr.findNow .string (.string key) es.toList 0=some none):
  (Instr.mapUpdate 81 (.map (some w.heap.size)) (.string key) v).run prog (w.alloc (.map es clock))=.ok () (w.alloc (.map (es.push ⟨.string key,v,clock⟩) (clock+1))):=by have hb:(w.alloc (.map es clock)).heap[w.heap.size]? = some (.map es clock):=qq w _;(have I:(getObj w.heap.size).run prog (w.alloc (.map es clock))=.ok (.map es clock) (w.alloc (.map es clock)):=by rw[getObj,Sem.run,hb];rfl);(have hs:(setObj w.heap.size (.map (es.push ⟨.string key,v,clock⟩) (clock+1))).run prog (w.alloc (.map es clock))=.ok () (w.alloc (.map (es.push ⟨.string key,v,clock⟩) (clock+1))):=by rw[setObj,Sem.run,hb];exact jM (fun h=>Result.ok () { w with heap:=h }) (L0 w.heap _ _));unfold Instr.mapUpdate;simp only[qh underlying81,Sem.run_bind,Result.andThen_ok,I,L1,qh underlying9,Instr.findKey,D,Sem.run_pure,hs]
def lK:Array MapEntry:=#[⟨.string ⟨#[102,105,108,101]⟩,.func (.func 96) #[] #[],0⟩,⟨.string ⟨#[100,101,99,108,97,114,97,116,105,111,110]⟩,.func (.func 99) #[] #[],1⟩,⟨.string ⟨#[116,121,112,101]⟩,.func (.func 100) #[] #[],2⟩,
 ⟨.string ⟨#[101,120,112,114,101,115,115,105,111,110]⟩,.func (.func 101) #[] #[],3⟩,⟨.string ⟨#[115,116,97,116,101,109,101,110,116]⟩,.func (.func 102) #[] #[],4⟩,⟨.string ⟨#[115,105,103,110,97,116,117,114,101]⟩,.func (.func 103) #[] #[],5⟩]
theorem y6(w:World):Calls prog 69 #[] w fun e w'=>e=.returned (.map (some w.heap.size))/\w'=w.alloc (.map lK 6):=by have D:=GY;have U:=fa w #[] 0 ⟨#[102,105,108,101]⟩ (.func (.func 96) #[] #[]) rfl;have O:=fa w #[⟨.string ⟨#[102,105,108,101]⟩,.func (.func 96) #[] #[],0⟩] 1 ⟨#[100,101,99,108,97,114,97,116,105,111,110]⟩ (.func (.func 99) #[] #[]) rfl;have N:=fa w #[⟨.string ⟨#[102,105,108,101]⟩,.func (.func 96) #[] #[],0⟩,⟨.string ⟨#[100,101,99,108,97,114,97,116,105,111,110]⟩,.func (.func 99) #[] #[],1⟩] 2 ⟨#[116,121,112,101]⟩ (.func (.func 100) #[] #[]) rfl;have M:=fa w #[⟨.string ⟨#[102,105,108,101]⟩,.func (.func 96) #[] #[],0⟩,⟨.string ⟨#[100,101,99,108,97,114,97,116,105,111,110]⟩,.func (.func 99) #[] #[],1⟩,⟨.string ⟨#[116,121,112,101]⟩,.func (.func 100) #[] #[],2⟩] 3 ⟨#[101,120,112,114,101,115,115,105,111,110]⟩ (.func (.func 101) #[] #[]) rfl;have J:=fa w #[⟨.string ⟨#[102,105,108,101]⟩,.func (.func 96) #[] #[],0⟩,⟨.string ⟨#[100,101,99,108,97,114,97,116,105,111,110]⟩,.func (.func 99) #[] #[],1⟩,⟨.string ⟨#[116,121,112,101]⟩,.func (.func 100) #[] #[],2⟩,⟨.string ⟨#[101,120,112,114,101,115,115,105,111,110]⟩,.func (.func 101) #[] #[],3⟩] 4 ⟨#[115,116,97,116,101,109,101,110,116]⟩ (.func (.func 102) #[] #[]) rfl;have I:=fa w #[⟨.string ⟨#[102,105,108,101]⟩,.func (.func 96) #[] #[],0⟩,⟨.string ⟨#[100,101,99,108,97,114,97,116,105,111,110]⟩,.func (.func 99) #[] #[],1⟩,⟨.string ⟨#[116,121,112,101]⟩,.func (.func 100) #[] #[],2⟩,⟨.string ⟨#[101,120,112,114,101,115,115,105,111,110]⟩,.func (.func 101) #[] #[],3⟩,⟨.string ⟨#[115,116,97,116,101,109,101,110,116]⟩,.func (.func 102) #[] #[],4⟩] 5 ⟨#[115,105,103,110,97,116,117,114,101]⟩ (.func (.func 103) #[] #[]) rfl;(go_enter func69,ntmps69);go_wp2_with fail;go_ret;exact⟨rfl,rfl⟩
theorem CE(w:World)(b:Nat)(key:ByteArray)(v:Value)(i:Nat)(hb:w.heap[b]? = some (.map lK 6))(D:Instr.findNow .string (.string key) lK.toList 0=some (some (i,v))):
  (Instr.lookup 81 (.map (some b)) (.string key) true).run prog w=.ok (.tuple #[v,.bool true]) w:=by(have I:(getObj b).run prog w=.ok (.map lK 6) w:=by rw[getObj,Sem.run,hb];rfl);unfold Instr.lookup;simp only[qh underlying81,Sem.run_bind,Result.andThen_ok,I,L1,qh underlying9,Instr.findKey,D,Sem.run_pure,kG]
theorem L2(a:Array Value)(w:World):(callFunc 99 a).run prog w=.ok (.enter 99 a) w:=by kernel_rfl
theorem L3(a:Array Value)(w:World):(callFunc 96 a).run prog w=.ok (.enter 96 a) w:=by kernel_rfl
theorem Pn(g:Nat)(F:cm)(hF:sa g F):iy g (bM F) 99:=by
 cases g with
 |zero=>exact fun _ _ _ _ _ h=>h.elim
 |succ d=>exact So d F hF.pred
theorem Sx(g:Nat)(F:cm)(hF:sa g F):iy (g+1) (fF F) 96:=by
 intro w v n h hv hd;have M:=hv;obtain⟨A,cp,rfl,hC⟩:=hv.toC;have hB:=(aj w #[n.kind,n.text,.slice A n.kids.length cp,n.pos]).1;have b1:=(aj w #[n.kind,n.text,.slice A n.kids.length cp,n.pos]).2;have HI:=hid (fun w'(hb:Below (w.alloc (.cells #[n.kind,n.text,.slice A n.kids.length cp,n.pos] 24)).heap.size (w.alloc (.cells #[n.kind,n.text,.slice A n.kids.length cp,n.pos] 24)) w')=>lj g (bM F) ⟨99,#[]⟩ A cp n.kids _ ((M.below hB).below hb).kidsV hd.2 hd.1.1 ((Pn g F hF).so L2 _ ((h.below hB).below hb)));(have hE:fF F n=((n.kind==1)&&(aB n.text&&n.kids.all (bM F))):=by unfold fF;rw[fZ]);rw[hE];clear hE M hv hC h hF hd;generalize n.kids.all (bM F)=q at *;generalize n.kind=k at *;cases h1:(k==1)with
 |false=>(go_enter func96,ntmps96);go_wp2_with fail;go_ret;exact⟨rfl,hB⟩
 |true=>
  rw[kO]at h1;subst h1;cases U:aB n.text with
  |false=>(go_enter func96,ntmps96);go_wp2_with fail;refine(sQ _ _).mono ?_;rw[U];rintro e w1⟨rfl,D⟩;have I:=au hB D;clear D;go_wp2_with fail;go_ret;exact⟨rfl,I⟩
  |true=>(go_enter func96,ntmps96);go_wp2_with fail;refine(sQ _ _).mono ?_;rw[U];rintro e w1⟨rfl,D⟩;have I:=au hB D;have O:=hid (HI.out _ D);obtain⟨x0,x1,x2,x3,_,_,_,_⟩:=ab (b1.below D (by simp));clear D HI;go_wp2_with fail;refine O.out.mono ?_;rintro e w2⟨rfl,J⟩;have N:=au I J;clear J;go_wp2_with fail;go_ret;exact⟨rfl,N⟩
theorem uS(v:Value)(n:Nd)(w:World)(I:aF w v n)(D:rn 101 n):
 Calls prog 70 #[v] w fun e w'=>e=.returned (.int .i64 (et n:Int))/\Below w w w':=callsIn_wide.1 (GX v n w I D)
theorem y7(v:Value)(n:Nd)(w:World)(I:aF w v n)(D:rn 100 n)(J:(aO 100 n).length<=1000000000):
 Calls prog 71 #[v] w fun e w'=>e=.returned (.int .i64 ((aO 100 n).length:Int))/\Below w w w':=callsIn_wide.1 (LY v n w I D J)
theorem rn.pred:∀{g:Nat}{n:Nd},rn (g+1) n->rn g n
 |0,_,_=>trivial
 |_+1,_,h=>⟨h.1,fun k hk=>rn.pred (h.2 k hk)⟩
theorem sc(n:Nd):bc n=(decide ((et n:Int)<=100)&&(decide (((aO 100 n).length:Int)<=65536)&&fF (aa 100) n)):=by(have I:decide ((et n:Int)<=100)=decide (et n<=100):=by rw[kV];omega);(have D:decide (((aO 100 n).length:Int)<=65536)=decide ((aO 100 n).length<=65536):=by rw[kV];omega);rw[I,D];unfold bc yR;generalize fF (aa 100) n=q;rfl
theorem GZ(v:Value)(n:Nd)(w:World)(hT:dw w)(h:aF w v n)(hw:rn 101 n)(hc:(aO 100 n).length<=1000000000):
  Calls prog 52 #[v,.string ⟨#[102,105,108,101]⟩] w fun e w'=>e=.returned (.bool (bc n))/\Below w w w':=by
 have M:=h;obtain⟨A,cp,rfl,hC⟩:=h.toC;have hB:=((gH w.heap.size w).alloc (gC _) (.cells #[n.kind,n.text,.slice A n.kids.length cp,n.pos] 24)).alloc (by simp) (.map lK 6);have b1:aq ((w.alloc (.cells #[n.kind,n.text,.slice A n.kids.length cp,n.pos] 24)).alloc (.map lK 6)) w.heap.size 24 #[n.kind,n.text,.slice A n.kids.length cp,n.pos]:=(aq.new w _ _).alloc _;have gg:=CE ((w.alloc (.cells #[n.kind,n.text,.slice A n.kids.length cp,n.pos] 24)).alloc (.map lK 6)) (w.heap.size+1) ⟨#[102,105,108,101]⟩ (.func (.func 96) #[] #[]) 0 (tE (by simp) _) rfl;have HV:=hid (M.below hB);have HT:=hid (hT.below hB);have HW:=hid hw;have HC:=hid hc;have he:=L3;clear M h hC hT hw hc;(go_enter func52,ntmps52);go_wp2_with fail;refine(y6 _).mono ?_;rintro e w1⟨rfl,rfl⟩;go_wp2_with fail;refine(uS _ n _ HV.out HW.out).mono ?_;rintro e w1⟨rfl,I⟩;have HE:=hid (sc n);have O:=au hB I;have c1:=b1.below I (by simp;omega);obtain⟨x0,x1,x2,x3,_,_,_,_⟩:=ab c1;have U:=hid (HV.out.below I);have ge:=hid (HT.out.below I);clear I b1 hB;cases hd:decide ((et n:Int)<=100)with
 |false=>go_wp2_with fail;go_ret;exact⟨by rw[HE.out,hd];rfl,O⟩
 |true=>
  have HD:=hid (li (HW.out.pred) (by have:=of_decide_eq_true hd;omega));go_wp2_with fail;refine(y7 _ n _ U.out HW.out.pred HC.out).mono ?_;rintro e w2⟨rfl,D⟩;have N:=au O D;have c2:=c1.bl D;obtain⟨y0,y1,y2,y3,_,_,_,_⟩:=ab c2;have gb:=hid (U.out.below D);have gd:=hid (ge.out.below D);clear D c1 c2 x0 x1 x2 x3;cases hs:decide (((aO 100 n).length:Int)<=65536)with
  |false=>go_wp2_with fail;go_ret;exact⟨by rw[HE.out,hd,hs];rfl,N⟩
  |true=>go_wp2_with fail;refine(Sx 100 (aa 100) (Su 100) _ _ n gd.out gb.out HD.out.succ).mono ?_;rintro e w3⟨rfl,J⟩;have ga:=au N J;clear J;go_wp2_with fail;go_ret;exact⟨by rw[HE.out,hd,hs];rfl,ga⟩
def bA(n:Nd):Bool:=decide (et n<=100)&&(decide (yR 100 n<=65536)&&aH (aa 100) n)
theorem sd(n:Nd):bA n=(decide ((et n:Int)<=100)&&(decide (((aO 100 n).length:Int)<=65536)&&aH (aa 100) n)):=by(have I:decide ((et n:Int)<=100)=decide (et n<=100):=by rw[kV];omega);(have D:decide (((aO 100 n).length:Int)<=65536)=decide ((aO 100 n).length<=65536):=by rw[kV];omega);rw[I,D];unfold bA yR;generalize aH (aa 100) n=q;rfl
theorem Eg(v:Value)(n:Nd)(w:World)(hT:dw w)(h:aF w v n)(hw:rn 101 n)(hc:(aO 100 n).length<=1000000000):
  Calls prog 52 #[v,.string ⟨#[101,120,112,114,101,115,115,105,111,110]⟩] w fun e w'=>e=.returned (.bool (bA n))/\Below w w w':=by
 have M:=h;obtain⟨A,cp,rfl,hC⟩:=h.toC;have hB:=((gH w.heap.size w).alloc (gC _) (.cells (nv n A cp) 24)).alloc (by simp) (.map lK 6);have b1:aq ((w.alloc (.cells (nv n A cp) 24)).alloc (.map lK 6)) w.heap.size 24 (nv n A cp):=(aq.new w _ _).alloc _;have gg:=CE ((w.alloc (.cells (nv n A cp) 24)).alloc (.map lK 6)) (w.heap.size+1) ⟨#[101,120,112,114,101,115,115,105,111,110]⟩ (.func (.func 101) #[] #[]) 3 (tE (by simp) _) rfl;have HV:=hid (M.below hB);have HT:=hid (hT.below hB);have HW:=hid hw;have HC:=hid hc;have he:=dV;clear M h hC hT hw hc;(go_enter func52,ntmps52);go_wp2_with fail;refine(y6 _).mono ?_;rintro e w1⟨rfl,rfl⟩;go_wp2_with fail;refine(uS _ n _ HV.out HW.out).mono ?_;rintro e w1⟨rfl,I⟩;have HE:=hid (sd n);have O:=au hB I;have c1:=b1.below I (by simp;omega);obtain⟨x0,x1,x2,x3,_,_,_,_⟩:=ab c1;have U:=hid (HV.out.below I);have ge:=hid (HT.out.below I);clear I b1 hB;cases hd:decide ((et n:Int)<=100)with
 |false=>go_wp2_with fail;go_ret;exact⟨by rw[HE.out,hd];rfl,O⟩
 |true=>
  have HD:=hid (li (HW.out.pred) (by have:=of_decide_eq_true hd;omega));go_wp2_with fail;refine(y7 _ n _ U.out HW.out.pred HC.out).mono ?_;rintro e w2⟨rfl,D⟩;have N:=au O D;have c2:=c1.bl D;obtain⟨y0,y1,y2,y3,_,_,_,_⟩:=ab c2;have gb:=hid (U.out.below D);have gd:=hid (ge.out.below D);clear D c1 c2 x0 x1 x2 x3;cases hs:decide (((aO 100 n).length:Int)<=65536)with
  |false=>go_wp2_with fail;go_ret;exact⟨by rw[HE.out,hd,hs];rfl,N⟩
  |true=>go_wp2_with fail;refine(LS 100 (aa 100) (Su 100) _ _ n gd.out gb.out HD.out.succ).mono ?_;rintro e w3⟨rfl,J⟩;have ga:=au N J;clear J;go_wp2_with fail;go_ret;exact⟨by rw[HE.out,hd,hs];rfl,ga⟩
def dA(w:World)(g:Nat)(l:List ByteArray):Prop:=∀i(h:i<l.length),w.cell? ⟨g,i,none⟩=some (.string l[i])
theorem dA.of_blk{w:World}{g:Nat}{t:TypeId}{l:List ByteArray}{C:Array Value}(e:C=(l.map Value.string).toArray)(h:aq w g t C):dA w g l:=by subst e;intro i hi;have:=h.cell i;rw[this];simp[hi]
theorem dA.below{w w':World}{g:Nat}{l:List ByteArray}(h:dA w g l)(hb:Below w w w'):dA w' g l:=fun i hi=>cell_kept hb (h i hi)
theorem dA.grown{w w':World}{R g:Nat}{l:List ByteArray}(h:dA w g l)(D:w.grownBy w' (some R))(I:g≠R):dA w' g l:=fun i hi=>D.cell (h i hi) (fun e=>I (by injection e))
def SA(l:List ByteArray)(x:ByteArray)(w:World)(e:Ending)(w':World):Prop:=∃r:Int,e=.returned (.int .i64 r)/\decide (0<=r)=(l.any fun y=>decide (x=y))/\w=w'
theorem SB(x:ByteArray)(l:List ByteArray)(g c:Nat)(w:World)(hl:l.length<=1000)(h:dA w g l):
  Calls prog 118 #[.slice (some ⟨g,0,none⟩) l.length c,x] w (SA l x w):=by
 have H:=hid h;clear h;(go_enter func118,ntmps118);go_wp2_with fail;go_loopg [5,8] l.length (fun k _ u8 wr=>∃i:Nat,i<=l.length/\l.length-i<=k/\u8=.int .i64 (i:Int)/\w=wr/\(l.take i).any (fun y=>decide (x=y))=false)
 case atStart=>exact⟨0,gQ _,by omega,rfl,rfl,rfl⟩
 case round=>
  obtain⟨i,hi,hk,rfl,rfl,N⟩:=hrel;by_cases D:i<l.length
  ·(have J:(i:Int)<(l.length:Int):=by omega);(have h0:(0:Int)<=(i:Int):=by omega);have hc:=H.out i D;have U:=hid (show(l.take (i+1)).any (fun y=>decide (x=y))=decide (x=l[i])by rw[gU D,List.any_append,N];simp);have HA:Hid (decide (x=l[i])=true->l.any (fun y=>decide (x=y))=true):=hid (by intro hd;rw[qK];exact⟨_,gS D,hd⟩);clear N;generalize l[i]=y at *;cases I:decide (x=y)with
   |true=>(have O:(x.toList==y.toList)=true:=by rw[cz];simpa using I);have M:=hid (HA.out I);clear I HA U;go_wp2_with fail;go_ret;exact⟨(i:Int),rfl,by rw[M.out];simp,rfl⟩
   |false=>
    (have O:(x.toList==y.toList)=false:=by rw[cz];simpa using I);have M:=hid (U.out.trans I);clear I HA U;go_wp2_with fail;go_roundg (l.length-(i+1))
    case measure=>omega
    case rel=>exact⟨i+1,by omega,gC _,by go_num,rfl,M.out⟩
  ·(have J:¬ (i:Int)<(l.length:Int):=by omega);have M:Hid (l.any (fun y=>decide (x=y))=false):=hid (by rw[<-N,gV (by omega)]);clear N;go_wp2_with fail;go_ret;exact⟨-1,rfl,by rw[M.out];rfl,rfl⟩
theorem Pu(x:ByteArray)(l:List ByteArray)(g c:Nat)(w:World)(N:l.length<=1000)(h:dA w g l):
  Calls prog 81 #[.slice (some ⟨g,0,none⟩) l.length c,x] w fun e w'=>e=.returned (.bool (l.any fun y=>decide (x=y)))/\w=w':=by
 have M:=hid (SB x l g c w N h);obtain⟨bb,D⟩:∃bb,bb=l.any fun y=>decide (x=y):=⟨_,rfl⟩
 rw[<-D];have I:=hid D;clear h D;(go_enter func81,ntmps81);go_wp2_with fail;refine M.out.mono ?_;rintro e w'⟨r,rfl,J,rfl⟩;have O:=hid (I.out.trans J.symm);clear J M I;go_wp2_with fail;go_ret;exact⟨by rw[O.out];rfl,rfl⟩
structure CU(w:World)(a b c d e:Nat):Prop where
 l0:dA w a (DO 5)
 l1:dA w b (DO 4)
 l2:dA w c (DO 3)
 l3:dA w d (DO 2)
 l4:dA w e (DO 1)
theorem CU.below{w w':World}{a b c d e:Nat}(h:CU w a b c d e)(hb:Below w w w'):CU w' a b c d e:=
 ⟨h.l0.below hb,h.l1.below hb,h.l2.below hb,h.l3.below hb,h.l4.below hb⟩
def Mi(a b c d e:Nat):Value:=.agg #[.slice (some ⟨a,0,none⟩) 1 1,.slice (some ⟨b,0,none⟩) 1 1,.slice (some ⟨c,0,none⟩) 6 6,.slice (some ⟨d,0,none⟩) 2 2,.slice (some ⟨e,0,none⟩) 3 3]
def Pv(w:World)(e:Ending)(w':World):Prop:=∃a b c d f:Nat,e=.returned (Mi a b c d f)/\CU w' a b c d f/\(w.heap.size<=a/\w.heap.size<=b/\w.heap.size<=c/\w.heap.size<=d/\w.heap.size<=f)/\Below w w w'
theorem wg(w:World):Calls prog 79 #[] w (Pv w):=by(go_enter func79,ntmps79);go_wp2_with fail;have hb:Below w w ((((((w.alloc (.cells #[.slice (some ⟨w.heap.size+1,0,none⟩) 1 1,.slice (some ⟨w.heap.size+1+1,0,none⟩) 1 1,.slice (some ⟨w.heap.size+1+1+1,0,none⟩) 6 6,.slice (some ⟨w.heap.size+1+1+1+1,0,none⟩) 2 2,.slice (some ⟨w.heap.size+1+1+1+1+1,0,none⟩) 3 3] 85)).alloc (.cells #[.string ⟨#[124,124]⟩] 9)).alloc (.cells #[.string ⟨#[38,38]⟩] 9)).alloc (.cells #[.string ⟨#[61,61]⟩,.string ⟨#[33,61]⟩,.string ⟨#[60]⟩,.string ⟨#[60,61]⟩,.string ⟨#[62]⟩,.string ⟨#[62,61]⟩] 9)).alloc (.cells #[.string ⟨#[43]⟩,.string ⟨#[45]⟩] 9)).alloc (.cells #[.string ⟨#[42]⟩,.string ⟨#[47]⟩,.string ⟨#[37]⟩] 9)):=bel;have N:aq ((w.alloc (.cells #[.slice (some ⟨w.heap.size+1,0,none⟩) 1 1,.slice (some ⟨w.heap.size+1+1,0,none⟩) 1 1,.slice (some ⟨w.heap.size+1+1+1,0,none⟩) 6 6,.slice (some ⟨w.heap.size+1+1+1+1,0,none⟩) 2 2,.slice (some ⟨w.heap.size+1+1+1+1+1,0,none⟩) 3 3] 85)).alloc (.cells #[.string ⟨#[124,124]⟩] 9)) (w.heap.size+1) 9 #[.string ⟨#[124,124]⟩]:=aq.new_at (by simp) _ _;have M:aq (((w.alloc (.cells #[.slice (some ⟨w.heap.size+1,0,none⟩) 1 1,.slice (some ⟨w.heap.size+1+1,0,none⟩) 1 1,.slice (some ⟨w.heap.size+1+1+1,0,none⟩) 6 6,.slice (some ⟨w.heap.size+1+1+1+1,0,none⟩) 2 2,.slice (some ⟨w.heap.size+1+1+1+1+1,0,none⟩) 3 3] 85)).alloc (.cells #[.string ⟨#[124,124]⟩] 9)).alloc (.cells #[.string ⟨#[38,38]⟩] 9)) (w.heap.size+1+1) 9 #[.string ⟨#[38,38]⟩]:=aq.new_at (by simp) _ _;have J:=aq.new_at (w:=((w.alloc (.cells #[.slice (some ⟨w.heap.size+1,0,none⟩) 1 1,.slice (some ⟨w.heap.size+1+1,0,none⟩) 1 1,.slice (some ⟨w.heap.size+1+1+1,0,none⟩) 6 6,.slice (some ⟨w.heap.size+1+1+1+1,0,none⟩) 2 2,.slice (some ⟨w.heap.size+1+1+1+1+1,0,none⟩) 3 3] 85)).alloc (.cells #[.string ⟨#[124,124]⟩] 9)).alloc (.cells #[.string ⟨#[38,38]⟩] 9)) (n:=w.heap.size+1+1+1) (by simp) 9 #[.string ⟨#[61,61]⟩,.string ⟨#[33,61]⟩,.string ⟨#[60]⟩,.string ⟨#[60,61]⟩,.string ⟨#[62]⟩,.string ⟨#[62,61]⟩];have I:=aq.new_at (w:=(((w.alloc (.cells #[.slice (some ⟨w.heap.size+1,0,none⟩) 1 1,.slice (some ⟨w.heap.size+1+1,0,none⟩) 1 1,.slice (some ⟨w.heap.size+1+1+1,0,none⟩) 6 6,.slice (some ⟨w.heap.size+1+1+1+1,0,none⟩) 2 2,.slice (some ⟨w.heap.size+1+1+1+1+1,0,none⟩) 3 3] 85)).alloc (.cells #[.string ⟨#[124,124]⟩] 9)).alloc (.cells #[.string ⟨#[38,38]⟩] 9)).alloc (.cells #[.string ⟨#[61,61]⟩,.string ⟨#[33,61]⟩,.string ⟨#[60]⟩,.string ⟨#[60,61]⟩,.string ⟨#[62]⟩,.string ⟨#[62,61]⟩] 9)) (n:=w.heap.size+1+1+1+1) (by simp) 9 #[.string ⟨#[43]⟩,.string ⟨#[45]⟩];have D:=aq.new_at (w:=((((w.alloc (.cells #[.slice (some ⟨w.heap.size+1,0,none⟩) 1 1,.slice (some ⟨w.heap.size+1+1,0,none⟩) 1 1,.slice (some ⟨w.heap.size+1+1+1,0,none⟩) 6 6,.slice (some ⟨w.heap.size+1+1+1+1,0,none⟩) 2 2,.slice (some ⟨w.heap.size+1+1+1+1+1,0,none⟩) 3 3] 85)).alloc (.cells #[.string ⟨#[124,124]⟩] 9)).alloc (.cells #[.string ⟨#[38,38]⟩] 9)).alloc (.cells #[.string ⟨#[61,61]⟩,.string ⟨#[33,61]⟩,.string ⟨#[60]⟩,.string ⟨#[60,61]⟩,.string ⟨#[62]⟩,.string ⟨#[62,61]⟩] 9)).alloc (.cells #[.string ⟨#[43]⟩,.string ⟨#[45]⟩] 9)) (n:=w.heap.size+1+1+1+1+1) (by simp) 9 #[.string ⟨#[42]⟩,.string ⟨#[47]⟩,.string ⟨#[37]⟩];refine jY (v:=Mi (w.heap.size+1) (w.heap.size+1+1) (w.heap.size+1+1+1) (w.heap.size+1+1+1+1) (w.heap.size+1+1+1+1+1)) (by simp[results,Mi,results79,go_sem]) rfl ?_;exact⟨_,_,_,_,_,rfl,⟨dA.of_blk rfl ((((N.alloc _).alloc _).alloc _).alloc _),dA.of_blk rfl (((M.alloc _).alloc _).alloc _),dA.of_blk rfl ((J.alloc _).alloc _),dA.of_blk rfl (I.alloc _),dA.of_blk rfl D⟩,⟨by omega,by omega,by omega,by omega,by omega⟩,hb⟩
theorem tv:∀(d:Nat)(v:Value)(n:Nd)(w:World),d<=1000->aF w v n->rn d n->(aO d n).length<=1000000000 ->
  Calls prog 12 #[v,(d:Int)] w fun e w'=>e=.returned (.int .i64 ((aO d n).length:Int))/\Below w w w':=by
 intro d;induction d with
 |zero=>intro v n w _ hv _ _;obtain⟨A,cp,rfl,hC⟩:=hv.toC;clear hv hC;have hB:=(aj w #[n.kind,n.text,.slice A n.kids.length cp,n.pos]).1;(go_enter func12,ntmps12);go_wp2_with fail;go_ret;exact⟨rfl,hB⟩
 | succ d ih=>
  intro v n w hd hv hw hN;have HV:=hid hv;have HW:=hid hw;have HI:=hid ih;have HN:=hid hN;have ge:=hw.1.1;obtain⟨A,cp,rfl,hC⟩:=hv.toC;clear hv hC hw ih hN;have hB:=(aj w #[n.kind,n.text,.slice A n.kids.length cp,n.pos]).1;have M:=(aj w #[n.kind,n.text,.slice A n.kids.length cp,n.pos]).2;(have hz:((d:Int)+1==0)=false:=by simp;omega);have hT:=hid (show(aO (d+1) n).length=1+(n.kids.flatMap (aO d)).length by rw[aO,gO,Nat.add_comm]);(go_enter func12,ntmps12);go_wp2_with fail;go_loopg [5,6] n.kids.length (fun g1 u5 u6 wr=>∃i:Nat,i<=n.kids.length/\n.kids.length-i<=g1/\u6=.int .i64 (i:Int)/\u5=.int .i64 ((1+((n.kids.take i).flatMap (aO d)).length:Nat):Int)/\Below w w wr/\aq wr w.heap.size 24 #[n.kind,n.text,.slice A n.kids.length cp,n.pos])
  case atStart=>exact⟨0,gQ _,by omega,rfl,by simp,hB,M⟩
  case round=>
   clear M hB;obtain⟨i,hi,hg,rfl,rfl,hB,M⟩:=hrel;obtain⟨x0,x1,x2,x3,-,-,-,-⟩:=ab M;by_cases D:i<n.kids.length
   ·(have N:(i:Int)<(n.kids.length:Int):=by omega);(have h0:(0:Int)<=(i:Int):=by omega);obtain⟨b,off,A1,gh,rfl,-,gg,k0,k1,k2,k3,O⟩:=(HV.out.below hB).kidsV.kid i D;have I:=gS D;have HM:=hid (HW.out.2 _ I);have gb:=hid (show((n.kids.take (i+1)).flatMap (aO d)).length=((n.kids.take i).flatMap (aO d)).length+(aO d n.kids[i]).length by rw[gU D,kI,gM];simp);(have h:((n.kids.take i).flatMap (aO d)).length+(aO d n.kids[i]).length<=(n.kids.flatMap (aO d)).length:=by(conv=>rhs;rw[<-qN (i+1) n.kids,kI,gU D,kI]);simp);clear I;generalize n.kids[i]=x at *;generalize((n.kids.take i).flatMap (aO d)).length=m at *;have U:=HN.out;rw[hT.out]at U;have HC:=hid (HI.out _ x wr (by omega) O HM.out (by omega));(have gd:m+(aO d x).length<=1000000000:=by omega);generalize(aO d x).length=p at *;clear O h U HM;go_wp2_with fail;refine HC.out.mono ?_;rintro e w2⟨rfl,J⟩;have ga:=au hB J;have b2:=M.bl J;clear J M HC k0 k1 k2 k3 x0 x1 x2 x3;go_wp2_with fail;go_roundg (n.kids.length-(i+1))
    case measure=>omega
    case rel=>exact⟨i+1,by omega,by omega,by go_num,by rw[gb.out];congr 1;go_num,ga,b2⟩
   ·(have N:¬ (i:Int)<(n.kids.length:Int):=by omega);have ht:n.kids.take i=n.kids:=gV (by omega);have HE:Hid (1+((n.kids.take i).flatMap (aO d)).length=(aO (d+1) n).length):=hid (by rw[ht,hT.out]);clear ht hT;generalize 1+((n.kids.take i).flatMap (aO d)).length=q at *;go_wp2_with fail;go_ret;exact⟨by rw[HE.out];rfl,hB⟩
end
end Go.Proofs.YteialcjaiocjdaaGreatDoor
