/-
  Parts of the proof: Titer Tsize Tright Tright2 Rall ExprP Rbinary. By an AI agent.
-/
import Derived.Test.YtiebcdeafofgdaaGreatDoorJ07
import Derived.Test.YtiebcdeafofgdaaGreatDoorJ13
import Derived.Test.YtiebcdeafofgdaaGreatDoorJ15
import Derived.RangeFuncNested
import Derived.RangeFuncBound
import Derived.RangeFuncCalls
import Derived.RangeFuncLeaves
import Derived.RangeFuncFrom
import Derived.RangeFuncKeeps
import Derived.Shelf.Abstract
import Derived.Shelf.RegionOpen
import Derived.WalkKit
import Derived.OwnWalkIn
import Derived.TacticsInMore
import Derived.LoopNIn
import Derived.LoopIn
import Derived.BigQuiet
import Derived.Defers
import Derived.Recover
set_option maxRecDepth 100000
set_option maxHeartbeats 8000000
namespace Go.Proofs.YtiebcdeafofgdaaGreatDoor
section
open Go.RowKit Go.Lib Go.Proofs Go.Shelf
attribute [local go_sem ↓] Go.wp_at_zero Go.wp_at_succ
attribute [local go_sem] Oper.semAt_some
theorem qi:type_of% @List.size_toArray:=@List.size_toArray
theorem qF:type_of% @Array.replicate_succ:=@Array.replicate_succ
theorem qG:type_of% @Array.replicate_zero:=@Array.replicate_zero
theorem qK:type_of% @List.append_toArray:=@List.append_toArray
theorem qQ:type_of% @List.nil_append:=@List.nil_append
theorem qU:type_of% @List.push_toArray:=@List.push_toArray
structure Ba(n₀ OB:Nat)(W W':World):Prop where
 bel:Below n₀ W W'
 row:∀k,k≠OB->(∃c t f,W.heap[k]? = some (.cells c t f))->W'.heap[k]? = W.heap[k]?
theorem Ba.trans{n₀ OB:Nat}{A B C:World}(h:Ba n₀ OB A B)(k:Ba n₀ OB B C):Ba n₀ OB A C:=
 ⟨h.bel.trans k.bel,fun j hj hc=>by have e:=h.row j hj hc;obtain⟨c,t,f,hc⟩:=hc;exact(k.row j hj ⟨c,t,f,e.trans hc⟩).trans e⟩
theorem Ba.refl(n₀ OB:Nat)(W:World):Ba n₀ OB W W:=⟨gG _ _,fun _ _ _=>rfl⟩
theorem Ba.alloc{n₀ OB:Nat}{A W:World}(h:Ba n₀ OB A W)(D:n₀<=W.heap.size)(o:Obj):Ba n₀ OB A (W.alloc o):=
 h.trans ⟨(gG _ _).alloc D o,fun k _ hc=>by obtain⟨c,t,f,hc⟩:=hc;exact gW W o k (Array.getElem?_eq_some_iff.1 hc).1⟩
theorem Ba.blk{n₀ OB:Nat}{W W':World}(h:Ba n₀ OB W W'){b:Nat}{t:TypeId}{cs:Array Value}(hb:au W b t cs)(D:b≠OB):au W' b t cs:=
 (h.row b D ⟨cs,t,(0,0),hb⟩).trans hb
theorem F9{n₀ OB:Nat}{w:World}(J:n₀<=w.heap.size)(W:World)(l:Nat)(o o':Obj)(M:w.heap.size<=l)(h:W.heap[l]? = some o)(hc:o.isCells=false)(I:o.isWalk=false):Ba n₀ OB W (W.putObj l o'):=
 ⟨belowK_b J W l o o' M h hc I,fun k _ D=>by obtain⟨c,t,f,D⟩:=D;refine World.putObj_heap_other (fun e=>?_);subst e;rw[h]at D;injection D with D;subst D;cases hc⟩
abbrev YV:=Value×{ k:Nat // k<=1000 }
def Bb(x:YV):Array Value:=#[x.1,.int .i64 (x.2.1:Int)]
theorem Pn(l n₀ OB N:Nat)(J Jx:List YV->World->Prop)(hJ:∀s W o,J s W->J s (W.alloc o))
  (hY:∀m pre x W,J pre W->pre.length<N->YieldAt Fence.wide m Tryz.prog l (Bb x) W fun e W'=>(e=.returned (.bool true)/\J (pre++[x]) W'/\Ba n₀ OB W W')\/(e=.returned (.bool false)/\Jx (pre++[x]) W')):
  ∀(g k:Nat)(v:Value)(n:Nd)(pre:List YV)(W:World),g<=1000->aq (· < n₀) W v n->Au g n->J pre W->n₀<=W.heap.size->OB<W.heap.size->pre.length+(b8 g n).length<=N ->
    CallsIn Fence.wide k Tryz.prog 177 #[v,.int .i64 (g:Int),.func (.yield l) #[] #[]] W fun e W'=>
     (e=.returned (.bool true)/\(∃ys,ys.map (·.2.1)=b8 g n/\J (pre++ys) W')/\Ba n₀ OB W W')\/(e=.returned (.bool false)/\∃q,Jx q W'):=by
 intro g;induction g with
 |zero=>
  intro k v n pre W _ hv _ U hn _ _;obtain⟨A,cp,rfl,hC⟩:=hv.toC;have O:=hid (hJ _ _ (.cells (nv n A cp) 24) U);refine callsIn_of_wp Tryz.func177 rfl trivial ?_ rfl;simp only[Tryz.ntmps177,qi,gM,kV,Nat.reduceAdd,Nat.reduceSub,qF,qG,qU,qK,qQ,gV]
  gi_wp2
  go_ret;exact .inl ⟨rfl,⟨[],rfl,by simpa using O.out⟩,(Ba.refl _ _ _).alloc hn _⟩
 |succ g ih=>
  intro k v n pre W hg hv hw U hn hob hN;have gs:=hv;obtain⟨A,cp,rfl,hC⟩:=hv.toC;(have gr:∀k:Nat,((Fence.wide).depth.isSome=true->1<=k):=fun k h=>by cases h);have O:=hid (hJ _ _ (.cells (nv n A cp) 24) U);have b1:=(aH W (nv n A cp)).2;(have hz:((g:Int)+1==0)=false:=by simp;omega);rw[b8,gM]at hN;obtain⟨fn,tmps,assign,body,hy,hR⟩:=hY (k-1) pre (.agg (nv n A cp),⟨g+1,hg⟩) _ O.out (by omega);refine callsIn_of_wp Tryz.func177 rfl trivial ?_ rfl;simp only[Tryz.ntmps177,qi,gM,kV,Nat.reduceAdd,Nat.reduceSub,qF,qG,qU,qK,qQ,gV];have gx:(Instr.yield l #[.agg (nv n A cp),.int .i64 ((g:Int)+1)]).run Tryz.prog (W.alloc (.cells (nv n A cp) 24))=.ok (.round l fn tmps assign body) (W.alloc (.cells (nv n A cp) 24)):=hy;have HN:=hid hN;have HW:=hid hw;have HV:=hid gs;have HH:=hid hY;have HI:=hid ih;have g4:=hid hJ;have gv:=hid ((Ba.refl n₀ OB W).alloc hn (.cells (nv n A cp) 24));clear hy gs hv hC hN hw U hY ih hJ
  gi_wp2
  refine⟨gr _,hR.mono ?_⟩;rintro e W1(⟨rfl,gq,M⟩|⟨rfl,gi⟩)
  case inr=>
   have g1:=hid gi;clear gi
   gi_wp2
   go_ret;exact .inr ⟨rfl,_,g1.out⟩
  have c1:=M.blk b1 (by omega);obtain⟨x0,x1,x2,x3,_,_,_,_⟩:=ag c1;have g7:=hid gq;have g3:=hid (gv.out.trans M);have gy:=M.bel.size;simp at gy;clear hR gq M O gx b1 gv
  gi_wp2
  generalize hpre:pre++[((.agg (nv n A cp):Value),(⟨g+1,hg⟩:{ k:Nat // k<=1000 }))]=D at *;(have yk:D.length=pre.length+1:=by rw[<-hpre];simp);have gu:=hid hpre;clear hpre;have g9:=HW.out.1.1
  gi_loopw [8,19] (fun _ u19 wr=>∃(i:Nat)(ys:List YV),i<=n.kids.length/\u19=.int .i64 (i:Int)/\ys.map (·.2.1)=(n.kids.take i).flatMap (b8 g)/\J (D++ys) wr/\Ba n₀ OB W wr) (fun _ u19 _=>n.kids.length-(RowKit.intOf u19).toNat)
  case atStart=>exact⟨0,[],gP _,rfl,rfl,by simpa using g7.out,g3.out⟩
  case round=>
   clear x0 x1 x2 x3 c1;obtain⟨i,ys,hi,rfl,ge,U,hk⟩:=hrel;have ga:=hid ge;have gw:=hid U;clear ge U;by_cases I:i<n.kids.length
   ·(have gj:(i:Int)<(n.kids.length:Int):=by omega);(have h0:(0:Int)<=(i:Int):=by omega);obtain⟨b,off,A1,gt,rfl,ha,he,k0,k1,k2,k3,gm⟩:=(HV.out.keep (fun b hb _=>hk.bel.block b hb)).kidsV.kid i I;have HM:=hid (jC I);have gb:=hid (show(n.kids.take (i+1)).flatMap (b8 g)=(n.kids.take i).flatMap (b8 g)++b8 g n.kids[i]by rw[kF I,kO];simp);(have gl:((n.kids.take (i+1)).flatMap (b8 g)).length<=(n.kids.flatMap (b8 g)).length:=by(conv=>rhs;rw[<-ve (i+1) n.kids,kO]);rw[gJ];omega);generalize n.kids[i]=x at *;(have gg:ys.length=((n.kids.take i).flatMap (b8 g)).length:=by rw[<-ga.out,jV]);have g8:=hk.bel.size;have HC:=hid (HI.out (k-1) _ x (D++ys) _ (by omega) (gm.keep (w':=wr.alloc (.cells (nv x A1 gt) 24)) (fun b _ I=>gW wr _ b I)) (HW.out.2 x HM.out) (g4.out _ _ (.cells (nv x A1 gt) 24) gw.out) (by simp;omega) (by simp;omega) (by have:=HN.out;rw[gb.out,gJ]at gl;rw[gJ,yk,gg];omega));clear gm gl gg
    gi_wp2
    refine⟨trivial,gr _,HC.out.mono ?_⟩;rintro e W2(⟨rfl,⟨zs,gd,gp⟩,gn⟩|⟨rfl,q,gh⟩)
    case inr=>
     have g0:=hid gh;clear gh
     gi_wp2
     go_ret;exact .inr ⟨rfl,_,g0.out⟩
    have HZ:=hid (show(ys++zs).map (·.2.1)=(n.kids.take (i+1)).flatMap (b8 g)by rw[qa,ga.out,gd,gb.out]);have g6:Hid (J (D++(ys++zs)) W2):=hid (by rw[<-gL];exact gp);have g2:=hid ((hk.alloc (by omega) _).trans gn);clear HC gd gp gn gb k0 k1 k2 k3
    gi_wp2
    go_roundw
    case rel=>exact⟨i+1,ys++zs,by omega,by go_num,HZ.out,g6.out,g2.out⟩
    case measure=>simp[RowKit.intOf];omega
   ·(have gj:¬ (i:Int)<(n.kids.length:Int):=by omega);have ht:n.kids.take i=n.kids:=jK (by omega);have gz:=hid (show(((.agg (nv n A cp):Value),(⟨g+1,hg⟩:{ k:Nat // k<=1000 }))::ys).map (·.2.1)=b8 (g+1) n by rw[b8,jW,ga.out,ht]);have g5:Hid (J (pre++((.agg (nv n A cp):Value),(⟨g+1,hg⟩:{ k:Nat // k<=1000 }))::ys) wr):=hid (by have:=gw.out;rw[<-gu.out,gL]at this;simpa using this);clear ht
    gi_wp2
    go_ret;exact .inl ⟨rfl,⟨_,gz.out,g5.out⟩,hk⟩
theorem Bc(l n₀ OB k g:Nat)(v:Value)(n:Nd)(J Jx:List YV->World->Prop)(hJ:∀s W o,J s W->J s (W.alloc o))
  (hY:∀pre x W,J pre W->pre.length<(b8 g n).length->YieldAt Fence.wide (k-1) Tryz.prog l (Bb x) W fun e W'=>(e=.returned (.bool true)/\J (pre++[x]) W'/\Ba n₀ OB W W')\/(e=.returned (.bool false)/\Jx (pre++[x]) W'))
  (W:World)(bn bd:Nat)(A:Option Addr)(cp:Nat)(he:v=.agg (nv n A cp))(hg:g<=1000)(I:au W bn 24 (nv n A cp))(M:au W bd 3 #[.int .i64 (g:Int)])
  (hv:aq (· < n₀) W v n)(hw:Au g n)(hn:n₀<=W.heap.size)(U:OB<W.heap.size)(h0:J [] W):
  CallsIn Fence.wide k Tryz.prog 176 #[.func (.yield l) #[] #[],.pointer (some ⟨bn,0,none⟩),.pointer (some ⟨bd,0,none⟩)] W fun e W'=>(∃v,e=.returned v)/\((∃ys,ys.map (·.2.1)=b8 g n/\J ys W')\/(∃q:List YV,True/\Jx q W')):=by
 (have ga:∀k:Nat,((Fence.wide).depth.isSome=true->1<=k):=fun k h=>by cases h);have O:=hid (Pn l n₀ OB (b8 g n).length J Jx hJ (fun m pre x W N hl=>by obtain⟨fn,tmps,assign,body,hy,hR⟩:=hY pre x W N hl;exact⟨fn,tmps,assign,body,hy,⟨hR.1,fun c cs _=>hR.2 c cs (fun d h=>by cases h)⟩⟩) g (k-1) v n [] W hg hv hw h0 hn U (by simp));obtain⟨x0,x1,x2,x3,_,_,_,_⟩:=ag I;have hd:=bg M;subst he;clear hv hY hJ I M hw;refine callsIn_of_wp Tryz.func176 rfl trivial ?_ rfl;simp only[Tryz.ntmps176,qi,gM,kV,Nat.reduceAdd,Nat.reduceSub,qF,qG,qU,qK,qQ,gV]
 gi_wp2
 refine⟨trivial,ga _,O.out.mono ?_⟩;rintro e W1(⟨rfl,⟨ys,D,N⟩,hk⟩|⟨rfl,q,hx⟩)
 ·have gb:=hid D;have gd:=hid N;clear D N O
  gi_wp2
  go_end0;exact⟨⟨_,rfl⟩,.inl ⟨ys,gb.out,by simpa using gd.out⟩⟩
 ·have HX:=hid hx;clear hx O
  gi_wp2
  go_end0;exact⟨⟨_,rfl⟩,.inr ⟨q,trivial,HX.out⟩⟩
theorem DI(k:Nat)(v:Value)(d:Int)(n:Nd)(w:World)(D:bR w v n):
  CallsIn Fence.wide k Tryz.prog 125 #[v,.int .i64 d] w fun e w'=>e=.returned (.func (.func 176) #[] #[w,.pointer (some ⟨w.heap.size+1,0,none⟩)])/\w'=(w.alloc (.cells v.cells 24)).alloc (.cells #[.int .i64 d] 3):=by
 obtain⟨A,cp,rfl,I⟩:=D.toC;clear D I;refine callsIn_of_wp Tryz.func125 rfl trivial ?_ rfl;simp only[Tryz.ntmps125,qi,gM,kV,Nat.reduceAdd,Nat.reduceSub,qF,qG,qU,qK,qQ,gV]
 gi_wp2
 go_ret;exact⟨rfl,rfl⟩
theorem yg(a:Array Value)(w:World):(callFunc 176 a).run Tryz.prog w=.ok (.enter 176 a) w:=by kernel_rfl
theorem TH(p q:Nat)(a b:Value)(t:Array Value):((#[p,q]:Array Nat).zip #[a,b]).foldl (fun t x=>t.setIfInBounds x.fst x.snd) t=(t.setIfInBounds p a).setIfInBounds q b:=by simp
theorem Mi(w:World)(c:Array Value)(k:Int):au ((((w.alloc (.cells c 24)).alloc (.cells #[.int .i64 0] 3)).alloc (.cells c 24)).alloc (.cells #[.int .i64 k] 3)) (w.heap.size+1) 3 #[.int .i64 0]/\au ((((w.alloc (.cells c 24)).alloc (.cells #[.int .i64 0] 3)).alloc (.cells c 24)).alloc (.cells #[.int .i64 k] 3)) (w.heap.size+1+1) 24 c/\au ((((w.alloc (.cells c 24)).alloc (.cells #[.int .i64 0] 3)).alloc (.cells c 24)).alloc (.cells #[.int .i64 k] 3)) (w.heap.size+1+1+1) 3 #[.int .i64 k] /\
 Below w w ((((w.alloc (.cells c 24)).alloc (.cells #[.int .i64 0] 3)).alloc (.cells c 24)).alloc (.cells #[.int .i64 k] 3))/\((((w.alloc (.cells c 24)).alloc (.cells #[.int .i64 0] 3)).alloc (.cells c 24)).alloc (.cells #[.int .i64 k] 3)).heap.size=w.heap.size+4:=⟨((au.new_at (by simp) _ _).alloc _).alloc _,(au.new_at (by simp) _ _).alloc _,au.new_at (by simp) _ _,mP,by simp⟩
theorem Mj(v:Value)(n:Nd)(w:World)(hv:bR w v n)(hw:Au 100 n)(hc:(b8 100 n).length<=1000000000):
  CallsIn Fence.wide 9 Tryz.prog 83 #[v] w fun e w'=>e=.returned (.int .i64 ((b8 100 n).length:Int))/\Below w w w':=by
 have N:=hv;obtain⟨A,cp,rfl,hC⟩:=hv.toC;have M:aq (· < w.heap.size) w _ n:=N.mono fun b _ h=>h;have HV:=hid M;have HW:=hid hw;have HC:=hid hc;clear N hv hC M hw hc;refine callsIn_of_wp_marks Tryz.func83 rfl trivial ?_ rfl;simp only[Tryz.ntmps83,qi,gM,kV,Nat.reduceAdd,Nat.reduceSub,qF,qG,qU,qK,qQ,gV]
 gi_wp2
 refine⟨trivial,(DI 8 _ 100 n _ ((HV.out.wide).below mP)).mono ?_⟩;simp only[Value.cells];rintro e w1⟨rfl,rfl⟩;obtain⟨o1,o2,o3,hB,hz⟩:=Mi w (nv n A cp) 100
 gi_wp2
 generalize(((w.alloc (.cells (nv n A cp) 24)).alloc (.cells #[.int .i64 0] 3)).alloc (.cells (nv n A cp) 24)).alloc (.cells #[.int .i64 100] 3)=U at *;have I:SeqStopsK Fence.wide (9-1) Tryz.prog 176 #[.pointer (some ⟨w.heap.size+1+1,0,none⟩),.pointer (some ⟨w.heap.size+1+1+1,0,none⟩)] Bb (Ba w.heap.size (w.heap.size+1)) (fun ys=>ys.map (·.2.1)=b8 100 n) (fun _=>True) (b8 100 n).length U:=
  fun l J Jx W hW hJ hJx hY h0=>Bc l w.heap.size (w.heap.size+1) 8 100 _ n J Jx (fun s W o hs=>hJ s W _ none hs (World.grownBy_alloc W o none) (fun r e=>by cases e)) hY W _ _ A cp rfl (by omega) (o2.below hW (by omega)) (o3.below hW (by omega))
   (HV.out.keep fun b hb _=>(hW.block b (by omega)).trans (hB.block b hb)) HW.out (jB hB.size hW.size) (by have:=hW.size;omega) h0
 have O:=hid I;obtain⟨oc,of⟩:U.cell? ⟨w.heap.size+1,0,none⟩=some (.int .i64 0)/\U.frozen? ⟨w.heap.size+1,0,none⟩=false:=⟨bg o1,o1.frozen 0⟩;clear I o1 o2 o3;refine wpIn_rangeFunc_ownF (w0:=U) rfl (by omega) (gf:=176) (lb:=#[.pointer (some ⟨w.heap.size+1+1,0,none⟩),.pointer (some ⟨w.heap.size+1+1+1,0,none⟩)]) rfl trivial yg O.out (fun h k=>h.trans k) (fun W l o o'=>F9 hB.size W l o o') (gG _ _) (fun _=>rfl)
  (fun pre W=>(W.cell? ⟨w.heap.size+1,0,none⟩=some (.int .i64 (pre.length:Int))/\W.frozen? ⟨w.heap.size+1,0,none⟩=false)/\Below w w W) (fun _ _ _=>False)
  (OwnFrom.and (Own.from (fun s A B row hs hg hr=>⟨Go.cell_kept hs.1 hg hr,(Go.frozen_kept hs.1 hg hr).trans hs.2⟩) _) (ownFrom_below (d5 _) (by omega)))
  (fun _ _ _ _ _ hs _ _=>hs) ⟨⟨oc,of⟩,hB⟩
  (fun x=>{ tmps:=#[.agg (nv n A cp),.pointer (some ⟨w,0,none⟩),.int .i64 0,.pointer (some ⟨w.heap.size+1,0,none⟩),.agg (nv n A cp),
   .func (.func 176) #[] #[.pointer (some ⟨w.heap.size+1+1,0,none⟩),.pointer (some ⟨w.heap.size+1+1+1,0,none⟩)],x.1,.int .i64 (x.2.1:Int),undef,undef,undef],defers:=[] }) ?assign ?body ?done ?stop
 case assign=>
  intro l x W K hK;unfold Bb
  gi_wp2
  rw[TH];exact hK
 case body=>
  rintro l pre x W⟨⟨hc,hf⟩,hb⟩hl;have ga:=kH hl HC.out;have HB:=hid hb;have gb:=hb.size;clear hb hl
  gi_wp2
  refine⟨KeepsOthers.setCell _ _ _,⟨(gG _ _).setCell (p:=⟨w.heap.size+1,0,none⟩) (by show w.heap.size<=w.heap.size+1;omega) _,fun k hk _=>jQ W ⟨w.heap.size+1,0,none⟩ _ k hk⟩,⟨?_,?_⟩,HB.out.setCell (p:=⟨w.heap.size+1,0,none⟩) (by show w.heap.size<=w.heap.size+1;omega) _⟩
  ·rw[World.cell?_setCell_same' _ _ _ (by rw[hc];rfl)];simp
  ·rw[World.frozen?_setCell];exact hf
 case done=>
  rintro D ys W hD hys⟨⟨hc,hf⟩,hb⟩hK;have HB:=hid (hb.trans (F9 (OB:=0) hB.size W D _ (.deferred none) hD hK rfl rfl).bel);have HY:Hid (ys.length=(b8 100 n).length):=hid (by rw[<-hys,jV]);clear hb hys
  gi_wp2
  refine⟨by simp,.inl ⟨_,_,rfl,run_takeDeferred hK,?_⟩⟩;exact⟨_,results_tmp rfl _ _ _,by rw[<-HY.out];rfl,HB.out⟩
 case stop=>rintro D c pre W _ _ h _;exact h.elim
def Sg(l:List Nat):Nat:=l.foldl (fun d l=>max d (102-l)) 0
theorem Mk(l:List Nat)(x:Nat):Sg (l++[x])=max (Sg l) (102-x):=by unfold Sg;rw[List.foldl_append];rfl
theorem Sh(l:List Nat):Sg l<=102:=((rL l 0 102).2 ⟨by omega,fun _ _=>by omega⟩)
theorem Im(v:Value)(n:Nd)(w:World)(hv:bR w v n)(hw:Au 101 n):
  CallsIn Fence.wide 9 Tryz.prog 82 #[v] w fun e w'=>e=.returned (.int .i64 (ic n:Int))/\Below w w w':=by
 have N:=hv;obtain⟨A,cp,rfl,hC⟩:=hv.toC;have M:aq (· < w.heap.size) w _ n:=N.mono fun b _ h=>h;have HV:=hid M;have HW:=hid hw;clear N hv hC M hw;refine callsIn_of_wp_marks Tryz.func82 rfl trivial ?_ rfl;simp only[Tryz.ntmps82,qi,gM,kV,Nat.reduceAdd,Nat.reduceSub,qF,qG,qU,qK,qQ,gV]
 gi_wp2
 refine⟨trivial,(DI 8 _ 101 n _ ((HV.out.wide).below mP)).mono ?_⟩;simp only[Value.cells];rintro e w1⟨rfl,rfl⟩;obtain⟨o1,o2,o3,hB,hz⟩:=Mi w (nv n A cp) 101
 gi_wp2
 generalize(((w.alloc (.cells (nv n A cp) 24)).alloc (.cells #[.int .i64 0] 3)).alloc (.cells (nv n A cp) 24)).alloc (.cells #[.int .i64 101] 3)=U at *;have I:SeqStopsK Fence.wide (9-1) Tryz.prog 176 #[.pointer (some ⟨w.heap.size+1+1,0,none⟩),.pointer (some ⟨w.heap.size+1+1+1,0,none⟩)] Bb (Ba w.heap.size (w.heap.size+1)) (fun ys=>ys.map (·.2.1)=b8 101 n) (fun _=>True) (b8 101 n).length U:=
  fun l J Jx W hW hJ hJx hY h0=>Bc l w.heap.size (w.heap.size+1) 8 101 _ n J Jx (fun s W o hs=>hJ s W _ none hs (World.grownBy_alloc W o none) (fun r e=>by cases e)) hY W _ _ A cp rfl (by omega) (o2.below hW (by omega)) (o3.below hW (by omega))
   (HV.out.keep fun b hb _=>(hW.block b (by omega)).trans (hB.block b hb)) HW.out (jB hB.size hW.size) (by have:=hW.size;omega) h0
 have O:=hid I;obtain⟨oc,of⟩:U.cell? ⟨w.heap.size+1,0,none⟩=some (.int .i64 0)/\U.frozen? ⟨w.heap.size+1,0,none⟩=false:=⟨bg o1,o1.frozen 0⟩;clear I o1 o2 o3;refine wpIn_rangeFunc_ownF (w0:=U) rfl (by omega) (gf:=176) (lb:=#[.pointer (some ⟨w.heap.size+1+1,0,none⟩),.pointer (some ⟨w.heap.size+1+1+1,0,none⟩)]) rfl trivial yg O.out (fun h k=>h.trans k) (fun W l o o'=>F9 hB.size W l o o') (gG _ _) (fun _=>rfl)
  (fun pre W=>(W.cell? ⟨w.heap.size+1,0,none⟩=some (.int .i64 (Sg (pre.map (·.2.1)):Int))/\W.frozen? ⟨w.heap.size+1,0,none⟩=false)/\Below w w W) (fun _ _ _=>False)
  (OwnFrom.and (Own.from (fun s A B row hs hg hr=>⟨Go.cell_kept hs.1 hg hr,(Go.frozen_kept hs.1 hg hr).trans hs.2⟩) _) (ownFrom_below (d5 _) (by omega)))
  (fun _ _ _ _ _ hs _ _=>hs) ⟨⟨oc,of⟩,hB⟩
  (fun x=>{ tmps:=#[.agg (nv n A cp),.pointer (some ⟨w,0,none⟩),.int .i64 0,.pointer (some ⟨w.heap.size+1,0,none⟩),undef,.int .i64 (x.2.1:Int),.agg (nv n A cp),
   .func (.func 176) #[] #[.pointer (some ⟨w.heap.size+1+1,0,none⟩),.pointer (some ⟨w.heap.size+1+1+1,0,none⟩)],x.1,.int .i64 (x.2.1:Int),undef,undef,undef,undef,undef],defers:=[] }) ?assign ?body ?done ?stop
 case assign=>
  intro l x W K hK;unfold Bb
  gi_wp2
  exact hK
 case body=>
  rintro l pre x W⟨⟨hc,hf⟩,hb⟩hl;have ga:=x.2.2;have gb:=Sh (pre.map (·.2.1));have HS:=hid (Mk (pre.map (·.2.1)) x.2.1);generalize Sg (pre.map (·.2.1))=dd at *;have HB:=hid hb;have gd:=hb.size;clear hb hl
  gi_wp2
  refine⟨KeepsOthers.setCell _ _ _,⟨(gG _ _).setCell (p:=⟨w.heap.size+1,0,none⟩) (by show w.heap.size<=w.heap.size+1;omega) _,fun k hk _=>jQ W ⟨w.heap.size+1,0,none⟩ _ k hk⟩,⟨?_,?_⟩,HB.out.setCell (p:=⟨w.heap.size+1,0,none⟩) (by show w.heap.size<=w.heap.size+1;omega) _⟩
  ·rw[World.cell?_setCell_same' _ _ _ (by rw[hc];rfl),qa,List.map_singleton,HS.out];rw[show max (dd:Int) (102-(x.2.1:Int))=((max dd (102-x.2.1):Nat):Int)by omega]
  ·rw[World.frozen?_setCell];exact hf
 case done=>
  rintro D ys W hD hys⟨⟨hc,hf⟩,hb⟩hK;have HB:=hid (hb.trans (F9 (OB:=0) hB.size W D _ (.deferred none) hD hK rfl rfl).bel);have HY:Hid (Sg (ys.map (·.2.1))=ic n):=hid (by rw[hys];rfl);clear hb hys
  gi_wp2
  refine⟨by simp,.inl ⟨_,_,rfl,run_takeDeferred hK,?_⟩⟩;exact⟨_,results_tmp rfl _ _ _,by rw[<-HY.out];rfl,HB.out⟩
 case stop=>rintro D c pre W _ _ h _;exact h.elim
end
section
open Go.RowKit Go.Lib Go.Proofs
attribute [local go_sem ↓] Go.wp_at_zero Go.wp_at_succ
theorem In(t:TypeId)(w:World):(Instr.makeMap t none).run Tryz.prog w=.ok (.map (some w.heap.size)) (w.alloc (.map #[] 0)):=rfl
theorem Ml{α:Type}(a:Array α)(x y:α):(a.push x).setIfInBounds a.size y=a.push y:=by rw[Array.push_eq_append,Array.push_eq_append,<-Array.toList_inj];simp[Array.toList_setIfInBounds]
theorem Mm(e:Bool)(k:ByteArray)(w:World):(Instr.checkKey e 10000 9 (.string k)).run Tryz.prog w=.ok () w:=by show(Instr.checkKey e (9999+1) 9 (.string k)).run Tryz.prog w=.ok () w;rw[Instr.checkKey];simp only[Sem.run_bind,qj Tryz.underlying9,Result.andThen_ok,Sem.run_pure]
theorem fq(w:World)(es:Array MapEntry)(clock:Nat)(key:ByteArray)(v:Value)(D:Instr.findNow .string (.string key) es.toList 0=some none):
  (Instr.mapUpdate 92 (.map (some w.heap.size)) (.string key) v).run Tryz.prog (w.alloc (.map es clock))=.ok () (w.alloc (.map (es.push ⟨.string key,v,clock⟩) (clock+1))):=by have hb:(w.alloc (.map es clock)).heap[w.heap.size]? = some (.map es clock):=qq w _;(have I:(getObj w.heap.size).run Tryz.prog (w.alloc (.map es clock))=.ok (.map es clock) (w.alloc (.map es clock)):=by rw[getObj,Sem.run,hb];rfl);(have hs:(setObj w.heap.size (.map (es.push ⟨.string key,v,clock⟩) (clock+1))).run Tryz.prog (w.alloc (.map es clock))=.ok () (w.alloc (.map (es.push ⟨.string key,v,clock⟩) (clock+1))):=by rw[setObj,Sem.run,hb];exact jH (fun h=>Result.ok () { w with heap:=h }) (Ml w.heap _ _));unfold Instr.mapUpdate;simp only[qj Tryz.underlying92,Sem.run_bind,Result.andThen_ok,I,Mm,qj Tryz.underlying9,Instr.findKey,D,Sem.run_pure,hs]
def mn:Array MapEntry:=#[⟨.string ⟨#[102,105,108,101]⟩,.func (.func 117) #[] #[],0⟩,⟨.string ⟨#[100,101,99,108,97,114,97,116,105,111,110]⟩,.func (.func 120) #[] #[],1⟩,⟨.string ⟨#[116,121,112,101]⟩,.func (.func 121) #[] #[],2⟩,
 ⟨.string ⟨#[101,120,112,114,101,115,115,105,111,110]⟩,.func (.func 122) #[] #[],3⟩,⟨.string ⟨#[115,116,97,116,101,109,101,110,116]⟩,.func (.func 123) #[] #[],4⟩,⟨.string ⟨#[115,105,103,110,97,116,117,114,101]⟩,.func (.func 124) #[] #[],5⟩]
theorem Bd(w:World):Calls Tryz.prog 81 #[] w fun e w'=>e=.returned (.map (some w.heap.size))/\w'=w.alloc (.map mn 6):=by have D:=In;have U:=fq w #[] 0 ⟨#[102,105,108,101]⟩ (.func (.func 117) #[] #[]) rfl;have O:=fq w #[⟨.string ⟨#[102,105,108,101]⟩,.func (.func 117) #[] #[],0⟩] 1 ⟨#[100,101,99,108,97,114,97,116,105,111,110]⟩ (.func (.func 120) #[] #[]) rfl;have N:=fq w #[⟨.string ⟨#[102,105,108,101]⟩,.func (.func 117) #[] #[],0⟩,⟨.string ⟨#[100,101,99,108,97,114,97,116,105,111,110]⟩,.func (.func 120) #[] #[],1⟩] 2 ⟨#[116,121,112,101]⟩ (.func (.func 121) #[] #[]) rfl;have M:=fq w #[⟨.string ⟨#[102,105,108,101]⟩,.func (.func 117) #[] #[],0⟩,⟨.string ⟨#[100,101,99,108,97,114,97,116,105,111,110]⟩,.func (.func 120) #[] #[],1⟩,⟨.string ⟨#[116,121,112,101]⟩,.func (.func 121) #[] #[],2⟩] 3 ⟨#[101,120,112,114,101,115,115,105,111,110]⟩ (.func (.func 122) #[] #[]) rfl;have J:=fq w #[⟨.string ⟨#[102,105,108,101]⟩,.func (.func 117) #[] #[],0⟩,⟨.string ⟨#[100,101,99,108,97,114,97,116,105,111,110]⟩,.func (.func 120) #[] #[],1⟩,⟨.string ⟨#[116,121,112,101]⟩,.func (.func 121) #[] #[],2⟩,⟨.string ⟨#[101,120,112,114,101,115,115,105,111,110]⟩,.func (.func 122) #[] #[],3⟩] 4 ⟨#[115,116,97,116,101,109,101,110,116]⟩ (.func (.func 123) #[] #[]) rfl;have I:=fq w #[⟨.string ⟨#[102,105,108,101]⟩,.func (.func 117) #[] #[],0⟩,⟨.string ⟨#[100,101,99,108,97,114,97,116,105,111,110]⟩,.func (.func 120) #[] #[],1⟩,⟨.string ⟨#[116,121,112,101]⟩,.func (.func 121) #[] #[],2⟩,⟨.string ⟨#[101,120,112,114,101,115,115,105,111,110]⟩,.func (.func 122) #[] #[],3⟩,⟨.string ⟨#[115,116,97,116,101,109,101,110,116]⟩,.func (.func 123) #[] #[],4⟩] 5 ⟨#[115,105,103,110,97,116,117,114,101]⟩ (.func (.func 124) #[] #[]) rfl;(go_enter Tryz.func81,Tryz.ntmps81);(go_wp2_with fail);go_ret;exact⟨rfl,rfl⟩
theorem DJ(w:World)(b:Nat)(key:ByteArray)(v:Value)(i:Nat)(hb:w.heap[b]? = some (.map mn 6))(D:Instr.findNow .string (.string key) mn.toList 0=some (some (i,v))):
  (Instr.lookup 92 (.map (some b)) (.string key) true).run Tryz.prog w=.ok (.tuple #[v,.bool true]) w:=by(have I:(getObj b).run Tryz.prog w=.ok (.map mn 6) w:=by rw[getObj,Sem.run,hb];rfl);unfold Instr.lookup;simp only[qj Tryz.underlying92,Sem.run_bind,Result.andThen_ok,I,Mm,qj Tryz.underlying9,Instr.findKey,D,Sem.run_pure,kJ]
theorem Mn(a:Array Value)(w:World):(callFunc 120 a).run Tryz.prog w=.ok (.enter 120 a) w:=by kernel_rfl
theorem Mo(a:Array Value)(w:World):(callFunc 117 a).run Tryz.prog w=.ok (.enter 117 a) w:=by kernel_rfl
theorem Po(g:Nat)(F:dM)(hF:te g F):iU g (f8 F) 120:=by
 cases g with
 |zero=>exact fun _ _ _ _ _ h=>h.elim
 |succ d=>exact Sa d F hF.pred
theorem Si(g:Nat)(F:dM)(hF:te g F):iU (g+1) (iT F) 117:=by
 intro w v n hT hv hd;have M:=hv;obtain⟨A,cp,rfl,hC⟩:=hv.toC;have hB:=(aH w #[.int .i64 n.kind,.string n.text,.slice A n.kids.length cp,.int .i64 n.pos]).1;have b1:=(aH w #[.int .i64 n.kind,.string n.text,.slice A n.kids.length cp,.int .i64 n.pos]).2;have HI:=hid (fun w'(hb:Below (w.alloc (.cells #[.int .i64 n.kind,.string n.text,.slice A n.kids.length cp,.int .i64 n.pos] 24)).heap.size (w.alloc (.cells #[.int .i64 n.kind,.string n.text,.slice A n.kids.length cp,.int .i64 n.pos] 24)) w')=>lI g (f8 F) ⟨120,#[]⟩ A cp n.kids _ ((M.below hB).below hb).kidsV hd.2 hd.1.1 ((Po g F hF).so Mn _ ((hT.below hB).below hb)));(have hE:iT F n=((n.kind==1)&&(aO n.text&&n.kids.all (f8 F))):=by unfold iT;rw[lH]);rw[hE];clear hE M hv hC hT hF hd;generalize n.kids.all (f8 F)=q at *;generalize n.kind=k at *;cases h:(k==1)with
 |false=>(go_enter Tryz.func117,Tryz.ntmps117);(go_wp2_with fail);go_ret;exact⟨rfl,hB⟩
 |true=>
  rw[kK]at h;subst h;cases U:aO n.text with
  |false=>(go_enter Tryz.func117,Tryz.ntmps117);(go_wp2_with fail);refine(tR _ _).mono ?_;rw[U];rintro e w1⟨rfl,D⟩;have I:=a8 hB D;clear D;(go_wp2_with fail);go_ret;exact⟨rfl,I⟩
  |true=>(go_enter Tryz.func117,Tryz.ntmps117);(go_wp2_with fail);refine(tR _ _).mono ?_;rw[U];rintro e w1⟨rfl,D⟩;have I:=a8 hB D;have O:=hid (HI.out _ D);obtain⟨x0,x1,x2,x3,_,_,_,_⟩:=ag (b1.below D (by simp));clear D HI;(go_wp2_with fail);refine O.out.mono ?_;rintro e w2⟨rfl,J⟩;have N:=a8 I J;clear J;(go_wp2_with fail);go_ret;exact⟨rfl,N⟩
theorem yh(v:Value)(n:Nd)(w:World)(I:bR w v n)(D:Au 101 n):
 Calls Tryz.prog 82 #[v] w fun e w'=>e=.returned (.int .i64 (ic n:Int))/\Below w w w':=callsIn_wide.1 (Im v n w I D)
theorem Be(v:Value)(n:Nd)(w:World)(I:bR w v n)(D:Au 100 n)(hc:(b8 100 n).length<=1000000000):
 Calls Tryz.prog 83 #[v] w fun e w'=>e=.returned (.int .i64 ((b8 100 n).length:Int))/\Below w w w':=callsIn_wide.1 (Mj v n w I D hc)
theorem Au.pred:∀{g:Nat}{n:Nd},Au (g+1) n->Au g n
 |0,_,_=>trivial
 |_+1,_,h=>⟨h.1,fun k hk=>Au.pred (h.2 k hk)⟩
theorem B2(n:Nd):de n=(decide ((ic n:Int)<=100)&&(decide (((b8 100 n).length:Int)<=65536)&&iT (aj 100) n)):=by(have I:decide ((ic n:Int)<=100)=decide (ic n<=100):=by rw[qf];omega);(have D:decide (((b8 100 n).length:Int)<=65536)=decide ((b8 100 n).length<=65536):=by rw[qf];omega);rw[I,D];unfold de CW;generalize iT (aj 100) n=q;rfl
theorem Bf(v:Value)(n:Nd)(w:World)(hT:dk w)(h:bR w v n)(hw:Au 101 n)(hc:(b8 100 n).length<=1000000000):
  Calls Tryz.prog 61 #[v,.string ⟨#[102,105,108,101]⟩] w fun e w'=>e=.returned (.bool (de n))/\Below w w w':=by
 have M:=h;obtain⟨A,cp,rfl,hC⟩:=h.toC;have hB:=((gG w.heap.size w).alloc (d5 _) (.cells #[.int .i64 n.kind,.string n.text,.slice A n.kids.length cp,.int .i64 n.pos] 24)).alloc (by simp) (.map mn 6);have b1:au ((w.alloc (.cells #[.int .i64 n.kind,.string n.text,.slice A n.kids.length cp,.int .i64 n.pos] 24)).alloc (.map mn 6)) w.heap.size 24 #[.int .i64 n.kind,.string n.text,.slice A n.kids.length cp,.int .i64 n.pos]:=(au.new w _ _).alloc _;have gg:=DJ ((w.alloc (.cells #[.int .i64 n.kind,.string n.text,.slice A n.kids.length cp,.int .i64 n.pos] 24)).alloc (.map mn 6)) (w.heap.size+1) ⟨#[102,105,108,101]⟩ (.func (.func 117) #[] #[]) 0 (uv (by simp) _) rfl;have HV:=hid (M.below hB);have HT:=hid (hT.below hB);have HW:=hid hw;have HC:=hid hc;have he:=Mo;clear M h hC hT hw hc;(go_enter Tryz.func61,Tryz.ntmps61);(go_wp2_with fail);refine(Bd _).mono ?_;rintro e w1⟨rfl,rfl⟩;(go_wp2_with fail);refine(yh _ n _ HV.out HW.out).mono ?_;rintro e w1⟨rfl,I⟩;have HE:=hid (B2 n);have O:=a8 hB I;have c1:=b1.below I (by simp;omega);obtain⟨x0,x1,x2,x3,_,_,_,_⟩:=ag c1;have U:=hid (HV.out.below I);have ge:=hid (HT.out.below I);clear I b1 hB;cases hd:decide ((ic n:Int)<=100)with
 |false=>(go_wp2_with fail);go_ret;exact⟨by rw[HE.out,hd];rfl,O⟩
 |true=>
  have HD:=hid (oV (HW.out.pred) (by have:=of_decide_eq_true hd;omega));(go_wp2_with fail);refine(Be _ n _ U.out HW.out.pred HC.out).mono ?_;rintro e w2⟨rfl,D⟩;have N:=a8 O D;have c2:=c1.bl D;obtain⟨y0,y1,y2,y3,_,_,_,_⟩:=ag c2;have gb:=hid (U.out.below D);have gd:=hid (ge.out.below D);clear D c1 c2 x0 x1 x2 x3;cases hs:decide (((b8 100 n).length:Int)<=65536)with
  |false=>(go_wp2_with fail);go_ret;exact⟨by rw[HE.out,hd,hs];rfl,N⟩
  |true=>(go_wp2_with fail);refine(Si 100 (aj 100) (Sf 100) _ _ n gd.out gb.out HD.out.succ).mono ?_;rintro e w3⟨rfl,J⟩;have ga:=a8 N J;clear J;(go_wp2_with fail);go_ret;exact⟨by rw[HE.out,hd,hs];rfl,ga⟩
def oF(n:Nd):Bool:=decide (ic n<=100)&&(decide (CW 100 n<=65536)&&dc (aj 100) n)
theorem B4(n:Nd):oF n=(decide ((ic n:Int)<=100)&&(decide (((b8 100 n).length:Int)<=65536)&&dc (aj 100) n)):=by(have I:decide ((ic n:Int)<=100)=decide (ic n<=100):=by rw[qf];omega);(have D:decide (((b8 100 n).length:Int)<=65536)=decide ((b8 100 n).length<=65536):=by rw[qf];omega);rw[I,D];unfold oF CW;generalize dc (aj 100) n=q;rfl
theorem yj(v:Value)(n:Nd)(w:World)(hT:dk w)(h:bR w v n)(hw:Au 101 n)(hc:(b8 100 n).length<=1000000000):
  Calls Tryz.prog 61 #[v,.string ⟨#[101,120,112,114,101,115,115,105,111,110]⟩] w fun e w'=>e=.returned (.bool (oF n))/\Below w w w':=by
 have M:=h;obtain⟨A,cp,rfl,hC⟩:=h.toC;have hB:=((gG w.heap.size w).alloc (d5 _) (.cells (nv n A cp) 24)).alloc (by simp) (.map mn 6);have b1:au ((w.alloc (.cells (nv n A cp) 24)).alloc (.map mn 6)) w.heap.size 24 (nv n A cp):=(au.new w _ _).alloc _;have gg:=DJ ((w.alloc (.cells (nv n A cp) 24)).alloc (.map mn 6)) (w.heap.size+1) ⟨#[101,120,112,114,101,115,115,105,111,110]⟩ (.func (.func 122) #[] #[]) 3 (uv (by simp) _) rfl;have HV:=hid (M.below hB);have HT:=hid (hT.below hB);have HW:=hid hw;have HC:=hid hc;have he:=eg;clear M h hC hT hw hc;(go_enter Tryz.func61,Tryz.ntmps61);(go_wp2_with fail);refine(Bd _).mono ?_;rintro e w1⟨rfl,rfl⟩;(go_wp2_with fail);refine(yh _ n _ HV.out HW.out).mono ?_;rintro e w1⟨rfl,I⟩;have HE:=hid (B4 n);have O:=a8 hB I;have c1:=b1.below I (by simp;omega);obtain⟨x0,x1,x2,x3,_,_,_,_⟩:=ag c1;have U:=hid (HV.out.below I);have ge:=hid (HT.out.below I);clear I b1 hB;cases hd:decide ((ic n:Int)<=100)with
 |false=>(go_wp2_with fail);go_ret;exact⟨by rw[HE.out,hd];rfl,O⟩
 |true=>
  have HD:=hid (oV (HW.out.pred) (by have:=of_decide_eq_true hd;omega));(go_wp2_with fail);refine(Be _ n _ U.out HW.out.pred HC.out).mono ?_;rintro e w2⟨rfl,D⟩;have N:=a8 O D;have c2:=c1.bl D;obtain⟨y0,y1,y2,y3,_,_,_,_⟩:=ag c2;have gb:=hid (U.out.below D);have gd:=hid (ge.out.below D);clear D c1 c2 x0 x1 x2 x3;cases hs:decide (((b8 100 n).length:Int)<=65536)with
  |false=>(go_wp2_with fail);go_ret;exact⟨by rw[HE.out,hd,hs];rfl,N⟩
  |true=>(go_wp2_with fail);refine(Md 100 (aj 100) (Sf 100) _ _ n gd.out gb.out HD.out.succ).mono ?_;rintro e w3⟨rfl,J⟩;have ga:=a8 N J;clear J;(go_wp2_with fail);go_ret;exact⟨by rw[HE.out,hd,hs];rfl,ga⟩
end
section
open Go.RowKit Go.Lib Go.Proofs
attribute [local go_sem ↓] Go.wp_at_zero Go.wp_at_succ
attribute [local go_sem] aS aT aU bu bv bw bz
theorem dk.grown{w w':World}{R:Nat}(h:dk w)(I:w.grownBy w' (some R))(D:2≠R):dk w':=by obtain⟨m,h⟩:=h;exact⟨m,(kS (I.block _ (gX w _ h) (fun e=>D (by injection e)))).trans h⟩
def Whole(E:co)(w:World)(n:Nd)(e:Ending)(w':World):Prop:=
 (∃v,e=.returned (.tuple #[v,.int .i64 0,.int .i64 0])/\aq (fun b=>w.heap.size<=b) w' v n)/\w.grownBy w' (some E.R)
def Deep(E:co)(w:World)(e:Ending)(w':World):Prop:=e=.returned (.tuple #[.agg bD,.int .i64 0,.int .i64 11])/\w.grownBy w' (some E.R)
theorem Mp{E:co}{s:St}{w w1:World}{a0 b0 c0 d0 y z:Value}(N:au w1 w.heap.size 24 #[a0,b0,c0,d0])(M:au w1 (w.heap.size+1) 3 #[y])(J:au w1 (w.heap.size+2) 29 #[z])(I:aD E s w w1)(D:E.R<w.heap.size)(a b c d:Value):
  ∃w2,ck w1 w.heap.size a b c d=w2/\au w2 w.heap.size 24 #[a,b,c,d]/\au w2 (w.heap.size+1) 3 #[y]/\au w2 (w.heap.size+2) 29 #[z]/\aD E s w w2/\am (fun b=>w.heap.size+3<=b) w1 w2:=by have far:∀{g t cs},au w1 g t cs->g≠w.heap.size->au (ck w1 w.heap.size a b c d) g t cs:=fun h hg=>(((h.far (p:=⟨w,0,none⟩) hg a).far (p:=⟨w,1,none⟩) hg b).far (p:=⟨w,2,none⟩) hg c).far (p:=⟨w,3,none⟩) hg d;exact⟨_,rfl,cg N a b c d,far M (by omega),far J (by omega),fe I (d5 _) D a b c d,dq (X:=fun b=>w.heap.size+3<=b) (wk:=w1) (g:=w.heap.size) (fun b hb=>by have hb:w.heap.size+3<=b:=hb;omega) a b c d⟩
theorem RI{E:co}{s:St}{w w1:World}{a0 b0 c0 d0 y z:Value}(h0:au w1 w.heap.size 24 #[a0,b0,c0,d0])(h1:au w1 (w.heap.size+1) 3 #[y])(h:au w1 (w.heap.size+2) 29 #[z])(U:aD E s w w1)(O:E.R<w.heap.size)(a b c d:Value)(x:Int):
  ∃w2,((ck w1 w.heap.size a b c d).setCell ⟨w.heap.size+1,0,none⟩ (.int .i64 0)).setCell ⟨w.heap.size+1+1,0,none⟩ (.int .i64 x)=w2/\au w2 w.heap.size 24 #[a,b,c,d]/\au w2 (w.heap.size+1) 3 #[.int .i64 0]/\au w2 (w.heap.size+2) 29 #[.int .i64 x]/\aD E s w w2/\am (fun b=>w.heap.size+3<=b) w1 w2:=by
 obtain⟨w5,rfl,N,M,J,kM,kX⟩:=Mp h0 h1 h U O a b c d;have I:=M.set_ 0 (.int .i64 0);have D:=(J.far (p:=⟨w.heap.size+1,0,none⟩) (by show w.heap.size+2≠w.heap.size+1;omega) (.int .i64 0)).set_ 0 (.int .i64 x);exact⟨_,rfl,(N.far (by show w.heap.size≠w.heap.size+1;omega) _).far (by show w.heap.size≠w.heap.size+1+1;omega) _,by simpa using I.far (p:=⟨w.heap.size+1+1,0,none⟩) (by show w.heap.size+1≠w.heap.size+1+1;omega) (.int .i64 x),by simpa using D,
  (kM.own (by show w.heap.size<=w.heap.size+1;omega) (by show E.R<w.heap.size+1;omega) _).own (by show w.heap.size<=w.heap.size+1+1;omega) (by show E.R<w.heap.size+1+1;omega) _,
  (kX.setCell (p:=⟨w.heap.size+1,0,none⟩) (fun hb=>by have hb:w.heap.size+3<=w.heap.size+1:=hb;omega) _).setCell (p:=⟨w.heap.size+1+1,0,none⟩) (fun hb=>by have hb:w.heap.size+3<=w.heap.size+1+1:=hb;omega) _⟩
theorem we(E:co)(k:FuncId)(first cap:Array Value)(part:R Nd)(s s1:St)(n:Nd)(w:World)(h:aR E w s)
  (hk:∀a w,(callFunc k a).run Tryz.prog w=.ok (.enter k a) w)(hp:fP E k (first++cap) part w)(hP:part E.c s=.ok n s1)(gz:s1.at_=E.c.toks.length)(hT:dk w)(hR:2≠E.R)
  (sort:ByteArray)(ok:Bool)(hr:∀w v,dk w->bR w v n->Calls Tryz.prog 61 #[v,.string sort] w fun e w'=>e=.returned (.bool ok)/\Below w w w'):
  Calls Tryz.prog 31 #[E.R,.string sort,.func (.func k) first cap] w (cond ok (Whole E w n) (Deep E w)):=by
 have hh:∀(fn:Fn)(first cap:Array Value)(w:World),(Instr.makeFunc fn first cap).run Tryz.prog w=.ok (.func fn first cap) w:=fun _ _ _ _=>rfl;have U:=h.lt;have gg:=(((aD.refl h).alloc (.cells bD 24)).alloc (.cells #[.int .i64 0] 3)).alloc (.cells #[.int .i64 0] 29);have g3:au (((w.alloc (.cells bD 24)).alloc (.cells #[.int .i64 0] 3)).alloc (.cells #[.int .i64 0] 29)) w.heap.size 24 bD:=((au.new w _ _).alloc _).alloc _;have g2:au (((w.alloc (.cells bD 24)).alloc (.cells #[.int .i64 0] 3)).alloc (.cells #[.int .i64 0] 29)) (w.heap.size+1) 3 #[.int .i64 0]:=(au.new_at (by simp) _ _).alloc _;have g1:au (((w.alloc (.cells bD 24)).alloc (.cells #[.int .i64 0] 3)).alloc (.cells #[.int .i64 0] 29)) (w.heap.size+2) 29 #[.int .i64 0]:=au.new_at (by simp) _ _;have HC:=hid (hp _ s gg.gr gg.rd (by rw[hP];exact nofun));rw[hP]at HC;have g5:=hid hT;have he:=hid hr;have ha:=hid hR;have hf:=hid gz;clear hp hP hr hT hR gz;(go_enter_defers Tryz.func31,Tryz.ntmps31);(go_wp2_with fail);refine HC.out.mono ?_;rintro e w1⟨⟨v,rfl,hv⟩,N⟩;obtain⟨A,cp,rfl,hC⟩:=hv.toC;have gd:=g3.grown N.gr;have gm:=g2.grown N.gr;have gj:=g1.grown N.gr;have g0:=gg.trans N;(have g7:(((w.alloc (.cells bD 24)).alloc (.cells #[.int .i64 0] 3)).alloc (.cells #[.int .i64 0] 29)).heap.size=w.heap.size+3:=by simp);have g6:=N.gr.size;rw[g7]at g6 hv;obtain⟨d0,d1,d2,d3,e0,e1,e2,e3⟩:=ag gd;obtain⟨w2,g8,M,gb,ga,ge,gy⟩:=Mp gd gm gj g0 U (.int .i64 n.kind) (.string n.text) (.slice A n.kids.length cp) (.int .i64 n.pos);subst g8;have gq:=hv.kept gy;clear gy;obtain⟨c0,c1,-,-,-,-⟩:=ge.rd.cells;rw[hf.out]at c1;unfold ck at c0 c1 M gb ga ge gq;clear g0;clear gd gm gj N;clear g3 g2 g1;clear gg;clear HC hC;clear hv;(go_upto_region 3 with fail);generalize(((w1.setCell ⟨w,0,none⟩ (.int .i64 n.kind)).setCell ⟨w,1,none⟩ (.string n.text)).setCell ⟨w,2,none⟩ (.slice A n.kids.length cp)).setCell ⟨w,3,none⟩ (.int .i64 n.pos)=w2 at *;clear d0 d1 d2 d3 e0 e1 e2 e3;(go_wp2_with fail);go_quiet (fail);have gw:=gq.below ((bC (gG _ w2) nq));have gu:=ge.drewN nq;have g4:=hid (g5.out.grown gu.gr ha.out);obtain⟨x0,x1,x2,x3,-,-,-,-⟩:=ag (M.drewN nq);have gl:=gb.drewN nq;have gi:=ga.drewN nq;have gp:=M.drewN nq;have gv:=hid gw;clear gq ge M gb ga c0 c1 gw;generalize w2.drewN nq=w3 at *;(go_wp2_with fail);refine(he.out _ _ g4.out gv.out.wide).mono ?_;rintro e w4⟨rfl,O⟩;have g9:=hid (gv.out.below O);have gt:=gu.step O;have J:=gp.bl O;have I:=gl.bl O;have D:=gi.bl O;have hg:=gt.gr.size;clear O gu gp gl gi gv g4 x0 x1 x2 x3;obtain⟨x0,x1,x2,x3,y0,y1,y2,y3⟩:=ag J;have z0:=bg I;have z1:=I.frozen 0;have u0:=bg D;have u1:=D.frozen 0;cases ok
 case' false=>obtain⟨w7,e7,gn,gk,gh,gs,gx⟩:=RI J I D gt U (.int .i64 0) (.string ⟨#[]⟩) (.slice none 0 0) (.int .i64 0) 11
 case' true=>obtain⟨w7,e7,gn,gk,gh,gs,gx⟩:=RI J I D gt U (.int .i64 n.kind) (.string n.text) (.slice A n.kids.length cp) (.int .i64 n.pos) 0
 all_goals unfold ck at e7;have E7:=hid e7;clear e7 J I D;(go_wp2_with fail);rw[E7.out];refine kT (f:=59) (args:=#[w,.pointer (some ⟨w.heap.size+1,0,none⟩),.pointer (some ⟨w.heap.size+1+1,0,none⟩)]) (by simp) (by simp[go_sem]) ?_;refine(L4 _ _ _ _).mono ?_;rintro e u' w8⟨rfl,rfl,rfl⟩;clear x0 x1 x2 x3 y0 y1 y2 y3 z0 z1 u0 u1;obtain⟨x0,x1,x2,x3,-,-,-,-⟩:=ag gn;have z0:=bg gk;have u0:=bg gh;simp[Leaves,settle,results,Tryz.results31,go_sem,x0,x1,x2,x3,z0,show _=some _ from u0]
 ·exact⟨⟨_,rfl,(g9.out.kept gx).mono fun b hb _=>by have hb:w.heap.size+3<=b:=hb;omega⟩,gs.gr⟩
 ·exact⟨rfl,gs.gr⟩
def eh(m:R Nd):R Nd:=fun c s=>(m c s).bind fun x s1=>if aP c s1 ⟨#[10]⟩then .ok x (adv s1)else .ok x s1
theorem mX(E:co)(m:R Nd)(gl:eF E m 41)(B:Nat)(w0:World)(hB:au w0 B 52 #[E.R])(gk:B≠E.R):
  fP E 40 #[B] (eh m) w0:=by
 intro w s hw h hno;generalize hres:eh m E.c s=res at *;have J:=hid hres;have g5:=hid hno;have ge:=hB.grown hw (fun e=>gk (by injection e));have b0:=bg ge;have g7:=ge.lt;have gg:=h.lt;have O:=(aD.refl h).alloc (.cells bD 24);have gt:=au.new w 24 bD;have gw:=ge.alloc (.cells bD 24);clear hres hno hB hw;cases hP:m E.c s with
 |out=>exact absurd J.out.symm (by rw[eh,hP];exact g5.out)
 |fail p=>(go_enter Tryz.func40,Tryz.ntmps40);(go_wp2_with fail);refine(gl _ s O.rd (by rw[hP];exact nofun)).mono ?_;rw[hP];rintro e w3⟨rfl,g1⟩;unfold al;exact⟨rfl,ah (by rw[<-J.out,eh,hP];rfl) O.gr g1⟩
 |ok n D=>
  have gj:=hid (gl _ s O.rd (by rw[hP];exact nofun));rw[hP]at gj;have HF:=hid (show(if aP E.c D ⟨#[10]⟩then bH.ok n (adv D)else .ok n D)=res by rw[<-J.out,eh,hP];rfl);clear hP J;(go_enter Tryz.func40,Tryz.ntmps40);(go_wp2_with fail);refine gj.out.mono ?_;rintro e w3⟨⟨v,rfl,hv⟩,N⟩;obtain⟨A,cp,rfl,hC⟩:=hv.toC;have gs:=gt.grown N.gr;have gd:=gw.grown N.gr (fun e=>gk (by injection e));have gm:=O.trans N;have gi:=gm.alloc (.cells (nv n A cp) 24);have b1:=bg gd;have gz:=gd.lt;have gn:=au.new w3 24 (nv n A cp);have gq:=gs.alloc (.cells (nv n A cp) 24);have gv:=gd.alloc (.cells (nv n A cp) 24);(go_wp2_with fail);refine(bW E D ⟨#[10]⟩ _ gi.rd).mono ?_;rintro e w5⟨rfl,I⟩;have M:=gi.step I;have ga:=gn.below I (by simp);have gb:=gq.bl I;have gu:=gv.bl I;have U:=hv.below (((gG w3.heap.size w3).alloc (d5 _) (.cells (nv n A cp) 24)).trans (I.mono (by simp)));have b5:=bg gu;have gx:=N.gr.size;(have gy:(w.alloc (.cells bD 24)).heap.size=w.heap.size+1:=by simp);rw[gy]at gx U;have g8:=I.size;obtain⟨c0,c1,c2,c3,c4,f0⟩:=M.rd.cells;have f1:=f0 1;obtain⟨x0,x1,x2,x3,-,-,-,-⟩:=ag ga;obtain⟨d0,d1,d2,d3,e0,e1,e2,e3⟩:=ag gb;have g6:w3.heap.size<w5.heap.size:=ga.lt;clear b0 b1 I ge gw gd gv gt gs gq gn O gm gi hv N hC f0 gj;cases hi:aP E.c D ⟨#[10]⟩with
  |false=>have HX:Hid (res=.ok n D):=hid (by rw[<-HF.out,hi];rfl);clear HF hi;(go_wp2_with fail);refine aB HX.out U M gb (d5 _) gg ?_ rfl (by rfl) rfl;intro b hb;have hb:w.heap.size+1<=b:=hb;constructor<;>omega
  |true=>have HX:=hid (show res=.ok n (adv D)by rw[<-HF.out,hi];rfl);have g0:=pE M.rd hi;have gh:=M.rd.most;have q1:IntKind.i64.wrap ((D.at_:Int)+1)=(D.at_:Int)+1:=gO _ (by omega);have g3:aD E (adv D) w (w5.setCell ⟨E.R,1,none⟩ (.int .i64 ((D.at_:Int)+1))):=M.setAt (D.at_+1) (by omega);have g4:=ga.far (p:=⟨E.R,1,none⟩) (by show w3.heap.size≠E.R;omega) (.int .i64 ((D.at_:Int)+1));have gp:=gb.far (p:=⟨E.R,1,none⟩) (by show w.heap.size≠E.R;omega) (.int .i64 ((D.at_:Int)+1));have g2:=U.kept ((am.refl (fun b=>w.heap.size+1<=b) w5).setCell (p:=⟨E.R,1,none⟩) (fun hb=>by have hb:w.heap.size+1<=E.R:=hb;omega) (.int .i64 ((D.at_:Int)+1)));clear HF hi g0 gh U M ga gb gu;(go_upto_region 4 with fail);generalize w5.setCell ⟨E.R,1,none⟩ (.int .i64 ((D.at_:Int)+1))=w6 at *;clear x0 x1 x2 x3 d0 d1 d2 d3 e0 e1 e2 e3 c0 c1 c2 c3 c4 f1 b5;obtain⟨x0,x1,x2,x3,-,-,-,-⟩:=ag g4;obtain⟨d0,d1,d2,d3,e0,e1,e2,e3⟩:=ag gp;(go_wp2_with fail);refine aB HX.out g2 g3 gp (d5 _) gg ?_ rfl (by rfl) rfl;intro b hb;have hb:w.heap.size+1<=b:=hb;constructor<;>omega
def Pt(E:co)(F:fJ)(a:Int)(k:Nat):Prop:=
 ∀(w:World)(s:St),aR E w s->i9 F k E.c s≠.out->Calls Tryz.prog 70 #[E.R,.int .i64 a] w (mK E w (i9 F k E.c s))
theorem Is(k:Nat):(EA k).length<=1000:=by unfold EA;split<;>decide
theorem Pu(k:Nat):0<(EA k).length:=by unfold EA;split<;>decide
theorem Pv{w:World}{a b c d f T:Nat}{t:TypeId}(j k:Nat)(I:j+k=4)(D:DN w a b c d f)
  (hT:au w T t #[.slice (some ⟨a,0,none⟩) 1 1,.slice (some ⟨b,0,none⟩) 1 1,.slice (some ⟨c,0,none⟩) 6 6,.slice (some ⟨d,0,none⟩) 2 2,.slice (some ⟨f,0,none⟩) 3 3]):
  ∃g,(g=a\/g=b\/g=c\/g=d\/g=f)/\w.cell? ⟨T,j,none⟩=some (.slice (some ⟨g,0,none⟩) (EA (k+1)).length (EA (k+1)).length)/\dQ w g (EA (k+1)):=by
 rcases j with _|_|_|_|_|j
 ·(obtain rfl:k=4:=by omega);exact⟨a,.inl rfl,(hT.cell 0).trans rfl,D.l0⟩
 ·(obtain rfl:k=3:=by omega);exact⟨b,.inr (.inl rfl),(hT.cell 1).trans rfl,D.l1⟩
 ·(obtain rfl:k=2:=by omega);exact⟨c,.inr (.inr (.inl rfl)),(hT.cell 2).trans rfl,D.l2⟩
 ·(obtain rfl:k=1:=by omega);exact⟨d,.inr (.inr (.inr (.inl rfl))),(hT.cell 3).trans rfl,D.l3⟩
 ·(obtain rfl:k=0:=by omega);exact⟨f,.inr (.inr (.inr (.inr rfl))),(hT.cell 4).trans rfl,D.l4⟩
 ·omega
theorem Mu(E:co)(F:fJ)(hU:eF E (iG F) 92):Pt E F 5 0:=by
 intro w s h hno;generalize D:i9 F 0 E.c s=res at *;have gi:=hid hno;have O:=h.lt;have HE:Hid (iG F E.c s=res):=hid D;clear D hno;(go_enter Tryz.func70,Tryz.ntmps70);(go_wp2_with fail);refine(yl _).mono ?_;rintro e w1⟨ga,gb,gc,gd,ge,rfl,-,-,I⟩;unfold Mt;have U:=(((cU.refl h).alloc _).step I).moved;have gh:=(au.new w 24 bD).below I (by simp);(have gj:w.heap.size+1<=w1.heap.size:=by have:=I.size;simp at this;omega);have gm:=gh.alloc (.cells #[.slice (some ⟨ga,0,none⟩) 1 1,.slice (some ⟨gb,0,none⟩) 1 1,.slice (some ⟨gc,0,none⟩) 6 6,.slice (some ⟨gd,0,none⟩) 2 2,.slice (some ⟨ge,0,none⟩) 3 3] 96);have J:=U.alloc (.cells #[.slice (some ⟨ga,0,none⟩) 1 1,.slice (some ⟨gb,0,none⟩) 1 1,.slice (some ⟨gc,0,none⟩) 6 6,.slice (some ⟨gd,0,none⟩) 2 2,.slice (some ⟨ge,0,none⟩) 3 3] 96);have gn:=jB gj (((gG _ w1).alloc (d5 _) (.cells #[.slice (some ⟨ga,0,none⟩) 1 1,.slice (some ⟨gb,0,none⟩) 1 1,.slice (some ⟨gc,0,none⟩) 6 6,.slice (some ⟨gd,0,none⟩) 2 2,.slice (some ⟨ge,0,none⟩) 3 3] 96)).size);clear I U gh;(go_wp2_with fail);refine(hU _ s J.rd (by rw[HE.out];exact gi.out)).mono ?_;rw[HE.out];cases D:res with
 |out=>exact absurd D gi.out
 |fail p=>rintro e w5⟨rfl,gk⟩;unfold al;exact⟨rfl,ah (by first|rfl|exact D) J.gr gk⟩
 |ok n5 s5=>rintro e w5⟨⟨v5,rfl,M⟩,N⟩;obtain⟨A5,c5,rfl,gp⟩:=M.toC;have gg:=gm.grown N.gr;have gl:=J.trans N;obtain⟨d0,d1,d2,d3,e0,e1,e2,e3⟩:=ag gg;(go_wp2_with fail);refine aB (by first|rfl|exact D) M gl gg (d5 _) O ?_ rfl (by rfl) rfl;intro b hb;constructor<;>omega
theorem Mv{E:co}{sA s8:St}{w I D w12:World}{O T g j:Nat}{lv:List ByteArray}{o n8:Nd}{A:Option Addr}{c:Nat}{A11:Option Addr}{c11:Nat}(tx:ByteArray){v:Value}{b0 b1 b2 b3:Value}
  (gj:aD E sA w I)(gg:aq (fun b=>w.heap.size+1<=b/\b≠O) I (.agg (nv o A c)) o)(gb:au I w.heap.size 24 bD)
  (h:I.cell? ⟨T,j,none⟩=some v)(gd:dQ I g lv)(gu:E.R<w.heap.size)(gv:w.heap.size<O)(gw:O<I.heap.size)(gn:T≠E.R)(gp:T≠O)(gl:g≠E.R)(gm:g≠O)
  (J:aD E s8 I.drew D)(gk:bK (fun b=>I.drew.heap.size<=b) D n8 [.int .i64 n8.kind,.string n8.text,.slice A11 n8.kids.length c11,.int .i64 n8.pos])
  (N:Below (D.alloc (.cells #[.int .i64 o.kind,.string o.text,.slice A o.kids.length c,.int .i64 o.pos,.int .i64 n8.kind,.string n8.text,.slice A11 n8.kids.length c11,.int .i64 n8.pos] 24)).heap.size (D.alloc (.cells #[.int .i64 o.kind,.string o.text,.slice A o.kids.length c,.int .i64 o.pos,.int .i64 n8.kind,.string n8.text,.slice A11 n8.kids.length c11,.int .i64 n8.pos] 24)) w12)
  (gh:au w12 O 24 #[b0,b1,b2,b3]):
  aD E s8 w (ck w12 O (.int .i64 20) (.string tx) (.slice (some ⟨D,0,none⟩) 2 2) (.int .i64 o.pos)) /\
  au (ck w12 O (.int .i64 20) (.string tx) (.slice (some ⟨D,0,none⟩) 2 2) (.int .i64 o.pos)) O 24 #[.int .i64 20,.string tx,.slice (some ⟨D,0,none⟩) 2 2,.int .i64 o.pos] /\
  aq (fun b=>w.heap.size+1<=b/\b≠O) (ck w12 O (.int .i64 20) (.string tx) (.slice (some ⟨D,0,none⟩) 2 2) (.int .i64 o.pos)) (.agg #[.int .i64 20,.string tx,.slice (some ⟨D,0,none⟩) 2 2,.int .i64 o.pos]) (.mk 20 tx [o,n8] o.pos) /\
  au (ck w12 O (.int .i64 20) (.string tx) (.slice (some ⟨D,0,none⟩) 2 2) (.int .i64 o.pos)) w.heap.size 24 bD /\
  (ck w12 O (.int .i64 20) (.string tx) (.slice (some ⟨D,0,none⟩) 2 2) (.int .i64 o.pos)).cell? ⟨T,j,none⟩=some v /\
  dQ (ck w12 O (.int .i64 20) (.string tx) (.slice (some ⟨D,0,none⟩) 2 2) (.int .i64 o.pos)) g lv:=by
 have gt:I.heap.size<=D.heap.size:=J.gr.size;have hd:I.drew.heap.size=I.heap.size:=rfl;(have gs:D.heap.size+1<=w12.heap.size:=by have:=N.size;simp at this;omega);have gi:=((gj.drew.trans J).alloc _).step N;have ge:=((gG D.heap.size D).alloc (d5 _) (.cells #[.int .i64 o.kind,.string o.text,.slice A o.kids.length c,.int .i64 o.pos,.int .i64 n8.kind,.string n8.text,.slice A11 n8.kids.length c11,.int .i64 n8.pos] 24)).trans (N.mono (by simp));have gq:=((gg.cells).keep (w:=I) (w':=I.drew) (fun _ _ _=>rfl)).keep (w':=D) (am.of_grown (X:=fun b=>w.heap.size+1<=b/\b≠O) J.gr).block;have hV:=aq.make 2 rfl (an.cons gq (an.one (gk.mono (Y:=fun b=>w.heap.size+1<=b/\b≠O) fun b hb _=>⟨by omega,by omega⟩))) 20 tx o.pos N;have hk:=dq (X:=fun b=>b≠O) (wk:=w12) (g:=O) (fun _ hb=>hb) (.int .i64 20) (.string tx) (.slice (some ⟨D,0,none⟩) 2 2) (.int .i64 o.pos);have ga:=(gb.drew.grown J.gr).below ge (by have:=gb.lt;omega);have M:=cell_kept ge (J.gr.cell (show I.drew.cell? ⟨T,j,none⟩=some v from h) (fun e=>gn (by injection e)));have U:dQ w12 g lv:=fun i hi=>cell_kept ge (J.gr.cell (show I.drew.cell? ⟨g,i,none⟩=_ from gd i hi) (fun e=>gl (by injection e)));refine⟨fe gi (by omega) (by omega) _ _ _ _,cg gh _ _ _ _,(hV.kept (dq (g:=O) (fun b hb=>?_) _ _ _ _)).mono (fun b hb _=>?_),?_,?_,fun i hi=>?_⟩
 ·rcases hb with⟨hb,_⟩|rfl
  ·exact hb.2
  ·omega
 ·rcases hb with⟨hb,_⟩|rfl
  ·exact hb
  ·exact⟨by omega,by omega⟩
 ·exact(hk.block w.heap.size (by show w.heap.size≠O;omega) ga.lt).trans ga
 ·exact(kS (a:=⟨T,j,none⟩) (hk.block T gp (gX _ _ M))).trans M
 ·exact(kS (a:=⟨g,i,none⟩) (hk.block g gm (gX _ _ (U i hi)))).trans (U i hi)
theorem pV(E:co)(F:fJ)(j k:Nat)(jf:j+k=4)(hB:Pt E F ((j:Int)+1) k):Pt E F (j:Int) (k+1):=by
 intro w s h hno;generalize N:i9 F (k+1) E.c s=res at *;have h3:=hid hno;have g0:=h.lt;have HE:=hid (show(i9 F k E.c s).bind (fun x s1=>lV (k+1) (i9 F k) F.g x E.c s1)=res from N);(have ko:((j:Int)==5)=false:=by simp;omega);(have kp:(0:Int)<=(j:Int):=by omega);(have kn:(j:Int)<5:=by omega);(have km:j<5:=by omega);have HB:=hid hB;have kd:=hid jf;clear N hno hB jf;(go_enter Tryz.func70,Tryz.ntmps70);(go_wp2_with fail);refine(yl _).mono ?_;rintro e w1⟨ga,gb,gc,gd,ge,rfl,jp,hw,g8⟩;unfold Mt;have jo:=(((cU.refl h).alloc _).step g8).moved;have jw:=(au.new w 24 bD).below g8 (by simp);(have kl:w.heap.size+1<=w1.heap.size:=by have:=g8.size;simp at this;omega);obtain⟨g,j5,M,gv⟩:=Pv j k kd.out (jp.below ((gG _ w1).alloc (d5 _) _)) (au.new w1 96 #[.slice (some ⟨ga,0,none⟩) 1 1,.slice (some ⟨gb,0,none⟩) 1 1,.slice (some ⟨gc,0,none⟩) 6 6,.slice (some ⟨gd,0,none⟩) 2 2,.slice (some ⟨ge,0,none⟩) 3 3]);have ju:=jw.alloc (.cells #[.slice (some ⟨ga,0,none⟩) 1 1,.slice (some ⟨gb,0,none⟩) 1 1,.slice (some ⟨gc,0,none⟩) 6 6,.slice (some ⟨gd,0,none⟩) 2 2,.slice (some ⟨ge,0,none⟩) 3 3] 96);have g2:=jo.alloc (.cells #[.slice (some ⟨ga,0,none⟩) 1 1,.slice (some ⟨gb,0,none⟩) 1 1,.slice (some ⟨gc,0,none⟩) 6 6,.slice (some ⟨gd,0,none⟩) 2 2,.slice (some ⟨ge,0,none⟩) 3 3] 96);(have kk:w1.heap.size+1<=(w1.alloc (.cells #[.slice (some ⟨ga,0,none⟩) 1 1,.slice (some ⟨gb,0,none⟩) 1 1,.slice (some ⟨gc,0,none⟩) 6 6,.slice (some ⟨gd,0,none⟩) 2 2,.slice (some ⟨ge,0,none⟩) 3 3] 96)).heap.size:=by simp);(have hy:g≠E.R:=by simp at hw;omega);(have kq:w.heap.size+1<=g:=by simp at hw;omega);clear g8 jo jw jp hw j5;(go_upto_region 2 with fail);generalize hTT:w1.heap.size=T at *;change Code.wp _ _ _ _ (w1.alloc (.cells #[.slice (some ⟨ga,0,none⟩) 1 1,.slice (some ⟨gb,0,none⟩) 1 1,.slice (some ⟨gc,0,none⟩) 6 6,.slice (some ⟨gd,0,none⟩) 2 2,.slice (some ⟨ge,0,none⟩) 3 3] 96));generalize w1.alloc (.cells #[.slice (some ⟨ga,0,none⟩) 1 1,.slice (some ⟨gb,0,none⟩) 1 1,.slice (some ⟨gc,0,none⟩) 6 6,.slice (some ⟨gd,0,none⟩) 2 2,.slice (some ⟨ge,0,none⟩) 3 3] 96)=w2 at *;clear hTT;have je:=Is (k+1);have j2:=Pu (k+1);have kc:=hid (show ∀t:cY,RB (k+1) t=(t.kind==6&&(EA (k+1)).any fun x=>decide (t.text=x))from fun _=>rfl);generalize EA (k+1)=lv at *;(go_wp2_with fail);cases hP:i9 F k E.c s with
 |out=>exact absurd HE.out.symm (by rw[hP];exact h3.out)
 |fail q=>refine(HB.out _ s g2.rd (by rw[hP];exact nofun)).mono ?_;rw[hP];rintro e w3⟨rfl,j6⟩;unfold al;exact⟨rfl,ah (by rw[<-HE.out,hP];rfl) g2.gr j6⟩
 |ok n s1=>
  have jy:Hid (lV (k+1) (i9 F k) F.g n E.c s1=res):=hid (by rw[<-HE.out,hP];rfl);refine(HB.out _ s g2.rd (by rw[hP];exact nofun)).mono ?_;rw[hP];rintro e w3⟨⟨v,rfl,hv⟩,gn⟩;obtain⟨A3,c3,rfl,ka⟩:=hv.toC;have jt:=ju.grown gn.gr;have jn:=g2.trans gn;have kj:=gn.gr.size;have gy:=gn.gr.cell M (fun e=>by injection e with e;simp at e;omega);have gu:=gv.grown gn.gr hy;clear hP HE g2 ju gn M gv ka;(go_wp2_with fail);have jl:=au.new w3 24 (nv n A3 c3);have I:=(aH w3 (nv n A3 c3)).1;have js:=jt.bl I;have jm:=jn.step I;have gx:=cell_kept I gy;have hj:=gu.below I;have ja:=(hv.mono (Y:=fun b=>w.heap.size+1<=b/\b≠w3.heap.size) (fun b hb hlt=>⟨by omega,by omega⟩)).keep (w':=w3.alloc (.cells (nv n A3 c3) 24)) (fun b _ hlt=>I.block b hlt);have kg:g<w3.heap.size:=gX _ _ (gu 0 j2);clear jt jn gy gu hv I;generalize hOO:w3.heap.size=O at *;generalize w3.alloc (.cells (nv n A3 c3) 24)=w4 at *;clear hOO;(have jj:O≠E.R:=by omega);(have ku:O≠w.heap.size:=by omega);(have ks:T<O:=by omega);(have ji:T≠E.R:=by omega);(have j4:g≠O:=by omega);go_loopg [7] F.g (fun gg _ wr=>∃(o:Nd)(s':St)(A:Option Addr)(c:Nat),lV (k+1) (i9 F k) gg o E.c s'=res/\aD E s' w wr/\au wr O 24 (nv o A c)/\aq (fun b=>w.heap.size+1<=b/\b≠O) wr (.agg (nv o A c)) o/\au wr w.heap.size 24 bD/\wr.cell? ⟨T,j,none⟩=some (.slice (some ⟨g,0,none⟩) lv.length lv.length)/\dQ wr g lv)
  case atStart=>exact⟨n,s1,A3,c3,jy.out,jm,jl,ja,js,gx,hj⟩
  case round=>
   rename World=>wr;clear jm jl ja js gx hj jy;obtain⟨o,s',A,c,N,hM,hO,hv,hG,M,gv⟩:=hrel;have h2:=hid N;clear N;cases gk with
   |zero=>exact absurd h2.out.symm h3.out
   |succ g1=>
    have gs:=hid (show(if RB (k+1) (ar E.c s'.at_)then(i9 F k E.c (adv s')).bind (fun y s1=>lV (k+1) (i9 F k) g1 (.mk 20 (ar E.c s'.at_).text [o,y] o.pos) E.c s1)else .ok o s')=res from h2.out);have jk:=hO.lt;clear h2;(go_wp2_with fail);refine(bL E s' _ hM.rd).mono ?_;unfold it;rintro e w5⟨rfl,g7⟩;have jh:(ar E.c s'.at_).kind=6->s'.at_<E.c.toks.length:=by
     intro hk;rcases jZ s'.at_ E.c.toks.length with h1|h1
     ·exact h1
     ·rw[ov E.c _ h1]at hk;simp at hk
    have J:=hid (kc.out (ar E.c s'.at_));generalize ar E.c s'.at_=tk at *;have gj:Below wr wr (w5.alloc (.cells #[.int .i64 tk.kind,.string tk.text,.int .i64 tk.pos] 43)):=g7.alloc g7.size _;have he:=hM.step gj;have g9:=hO.bl gj;have hf:=hG.bl gj;have g5:=hv.keep (w':=w5.alloc (.cells #[.int .i64 tk.kind,.string tk.text,.int .i64 tk.pos] 43)) (fun b _ hlt=>gj.block b hlt);have gi:=cell_kept gj M;have gt:=gv.below gj;have g3:=au.new w5 43 #[.int .i64 tk.kind,.string tk.text,.int .i64 tk.pos];(have ki:O+1<=w5.heap.size:=by have:=g7.size;omega);clear g7 gj hM hO hG hv M gv jk;(go_upto_region 6 with fail);generalize hKK:w5.heap.size=K at *;change Code.wp _ _ _ _ (w5.alloc (.cells #[.int .i64 tk.kind,.string tk.text,.int .i64 tk.pos] 43));generalize w5.alloc (.cells #[.int .i64 tk.kind,.string tk.text,.int .i64 tk.pos] 43)=w6 at *;clear hKK;have hp:w6.cell? ⟨K,0,none⟩=some (.int .i64 tk.kind):=(g3.cell 0).trans rfl;obtain⟨ho,jq⟩:=lh g3;have j1:∀n:Wd (Below w6 w6),n.wd.cell? ⟨K,0,none⟩=some (.int .i64 tk.kind):=fun n=>cell_kept n.ok hp;have j0:∀n:Wd (Below w6 w6),n.wd.cell? ⟨K,1,none⟩=some (.string tk.text):=fun n=>cell_kept n.ok ho;have kRow:∀n:Wd (Below w6 w6),n.wd.cell? ⟨T,j,none⟩=some (.slice (some ⟨g,0,none⟩) lv.length lv.length):=fun n=>cell_kept n.ok gi;have g4:=hid (fun W(hb:Below w6 w6 W)=>Pr tk.text lv g lv.length W je (gt.below hb));by_cases gp:tk.kind=6
    rotate_left
    ·(have j3:(tk.kind != 6)=true:=by simp[bne,gp]);have HF:Hid (res=.ok o s'):=hid (by rw[<-gs.out,gA];rw[J.out];simp[gp]);clear gs J gp;refine cQ w6 ?_;(repeat(go_big_quiet_step (fail)));refine jS ?_;intro n9;have gq:=g9.bl n9.ok;have gh:=hf.bl n9.ok;have gm:=g5.keep (w':=n9.wd) (fun b _ hlt=>n9.ok.block b hlt);obtain⟨x0,x1,x2,x3,-,-,-,-⟩:=ag gq;obtain⟨d0,d1,d2,d3,e0,e1,e2,e3⟩:=ag gh;(go_wp2_with fail);refine aB HF.out gm (he.step n9.ok) gh (d5 _) g0 ?_ rfl (by rfl) rfl;intro b hb;constructor<;>omega
    ·(have j3:(tk.kind != 6)=false:=by simp[bne,gp]);have kr:=jh gp;cases hc:lv.any (fun x=>decide (tk.text=x))with
     |false=>have HF:Hid (res=.ok o s'):=hid (by rw[<-gs.out,gA];rw[J.out,hc];simp);rw[hc]at g4;clear gs J hc;refine cQ w6 ?_;(repeat(go_big_quiet_step ((go_at_call 93;rename_i n;((with_reducible refine(g4.out n.wd n.ok).mono ?_);rintro e w'⟨rfl,rfl⟩);exact⟨rfl,n,rfl⟩))));refine jS ?_;intro n9;have gq:=g9.bl n9.ok;have gh:=hf.bl n9.ok;have gm:=g5.keep (w':=n9.wd) (fun b _ hlt=>n9.ok.block b hlt);obtain⟨x0,x1,x2,x3,-,-,-,-⟩:=ag gq;obtain⟨d0,d1,d2,d3,e0,e1,e2,e3⟩:=ag gh;(go_wp2_with fail);refine aB HF.out gm (he.step n9.ok) gh (d5 _) g0 ?_ rfl (by rfl) rfl;intro b hb;constructor<;>omega
     |true=>
      have hg:=hid (show(i9 F k E.c (adv s')).bind (fun y s1=>lV (k+1) (i9 F k) g1 (.mk 20 tk.text [o,y] o.pos) E.c s1)=res by rw[<-gs.out,gE];rw[J.out,hc,gp];rfl);rw[hc]at g4;clear gs J hc;refine cQ w6 ?_;(repeat(go_big_quiet_step ((go_at_call 93;rename_i n;((with_reducible refine(g4.out n.wd n.ok).mono ?_);rintro e w'⟨rfl,rfl⟩);exact⟨rfl,n,rfl⟩))));refine jS ?_;intro n9;have gq:=g9.bl n9.ok;have gh:=hf.bl n9.ok;have jr:=g3.bl n9.ok;have ha:=he.step n9.ok;have gm:=g5.keep (w':=n9.wd) (fun b _ hlt=>n9.ok.block b hlt);have gw:=cell_kept n9.ok gi;have hh:=gt.below n9.ok;have jd:=n9.ok.size;have kh:=g3.lt;obtain⟨y0,y1,y2,y3,y4,yf⟩:=ha.rd.cells;have jz:=yf 1;have q1:IntKind.i64.wrap ((s'.at_:Int)+1)=(s'.at_:Int)+1:=gO _ (by have:=ha.rd.most;omega);have D:=ha.setAt (s'.at_+1) (by omega);rw[show((s'.at_+1:Nat):Int)=(s'.at_:Int)+1 by omega]at D;replace D:aD E (adv s') w _:=D;clear yf j1 j0 kRow g4;(go_upto_region 9 with fail);have hn:=gq.far (p:=⟨E.R,1,none⟩) (by exact jj) (.int .i64 ((s'.at_:Int)+1));have jv:=gh.far (p:=⟨E.R,1,none⟩) (by show w.heap.size≠E.R;omega) (.int .i64 ((s'.at_:Int)+1));have ht:=jr.far (p:=⟨E.R,1,none⟩) (by show K≠E.R;omega) (.int .i64 ((s'.at_:Int)+1));have jc:=gm.keep (w':=n9.wd.setCell ⟨E.R,1,none⟩ (.int .i64 ((s'.at_:Int)+1))) (fun b hb hlt=>jQ _ _ _ _ (by show b≠E.R;omega));have g6:(n9.wd.setCell ⟨E.R,1,none⟩ (.int .i64 ((s'.at_:Int)+1))).cell? ⟨T,j,none⟩=some (.slice (some ⟨g,0,none⟩) lv.length lv.length):=(gI _ _ _ _ (by exact ji.symm)).trans gw;have hu:dQ (n9.wd.setCell ⟨E.R,1,none⟩ (.int .i64 ((s'.at_:Int)+1))) g lv:=fun i hi=>(gI _ _ _ _ (by exact hy.symm)).trans (hh i hi);(have kf:w6.heap.size<=(n9.wd.setCell ⟨E.R,1,none⟩ (.int .i64 ((s'.at_:Int)+1))).heap.size:=by simpa using jd);clear gq gh jr ha gm gw hh y0 y1 y2 y3 y4 jz q1 g9 hf g3 he g5 gi gt hp ho jq;generalize n9.wd.setCell ⟨E.R,1,none⟩ (.int .i64 ((s'.at_:Int)+1))=w10 at *;clear jd;(have kt:K≠O:=by omega);(have j9:K≠E.R:=by omega);have q2:IntKind.i64.wrap ((j:Int)+1)=(j:Int)+1:=gO _ (by omega);obtain⟨x0,x1,x2,x3,h7,h6,h5,h4⟩:=ag hn;obtain⟨z1,z2⟩:=lh ht;cases hQ:i9 F k E.c (adv s')with
      |out=>exact absurd hg.out.symm (by rw[hQ];exact h3.out)
      |fail q=>have HF:Hid (res=.fail q):=hid (by rw[<-hg.out,hQ];rfl);let SS:World->Prop:=fun w'=>w'.cell? ⟨O,0,none⟩=some (.int .i64 o.kind)/\w'.cell? ⟨O,1,none⟩=some (.string o.text)/\w'.cell? ⟨O,2,none⟩=some (.slice A o.kids.length c)/\w'.cell? ⟨O,3,none⟩=some (.int .i64 o.pos)/\w'.cell? ⟨K,1,none⟩=some (.string tk.text);have kb:SS w10.drew:=⟨x0,x1,x2,x3,z1⟩;(refine gZ (S:=SS) (by kernel_rfl) kb ?_;intro U;refine dL 0 U ?_;refine dL 1 U ?_;refine dL 2 U ?_;refine dL 3 U ?_;refine dL 4 U ?_;refine dL 5 U ?_;refine dL 6 U ?_;refine dL 7 U ?_;refine tM 8 fun K hK=>?_;go_simp);refine(HB.out _ (adv s') D.drew.rd (by rw[hQ];exact nofun)).mono ?_;rw[hQ];rintro e h8⟨rfl,jg⟩;unfold al;exact⟨rfl,ah HF.out D.drew.gr jg⟩
      |ok n8 s8=>
       have ke:Hid (lV (k+1) (i9 F k) g1 (.mk 20 tk.text [o,n8] o.pos) E.c s8=res):=hid (by rw[<-hg.out,hQ];rfl);have HC:=hid (fun W(hr:aR E W (adv s'))=>HB.out W (adv s') hr (by rw[hQ];exact nofun));rw[hQ]at HC;clear hg hQ;go_region_law (first
        |(go_simp;(go_at_call 70);refine(HC.out _ D.drew.rd).mono ?_;rintro e h8⟨⟨v,rfl,jb⟩,gz⟩;obtain⟨kw,kv,rfl,jx⟩:=jb.toC;have gl:=hn.drew.grown gz.gr (fun e=>jj (by injection e));have hq:=ht.drew.grown gz.gr (fun e=>j9 (by injection e));obtain⟨x0,x1,x2,x3,h7,h6,h5,h4⟩:=ag gl;obtain⟨z1,z2⟩:=lh hq;have h0:=hq.lt;have hz:=gl.lt;have j8:=qe h0;have j7:=qe hz)
        |(go_simp;(go_at_call 64);refine(aN _ _ _ _ _ ⟨_,_,_,rfl⟩).mono ?_;rintro e w12⟨rfl,hl⟩;have hm:=(gl.alloc _).below hl (by have:=gl.lt;simp;omega);obtain⟨x0,x1,x2,x3,h7,h6,h5,h4⟩:=ag hm))
       all_goals
        have hN:=Mv tk.text D jc jv g6 hu g0 (by omega) (by omega) ji (by omega) hy j4 gz jx hl hm;(go_wp2_with fail);go_roundg g1
        case measure=>omega
        case rel=>exact⟨.mk 20 tk.text [o,n8] o.pos,s8,some ⟨h8,0,none⟩,2,ke.out,hN⟩
theorem Mw(E:co)(F:fJ)(hU:eF E (iG F) 92):eF E (Lj F) 41:=by
 have b0:=Mu E F hU;have b1:=pV E F 4 0 rfl b0;have b2:=pV E F 3 1 rfl b1;have b3:=pV E F 2 2 rfl b2;have b4:=pV E F 1 3 rfl b3;have b5:=pV E F 0 4 rfl b4;intro w s h hno;generalize D:Lj F E.c s=res at *;have U:=hid hno;have N:=h.lt;have HE:Hid (i9 F 5 E.c s=res):=hid D;have HB:Hid (Pt E F 0 5):=hid b5;clear D hno b0 b1 b2 b3 b4 b5;have gd:=au.new w 24 bD;have I:=(aD.refl h).alloc (.cells bD 24);(have ge:w.heap.size+1<=(w.alloc (.cells bD 24)).heap.size:=by simp);(go_enter Tryz.func41,Tryz.ntmps41);(go_wp2_with fail);refine(HB.out _ s I.rd (by rw[HE.out];exact U.out)).mono ?_;rw[HE.out];cases D:res with
 |out=>exact absurd D U.out
 |fail p=>rintro e w5⟨rfl,ga⟩;unfold al;exact⟨rfl,ah (by first|rfl|exact D) I.gr ga⟩
 |ok n5 s5=>rintro e w5⟨⟨v5,rfl,J⟩,M⟩;obtain⟨A5,c5,rfl,gg⟩:=J.toC;have O:=gd.grown M.gr;have gb:=I.trans M;obtain⟨d0,d1,d2,d3,e0,e1,e2,e3⟩:=ag O;(go_wp2_with fail);refine aB (by first|rfl|exact D) J gb O (d5 _) N ?_ rfl (by rfl) rfl;intro b hb;constructor<;>omega
end
end Go.Proofs.YtiebcdeafofgdaaGreatDoor
