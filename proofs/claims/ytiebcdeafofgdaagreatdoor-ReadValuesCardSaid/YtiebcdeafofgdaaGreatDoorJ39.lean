/-
  Parts of the proof: Titer Tsize Tright. By an AI agent.
-/
import Derived.Test.YtiebcdeafofgdaaGreatDoorJ17
import Derived.RangeFuncNested
import Derived.RangeFuncBound
import Derived.RangeFuncCalls
import Derived.RangeFuncLeaves
import Derived.RangeFuncFrom
import Derived.RangeFuncKeeps
import Derived.Shelf.Abstract
import Derived.Shelf.RegionOpen
import Derived.WalkKit
import Derived.OwnWalkIn
import Derived.TacticsInMore
import Derived.LoopNIn
import Derived.LoopIn
set_option maxRecDepth 100000
set_option maxHeartbeats 8000000
namespace Go.Proofs.YtiebcdeafofgdaaGreatDoor
section
open Go.RowKit Go.Lib Go.Proofs Go.Shelf
attribute [local go_sem ↓] Go.wp_at_zero Go.wp_at_succ
attribute [local go_sem] Oper.semAt_some
structure uP (n₀ OB:Nat) (W W':World):Prop where
 bel:Below n₀ W W'
 row:∀ k,k≠OB→(∃ c t f,W.heap[k]? = some (.cells c t f))→W'.heap[k]? = W.heap[k]?
theorem uP.trans {n₀ OB:Nat} {A B C:World} (h:uP n₀ OB A B) (k:uP n₀ OB B C):uP n₀ OB A C:=
 ⟨h.bel.trans k.bel,fun j hj hc=>by have e:=h.row j hj hc;obtain ⟨c,t,f,hc⟩:=hc;exact (k.row j hj ⟨c,t,f,e.trans hc⟩).trans e⟩
theorem uP.refl (n₀ OB:Nat) (W:World):uP n₀ OB W W:=⟨Below.refl _ _,fun _ _ _=>rfl⟩
theorem uP.alloc {n₀ OB:Nat} {A W:World} (h:uP n₀ OB A W) (D:n₀≤W.heap.size) (o:Obj):uP n₀ OB A (W.alloc o):=
 h.trans ⟨(Below.refl _ _).alloc D o,fun k _ hc=>by obtain ⟨c,t,f,hc⟩:=hc;exact Below.heap_alloc W o k (Array.getElem?_eq_some_iff.1 hc).1⟩
theorem uP.blk {n₀ OB:Nat} {W W':World} (h:uP n₀ OB W W') {b:Nat} {t:TypeId} {cs:Array Value} (hb:aj W b t cs) (D:b≠OB):aj W' b t cs:=
 (h.row b D ⟨cs,t,(0,0),hb⟩).trans hb
theorem C8 {n₀ OB:Nat} {w:World} (J:n₀≤w.heap.size) (W:World) (l:Nat) (o o':Obj) (M:w.heap.size≤l) (h:W.heap[l]? = some o) (hc:o.isCells=false) (I:o.isWalk=false):uP n₀ OB W (W.putObj l o'):=
 ⟨belowK_b J W l o o' M h hc I,fun k _ D=>by obtain ⟨c,t,f,D⟩:=D;refine World.putObj_heap_other (fun e=>?_);subst e;rw [h] at D;injection D with D;subst D;cases hc⟩
abbrev YV:=Value × { k:Nat // k≤1000 }
def uQ (x:YV):Array Value:=#[x.1,.int .i64 (x.2.1:Int)]
theorem Iq (l n₀ OB N:Nat) (J Jx:List YV→World→Prop) (hJ:∀ s W o,J s W→J s (W.alloc o))
  (hY:∀ m pre x W,J pre W→pre.length<N→YieldAt Fence.wide m Tryz.prog l (uQ x) W fun e W'=>(e=.returned (.bool true)∧J (pre++[x]) W'∧uP n₀ OB W W')∨(e=.returned (.bool false)∧Jx (pre++[x]) W')) :
  ∀ (g k:Nat) (v:Value) (n:Nd) (pre:List YV) (W:World),g≤1000→av (· < n₀) W v n→oy g n→J pre W→n₀≤W.heap.size→OB<W.heap.size→pre.length+(bg g n).length≤N →
    CallsIn Fence.wide k Tryz.prog 177 #[v,.int .i64 (g:Int),.func (.yield l) #[] #[]] W fun e W'=>
     (e=.returned (.bool true)∧(∃ ys,ys.map (·.2.1)=bg g n∧J (pre++ys) W')∧uP n₀ OB W W')∨(e=.returned (.bool false)∧∃ q,Jx q W'):=by
 intro g;induction g with
 | zero=>
  intro k v n pre W _ hv _ U hn _ _;obtain ⟨A,cp,rfl,hC⟩:=hv.toC;have O:=hid (hJ _ _ (.cells (nv n A cp) 24) U);refine callsIn_of_wp Tryz.func177 rfl trivial ?_ rfl;simp only [Tryz.ntmps177,List.size_toArray,List.length_cons,List.length_nil,Nat.reduceAdd,Nat.reduceSub,Array.replicate_succ,Array.replicate_zero,List.push_toArray,List.append_toArray,List.nil_append,List.cons_append]
  gi_wp2
  go_ret;exact .inl ⟨rfl,⟨[],rfl,by simpa using O.out⟩,(uP.refl _ _ _).alloc hn _⟩
 | succ g ih=>
  intro k v n pre W hg hv hw U hn hob hN;have gq:=hv;obtain ⟨A,cp,rfl,hC⟩:=hv.toC;(have gp:∀ k:Nat,((Fence.wide).depth.isSome=true→1≤k):=fun k h=>by cases h);have O:=hid (hJ _ _ (.cells (nv n A cp) 24) U);have b1:aj (W.alloc (.cells (nv n A cp) 24)) W.heap.size 24 (nv n A cp):=aj.new W _ _;(have hz:((g:Int)+1==0)=false:=by simp;omega);rw [bg,List.length_cons] at hN;obtain ⟨fn,tmps,assign,body,hy,hR⟩:=hY (k-1) pre (.agg (nv n A cp),⟨g+1,hg⟩) _ O.out (by omega);refine callsIn_of_wp Tryz.func177 rfl trivial ?_ rfl;simp only [Tryz.ntmps177,List.size_toArray,List.length_cons,List.length_nil,Nat.reduceAdd,Nat.reduceSub,Array.replicate_succ,Array.replicate_zero,List.push_toArray,List.append_toArray,List.nil_append,List.cons_append];have gv:(Instr.yield l #[.agg (nv n A cp),.int .i64 ((g:Int)+1)]).run Tryz.prog (W.alloc (.cells (nv n A cp) 24))=.ok (.round l fn tmps assign body) (W.alloc (.cells (nv n A cp) 24)):=hy;have HN:=hid hN;have HW:=hid hw;have HV:=hid gq;have HH:=hid hY;have HI:=hid ih;have g2:=hid hJ;have gt:=hid ((uP.refl n₀ OB W).alloc hn (.cells (nv n A cp) 24));clear hy gq hv hC hN hw U hY ih hJ
  gi_wp2
  refine ⟨gp _,hR.mono ?_⟩;rintro e W1 (⟨rfl,gn,M⟩ | ⟨rfl,gg⟩)
  case inr=>
   have gz:=hid gg;clear gg
   gi_wp2
   go_ret;exact .inr ⟨rfl,_,gz.out⟩
  have c1:=M.blk b1 (by omega);obtain ⟨x0,x1,x2,x3,_,_,_,_⟩:=ac c1;have g5:=hid gn;have g1:=hid (gt.out.trans M);have gw:=M.bel.size;simp at gw;clear hR gn M O gv b1 gt
  gi_wp2
  generalize hpre:pre++[((.agg (nv n A cp):Value),(⟨g+1,hg⟩ : { k:Nat // k≤1000 }))]=D at *;(have gi:D.length=pre.length+1:=by rw [←hpre];simp);have gs:=hid hpre;clear hpre;have g7:=HW.out.1.1
  gi_loopw [8,19] (fun _ u19 wr=>∃ (i:Nat) (ys:List YV),i≤n.kids.length∧u19=.int .i64 (i:Int)∧ys.map (·.2.1)=(n.kids.take i).flatMap (bg g)∧J (D++ys) wr∧uP n₀ OB W wr) (fun _ u19 _=>n.kids.length-(RowKit.intOf u19).toNat)
  case atStart=>exact ⟨0,[],Nat.zero_le _,rfl,rfl,by simpa using g5.out,g1.out⟩
  case round=>
   clear x0 x1 x2 x3 c1;obtain ⟨i,ys,hi,rfl,gb,U,hk⟩:=hrel;have y:=hid gb;have gu:=hid U;clear gb U;by_cases I:i<n.kids.length
   ·(have gh:(i:Int)<(n.kids.length:Int):=by omega);(have h0:(0:Int)≤(i:Int):=by omega);obtain ⟨b,off,A1,gr,rfl,g8,g9,k0,k1,k2,k3,gk⟩:=(HV.out.keep (fun b hb _=>hk.bel.block b hb)).kidsV.kid i I;have HM:=hid (List.getElem_mem I);have z:=hid (show (n.kids.take (i+1)).flatMap (bg g)=(n.kids.take i).flatMap (bg g)++bg g n.kids[i] by rw [List.take_succ_eq_append_getElem I,List.flatMap_append];simp);(have gj:((n.kids.take (i+1)).flatMap (bg g)).length≤(n.kids.flatMap (bg g)).length:=by (conv=>rhs;rw [←List.take_append_drop (i+1) n.kids,List.flatMap_append]);rw [List.length_append];omega);generalize n.kids[i]=x at *;(have gd:ys.length=((n.kids.take i).flatMap (bg g)).length:=by rw [←y.out,List.length_map]);have g6:=hk.bel.size;have HC:=hid (HI.out (k-1) _ x (D++ys) _ (by omega) (gk.keep (w':=wr.alloc (.cells (nv x A1 gr) 24)) (fun b _ I=>Below.heap_alloc wr _ b I)) (HW.out.2 x HM.out) (g2.out _ _ (.cells (nv x A1 gr) 24) gu.out) (by simp;omega) (by simp;omega) (by have:=HN.out;rw [z.out,List.length_append] at gj;rw [List.length_append,gi,gd];omega));clear gk gj gd
    gi_wp2
    refine ⟨trivial,gp _,HC.out.mono ?_⟩;rintro e W2 (⟨rfl,⟨zs,ga,gm⟩,gl⟩ | ⟨rfl,q,ge⟩)
    case inr=>
     have gy:=hid ge;clear ge
     gi_wp2
     go_ret;exact .inr ⟨rfl,_,gy.out⟩
    have HZ:=hid (show (ys++zs).map (·.2.1)=(n.kids.take (i+1)).flatMap (bg g) by rw [List.map_append,y.out,ga,z.out]);have g4:=hid (show J (D++(ys++zs)) W2 by rw [←List.append_assoc];exact gm);have g0:=hid ((hk.alloc (by omega) _).trans gl);clear HC ga gm gl z k0 k1 k2 k3
    gi_wp2
    go_roundw
    case rel=>exact ⟨i+1,ys++zs,by omega,by go_num,HZ.out,g4.out,g0.out⟩
    case measure=>simp [RowKit.intOf];omega
   ·(have gh:¬ (i:Int)<(n.kids.length:Int):=by omega);have ht:n.kids.take i=n.kids:=List.take_of_length_le (by omega);have gx:=hid (show (((.agg (nv n A cp):Value),(⟨g+1,hg⟩ : { k:Nat // k≤1000 }))::ys).map (·.2.1)=bg (g+1) n by rw [bg,List.map_cons,y.out,ht]);have g3:=hid (show J (pre++((.agg (nv n A cp):Value),(⟨g+1,hg⟩ : { k:Nat // k≤1000 }))::ys) wr by have:=gu.out;rw [←gs.out,List.append_assoc] at this;simpa using this);clear ht
    gi_wp2
    go_ret;exact .inl ⟨rfl,⟨_,gx.out,g3.out⟩,hk⟩
theorem uR (l n₀ OB k g:Nat) (v:Value) (n:Nd) (J Jx:List YV→World→Prop) (hJ:∀ s W o,J s W→J s (W.alloc o))
  (hY:∀ pre x W,J pre W→pre.length<(bg g n).length→YieldAt Fence.wide (k-1) Tryz.prog l (uQ x) W fun e W'=>(e=.returned (.bool true)∧J (pre++[x]) W'∧uP n₀ OB W W')∨(e=.returned (.bool false)∧Jx (pre++[x]) W'))
  (W:World) (bn bd:Nat) (A:Option Addr) (cp:Nat) (he:v=.agg (nv n A cp)) (hg:g≤1000) (I:aj W bn 24 (nv n A cp)) (M:aj W bd 3 #[.int .i64 (g:Int)])
  (hv:av (· < n₀) W v n) (hw:oy g n) (hn:n₀≤W.heap.size) (U:OB<W.heap.size) (h0:J [] W) :
  CallsIn Fence.wide k Tryz.prog 176 #[.func (.yield l) #[] #[],.pointer (some ⟨bn,0,none⟩),.pointer (some ⟨bd,0,none⟩)] W fun e W'=>(∃ v,e=.returned v)∧((∃ ys,ys.map (·.2.1)=bg g n∧J ys W')∨(∃ q:List YV,True∧Jx q W')):=by
 (have y:∀ k:Nat,((Fence.wide).depth.isSome=true→1≤k):=fun k h=>by cases h);have O:=hid (Iq l n₀ OB (bg g n).length J Jx hJ (fun m pre x W N hl=>by obtain ⟨fn,tmps,assign,body,hy,hR⟩:=hY pre x W N hl;exact ⟨fn,tmps,assign,body,hy,⟨hR.1,fun c cs _=>hR.2 c cs (fun d h=>by cases h)⟩⟩) g (k-1) v n [] W hg hv hw h0 hn U (by simp));obtain ⟨x0,x1,x2,x3,_,_,_,_⟩:=ac I;have hd:=aJ M;subst he;clear hv hY hJ I M hw;refine callsIn_of_wp Tryz.func176 rfl trivial ?_ rfl;simp only [Tryz.ntmps176,List.size_toArray,List.length_cons,List.length_nil,Nat.reduceAdd,Nat.reduceSub,Array.replicate_succ,Array.replicate_zero,List.push_toArray,List.append_toArray,List.nil_append,List.cons_append]
 gi_wp2
 refine ⟨trivial,y _,O.out.mono ?_⟩;rintro e W1 (⟨rfl,⟨ys,D,N⟩,hk⟩ | ⟨rfl,q,hx⟩)
 ·have z:=hid D;have ga:=hid N;clear D N O
  gi_wp2
  go_end0;exact ⟨⟨_,rfl⟩,.inl ⟨ys,z.out,by simpa using ga.out⟩⟩
 ·have HX:=hid hx;clear hx O
  gi_wp2
  go_end0;exact ⟨⟨_,rfl⟩,.inr ⟨q,trivial,HX.out⟩⟩
theorem AE (k:Nat) (v:Value) (d:Int) (n:Nd) (w:World) (D:eG w v n) :
  CallsIn Fence.wide k Tryz.prog 125 #[v,.int .i64 d] w fun e w'=>e=.returned (.func (.func 176) #[] #[.pointer (some ⟨w.heap.size,0,none⟩),.pointer (some ⟨w.heap.size+1,0,none⟩)])∧w'=(w.alloc (.cells v.cells 24)).alloc (.cells #[.int .i64 d] 3):=by
 obtain ⟨A,cp,rfl,I⟩:=D.toC;clear D I;refine callsIn_of_wp Tryz.func125 rfl trivial ?_ rfl;simp only [Tryz.ntmps125,List.size_toArray,List.length_cons,List.length_nil,Nat.reduceAdd,Nat.reduceSub,Array.replicate_succ,Array.replicate_zero,List.push_toArray,List.append_toArray,List.nil_append,List.cons_append]
 gi_wp2
 go_ret;exact ⟨rfl,rfl⟩
theorem tu (a:Array Value) (w:World):(callFunc 176 a).run Tryz.prog w=.ok (.enter 176 a) w:=by kernel_rfl
theorem Me (p q:Nat) (a b:Value) (t:Array Value):((#[p,q]:Array Nat).zip #[a,b]).foldl (fun t x=>t.setIfInBounds x.fst x.snd) t=(t.setIfInBounds p a).setIfInBounds q b:=by simp
theorem FC (v:Value) (n:Nd) (w:World) (z:eG w v n) (hw:oy 100 n) (hc:(bg 100 n).length≤1000000000) :
  CallsIn Fence.wide 9 Tryz.prog 83 #[v] w fun e w'=>e=.returned (.int .i64 ((bg 100 n).length:Int))∧Below w.heap.size w w':=by
 have N:=z;obtain ⟨A,cp,rfl,hC⟩:=z.toC;have M:av (· < w.heap.size) w _ n:=N.mono fun b _ h=>h;have HV:=hid M;have HW:=hid hw;have HC:=hid hc;clear N z hC M hw hc;refine callsIn_of_wp_marks Tryz.func83 rfl trivial ?_ rfl;simp only [Tryz.ntmps83,List.size_toArray,List.length_cons,List.length_nil,Nat.reduceAdd,Nat.reduceSub,Array.replicate_succ,Array.replicate_zero,List.push_toArray,List.append_toArray,List.nil_append,List.cons_append]
 gi_wp2
 refine ⟨trivial,(AE 8 _ 100 n _ ((HV.out.wide).below (by (repeat' (first | with_reducible assumption | with_reducible exact Below.refl _ _ | with_reducible refine Below.alloc ?_ ?_ _ | with_reducible refine Below.setCell ?_ ?_ _ | with_reducible refine Below.drew ?_ | with_reducible refine al ?_ _ | (simp <;> omega) | omega))))).mono ?_⟩;simp only [Value.cells];rintro e w1 ⟨rfl,rfl⟩;have y:aj ((((w.alloc (.cells (nv n A cp) 24)).alloc (.cells #[.int .i64 0] 3)).alloc (.cells (nv n A cp) 24)).alloc (.cells #[.int .i64 100] 3)) (w.heap.size+1) 3 #[.int .i64 0]:=((aj.new_at (by simp) _ _).alloc _).alloc _;have o2:aj ((((w.alloc (.cells (nv n A cp) 24)).alloc (.cells #[.int .i64 0] 3)).alloc (.cells (nv n A cp) 24)).alloc (.cells #[.int .i64 100] 3)) (w.heap.size+1+1) 24 (nv n A cp):=(aj.new_at (by simp) _ _).alloc _;have o3:aj ((((w.alloc (.cells (nv n A cp) 24)).alloc (.cells #[.int .i64 0] 3)).alloc (.cells (nv n A cp) 24)).alloc (.cells #[.int .i64 100] 3)) (w.heap.size+1+1+1) 3 #[.int .i64 100]:=aj.new_at (by simp) _ _;have O:Below w.heap.size w ((((w.alloc (.cells (nv n A cp) 24)).alloc (.cells #[.int .i64 0] 3)).alloc (.cells (nv n A cp) 24)).alloc (.cells #[.int .i64 100] 3)):=by (repeat' (first | with_reducible assumption | with_reducible exact Below.refl _ _ | with_reducible refine Below.alloc ?_ ?_ _ | with_reducible refine Below.setCell ?_ ?_ _ | with_reducible refine Below.drew ?_ | with_reducible refine al ?_ _ | (simp <;> omega) | omega))
 have hz:((((w.alloc (.cells (nv n A cp) 24)).alloc (.cells #[.int .i64 0] 3)).alloc (.cells (nv n A cp) 24)).alloc (.cells #[.int .i64 100] 3)).heap.size=w.heap.size+4:=by simp
 gi_wp2
 generalize (((w.alloc (.cells (nv n A cp) 24)).alloc (.cells #[.int .i64 0] 3)).alloc (.cells (nv n A cp) 24)).alloc (.cells #[.int .i64 100] 3)=q at *;have I:SeqStopsK Fence.wide (9-1) Tryz.prog 176 #[.pointer (some ⟨w.heap.size+1+1,0,none⟩),.pointer (some ⟨w.heap.size+1+1+1,0,none⟩)] uQ (uP w.heap.size (w.heap.size+1)) (fun ys=>ys.map (·.2.1)=bg 100 n) (fun _=>True) (bg 100 n).length q:=
  fun l J Jx W hW hJ hJx hY h0=>uR l w.heap.size (w.heap.size+1) 8 100 _ n J Jx (fun s W o hs=>hJ s W _ none hs (World.grownBy_alloc W o none) (fun r e=>by cases e)) hY W _ _ A cp rfl (by omega) (o2.below hW (by omega)) (o3.below hW (by omega))
   (HV.out.keep fun b hb _=>(hW.block b (by omega)).trans (O.block b hb)) HW.out (Nat.le_trans O.size hW.size) (by have:=hW.size;omega) h0
 have U:=hid I;obtain ⟨oc,of⟩:q.cell? ⟨w.heap.size+1,0,none⟩=some (.int .i64 0)∧q.frozen? ⟨w.heap.size+1,0,none⟩=false:=⟨aJ y,y.frozen 0⟩;clear I y o2 o3;refine wpIn_rangeFunc_ownF (w0:=q) rfl (by omega) (gf:=176) (lb:=#[.pointer (some ⟨w.heap.size+1+1,0,none⟩),.pointer (some ⟨w.heap.size+1+1+1,0,none⟩)]) rfl trivial tu U.out (fun h k=>h.trans k) (fun W l o o'=>C8 O.size W l o o') (Below.refl _ _) (fun _=>rfl)
  (fun pre W=>(W.cell? ⟨w.heap.size+1,0,none⟩=some (.int .i64 (pre.length:Int))∧W.frozen? ⟨w.heap.size+1,0,none⟩=false)∧Below w.heap.size w W) (fun _ _ _=>False)
  (OwnFrom.and (Own.from (fun s A B row hs hg hr=>⟨Go.cell_kept hs.1 hg hr,(Go.frozen_kept hs.1 hg hr).trans hs.2⟩) _) (ownFrom_below (Nat.le_refl _) (by omega)))
  (fun _ _ _ _ _ hs _ _=>hs) ⟨⟨oc,of⟩,O⟩
  (fun x => { tmps:=#[.agg (nv n A cp),.pointer (some ⟨w.heap.size,0,none⟩),.int .i64 0,.pointer (some ⟨w.heap.size+1,0,none⟩),.agg (nv n A cp),
   .func (.func 176) #[] #[.pointer (some ⟨w.heap.size+1+1,0,none⟩),.pointer (some ⟨w.heap.size+1+1+1,0,none⟩)],x.1,.int .i64 (x.2.1:Int),undef,undef,undef],defers:=[] }) ?assign ?body ?done ?stop
 case assign=>
  intro l x W K hK;unfold uQ
  gi_wp2
  rw [Me];exact hK
 case body=>
  rintro l pre x W ⟨⟨hc,hf⟩,hb⟩ hl;have ga:=Nat.lt_of_lt_of_le hl HC.out;have HB:=hid hb;have gb:=hb.size;clear hb hl
  gi_wp2
  refine ⟨KeepsOthers.setCell _ _ _,⟨(Below.refl _ _).setCell (p:=⟨w.heap.size+1,0,none⟩) (by show w.heap.size≤w.heap.size+1;omega) _,fun k hk _=>Below.heap_setCell W ⟨w.heap.size+1,0,none⟩ _ k hk⟩,⟨?_,?_⟩,HB.out.setCell (p:=⟨w.heap.size+1,0,none⟩) (by show w.heap.size≤w.heap.size+1;omega) _⟩
  ·rw [World.cell?_setCell_same' _ _ _ (by rw [hc];rfl)];simp
  ·rw [World.frozen?_setCell];exact hf
 case done=>
  rintro D ys W hD hys ⟨⟨hc,hf⟩,hb⟩ hK;have HB:=hid (hb.trans (C8 (OB:=0) O.size W D _ (.deferred none) hD hK rfl rfl).bel);have HY:=hid (show ys.length=(bg 100 n).length by rw [←hys,List.length_map]);clear hb hys
  gi_wp2
  refine ⟨by simp,.inl ⟨_,_,rfl,run_takeDeferred hK,?_⟩⟩;exact ⟨_,results_tmp rfl _ _ _,by rw [←HY.out];rfl,HB.out⟩
 case stop=>rintro D c pre W _ _ h _;exact h.elim
def Lv (l:List Nat):Nat:=l.foldl (fun d l=>max d (102-l)) 0
theorem FD (l:List Nat) (x:Nat):Lv (l++[x])=max (Lv l) (102-x):=by unfold Lv;rw [List.foldl_append];rfl
theorem Lw (l:List Nat):Lv l≤102:=((mm l 0 102).2 ⟨by omega,fun _ _=>by omega⟩)
theorem DX (v:Value) (n:Nd) (w:World) (z:eG w v n) (hw:oy 101 n) :
  CallsIn Fence.wide 9 Tryz.prog 82 #[v] w fun e w'=>e=.returned (.int .i64 (dQ n:Int))∧Below w.heap.size w w':=by
 have N:=z;obtain ⟨A,cp,rfl,hC⟩:=z.toC;have M:av (· < w.heap.size) w _ n:=N.mono fun b _ h=>h;have HV:=hid M;have HW:=hid hw;clear N z hC M hw;refine callsIn_of_wp_marks Tryz.func82 rfl trivial ?_ rfl;simp only [Tryz.ntmps82,List.size_toArray,List.length_cons,List.length_nil,Nat.reduceAdd,Nat.reduceSub,Array.replicate_succ,Array.replicate_zero,List.push_toArray,List.append_toArray,List.nil_append,List.cons_append]
 gi_wp2
 refine ⟨trivial,(AE 8 _ 101 n _ ((HV.out.wide).below (by (repeat' (first | with_reducible assumption | with_reducible exact Below.refl _ _ | with_reducible refine Below.alloc ?_ ?_ _ | with_reducible refine Below.setCell ?_ ?_ _ | with_reducible refine Below.drew ?_ | with_reducible refine al ?_ _ | (simp <;> omega) | omega))))).mono ?_⟩;simp only [Value.cells];rintro e w1 ⟨rfl,rfl⟩;have y:aj ((((w.alloc (.cells (nv n A cp) 24)).alloc (.cells #[.int .i64 0] 3)).alloc (.cells (nv n A cp) 24)).alloc (.cells #[.int .i64 101] 3)) (w.heap.size+1) 3 #[.int .i64 0]:=((aj.new_at (by simp) _ _).alloc _).alloc _;have o2:aj ((((w.alloc (.cells (nv n A cp) 24)).alloc (.cells #[.int .i64 0] 3)).alloc (.cells (nv n A cp) 24)).alloc (.cells #[.int .i64 101] 3)) (w.heap.size+1+1) 24 (nv n A cp):=(aj.new_at (by simp) _ _).alloc _;have o3:aj ((((w.alloc (.cells (nv n A cp) 24)).alloc (.cells #[.int .i64 0] 3)).alloc (.cells (nv n A cp) 24)).alloc (.cells #[.int .i64 101] 3)) (w.heap.size+1+1+1) 3 #[.int .i64 101]:=aj.new_at (by simp) _ _;have O:Below w.heap.size w ((((w.alloc (.cells (nv n A cp) 24)).alloc (.cells #[.int .i64 0] 3)).alloc (.cells (nv n A cp) 24)).alloc (.cells #[.int .i64 101] 3)):=by (repeat' (first | with_reducible assumption | with_reducible exact Below.refl _ _ | with_reducible refine Below.alloc ?_ ?_ _ | with_reducible refine Below.setCell ?_ ?_ _ | with_reducible refine Below.drew ?_ | with_reducible refine al ?_ _ | (simp <;> omega) | omega))
 have hz:((((w.alloc (.cells (nv n A cp) 24)).alloc (.cells #[.int .i64 0] 3)).alloc (.cells (nv n A cp) 24)).alloc (.cells #[.int .i64 101] 3)).heap.size=w.heap.size+4:=by simp
 gi_wp2
 generalize (((w.alloc (.cells (nv n A cp) 24)).alloc (.cells #[.int .i64 0] 3)).alloc (.cells (nv n A cp) 24)).alloc (.cells #[.int .i64 101] 3)=q at *;have I:SeqStopsK Fence.wide (9-1) Tryz.prog 176 #[.pointer (some ⟨w.heap.size+1+1,0,none⟩),.pointer (some ⟨w.heap.size+1+1+1,0,none⟩)] uQ (uP w.heap.size (w.heap.size+1)) (fun ys=>ys.map (·.2.1)=bg 101 n) (fun _=>True) (bg 101 n).length q:=
  fun l J Jx W hW hJ hJx hY h0=>uR l w.heap.size (w.heap.size+1) 8 101 _ n J Jx (fun s W o hs=>hJ s W _ none hs (World.grownBy_alloc W o none) (fun r e=>by cases e)) hY W _ _ A cp rfl (by omega) (o2.below hW (by omega)) (o3.below hW (by omega))
   (HV.out.keep fun b hb _=>(hW.block b (by omega)).trans (O.block b hb)) HW.out (Nat.le_trans O.size hW.size) (by have:=hW.size;omega) h0
 have U:=hid I;obtain ⟨oc,of⟩:q.cell? ⟨w.heap.size+1,0,none⟩=some (.int .i64 0)∧q.frozen? ⟨w.heap.size+1,0,none⟩=false:=⟨aJ y,y.frozen 0⟩;clear I y o2 o3;refine wpIn_rangeFunc_ownF (w0:=q) rfl (by omega) (gf:=176) (lb:=#[.pointer (some ⟨w.heap.size+1+1,0,none⟩),.pointer (some ⟨w.heap.size+1+1+1,0,none⟩)]) rfl trivial tu U.out (fun h k=>h.trans k) (fun W l o o'=>C8 O.size W l o o') (Below.refl _ _) (fun _=>rfl)
  (fun pre W=>(W.cell? ⟨w.heap.size+1,0,none⟩=some (.int .i64 (Lv (pre.map (·.2.1)):Int))∧W.frozen? ⟨w.heap.size+1,0,none⟩=false)∧Below w.heap.size w W) (fun _ _ _=>False)
  (OwnFrom.and (Own.from (fun s A B row hs hg hr=>⟨Go.cell_kept hs.1 hg hr,(Go.frozen_kept hs.1 hg hr).trans hs.2⟩) _) (ownFrom_below (Nat.le_refl _) (by omega)))
  (fun _ _ _ _ _ hs _ _=>hs) ⟨⟨oc,of⟩,O⟩
  (fun x => { tmps:=#[.agg (nv n A cp),.pointer (some ⟨w.heap.size,0,none⟩),.int .i64 0,.pointer (some ⟨w.heap.size+1,0,none⟩),undef,.int .i64 (x.2.1:Int),.agg (nv n A cp),
   .func (.func 176) #[] #[.pointer (some ⟨w.heap.size+1+1,0,none⟩),.pointer (some ⟨w.heap.size+1+1+1,0,none⟩)],x.1,.int .i64 (x.2.1:Int),undef,undef,undef,undef,undef],defers:=[] }) ?assign ?body ?done ?stop
 case assign=>
  intro l x W K hK;unfold uQ
  gi_wp2
  exact hK
 case body=>
  rintro l pre x W ⟨⟨hc,hf⟩,hb⟩ hl;have ga:=x.2.2;have gb:=Lw (pre.map (·.2.1));have HS:=hid (FD (pre.map (·.2.1)) x.2.1);generalize Lv (pre.map (·.2.1))=dd at *;have HB:=hid hb;have gd:=hb.size;clear hb hl
  gi_wp2
  refine ⟨KeepsOthers.setCell _ _ _,⟨(Below.refl _ _).setCell (p:=⟨w.heap.size+1,0,none⟩) (by show w.heap.size≤w.heap.size+1;omega) _,fun k hk _=>Below.heap_setCell W ⟨w.heap.size+1,0,none⟩ _ k hk⟩,⟨?_,?_⟩,HB.out.setCell (p:=⟨w.heap.size+1,0,none⟩) (by show w.heap.size≤w.heap.size+1;omega) _⟩
  ·rw [World.cell?_setCell_same' _ _ _ (by rw [hc];rfl),List.map_append,List.map_singleton,HS.out];rw [show max (dd:Int) (102-(x.2.1:Int))=((max dd (102-x.2.1):Nat):Int) by omega]
  ·rw [World.frozen?_setCell];exact hf
 case done=>
  rintro D ys W hD hys ⟨⟨hc,hf⟩,hb⟩ hK;have HB:=hid (hb.trans (C8 (OB:=0) O.size W D _ (.deferred none) hD hK rfl rfl).bel);have HY:=hid (show Lv (ys.map (·.2.1))=dQ n by rw [hys];rfl);clear hb hys
  gi_wp2
  refine ⟨by simp,.inl ⟨_,_,rfl,run_takeDeferred hK,?_⟩⟩;exact ⟨_,results_tmp rfl _ _ _,by rw [←HY.out];rfl,HB.out⟩
 case stop=>rintro D c pre W _ _ h _;exact h.elim
end
section
open Go.RowKit Go.Lib Go.Proofs
attribute [local go_sem ↓] Go.wp_at_zero Go.wp_at_succ
theorem DY (t:TypeId) (w:World):(Instr.makeMap t none).run Tryz.prog w=.ok (.map (some w.heap.size)) (w.alloc (.map #[] 0)):=rfl
theorem FE {α:Type} (a:Array α) (x y:α):(a.push x).setIfInBounds a.size y=a.push y:=by rw [Array.push_eq_append,Array.push_eq_append,←Array.toList_inj];simp [Array.toList_setIfInBounds]
theorem FF (e:Bool) (k:ByteArray) (w:World):(Instr.checkKey e 10000 9 (.string k)).run Tryz.prog w=.ok () w:=by show (Instr.checkKey e (9999+1) 9 (.string k)).run Tryz.prog w=.ok () w;rw [Instr.checkKey];simp only [Sem.run_bind,run_underlying Tryz.underlying9,Result.andThen_ok,Sem.run_pure]
theorem d4 (w:World) (es:Array MapEntry) (clock:Nat) (key:ByteArray) (v:Value) (D:Instr.findNow .string (.string key) es.toList 0=some none) :
  (Instr.mapUpdate 92 (.map (some w.heap.size)) (.string key) v).run Tryz.prog (w.alloc (.map es clock))=.ok () (w.alloc (.map (es.push ⟨.string key,v,clock⟩) (clock+1))):=by have hb:(w.alloc (.map es clock)).heap[w.heap.size]? = some (.map es clock):=heap_alloc_new w _;(have I:(getObj w.heap.size).run Tryz.prog (w.alloc (.map es clock))=.ok (.map es clock) (w.alloc (.map es clock)):=by rw [getObj,Sem.run,hb];rfl);(have hs:(setObj w.heap.size (.map (es.push ⟨.string key,v,clock⟩) (clock+1))).run Tryz.prog (w.alloc (.map es clock))=.ok () (w.alloc (.map (es.push ⟨.string key,v,clock⟩) (clock+1))):=by rw [setObj,Sem.run,hb];exact congrArg (fun h=>Result.ok () { w with heap:=h }) (FE w.heap _ _));unfold Instr.mapUpdate;simp only [run_underlying Tryz.underlying92,Sem.run_bind,Result.andThen_ok,I,FF,run_underlying Tryz.underlying9,Instr.findKey,D,Sem.run_pure,hs]
def iC:Array MapEntry:=#[⟨.string (⟨#[102,105,108,101]⟩:BA),.func (.func 117) #[] #[],0⟩,⟨.string (⟨#[100,101,99,108,97,114,97,116,105,111,110]⟩:BA),.func (.func 120) #[] #[],1⟩,⟨.string (⟨#[116,121,112,101]⟩:BA),.func (.func 121) #[] #[],2⟩,
 ⟨.string (⟨#[101,120,112,114,101,115,115,105,111,110]⟩:BA),.func (.func 122) #[] #[],3⟩,⟨.string (⟨#[115,116,97,116,101,109,101,110,116]⟩:BA),.func (.func 123) #[] #[],4⟩,⟨.string (⟨#[115,105,103,110,97,116,117,114,101]⟩:BA),.func (.func 124) #[] #[],5⟩]
theorem uS (w:World):Calls Tryz.prog 81 #[] w fun e w'=>e=.returned (.map (some w.heap.size))∧w'=w.alloc (.map iC 6):=by have D:=DY;have U:=d4 w #[] 0 (⟨#[102,105,108,101]⟩:BA) (.func (.func 117) #[] #[]) rfl;have O:=d4 w #[⟨.string (⟨#[102,105,108,101]⟩:BA),.func (.func 117) #[] #[],0⟩] 1 (⟨#[100,101,99,108,97,114,97,116,105,111,110]⟩:BA) (.func (.func 120) #[] #[]) rfl;have N:=d4 w #[⟨.string (⟨#[102,105,108,101]⟩:BA),.func (.func 117) #[] #[],0⟩,⟨.string (⟨#[100,101,99,108,97,114,97,116,105,111,110]⟩:BA),.func (.func 120) #[] #[],1⟩] 2 (⟨#[116,121,112,101]⟩:BA) (.func (.func 121) #[] #[]) rfl;have M:=d4 w #[⟨.string (⟨#[102,105,108,101]⟩:BA),.func (.func 117) #[] #[],0⟩,⟨.string (⟨#[100,101,99,108,97,114,97,116,105,111,110]⟩:BA),.func (.func 120) #[] #[],1⟩,⟨.string (⟨#[116,121,112,101]⟩:BA),.func (.func 121) #[] #[],2⟩] 3 (⟨#[101,120,112,114,101,115,115,105,111,110]⟩:BA) (.func (.func 122) #[] #[]) rfl;have J:=d4 w #[⟨.string (⟨#[102,105,108,101]⟩:BA),.func (.func 117) #[] #[],0⟩,⟨.string (⟨#[100,101,99,108,97,114,97,116,105,111,110]⟩:BA),.func (.func 120) #[] #[],1⟩,⟨.string (⟨#[116,121,112,101]⟩:BA),.func (.func 121) #[] #[],2⟩,⟨.string (⟨#[101,120,112,114,101,115,115,105,111,110]⟩:BA),.func (.func 122) #[] #[],3⟩] 4 (⟨#[115,116,97,116,101,109,101,110,116]⟩:BA) (.func (.func 123) #[] #[]) rfl;have I:=d4 w #[⟨.string (⟨#[102,105,108,101]⟩:BA),.func (.func 117) #[] #[],0⟩,⟨.string (⟨#[100,101,99,108,97,114,97,116,105,111,110]⟩:BA),.func (.func 120) #[] #[],1⟩,⟨.string (⟨#[116,121,112,101]⟩:BA),.func (.func 121) #[] #[],2⟩,⟨.string (⟨#[101,120,112,114,101,115,115,105,111,110]⟩:BA),.func (.func 122) #[] #[],3⟩,⟨.string (⟨#[115,116,97,116,101,109,101,110,116]⟩:BA),.func (.func 123) #[] #[],4⟩] 5 (⟨#[115,105,103,110,97,116,117,114,101]⟩:BA) (.func (.func 124) #[] #[]) rfl;(go_enter Tryz.func81,Tryz.ntmps81);(go_wp2_with fail);go_ret;exact ⟨rfl,rfl⟩
theorem AF (w:World) (b:Nat) (key:ByteArray) (v:Value) (i:Nat) (hb:w.heap[b]? = some (.map iC 6)) (D:Instr.findNow .string (.string key) iC.toList 0=some (some (i,v))) :
  (Instr.lookup 92 (.map (some b)) (.string key) true).run Tryz.prog w=.ok (.tuple #[v,.bool true]) w:=by (have I:(getObj b).run Tryz.prog w=.ok (.map iC 6) w:=by rw [getObj,Sem.run,hb];rfl);unfold Instr.lookup;simp only [run_underlying Tryz.underlying92,Sem.run_bind,Result.andThen_ok,I,FF,run_underlying Tryz.underlying9,Instr.findKey,D,Sem.run_pure,if_true]
theorem FG (a:Array Value) (w:World):(callFunc 120 a).run Tryz.prog w=.ok (.enter 120 a) w:=by kernel_rfl
theorem FH (a:Array Value) (w:World):(callFunc 117 a).run Tryz.prog w=.ok (.enter 117 a) w:=by kernel_rfl
theorem Ir (g:Nat) (F:eF) (hF:pT g F):fe g (lZ F) 120:=by
 cases g with
 | zero=>exact fun _ _ _ _ _ h=>h.elim
 | succ d=>exact Lp d F hF.pred
theorem Lx (g:Nat) (F:eF) (hF:pT g F):fe (g+1) (pB F) 117:=by
 intro w v n hT hv hd;have N:=hv;obtain ⟨A,cp,rfl,hC⟩:=hv.toC;have J:=(Below.refl w.heap.size w).alloc (Nat.le_refl _) (.cells #[.int .i64 n.kind,.string n.text,.slice A n.kids.length cp,.int .i64 n.pos] 24);have b1:aj (w.alloc (.cells #[.int .i64 n.kind,.string n.text,.slice A n.kids.length cp,.int .i64 n.pos] 24)) w.heap.size 24 #[.int .i64 n.kind,.string n.text,.slice A n.kids.length cp,.int .i64 n.pos]:=aj.new w _ _;have z:=hid (fun w' (hb:Below (w.alloc (.cells #[.int .i64 n.kind,.string n.text,.slice A n.kids.length cp,.int .i64 n.pos] 24)).heap.size (w.alloc (.cells #[.int .i64 n.kind,.string n.text,.slice A n.kids.length cp,.int .i64 n.pos] 24)) w')=>fR g (lZ F) ⟨120,#[]⟩ A cp n.kids _ ((N.below J).below hb).kidsV hd.2 hd.1.1 ((Ir g F hF).so FG _ ((hT.below J).below hb)));(have hE:pB F n=((n.kind==1)&&(bj n.text&&n.kids.all (lZ F))):=by unfold pB;rw [fQ]);rw [hE];clear hE N hv hC hT hF hd;generalize n.kids.all (lZ F)=q at *;generalize n.kind=k at *;cases y:(k==1) with
 | false=>(go_enter Tryz.func117,Tryz.ntmps117);(go_wp2_with fail);go_ret;exact ⟨rfl,J⟩
 | true=>
  rw [beq_iff_eq] at y;subst y;cases h:bj n.text with
  | false=>(go_enter Tryz.func117,Tryz.ntmps117);(go_wp2_with fail);refine (rz _ _).mono ?_;rw [h];rintro e w1 ⟨rfl,D⟩;have I:=J.trans (D.mono J.size);clear D;(go_wp2_with fail);go_ret;exact ⟨rfl,I⟩
  | true=>(go_enter Tryz.func117,Tryz.ntmps117);(go_wp2_with fail);refine (rz _ _).mono ?_;rw [h];rintro e w1 ⟨rfl,D⟩;have I:=J.trans (D.mono J.size);have U:=hid (z.out _ D);obtain ⟨x0,x1,x2,x3,_,_,_,_⟩:=ac (b1.below D (by simp));clear D z;(go_wp2_with fail);refine U.out.mono ?_;rintro e w2 ⟨rfl,M⟩;have O:=I.trans (M.mono I.size);clear M;(go_wp2_with fail);go_ret;exact ⟨rfl,O⟩
theorem tv (v:Value) (n:Nd) (w:World) (I:eG w v n) (D:oy 101 n) :
 Calls Tryz.prog 82 #[v] w fun e w'=>e=.returned (.int .i64 (dQ n:Int))∧Below w.heap.size w w':=callsIn_wide.1 (DX v n w I D)
theorem uT (v:Value) (n:Nd) (w:World) (I:eG w v n) (D:oy 100 n) (hc:(bg 100 n).length≤1000000000) :
 Calls Tryz.prog 83 #[v] w fun e w'=>e=.returned (.int .i64 ((bg 100 n).length:Int))∧Below w.heap.size w w':=callsIn_wide.1 (FC v n w I D hc)
theorem oy.pred:∀ {g:Nat} {n:Nd},oy (g+1) n→oy g n
 | 0,_,_=>trivial
 | _+1,_,h=>⟨h.1,fun k hk=>oy.pred (h.2 k hk)⟩
theorem ya (n:Nd):cV n=(decide ((dQ n:Int)≤100)&&(decide (((bg 100 n).length:Int)≤65536)&&pB (lU 100) n)):=by (have I:decide ((dQ n:Int)≤100)=decide (dQ n≤100):=by rw [decide_eq_decide];omega);(have D:decide (((bg 100 n).length:Int)≤65536)=decide ((bg 100 n).length≤65536):=by rw [decide_eq_decide];omega);rw [I,D];unfold cV sO;generalize pB (lU 100) n=q;rfl
theorem uU (v:Value) (n:Nd) (w:World) (hT:cD w) (q:eG w v n) (hw:oy 101 n) (hc:(bg 100 n).length≤1000000000) :
  Calls Tryz.prog 61 #[v,.string (⟨#[102,105,108,101]⟩:BA)] w fun e w'=>e=.returned (.bool (cV n))∧Below w.heap.size w w':=by
 have O:=q;obtain ⟨A,cp,rfl,hC⟩:=q.toC;have U:=((Below.refl w.heap.size w).alloc (Nat.le_refl _) (.cells #[.int .i64 n.kind,.string n.text,.slice A n.kids.length cp,.int .i64 n.pos] 24)).alloc (by simp) (.map iC 6);have b1:aj ((w.alloc (.cells #[.int .i64 n.kind,.string n.text,.slice A n.kids.length cp,.int .i64 n.pos] 24)).alloc (.map iC 6)) w.heap.size 24 #[.int .i64 n.kind,.string n.text,.slice A n.kids.length cp,.int .i64 n.pos]:=(aj.new w _ _).alloc _;have ge:=AF ((w.alloc (.cells #[.int .i64 n.kind,.string n.text,.slice A n.kids.length cp,.int .i64 n.pos] 24)).alloc (.map iC 6)) (w.heap.size+1) (⟨#[102,105,108,101]⟩:BA) (.func (.func 117) #[] #[]) 0 (rP (by simp) _) rfl;have HV:=hid (O.below U);have HT:=hid (hT.below U);have z:=hid hw;have HC:=hid hc;have he:=FH;clear O q hC hT hw hc;(go_enter Tryz.func61,Tryz.ntmps61);(go_wp2_with fail);refine (uS _).mono ?_;rintro e w1 ⟨rfl,rfl⟩;(go_wp2_with fail);refine (tv _ n _ HV.out z.out).mono ?_;rintro e w1 ⟨rfl,I⟩;have HE:=hid (ya n);have M:=U.trans (I.mono U.size);have c1:=b1.below I (by simp;omega);obtain ⟨x0,x1,x2,x3,_,_,_,_⟩:=ac c1;have h:=hid (HV.out.below I);have gd:=hid (HT.out.below I);clear I b1 U;cases hd:decide ((dQ n:Int)≤100) with
 | false=>(go_wp2_with fail);go_ret;exact ⟨by rw [HE.out,hd];rfl,M⟩
 | true=>
  have HD:=hid (mU (z.out.pred) (by have:=of_decide_eq_true hd;omega));(go_wp2_with fail);refine (uT _ n _ h.out z.out.pred HC.out).mono ?_;rintro e w2 ⟨rfl,D⟩;have J:=M.trans (D.mono M.size);have c2:=c1.below D c1.lt;obtain ⟨y0,y1,y2,y3,_,_,_,_⟩:=ac c2;have ga:=hid (h.out.below D);have gb:=hid (gd.out.below D);clear D c1 c2 x0 x1 x2 x3;cases hs:decide (((bg 100 n).length:Int)≤65536) with
  | false=>(go_wp2_with fail);go_ret;exact ⟨by rw [HE.out,hd,hs];rfl,J⟩
  | true=>(go_wp2_with fail);refine (Lx 100 (lU 100) (Lu 100) _ _ n gb.out ga.out HD.out.succ).mono ?_;rintro e w3 ⟨rfl,N⟩;have y:=J.trans (N.mono J.size);clear N;(go_wp2_with fail);go_ret;exact ⟨by rw [HE.out,hd,hs];rfl,y⟩
end
end Go.Proofs.YtiebcdeafofgdaaGreatDoor
