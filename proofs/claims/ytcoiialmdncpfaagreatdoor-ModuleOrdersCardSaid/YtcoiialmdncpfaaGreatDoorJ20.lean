/-
  Parts of the proof: Mrange Orange Msplit Titer Tsize Osplit Mver2. By an AI agent.
-/
import Derived.Test.YtcoiialmdncpfaaGreatDoorJ00
import Derived.Test.YtcoiialmdncpfaaGreatDoorJ11
import Derived.Test.YtcoiialmdncpfaaGreatDoorJ17
import Derived.RangeFuncNested
import Derived.RangeFuncBound
import Derived.RangeFuncCalls
import Derived.RangeFuncLeaves
import Derived.RangeFuncFrom
import Derived.RangeFuncKeeps
import Derived.Shelf.Abstract
import Derived.Shelf.RegionOpen
import Derived.WalkKit
import Derived.OwnWalkIn
import Derived.TacticsInMore
import Derived.LoopNIn
import Derived.LoopIn
import Derived.Sort.LoopGhostIn
import Derived.Laws.EntriesVeiled
import Derived.Deep.LoopGhost
open Go.Proofs.Tryz
set_option maxRecDepth 100000
set_option maxHeartbeats 8000000
namespace Go.Proofs.YtcoiialmdncpfaaGreatDoor
section
open Go Go.RowKit Go.Proofs Go.Shelf
theorem jL:type_of% @Go.World.putObj_heap_other:=@Go.World.putObj_heap_other
theorem jR:type_of% @List.size_toArray:=@List.size_toArray
theorem kT:type_of% @Array.replicate_succ:=@Array.replicate_succ
theorem kU:type_of% @Array.replicate_zero:=@Array.replicate_zero
theorem kY:type_of% @List.append_toArray:=@List.append_toArray
theorem qC:type_of% @List.push_toArray:=@List.push_toArray
theorem qE:type_of% @List.nil_append:=@List.nil_append
theorem qP:type_of% @Go.run_takeDeferred:=@Go.run_takeDeferred
theorem vq:type_of% @List.map_id':=@List.map_id'
theorem vz:type_of% @Go.callsIn_of_wp_marks:=@Go.callsIn_of_wp_marks
theorem xk:type_of% @Go.callsIn_of_wp:=@Go.callsIn_of_wp
theorem xo:type_of% @Go.Oper.semAt_some:=@Go.Oper.semAt_some
structure Ab(n:Nat)(Bx:Nat->Prop)(X Y:World):Prop where
 bel:Below 0 X Y
 same:∀k,k<X.heap.size->¬ Bx k->(n<=k->∃c t f,X.heap[k]? = some (.cells c t f))->Y.heap[k]? = X.heap[k]?
section
variable {n:Nat} {Bx:Nat->Prop} {X Y Z:World}
theorem Ab.refl(n:Nat)(Bx:Nat->Prop)(X:World):Ab n Bx X X:=⟨gC _ _,fun _ _ _ _=>rfl⟩
theorem Ab.trans(h:Ab n Bx X Y)(k:Ab n Bx Y Z):Ab n Bx X Z:=
 ⟨h.bel.trans k.bel,fun j hj hb hc=>by have e:=h.same j hj hb hc;exact(k.same j (jY hj h.bel.size) hb fun D=>by rw[e];exact hc D).trans e⟩
theorem Ab.below(h:Below X X Y):Ab n Bx X Y:=⟨h.mono (gT _),fun k hk _ _=>h.block k hk⟩
theorem Ab.alloc(X:World)(o:Obj):Ab n Bx X (X.alloc o):=.below ((gC _ _).alloc (gA _) o)
theorem Ab.drew(X:World):Ab n Bx X X.drew:=.below (gC _ _).drew
theorem Ab.setCell(X:World){b:Nat}(hb:Bx b)(v:Value):Ab n Bx X (X.setCell ⟨b,0,none⟩ v):=
 ⟨(gC 0 X).setCell (gT _) v,fun k _ hk _=>gF X ⟨b,0,none⟩ v k (fun e=>hk (by have e:k=b:=e;rw[e];exact hb))⟩
theorem Ab.putObj{l:Nat}(X:World)(o':Obj)(D:n<=l)(J:l<X.heap.size)(I:∀c t f,X.heap[l]? ≠ some (.cells c t f)):Ab n Bx X (X.putObj l o'):=
 ⟨(gC 0 X).grown (grownBy_putObj' X l o') (gT _) (fun k e=>gT _),fun k _ _ hk=>jL fun e=>by
   subst e;obtain⟨c,t,f,h⟩:=hk D;exact I c t f h⟩
theorem Ab.mono{m:Nat}{Bx':Nat->Prop}(h:Ab n Bx X Y)(I:m<=n)(hb:∀b,Bx b->Bx' b):Ab m Bx' X Y:=
 ⟨h.bel,fun k hk hkb hc=>h.same k hk (fun e=>hkb (hb k e)) fun D=>hc (gM I D)⟩
end
structure Kx(Cx:Nat->Prop)(W W':World):Prop where
 bel:Below 0 W W'
 same:∀k,k<W.heap.size->¬ Cx k->W'.heap[k]? = W.heap[k]?
section
variable {Cx:Nat->Prop} {W W' W2:World}
theorem Kx.refl(Cx:Nat->Prop)(W:World):Kx Cx W W:=⟨gC _ _,fun _ _ _=>rfl⟩
theorem Kx.trans(h:Kx Cx W W')(k:Kx Cx W' W2):Kx Cx W W2:=⟨h.bel.trans k.bel,fun j hj hc=>(k.same j (jY hj h.bel.size) hc).trans (h.same j hj hc)⟩
theorem Kx.mono{Dx:Nat->Prop}(h:Kx Cx W W')(D:∀k,Cx k->Dx k):Kx Dx W W':=⟨h.bel,fun k hk hd=>h.same k hk fun e=>hd (D k e)⟩
theorem Kx.blk(h:Kx Cx W W'){b:Nat}{t:TypeId}{cs:Array Value}(hb:aa W b t cs)(D:¬ Cx b):aa W' b t cs:=(h.same b hb.lt D).trans hb
theorem Kx.below(h:Below W W W'):Kx Cx W W':=⟨h.mono (gT _),fun k hk _=>h.block k hk⟩
theorem Kx.setCell(W:World){b:Nat}(hb:Cx b)(o:Nat)(v:Value):Kx Cx W (W.setCell ⟨b,o,none⟩ v):=
 ⟨(gC 0 W).setCell (p:=⟨b,o,none⟩) (gT _) v,fun k _ hk=>gF W ⟨b,o,none⟩ v k fun e=>hk (by have e:k=b:=e;rw[e];exact hb)⟩
theorem Kx.putObj(W:World){l:Nat}(D:Cx l)(o':Obj):Kx Cx W (W.putObj l o'):=
 ⟨(gC 0 W).grown (grownBy_putObj' W l o') (gT _) (fun k e=>gT _),fun k _ hk=>jL fun e=>hk (by rw[e];exact D)⟩
theorem Kx.to_below{n:Nat}(h:Kx Cx W W')(I:n<=W.heap.size)(D:∀k,Cx k->n<=k):Below n W W':=
 ⟨h.bel.os,h.bel.tape,h.bel.output,h.bel.size,fun k hk=>h.same k (by omega) fun e=>by have:=D k e;omega⟩
end
def DH{α β:Type}(P:Program)(g:Nat)(lb:Array Value)(encs:α->Array Value)(val:α->β)(Ok:α->World->Prop)(Cx:Nat->Prop)(xs:List β)(Bx:Nat->Prop)(K:Nat)(w:World):Prop:=
 ∀ (m l:Nat)(J:List α->World->Prop)(W:World),w.heap.size<=l->l<W.heap.size->Ab w.heap.size Bx w W->(∀b,Bx b->W.heap[b]? = w.heap[b]?)->(∀k,W.heap.size<=k->k<W.heap.size+K->¬ Cx k) ->
   (∀s A B,J s A->Ab W.heap.size (fun b=>Bx b\/(W.heap.size<=b/\b<W.heap.size+K)) A B->J s B) ->
   (∀pre x r W1,J pre W1->pre.map val++val x::r=xs->Ok x W1->W.heap.size+K<=W1.heap.size->YieldAt Fence.wide m P l (encs x) W1 fun e W'=>e=.returned (.bool true)/\J (pre++[x]) W'/\Kx (fun k=>Cx k\/k=l) W1 W') ->
   J [] W->CallsIn Fence.wide m P g (#[.func (.yield l) #[] #[]]++lb) W fun e W'=>(∃v,e=.returned v)/\∃ys,ys.map val=xs/\J ys W'
theorem YieldAt.anyM{m m':Nat}{P:Program}{l:Nat}{args:Array Value}{W:World}{R:Ending->World->Prop}(h:YieldAt Fence.wide m P l args W R):YieldAt Fence.wide m' P l args W R:=by obtain⟨fn,tmps,assign,body,J,I,D⟩:=h;exact⟨fn,tmps,assign,body,J,I,fun c cs hr=>D c cs fun d hd=>by cases hd⟩
def Br{α β:Type}(B:Prop)(P:Program)(g:Nat)(lb:Array Value)(encs:α->Array Value)(val:α->β)(Ok:α->World->Prop)(Cx:Nat->Prop)(xs:List β)(Bx:Nat->Prop)(K:Nat)(w:World):Prop:=
 ∀ (m l:Nat)(J:List α->World->Prop)(Z:World->Prop)(W:World),(∀A,Z A->B)->w.heap.size<=l->l<W.heap.size->Ab w.heap.size Bx w W->(∀b,Bx b->W.heap[b]? = w.heap[b]?)->(∀k,W.heap.size<=k->k<W.heap.size+K->¬ Cx k) ->
   (∀s A B,J s A->Ab W.heap.size (fun b=>Bx b\/(W.heap.size<=b/\b<W.heap.size+K)) A B->J s B) ->
   (∀A B,Z A->Ab W.heap.size (fun b=>Bx b\/(W.heap.size<=b/\b<W.heap.size+K)) A B->Z B) ->
   (∀pre x r W1,J pre W1->pre.map val++val x::r=xs->Ok x W1->W.heap.size+K<=W1.heap.size->YieldAt Fence.wide m P l (encs x) W1 fun e W'=>∃go:Bool,e=.returned (.bool go)/\(go=true->J (pre++[x]) W')/\(go=false->Z W')/\Kx (fun k=>Cx k\/k=l) W1 W') ->
   J [] W->CallsIn Fence.wide m P g (#[.func (.yield l) #[] #[]]++lb) W fun e W'=>(∃v,e=.returned v)/\((∃ys,ys.map val=xs/\J ys W')\/Z W')
theorem DH.any{α β:Type}{P:Program}{g:Nat}{lb:Array Value}{encs:α->Array Value}{val:α->β}{Ok:α->World->Prop}{Cx:Nat->Prop}{xs:List β}{Bx:Nat->Prop}{K:Nat}{w:World}(h:DH P g lb encs val Ok Cx xs Bx K w):Br False P g lb encs val Ok Cx xs Bx K w:=by
 intro m l J Z W D h1 h2 h3 h4 h5 h6 _ I h0;refine(h m l J W h1 h2 h3 h4 h5 h6 (fun pre x r W1 a b c d=>(I pre x r W1 a b c d).mono ?_) h0).mono fun e W' h=>⟨h.1,.inl h.2⟩;rintro e W'⟨go,y,M,q,O⟩;cases go with
 |false=>exact(D _ (q rfl)).elim
 |true=>exact⟨y,M rfl,O⟩
def NK{α:Type}(Cx:Nat->Prop)(I:List α->World->Prop)(R:World->Prop)(xs:List α)(W:World)(e:Exit)(_:Act)(W':World):Prop:=match e with
 | .normal=>Kx Cx W W'/\I xs W'
 | .ret=>Kx Cx W W'/\R W'
 |_=>False
theorem oX{α β:Type}{B:Prop}{P:Program}{n:Nat}{g:Operand}{ps:Array Tmp}{assign body:Code}{Q:Exit->Act->World->Prop}{a:Act}{w:World}{gf:Nat}{lb:Array Value}
  (hg:a.eval g=.func (.func gf) #[] lb)(eg:∀args w,(callFunc gf args).run P w=.ok (.enter gf args) w)
  {encs:α->Array Value}{val:α->β}{Ok:α->World->Prop}{Cx:Nat->Prop}{xs:List β}{Bx:Nat->Prop}{K:Nat}(gl:Br B P gf lb encs val Ok Cx xs Bx K w)(gq:∀b,Bx b->b<w.heap.size)(gp:∀b,Cx b->b<w.heap.size\/w.heap.size+2+K<=b)
  (gs:∀x,(encs x).size=ps.size)
  (I:List α->World->Prop)(R:World->Prop)(Ax:α->Act->World->Prop)(hR:∀A B,R A->Ab w.heap.size (fun b=>Bx b\/(w.heap.size+2<=b/\b<w.heap.size+2+K)) A B->R B)(hI:∀s A B,I s A->Ab w.heap.size (fun b=>Bx b\/(w.heap.size+2<=b/\b<w.heap.size+2+K)) A B->I s B)(gu:∀x a' A B,Ax x a' A->Ab w.heap.size (fun _=>False) A B->Ax x a' B)(h0:I [] w)
  (ga:∀(l:Nat)(pre:List α)(x:α)(W:World)(G:Act->World->Prop),I pre W->Ok x W->(∀a' W',Kx Cx W W'->I pre W'->Ax x a' W'->G a' W') ->
   assign.wpIn (Fence.wide.inRound l) n P (Exit.then G (fun _ _ _=>False)) { tmps:=(ps.zip (encs x)).foldl (fun t(p,v)=>t.setIfInBounds p v) a.tmps,defers:=[] } W)
  (gj:∀(l:Nat)(pre:List α)(x:α)(r:List β)(a':Act)(W:World),pre.map val++val x::r=xs->I pre W->Ax x a' W->w.heap.size<l->w.heap.size+2+K<=W.heap.size->body.wpIn (Fence.wide.inRound l) n P (NK Cx I R (pre++[x]) W) a' W)
  (gm:∀(D:Nat)(W:World),w.heap.size<=D->R W->W.heap[D]? = some (.deferred (some []))->Q .ret { a with defers:={ target:=.collected D,args:=#[] }::a.defers } W)
  (gh:∀(D:Nat)(ys:List α)(W:World),w.heap.size<=D->ys.map val=xs->I ys W->W.heap[D]? = some (.deferred (some []))->Q .normal { a with defers:={ target:=.collected D,args:=#[] }::a.defers } W)(hB:∀A,R A->B:=by intros;trivial):
  (Code.rangeFunc g ps assign body).wpIn Fence.wide n P Q a w:=by
 refine wpIn_rangeFunc fun fn hfn=>?_;obtain⟨rc,J⟩:∃rc:LoopState->Loop,rc=fun st=>{ state:=st,pending:=none,fn,tmps:=a.tmps,params:=ps,assign,body,defers:=w.heap.size }:=⟨_,rfl⟩
 obtain⟨V,hV⟩:∃V,(w.alloc (.deferred (some []))).alloc (.loop (rc .ready))=V:=⟨_,rfl⟩;(have hL:V.heap[w.heap.size+1]? = some (.loop (rc .ready)):=by have:=World.alloc_heap_new (w.alloc (.deferred (some []))) (.loop (rc .ready));rw[gP,hV]at this;exact this);(have hD:V.heap[w.heap.size]? = some (.deferred (some [])):=by rw[<-hV];exact(gS _ _ _ (by simp)).trans (World.alloc_heap_new w _));(have hA:Ab w.heap.size Bx w V:=by rw[<-hV];exact(Ab.alloc w _).trans (Ab.alloc _ _));(have gn:∀b,Bx b->V.heap[b]? = w.heap[b]? :=fun b hb=>by have:=gq b hb;rw[<-hV];exact(gS _ _ _ (by simp;omega)).trans (gS _ _ _ this));(have nb:∀k,w.heap.size<=k->¬ Bx k:=fun k hk h=>by have:=gq k h;omega);(have nc:∀k,w.heap.size<=k->k<w.heap.size+2->¬ Cx k:=fun k hk hk2 h=>by have:=gp k h;omega);(have gk:V.heap.size=w.heap.size+2:=by rw[<-hV];simp);refine⟨w.heap.size+1,[{ target:=.collected w.heap.size,args:=#[] }],V,{ target:=.fn (.func gf) lb,args:=#[.func (.yield (w.heap.size+1)) #[] #[]] },V,gf,
  #[.func (.yield (w.heap.size+1)) #[] #[]]++lb,V,by rw[<-hV,J];exact run_enterLoop_outer _ _ _ _ _,by simp only[resolve,hg];simp[go_sem],fun _ _=>trivial,by simp[invoke,go_sem,eg],(fun h=>by cases h),?_⟩
 refine(gl (n-1) (w.heap.size+1) (fun pre W=>I pre W/\W.heap[w.heap.size+1]? = some (.loop (rc .ready))/\W.heap[w.heap.size]? = some (.deferred (some []))) (fun W=>R W/\W.heap[w.heap.size+1]? = some (.loop { rc .done with pending:=some .ret })/\W.heap[w.heap.size]? = some (.deferred (some []))) V (fun A h=>hB A h.1) (jC _) (by omega) hA gn (fun k h1 h2 h=>by have:=gp k h;omega) ?_ ?_ ?_ ⟨hI _ _ _ h0 (hA.mono (gA _) fun _=>.inl),hL,hD⟩).mono ?_
 ·rintro s A B⟨h1,h2,h3⟩q;have g2:=(Array.getElem?_eq_some_iff.1 h2).1;have g3:=(Array.getElem?_eq_some_iff.1 h3).1;rw[gk]at q;exact⟨hI _ _ _ h1 (q.mono (by omega) fun _ h=>h),(q.same _ g2 (fun h=>h.elim (nb _ (by omega)) (by omega)) fun h=>by omega).trans h2,(q.same _ g3 (fun h=>h.elim (nb _ (by omega)) (by omega)) fun h=>by omega).trans h3⟩
 ·rintro A B⟨h1,h2,h3⟩q;have g2:=(Array.getElem?_eq_some_iff.1 h2).1;have g3:=(Array.getElem?_eq_some_iff.1 h3).1;rw[gk]at q;exact⟨hR _ _ h1 (q.mono (by omega) fun _ h=>h),(q.same _ g2 (fun h=>h.elim (nb _ (by omega)) (by omega)) fun h=>by omega).trans h2,(q.same _ g3 (fun h=>h.elim (nb _ (by omega)) (by omega)) fun h=>by omega).trans h3⟩
 ·rintro pre x r W⟨hi,y,hk⟩hx hok hwk;have hy:=run_yield (P:=P) (args:=encs x) y (by rw[J];exact gs x);rw[J]at hy;(have putc:∀(U:World),(∃o,U.heap[w.heap.size+1]? = some (.loop o))->∀o',Ab w.heap.size (fun b=>Bx b\/(w.heap.size+2<=b/\b<w.heap.size+2+K)) U (U.putObj (w.heap.size+1) o')/\Ab w.heap.size (fun _=>False) U (U.putObj (w.heap.size+1) o')/\Kx (fun k=>Cx k\/k=w.heap.size+1) U (U.putObj (w.heap.size+1) o'):=by rintro U⟨o,ho⟩o';have hs:=(Array.getElem?_eq_some_iff.1 ho).1;(have hc:∀c t f,U.heap[w.heap.size+1]? ≠ some (.cells c t f):=fun c t f e=>by rw[ho]at e;cases e);exact⟨.putObj U o' (by omega) hs hc,.putObj U o' (by omega) hs hc,Kx.putObj (Cx:=fun k=>Cx k\/k=w.heap.size+1) U (.inr rfl) o'⟩);have up:∀{A B:World},Kx Cx A B->Kx (fun k=>Cx k\/k=w.heap.size+1) A B:=fun h=>h.mono fun _=>.inl;refine YieldAt.anyM (m:=n) ⟨fn,_,assign,body,hy,roundIn_of_wpIn hfn (ga _ pre x W _ hi hok fun a' W' z hi1 hax=>?_)⟩;have s1:=z.bel.size;have ge:=(z.same _ (Array.getElem?_eq_some_iff.1 y).1 (nc _ (by omega) (by omega))).trans y;have gt:=(z.same _ (Array.getElem?_eq_some_iff.1 hk).1 (nc _ (by omega) (by omega))).trans hk;refine⟨_,run_beginRound ge (by rw[J]),?_⟩;obtain⟨c1,c2,c3⟩:=putc W' ⟨_,ge⟩ (.loop { rc .ready with state:=.busy });have gb:(W'.putObj (w.heap.size+1) (.loop { rc .ready with state:=.busy })).heap[w.heap.size+1]? = some (.loop { rc .ready with state:=.busy }):=World.putObj_heap_same (Array.getElem?_eq_some_iff.1 ge).1;have gd:(W'.putObj (w.heap.size+1) (.loop { rc .ready with state:=.busy })).heap[w.heap.size]? = some (.deferred (some [])):=(jL (by omega)).trans gt;refine wpIn_mono (gj _ pre x r a' _ hx (hI _ _ _ hi1 c1) (gu _ _ _ _ hax c2) (jO _) (gM (show w.heap.size+2+K<=W'.heap.size by omega) c1.bel.size)) ?_;rintro e a3 W3 hp;cases e with
  |normal=>obtain⟨O,gg⟩:=hp;have M:=(O.same _ (Array.getElem?_eq_some_iff.1 gb).1 (nc _ (by omega) (by omega))).trans gb;have gi:=(O.same _ (Array.getElem?_eq_some_iff.1 gd).1 (nc _ (by omega) (by omega))).trans gd;obtain⟨e1,e2,e3⟩:=putc W3 ⟨_,M⟩ (.loop (rc .ready));have he:=run_endRound (P:=P) none M;rw[J]at he;rw[J]at M e1 e2 e3 |-;exact⟨_,_,he,true,rfl,fun _=>⟨hI _ _ _ gg e1,World.putObj_heap_same (Array.getElem?_eq_some_iff.1 M).1,(jL (by omega)).trans gi⟩,nofun,(((up z).trans (by rw[J]at c3;exact c3)).trans (by rw[J]at O;exact up O)).trans e3⟩
  |ret=>obtain⟨O,gg⟩:=hp;have M:=(O.same _ (Array.getElem?_eq_some_iff.1 gb).1 (nc _ (by omega) (by omega))).trans gb;have gi:=(O.same _ (Array.getElem?_eq_some_iff.1 gd).1 (nc _ (by omega) (by omega))).trans gd;obtain⟨e1,e2,e3⟩:=putc W3 ⟨_,M⟩ (.loop { rc .done with pending:=some .ret });have he:=run_endRound (P:=P) (some .ret) M;rw[J]at he;rw[J]at M e1 e2 e3 |-;exact⟨_,_,he,false,rfl,nofun,fun _=>⟨hR _ _ gg e1,World.putObj_heap_same (Array.getElem?_eq_some_iff.1 M).1,(jL (by omega)).trans gi⟩,(((up z).trans (by rw[J]at c3;exact c3)).trans (by rw[J]at O;exact up O)).trans e3⟩
  |exit id=>exact hp.elim
  |goto t=>exact hp.elim
  |panic ch=>exact hp.elim
  |outgrown=>exact hp.elim
 ·rintro e W2⟨⟨v,rfl⟩,⟨ys,gr,hi,y,hk⟩|⟨hi,y,hk⟩⟩
  ·have he:=run_endLoop (P:=P) y (by rw[J];simp);rw[J]at he;have hs:=(Array.getElem?_eq_some_iff.1 y).1;refine⟨none,_,he,gh _ ys _ (gA _) gr (hI _ _ _ hi (.putObj W2 _ (by omega) hs fun c t f e=>by rw[y]at e;cases e)) ((jL (by omega)).trans hk)⟩
  ·have he:=run_endLoop (P:=P) y (by rw[J];simp);rw[J]at he;have hs:=(Array.getElem?_eq_some_iff.1 y).1;exact⟨some .ret,_,he,wpIn_ret (gm _ _ (gA _) (hR _ _ hi (.putObj W2 _ (by omega) hs fun c t f e=>by rw[y]at e;cases e)) ((jL (by omega)).trans hk))⟩
end
section
open Go.RowKit Go.Lib Go.Proofs Go.Shelf
attribute [local go_sem ↓] Go.wp_at_zero Go.wp_at_succ
attribute [local go_sem] Oper.semAt_some
def lO(c:UInt8):Nat->ByteArray->List ByteArray
 |0,s=>[s]
 |g+1,s=>if Lib.index s.data.toList [c]<0 then[s]else s.extract 0 (Lib.index s.data.toList [c]).toNat::lO c g (s.extract ((Lib.index s.data.toList [c]).toNat+1) s.size)
def mj(c:UInt8)(s:ByteArray):List ByteArray:=lO c s.size s
theorem sV{c:UInt8}{f:Nat}{s:ByteArray}(h:Lib.index s.data.toList [c]<0):lO c f s=[s]:=by
 cases f with
 |zero=>rfl
 |succ f=>rw[lO,gL h]
structure y7(n₀ OB:Nat)(W W':World):Prop where
 bel:Below n₀ W W'
 row:∀k,k≠OB->(∃c t f,W.heap[k]? = some (.cells c t f))->W'.heap[k]? = W.heap[k]?
theorem y7.trans{n₀ OB:Nat}{A B C:World}(h:y7 n₀ OB A B)(k:y7 n₀ OB B C):y7 n₀ OB A C:=
 ⟨h.bel.trans k.bel,fun j hj D=>by have e:=h.row j hj D;obtain⟨c,t,f,D⟩:=D;exact(k.row j hj ⟨c,t,f,e.trans D⟩).trans e⟩
theorem y7.refl(n₀ OB:Nat)(W:World):y7 n₀ OB W W:=⟨gC _ _,fun _ _ _=>rfl⟩
theorem y7.alloc{n₀ OB:Nat}{A W:World}(h:y7 n₀ OB A W)(I:n₀<=W.heap.size)(o:Obj):y7 n₀ OB A (W.alloc o):=
 h.trans ⟨(gC _ _).alloc I o,fun k _ D=>by obtain⟨c,t,f,D⟩:=D;exact gS W o k (Array.getElem?_eq_some_iff.1 D).1⟩
theorem y7.blk{n₀ OB:Nat}{W W':World}(h:y7 n₀ OB W W'){b:Nat}{t:TypeId}{cs:Array Value}(hb:aa W b t cs)(D:b≠OB):aa W' b t cs:=
 (h.row b D ⟨cs,t,(0,0),hb⟩).trans hb
theorem E8{n₀ OB:Nat}{w:World}(M:n₀<=w.heap.size)(W:World)(l:Nat)(o o':Obj)(O:w.heap.size<=l)(h:W.heap[l]? = some o)(I:o.isCells=false)(J:o.isWalk=false):y7 n₀ OB W (W.putObj l o'):=
 ⟨belowK_b M W l o o' O h I J,fun k _ D=>by obtain⟨c,t,f,D⟩:=D;refine jL (fun e=>?_);subst e;rw[h]at D;injection D with D;subst D;cases I⟩
abbrev YV:=Value×{ k:Nat // k<=1000 }
def y8(x:YV):Array Value:=#[x.1,.int .i64 (x.2.1:Int)]
theorem Np(l n₀ OB N:Nat)(J Jx:List YV->World->Prop)(hJ:∀s W o,J s W->J s (W.alloc o))
  (hY:∀m pre x W,J pre W->pre.length<N->YieldAt Fence.wide m prog l (y8 x) W fun e W'=>(e=.returned (.bool true)/\J (pre++[x]) W'/\y7 n₀ OB W W')\/(e=.returned (.bool false)/\Jx (pre++[x]) W')):
  ∀ (g k:Nat)(v:Value)(n:Nd)(pre:List YV)(W:World),g<=1000->aq (· < n₀) W v n->tQ g n->J pre W->n₀<=W.heap.size->OB<W.heap.size->pre.length+(bi g n).length<=N ->
    CallsIn Fence.wide k prog 261 #[v,.int .i64 (g:Int),.func (.yield l) #[] #[]] W fun e W'=>
     (e=.returned (.bool true)/\(∃ys,ys.map (·.2.1)=bi g n/\J (pre++ys) W')/\y7 n₀ OB W W')\/(e=.returned (.bool false)/\∃q,Jx q W'):=by
 intro g;induction g with
 |zero=>
  intro k v n pre W _ hv _ y hn _ _;obtain⟨A,cp,rfl,hC⟩:=hv.toC;have O:=hid (hJ _ _ (.cells (nv n A cp) 41) y);refine xk func261 rfl trivial ?_ rfl;simp only[ntmps261,jR,gI,jT,Nat.reduceAdd,Nat.reduceSub,kT,kU,qC,kY,qE,kV]
  gi_wp2
  go_ret;exact .inl ⟨rfl,⟨[],rfl,by simpa using O.out⟩,(y7.refl _ _ _).alloc hn _⟩
 | succ g ih=>
  intro k v n pre W hg hv hw y hn hob hN;have gr:=hv;obtain⟨A,cp,rfl,hC⟩:=hv.toC;(have gq:∀k:Nat,((Fence.wide).depth.isSome=true->1<=k):=fun k h=>by cases h);have O:=hid (hJ _ _ (.cells (nv n A cp) 41) y);have b1:=(cH W (nv n A cp)).2;(have hz:((g:Int)+1==0)=false:=by simp;omega);rw[bi,gI]at hN;obtain⟨fn,tmps,assign,body,hy,hR⟩:=hY (k-1) pre (.agg (nv n A cp),⟨g+1,hg⟩) _ O.out (by omega);refine xk func261 rfl trivial ?_ rfl;simp only[ntmps261,jR,gI,jT,Nat.reduceAdd,Nat.reduceSub,kT,kU,qC,kY,qE,kV];have gw:(Instr.yield l #[.agg (nv n A cp),.int .i64 ((g:Int)+1)]).run prog (W.alloc (.cells (nv n A cp) 41))=.ok (.round l fn tmps assign body) (W.alloc (.cells (nv n A cp) 41)):=hy;have HN:=hid hN;have HW:=hid hw;have HV:=hid gr;have HH:=hid hY;have HI:=hid ih;have g3:=hid hJ;have gu:=hid ((y7.refl n₀ OB W).alloc hn (.cells (nv n A cp) 41));clear hy gr hv hC hN hw y hY ih hJ
  gi_wp2
  refine⟨gq _,hR.mono ?_⟩;rintro e W1(⟨rfl,gp,M⟩|⟨rfl,gh⟩)
  case inr=>
   have g0:=hid gh;clear gh
   gi_wp2
   go_ret;exact .inr ⟨rfl,_,g0.out⟩
  have c1:=M.blk b1 (by omega);obtain⟨x0,x1,x2,x3,_,_,_,_⟩:=ah c1;have g6:=hid gp;have g2:=hid (gu.out.trans M);have gx:=M.bel.size;simp at gx;clear hR gp M O gw b1 gu
  gi_wp2
  generalize hpre:pre++[((.agg (nv n A cp):Value),(⟨g+1,hg⟩:{ k:Nat // k<=1000 }))]=D at *;(have gj:D.length=pre.length+1:=by rw[<-hpre];simp);have gt:=hid hpre;clear hpre;have g8:=HW.out.1.1
  gi_loopw [8,19] (fun _ u19 wr=>∃(i:Nat)(ys:List YV),i<=n.kids.length/\u19=.int .i64 (i:Int)/\ys.map (·.2.1)=(n.kids.take i).flatMap (bi g)/\J (D++ys) wr/\y7 n₀ OB W wr) (fun _ u19 _=>n.kids.length-(RowKit.intOf u19).toNat)
  case atStart=>exact⟨0,[],gT _,rfl,rfl,by simpa using g6.out,g2.out⟩
  case round=>
   clear x0 x1 x2 x3 c1;obtain⟨i,ys,hi,rfl,gd,y,hk⟩:=hrel;have z:=hid gd;have gv:=hid y;clear gd y;by_cases I:i<n.kids.length
   ·(have gi:(i:Int)<(n.kids.length:Int):=by omega);(have h0:(0:Int)<=(i:Int):=by omega);obtain⟨b,off,A1,gs,rfl,g9,ha,k0,k1,k2,k3,gl⟩:=(HV.out.keep (fun b hb _=>hk.bel.block b hb)).kidsV.kid i I;have HM:=hid (jF I);have ga:=hid (show(n.kids.take (i+1)).flatMap (bi g)=(n.kids.take i).flatMap (bi g)++bi g n.kids[i]by rw[kC I,kO];simp);(have yk:((n.kids.take (i+1)).flatMap (bi g)).length<=(n.kids.flatMap (bi g)).length:=by(conv=>rhs;rw[<-vZ (i+1) n.kids,kO]);rw[gJ];omega);generalize n.kids[i]=x at *;(have ge:ys.length=((n.kids.take i).flatMap (bi g)).length:=by rw[<-z.out,jN]);have g7:=hk.bel.size;have HC:=hid (HI.out (k-1) _ x (D++ys) _ (by omega) (gl.keep (w':=wr.alloc (.cells (nv x A1 gs) 41)) (fun b _ I=>gS wr _ b I)) (HW.out.2 x HM.out) (g3.out _ _ (.cells (nv x A1 gs) 41) gv.out) (by simp;omega) (by simp;omega) (by have:=HN.out;rw[ga.out,gJ]at yk;rw[gJ,gj,ge];omega));clear gl yk ge
    gi_wp2
    refine⟨trivial,gq _,HC.out.mono ?_⟩;rintro e W2(⟨rfl,⟨zs,gb,gn⟩,gm⟩|⟨rfl,q,gg⟩)
    case inr=>
     have gz:=hid gg;clear gg
     gi_wp2
     go_ret;exact .inr ⟨rfl,_,gz.out⟩
    have HZ:=hid (show(ys++zs).map (·.2.1)=(n.kids.take (i+1)).flatMap (bi g)by rw[kW,z.out,gb,ga.out]);have g5:Hid (J (D++(ys++zs)) W2):=hid (by rw[<-qS];exact gn);have g1:=hid ((hk.alloc (by omega) _).trans gm);clear HC gb gn gm ga k0 k1 k2 k3
    gi_wp2
    go_roundw
    case rel=>exact⟨i+1,ys++zs,by omega,by go_num,HZ.out,g5.out,g1.out⟩
    case measure=>simp[RowKit.intOf];omega
   ·(have gi:¬ (i:Int)<(n.kids.length:Int):=by omega);have ht:n.kids.take i=n.kids:=jU (by omega);have gy:=hid (show(((.agg (nv n A cp):Value),(⟨g+1,hg⟩:{ k:Nat // k<=1000 }))::ys).map (·.2.1)=bi (g+1) n by rw[bi,vX,z.out,ht]);have g4:Hid (J (pre++((.agg (nv n A cp):Value),(⟨g+1,hg⟩:{ k:Nat // k<=1000 }))::ys) wr):=hid (by have:=gv.out;rw[<-gt.out,qS]at this;simpa using this);clear ht
    gi_wp2
    go_ret;exact .inl ⟨rfl,⟨_,gy.out,g4.out⟩,hk⟩
theorem y9(l n₀ OB k g:Nat)(v:Value)(n:Nd)(J Jx:List YV->World->Prop)(hJ:∀s W o,J s W->J s (W.alloc o))
  (hY:∀pre x W,J pre W->pre.length<(bi g n).length->YieldAt Fence.wide (k-1) prog l (y8 x) W fun e W'=>(e=.returned (.bool true)/\J (pre++[x]) W'/\y7 n₀ OB W W')\/(e=.returned (.bool false)/\Jx (pre++[x]) W'))
  (W:World)(bn bd:Nat)(A:Option Addr)(cp:Nat)(he:v=.agg (nv n A cp))(hg:g<=1000)(I:aa W bn 41 (nv n A cp))(M:aa W bd 3 #[(g:Int)])
  (hv:aq (· < n₀) W v n)(hw:tQ g n)(hn:n₀<=W.heap.size)(z:OB<W.heap.size)(h0:J [] W):
  CallsIn Fence.wide k prog 260 #[.func (.yield l) #[] #[],.pointer (some ⟨bn,0,none⟩),.pointer (some ⟨bd,0,none⟩)] W fun e W'=>(∃v,e=.returned v)/\((∃ys,ys.map (·.2.1)=bi g n/\J ys W')\/(∃q:List YV,True/\Jx q W')):=by
 (have ga:∀k:Nat,((Fence.wide).depth.isSome=true->1<=k):=fun k h=>by cases h);have y:=hid (Np l n₀ OB (bi g n).length J Jx hJ (fun m pre x W O hl=>by obtain⟨fn,tmps,assign,body,hy,hR⟩:=hY pre x W O hl;exact⟨fn,tmps,assign,body,hy,⟨hR.1,fun c cs _=>hR.2 c cs (fun d h=>by cases h)⟩⟩) g (k-1) v n [] W hg hv hw h0 hn z (by simp));obtain⟨x0,x1,x2,x3,_,_,_,_⟩:=ah I;have hd:=aw M;subst he;clear hv hY hJ I M hw;refine xk func260 rfl trivial ?_ rfl;simp only[ntmps260,jR,gI,jT,Nat.reduceAdd,Nat.reduceSub,kT,kU,qC,kY,qE,kV]
 gi_wp2
 refine⟨trivial,ga _,y.out.mono ?_⟩;rintro e W1(⟨rfl,⟨ys,D,O⟩,hk⟩|⟨rfl,q,hx⟩)
 ·have gb:=hid D;have gd:=hid O;clear D O y
  gi_wp2
  go_end0;exact⟨⟨_,rfl⟩,.inl ⟨ys,gb.out,by simpa using gd.out⟩⟩
 ·have HX:=hid hx;clear hx y
  gi_wp2
  go_end0;exact⟨⟨_,rfl⟩,.inr ⟨q,trivial,HX.out⟩⟩
theorem CO(k:Nat)(v:Value)(d:Int)(n:Nd)(w:World)(D:dy w v n):
  CallsIn Fence.wide k prog 194 #[v,d] w fun e w'=>e=.returned (.func (.func 260) #[] #[w,.pointer (some ⟨w.heap.size+1,0,none⟩)])/\w'=(w.alloc (.cells v.cells 41)).alloc (.cells #[d] 3):=by
 obtain⟨A,cp,rfl,I⟩:=D.toC;clear D I;refine xk func194 rfl trivial ?_ rfl;simp only[ntmps194,jR,gI,jT,Nat.reduceAdd,Nat.reduceSub,kT,kU,qC,kY,qE,kV]
 gi_wp2
 go_ret;exact⟨rfl,rfl⟩
theorem wv(a:Array Value)(w:World):(callFunc 260 a).run prog w=.ok (.enter 260 a) w:=by kernel_rfl
theorem PA(p q:Nat)(a b:Value)(t:Array Value):((#[p,q]:Array Nat).zip #[a,b]).foldl (fun t x=>t.setIfInBounds x.fst x.snd) t=(t.setIfInBounds p a).setIfInBounds q b:=by simp
theorem Lg(w:World)(c:Array Value)(k:Int):aa ((((w.alloc (.cells c 41)).alloc (.cells #[.int .i64 0] 3)).alloc (.cells c 41)).alloc (.cells #[k] 3)) (w.heap.size+1) 3 #[.int .i64 0]/\aa ((((w.alloc (.cells c 41)).alloc (.cells #[.int .i64 0] 3)).alloc (.cells c 41)).alloc (.cells #[k] 3)) (w.heap.size+1+1) 41 c/\aa ((((w.alloc (.cells c 41)).alloc (.cells #[.int .i64 0] 3)).alloc (.cells c 41)).alloc (.cells #[k] 3)) (w.heap.size+1+1+1) 3 #[k] /\
 Below w w ((((w.alloc (.cells c 41)).alloc (.cells #[.int .i64 0] 3)).alloc (.cells c 41)).alloc (.cells #[k] 3))/\((((w.alloc (.cells c 41)).alloc (.cells #[.int .i64 0] 3)).alloc (.cells c 41)).alloc (.cells #[k] 3)).heap.size=w.heap.size+4:=⟨((aa.new_at (by simp) _ _).alloc _).alloc _,(aa.new_at (by simp) _ _).alloc _,aa.new_at (by simp) _ _,lh,by simp⟩
theorem Lh(v:Value)(n:Nd)(w:World)(hv:dy w v n)(hw:tQ 100 n)(M:(bi 100 n).length<=1000000000):
  CallsIn Fence.wide 9 prog 138 #[v] w fun e w'=>e=.returned (.int .i64 ((bi 100 n).length:Int))/\Below w w w':=by
 have y:=hv;obtain⟨A,cp,rfl,hC⟩:=hv.toC;have q:aq (· < w.heap.size) w _ n:=y.mono fun b _ h=>h;have HV:=hid q;have HW:=hid hw;have HC:=hid M;clear y hv hC q hw M;refine vz func138 rfl trivial ?_ rfl;simp only[ntmps138,jR,gI,jT,Nat.reduceAdd,Nat.reduceSub,kT,kU,qC,kY,qE,kV]
 gi_wp2
 refine⟨trivial,(CO 8 _ 100 n _ ((HV.out.wide).below lh)).mono ?_⟩;simp only[Value.cells];rintro e w1⟨rfl,rfl⟩;obtain⟨o1,o2,o3,z,hz⟩:=Lg w (nv n A cp) 100
 gi_wp2
 generalize(((w.alloc (.cells (nv n A cp) 41)).alloc (.cells #[.int .i64 0] 3)).alloc (.cells (nv n A cp) 41)).alloc (.cells #[.int .i64 100] 3)=W0 at *;have I:SeqStopsK Fence.wide (9-1) prog 260 #[.pointer (some ⟨w.heap.size+1+1,0,none⟩),.pointer (some ⟨w.heap.size+1+1+1,0,none⟩)] y8 (y7 w.heap.size (w.heap.size+1)) (fun ys=>ys.map (·.2.1)=bi 100 n) (fun _=>True) (bi 100 n).length W0:=
  fun l J Jx W O hJ hJx hY h0=>y9 l w.heap.size (w.heap.size+1) 8 100 _ n J Jx (fun s W o hs=>hJ s W _ none hs (World.grownBy_alloc W o none) (fun r e=>by cases e)) hY W _ _ A cp rfl (by omega) (o2.below O (by omega)) (o3.below O (by omega))
   (HV.out.keep fun b hb _=>(O.block b (by omega)).trans (z.block b hb)) HW.out (gM z.size O.size) (by have:=O.size;omega) h0
 have ga:=hid I;obtain⟨oc,of⟩:W0.cell? ⟨w.heap.size+1,0,none⟩=some (.int .i64 0)/\W0.frozen? ⟨w.heap.size+1,0,none⟩=false:=⟨aw o1,o1.frozen 0⟩;clear I o1 o2 o3;refine wpIn_rangeFunc_ownF (w0:=W0) rfl (by omega) (gf:=260) (lb:=#[.pointer (some ⟨w.heap.size+1+1,0,none⟩),.pointer (some ⟨w.heap.size+1+1+1,0,none⟩)]) rfl trivial wv ga.out (fun h k=>h.trans k) (fun W l o o'=>E8 z.size W l o o') (gC _ _) (fun _=>rfl)
  (fun pre W=>(W.cell? ⟨w.heap.size+1,0,none⟩=some (.int .i64 (pre.length:Int))/\W.frozen? ⟨w.heap.size+1,0,none⟩=false)/\Below w w W) (fun _ _ _=>False)
  (OwnFrom.and (Own.from (fun s A B row hs hg hr=>⟨Go.cell_kept hs.1 hg hr,(Go.frozen_kept hs.1 hg hr).trans hs.2⟩) _) (ownFrom_below (gA _) (by omega)))
  (fun _ _ _ _ _ hs _ _=>hs) ⟨⟨oc,of⟩,z⟩
  (fun x=>{ tmps:=#[.agg (nv n A cp),.pointer (some ⟨w,0,none⟩),.int .i64 0,.pointer (some ⟨w.heap.size+1,0,none⟩),.agg (nv n A cp),
   .func (.func 260) #[] #[.pointer (some ⟨w.heap.size+1+1,0,none⟩),.pointer (some ⟨w.heap.size+1+1+1,0,none⟩)],x.1,.int .i64 (x.2.1:Int),undef,undef,undef],defers:=[] }) ?assign ?body ?done ?stop
 case assign=>
  intro l x W K hK;unfold y8
  gi_wp2
  rw[PA];exact hK
 case body=>
  rintro l pre x W⟨⟨M,hf⟩,hb⟩hl;have gb:=jY hl HC.out;have HB:=hid hb;have gd:=hb.size;clear hb hl
  gi_wp2
  refine⟨KeepsOthers.setCell _ _ _,⟨(gC _ _).setCell (p:=⟨w.heap.size+1,0,none⟩) (by show w.heap.size<=w.heap.size+1;omega) _,fun k hk _=>gF W ⟨w.heap.size+1,0,none⟩ _ k hk⟩,⟨?_,?_⟩,HB.out.setCell (p:=⟨w.heap.size+1,0,none⟩) (by show w.heap.size<=w.heap.size+1;omega) _⟩
  ·rw[World.cell?_setCell_same' _ _ _ (by rw[M];rfl)];simp
  ·rw[World.frozen?_setCell];exact hf
 case done=>
  rintro D ys W hD hys⟨⟨M,hf⟩,hb⟩hK;have HB:=hid (hb.trans (E8 (OB:=0) z.size W D _ (.deferred none) hD hK rfl rfl).bel);have HY:Hid (ys.length=(bi 100 n).length):=hid (by rw[<-hys,jN]);clear hb hys
  gi_wp2
  refine⟨by simp,.inl ⟨_,_,rfl,qP hK,?_⟩⟩;exact⟨_,results_tmp rfl _ _ _,by rw[<-HY.out];rfl,HB.out⟩
 case stop=>rintro D c pre W _ _ h _;exact h.elim
def OL(l:List Nat):Nat:=l.foldl (fun d l=>max d (102-l)) 0
theorem Li(l:List Nat)(x:Nat):OL (l++[x])=max (OL l) (102-x):=by unfold OL;rw[List.foldl_append];rfl
theorem OM(l:List Nat):OL l<=102:=((ph l 0 102).2 ⟨by omega,fun _ _=>by omega⟩)
theorem Gl(v:Value)(n:Nd)(w:World)(hv:dy w v n)(hw:tQ 101 n):
  CallsIn Fence.wide 9 prog 137 #[v] w fun e w'=>e=.returned (.int .i64 (mf n:Int))/\Below w w w':=by
 have q:=hv;obtain⟨A,cp,rfl,hC⟩:=hv.toC;have O:aq (· < w.heap.size) w _ n:=q.mono fun b _ h=>h;have HV:=hid O;have HW:=hid hw;clear q hv hC O hw;refine vz func137 rfl trivial ?_ rfl;simp only[ntmps137,jR,gI,jT,Nat.reduceAdd,Nat.reduceSub,kT,kU,qC,kY,qE,kV]
 gi_wp2
 refine⟨trivial,(CO 8 _ 101 n _ ((HV.out.wide).below lh)).mono ?_⟩;simp only[Value.cells];rintro e w1⟨rfl,rfl⟩;obtain⟨o1,o2,o3,y,hz⟩:=Lg w (nv n A cp) 101
 gi_wp2
 generalize(((w.alloc (.cells (nv n A cp) 41)).alloc (.cells #[.int .i64 0] 3)).alloc (.cells (nv n A cp) 41)).alloc (.cells #[.int .i64 101] 3)=W0 at *;have I:SeqStopsK Fence.wide (9-1) prog 260 #[.pointer (some ⟨w.heap.size+1+1,0,none⟩),.pointer (some ⟨w.heap.size+1+1+1,0,none⟩)] y8 (y7 w.heap.size (w.heap.size+1)) (fun ys=>ys.map (·.2.1)=bi 101 n) (fun _=>True) (bi 101 n).length W0:=
  fun l J Jx W M hJ hJx hY h0=>y9 l w.heap.size (w.heap.size+1) 8 101 _ n J Jx (fun s W o hs=>hJ s W _ none hs (World.grownBy_alloc W o none) (fun r e=>by cases e)) hY W _ _ A cp rfl (by omega) (o2.below M (by omega)) (o3.below M (by omega))
   (HV.out.keep fun b hb _=>(M.block b (by omega)).trans (y.block b hb)) HW.out (gM y.size M.size) (by have:=M.size;omega) h0
 have z:=hid I;obtain⟨oc,of⟩:W0.cell? ⟨w.heap.size+1,0,none⟩=some (.int .i64 0)/\W0.frozen? ⟨w.heap.size+1,0,none⟩=false:=⟨aw o1,o1.frozen 0⟩;clear I o1 o2 o3;refine wpIn_rangeFunc_ownF (w0:=W0) rfl (by omega) (gf:=260) (lb:=#[.pointer (some ⟨w.heap.size+1+1,0,none⟩),.pointer (some ⟨w.heap.size+1+1+1,0,none⟩)]) rfl trivial wv z.out (fun h k=>h.trans k) (fun W l o o'=>E8 y.size W l o o') (gC _ _) (fun _=>rfl)
  (fun pre W=>(W.cell? ⟨w.heap.size+1,0,none⟩=some (.int .i64 (OL (pre.map (·.2.1)):Int))/\W.frozen? ⟨w.heap.size+1,0,none⟩=false)/\Below w w W) (fun _ _ _=>False)
  (OwnFrom.and (Own.from (fun s A B row hs hg hr=>⟨Go.cell_kept hs.1 hg hr,(Go.frozen_kept hs.1 hg hr).trans hs.2⟩) _) (ownFrom_below (gA _) (by omega)))
  (fun _ _ _ _ _ hs _ _=>hs) ⟨⟨oc,of⟩,y⟩
  (fun x=>{ tmps:=#[.agg (nv n A cp),.pointer (some ⟨w,0,none⟩),.int .i64 0,.pointer (some ⟨w.heap.size+1,0,none⟩),undef,.int .i64 (x.2.1:Int),.agg (nv n A cp),
   .func (.func 260) #[] #[.pointer (some ⟨w.heap.size+1+1,0,none⟩),.pointer (some ⟨w.heap.size+1+1+1,0,none⟩)],x.1,.int .i64 (x.2.1:Int),undef,undef,undef,undef,undef],defers:=[] }) ?assign ?body ?done ?stop
 case assign=>
  intro l x W K hK;unfold y8
  gi_wp2
  exact hK
 case body=>
  rintro l pre x W⟨⟨hc,hf⟩,hb⟩hl;have ga:=x.2.2;have gb:=OM (pre.map (·.2.1));have HS:=hid (Li (pre.map (·.2.1)) x.2.1);generalize OL (pre.map (·.2.1))=dd at *;have HB:=hid hb;have gd:=hb.size;clear hb hl
  gi_wp2
  refine⟨KeepsOthers.setCell _ _ _,⟨(gC _ _).setCell (p:=⟨w.heap.size+1,0,none⟩) (by show w.heap.size<=w.heap.size+1;omega) _,fun k hk _=>gF W ⟨w.heap.size+1,0,none⟩ _ k hk⟩,⟨?_,?_⟩,HB.out.setCell (p:=⟨w.heap.size+1,0,none⟩) (by show w.heap.size<=w.heap.size+1;omega) _⟩
  ·rw[World.cell?_setCell_same' _ _ _ (by rw[hc];rfl),kW,List.map_singleton,HS.out];rw[show max (dd:Int) (102-(x.2.1:Int))=((max dd (102-x.2.1):Nat):Int)by omega]
  ·rw[World.frozen?_setCell];exact hf
 case done=>
  rintro D ys W hD hys⟨⟨hc,hf⟩,hb⟩hK;have HB:=hid (hb.trans (E8 (OB:=0) y.size W D _ (.deferred none) hD hK rfl rfl).bel);have HY:Hid (OL (ys.map (·.2.1))=mf n):=hid (by rw[hys];rfl);clear hb hys
  gi_wp2
  refine⟨by simp,.inl ⟨_,_,rfl,qP hK,?_⟩⟩;exact⟨_,results_tmp rfl _ _ _,by rw[<-HY.out];rfl,HB.out⟩
 case stop=>rintro D c pre W _ _ h _;exact h.elim
theorem Az(c:UInt8)(s:ByteArray)(hs:s.size<=65536)(w:World)(hT:bQ w)(p q r:Nat)(hp:aa w p 9 #[.string ⟨#[c]⟩])(hq:aa w q 9 #[s])(hr:aa w r 3 #[.int .i64 0])(gu:p≠q)(gt:r≠q)
  (Cx:Nat->Prop)(hn:0<q)(hC:¬ Cx p/\¬ Cx q/\¬ Cx r/\¬ Cx 0):
  Br True prog 103 #[p,q,r] (fun x =>#[.string x]) (fun x=>x) (fun _ _=>True) Cx (mj c s) (· = q) 0 w:=by
 rintro m l J Z W-hl _ hA gj hCK hJ hZ hY h0;clear hCK;(have ge:∀k:Nat,((Fence.wide).depth.isSome=true->1<=k):=fun k h=>by cases h);have hP:aa W p 9 #[.string ⟨#[c]⟩]:=(hA.same p hp.lt gu fun h=>absurd h (by have:=hp.lt;omega)).trans hp;have hQ:aa W q 9 #[s]:=(gj q rfl).trans hq;have hR:aa W r 3 #[.int .i64 0]:=(hA.same r hr.lt gt fun h=>absurd h (by have:=hr.lt;omega)).trans hr;(have O:bQ W:=by obtain⟨mv,gd⟩:=hT;have ga:=gU w _ gd;exact⟨mv,(jM (hA.same _ ga (fun e=>by have e:0=q:=e;omega) fun h=>absurd h (by omega))).trans gd⟩);have x0:=aw hP;have HY:=hid hY;have HJ:=hid hJ;have HZ:=hid hZ;have HC:=hid (show ¬ (Cx p\/p=l)/\¬ (Cx q\/q=l)/\¬ (Cx r\/r=l)/\¬ (Cx 0\/0=l)from
  have lp:=hp.lt
  have lq:=hq.lt
  have lr:=hr.lt
  ⟨fun h=>h.elim hC.1 (by omega),fun h=>h.elim hC.2.1 (by omega),fun h=>h.elim hC.2.2.1 (by omega),fun h=>h.elim hC.2.2.2 (by omega)⟩)
 clear hA gj hY hJ hZ hT hp hq hr hC;refine xk func103 rfl trivial ?_ rfl;simp only[ntmps103,jR,gI,jT,Nat.reduceAdd,Nat.reduceSub,kT,kU,qC,kY,qE,kV]
 gi_wp2
 gi_loopg [7,8] s.size (fun gg _ _ wr=>∃(cur:ByteArray)(pre:List ByteArray),cur.size<=65536/\cur.size<=gg/\aa wr p 9 #[.string ⟨#[c]⟩]/\aa wr q 9 #[cur]/\aa wr r 3 #[.int .i64 0]/\bQ wr/\J pre wr/\W.heap.size<=wr.heap.size/\pre++lO c gg cur=mj c s)
 case atStart=>exact⟨s,[],hs,gA _,hP,hQ,hR,O,h0,gA _,rfl⟩
 case round=>
  clear hP hQ hR O h0 x0;obtain⟨cur,pre,g6,g7,hP,hQ,hR,O,hj,gm,I⟩:=hrel;have x0:=aw hP;have x1:=aw hQ;have x2:=aw hR;have gi:=fun W(hT:bQ W)=>yN cur ⟨#[c]⟩ W hT (by omega);rw[show(⟨#[c]⟩:ByteArray).data.toList=[c]from rfl]at gi;have z:=Lib.index_room cur.data.toList [c];have gz:cur.data.toList.length=cur.size:=rfl;rw[gz]at z;have HI:=hid gi;have HS:=hid I;have g8:=hid hj;by_cases ga:Lib.index cur.data.toList [c]<0
  ·have gl:=HY.out pre cur [] wr hj (by rw[vq,<-I,sV ga]) trivial gm;have HN:Hid (pre++[cur]=mj c s):=hid (by rw[<-I,sV ga]);obtain⟨fn,tmps,assign,body,hy,gb⟩:=YieldAt.anyM (m':=m-1) gl;have gq:=hid gb;clear I hj gb
   gi_wp2
   refine⟨trivial,ge _,(callsIn_wide.2 (HI.out _ O)).mono ?_⟩;rintro e w2⟨rfl,rfl⟩
   gi_wp2
   refine⟨ge _,gq.out.mono ?_⟩;rintro e w2⟨go,rfl,D,y,M⟩;cases go
   ·have gp:=hid (y rfl);clear D y
    gi_wp2
    go_end0;exact⟨⟨_,rfl⟩,.inr gp.out⟩
   ·have gr:=hid (D rfl);clear D y
    gi_wp2
    go_end0;exact⟨⟨_,rfl⟩,.inl ⟨_,by rw[vq];exact HN.out,gr.out⟩⟩
  ·(have gh:0<=Lib.index cur.data.toList [c]:=by omega);obtain⟨k,hk⟩:∃k:Nat,Lib.index cur.data.toList [c]=k:=⟨_,(Int.toNat_of_nonneg gh).symm⟩;(have g5:k+1<=cur.size:=by have:=z (by omega);rw[hk]at this;have e2:(([c]:List UInt8).length:Int)=1:=rfl;omega);obtain⟨g1,rfl⟩:∃g1,gk=g1+1:=⟨gk-1,by omega⟩;rw[lO,gE ga,hk,Int.toNat_natCast]at I;have gl:=HY.out pre (cur.extract 0 k) _ wr hj (by rw[vq];exact I) trivial gm;have HN:=hid (show(pre++[cur.extract 0 k])++lO c g1 (cur.extract (k+1) cur.size)=mj c s by rw[<-I,qS];rfl);obtain⟨fn,tmps,assign,body,hy,gb⟩:=YieldAt.anyM (m':=m-1) gl;have gq:=hid gb;rw[hk]at HI;(have p0:(0:Int)<=(k:Int):=by omega);(have p1:(k:Int)<=(cur.size:Int):=by omega);(have p2:(k:Int)+1<=(cur.size:Int):=by omega);(have q1:IntKind.i64.wrap ((k:Int)+0)=(k:Int):=by rw[Int.add_zero];exact gQ _ (by omega));have q2:IntKind.i64.wrap ((k:Int)+1)=(k:Int)+1:=gQ _ (by omega);have gv:=dA cur (k+1);have gy:=hid gv;clear I hj gb ga gh hk z gv
   gi_wp2
   refine⟨trivial,ge _,(callsIn_wide.2 (HI.out _ O)).mono ?_⟩;rintro e w2⟨rfl,rfl⟩
   gi_wp2
   refine⟨ge _,gq.out.mono ?_⟩;rintro e w2⟨go,rfl,D,y,M⟩;cases go
   ·have gp:=hid (y rfl);clear D y M x0 x1 x2 hP hQ hR O
    gi_wp2
    exact jD (qI rfl _ _ _) rfl ⟨⟨_,rfl⟩,.inr gp.out⟩
   have D:=D rfl;have gr:=hid D;have gw:=M.blk hP HC.out.1;have gn:=M.blk hQ HC.out.2.1;have g2:=M.blk hR HC.out.2.2.1;have gx:Hid (bQ w2):=hid (by obtain⟨mv,gd⟩:=O;exact⟨mv,(jM (M.same _ (gU _ _ gd) HC.out.2.2.2)).trans gd⟩);have gs:=gM gm M.bel.size;clear y D M x0 x1 x2 hP hQ hR O;have x0:=aw gw;have x1:=aw gn;have f1:=gn.frozen 0;(have g3:aa (w2.setCell ⟨q,0,none⟩ (.string (cur.extract (k+1) cur.size))) q 9 #[.string (cur.extract (k+1) cur.size)]:=by simpa using gn.set_ 0 (.string (cur.extract (k+1) cur.size)));have g4:=gw.far (p:=⟨q,0,none⟩) gu (.string (cur.extract (k+1) cur.size));have g0:=g2.far (p:=⟨q,0,none⟩) gt (.string (cur.extract (k+1) cur.size))
   gi_wp2
   gi_roundg g1
   case measure=>omega
   case rel=>exact⟨_,_,by have:=gy.out;omega,by have:=gy.out;omega,g4,g3,g0,⟨gx.out.choose,(jM (gF _ ⟨q,0,none⟩ _ _ (by show 0≠q;omega))).trans gx.out.choose_spec⟩,HJ.out _ _ _ gr.out (Ab.setCell (b:=q) (Bx:=fun x=>x=q\/_) _ (.inl rfl) _),gM gs ((gC 0 w2).setCell (p:=⟨q,0,none⟩) (gT _) _).size,HN.out⟩
theorem r6(s sep:ByteArray)(w:World):Calls prog 29 #[s,sep] w fun e w'=>
  e = .returned (.func (.func 103) #[] #[.pointer (some ⟨w.heap.size+1,0,none⟩),w,.pointer (some ⟨w.heap.size+2,0,none⟩)]) /\
    Below w w w'/\w'.heap.size=w.heap.size+3/\aa w' w.heap.size 9 #[s]/\aa w' (w.heap.size+1) 9 #[sep]/\aa w' (w.heap.size+2) 3 #[.int .i64 0]:=by
 have J:∀(fn:Fn)(first cap:Array Value)(w:World),(Instr.makeFunc fn first cap).run prog w=.ok (.func fn first cap) w:=fun _ _ _ _=>rfl;have D:Calls prog 55 #[s,sep,.int .i64 0] w fun e w'=>
  e = .returned (.func (.func 103) #[] #[.pointer (some ⟨w.heap.size+1,0,none⟩),w,.pointer (some ⟨w.heap.size+2,0,none⟩)]) /\
    Below w w w'/\w'.heap.size=w.heap.size+3/\aa w' w.heap.size 9 #[s]/\aa w' (w.heap.size+1) 9 #[sep]/\aa w' (w.heap.size+2) 3 #[.int .i64 0]:=by
  (go_enter func55,ntmps55);go_wp2_with fail;go_ret;exact⟨rfl,bel,by simp,((aa.new w _ _).alloc _).alloc _,(aa.new_at (by simp) _ _).alloc _,aa.new_at (by simp) _ _⟩
 have I:=hid D;clear D;(go_enter func29,ntmps29);go_wp2_with fail;refine I.out.mono ?_;rintro e w1⟨rfl,h⟩;have H:=hid h;clear h;go_wp2_with fail;go_ret;exact⟨rfl,H.out⟩
theorem AA(a:Array Value)(w:World):(callFunc 103 a).run prog w=.ok (.enter 103 a) w:=by kernel_rfl
theorem Ab.blk{n:Nat}{Bx:Nat->Prop}{X Y:World}(h:Ab n Bx X Y){b:Nat}{t:TypeId}{cs:Array Value}(hb:aa X b t cs)(D:¬ Bx b):aa Y b t cs:=(h.same b hb.lt D fun _=>⟨cs,t,(0,0),hb⟩).trans hb
theorem Ab.belowOf{n m:Nat}{Bx:Nat->Prop}{w X Y:World}(h:Ab n Bx X Y)(hb:Below m w X)(J:m<=n)(D:∀b,Bx b->m<=b)(I:m<=w.heap.size:=by exact gA _):Below m w Y:=
 hb.trans ⟨h.bel.os,h.bel.tape,h.bel.output,h.bel.size,fun k hk=>h.same k (by have:=hb.size;omega) (fun e=>by have:=D k e;omega) fun e=>by omega⟩
end
end Go.Proofs.YtcoiialmdncpfaaGreatDoor
