/-
  Parts of the proof: Words Enc Node Qc Otx Open Law Shelf4 Shelf. By an AI agent.
-/
import Derived.Test.YtcoiialmdncpfaaGreatDoorChecked
import Derived.Test.YtcoiialmdncpfaaGreatDoorProg
import Derived.Below
import Derived.Laws.OwnMore
import Derived.Deep.AppendLies
import Derived.Deep.Draws
import Derived.Maps.AppendAt
import Derived.RegionTactic
import Derived.OwnWalk
import Derived.Laws.Rows
import Derived.BigQuiet
import Derived.Deep.Slices
import Derived.Deep.Fields
import Derived.ChangeSame
import Derived.ProofKit
import Derived.OpenShut
import Derived.Deep.DeepHandedRow
import Derived.Lib.LaidTab
import Derived.SizedLaws
import Derived.Shelf.Spec.DecodeRune
import Derived.Shelf.Strings.Replace
import Derived.Shelf.Strings.Builder1
import Derived.Shelf.Small.Utf8
import Derived.Ground.NamesProg
import Derived.Ground.Names7Prog
import Derived.Shelf.Lays
import Derived.Shelf.Lays7
import Derived.Shelf.Strings.Search3
import Derived.Shelf.Strings.Cut
import Derived.Shelf.Strings.Prefix
import Derived.Shelf.Small.Strs
open Go.Proofs.Tryz
namespace Go.Proofs.YtcoiialmdncpfaaGreatDoor
section
open Go.RowKit
theorem gE:type_of% @if_neg:=@if_neg
theorem gF:type_of% @Go.RowKit.Below.heap_setCell:=@Go.RowKit.Below.heap_setCell
theorem gL:type_of% @if_pos:=@if_pos
theorem gO:type_of% @List.getElem?_eq_getElem:=@List.getElem?_eq_getElem
theorem gS:type_of% @Go.RowKit.Below.heap_alloc:=@Go.RowKit.Below.heap_alloc
theorem jE:type_of% @List.length_drop:=@List.length_drop
theorem jI:type_of% @List.eq_nil_of_length_eq_zero:=@List.eq_nil_of_length_eq_zero
theorem jM:type_of% @Go.World.cell?_of_block:=@Go.World.cell?_of_block
theorem kH:type_of% @Array.getElem?_eq_none:=@Array.getElem?_eq_none
theorem kJ:type_of% @Go.heap_alloc_new:=@Go.heap_alloc_new
theorem kN:type_of% @Nat.lt_or_ge:=@Nat.lt_or_ge
theorem qF:type_of% @Go.run_underlying:=@Go.run_underlying
theorem qH:type_of% @Nat.eq_zero_or_pos:=@Nat.eq_zero_or_pos
theorem qQ:type_of% @Go.World.news_of_block:=@Go.World.news_of_block
theorem qR:type_of% @List.flatMap_cons:=@List.flatMap_cons
theorem vd:type_of% @List.getElem?_append_right:=@List.getElem?_append_right
theorem vJ:type_of% @Go.wpList_plain:=@Go.wpList_plain
theorem vS:type_of% @Nat.add_mul:=@Nat.add_mul
theorem vT:type_of% @List.getElem?_drop:=@List.getElem?_drop
theorem vU:type_of% @Go.World.grownBy.refl:=@Go.World.grownBy.refl
theorem vX:type_of% @List.map_cons:=@List.map_cons
theorem xb:type_of% @Go.Result.andThen_ok:=@Go.Result.andThen_ok
theorem xp:type_of% @Go.Sem.run_pure:=@Go.Sem.run_pure
theorem xr:type_of% @Nat.one_mul:=@Nat.one_mul
instance:Coe World Nat:=⟨fun w=>w.heap.size⟩
instance:Coe Nat Value:=⟨fun b=>.pointer (some ⟨b,0,none⟩)⟩
instance:Coe Int Value:=⟨.int .i64⟩
instance:Coe ByteArray Value:=⟨.string⟩
abbrev BA:=ByteArray
theorem aE{a b c:World}(h:Below a a b)(h':Below b b c):Below a a c:=h.trans (h'.mono h.size)
theorem mR(a:Addr)(n:Nat):(a.add n).block=a.block:=by unfold Addr.add;split<;>rfl
theorem Ds(a:Addr)(i j:Nat):(a.add i).add j=a.add (i+j):=by unfold Addr.add;by_cases I:i=0<;>by_cases D:j=0<;>simp[I,D,Nat.add_assoc]
def aA(w:World)(B size:Nat)(A:Option Addr)(n:Nat)(xs:List Value):Prop:=
 xs.length=n*size/\(0<n->∃ad,A=some ad/\ad.block<B/\∀j u,xs[j]? = some u->w.cell? (ad.add j)=some u)
section
variable {w w':World} {B B' size n:Nat} {A:Option Addr} {xs:List Value}
theorem aA.none_:aA w B size A 0 []:=⟨by simp,fun h=>absurd h (by omega)⟩
theorem aA.at_{k:Nat}(h:aA w B 1 A n xs)(J:k<n):∃ad u,A=some ad/\ad.block<B/\xs[k]? = some u/\w.cell? (ad.add k)=some u:=by obtain⟨ad,e,hb,I⟩:=h.2 (by omega);(have D:k<xs.length:=by have:=h.1;omega);exact⟨ad,xs[k],e,hb,gO D,I k _ (gO D)⟩
theorem aA.keep(h:aA w B size A n xs)(I:∀p:Addr,p.block<B->w'.cell? p=w.cell? p):aA w' B size A n xs:=
 ⟨h.1,fun D=>by obtain⟨ad,e,hb,J⟩:=h.2 D;exact⟨ad,e,hb,fun j u hu=>(I _ (by rw[mR];exact hb)).trans (J j u hu)⟩⟩
theorem aA.more(h:aA w B size A n xs)(J:B<=B'):aA w B' size A n xs:=
 ⟨h.1,fun D=>by obtain⟨ad,e,hb,I⟩:=h.2 D;exact⟨ad,e,by omega,I⟩⟩
theorem aA.below(h:aA w B size A n xs)(hb:Below B w w'):aA w' B size A n xs:=h.keep fun _ hp=>hb.cell hp
theorem aA.drew(h:aA w B size A n xs):aA w.drew B size A n xs:=h
theorem aA.drewN(h:aA w B size A n xs)(k:Nat):aA (w.drewN k) B size A n xs:=h
theorem aA.alloc(h:aA w B size A n xs)(D:B<=w.heap.size)(o:Obj):aA (w.alloc o) B size A n xs:=h.keep fun p hp=>World.cell?_alloc_lt w o p (by omega)
theorem aA.setCell(h:aA w B size A n xs){p:Addr}(D:B<=p.block)(u:Value):aA (w.setCell p u) B size A n xs:=
 h.keep fun q hq=>World.cell?_setCell_other w p q u (fun e=>by subst e;omega)
theorem aA.grown(h:aA w B size A n xs){row:Option Nat}(I:w.grownBy w' row)(J:B<=w.heap.size)(D:∀g,row=some g->B<=g):aA w' B size A n xs:=
 h.keep fun p hp=>jM (I.block p.block (by omega) (fun e=>by have:=D _ e.symm;omega))
theorem aA.cut(h:aA w B size A n xs){k cap:Nat}(J:k<=n)(M:n<=cap):
  aA w B size (if cap=k then A else A.map (·.add (k*size))) (n-k) (xs.drop (k*size)):=by refine⟨by rw[jE,h.1,Nat.sub_mul],fun I=>?_⟩;obtain⟨ad,rfl,hb,D⟩:=h.2 (by omega);rw[gE (by omega)];refine⟨ad.add (k*size),rfl,by rw[mR];exact hb,fun j u hu=>?_⟩;rw[Ds];exact D _ u (by rw[<-hu,vT])
theorem aA.of_own{base:Nat}{e:TypeId}{c:Nat}(h:w.ownsRow base e size (.slice A n c) n xs):aA w w.heap.size size A n xs:=by refine⟨h.1,fun J=>?_⟩;obtain⟨g,cap,I,_,D⟩:=h.form J;(have M:A=some ⟨g,0,none⟩:=by injection I);subst M;exact⟨_,rfl,D,h.cells (g:=g) rfl⟩
end
def aa(w:World)(g:Nat)(t:TypeId)(cs:Array Value):Prop:=w.heap[g]? = some (.cells cs t (0,0))
section
variable {w w':World} {g:Nat} {t:TypeId} {cs:Array Value}
theorem aa.lt(h:aa w g t cs):g<w.heap.size:=by
 rcases kN g w.heap.size with D|hge
 ·exact D
 ·unfold aa at h;rw[kH hge]at h;cases h
theorem aa.cell(h:aa w g t cs)(i:Nat):w.cell? ⟨g,i,none⟩=cs[i]? :=cell_of_row w g i cs t (0,0) h
theorem aa.frozen(h:aa w g t cs)(i:Nat):w.frozen? ⟨g,i,none⟩=false:=by unfold aa at h;simp[World.frozen?,h]
theorem aa.new(w:World)(t:TypeId)(cs:Array Value):aa (w.alloc (.cells cs t)) w.heap.size t cs:=kJ w _
theorem aa.drew(h:aa w g t cs):aa w.drew g t cs:=h
theorem aa.drewN(h:aa w g t cs)(n:Nat):aa (w.drewN n) g t cs:=h
theorem aa.alloc(h:aa w g t cs)(o:Obj):aa (w.alloc o) g t cs:=(gS w o g h.lt).trans h
theorem aa.set_(h:aa w g t cs)(i:Nat)(u:Value):aa (w.setCell ⟨g,i,none⟩ u) g t (cs.setIfInBounds i u):=by unfold aa at h |-;simp[World.setCell,Array.getElem?_modify,h]
theorem aa.far(h:aa w g t cs){p:Addr}(D:g≠p.block)(u:Value):aa (w.setCell p u) g t cs:=(gF w p u g D).trans h
theorem aa.below{B:Nat}(h:aa w g t cs)(hb:Below B w w')(D:g<B):aa w' g t cs:=(hb.block g D).trans h
theorem aa.bl(h:aa w g t cs)(hb:Below w w w'):aa w' g t cs:=h.below hb h.lt
theorem aa.grown{row:Option Nat}(h:aa w g t cs)(hb:w.grownBy w' row)(D:some g≠row:=by intro e;injection e with e;omega):aa w' g t cs:=(hb.block g h.lt D).trans h
end
section
variable {P:Program} (w:World)
theorem p9(base:Nat)(t ty e:TypeId)(i:TypeInfo)(size:Nat)(J:P.underlying t=some (.slice e))(M:P.info? e=some i)
  (v:Value)(n:Nat)(xs:List Value)(D:w.ownsRow base e size v n xs)(c:Nat):(Builtin.append_ #[t,t] ty #[v,.slice none 0 c]).run P w=.ok v w:=by
 rcases D.2 with⟨rfl,rfl⟩|⟨g,cap,cur,rfl,_,_,I,_⟩
 ·simp[Builtin.append_,run_underlying J,sizeOf,typeInfo,M,Builtin.lenOf,Builtin.firstCells]
 ·simp[Builtin.append_,run_underlying J,sizeOf,typeInfo,M,Builtin.lenOf,Builtin.firstCells,I,storeCells]
theorem nT(base:Nat)(t ty e:TypeId)(i:TypeInfo)(z:Value)(size bytes:Nat)(ht:P.underlying t=some (.slice e))(hi:P.info? e=some i)(hz:i.zero=some z)
  (M:i.size=size)(gd:i.bytes=bytes)(ga:z.cells.size=size)(gb:0<size)
  (v:Value)(n:Nat)(xs:List Value)(D:w.ownsRow base e size v n xs)
  (B:Nat)(A:Option Addr)(m c:Nat)(news:List Value)(y:aA w B size A m news)(h1:∀u∈news,u.oneCell'=true)
  (ge:n+m<=maxLen)(J:(n+m)*bytes<=140737488355328)(O:base<=w.heap.size):
  ∃ v' w',(Builtin.append_ #[t,t] ty #[v,.slice A m c]).run P w=.ok v' w'/\w'.ownsRow base e size v' (n+m) (xs++news)/\w.grownBy w' v.ownBlock /\
    (v'.ownBlock=v.ownBlock\/v'.ownBlock=some w.heap.size):=by
 rcases A with _|ad
 ·have hm:m=0:=by
   rcases qH m with q|q
   ·exact q
   ·obtain⟨ad,h,_⟩:=y.2 q;cases h
  subst hm;have hn:news=[]:=jI (by simpa using y.1);subst hn;exact⟨v,w,p9 w base t ty e i size ht hi v n xs D c,by simpa using D,vU w _,.inl rfl⟩
 ·have I:∀j u,news[j]? = some u->w.cell? (ad.add j)=some u:=by
   intro j u hu;rcases qH m with q|q
   ·subst q;have hn:news=[]:=jI (by simpa using y.1);subst hn;simp at hu
   ·obtain⟨ad',h,_,hc⟩:=y.2 q;injection h with h;subst h;exact hc j u hu
  obtain⟨v',w',x,h2,h3,_,h5⟩:=run_append_own_at (P:=P) w base t ty e i z size bytes ht hi hz M gd ga gb v n xs D ad m c news y.1 I h1 ge J O;exact⟨v',w',x,h2,h3,h5⟩
theorem pa{o:Oper}{a:Act}{K:Act->World->Prop}{Q:Exit->Act->World->Prop}(s x:Operand)(t:TypeId)
  (ho:o.op=.call { callee:=.builtin .append,args:=#[s,x],argTypes:=#[t,t] })
  (base:Nat)(e:TypeId)(i:TypeInfo)(z:Value)(size bytes:Nat)(ht:P.underlying t=some (.slice e))(hi:P.info? e=some i)(hz:i.zero=some z)
  (I:i.size=size)(ga:i.bytes=bytes)(q:z.cells.size=size)(y:0<size)
  (v:Value)(n:Nat)(xs:List Value)(hs:a.eval s=v)(O:w.ownsRow base e size v n xs)
  (B:Nat)(A:Option Addr)(m c:Nat)(news:List Value)(hx:a.eval x=.slice A m c)(hr:aA w B size A m news)(h1:∀u∈news,u.oneCell'=true)
  (gb:n+m<=maxLen)(D:(n+m)*bytes<=140737488355328)(J:base<=w.heap.size)
  (h:∀v' w',w'.ownsRow base e size v' (n+m) (xs++news)->w.grownBy w' v.ownBlock->(v'.ownBlock=v.ownBlock\/v'.ownBlock=some w.heap.size)->K (a.put o.dst v') w'):o.wp P a w K Q:=by obtain⟨v',w',M,h2,h3,h4⟩:=nT (P:=P) w base t o.type e i z size bytes ht hi hz I ga q y v n xs O B A m c news hr h1 gb D J;unfold Oper.wp execOp;simp only[ho,resolve,invoke,builtin,Sem.run_bind,xp,xb,List.map_toArray,vX,List.map_nil,hs,hx,M];exact h v' w' h2 h3 h4
theorem du{ops:Array Oper}{rest:List Oper}{o:Oper}{a:Act}{Q:Exit->Act->World->Prop}(y:o.guard=none)(s x:Operand)(t:TypeId)
  (ho:o.op=.call { callee:=.builtin .append,args:=#[s,x],argTypes:=#[t,t] })
  (base:Nat)(e:TypeId)(i:TypeInfo)(z:Value)(size bytes:Nat)(ht:P.underlying t=some (.slice e))(hi:P.info? e=some i)(hz:i.zero=some z)
  (I:i.size=size)(ga:i.bytes=bytes)(O:z.cells.size=size)(q:0<size)
  (v:Value)(n:Nat)(xs:List Value)(hs:a.eval s=v)(M:w.ownsRow base e size v n xs)
  (B:Nat)(A:Option Addr)(m c:Nat)(news:List Value)(hx:a.eval x=.slice A m c)(hr:aA w B size A m news)(h1:∀u∈news,u.oneCell'=true)
  (gb:n+m<=maxLen)(D:(n+m)*bytes<=140737488355328)(J:base<=w.heap.size)
  (h:∀v' w',w'.ownsRow base e size v' (n+m) (xs++news)->w.grownBy w' v.ownBlock->(v'.ownBlock=v.ownBlock\/v'.ownBlock=some w.heap.size)->wpList P ops Q rest (a.put o.dst v') w'):wpList P ops Q (o::rest) a w:=
 vJ y fun _ hK=>pa w s x t ho base e i z size bytes ht hi hz I ga O q v n xs hs M B A m c news hx hr h1 gb D J fun v' w' h2 h3 h4=>hK _ _ (h v' w' h2 h3 h4)
theorem dt{ops:Array Oper}{o:Oper}{a:Act}{K:Act->World->Prop}{Q:Exit->Act->World->Prop}{E:Prop}(y:o.guard=none)(s x:Operand)(t:TypeId)
  (ho:o.op=.call { callee:=.builtin .append,args:=#[s,x],argTypes:=#[t,t] })
  (base:Nat)(e:TypeId)(i:TypeInfo)(z:Value)(size bytes:Nat)(ht:P.underlying t=some (.slice e))(hi:P.info? e=some i)(hz:i.zero=some z)
  (I:i.size=size)(ga:i.bytes=bytes)(O:z.cells.size=size)(q:0<size)
  (v:Value)(n:Nat)(xs:List Value)(hs:a.eval s=v)(M:w.ownsRow base e size v n xs)
  (B:Nat)(A:Option Addr)(m c:Nat)(news:List Value)(hx:a.eval x=.slice A m c)(hr:aA w B size A m news)(h1:∀u∈news,u.oneCell'=true)
  (gb:n+m<=maxLen)(D:(n+m)*bytes<=140737488355328)(J:base<=w.heap.size)
  (h:∀v' w',w'.ownsRow base e size v' (n+m) (xs++news)->w.grownBy w' v.ownBlock->(v'.ownBlock=v.ownBlock\/v'.ownBlock=some w.heap.size)->K (a.put o.dst v') w'):
  if Region.wanted o (yielded ops a.tmps)=true then Oper.wp P o a w K Q else E:=by(have hw:Region.wanted o (yielded ops a.tmps)=true:=by simp[Region.wanted,y]);rw[gL hw];exact pa w s x t ho base e i z size bytes ht hi hz I ga O q v n xs hs M B A m c news hx hr h1 gb D J h
end
section
variable {α:Type} {enc:α->List Value} {sz:Nat}
theorem iF(D:∀x,(enc x).length=sz)(xs:List α):(xs.flatMap enc).length=xs.length*sz:=by
 induction xs with
 |nil=>simp
 |cons x xs ih=>simp[List.flatMap_cons,ih,D,Nat.add_mul,Nat.add_comm]
theorem eB(D:∀x,(enc x).length=sz):∀(xs:List α)(i j:Nat)(h:i<xs.length),j<sz->(xs.flatMap enc)[i*sz+j]? = (enc xs[i])[j]?
 |[],i,j,h,_=>by simp at h
 |x::xs,0,j,_,I=>by rw[qR,List.getElem?_append_left (by rw[D];omega)];simp
 | x::xs,i+1,j,h,I=>by
  (have h':i<xs.length:=by simpa using h);rw[qR,vd (by rw[D,vS];omega),D,vS,xr,
   show i*sz+sz+j-sz=i*sz+j by omega,eB D xs i j h' I]
  simp
theorem mS{w:World}{a:Addr}{v:Value}(h:w.cell? a=some v):a=⟨a.block,a.off,none⟩:=by
 obtain⟨b,o,s⟩:=a;cases s with
 |none=>rfl
 |some s=>unfold World.cell? at h;simp at h;split at h<;>simp at h
theorem iU(b o i:Nat):(⟨b,o,none⟩:Addr).add i=⟨b,o+i,none⟩:=by
 unfold Addr.add;split
 ·rename_i h;subst h;rfl
 ·rfl
theorem ft(w:World)(b o:Nat)(v:Value):w.grownBy (w.setCell ⟨b,o,none⟩ v) (some b):=
 ⟨rfl,rfl,rfl,by simp[World.setCell],fun k _ hne=>gF w ⟨b,o,none⟩ v k (fun e=>hne (by rw[e]))⟩
theorem pb{w w':World}{b B:Nat}(h:w.grownBy w' (some b))(hb:B<=b)(D:B<=w.heap.size):Below B w w':=
 ⟨h.os,h.tape,h.output,h.size,fun k hk=>h.block k (by omega) (fun e=>by injection e with e;omega)⟩
theorem ac{w w':World}(r:Option Nat)(h:Below w w w'):w.grownBy w' r:=⟨h.os,h.tape,h.output,h.size,fun k hk _=>h.block k hk⟩
theorem aa.new_at{w:World}{n:Nat}(h:w.heap.size=n)(t:TypeId)(cs:Array Value):aa (w.alloc (.cells cs t)) n t cs:=by subst h;exact aa.new w t cs
theorem aA.el{w:World}{B n:Nat}{A:Option Addr}{xs:List α}(h:aA w B sz A n (xs.flatMap enc))(O:∀x,(enc x).length=sz)(h0:0<sz)(hn:xs.length=n){i:Nat}(hi:i<n):
  ∃b off,A=some ⟨b,off,none⟩/\b<B/\∀k(J:k<xs.length)j u,(enc xs[k])[j]? = some u->w.cell? ⟨b,off+k*sz+j,none⟩=some u:=by obtain⟨ad,hA,hb,z⟩:=h.2 (by omega);(have key:∀k(J:k<xs.length)j u,(enc xs[k])[j]? = some u->w.cell? (ad.add (k*sz+j))=some u:=by intro k J j u I;(have y:j<sz:=by have:=(List.getElem?_eq_some_iff.1 I).1;rw[O]at this;exact this);exact z _ u (by rw[eB O xs k j J y];exact I));have q:∃u,(enc (xs[0]'(by omega)))[0]? = some u:=⟨(enc (xs[0]'(by omega)))[0]'(by rw[O];exact h0),gO _⟩;obtain⟨u,I⟩:=q;have D:=key 0 (by omega) 0 u I;rw[show 0*sz+0=0 by omega,show ad.add 0=ad from rfl]at D;have D:=mS D;obtain⟨b,o,s⟩:=ad;(have M:s=none:=by simpa using D);subst M;refine⟨b,o,hA,hb,fun k J j u I=>?_⟩;have:=key k J j u I;rw[iU,<-Nat.add_assoc]at this;exact this
theorem cc{w:World}{g n B size:Nat}{t:TypeId}{fr:Nat×Nat}{cs:List Value}(h:w.heap[g]? = some (.cells cs.toArray t fr))(D:cs.length=n*size)(I:g<B):aA w B size (some ⟨g,0,none⟩) n cs:=
 ⟨D,fun _=>⟨_,rfl,I,fun j u hu=>qQ h j u (by simpa using hu)⟩⟩
theorem nU{w:World}{n:Nat}(h:w.heap.size=n)(o:Obj):(w.alloc o).heap[n]? = some o:=by subst h;exact kJ w o
theorem sk{w:World}{n:Nat}{o:Obj}(h:w.heap[n]? = some o)(o':Obj):(w.alloc o').heap[n]? = some o:=
 (gS w o' n (Array.getElem?_eq_some_iff.1 h).1).trans h
theorem aA.len{w:World}{B n:Nat}{A:Option Addr}{xs:List α}(h:aA w B sz A n (xs.flatMap enc))(D:∀x,(enc x).length=sz)(I:0<sz):xs.length=n:=by have:=h.1;rw[iF D]at this;exact Nat.eq_of_mul_eq_mul_right I this
end
inductive Nd where
 |mk (kind:Int) (text:ByteArray) (kids:List Nd) (pos:Int)
namespace Nd
def kind:Nd->Int| .mk k _ _ _=>k
def text:Nd->ByteArray| .mk _ t _ _=>t
def kids:Nd->List Nd| .mk _ _ l _=>l
def pos:Nd->Int| .mk _ _ _ a=>a
@[simp] theorem kind_mk (k t l a):(Nd.mk k t l a).kind=k:=rfl
@[simp] theorem text_mk (k t l a):(Nd.mk k t l a).text=t:=rfl
@[simp] theorem kids_mk (k t l a):(Nd.mk k t l a).kids=l:=rfl
@[simp] theorem pos_mk (k t l a):(Nd.mk k t l a).pos=a:=rfl
end Nd
def cj:Nd:=.mk 0 ⟨#[]⟩ [] 0
theorem cH(w:World)(c:Array Value):Below w w (w.alloc (.cells c 41))/\aa (w.alloc (.cells c 41)) w.heap.size 41 c:=⟨(Below.refl w.heap.size w).alloc (Nat.le_refl _) _,aa.new w _ _⟩
def bK(X:Nat->Prop)(w:World)(size:Nat)(A:Option Addr)(n:Nat)(xs:List Value):Prop:=
 xs.length=n*size/\(0<n->∃b off,A=some ⟨b,off,none⟩/\X b/\∀j u,xs[j]? = some u->w.cell? ⟨b,off+j,none⟩=some u)
mutual
def aY(X:Nat->Prop)(w:World):Nd->List Value->Prop
 | .mk k t l a,cs=>∃A cap xs,cs=[.int .i64 k,.string t,.slice A l.length cap,.int .i64 a]/\l.length<=cap/\bK X w 4 A l.length xs/\ae X w l xs
def ae(X:Nat->Prop)(w:World):List Nd->List Value->Prop
 |[],xs=>xs=[]
 |n::l,xs=>∃ys zs,xs=ys++zs/\aY X w n ys/\ae X w l zs
end
section
variable {X Y:Nat->Prop} {w w':World}
theorem bK.mono{size n:Nat}{A:Option Addr}{xs:List Value}(D:∀b,X b->b<w.heap.size->Y b)(h:bK X w size A n xs)(M:0<size):bK Y w size A n xs:=
 ⟨h.1,fun I=>by obtain⟨b,off,e,hb,J⟩:=h.2 I;(have O:0<xs.length:=by rw[h.1];exact Nat.mul_pos I M);have q:=J 0 xs[0] (List.getElem?_eq_getElem O);exact⟨b,off,e,D b hb (World.block_lt_of_cell? w _ q),J⟩⟩
theorem bK.keep{size n:Nat}{A:Option Addr}{xs:List Value}(M:∀b,X b->b<w.heap.size->w'.heap[b]? = w.heap[b]?)(h:bK X w size A n xs):bK X w' size A n xs:=
 ⟨h.1,fun J=>by obtain⟨b,off,e,hb,O⟩:=h.2 J;refine⟨b,off,e,hb,fun j u hu=>?_⟩;have I:=O j u hu;have D:=World.block_lt_of_cell? w _ I;exact(World.cell?_of_block (a:=⟨b,off+j,none⟩) (M b hb D)).trans I⟩
mutual
theorem aY.mono(D:∀b,X b->b<w.heap.size->Y b):∀(n:Nd)(cs:List Value),aY X w n cs->aY Y w n cs
 | .mk k t l a,cs,h=>by unfold aY at h |-;obtain⟨A,cap,xs,e,M,I,J⟩:=h;exact⟨A,cap,xs,e,M,I.mono D (by omega),ae.mono D l xs J⟩
theorem ae.mono(D:∀b,X b->b<w.heap.size->Y b):∀(l:List Nd)(xs:List Value),ae X w l xs->ae Y w l xs
 |[],xs,h=>by unfold ae at h |-;exact h
 |n::l,xs,h=>by unfold ae at h |-;obtain⟨ys,zs,e,J,I⟩:=h;exact⟨ys,zs,e,aY.mono D n ys J,ae.mono D l zs I⟩
end
mutual
theorem aY.keep(D:∀b,X b->b<w.heap.size->w'.heap[b]? = w.heap[b]?):∀(n:Nd)(cs:List Value),aY X w n cs->aY X w' n cs
 | .mk k t l a,cs,h=>by unfold aY at h |-;obtain⟨A,cap,xs,e,M,I,J⟩:=h;exact⟨A,cap,xs,e,M,I.keep D,ae.keep D l xs J⟩
theorem ae.keep(D:∀b,X b->b<w.heap.size->w'.heap[b]? = w.heap[b]?):∀(l:List Nd)(xs:List Value),ae X w l xs->ae X w' l xs
 |[],xs,h=>by unfold ae at h |-;exact h
 |n::l,xs,h=>by unfold ae at h |-;obtain⟨ys,zs,e,J,I⟩:=h;exact⟨ys,zs,e,aY.keep D n ys J,ae.keep D l zs I⟩
end
theorem aY.len{n:Nd}{cs:List Value}(h:aY X w n cs):cs.length=4:=by cases n;unfold aY at h;obtain⟨A,cap,xs,e,_⟩:=h;simp[e]
theorem ae.len:∀{l:List Nd}{xs:List Value},ae X w l xs->xs.length=l.length*4
 |[],xs,h=>by unfold ae at h;simp[h]
 |n::l,xs,h=>by unfold ae at h;obtain⟨ys,zs,rfl,I,D⟩:=h;rw[List.length_append,I.len,D.len,List.length_cons];omega
theorem ae.nil:ae X w [] []:=by unfold ae;rfl
theorem ae.cons{n:Nd}{l:List Nd}{ys zs:List Value}(I:aY X w n ys)(D:ae X w l zs):ae X w (n::l) (ys++zs):=by unfold ae;exact⟨ys,zs,rfl,I,D⟩
theorem ae.one{n:Nd}{ys:List Value}(D:aY X w n ys):ae X w [n] ys:=by
 have:=ae.cons D (ae.nil (X:=X) (w:=w))
 rwa [List.append_nil]at this
theorem ae.app:∀{l m:List Nd}{xs ys:List Value},ae X w l xs->ae X w m ys->ae X w (l++m) (xs++ys)
 |[],m,xs,ys,D,I=>by unfold ae at D;subst D;exact I
 |n::l,m,xs,ys,D,I=>by unfold ae at D;obtain⟨us,bs,rfl,M,J⟩:=D;rw[List.append_assoc];exact ae.cons M (ae.app J I)
theorem ae.get:∀{l:List Nd}{xs:List Value}(i:Nat)(D:i<l.length),ae X w l xs->∃ys,aY X w l[i] ys/\(∀j,j<4->xs[i*4+j]? = ys[j]?)
 |[],xs,i,D,h=>absurd D (by simp)
 |n::l,xs,0,D,h=>by unfold ae at h;obtain⟨ys,zs,rfl,I,J⟩:=h;refine⟨ys,I,fun j hj=>?_⟩;rw[List.getElem?_append_left (by rw[I.len];omega)];simp
 |n::l,xs,i+1,D,h=>by unfold ae at h;obtain⟨ys,zs,rfl,I,J⟩:=h;obtain⟨us,O,M⟩:=ae.get i (by simpa using D) J;refine⟨us,O,fun j hj=>?_⟩;rw[List.getElem?_append_right (by rw[I.len];omega),I.len,show(i+1)*4+j-4=i*4+j by omega];exact M j hj
theorem ae.split:∀{l:List Nd}{xs:List Value}(k:Nat),ae X w l xs->ae X w (l.take k) (xs.take (k*4))/\ae X w (l.drop k) (xs.drop (k*4))
 |l,xs,0,h=>by simpa using⟨ae.nil,h⟩
 |[],xs,k+1,h=>by unfold ae at h;subst h;constructor<;>simpa using ae.nil
 |n::l,xs,k+1,h=>by unfold ae at h;obtain⟨ys,zs,rfl,D,M⟩:=h;obtain⟨J,I⟩:=ae.split k M;(have q:(ys++zs).take ((k+1)*4)=ys++zs.take (k*4):=by rw[List.take_append,D.len,List.take_of_length_le (by rw[D.len];omega),show(k+1)*4-4=k*4 by omega]);(have O:(ys++zs).drop ((k+1)*4)=zs.drop (k*4):=by rw[List.drop_append,D.len,List.drop_of_length_le (by rw[D.len];omega),show(k+1)*4-4=k*4 by omega,List.nil_append]);rw[q,O,List.take_succ_cons,List.drop_succ_cons];exact⟨ae.cons D J,I⟩
def aq(X:Nat->Prop)(w:World)(v:Value)(n:Nd):Prop:=
 ∃A cap xs,v=.agg #[n.kind,n.text,.slice A n.kids.length cap,n.pos]/\n.kids.length<=cap/\bK X w 4 A n.kids.length xs/\ae X w n.kids xs
theorem aq.toC{v:Value}{n:Nd}(h:aq X w v n):∃A cap,v=.agg #[n.kind,n.text,.slice A n.kids.length cap,n.pos]/\aY X w n [.int .i64 n.kind,.string n.text,.slice A n.kids.length cap,.int .i64 n.pos]:=by obtain⟨A,cap,xs,e,J,I,D⟩:=h;refine⟨A,cap,e,?_⟩;cases n;unfold aY;exact⟨A,cap,xs,rfl,J,I,D⟩
theorem aY.toV{n:Nd}{cs:List Value}(h:aY X w n cs):∃A cap xs,cs=[.int .i64 n.kind,.string n.text,.slice A n.kids.length cap,.int .i64 n.pos]/\n.kids.length<=cap/\bK X w 4 A n.kids.length xs/\ae X w n.kids xs:=by cases n;unfold aY at h;exact h
theorem aq.mono{v:Value}{n:Nd}(D:∀b,X b->b<w.heap.size->Y b)(h:aq X w v n):aq Y w v n:=by obtain⟨A,cap,xs,e,M,J,I⟩:=h;exact⟨A,cap,xs,e,M,J.mono D (by omega),I.mono D⟩
theorem aq.keep{v:Value}{n:Nd}(D:∀b,X b->b<w.heap.size->w'.heap[b]? = w.heap[b]?)(h:aq X w v n):aq X w' v n:=by obtain⟨A,cap,xs,e,M,J,I⟩:=h;exact⟨A,cap,xs,e,M,J.keep D,I.keep D⟩
theorem aq.zero:aq X w (.agg #[.int .i64 0,.string ⟨#[]⟩,.slice none 0 0,.int .i64 0]) cj:=
 ⟨none,0,[],rfl,Nat.le_refl _,⟨rfl,fun h=>absurd h (by simp[cj])⟩,ae.nil⟩
end
abbrev nv(n:Nd)(A:Option Addr)(c:Nat):Array Value:=#[n.kind,n.text,.slice A n.kids.length c,n.pos]
structure Wd(S:World->Prop)where
 wd:World
 ok:S wd
theorem fh{P:Program}(S:World->Prop){id:Nat}{Q:Exit->Act->World->Prop}{a:Act}{w:World}{l:List Oper}(D:P.follows .mixedOrders=true)(I:Region.lexB .any l.toArray=true)(J:S w.drew)
  (h:wpQuiet P l.toArray (fun w'=>∃n:Wd S,w'=n.wd) (fun a'=>∀n:Wd S,Q .normal a' n.wd) l a):(Code.region id l.toArray true).wp P Q a w:=
 wp_region_quiet (C:=fun w'=>∃n:Wd S,w'=n.wd) D I ⟨⟨w.drew,J⟩,rfl⟩ (by(have e:(fun a'=>∀w',(∃n:Wd S,w'=n.wd)->Q .normal a' w')=fun a'=>∀n:Wd S,Q .normal a' n.wd:=by funext a';exact propext ⟨fun h n=>h _ ⟨n,rfl⟩,fun h w'⟨n,e⟩=>e▸h n⟩);rw[e];simpa using h)
instance(w:World):Nonempty (Wd (Below w w)):=⟨⟨w,Below.refl _ _⟩⟩
theorem ei(W:World){P:Program}{id:Nat}{Q:Exit->Act->World->Prop}{a:Act}{l:List Oper}
 (h:wpQuiet P l.toArray (fun w'=>∃n:Wd (Below W W),w'=n.wd) (fun a'=>∀n:Wd (Below W W),Q .normal a' n.wd) l a)(D:P.follows .mixedOrders=true:=by kernel_rfl)(I:Region.lexB .any l.toArray=true:=by kernel_rfl):
 (Code.region id l.toArray true).wp P Q a W:=fh (Below W W) D I (Below.refl _ _).drew h
theorem PI{P:Program}{W:World}{f:FuncId}{args:Array Value}{v:Ending}(h:∀m:Wd (Below W W),Calls P f args m.wd fun e w'=>e=v/\Below m.wd.heap.size m.wd w')(m:Wd (Below W W)):Calls P f args m.wd fun e w'=>e=v/\∃m':Wd (Below W W),w'=m'.wd:=
 (h m).mono (fun _ w'⟨D,hb⟩=>⟨D,⟨w',aE m.ok hb⟩,rfl⟩)
inductive Tx where
 |mk (op tag:ByteArray) (kids:List Tx)
namespace Tx
def op:Tx->ByteArray| .mk o _ _=>o
def tag:Tx->ByteArray| .mk _ t _=>t
def kids:Tx->List Tx| .mk _ _ l=>l
@[simp] theorem op_mk (o t l):(Tx.mk o t l).op=o:=rfl
@[simp] theorem tag_mk (o t l):(Tx.mk o t l).tag=t:=rfl
@[simp] theorem kids_mk (o t l):(Tx.mk o t l).kids=l:=rfl
end Tx
def si:Tx:=.mk ⟨#[]⟩ ⟨#[]⟩ []
mutual
def tL(X:Nat->Prop)(w:World):Tx->List Value->Prop
 | .mk o t l,cs=>∃A cap xs,cs=[.string o,.string t,.slice A l.length cap]/\l.length<=cap/\bK X w 3 A l.length xs/\bE X w l xs
def bE(X:Nat->Prop)(w:World):List Tx->List Value->Prop
 |[],xs=>xs=[]
 |n::l,xs=>∃ys zs,xs=ys++zs/\tL X w n ys/\bE X w l zs
end
section
variable {X Y:Nat->Prop} {w w':World}
mutual
theorem tL.mono(D:∀b,X b->b<w.heap.size->Y b):∀(n:Tx)(cs:List Value),tL X w n cs->tL Y w n cs
 | .mk o t l,cs,h=>by unfold tL at h |-;obtain⟨A,cap,xs,e,M,I,J⟩:=h;exact⟨A,cap,xs,e,M,I.mono D (by omega),bE.mono D l xs J⟩
theorem bE.mono(D:∀b,X b->b<w.heap.size->Y b):∀(l:List Tx)(xs:List Value),bE X w l xs->bE Y w l xs
 |[],xs,h=>by unfold bE at h |-;exact h
 |n::l,xs,h=>by unfold bE at h |-;obtain⟨ys,zs,e,J,I⟩:=h;exact⟨ys,zs,e,tL.mono D n ys J,bE.mono D l zs I⟩
end
mutual
theorem tL.keep(D:∀b,X b->b<w.heap.size->w'.heap[b]? = w.heap[b]?):∀(n:Tx)(cs:List Value),tL X w n cs->tL X w' n cs
 | .mk o t l,cs,h=>by unfold tL at h |-;obtain⟨A,cap,xs,e,M,I,J⟩:=h;exact⟨A,cap,xs,e,M,I.keep D,bE.keep D l xs J⟩
theorem bE.keep(D:∀b,X b->b<w.heap.size->w'.heap[b]? = w.heap[b]?):∀(l:List Tx)(xs:List Value),bE X w l xs->bE X w' l xs
 |[],xs,h=>by unfold bE at h |-;exact h
 |n::l,xs,h=>by unfold bE at h |-;obtain⟨ys,zs,e,J,I⟩:=h;exact⟨ys,zs,e,tL.keep D n ys J,bE.keep D l zs I⟩
end
theorem tL.len{n:Tx}{cs:List Value}(h:tL X w n cs):cs.length=3:=by cases n;unfold tL at h;obtain⟨A,cap,xs,e,_⟩:=h;simp[e]
theorem bE.len:∀{l:List Tx}{xs:List Value},bE X w l xs->xs.length=l.length*3
 |[],xs,h=>by unfold bE at h;simp[h]
 |n::l,xs,h=>by unfold bE at h;obtain⟨ys,zs,rfl,I,D⟩:=h;rw[List.length_append,I.len,D.len,List.length_cons];omega
theorem bE.nil:bE X w [] []:=by unfold bE;rfl
theorem bE.cons{n:Tx}{l:List Tx}{ys zs:List Value}(I:tL X w n ys)(D:bE X w l zs):bE X w (n::l) (ys++zs):=by unfold bE;exact⟨ys,zs,rfl,I,D⟩
theorem bE.one{n:Tx}{ys:List Value}(D:tL X w n ys):bE X w [n] ys:=by
 have:=bE.cons D (bE.nil (X:=X) (w:=w))
 rwa [List.append_nil]at this
theorem bE.app:∀{l m:List Tx}{xs ys:List Value},bE X w l xs->bE X w m ys->bE X w (l++m) (xs++ys)
 |[],m,xs,ys,D,I=>by unfold bE at D;subst D;exact I
 |n::l,m,xs,ys,D,I=>by unfold bE at D;obtain⟨us,bs,rfl,M,J⟩:=D;rw[List.append_assoc];exact bE.cons M (bE.app J I)
theorem bE.get:∀{l:List Tx}{xs:List Value}(i:Nat)(D:i<l.length),bE X w l xs->∃ys,tL X w l[i] ys/\(∀j,j<3->xs[i*3+j]? = ys[j]?)
 |[],xs,i,D,h=>absurd D (by simp)
 |n::l,xs,0,D,h=>by unfold bE at h;obtain⟨ys,zs,rfl,I,J⟩:=h;refine⟨ys,I,fun j hj=>?_⟩;rw[List.getElem?_append_left (by rw[I.len];omega)];simp
 |n::l,xs,i+1,D,h=>by unfold bE at h;obtain⟨ys,zs,rfl,I,J⟩:=h;obtain⟨us,O,M⟩:=bE.get i (by simpa using D) J;refine⟨us,O,fun j hj=>?_⟩;rw[List.getElem?_append_right (by rw[I.len];omega),I.len,show(i+1)*3+j-3=i*3+j by omega];exact M j hj
theorem bE.split:∀{l:List Tx}{xs:List Value}(k:Nat),bE X w l xs->bE X w (l.take k) (xs.take (k*3))/\bE X w (l.drop k) (xs.drop (k*3))
 |l,xs,0,h=>by simpa using⟨bE.nil,h⟩
 |[],xs,k+1,h=>by unfold bE at h;subst h;constructor<;>simpa using bE.nil
 |n::l,xs,k+1,h=>by unfold bE at h;obtain⟨ys,zs,rfl,D,M⟩:=h;obtain⟨J,I⟩:=bE.split k M;(have q:(ys++zs).take ((k+1)*3)=ys++zs.take (k*3):=by rw[List.take_append,D.len,List.take_of_length_le (by rw[D.len];omega),show(k+1)*3-3=k*3 by omega]);(have O:(ys++zs).drop ((k+1)*3)=zs.drop (k*3):=by rw[List.drop_append,D.len,List.drop_of_length_le (by rw[D.len];omega),show(k+1)*3-3=k*3 by omega,List.nil_append]);rw[q,O,List.take_succ_cons,List.drop_succ_cons];exact⟨bE.cons D J,I⟩
def ni(X:Nat->Prop)(w:World)(v:Value)(n:Tx):Prop:=
 ∃A cap xs,v=.agg #[.string n.op,.string n.tag,.slice A n.kids.length cap]/\n.kids.length<=cap/\bK X w 3 A n.kids.length xs/\bE X w n.kids xs
theorem ni.toC{v:Value}{n:Tx}(h:ni X w v n):∃A cap,v=.agg #[.string n.op,.string n.tag,.slice A n.kids.length cap]/\tL X w n [.string n.op,.string n.tag,.slice A n.kids.length cap]:=by obtain⟨A,cap,xs,e,J,I,D⟩:=h;refine⟨A,cap,e,?_⟩;cases n;unfold tL;exact⟨A,cap,xs,rfl,J,I,D⟩
theorem tL.toV{n:Tx}{cs:List Value}(h:tL X w n cs):∃A cap xs,cs=[.string n.op,.string n.tag,.slice A n.kids.length cap]/\n.kids.length<=cap/\bK X w 3 A n.kids.length xs/\bE X w n.kids xs:=by cases n;unfold tL at h;exact h
theorem ni.mono{v:Value}{n:Tx}(D:∀b,X b->b<w.heap.size->Y b)(h:ni X w v n):ni Y w v n:=by obtain⟨A,cap,xs,e,M,J,I⟩:=h;exact⟨A,cap,xs,e,M,J.mono D (by omega),I.mono D⟩
theorem ni.keep{v:Value}{n:Tx}(D:∀b,X b->b<w.heap.size->w'.heap[b]? = w.heap[b]?)(h:ni X w v n):ni X w' v n:=by obtain⟨A,cap,xs,e,M,J,I⟩:=h;exact⟨A,cap,xs,e,M,J.keep D,I.keep D⟩
theorem ni.zero:ni X w (.agg #[.string ⟨#[]⟩,.string ⟨#[]⟩,.slice none 0 0]) si:=
 ⟨none,0,[],rfl,Nat.le_refl _,⟨rfl,fun h=>absurd h (by simp[si])⟩,bE.nil⟩
end
end
section
open Go.RowKit Go.ChangeShapes Go.WideShapes Go.Deep
section
variable {H:Type} {enc:TypeId×Value->H} {P:Program} {w:World} {base:Nat} {spare:Nat->Bool} {held:Bool}
theorem ra{t e:TypeId}{fs:Array Field}{fuel:Nat}{cs:List Value}{x:DataW H×List MemPlace}(ht:P.underlying t=some (.slice e))(he:P.underlying e=some (.struct fs))
  (O:oneCellFields P fs=true)(hC:P.cellsOf e=fs.size)(h:DataW.trod enc P w base spare held fuel t cs=some x):
  (cs=[.slice none 0 0]/\x=(.nil,[])) \/
  ∃ (a:Addr)(len cap m:Nat)(D:Nat->DataW H)(Pl:Nat->List MemPlace),cs=[.slice (some a) len cap]/\base<=a.block/\len<=cap/\cap<=maxLen/\m=(if spare a.block then cap else len) /\
    x=(.slice ((List.range len).map D) ((List.range (m-len)).map fun j=>D (len+j)),MemPlace.row a (m*fs.size)++(List.range m).flatMap Pl) /\
    ∀ i,i<m->∃(ys:List (DataW H×List MemPlace))(n:Nat),D i=.agg (ys.map (·.1))/\Pl i=ys.flatMap (·.2)/\ys.length=fs.size /\
      ∀(j:Nat)(f:Field),fs[j]? = some f->∃(v:Value)(y:DataW H×List MemPlace),w.cell? (a.add (i*fs.size+j))=some v/\ys[j]? = some y/\DataW.trod enc P w base spare held n f.type [v]=some y:=by
 rcases open_slice ht h with h0|⟨a,len,cap,m,n,D,Pl,ge,hb,hl,hm,gb,hx,hi⟩
 ·exact .inl h0
 ·refine .inr ⟨a,len,cap,m,D,Pl,ge,hb,hl,hm,gb,by rw[hC]at hx;exact hx,fun i him=>?_⟩;obtain⟨cs',hc,ga⟩:=hi i him;rw[hC]at hc;obtain⟨ys,n',gi,z,gh,q,hf⟩:=DataW.trod_struct he ga;obtain⟨_,gj,gg⟩:=World.cells?_some hc;simp only[Prod.mk.injEq]at z;refine⟨ys,n',z.1,z.2,q,fun j f hj=>?_⟩;obtain⟨ho,hk⟩:=hone_of O j f hj;have gd:j<fs.size:=(Array.getElem?_eq_some_iff.1 hj).1;have J:=gg j gd;have hv:cs'[j]? = some (cs'[j]'(by omega)):=List.getElem?_eq_getElem (by omega);have h1:=hf j f hj;rw[ho,hk]at h1;(have I:(cs'.drop j).take 1=[cs'[j]'(by omega)]:=by rw[List.drop_eq_getElem_cons (by omega)];rfl);rw[I]at h1;have M:ys[j]? = some (ys[j]'(by omega)):=List.getElem?_eq_getElem (by omega);refine⟨_,_,?_,M,h1.trans M⟩;rw[<-Go.Deep.add_add,J,hv]
end
theorem nV{α:Type}{P:Nat->α->Prop}:∀n:Nat,(∀i,i<n->∃x,P i x)->∃l:List α,l.length=n/\∀i(h:i<l.length),P i l[i]
 |0,_=>⟨[],rfl,fun i h=>absurd h (by simp)⟩
 |n+1,h=>by
  obtain⟨l,D,J⟩:=nV n (fun i hi=>h i (by omega));obtain⟨x,I⟩:=h n (by omega);refine⟨l++[x],by simp[D],fun i hi=>?_⟩;by_cases e:i<l.length
  ·rw[List.getElem_append_left e];exact J i e
  ·(have:i=n:=by simp at hi;omega);subst this;rw[List.getElem_append_right (by omega)];simpa[D]using I
theorem nW{α:Type}{enc:α->List Value}{sz:Nat}{w:World}{a:Addr}{n:Nat}{l:List α}(I:∀x,(enc x).length=sz)(O:0<sz)(y:l.length=n)
  (M:∀i(h:i<l.length)j u,(enc l[i])[j]? = some u->w.cell? (a.add (i*sz+j))=some u):aA w w.heap.size sz (some a) n (l.flatMap enc):=by
 refine⟨by rw[iF I,y],fun J=>⟨a,rfl,?_,fun j u D=>?_⟩⟩
 ·(have hl:0<l.length:=by omega);have D:(enc l[0])[0]? = some ((enc l[0])[0]'(by rw[I];exact O)):=List.getElem?_eq_getElem _;have:=World.block_lt_of_cell? w _ (M 0 hl 0 _ D)
  rwa [mR]at this
 ·have hj:j<l.length*sz:=by
   have:=(List.getElem?_eq_some_iff.1 D).1
   rwa [iF I]at this
  have hb:j/sz<l.length:=Nat.div_lt_of_lt_mul (by rw[Nat.mul_comm];exact hj);have z:j%sz<sz:=Nat.mod_lt _ O;have e:=eB I l (j/sz) (j%sz) hb z;(have q:j/sz*sz+j%sz=j:=by rw[Nat.div_mul_self_eq_mod_sub_self,Nat.sub_add_cancel (Nat.mod_le j sz)]);rw[q]at e;have:=M (j/sz) hb (j%sz) u (by rw[<-e];exact D)
  rwa [q]at this
section
variable {H:Type} {P:Program}
end
end
section
open Go.ChangeShapes Go.WideShapes Go.ChangeAt Go.RowKit
theorem Mw:laidOutB prog=true:=by kernel_rfl
theorem own:ownKnob prog.godebug=none:=by kernel_rfl
section
variable {H:Type} {enc:TypeId×Value->H}
theorem pc{W W':World}(hb:Below W W W'):∀{ts:List TypeId}{vs:List Value}{ds:List (DataW H)}{ps:List MemPlace},(∀t∈ts,prog.readableRec t=true/\t<prog.types.size) ->
  DataW.TrodAll enc prog W 0 (fun _=>true) true ts vs ds ps->(∀x∈ps,x.block<W.heap.size)->DataW.TrodAll enc prog W' 0 (fun b=>decide (b<W.heap.size)) true ts vs ds ps
 |[],vs,ds,ps,_,h,_=>by obtain⟨rfl,rfl,rfl⟩:=trodAll_nil h;exact trodAll_mk0
 |t::ts,vs,ds,ps,I,h,J=>by obtain⟨v,vs',d,ds',p,q,rfl,rfl,rfl,O,M⟩:=trodAll_cons h;have D:=I t (by simp);exact trodAll_cons_mk (Below.trod Mw D.1 D.2 O hb (fun x hx=>J x (by simp[hx]))) (pc hb (fun t' ht'=>I t' (by simp[ht'])) M (fun x hx=>J x (by simp[hx])))
theorem GW{fn:Func}{s:ChangeSpec}{W W':World}{args:Array Value}{ds gs:List (DataW H)}{before:List MemPlace}{fresh handsOn:Bool}
  (z:DataW.Whole enc prog fn.params.toList s.vars false W args.toList ds gs before)(hv:s.vars=[])
  (J:(s.fn H (ds++[])).results=[.lit (.bool true)])(I:(s.fn H (ds++[])).args=ds)(D:(s.fn H (ds++[])).vars=[])
  (M:fn.resultTypes = #[4])(hr:∀t∈fn.params.toList,prog.readableRec t=true/\t<prog.types.size)(hb:Below W W W'):
  s.post enc prog fn false fresh handsOn false W args (.bool true) W':=by
 have O:=z.lt;have y:=z;obtain⟨p,q,hA,hV,rfl,gb,ga⟩:=z;rw[hv]at hV;obtain⟨rfl,rfl⟩:=trodVars_none hV;refine⟨ds,[],p++[],[],p,[],y,?_,?_,?_,hb.frame _,fun h=>by cases h⟩
 ·rw[J,M];exact trodAll_cons_mk (shut_bool underlying4 true) trodAll_mk0
 ·rw[I];exact pc hb hr hA (fun x hx=>O x (by simp[hx]))
 ·rw[hv,D];rfl
end
end
end Go.Proofs.YtcoiialmdncpfaaGreatDoor
namespace Go.Proofs
section
open Go.Shelf
def Tryz.laysDecode_ren:Go.Shelf.Ren:=⟨fun|32=>162|49=>226|n=>n,fun|30=>22|21=>21|3=>3|0=>0|5=>5|4=>4|33=>171|66=>246|25=>183|69=>249|68=>248|n=>n,fun|2=>3|3=>4|n=>n⟩
theorem Tryz.laysDecode:Go.Proofs.Lays7.n32 prog Tryz.laysDecode_ren:={
 mixed:=by kernel_rfl
 f32:=func162.trans (congrArg some (by kernel_rfl))
 f49:=func226.trans (congrArg some (by kernel_rfl))
 t0:=underlying0
 a0:=isAgg0
 z0:=sizeOf0
 v0:=zeroValue0
 i0:=by kernel_rfl
 t3:=underlying3
 a3:=isAgg3
 z3:=sizeOf3
 v3:=zeroValue3
 i3:=by kernel_rfl
 t4:=underlying4
 a4:=isAgg4
 z4:=sizeOf4
 v4:=zeroValue4
 i4:=by kernel_rfl
 t5:=underlying5
 a5:=isAgg5
 z5:=sizeOf5
 v5:=zeroValue5
 i5:=by kernel_rfl
 t21:=underlying21
 a21:=isAgg21
 z21:=sizeOf21
 v21:=zeroValue21
 i21:=by kernel_rfl
 t25:=underlying183
 a25:=isAgg183
 z25:=sizeOf183
 v25:=zeroValue183
 i25:=by kernel_rfl
 t30:=underlying22
 a30:=isAgg22
 z30:=sizeOf22
 v30:=zeroValue22
 i30:=by kernel_rfl
 t33:=underlying171
 a33:=isAgg171
 z33:=sizeOf171
 v33:=zeroValue171
 i33:=by kernel_rfl
 t66:=underlying246
 a66:=isAgg246
 z66:=sizeOf246
 t68:=underlying248
 a68:=isAgg248
 z68:=sizeOf248
 v68:=zeroValue248
 i68:=by kernel_rfl
 t69:=underlying249
 a69:=isAgg249
 z69:=sizeOf249
 v69:=zeroValue249
 i69:=by kernel_rfl
 g2:=by kernel_rfl
 g3:=by kernel_rfl }
def Tryz.laysReplace_ren:Go.Shelf.Ren:=⟨fun|155=>185|154=>234|138=>279|165=>280|143=>105|166=>231|197=>104|169=>233|195=>304|218=>305|240=>278|241=>306|219=>107|260=>149|276=>303|277=>313|217=>150|225=>151|224=>152|267=>153|266=>218|314=>219|n=>n,fun|9=>9|3=>3|4=>4|72=>264|0=>0|76=>97|105=>171|21=>21|5=>5|70=>262|20=>20|37=>22|75=>96|127=>253|164=>300|46=>183|119=>246|139=>249|138=>248|146=>250|51=>245|80=>164|n=>n,fun|1=>0|3=>3|4=>4|n=>n⟩
theorem Tryz.laysReplace:Go.Proofs.Lays.n155 prog Tryz.laysReplace_ren:={
 mixed:=by kernel_rfl
 f138:=func279.trans (congrArg some (by kernel_rfl))
 f143:=func105.trans (congrArg some (by kernel_rfl))
 f154:=func234.trans (congrArg some (by kernel_rfl))
 f155:=func185.trans (congrArg some (by kernel_rfl))
 f165:=func280.trans (congrArg some (by kernel_rfl))
 f166:=func231.trans (congrArg some (by kernel_rfl))
 f169:=func233.trans (congrArg some (by kernel_rfl))
 f195:=func304.trans (congrArg some (by kernel_rfl))
 f197:=func104.trans (congrArg some (by kernel_rfl))
 f217:=func150.trans (congrArg some (by kernel_rfl))
 f218:=func305.trans (congrArg some (by kernel_rfl))
 f219:=func107.trans (congrArg some (by kernel_rfl))
 f224:=func152.trans (congrArg some (by kernel_rfl))
 f225:=func151.trans (congrArg some (by kernel_rfl))
 f240:=func278.trans (congrArg some (by kernel_rfl))
 f241:=func306.trans (congrArg some (by kernel_rfl))
 f260:=func149.trans (congrArg some (by kernel_rfl))
 f266:=func218.trans (congrArg some (by kernel_rfl))
 f267:=func153.trans (congrArg some (by kernel_rfl))
 f276:=func303.trans (congrArg some (by kernel_rfl))
 f277:=func313.trans (congrArg some (by kernel_rfl))
 f314:=func219.trans (congrArg some (by kernel_rfl))
 t0:=underlying0
 a0:=isAgg0
 z0:=sizeOf0
 v0:=zeroValue0
 t3:=underlying3
 a3:=isAgg3
 z3:=sizeOf3
 v3:=zeroValue3
 t4:=underlying4
 a4:=isAgg4
 z4:=sizeOf4
 v4:=zeroValue4
 t5:=underlying5
 a5:=isAgg5
 z5:=sizeOf5
 v5:=zeroValue5
 t9:=underlying9
 a9:=isAgg9
 z9:=sizeOf9
 v9:=zeroValue9
 t20:=underlying20
 a20:=isAgg20
 z20:=sizeOf20
 v20:=zeroValue20
 t21:=underlying21
 a21:=isAgg21
 z21:=sizeOf21
 v21:=zeroValue21
 t37:=underlying22
 a37:=isAgg22
 z37:=sizeOf22
 v37:=zeroValue22
 t46:=underlying183
 a46:=isAgg183
 z46:=sizeOf183
 v46:=zeroValue183
 t51:=underlying245
 a51:=isAgg245
 z51:=sizeOf245
 v51:=zeroValue245
 t70:=underlying262
 a70:=isAgg262
 z70:=sizeOf262
 v70:=zeroValue262
 t72:=underlying264
 a72:=isAgg264
 z72:=sizeOf264
 v72:=zeroValue264
 t75:=underlying96
 a75:=isAgg96
 z75:=sizeOf96
 v75:=zeroValue96
 t76:=underlying97
 a76:=isAgg97
 z76:=sizeOf97
 v76:=zeroValue97
 t105:=underlying171
 a105:=isAgg171
 z105:=sizeOf171
 v105:=zeroValue171
 t119:=underlying246
 a119:=isAgg246
 z119:=sizeOf246
 t127:=underlying253
 a127:=isAgg253
 z127:=sizeOf253
 v127:=zeroValue253
 t138:=underlying248
 a138:=isAgg248
 z138:=sizeOf248
 v138:=zeroValue248
 t139:=underlying249
 a139:=isAgg249
 z139:=sizeOf249
 v139:=zeroValue249
 t146:=underlying250
 a146:=isAgg250
 z146:=sizeOf250
 v146:=zeroValue250
 t164:=underlying300
 a164:=isAgg300
 z164:=sizeOf300
 v164:=zeroValue300
 g1:=by kernel_rfl
 g3:=by kernel_rfl
 g4:=by kernel_rfl }
def Tryz.laysBString_ren:Go.Shelf.Ren:=⟨fun|169=>233|n=>n,fun|70=>262|9=>9|0=>0|72=>264|37=>22|127=>253|3=>3|5=>5|n=>n,fun|n=>n⟩
theorem Tryz.laysBString:Go.Proofs.Lays.n169 prog Tryz.laysBString_ren:={
 mixed:=by kernel_rfl
 f169:=func233.trans (congrArg some (by kernel_rfl))
 t0:=underlying0
 a0:=isAgg0
 z0:=sizeOf0
 v0:=zeroValue0
 t3:=underlying3
 a3:=isAgg3
 z3:=sizeOf3
 v3:=zeroValue3
 t9:=underlying9
 a9:=isAgg9
 z9:=sizeOf9
 v9:=zeroValue9
 t37:=underlying22
 a37:=isAgg22
 z37:=sizeOf22
 v37:=zeroValue22
 t70:=underlying262
 a70:=isAgg262
 z70:=sizeOf262
 v70:=zeroValue262
 t72:=underlying264
 a72:=isAgg264
 z72:=sizeOf264
 v72:=zeroValue264
 t127:=underlying253
 a127:=isAgg253
 z127:=sizeOf253
 v127:=zeroValue253 }
def Tryz.laysValid_ren:Go.Shelf.Ren:=⟨fun|119=>229|n=>n,fun|21=>21|4=>4|n=>n,fun|n=>n⟩
theorem Tryz.laysValid:Go.Proofs.Lays.n119 prog Tryz.laysValid_ren:={
 mixed:=by kernel_rfl
 f119:=func229.trans (congrArg some (by kernel_rfl))
 t4:=underlying4
 a4:=isAgg4
 z4:=sizeOf4
 v4:=zeroValue4
 t21:=underlying21
 a21:=isAgg21
 z21:=sizeOf21
 v21:=zeroValue21 }
theorem Tryz.xReplace:Builder.Extra prog Tryz.laysReplace_ren:={
 sizeBuilder:=by kernel_rfl
 liesBuilder:=by kernel_rfl
 t5:=underlying5
 a5:=isAgg5
 z5:=sizeOf5
 v5:=zeroValue5
 infoByte:=by kernel_rfl
 cellsByte:=by kernel_rfl
 sizeByte:=by kernel_rfl
 neB5:=by decide }
theorem Tryz.xBString:Builder.Extra prog Tryz.laysBString_ren:={
 sizeBuilder:=by kernel_rfl
 liesBuilder:=by kernel_rfl
 t5:=underlying5
 a5:=isAgg5
 z5:=sizeOf5
 v5:=zeroValue5
 infoByte:=by kernel_rfl
 cellsByte:=by kernel_rfl
 sizeByte:=by kernel_rfl
 neB5:=by decide }
def Tryz.laysContains_ren:Go.Shelf.Ren:=⟨fun|144=>133|143=>105|219=>107|217=>150|225=>151|224=>152|267=>153|266=>218|314=>219|n=>n,fun|9=>9|4=>4|3=>3|5=>5|46=>183|146=>250|51=>245|n=>n,fun|1=>0|n=>n⟩
theorem Tryz.laysContains:Go.Proofs.Lays.n144 prog Tryz.laysContains_ren:={
 mixed:=by kernel_rfl
 f143:=func105.trans (congrArg some (by kernel_rfl))
 f144:=func133.trans (congrArg some (by kernel_rfl))
 f217:=func150.trans (congrArg some (by kernel_rfl))
 f219:=func107.trans (congrArg some (by kernel_rfl))
 f224:=func152.trans (congrArg some (by kernel_rfl))
 f225:=func151.trans (congrArg some (by kernel_rfl))
 f266:=func218.trans (congrArg some (by kernel_rfl))
 f267:=func153.trans (congrArg some (by kernel_rfl))
 f314:=func219.trans (congrArg some (by kernel_rfl))
 t3:=underlying3
 a3:=isAgg3
 z3:=sizeOf3
 v3:=zeroValue3
 t4:=underlying4
 a4:=isAgg4
 z4:=sizeOf4
 v4:=zeroValue4
 t5:=underlying5
 a5:=isAgg5
 z5:=sizeOf5
 v5:=zeroValue5
 t9:=underlying9
 a9:=isAgg9
 z9:=sizeOf9
 v9:=zeroValue9
 t46:=underlying183
 a46:=isAgg183
 z46:=sizeOf183
 v46:=zeroValue183
 t51:=underlying245
 a51:=isAgg245
 z51:=sizeOf245
 v51:=zeroValue245
 t146:=underlying250
 a146:=isAgg250
 z146:=sizeOf250
 v146:=zeroValue250
 g1:=by kernel_rfl }
def Tryz.laysCut_ren:Go.Shelf.Ren:=⟨fun|145=>35|220=>59|219=>107|217=>150|225=>151|224=>152|267=>153|266=>218|314=>219|n=>n,fun|9=>9|4=>4|59=>93|3=>3|5=>5|46=>183|146=>250|51=>245|n=>n,fun|1=>0|n=>n⟩
theorem Tryz.laysCut:Go.Proofs.Lays.n145 prog Tryz.laysCut_ren:={
 mixed:=by kernel_rfl
 f145:=func35.trans (congrArg some (by kernel_rfl))
 f217:=func150.trans (congrArg some (by kernel_rfl))
 f219:=func107.trans (congrArg some (by kernel_rfl))
 f220:=func59.trans (congrArg some (by kernel_rfl))
 f224:=func152.trans (congrArg some (by kernel_rfl))
 f225:=func151.trans (congrArg some (by kernel_rfl))
 f266:=func218.trans (congrArg some (by kernel_rfl))
 f267:=func153.trans (congrArg some (by kernel_rfl))
 f314:=func219.trans (congrArg some (by kernel_rfl))
 t3:=underlying3
 a3:=isAgg3
 z3:=sizeOf3
 v3:=zeroValue3
 t4:=underlying4
 a4:=isAgg4
 z4:=sizeOf4
 v4:=zeroValue4
 t5:=underlying5
 a5:=isAgg5
 z5:=sizeOf5
 v5:=zeroValue5
 t9:=underlying9
 a9:=isAgg9
 z9:=sizeOf9
 v9:=zeroValue9
 t46:=underlying183
 a46:=isAgg183
 z46:=sizeOf183
 v46:=zeroValue183
 t51:=underlying245
 a51:=isAgg245
 z51:=sizeOf245
 v51:=zeroValue245
 t59:=underlying93
 a59:=isAgg93
 z59:=sizeOf93
 v59:=zeroValue93
 t146:=underlying250
 a146:=isAgg250
 z146:=sizeOf250
 v146:=zeroValue250
 g1:=by kernel_rfl }
def Tryz.laysPrefix_ren:Go.Shelf.Ren:=⟨fun|99=>163|206=>106|n=>n,fun|9=>9|4=>4|3=>3|n=>n,fun|n=>n⟩
theorem Tryz.laysPrefix:Go.Proofs.Lays.n99 prog Tryz.laysPrefix_ren:={
 mixed:=by kernel_rfl
 f99:=func163.trans (congrArg some (by kernel_rfl))
 f206:=func106.trans (congrArg some (by kernel_rfl))
 t3:=underlying3
 a3:=isAgg3
 z3:=sizeOf3
 v3:=zeroValue3
 t4:=underlying4
 a4:=isAgg4
 z4:=sizeOf4
 v4:=zeroValue4
 t9:=underlying9
 a9:=isAgg9
 z9:=sizeOf9
 v9:=zeroValue9 }
def Tryz.laysIndexByte_ren:Go.Shelf.Ren:=⟨fun|137=>184|217=>150|266=>218|n=>n,fun|9=>9|5=>5|3=>3|n=>n,fun|n=>n⟩
theorem Tryz.laysIndexByte:Go.Proofs.Lays.n137 prog Tryz.laysIndexByte_ren:={
 mixed:=by kernel_rfl
 f137:=func184.trans (congrArg some (by kernel_rfl))
 f217:=func150.trans (congrArg some (by kernel_rfl))
 f266:=func218.trans (congrArg some (by kernel_rfl))
 t3:=underlying3
 a3:=isAgg3
 z3:=sizeOf3
 v3:=zeroValue3
 t5:=underlying5
 a5:=isAgg5
 z5:=sizeOf5
 v5:=zeroValue5
 t9:=underlying9
 a9:=isAgg9
 z9:=sizeOf9
 v9:=zeroValue9 }
def Tryz.laysIndex_ren:Go.Shelf.Ren:=⟨fun|143=>105|219=>107|217=>150|225=>151|224=>152|267=>153|266=>218|314=>219|n=>n,fun|9=>9|3=>3|4=>4|5=>5|46=>183|146=>250|51=>245|n=>n,fun|1=>0|n=>n⟩
theorem Tryz.laysIndex:Go.Proofs.Lays.n143 prog Tryz.laysIndex_ren:={
 mixed:=by kernel_rfl
 f143:=func105.trans (congrArg some (by kernel_rfl))
 f217:=func150.trans (congrArg some (by kernel_rfl))
 f219:=func107.trans (congrArg some (by kernel_rfl))
 f224:=func152.trans (congrArg some (by kernel_rfl))
 f225:=func151.trans (congrArg some (by kernel_rfl))
 f266:=func218.trans (congrArg some (by kernel_rfl))
 f267:=func153.trans (congrArg some (by kernel_rfl))
 f314:=func219.trans (congrArg some (by kernel_rfl))
 t3:=underlying3
 a3:=isAgg3
 z3:=sizeOf3
 v3:=zeroValue3
 t4:=underlying4
 a4:=isAgg4
 z4:=sizeOf4
 v4:=zeroValue4
 t5:=underlying5
 a5:=isAgg5
 z5:=sizeOf5
 v5:=zeroValue5
 t9:=underlying9
 a9:=isAgg9
 z9:=sizeOf9
 v9:=zeroValue9
 t46:=underlying183
 a46:=isAgg183
 z46:=sizeOf183
 v46:=zeroValue183
 t51:=underlying245
 a51:=isAgg245
 z51:=sizeOf245
 v51:=zeroValue245
 t146:=underlying250
 a146:=isAgg250
 z146:=sizeOf250
 v146:=zeroValue250
 g1:=by kernel_rfl }
end
end Go.Proofs
