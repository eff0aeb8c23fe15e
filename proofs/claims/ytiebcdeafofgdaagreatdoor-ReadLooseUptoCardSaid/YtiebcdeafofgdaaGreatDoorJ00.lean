/-
  Parts of the proof: Words Enc Node Qc Open Law Shelf4. By an AI agent.
-/
import Derived.Test.YtiebcdeafofgdaaGreatDoorChecked
import Derived.Test.YtiebcdeafofgdaaGreatDoorProg
import Derived.Below
import Derived.Laws.OwnMore
import Derived.Deep.AppendLies
import Derived.Deep.Draws
import Derived.Maps.AppendAt
import Derived.RegionTactic
import Derived.OwnWalk
import Derived.Laws.Rows
import Derived.BigQuiet
import Derived.Deep.Slices
import Derived.Deep.Fields
import Derived.ChangeSame
import Derived.ProofKit
import Derived.OpenShut
import Derived.Deep.DeepHandedRow
import Derived.Lib.LaidTab
import Derived.SizedLaws
import Derived.Shelf.Spec.DecodeRune
import Derived.Shelf.Strings.Replace
import Derived.Shelf.Strings.Builder1
import Derived.Shelf.Small.Utf8
import Derived.Ground.NamesProg
import Derived.Ground.Names7Prog
import Derived.Shelf.Lays
import Derived.Shelf.Lays7
open Go.Proofs.Tryz
namespace Go.Proofs.YtiebcdeafofgdaaGreatDoor
section
open Go.RowKit
theorem d5:type_of% @if_neg:=@if_neg
theorem gF:type_of% @if_pos:=@if_pos
theorem gN:type_of% @List.getElem?_eq_getElem:=@List.getElem?_eq_getElem
theorem gY:type_of% @List.length_drop:=@List.length_drop
theorem jF:type_of% @Go.RowKit.Below.heap_alloc:=@Go.RowKit.Below.heap_alloc
theorem jH:type_of% @List.flatMap_cons:=@List.flatMap_cons
theorem jN:type_of% @Go.RowKit.Below.heap_setCell:=@Go.RowKit.Below.heap_setCell
theorem jQ:type_of% @List.eq_nil_of_length_eq_zero:=@List.eq_nil_of_length_eq_zero
theorem kE:type_of% @List.map_cons:=@List.map_cons
theorem kN:type_of% @Nat.lt_or_ge:=@Nat.lt_or_ge
theorem kO:type_of% @Array.getElem?_eq_none:=@Array.getElem?_eq_none
theorem kR:type_of% @Nat.eq_zero_or_pos:=@Nat.eq_zero_or_pos
theorem kY:type_of% @Go.World.cell?_of_block:=@Go.World.cell?_of_block
theorem qh:type_of% @Go.run_underlying:=@Go.run_underlying
theorem qu:type_of% @Go.heap_alloc_new:=@Go.heap_alloc_new
theorem qz:type_of% @Go.World.news_of_block:=@Go.World.news_of_block
theorem qC:type_of% @Nat.one_mul:=@Nat.one_mul
theorem qH:type_of% @List.getElem?_drop:=@List.getElem?_drop
theorem vy:type_of% @Go.wpList_plain:=@Go.wpList_plain
instance:Coe World Nat:=⟨fun w=>w.heap.size⟩
instance:Coe Nat Value:=⟨fun b=>.pointer (some ⟨b,0,none⟩)⟩
instance:Coe Int Value:=⟨.int .i64⟩
instance:Coe ByteArray Value:=⟨.string⟩
abbrev BA:=ByteArray
theorem aD{a b c:World}(h:Below a a b)(h':Below b b c):Below a a c:=h.trans (h'.mono h.size)
theorem nL(a:Addr)(n:Nat):(a.add n).block=a.block:=by unfold Addr.add;split<;>rfl
theorem Dx(a:Addr)(i j:Nat):(a.add i).add j=a.add (i+j):=by unfold Addr.add;by_cases I:i=0<;>by_cases D:j=0<;>simp[I,D,Nat.add_assoc]
def bZ(w:World)(B size:Nat)(A:Option Addr)(n:Nat)(xs:List Value):Prop:=
 xs.length=n*size/\(0<n->∃ad,A=some ad/\ad.block<B/\∀j u,xs[j]? = some u->w.cell? (ad.add j)=some u)
section
variable {w w':World} {B B' size n:Nat} {A:Option Addr} {xs:List Value}
theorem bZ.at_{k:Nat}(h:bZ w B 1 A n xs)(J:k<n):∃ad u,A=some ad/\ad.block<B/\xs[k]? = some u/\w.cell? (ad.add k)=some u:=by obtain⟨ad,e,hb,I⟩:=h.2 (by omega);(have D:k<xs.length:=by have:=h.1;omega);exact⟨ad,xs[k],e,hb,gN D,I k _ (gN D)⟩
theorem bZ.keep(h:bZ w B size A n xs)(I:∀p:Addr,p.block<B->w'.cell? p=w.cell? p):bZ w' B size A n xs:=
 ⟨h.1,fun D=>by obtain⟨ad,e,hb,J⟩:=h.2 D;exact⟨ad,e,hb,fun j u hu=>(I _ (by rw[nL];exact hb)).trans (J j u hu)⟩⟩
theorem bZ.more(h:bZ w B size A n xs)(hB:B<=B'):bZ w B' size A n xs:=
 ⟨h.1,fun D=>by obtain⟨ad,e,hb,I⟩:=h.2 D;exact⟨ad,e,by omega,I⟩⟩
theorem bZ.below(h:bZ w B size A n xs)(hb:Below B w w'):bZ w' B size A n xs:=h.keep fun _ hp=>hb.cell hp
theorem bZ.drew(h:bZ w B size A n xs):bZ w.drew B size A n xs:=h
theorem bZ.drewN(h:bZ w B size A n xs)(k:Nat):bZ (w.drewN k) B size A n xs:=h
theorem bZ.alloc(h:bZ w B size A n xs)(hB:B<=w.heap.size)(o:Obj):bZ (w.alloc o) B size A n xs:=h.keep fun p hp=>World.cell?_alloc_lt w o p (by omega)
theorem bZ.setCell(h:bZ w B size A n xs){p:Addr}(hB:B<=p.block)(u:Value):bZ (w.setCell p u) B size A n xs:=
 h.keep fun q hq=>World.cell?_setCell_other w p q u (fun e=>by subst e;omega)
theorem bZ.grown(h:bZ w B size A n xs){row:Option Nat}(I:w.grownBy w' row)(hB:B<=w.heap.size)(D:∀g,row=some g->B<=g):bZ w' B size A n xs:=
 h.keep fun p hp=>kY (I.block p.block (by omega) (fun e=>by have:=D _ e.symm;omega))
theorem bZ.cut(h:bZ w B size A n xs){k cap:Nat}(J:k<=n)(M:n<=cap):
  bZ w B size (if cap=k then A else A.map (·.add (k*size))) (n-k) (xs.drop (k*size)):=by refine⟨by rw[gY,h.1,Nat.sub_mul],fun I=>?_⟩;obtain⟨ad,rfl,hb,D⟩:=h.2 (by omega);rw[d5 (by omega)];refine⟨ad.add (k*size),rfl,by rw[nL];exact hb,fun j u hu=>?_⟩;rw[Dx];exact D _ u (by rw[<-hu,qH])
theorem bZ.of_own{base:Nat}{e:TypeId}{c:Nat}(h:w.ownsRow base e size (.slice A n c) n xs):bZ w w.heap.size size A n xs:=by refine⟨h.1,fun J=>?_⟩;obtain⟨g,cap,I,_,D⟩:=h.form J;(have M:A=some ⟨g,0,none⟩:=by injection I);subst M;exact⟨_,rfl,D,h.cells (g:=g) rfl⟩
end
def an(w:World)(g:Nat)(t:TypeId)(cs:Array Value):Prop:=w.heap[g]? = some (.cells cs t (0,0))
section
variable {w w':World} {g:Nat} {t:TypeId} {cs:Array Value}
theorem an.lt(h:an w g t cs):g<w.heap.size:=by
 rcases kN g w.heap.size with D|hge
 ·exact D
 ·unfold an at h;rw[kO hge]at h;cases h
theorem an.cell(h:an w g t cs)(i:Nat):w.cell? ⟨g,i,none⟩=cs[i]? :=cell_of_row w g i cs t (0,0) h
theorem an.frozen(h:an w g t cs)(i:Nat):w.frozen? ⟨g,i,none⟩=false:=by unfold an at h;simp[World.frozen?,h]
theorem an.new(w:World)(t:TypeId)(cs:Array Value):an (w.alloc (.cells cs t)) w.heap.size t cs:=qu w _
theorem an.drew(h:an w g t cs):an w.drew g t cs:=h
theorem an.drewN(h:an w g t cs)(n:Nat):an (w.drewN n) g t cs:=h
theorem an.alloc(h:an w g t cs)(o:Obj):an (w.alloc o) g t cs:=(jF w o g h.lt).trans h
theorem an.set_(h:an w g t cs)(i:Nat)(u:Value):an (w.setCell ⟨g,i,none⟩ u) g t (cs.setIfInBounds i u):=by unfold an at h |-;simp[World.setCell,Array.getElem?_modify,h]
theorem an.far(h:an w g t cs){p:Addr}(D:g≠p.block)(u:Value):an (w.setCell p u) g t cs:=(jN w p u g D).trans h
theorem an.below{B:Nat}(h:an w g t cs)(hb:Below B w w')(D:g<B):an w' g t cs:=(hb.block g D).trans h
theorem an.bl(h:an w g t cs)(hb:Below w w w'):an w' g t cs:=h.below hb h.lt
theorem an.grown{row:Option Nat}(h:an w g t cs)(hb:w.grownBy w' row)(D:some g≠row:=by intro e;injection e with e;omega):an w' g t cs:=(hb.block g h.lt D).trans h
end
section
variable {P:Program} (w:World)
theorem rE(base:Nat)(t ty e:TypeId)(i:TypeInfo)(size:Nat)(J:P.underlying t=some (.slice e))(M:P.info? e=some i)
  (v:Value)(n:Nat)(xs:List Value)(D:w.ownsRow base e size v n xs)(c:Nat):(Builtin.append_ #[t,t] ty #[v,.slice none 0 c]).run P w=.ok v w:=by
 rcases D.2 with⟨rfl,rfl⟩|⟨g,cap,cur,rfl,_,_,I,_⟩
 ·simp[Builtin.append_,run_underlying J,sizeOf,typeInfo,M,Builtin.lenOf,Builtin.firstCells]
 ·simp[Builtin.append_,run_underlying J,sizeOf,typeInfo,M,Builtin.lenOf,Builtin.firstCells,I,storeCells]
theorem ug(base:Nat)(t ty e:TypeId)(i:TypeInfo)(z:Value)(size bytes:Nat)(ht:P.underlying t=some (.slice e))(hi:P.info? e=some i)(hz:i.zero=some z)
  (M:i.size=size)(gd:i.bytes=bytes)(ga:z.cells.size=size)(gb:0<size)
  (v:Value)(n:Nat)(xs:List Value)(D:w.ownsRow base e size v n xs)
  (B:Nat)(A:Option Addr)(m c:Nat)(news:List Value)(hr:bZ w B size A m news)(h1:∀u∈news,u.oneCell'=true)
  (ge:n+m<=maxLen)(J:(n+m)*bytes<=140737488355328)(N:base<=w.heap.size):
  ∃ v' w',(Builtin.append_ #[t,t] ty #[v,.slice A m c]).run P w=.ok v' w'/\w'.ownsRow base e size v' (n+m) (xs++news)/\w.grownBy w' v.ownBlock /\
    (v'.ownBlock=v.ownBlock\/v'.ownBlock=some w.heap.size):=by
 rcases A with _|ad
 ·have hm:m=0:=by
   rcases kR m with O|O
   ·exact O
   ·obtain⟨ad,h,_⟩:=hr.2 O;cases h
  subst hm;have hn:news=[]:=jQ (by simpa using hr.1);subst hn;exact⟨v,w,rE w base t ty e i size ht hi v n xs D c,by simpa using D,World.grownBy.refl w _,.inl rfl⟩
 ·have I:∀j u,news[j]? = some u->w.cell? (ad.add j)=some u:=by
   intro j u hu;rcases kR m with O|O
   ·subst O;have hn:news=[]:=jQ (by simpa using hr.1);subst hn;simp at hu
   ·obtain⟨ad',h,_,hc⟩:=hr.2 O;injection h with h;subst h;exact hc j u hu
  obtain⟨v',w',U,h2,h3,_,h5⟩:=run_append_own_at (P:=P) w base t ty e i z size bytes ht hi hz M gd ga gb v n xs D ad m c news hr.1 I h1 ge J N;exact⟨v',w',U,h2,h3,h5⟩
theorem pL{o:Oper}{a:Act}{K:Act->World->Prop}{Q:Exit->Act->World->Prop}(s x:Operand)(t:TypeId)
  (ho:o.op=.call { callee:=.builtin .append,args:=#[s,x],argTypes:=#[t,t] })
  (base:Nat)(e:TypeId)(i:TypeInfo)(z:Value)(size bytes:Nat)(ht:P.underlying t=some (.slice e))(hi:P.info? e=some i)(hz:i.zero=some z)
  (I:i.size=size)(ga:i.bytes=bytes)(O:z.cells.size=size)(U:0<size)
  (v:Value)(n:Nat)(xs:List Value)(hs:a.eval s=v)(N:w.ownsRow base e size v n xs)
  (B:Nat)(A:Option Addr)(m c:Nat)(news:List Value)(hx:a.eval x=.slice A m c)(hr:bZ w B size A m news)(h1:∀u∈news,u.oneCell'=true)
  (gb:n+m<=maxLen)(D:(n+m)*bytes<=140737488355328)(J:base<=w.heap.size)
  (h:∀v' w',w'.ownsRow base e size v' (n+m) (xs++news)->w.grownBy w' v.ownBlock->(v'.ownBlock=v.ownBlock\/v'.ownBlock=some w.heap.size)->K (a.put o.dst v') w'):o.wp P a w K Q:=by obtain⟨v',w',M,h2,h3,h4⟩:=ug (P:=P) w base t o.type e i z size bytes ht hi hz I ga O U v n xs N B A m c news hr h1 gb D J;unfold Oper.wp execOp;simp only[ho,resolve,invoke,builtin,Sem.run_bind,Sem.run_pure,Result.andThen_ok,List.map_toArray,kE,List.map_nil,hs,hx,M];exact h v' w' h2 h3 h4
theorem rF{ops:Array Oper}{rest:List Oper}{o:Oper}{a:Act}{Q:Exit->Act->World->Prop}(U:o.guard=none)(s x:Operand)(t:TypeId)
  (ho:o.op=.call { callee:=.builtin .append,args:=#[s,x],argTypes:=#[t,t] })
  (base:Nat)(e:TypeId)(i:TypeInfo)(z:Value)(size bytes:Nat)(ht:P.underlying t=some (.slice e))(hi:P.info? e=some i)(hz:i.zero=some z)
  (I:i.size=size)(ga:i.bytes=bytes)(N:z.cells.size=size)(O:0<size)
  (v:Value)(n:Nat)(xs:List Value)(hs:a.eval s=v)(M:w.ownsRow base e size v n xs)
  (B:Nat)(A:Option Addr)(m c:Nat)(news:List Value)(hx:a.eval x=.slice A m c)(hr:bZ w B size A m news)(h1:∀u∈news,u.oneCell'=true)
  (gb:n+m<=maxLen)(D:(n+m)*bytes<=140737488355328)(J:base<=w.heap.size)
  (h:∀v' w',w'.ownsRow base e size v' (n+m) (xs++news)->w.grownBy w' v.ownBlock->(v'.ownBlock=v.ownBlock\/v'.ownBlock=some w.heap.size)->wpList P ops Q rest (a.put o.dst v') w'):wpList P ops Q (o::rest) a w:=
 vy U fun _ hK=>pL w s x t ho base e i z size bytes ht hi hz I ga N O v n xs hs M B A m c news hx hr h1 gb D J fun v' w' h2 h3 h4=>hK _ _ (h v' w' h2 h3 h4)
theorem fc{ops:Array Oper}{o:Oper}{a:Act}{K:Act->World->Prop}{Q:Exit->Act->World->Prop}{E:Prop}(U:o.guard=none)(s x:Operand)(t:TypeId)
  (ho:o.op=.call { callee:=.builtin .append,args:=#[s,x],argTypes:=#[t,t] })
  (base:Nat)(e:TypeId)(i:TypeInfo)(z:Value)(size bytes:Nat)(ht:P.underlying t=some (.slice e))(hi:P.info? e=some i)(hz:i.zero=some z)
  (I:i.size=size)(ga:i.bytes=bytes)(N:z.cells.size=size)(O:0<size)
  (v:Value)(n:Nat)(xs:List Value)(hs:a.eval s=v)(M:w.ownsRow base e size v n xs)
  (B:Nat)(A:Option Addr)(m c:Nat)(news:List Value)(hx:a.eval x=.slice A m c)(hr:bZ w B size A m news)(h1:∀u∈news,u.oneCell'=true)
  (gb:n+m<=maxLen)(D:(n+m)*bytes<=140737488355328)(J:base<=w.heap.size)
  (h:∀v' w',w'.ownsRow base e size v' (n+m) (xs++news)->w.grownBy w' v.ownBlock->(v'.ownBlock=v.ownBlock\/v'.ownBlock=some w.heap.size)->K (a.put o.dst v') w'):
  if Region.wanted o (yielded ops a.tmps)=true then Oper.wp P o a w K Q else E:=by(have hw:Region.wanted o (yielded ops a.tmps)=true:=by simp[Region.wanted,U]);rw[gF hw];exact pL w s x t ho base e i z size bytes ht hi hz I ga N O v n xs hs M B A m c news hx hr h1 gb D J h
end
section
variable {α:Type} {enc:α->List Value} {sz:Nat}
theorem oH(hs:∀x,(enc x).length=sz)(xs:List α):(xs.flatMap enc).length=xs.length*sz:=by
 induction xs with
 |nil=>simp
 |cons x xs ih=>simp[List.flatMap_cons,ih,hs,Nat.add_mul,Nat.add_comm]
theorem iF(hs:∀x,(enc x).length=sz):∀(xs:List α)(i j:Nat)(h:i<xs.length),j<sz->(xs.flatMap enc)[i*sz+j]? = (enc xs[i])[j]?
 |[],i,j,h,_=>by simp at h
 |x::xs,0,j,_,D=>by rw[jH,List.getElem?_append_left (by rw[hs];omega)];simp
 | x::xs,i+1,j,h,D=>by
  (have h':i<xs.length:=by simpa using h);rw[jH,List.getElem?_append_right (by rw[hs,Nat.add_mul];omega),hs,Nat.add_mul,qC,
   show i*sz+sz+j-sz=i*sz+j by omega,iF hs xs i j h' D]
  simp
theorem nM{w:World}{a:Addr}{v:Value}(h:w.cell? a=some v):a=⟨a.block,a.off,none⟩:=by
 obtain⟨b,o,s⟩:=a;cases s with
 |none=>rfl
 |some s=>unfold World.cell? at h;simp at h;split at h<;>simp at h
theorem oI(b o i:Nat):(⟨b,o,none⟩:Addr).add i=⟨b,o+i,none⟩:=by
 unfold Addr.add;split
 ·rename_i h;subst h;rfl
 ·rfl
theorem iu(w:World)(b o:Nat)(v:Value):w.grownBy (w.setCell ⟨b,o,none⟩ v) (some b):=
 ⟨rfl,rfl,rfl,by simp[World.setCell],fun k _ hne=>jN w ⟨b,o,none⟩ v k (fun e=>hne (by rw[e]))⟩
theorem pM{w w':World}{b B:Nat}(h:w.grownBy w' (some b))(hb:B<=b)(hB:B<=w.heap.size):Below B w w':=
 ⟨h.os,h.tape,h.output,h.size,fun k hk=>h.block k (by omega) (fun e=>by injection e with e;omega)⟩
theorem de{w w':World}(r:Option Nat)(h:Below w w w'):w.grownBy w' r:=⟨h.os,h.tape,h.output,h.size,fun k hk _=>h.block k hk⟩
theorem an.new_at{w:World}{n:Nat}(h:w.heap.size=n)(t:TypeId)(cs:Array Value):an (w.alloc (.cells cs t)) n t cs:=by subst h;exact an.new w t cs
theorem bZ.el{w:World}{B n:Nat}{A:Option Addr}{xs:List α}(h:bZ w B sz A n (xs.flatMap enc))(hs:∀x,(enc x).length=sz)(h0:0<sz)(hn:xs.length=n){i:Nat}(hi:i<n):
  ∃b off,A=some ⟨b,off,none⟩/\b<B/\∀k(J:k<xs.length)j u,(enc xs[k])[j]? = some u->w.cell? ⟨b,off+k*sz+j,none⟩=some u:=by obtain⟨ad,hA,hb,U⟩:=h.2 (by omega);(have key:∀k(J:k<xs.length)j u,(enc xs[k])[j]? = some u->w.cell? (ad.add (k*sz+j))=some u:=by intro k J j u I;(have O:j<sz:=by have:=(List.getElem?_eq_some_iff.1 I).1;rw[hs]at this;exact this);exact U _ u (by rw[iF hs xs k j J O];exact I));have N:∃u,(enc (xs[0]'(by omega)))[0]? = some u:=⟨(enc (xs[0]'(by omega)))[0]'(by rw[hs];exact h0),gN _⟩;obtain⟨u,I⟩:=N;have D:=key 0 (by omega) 0 u I;rw[show 0*sz+0=0 by omega,show ad.add 0=ad from rfl]at D;have D:=nM D;obtain⟨b,o,s⟩:=ad;(have M:s=none:=by simpa using D);subst M;refine⟨b,o,hA,hb,fun k J j u I=>?_⟩;have:=key k J j u I;rw[oI,<-Nat.add_assoc]at this;exact this
theorem uh{w:World}{g n B size:Nat}{t:TypeId}{fr:Nat×Nat}{cs:List Value}(h:w.heap[g]? = some (.cells cs.toArray t fr))(D:cs.length=n*size)(hB:g<B):bZ w B size (some ⟨g,0,none⟩) n cs:=
 ⟨D,fun _=>⟨_,rfl,hB,fun j u hu=>qz h j u (by simpa using hu)⟩⟩
theorem tm{w:World}{n:Nat}(h:w.heap.size=n)(o:Obj):(w.alloc o).heap[n]? = some o:=by subst h;exact qu w o
theorem bZ.len{w:World}{B n:Nat}{A:Option Addr}{xs:List α}(h:bZ w B sz A n (xs.flatMap enc))(hs:∀x,(enc x).length=sz)(D:0<sz):xs.length=n:=by have:=h.1;rw[oH hs]at this;exact Nat.eq_of_mul_eq_mul_right D this
end
inductive Nd where
 |mk (kind:Int) (text:ByteArray) (kids:List Nd) (pos:Int)
namespace Nd
def kind:Nd->Int| .mk k _ _ _=>k
def text:Nd->ByteArray| .mk _ t _ _=>t
def kids:Nd->List Nd| .mk _ _ l _=>l
def pos:Nd->Int| .mk _ _ _ a=>a
@[simp] theorem kind_mk (k t l a):(Nd.mk k t l a).kind=k:=rfl
@[simp] theorem text_mk (k t l a):(Nd.mk k t l a).text=t:=rfl
@[simp] theorem kids_mk (k t l a):(Nd.mk k t l a).kids=l:=rfl
@[simp] theorem pos_mk (k t l a):(Nd.mk k t l a).pos=a:=rfl
theorem eta(n:Nd):n=.mk n.kind n.text n.kids n.pos:=by cases n;rfl
end Nd
def bX:Nd:=.mk 0 ⟨#[]⟩ [] 0
theorem aj(w:World)(c:Array Value):Below w w (w.alloc (.cells c 24))/\an (w.alloc (.cells c 24)) w.heap.size 24 c:=⟨(Below.refl w.heap.size w).alloc (Nat.le_refl _) _,an.new w _ _⟩
def eW(X:Nat->Prop)(w:World)(size:Nat)(A:Option Addr)(n:Nat)(xs:List Value):Prop:=
 xs.length=n*size/\(0<n->∃b off,A=some ⟨b,off,none⟩/\X b/\∀j u,xs[j]? = some u->w.cell? ⟨b,off+j,none⟩=some u)
mutual
def bo(X:Nat->Prop)(w:World):Nd->List Value->Prop
 | .mk k t l a,cs=>∃A cap xs,cs=[.int .i64 k,.string t,.slice A l.length cap,.int .i64 a]/\l.length<=cap/\eW X w 4 A l.length xs/\ag X w l xs
def ag(X:Nat->Prop)(w:World):List Nd->List Value->Prop
 |[],xs=>xs=[]
 |n::l,xs=>∃ys zs,xs=ys++zs/\bo X w n ys/\ag X w l zs
end
section
variable {X Y:Nat->Prop} {w w':World}
theorem eW.mono{size n:Nat}{A:Option Addr}{xs:List Value}(D:∀b,X b->b<w.heap.size->Y b)(h:eW X w size A n xs)(hs:0<size):eW Y w size A n xs:=
 ⟨h.1,fun I=>by obtain⟨b,off,e,hb,J⟩:=h.2 I;(have M:0<xs.length:=by rw[h.1];exact Nat.mul_pos I hs);have N:=J 0 xs[0] (List.getElem?_eq_getElem M);exact⟨b,off,e,D b hb (World.block_lt_of_cell? w _ N),J⟩⟩
theorem eW.keep{size n:Nat}{A:Option Addr}{xs:List Value}(M:∀b,X b->b<w.heap.size->w'.heap[b]? = w.heap[b]?)(h:eW X w size A n xs):eW X w' size A n xs:=
 ⟨h.1,fun J=>by obtain⟨b,off,e,hb,N⟩:=h.2 J;refine⟨b,off,e,hb,fun j u hu=>?_⟩;have I:=N j u hu;have D:=World.block_lt_of_cell? w _ I;exact(World.cell?_of_block (a:=⟨b,off+j,none⟩) (M b hb D)).trans I⟩
mutual
theorem bo.mono(D:∀b,X b->b<w.heap.size->Y b):∀(n:Nd)(cs:List Value),bo X w n cs->bo Y w n cs
 | .mk k t l a,cs,h=>by unfold bo at h |-;obtain⟨A,cap,xs,e,M,I,J⟩:=h;exact⟨A,cap,xs,e,M,I.mono D (by omega),ag.mono D l xs J⟩
theorem ag.mono(D:∀b,X b->b<w.heap.size->Y b):∀(l:List Nd)(xs:List Value),ag X w l xs->ag Y w l xs
 |[],xs,h=>by unfold ag at h |-;exact h
 |n::l,xs,h=>by unfold ag at h |-;obtain⟨ys,zs,e,J,I⟩:=h;exact⟨ys,zs,e,bo.mono D n ys J,ag.mono D l zs I⟩
end
mutual
theorem bo.keep(D:∀b,X b->b<w.heap.size->w'.heap[b]? = w.heap[b]?):∀(n:Nd)(cs:List Value),bo X w n cs->bo X w' n cs
 | .mk k t l a,cs,h=>by unfold bo at h |-;obtain⟨A,cap,xs,e,M,I,J⟩:=h;exact⟨A,cap,xs,e,M,I.keep D,ag.keep D l xs J⟩
theorem ag.keep(D:∀b,X b->b<w.heap.size->w'.heap[b]? = w.heap[b]?):∀(l:List Nd)(xs:List Value),ag X w l xs->ag X w' l xs
 |[],xs,h=>by unfold ag at h |-;exact h
 |n::l,xs,h=>by unfold ag at h |-;obtain⟨ys,zs,e,J,I⟩:=h;exact⟨ys,zs,e,bo.keep D n ys J,ag.keep D l zs I⟩
end
theorem bo.len{n:Nd}{cs:List Value}(h:bo X w n cs):cs.length=4:=by cases n;unfold bo at h;obtain⟨A,cap,xs,e,_⟩:=h;simp[e]
theorem ag.len:∀{l:List Nd}{xs:List Value},ag X w l xs->xs.length=l.length*4
 |[],xs,h=>by unfold ag at h;simp[h]
 |n::l,xs,h=>by unfold ag at h;obtain⟨ys,zs,rfl,I,D⟩:=h;rw[List.length_append,I.len,D.len,List.length_cons];omega
theorem ag.nil:ag X w [] []:=by unfold ag;rfl
theorem ag.cons{n:Nd}{l:List Nd}{ys zs:List Value}(I:bo X w n ys)(D:ag X w l zs):ag X w (n::l) (ys++zs):=by unfold ag;exact⟨ys,zs,rfl,I,D⟩
theorem ag.one{n:Nd}{ys:List Value}(D:bo X w n ys):ag X w [n] ys:=by
 have:=ag.cons D (ag.nil (X:=X) (w:=w))
 rwa [List.append_nil]at this
theorem ag.app:∀{l m:List Nd}{xs ys:List Value},ag X w l xs->ag X w m ys->ag X w (l++m) (xs++ys)
 |[],m,xs,ys,D,I=>by unfold ag at D;subst D;exact I
 |n::l,m,xs,ys,D,I=>by unfold ag at D;obtain⟨us,bs,rfl,M,J⟩:=D;rw[List.append_assoc];exact ag.cons M (ag.app J I)
theorem ag.get:∀{l:List Nd}{xs:List Value}(i:Nat)(D:i<l.length),ag X w l xs->∃ys,bo X w l[i] ys/\(∀j,j<4->xs[i*4+j]? = ys[j]?)
 |[],xs,i,D,h=>absurd D (by simp)
 |n::l,xs,0,D,h=>by unfold ag at h;obtain⟨ys,zs,rfl,I,J⟩:=h;refine⟨ys,I,fun j hj=>?_⟩;rw[List.getElem?_append_left (by rw[I.len];omega)];simp
 |n::l,xs,i+1,D,h=>by unfold ag at h;obtain⟨ys,zs,rfl,I,J⟩:=h;obtain⟨us,N,M⟩:=ag.get i (by simpa using D) J;refine⟨us,N,fun j hj=>?_⟩;rw[List.getElem?_append_right (by rw[I.len];omega),I.len,show(i+1)*4+j-4=i*4+j by omega];exact M j hj
theorem ag.split:∀{l:List Nd}{xs:List Value}(k:Nat),ag X w l xs->ag X w (l.take k) (xs.take (k*4))/\ag X w (l.drop k) (xs.drop (k*4))
 |l,xs,0,h=>by simpa using⟨ag.nil,h⟩
 |[],xs,k+1,h=>by unfold ag at h;subst h;constructor<;>simpa using ag.nil
 |n::l,xs,k+1,h=>by unfold ag at h;obtain⟨ys,zs,rfl,D,M⟩:=h;obtain⟨J,I⟩:=ag.split k M;(have O:(ys++zs).take ((k+1)*4)=ys++zs.take (k*4):=by rw[List.take_append,D.len,List.take_of_length_le (by rw[D.len];omega),show(k+1)*4-4=k*4 by omega]);(have N:(ys++zs).drop ((k+1)*4)=zs.drop (k*4):=by rw[List.drop_append,D.len,List.drop_of_length_le (by rw[D.len];omega),show(k+1)*4-4=k*4 by omega,List.nil_append]);rw[O,N,List.take_succ_cons,List.drop_succ_cons];exact⟨ag.cons D J,I⟩
def af(X:Nat->Prop)(w:World)(v:Value)(n:Nd):Prop:=
 ∃A cap xs,v=.agg #[n.kind,n.text,.slice A n.kids.length cap,n.pos]/\n.kids.length<=cap/\eW X w 4 A n.kids.length xs/\ag X w n.kids xs
theorem af.toC{v:Value}{n:Nd}(h:af X w v n):∃A cap,v=.agg #[n.kind,n.text,.slice A n.kids.length cap,n.pos]/\bo X w n [.int .i64 n.kind,.string n.text,.slice A n.kids.length cap,.int .i64 n.pos]:=by obtain⟨A,cap,xs,e,J,I,D⟩:=h;refine⟨A,cap,e,?_⟩;cases n;unfold bo;exact⟨A,cap,xs,rfl,J,I,D⟩
theorem bo.toV{n:Nd}{cs:List Value}(h:bo X w n cs):∃A cap xs,cs=[.int .i64 n.kind,.string n.text,.slice A n.kids.length cap,.int .i64 n.pos]/\n.kids.length<=cap/\eW X w 4 A n.kids.length xs/\ag X w n.kids xs:=by cases n;unfold bo at h;exact h
theorem af.mono{v:Value}{n:Nd}(D:∀b,X b->b<w.heap.size->Y b)(h:af X w v n):af Y w v n:=by obtain⟨A,cap,xs,e,M,J,I⟩:=h;exact⟨A,cap,xs,e,M,J.mono D (by omega),I.mono D⟩
theorem af.keep{v:Value}{n:Nd}(D:∀b,X b->b<w.heap.size->w'.heap[b]? = w.heap[b]?)(h:af X w v n):af X w' v n:=by obtain⟨A,cap,xs,e,M,J,I⟩:=h;exact⟨A,cap,xs,e,M,J.keep D,I.keep D⟩
theorem af.zero:af X w (.agg #[.int .i64 0,.string ⟨#[]⟩,.slice none 0 0,.int .i64 0]) bX:=
 ⟨none,0,[],rfl,Nat.le_refl _,⟨rfl,fun h=>absurd h (by simp[bX])⟩,ag.nil⟩
end
abbrev nv(n:Nd)(A:Option Addr)(c:Nat):Array Value:=#[n.kind,n.text,.slice A n.kids.length c,n.pos]
structure Wd(S:World->Prop)where
 wd:World
 ok:S wd
theorem ik{P:Program}(S:World->Prop){id:Nat}{Q:Exit->Act->World->Prop}{a:Act}{w:World}{l:List Oper}(D:P.follows .mixedOrders=true)(hB:Region.lexB .any l.toArray=true)(I:S w.drew)
  (h:wpQuiet P l.toArray (fun w'=>∃n:Wd S,w'=n.wd) (fun a'=>∀n:Wd S,Q .normal a' n.wd) l a):(Code.region id l.toArray true).wp P Q a w:=
 wp_region_quiet (C:=fun w'=>∃n:Wd S,w'=n.wd) D hB ⟨⟨w.drew,I⟩,rfl⟩ (by(have e:(fun a'=>∀w',(∃n:Wd S,w'=n.wd)->Q .normal a' w')=fun a'=>∀n:Wd S,Q .normal a' n.wd:=by funext a';exact propext ⟨fun h n=>h _ ⟨n,rfl⟩,fun h w'⟨n,e⟩=>e▸h n⟩);rw[e];simpa using h)
instance(w:World):Nonempty (Wd (Below w w)):=⟨⟨w,Below.refl _ _⟩⟩
theorem cT(W:World){P:Program}{id:Nat}{Q:Exit->Act->World->Prop}{a:Act}{l:List Oper}
 (h:wpQuiet P l.toArray (fun w'=>∃n:Wd (Below W W),w'=n.wd) (fun a'=>∀n:Wd (Below W W),Q .normal a' n.wd) l a)(D:P.follows .mixedOrders=true:=by kernel_rfl)(hB:Region.lexB .any l.toArray=true:=by kernel_rfl):
 (Code.region id l.toArray true).wp P Q a W:=ik (Below W W) D hB (Below.refl _ _).drew h
theorem yr{P:Program}{W:World}{f:FuncId}{args:Array Value}{v:Ending}(h:∀m:Wd (Below W W),Calls P f args m.wd fun e w'=>e=v/\Below m.wd.heap.size m.wd w')(m:Wd (Below W W)):Calls P f args m.wd fun e w'=>e=v/\∃m':Wd (Below W W),w'=m'.wd:=
 (h m).mono (fun _ w'⟨D,hb⟩=>⟨D,⟨w',aD m.ok hb⟩,rfl⟩)
end
section
open Go.RowKit Go.ChangeShapes Go.WideShapes Go.Deep
section
variable {H:Type} {enc:TypeId×Value->H} {P:Program} {w:World} {base:Nat} {spare:Nat->Bool} {held:Bool}
end
theorem tn{α:Type}{P:Nat->α->Prop}:∀n:Nat,(∀i,i<n->∃x,P i x)->∃l:List α,l.length=n/\∀i(h:i<l.length),P i l[i]
 |0,_=>⟨[],rfl,fun i h=>absurd h (by simp)⟩
 |n+1,h=>by
  obtain⟨l,D,J⟩:=tn n (fun i hi=>h i (by omega));obtain⟨x,I⟩:=h n (by omega);refine⟨l++[x],by simp[D],fun i hi=>?_⟩;by_cases e:i<l.length
  ·rw[List.getElem_append_left e];exact J i e
  ·(have:i=n:=by simp at hi;omega);subst this;rw[List.getElem_append_right (by omega)];simpa[D]using I
theorem ui{α:Type}{enc:α->List Value}{sz:Nat}{w:World}{a:Addr}{n:Nat}{l:List α}(hs:∀x,(enc x).length=sz)(M:0<sz)(O:l.length=n)
  (J:∀i(h:i<l.length)j u,(enc l[i])[j]? = some u->w.cell? (a.add (i*sz+j))=some u):bZ w w.heap.size sz (some a) n (l.flatMap enc):=by
 refine⟨by rw[oH hs,O],fun I=>⟨a,rfl,?_,fun j u D=>?_⟩⟩
 ·(have hl:0<l.length:=by omega);have D:(enc l[0])[0]? = some ((enc l[0])[0]'(by rw[hs];exact M)):=List.getElem?_eq_getElem _;have:=World.block_lt_of_cell? w _ (J 0 hl 0 _ D)
  rwa [nL]at this
 ·have hj:j<l.length*sz:=by
   have:=(List.getElem?_eq_some_iff.1 D).1
   rwa [oH hs]at this
  have hb:j/sz<l.length:=Nat.div_lt_of_lt_mul (by rw[Nat.mul_comm];exact hj);have U:j%sz<sz:=Nat.mod_lt _ M;have e:=iF hs l (j/sz) (j%sz) hb U;(have N:j/sz*sz+j%sz=j:=by rw[Nat.div_mul_self_eq_mod_sub_self,Nat.sub_add_cancel (Nat.mod_le j sz)]);rw[N]at e;have:=J (j/sz) hb (j%sz) u (by rw[<-e];exact D)
  rwa [N]at this
section
variable {H:Type} {P:Program}
end
end
section
open Go.ChangeShapes Go.WideShapes Go.ChangeAt Go.RowKit
theorem Oo:laidOutB prog=true:=by kernel_rfl
theorem own:ownKnob prog.godebug=none:=by kernel_rfl
section
variable {H:Type} {enc:TypeId×Value->H}
theorem pN{W W':World}(hb:Below W W W'):∀{ts:List TypeId}{vs:List Value}{ds:List (DataW H)}{ps:List MemPlace},(∀t∈ts,prog.readableRec t=true/\t<prog.types.size) ->
  DataW.TrodAll enc prog W 0 (fun _=>true) true ts vs ds ps->(∀x∈ps,x.block<W.heap.size)->DataW.TrodAll enc prog W' 0 (fun b=>decide (b<W.heap.size)) true ts vs ds ps
 |[],vs,ds,ps,_,h,_=>by obtain⟨rfl,rfl,rfl⟩:=trodAll_nil h;exact trodAll_mk0
 |t::ts,vs,ds,ps,I,h,J=>by obtain⟨v,vs',d,ds',p,q,rfl,rfl,rfl,N,M⟩:=trodAll_cons h;have D:=I t (by simp);exact trodAll_cons_mk (Below.trod Oo D.1 D.2 N hb (fun x hx=>J x (by simp[hx]))) (pN hb (fun t' ht'=>I t' (by simp[ht'])) M (fun x hx=>J x (by simp[hx])))
theorem IH{fn:Func}{s:ChangeSpec}{W W':World}{args:Array Value}{ds gs:List (DataW H)}{before:List MemPlace}{fresh handsOn:Bool}
  (U:DataW.Whole enc prog fn.params.toList s.vars false W args.toList ds gs before)(hv:s.vars=[])
  (J:(s.fn H (ds++[])).results=[.lit (.bool true)])(I:(s.fn H (ds++[])).args=ds)(D:(s.fn H (ds++[])).vars=[])
  (M:fn.resultTypes = #[4])(hr:∀t∈fn.params.toList,prog.readableRec t=true/\t<prog.types.size)(hb:Below W W W'):
  s.post enc prog fn false fresh handsOn false W args (.bool true) W':=by
 have N:=U.lt;have O:=U;obtain⟨p,q,hA,hV,rfl,gb,ga⟩:=U;rw[hv]at hV;obtain⟨rfl,rfl⟩:=trodVars_none hV;refine⟨ds,[],p++[],[],p,[],O,?_,?_,?_,hb.frame _,fun h=>by cases h⟩
 ·rw[J,M];exact trodAll_cons_mk (shut_bool underlying4 true) trodAll_mk0
 ·rw[I];exact pN hb hr hA (fun x hx=>N x (by simp[hx]))
 ·rw[hv,D];rfl
end
end
end Go.Proofs.YtiebcdeafofgdaaGreatDoor
namespace Go.Proofs
section
open Go.Shelf
def Tryz.laysDecode_ren:Go.Shelf.Ren:=⟨fun|32=>94|49=>140|n=>n,fun|30=>27|21=>21|3=>3|0=>0|5=>5|4=>4|33=>99|66=>149|25=>150|69=>153|68=>152|n=>n,fun|2=>0|3=>1|n=>n⟩
theorem Tryz.laysDecode:Go.Proofs.Lays7.n32 prog Tryz.laysDecode_ren:={
 mixed:=by kernel_rfl
 f32:=func94.trans (congrArg some (by kernel_rfl))
 f49:=func140.trans (congrArg some (by kernel_rfl))
 t0:=underlying0
 a0:=isAgg0
 z0:=sizeOf0
 v0:=zeroValue0
 i0:=by kernel_rfl
 t3:=underlying3
 a3:=isAgg3
 z3:=sizeOf3
 v3:=zeroValue3
 i3:=by kernel_rfl
 t4:=underlying4
 a4:=isAgg4
 z4:=sizeOf4
 v4:=zeroValue4
 i4:=by kernel_rfl
 t5:=underlying5
 a5:=isAgg5
 z5:=sizeOf5
 v5:=zeroValue5
 i5:=by kernel_rfl
 t21:=underlying21
 a21:=isAgg21
 z21:=sizeOf21
 v21:=zeroValue21
 i21:=by kernel_rfl
 t25:=underlying150
 a25:=isAgg150
 z25:=sizeOf150
 v25:=zeroValue150
 i25:=by kernel_rfl
 t30:=underlying27
 a30:=isAgg27
 z30:=sizeOf27
 v30:=zeroValue27
 i30:=by kernel_rfl
 t33:=underlying99
 a33:=isAgg99
 z33:=sizeOf99
 v33:=zeroValue99
 i33:=by kernel_rfl
 t66:=underlying149
 a66:=isAgg149
 z66:=sizeOf149
 t68:=underlying152
 a68:=isAgg152
 z68:=sizeOf152
 v68:=zeroValue152
 i68:=by kernel_rfl
 t69:=underlying153
 a69:=isAgg153
 z69:=sizeOf153
 v69:=zeroValue153
 i69:=by kernel_rfl
 g2:=by kernel_rfl
 g3:=by kernel_rfl }
def Tryz.laysReplace_ren:Go.Shelf.Ren:=⟨fun|155=>116|154=>150|138=>199|165=>200|143=>108|166=>146|197=>201|169=>148|195=>227|218=>228|240=>197|241=>229|219=>144|260=>230|276=>226|277=>239|217=>149|225=>191|224=>192|267=>193|266=>198|314=>225|n=>n,fun|9=>9|3=>3|4=>4|72=>129|0=>0|76=>134|105=>99|21=>21|5=>5|70=>127|20=>20|37=>27|75=>133|127=>159|164=>177|46=>150|119=>149|139=>153|138=>152|146=>175|51=>174|80=>78|n=>n,fun|1=>2|3=>0|4=>1|n=>n⟩
theorem Tryz.laysReplace:Go.Proofs.Lays.n155 prog Tryz.laysReplace_ren:={
 mixed:=by kernel_rfl
 f138:=func199.trans (congrArg some (by kernel_rfl))
 f143:=func108.trans (congrArg some (by kernel_rfl))
 f154:=func150.trans (congrArg some (by kernel_rfl))
 f155:=func116.trans (congrArg some (by kernel_rfl))
 f165:=func200.trans (congrArg some (by kernel_rfl))
 f166:=func146.trans (congrArg some (by kernel_rfl))
 f169:=func148.trans (congrArg some (by kernel_rfl))
 f195:=func227.trans (congrArg some (by kernel_rfl))
 f197:=func201.trans (congrArg some (by kernel_rfl))
 f217:=func149.trans (congrArg some (by kernel_rfl))
 f218:=func228.trans (congrArg some (by kernel_rfl))
 f219:=func144.trans (congrArg some (by kernel_rfl))
 f224:=func192.trans (congrArg some (by kernel_rfl))
 f225:=func191.trans (congrArg some (by kernel_rfl))
 f240:=func197.trans (congrArg some (by kernel_rfl))
 f241:=func229.trans (congrArg some (by kernel_rfl))
 f260:=func230.trans (congrArg some (by kernel_rfl))
 f266:=func198.trans (congrArg some (by kernel_rfl))
 f267:=func193.trans (congrArg some (by kernel_rfl))
 f276:=func226.trans (congrArg some (by kernel_rfl))
 f277:=func239.trans (congrArg some (by kernel_rfl))
 f314:=func225.trans (congrArg some (by kernel_rfl))
 t0:=underlying0
 a0:=isAgg0
 z0:=sizeOf0
 v0:=zeroValue0
 t3:=underlying3
 a3:=isAgg3
 z3:=sizeOf3
 v3:=zeroValue3
 t4:=underlying4
 a4:=isAgg4
 z4:=sizeOf4
 v4:=zeroValue4
 t5:=underlying5
 a5:=isAgg5
 z5:=sizeOf5
 v5:=zeroValue5
 t9:=underlying9
 a9:=isAgg9
 z9:=sizeOf9
 v9:=zeroValue9
 t20:=underlying20
 a20:=isAgg20
 z20:=sizeOf20
 v20:=zeroValue20
 t21:=underlying21
 a21:=isAgg21
 z21:=sizeOf21
 v21:=zeroValue21
 t37:=underlying27
 a37:=isAgg27
 z37:=sizeOf27
 v37:=zeroValue27
 t46:=underlying150
 a46:=isAgg150
 z46:=sizeOf150
 v46:=zeroValue150
 t51:=underlying174
 a51:=isAgg174
 z51:=sizeOf174
 v51:=zeroValue174
 t70:=underlying127
 a70:=isAgg127
 z70:=sizeOf127
 v70:=zeroValue127
 t72:=underlying129
 a72:=isAgg129
 z72:=sizeOf129
 v72:=zeroValue129
 t75:=underlying133
 a75:=isAgg133
 z75:=sizeOf133
 v75:=zeroValue133
 t76:=underlying134
 a76:=isAgg134
 z76:=sizeOf134
 v76:=zeroValue134
 t105:=underlying99
 a105:=isAgg99
 z105:=sizeOf99
 v105:=zeroValue99
 t119:=underlying149
 a119:=isAgg149
 z119:=sizeOf149
 t127:=underlying159
 a127:=isAgg159
 z127:=sizeOf159
 v127:=zeroValue159
 t138:=underlying152
 a138:=isAgg152
 z138:=sizeOf152
 v138:=zeroValue152
 t139:=underlying153
 a139:=isAgg153
 z139:=sizeOf153
 v139:=zeroValue153
 t146:=underlying175
 a146:=isAgg175
 z146:=sizeOf175
 v146:=zeroValue175
 t164:=underlying177
 a164:=isAgg177
 z164:=sizeOf177
 v164:=zeroValue177
 g1:=by kernel_rfl
 g3:=by kernel_rfl
 g4:=by kernel_rfl }
def Tryz.laysBString_ren:Go.Shelf.Ren:=⟨fun|169=>148|n=>n,fun|70=>127|9=>9|0=>0|72=>129|37=>27|127=>159|3=>3|5=>5|n=>n,fun|n=>n⟩
theorem Tryz.laysBString:Go.Proofs.Lays.n169 prog Tryz.laysBString_ren:={
 mixed:=by kernel_rfl
 f169:=func148.trans (congrArg some (by kernel_rfl))
 t0:=underlying0
 a0:=isAgg0
 z0:=sizeOf0
 v0:=zeroValue0
 t3:=underlying3
 a3:=isAgg3
 z3:=sizeOf3
 v3:=zeroValue3
 t9:=underlying9
 a9:=isAgg9
 z9:=sizeOf9
 v9:=zeroValue9
 t37:=underlying27
 a37:=isAgg27
 z37:=sizeOf27
 v37:=zeroValue27
 t70:=underlying127
 a70:=isAgg127
 z70:=sizeOf127
 v70:=zeroValue127
 t72:=underlying129
 a72:=isAgg129
 z72:=sizeOf129
 v72:=zeroValue129
 t127:=underlying159
 a127:=isAgg159
 z127:=sizeOf159
 v127:=zeroValue159 }
def Tryz.laysValid_ren:Go.Shelf.Ren:=⟨fun|119=>196|n=>n,fun|21=>21|4=>4|n=>n,fun|n=>n⟩
theorem Tryz.laysValid:Go.Proofs.Lays.n119 prog Tryz.laysValid_ren:={
 mixed:=by kernel_rfl
 f119:=func196.trans (congrArg some (by kernel_rfl))
 t4:=underlying4
 a4:=isAgg4
 z4:=sizeOf4
 v4:=zeroValue4
 t21:=underlying21
 a21:=isAgg21
 z21:=sizeOf21
 v21:=zeroValue21 }
theorem Tryz.xReplace:Builder.Extra prog Tryz.laysReplace_ren:={
 sizeBuilder:=by kernel_rfl
 liesBuilder:=by kernel_rfl
 t5:=underlying5
 a5:=isAgg5
 z5:=sizeOf5
 v5:=zeroValue5
 infoByte:=by kernel_rfl
 cellsByte:=by kernel_rfl
 sizeByte:=by kernel_rfl
 neB5:=by decide }
theorem Tryz.xBString:Builder.Extra prog Tryz.laysBString_ren:={
 sizeBuilder:=by kernel_rfl
 liesBuilder:=by kernel_rfl
 t5:=underlying5
 a5:=isAgg5
 z5:=sizeOf5
 v5:=zeroValue5
 infoByte:=by kernel_rfl
 cellsByte:=by kernel_rfl
 sizeByte:=by kernel_rfl
 neB5:=by decide }
end
end Go.Proofs
