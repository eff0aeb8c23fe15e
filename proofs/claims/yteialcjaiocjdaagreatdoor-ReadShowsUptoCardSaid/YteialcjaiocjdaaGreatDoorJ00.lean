/-
  Parts of the proof: Words Enc Node Qc Open Law Shelf4. By an AI agent.
-/
import Derived.Test.YteialcjaiocjdaaGreatDoorChecked
import Derived.Test.YteialcjaiocjdaaGreatDoorProg
import Derived.Below
import Derived.Laws.OwnMore
import Derived.Deep.AppendLies
import Derived.Deep.Draws
import Derived.Maps.AppendAt
import Derived.RegionTactic
import Derived.OwnWalk
import Derived.Laws.Rows
import Derived.BigQuiet
import Derived.Deep.Slices
import Derived.Deep.Fields
import Derived.ChangeSame
import Derived.ProofKit
import Derived.OpenShut
import Derived.Deep.DeepHandedRow
import Derived.Lib.LaidTab
import Derived.SizedLaws
import Derived.Shelf.Spec.DecodeRune
import Derived.Shelf.Strings.Replace
import Derived.Shelf.Strings.Builder1
import Derived.Shelf.Small.Utf8
import Derived.Ground.NamesProg
import Derived.Ground.Names7Prog
import Derived.Shelf.Lays
import Derived.Shelf.Lays7
open Go.Proofs.Tryz
namespace Go.Proofs.YteialcjaiocjdaaGreatDoor
section
open Go.RowKit
theorem gB:type_of% @if_neg:=@if_neg
theorem gG:type_of% @if_pos:=@if_pos
theorem gT:type_of% @List.getElem?_eq_getElem:=@List.getElem?_eq_getElem
theorem jE:type_of% @List.flatMap_cons:=@List.flatMap_cons
theorem jH:type_of% @List.length_drop:=@List.length_drop
theorem jI:type_of% @Go.RowKit.Below.heap_alloc:=@Go.RowKit.Below.heap_alloc
theorem jS:type_of% @List.eq_nil_of_length_eq_zero:=@List.eq_nil_of_length_eq_zero
theorem jT:type_of% @List.map_cons:=@List.map_cons
theorem jU:type_of% @Go.RowKit.Below.heap_setCell:=@Go.RowKit.Below.heap_setCell
theorem kJ:type_of% @Nat.eq_zero_or_pos:=@Nat.eq_zero_or_pos
theorem kL:type_of% @Nat.lt_or_ge:=@Nat.lt_or_ge
theorem kN:type_of% @Array.getElem?_eq_none:=@Array.getElem?_eq_none
theorem kY:type_of% @Go.World.cell?_of_block:=@Go.World.cell?_of_block
theorem qe:type_of% @Nat.one_mul:=@Nat.one_mul
theorem qh:type_of% @Go.run_underlying:=@Go.run_underlying
theorem qq:type_of% @Go.heap_alloc_new:=@Go.heap_alloc_new
theorem qv:type_of% @Go.World.news_of_block:=@Go.World.news_of_block
theorem vj:type_of% @Go.wpList_plain:=@Go.wpList_plain
instance:Coe World Nat:=⟨fun w=>w.heap.size⟩
instance:Coe Nat Value:=⟨fun b=>.pointer (some ⟨b,0,none⟩)⟩
instance:Coe Int Value:=⟨.int .i64⟩
instance:Coe ByteArray Value:=⟨.string⟩
abbrev BA:=ByteArray
theorem au{a b c:World}(h:Below a a b)(h':Below b b c):Below a a c:=h.trans (h'.mono h.size)
theorem nX(a:Addr)(n:Nat):(a.add n).block=a.block:=by unfold Addr.add;split<;>rfl
theorem DQ(a:Addr)(i j:Nat):(a.add i).add j=a.add (i+j):=by unfold Addr.add;by_cases I:i=0<;>by_cases D:j=0<;>simp[I,D,Nat.add_assoc]
def co(w:World)(B size:Nat)(A:Option Addr)(n:Nat)(xs:List Value):Prop:=
 xs.length=n*size/\(0<n->∃ad,A=some ad/\ad.block<B/\∀j u,xs[j]? = some u->w.cell? (ad.add j)=some u)
section
variable {w w':World} {B B' size n:Nat} {A:Option Addr} {xs:List Value}
theorem co.at_{k:Nat}(h:co w B 1 A n xs)(J:k<n):∃ad u,A=some ad/\ad.block<B/\xs[k]? = some u/\w.cell? (ad.add k)=some u:=by obtain⟨ad,e,hb,I⟩:=h.2 (by omega);(have D:k<xs.length:=by have:=h.1;omega);exact⟨ad,xs[k],e,hb,gT D,I k _ (gT D)⟩
theorem co.keep(h:co w B size A n xs)(I:∀p:Addr,p.block<B->w'.cell? p=w.cell? p):co w' B size A n xs:=
 ⟨h.1,fun D=>by obtain⟨ad,e,hb,J⟩:=h.2 D;exact⟨ad,e,hb,fun j u hu=>(I _ (by rw[nX];exact hb)).trans (J j u hu)⟩⟩
theorem co.more(h:co w B size A n xs)(hB:B<=B'):co w B' size A n xs:=
 ⟨h.1,fun D=>by obtain⟨ad,e,hb,I⟩:=h.2 D;exact⟨ad,e,by omega,I⟩⟩
theorem co.below(h:co w B size A n xs)(hb:Below B w w'):co w' B size A n xs:=h.keep fun _ hp=>hb.cell hp
theorem co.drew(h:co w B size A n xs):co w.drew B size A n xs:=h
theorem co.drewN(h:co w B size A n xs)(k:Nat):co (w.drewN k) B size A n xs:=h
theorem co.alloc(h:co w B size A n xs)(hB:B<=w.heap.size)(o:Obj):co (w.alloc o) B size A n xs:=h.keep fun p hp=>World.cell?_alloc_lt w o p (by omega)
theorem co.setCell(h:co w B size A n xs){p:Addr}(hB:B<=p.block)(u:Value):co (w.setCell p u) B size A n xs:=
 h.keep fun q hq=>World.cell?_setCell_other w p q u (fun e=>by subst e;omega)
theorem co.grown(h:co w B size A n xs){row:Option Nat}(I:w.grownBy w' row)(hB:B<=w.heap.size)(D:∀g,row=some g->B<=g):co w' B size A n xs:=
 h.keep fun p hp=>kY (I.block p.block (by omega) (fun e=>by have:=D _ e.symm;omega))
theorem co.cut(h:co w B size A n xs){k cap:Nat}(J:k<=n)(M:n<=cap):
  co w B size (if cap=k then A else A.map (·.add (k*size))) (n-k) (xs.drop (k*size)):=by refine⟨by rw[jH,h.1,Nat.sub_mul],fun I=>?_⟩;obtain⟨ad,rfl,hb,D⟩:=h.2 (by omega);rw[gB (by omega)];refine⟨ad.add (k*size),rfl,by rw[nX];exact hb,fun j u hu=>?_⟩;rw[DQ];exact D _ u (by rw[<-hu,List.getElem?_drop])
theorem co.of_own{base:Nat}{e:TypeId}{c:Nat}(h:w.ownsRow base e size (.slice A n c) n xs):co w w.heap.size size A n xs:=by refine⟨h.1,fun J=>?_⟩;obtain⟨g,cap,I,_,D⟩:=h.form J;(have M:A=some ⟨g,0,none⟩:=by injection I);subst M;exact⟨_,rfl,D,h.cells (g:=g) rfl⟩
end
def aq(w:World)(g:Nat)(t:TypeId)(cs:Array Value):Prop:=w.heap[g]? = some (.cells cs t (0,0))
section
variable {w w':World} {g:Nat} {t:TypeId} {cs:Array Value}
theorem aq.lt(h:aq w g t cs):g<w.heap.size:=by
 rcases kL g w.heap.size with D|hge
 ·exact D
 ·unfold aq at h;rw[kN hge]at h;cases h
theorem aq.cell(h:aq w g t cs)(i:Nat):w.cell? ⟨g,i,none⟩=cs[i]? :=cell_of_row w g i cs t (0,0) h
theorem aq.frozen(h:aq w g t cs)(i:Nat):w.frozen? ⟨g,i,none⟩=false:=by unfold aq at h;simp[World.frozen?,h]
theorem aq.new(w:World)(t:TypeId)(cs:Array Value):aq (w.alloc (.cells cs t)) w.heap.size t cs:=qq w _
theorem aq.drew(h:aq w g t cs):aq w.drew g t cs:=h
theorem aq.drewN(h:aq w g t cs)(n:Nat):aq (w.drewN n) g t cs:=h
theorem aq.alloc(h:aq w g t cs)(o:Obj):aq (w.alloc o) g t cs:=(jI w o g h.lt).trans h
theorem aq.set_(h:aq w g t cs)(i:Nat)(u:Value):aq (w.setCell ⟨g,i,none⟩ u) g t (cs.setIfInBounds i u):=by unfold aq at h |-;simp[World.setCell,Array.getElem?_modify,h]
theorem aq.far(h:aq w g t cs){p:Addr}(D:g≠p.block)(u:Value):aq (w.setCell p u) g t cs:=(jU w p u g D).trans h
theorem aq.below{B:Nat}(h:aq w g t cs)(hb:Below B w w')(D:g<B):aq w' g t cs:=(hb.block g D).trans h
theorem aq.bl(h:aq w g t cs)(hb:Below w w w'):aq w' g t cs:=h.below hb h.lt
theorem aq.grown{row:Option Nat}(h:aq w g t cs)(hb:w.grownBy w' row)(D:some g≠row:=by intro e;injection e with e;omega):aq w' g t cs:=(hb.block g h.lt D).trans h
end
section
variable {P:Program} (w:World)
theorem rU(base:Nat)(t ty e:TypeId)(i:TypeInfo)(size:Nat)(J:P.underlying t=some (.slice e))(M:P.info? e=some i)
  (v:Value)(n:Nat)(xs:List Value)(D:w.ownsRow base e size v n xs)(c:Nat):(Builtin.append_ #[t,t] ty #[v,.slice none 0 c]).run P w=.ok v w:=by
 rcases D.2 with⟨rfl,rfl⟩|⟨g,cap,cur,rfl,_,_,I,_⟩
 ·simp[Builtin.append_,run_underlying J,sizeOf,typeInfo,M,Builtin.lenOf,Builtin.firstCells]
 ·simp[Builtin.append_,run_underlying J,sizeOf,typeInfo,M,Builtin.lenOf,Builtin.firstCells,I,storeCells]
theorem uA(base:Nat)(t ty e:TypeId)(i:TypeInfo)(z:Value)(size bytes:Nat)(ht:P.underlying t=some (.slice e))(hi:P.info? e=some i)(hz:i.zero=some z)
  (M:i.size=size)(gd:i.bytes=bytes)(ga:z.cells.size=size)(gb:0<size)
  (v:Value)(n:Nat)(xs:List Value)(D:w.ownsRow base e size v n xs)
  (B:Nat)(A:Option Addr)(m c:Nat)(news:List Value)(hr:co w B size A m news)(h1:∀u∈news,u.oneCell'=true)
  (ge:n+m<=maxLen)(J:(n+m)*bytes<=140737488355328)(N:base<=w.heap.size):
  ∃ v' w',(Builtin.append_ #[t,t] ty #[v,.slice A m c]).run P w=.ok v' w'/\w'.ownsRow base e size v' (n+m) (xs++news)/\w.grownBy w' v.ownBlock /\
    (v'.ownBlock=v.ownBlock\/v'.ownBlock=some w.heap.size):=by
 rcases A with _|ad
 ·have hm:m=0:=by
   rcases kJ m with O|O
   ·exact O
   ·obtain⟨ad,h,_⟩:=hr.2 O;cases h
  subst hm;have hn:news=[]:=jS (by simpa using hr.1);subst hn;exact⟨v,w,rU w base t ty e i size ht hi v n xs D c,by simpa using D,World.grownBy.refl w _,.inl rfl⟩
 ·have I:∀j u,news[j]? = some u->w.cell? (ad.add j)=some u:=by
   intro j u hu;rcases kJ m with O|O
   ·subst O;have hn:news=[]:=jS (by simpa using hr.1);subst hn;simp at hu
   ·obtain⟨ad',h,_,hc⟩:=hr.2 O;injection h with h;subst h;exact hc j u hu
  obtain⟨v',w',U,h2,h3,_,h5⟩:=run_append_own_at (P:=P) w base t ty e i z size bytes ht hi hz M gd ga gb v n xs D ad m c news hr.1 I h1 ge J N;exact⟨v',w',U,h2,h3,h5⟩
theorem p7{o:Oper}{a:Act}{K:Act->World->Prop}{Q:Exit->Act->World->Prop}(s x:Operand)(t:TypeId)
  (ho:o.op=.call { callee:=.builtin .append,args:=#[s,x],argTypes:=#[t,t] })
  (base:Nat)(e:TypeId)(i:TypeInfo)(z:Value)(size bytes:Nat)(ht:P.underlying t=some (.slice e))(hi:P.info? e=some i)(hz:i.zero=some z)
  (I:i.size=size)(ga:i.bytes=bytes)(O:z.cells.size=size)(U:0<size)
  (v:Value)(n:Nat)(xs:List Value)(hs:a.eval s=v)(N:w.ownsRow base e size v n xs)
  (B:Nat)(A:Option Addr)(m c:Nat)(news:List Value)(hx:a.eval x=.slice A m c)(hr:co w B size A m news)(h1:∀u∈news,u.oneCell'=true)
  (gb:n+m<=maxLen)(D:(n+m)*bytes<=140737488355328)(J:base<=w.heap.size)
  (h:∀v' w',w'.ownsRow base e size v' (n+m) (xs++news)->w.grownBy w' v.ownBlock->(v'.ownBlock=v.ownBlock\/v'.ownBlock=some w.heap.size)->K (a.put o.dst v') w'):o.wp P a w K Q:=by obtain⟨v',w',M,h2,h3,h4⟩:=uA (P:=P) w base t o.type e i z size bytes ht hi hz I ga O U v n xs N B A m c news hr h1 gb D J;unfold Oper.wp execOp;simp only[ho,resolve,invoke,builtin,Sem.run_bind,Sem.run_pure,Result.andThen_ok,List.map_toArray,jT,List.map_nil,hs,hx,M];exact h v' w' h2 h3 h4
theorem rV{ops:Array Oper}{rest:List Oper}{o:Oper}{a:Act}{Q:Exit->Act->World->Prop}(U:o.guard=none)(s x:Operand)(t:TypeId)
  (ho:o.op=.call { callee:=.builtin .append,args:=#[s,x],argTypes:=#[t,t] })
  (base:Nat)(e:TypeId)(i:TypeInfo)(z:Value)(size bytes:Nat)(ht:P.underlying t=some (.slice e))(hi:P.info? e=some i)(hz:i.zero=some z)
  (I:i.size=size)(ga:i.bytes=bytes)(N:z.cells.size=size)(O:0<size)
  (v:Value)(n:Nat)(xs:List Value)(hs:a.eval s=v)(M:w.ownsRow base e size v n xs)
  (B:Nat)(A:Option Addr)(m c:Nat)(news:List Value)(hx:a.eval x=.slice A m c)(hr:co w B size A m news)(h1:∀u∈news,u.oneCell'=true)
  (gb:n+m<=maxLen)(D:(n+m)*bytes<=140737488355328)(J:base<=w.heap.size)
  (h:∀v' w',w'.ownsRow base e size v' (n+m) (xs++news)->w.grownBy w' v.ownBlock->(v'.ownBlock=v.ownBlock\/v'.ownBlock=some w.heap.size)->wpList P ops Q rest (a.put o.dst v') w'):wpList P ops Q (o::rest) a w:=
 vj U fun _ hK=>p7 w s x t ho base e i z size bytes ht hi hz I ga N O v n xs hs M B A m c news hx hr h1 gb D J fun v' w' h2 h3 h4=>hK _ _ (h v' w' h2 h3 h4)
theorem fm{ops:Array Oper}{o:Oper}{a:Act}{K:Act->World->Prop}{Q:Exit->Act->World->Prop}{E:Prop}(U:o.guard=none)(s x:Operand)(t:TypeId)
  (ho:o.op=.call { callee:=.builtin .append,args:=#[s,x],argTypes:=#[t,t] })
  (base:Nat)(e:TypeId)(i:TypeInfo)(z:Value)(size bytes:Nat)(ht:P.underlying t=some (.slice e))(hi:P.info? e=some i)(hz:i.zero=some z)
  (I:i.size=size)(ga:i.bytes=bytes)(N:z.cells.size=size)(O:0<size)
  (v:Value)(n:Nat)(xs:List Value)(hs:a.eval s=v)(M:w.ownsRow base e size v n xs)
  (B:Nat)(A:Option Addr)(m c:Nat)(news:List Value)(hx:a.eval x=.slice A m c)(hr:co w B size A m news)(h1:∀u∈news,u.oneCell'=true)
  (gb:n+m<=maxLen)(D:(n+m)*bytes<=140737488355328)(J:base<=w.heap.size)
  (h:∀v' w',w'.ownsRow base e size v' (n+m) (xs++news)->w.grownBy w' v.ownBlock->(v'.ownBlock=v.ownBlock\/v'.ownBlock=some w.heap.size)->K (a.put o.dst v') w'):
  if Region.wanted o (yielded ops a.tmps)=true then Oper.wp P o a w K Q else E:=by(have hw:Region.wanted o (yielded ops a.tmps)=true:=by simp[Region.wanted,U]);rw[gG hw];exact p7 w s x t ho base e i z size bytes ht hi hz I ga N O v n xs hs M B A m c news hx hr h1 gb D J h
end
section
variable {α:Type} {enc:α->List Value} {sz:Nat}
theorem oW(hs:∀x,(enc x).length=sz)(xs:List α):(xs.flatMap enc).length=xs.length*sz:=by
 induction xs with
 |nil=>simp
 |cons x xs ih=>simp[List.flatMap_cons,ih,hs,Nat.add_mul,Nat.add_comm]
theorem i6(hs:∀x,(enc x).length=sz):∀(xs:List α)(i j:Nat)(h:i<xs.length),j<sz->(xs.flatMap enc)[i*sz+j]? = (enc xs[i])[j]?
 |[],i,j,h,_=>by simp at h
 |x::xs,0,j,_,D=>by rw[jE,List.getElem?_append_left (by rw[hs];omega)];simp
 | x::xs,i+1,j,h,D=>by
  (have h':i<xs.length:=by simpa using h);rw[jE,List.getElem?_append_right (by rw[hs,Nat.add_mul];omega),hs,Nat.add_mul,qe,
   show i*sz+sz+j-sz=i*sz+j by omega,i6 hs xs i j h' D]
  simp
theorem nY{w:World}{a:Addr}{v:Value}(h:w.cell? a=some v):a=⟨a.block,a.off,none⟩:=by
 obtain⟨b,o,s⟩:=a;cases s with
 |none=>rfl
 |some s=>unfold World.cell? at h;simp at h;split at h<;>simp at h
theorem oX(b o i:Nat):(⟨b,o,none⟩:Addr).add i=⟨b,o+i,none⟩:=by
 unfold Addr.add;split
 ·rename_i h;subst h;rfl
 ·rfl
theorem iQ(w:World)(b o:Nat)(v:Value):w.grownBy (w.setCell ⟨b,o,none⟩ v) (some b):=
 ⟨rfl,rfl,rfl,by simp[World.setCell],fun k _ hne=>jU w ⟨b,o,none⟩ v k (fun e=>hne (by rw[e]))⟩
theorem p8{w w':World}{b B:Nat}(h:w.grownBy w' (some b))(hb:B<=b)(hB:B<=w.heap.size):Below B w w':=
 ⟨h.os,h.tape,h.output,h.size,fun k hk=>h.block k (by omega) (fun e=>by injection e with e;omega)⟩
theorem di{w w':World}(r:Option Nat)(h:Below w w w'):w.grownBy w' r:=⟨h.os,h.tape,h.output,h.size,fun k hk _=>h.block k hk⟩
theorem aq.new_at{w:World}{n:Nat}(h:w.heap.size=n)(t:TypeId)(cs:Array Value):aq (w.alloc (.cells cs t)) n t cs:=by subst h;exact aq.new w t cs
theorem co.el{w:World}{B n:Nat}{A:Option Addr}{xs:List α}(h:co w B sz A n (xs.flatMap enc))(hs:∀x,(enc x).length=sz)(h0:0<sz)(hn:xs.length=n){i:Nat}(hi:i<n):
  ∃b off,A=some ⟨b,off,none⟩/\b<B/\∀k(J:k<xs.length)j u,(enc xs[k])[j]? = some u->w.cell? ⟨b,off+k*sz+j,none⟩=some u:=by obtain⟨ad,hA,hb,U⟩:=h.2 (by omega);(have key:∀k(J:k<xs.length)j u,(enc xs[k])[j]? = some u->w.cell? (ad.add (k*sz+j))=some u:=by intro k J j u I;(have O:j<sz:=by have:=(List.getElem?_eq_some_iff.1 I).1;rw[hs]at this;exact this);exact U _ u (by rw[i6 hs xs k j J O];exact I));have N:∃u,(enc (xs[0]'(by omega)))[0]? = some u:=⟨(enc (xs[0]'(by omega)))[0]'(by rw[hs];exact h0),gT _⟩;obtain⟨u,I⟩:=N;have D:=key 0 (by omega) 0 u I;rw[show 0*sz+0=0 by omega,show ad.add 0=ad from rfl]at D;have D:=nY D;obtain⟨b,o,s⟩:=ad;(have M:s=none:=by simpa using D);subst M;refine⟨b,o,hA,hb,fun k J j u I=>?_⟩;have:=key k J j u I;rw[oX,<-Nat.add_assoc]at this;exact this
theorem uB{w:World}{g n B size:Nat}{t:TypeId}{fr:Nat×Nat}{cs:List Value}(h:w.heap[g]? = some (.cells cs.toArray t fr))(D:cs.length=n*size)(hB:g<B):co w B size (some ⟨g,0,none⟩) n cs:=
 ⟨D,fun _=>⟨_,rfl,hB,fun j u hu=>qv h j u (by simpa using hu)⟩⟩
theorem tE{w:World}{n:Nat}(h:w.heap.size=n)(o:Obj):(w.alloc o).heap[n]? = some o:=by subst h;exact qq w o
theorem co.len{w:World}{B n:Nat}{A:Option Addr}{xs:List α}(h:co w B sz A n (xs.flatMap enc))(hs:∀x,(enc x).length=sz)(D:0<sz):xs.length=n:=by have:=h.1;rw[oW hs]at this;exact Nat.eq_of_mul_eq_mul_right D this
end
inductive Nd where
 |mk (kind:Int) (text:ByteArray) (kids:List Nd) (pos:Int)
namespace Nd
def kind:Nd->Int| .mk k _ _ _=>k
def text:Nd->ByteArray| .mk _ t _ _=>t
def kids:Nd->List Nd| .mk _ _ l _=>l
def pos:Nd->Int| .mk _ _ _ a=>a
@[simp] theorem kind_mk (k t l a):(Nd.mk k t l a).kind=k:=rfl
@[simp] theorem text_mk (k t l a):(Nd.mk k t l a).text=t:=rfl
@[simp] theorem kids_mk (k t l a):(Nd.mk k t l a).kids=l:=rfl
@[simp] theorem pos_mk (k t l a):(Nd.mk k t l a).pos=a:=rfl
theorem eta(n:Nd):n=.mk n.kind n.text n.kids n.pos:=by cases n;rfl
end Nd
def cc:Nd:=.mk 0 ⟨#[]⟩ [] 0
theorem aj(w:World)(c:Array Value):Below w w (w.alloc (.cells c 24))/\aq (w.alloc (.cells c 24)) w.heap.size 24 c:=⟨(Below.refl w.heap.size w).alloc (Nat.le_refl _) _,aq.new w _ _⟩
def fh(X:Nat->Prop)(w:World)(size:Nat)(A:Option Addr)(n:Nat)(xs:List Value):Prop:=
 xs.length=n*size/\(0<n->∃b off,A=some ⟨b,off,none⟩/\X b/\∀j u,xs[j]? = some u->w.cell? ⟨b,off+j,none⟩=some u)
mutual
def bG(X:Nat->Prop)(w:World):Nd->List Value->Prop
 | .mk k t l a,cs=>∃A cap xs,cs=[.int .i64 k,.string t,.slice A l.length cap,.int .i64 a]/\l.length<=cap/\fh X w 4 A l.length xs/\ah X w l xs
def ah(X:Nat->Prop)(w:World):List Nd->List Value->Prop
 |[],xs=>xs=[]
 |n::l,xs=>∃ys zs,xs=ys++zs/\bG X w n ys/\ah X w l zs
end
section
variable {X Y:Nat->Prop} {w w':World}
theorem fh.mono{size n:Nat}{A:Option Addr}{xs:List Value}(D:∀b,X b->b<w.heap.size->Y b)(h:fh X w size A n xs)(hs:0<size):fh Y w size A n xs:=
 ⟨h.1,fun I=>by obtain⟨b,off,e,hb,J⟩:=h.2 I;(have M:0<xs.length:=by rw[h.1];exact Nat.mul_pos I hs);have N:=J 0 xs[0] (List.getElem?_eq_getElem M);exact⟨b,off,e,D b hb (World.block_lt_of_cell? w _ N),J⟩⟩
theorem fh.keep{size n:Nat}{A:Option Addr}{xs:List Value}(M:∀b,X b->b<w.heap.size->w'.heap[b]? = w.heap[b]?)(h:fh X w size A n xs):fh X w' size A n xs:=
 ⟨h.1,fun J=>by obtain⟨b,off,e,hb,N⟩:=h.2 J;refine⟨b,off,e,hb,fun j u hu=>?_⟩;have I:=N j u hu;have D:=World.block_lt_of_cell? w _ I;exact(World.cell?_of_block (a:=⟨b,off+j,none⟩) (M b hb D)).trans I⟩
mutual
theorem bG.mono(D:∀b,X b->b<w.heap.size->Y b):∀(n:Nd)(cs:List Value),bG X w n cs->bG Y w n cs
 | .mk k t l a,cs,h=>by unfold bG at h |-;obtain⟨A,cap,xs,e,M,I,J⟩:=h;exact⟨A,cap,xs,e,M,I.mono D (by omega),ah.mono D l xs J⟩
theorem ah.mono(D:∀b,X b->b<w.heap.size->Y b):∀(l:List Nd)(xs:List Value),ah X w l xs->ah Y w l xs
 |[],xs,h=>by unfold ah at h |-;exact h
 |n::l,xs,h=>by unfold ah at h |-;obtain⟨ys,zs,e,J,I⟩:=h;exact⟨ys,zs,e,bG.mono D n ys J,ah.mono D l zs I⟩
end
mutual
theorem bG.keep(D:∀b,X b->b<w.heap.size->w'.heap[b]? = w.heap[b]?):∀(n:Nd)(cs:List Value),bG X w n cs->bG X w' n cs
 | .mk k t l a,cs,h=>by unfold bG at h |-;obtain⟨A,cap,xs,e,M,I,J⟩:=h;exact⟨A,cap,xs,e,M,I.keep D,ah.keep D l xs J⟩
theorem ah.keep(D:∀b,X b->b<w.heap.size->w'.heap[b]? = w.heap[b]?):∀(l:List Nd)(xs:List Value),ah X w l xs->ah X w' l xs
 |[],xs,h=>by unfold ah at h |-;exact h
 |n::l,xs,h=>by unfold ah at h |-;obtain⟨ys,zs,e,J,I⟩:=h;exact⟨ys,zs,e,bG.keep D n ys J,ah.keep D l zs I⟩
end
theorem bG.len{n:Nd}{cs:List Value}(h:bG X w n cs):cs.length=4:=by cases n;unfold bG at h;obtain⟨A,cap,xs,e,_⟩:=h;simp[e]
theorem ah.len:∀{l:List Nd}{xs:List Value},ah X w l xs->xs.length=l.length*4
 |[],xs,h=>by unfold ah at h;simp[h]
 |n::l,xs,h=>by unfold ah at h;obtain⟨ys,zs,rfl,I,D⟩:=h;rw[List.length_append,I.len,D.len,List.length_cons];omega
theorem ah.nil:ah X w [] []:=by unfold ah;rfl
theorem ah.cons{n:Nd}{l:List Nd}{ys zs:List Value}(I:bG X w n ys)(D:ah X w l zs):ah X w (n::l) (ys++zs):=by unfold ah;exact⟨ys,zs,rfl,I,D⟩
theorem ah.one{n:Nd}{ys:List Value}(D:bG X w n ys):ah X w [n] ys:=by
 have:=ah.cons D (ah.nil (X:=X) (w:=w))
 rwa [List.append_nil]at this
theorem ah.app:∀{l m:List Nd}{xs ys:List Value},ah X w l xs->ah X w m ys->ah X w (l++m) (xs++ys)
 |[],m,xs,ys,D,I=>by unfold ah at D;subst D;exact I
 |n::l,m,xs,ys,D,I=>by unfold ah at D;obtain⟨us,bs,rfl,M,J⟩:=D;rw[List.append_assoc];exact ah.cons M (ah.app J I)
theorem ah.get:∀{l:List Nd}{xs:List Value}(i:Nat)(D:i<l.length),ah X w l xs->∃ys,bG X w l[i] ys/\(∀j,j<4->xs[i*4+j]? = ys[j]?)
 |[],xs,i,D,h=>absurd D (by simp)
 |n::l,xs,0,D,h=>by unfold ah at h;obtain⟨ys,zs,rfl,I,J⟩:=h;refine⟨ys,I,fun j hj=>?_⟩;rw[List.getElem?_append_left (by rw[I.len];omega)];simp
 |n::l,xs,i+1,D,h=>by unfold ah at h;obtain⟨ys,zs,rfl,I,J⟩:=h;obtain⟨us,N,M⟩:=ah.get i (by simpa using D) J;refine⟨us,N,fun j hj=>?_⟩;rw[List.getElem?_append_right (by rw[I.len];omega),I.len,show(i+1)*4+j-4=i*4+j by omega];exact M j hj
theorem ah.split:∀{l:List Nd}{xs:List Value}(k:Nat),ah X w l xs->ah X w (l.take k) (xs.take (k*4))/\ah X w (l.drop k) (xs.drop (k*4))
 |l,xs,0,h=>by simpa using⟨ah.nil,h⟩
 |[],xs,k+1,h=>by unfold ah at h;subst h;constructor<;>simpa using ah.nil
 |n::l,xs,k+1,h=>by unfold ah at h;obtain⟨ys,zs,rfl,D,M⟩:=h;obtain⟨J,I⟩:=ah.split k M;(have O:(ys++zs).take ((k+1)*4)=ys++zs.take (k*4):=by rw[List.take_append,D.len,List.take_of_length_le (by rw[D.len];omega),show(k+1)*4-4=k*4 by omega]);(have N:(ys++zs).drop ((k+1)*4)=zs.drop (k*4):=by rw[List.drop_append,D.len,List.drop_of_length_le (by rw[D.len];omega),show(k+1)*4-4=k*4 by omega,List.nil_append]);rw[O,N,List.take_succ_cons,List.drop_succ_cons];exact⟨ah.cons D J,I⟩
def af(X:Nat->Prop)(w:World)(v:Value)(n:Nd):Prop:=
 ∃A cap xs,v=.agg #[n.kind,n.text,.slice A n.kids.length cap,n.pos]/\n.kids.length<=cap/\fh X w 4 A n.kids.length xs/\ah X w n.kids xs
theorem af.toC{v:Value}{n:Nd}(h:af X w v n):∃A cap,v=.agg #[n.kind,n.text,.slice A n.kids.length cap,n.pos]/\bG X w n [.int .i64 n.kind,.string n.text,.slice A n.kids.length cap,.int .i64 n.pos]:=by obtain⟨A,cap,xs,e,J,I,D⟩:=h;refine⟨A,cap,e,?_⟩;cases n;unfold bG;exact⟨A,cap,xs,rfl,J,I,D⟩
theorem bG.toV{n:Nd}{cs:List Value}(h:bG X w n cs):∃A cap xs,cs=[.int .i64 n.kind,.string n.text,.slice A n.kids.length cap,.int .i64 n.pos]/\n.kids.length<=cap/\fh X w 4 A n.kids.length xs/\ah X w n.kids xs:=by cases n;unfold bG at h;exact h
theorem af.mono{v:Value}{n:Nd}(D:∀b,X b->b<w.heap.size->Y b)(h:af X w v n):af Y w v n:=by obtain⟨A,cap,xs,e,M,J,I⟩:=h;exact⟨A,cap,xs,e,M,J.mono D (by omega),I.mono D⟩
theorem af.keep{v:Value}{n:Nd}(D:∀b,X b->b<w.heap.size->w'.heap[b]? = w.heap[b]?)(h:af X w v n):af X w' v n:=by obtain⟨A,cap,xs,e,M,J,I⟩:=h;exact⟨A,cap,xs,e,M,J.keep D,I.keep D⟩
theorem af.zero:af X w (.agg #[.int .i64 0,.string ⟨#[]⟩,.slice none 0 0,.int .i64 0]) cc:=
 ⟨none,0,[],rfl,Nat.le_refl _,⟨rfl,fun h=>absurd h (by simp[cc])⟩,ah.nil⟩
end
abbrev nv(n:Nd)(A:Option Addr)(c:Nat):Array Value:=#[n.kind,n.text,.slice A n.kids.length c,n.pos]
structure Wd(S:World->Prop)where
 wd:World
 ok:S wd
theorem iE{P:Program}(S:World->Prop){id:Nat}{Q:Exit->Act->World->Prop}{a:Act}{w:World}{l:List Oper}(D:P.follows .mixedOrders=true)(hB:Region.lexB .any l.toArray=true)(I:S w.drew)
  (h:wpQuiet P l.toArray (fun w'=>∃n:Wd S,w'=n.wd) (fun a'=>∀n:Wd S,Q .normal a' n.wd) l a):(Code.region id l.toArray true).wp P Q a w:=
 wp_region_quiet (C:=fun w'=>∃n:Wd S,w'=n.wd) D hB ⟨⟨w.drew,I⟩,rfl⟩ (by(have e:(fun a'=>∀w',(∃n:Wd S,w'=n.wd)->Q .normal a' w')=fun a'=>∀n:Wd S,Q .normal a' n.wd:=by funext a';exact propext ⟨fun h n=>h _ ⟨n,rfl⟩,fun h w'⟨n,e⟩=>e▸h n⟩);rw[e];simpa using h)
instance(w:World):Nonempty (Wd (Below w w)):=⟨⟨w,Below.refl _ _⟩⟩
theorem cF(W:World){P:Program}{id:Nat}{Q:Exit->Act->World->Prop}{a:Act}{l:List Oper}
 (h:wpQuiet P l.toArray (fun w'=>∃n:Wd (Below W W),w'=n.wd) (fun a'=>∀n:Wd (Below W W),Q .normal a' n.wd) l a)(D:P.follows .mixedOrders=true:=by kernel_rfl)(hB:Region.lexB .any l.toArray=true:=by kernel_rfl):
 (Code.region id l.toArray true).wp P Q a W:=iE (Below W W) D hB (Below.refl _ _).drew h
theorem ub{P:Program}{W:World}{f:FuncId}{args:Array Value}{v:Ending}(h:∀m:Wd (Below W W),Calls P f args m.wd fun e w'=>e=v/\Below m.wd.heap.size m.wd w')(m:Wd (Below W W)):Calls P f args m.wd fun e w'=>e=v/\∃m':Wd (Below W W),w'=m'.wd:=
 (h m).mono (fun _ w'⟨D,hb⟩=>⟨D,⟨w',au m.ok hb⟩,rfl⟩)
end
section
open Go.RowKit Go.ChangeShapes Go.WideShapes Go.Deep
section
variable {H:Type} {enc:TypeId×Value->H} {P:Program} {w:World} {base:Nat} {spare:Nat->Bool} {held:Bool}
end
theorem tF{α:Type}{P:Nat->α->Prop}:∀n:Nat,(∀i,i<n->∃x,P i x)->∃l:List α,l.length=n/\∀i(h:i<l.length),P i l[i]
 |0,_=>⟨[],rfl,fun i h=>absurd h (by simp)⟩
 |n+1,h=>by
  obtain⟨l,D,J⟩:=tF n (fun i hi=>h i (by omega));obtain⟨x,I⟩:=h n (by omega);refine⟨l++[x],by simp[D],fun i hi=>?_⟩;by_cases e:i<l.length
  ·rw[List.getElem_append_left e];exact J i e
  ·(have:i=n:=by simp at hi;omega);subst this;rw[List.getElem_append_right (by omega)];simpa[D]using I
theorem uC{α:Type}{enc:α->List Value}{sz:Nat}{w:World}{a:Addr}{n:Nat}{l:List α}(hs:∀x,(enc x).length=sz)(M:0<sz)(O:l.length=n)
  (J:∀i(h:i<l.length)j u,(enc l[i])[j]? = some u->w.cell? (a.add (i*sz+j))=some u):co w w.heap.size sz (some a) n (l.flatMap enc):=by
 refine⟨by rw[oW hs,O],fun I=>⟨a,rfl,?_,fun j u D=>?_⟩⟩
 ·(have hl:0<l.length:=by omega);have D:(enc l[0])[0]? = some ((enc l[0])[0]'(by rw[hs];exact M)):=List.getElem?_eq_getElem _;have:=World.block_lt_of_cell? w _ (J 0 hl 0 _ D)
  rwa [nX]at this
 ·have hj:j<l.length*sz:=by
   have:=(List.getElem?_eq_some_iff.1 D).1
   rwa [oW hs]at this
  have hb:j/sz<l.length:=Nat.div_lt_of_lt_mul (by rw[Nat.mul_comm];exact hj);have U:j%sz<sz:=Nat.mod_lt _ M;have e:=i6 hs l (j/sz) (j%sz) hb U;(have N:j/sz*sz+j%sz=j:=by rw[Nat.div_mul_self_eq_mod_sub_self,Nat.sub_add_cancel (Nat.mod_le j sz)]);rw[N]at e;have:=J (j/sz) hb (j%sz) u (by rw[<-e];exact D)
  rwa [N]at this
section
variable {H:Type} {P:Program}
end
end
section
open Go.ChangeShapes Go.WideShapes Go.ChangeAt Go.RowKit
theorem OV:laidOutB prog=true:=by kernel_rfl
theorem own:ownKnob prog.godebug=none:=by kernel_rfl
section
variable {H:Type} {enc:TypeId×Value->H}
theorem p9{W W':World}(hb:Below W W W'):∀{ts:List TypeId}{vs:List Value}{ds:List (DataW H)}{ps:List MemPlace},(∀t∈ts,prog.readableRec t=true/\t<prog.types.size) ->
  DataW.TrodAll enc prog W 0 (fun _=>true) true ts vs ds ps->(∀x∈ps,x.block<W.heap.size)->DataW.TrodAll enc prog W' 0 (fun b=>decide (b<W.heap.size)) true ts vs ds ps
 |[],vs,ds,ps,_,h,_=>by obtain⟨rfl,rfl,rfl⟩:=trodAll_nil h;exact trodAll_mk0
 |t::ts,vs,ds,ps,I,h,J=>by obtain⟨v,vs',d,ds',p,q,rfl,rfl,rfl,N,M⟩:=trodAll_cons h;have D:=I t (by simp);exact trodAll_cons_mk (Below.trod OV D.1 D.2 N hb (fun x hx=>J x (by simp[hx]))) (p9 hb (fun t' ht'=>I t' (by simp[ht'])) M (fun x hx=>J x (by simp[hx])))
theorem I8{fn:Func}{s:ChangeSpec}{W W':World}{args:Array Value}{ds gs:List (DataW H)}{before:List MemPlace}{fresh handsOn:Bool}
  (U:DataW.Whole enc prog fn.params.toList s.vars false W args.toList ds gs before)(hv:s.vars=[])
  (J:(s.fn H (ds++[])).results=[.lit (.bool true)])(I:(s.fn H (ds++[])).args=ds)(D:(s.fn H (ds++[])).vars=[])
  (M:fn.resultTypes = #[4])(hr:∀t∈fn.params.toList,prog.readableRec t=true/\t<prog.types.size)(hb:Below W W W'):
  s.post enc prog fn false fresh handsOn false W args (.bool true) W':=by
 have N:=U.lt;have O:=U;obtain⟨p,q,hA,hV,rfl,gb,ga⟩:=U;rw[hv]at hV;obtain⟨rfl,rfl⟩:=trodVars_none hV;refine⟨ds,[],p++[],[],p,[],O,?_,?_,?_,hb.frame _,fun h=>by cases h⟩
 ·rw[J,M];exact trodAll_cons_mk (shut_bool underlying4 true) trodAll_mk0
 ·rw[I];exact p9 hb hr hA (fun x hx=>N x (by simp[hx]))
 ·rw[hv,D];rfl
end
end
end Go.Proofs.YteialcjaiocjdaaGreatDoor
namespace Go.Proofs
section
open Go.Shelf
def Tryz.laysDecode_ren:Go.Shelf.Ren:=⟨fun|32=>119|49=>179|n=>n,fun|30=>27|21=>21|3=>3|0=>0|5=>5|4=>4|33=>112|66=>164|25=>144|69=>167|68=>166|n=>n,fun|2=>1|3=>2|n=>n⟩
theorem Tryz.laysDecode:Go.Proofs.Lays7.n32 prog Tryz.laysDecode_ren:={
 mixed:=by kernel_rfl
 f32:=func119.trans (congrArg some (by kernel_rfl))
 f49:=func179.trans (congrArg some (by kernel_rfl))
 t0:=underlying0
 a0:=isAgg0
 z0:=sizeOf0
 v0:=zeroValue0
 i0:=by kernel_rfl
 t3:=underlying3
 a3:=isAgg3
 z3:=sizeOf3
 v3:=zeroValue3
 i3:=by kernel_rfl
 t4:=underlying4
 a4:=isAgg4
 z4:=sizeOf4
 v4:=zeroValue4
 i4:=by kernel_rfl
 t5:=underlying5
 a5:=isAgg5
 z5:=sizeOf5
 v5:=zeroValue5
 i5:=by kernel_rfl
 t21:=underlying21
 a21:=isAgg21
 z21:=sizeOf21
 v21:=zeroValue21
 i21:=by kernel_rfl
 t25:=underlying144
 a25:=isAgg144
 z25:=sizeOf144
 v25:=zeroValue144
 i25:=by kernel_rfl
 t30:=underlying27
 a30:=isAgg27
 z30:=sizeOf27
 v30:=zeroValue27
 i30:=by kernel_rfl
 t33:=underlying112
 a33:=isAgg112
 z33:=sizeOf112
 v33:=zeroValue112
 i33:=by kernel_rfl
 t66:=underlying164
 a66:=isAgg164
 z66:=sizeOf164
 t68:=underlying166
 a68:=isAgg166
 z68:=sizeOf166
 v68:=zeroValue166
 i68:=by kernel_rfl
 t69:=underlying167
 a69:=isAgg167
 z69:=sizeOf167
 v69:=zeroValue167
 i69:=by kernel_rfl
 g2:=by kernel_rfl
 g3:=by kernel_rfl }
def Tryz.laysReplace_ren:Go.Shelf.Ren:=⟨fun|155=>95|154=>138|138=>191|165=>192|143=>87|166=>134|197=>193|169=>136|195=>219|218=>220|240=>189|241=>221|219=>132|260=>222|276=>218|277=>231|217=>137|225=>183|224=>184|267=>185|266=>190|314=>217|n=>n,fun|9=>9|3=>3|4=>4|72=>120|0=>0|76=>125|105=>112|21=>21|5=>5|70=>118|20=>20|37=>27|75=>124|127=>149|164=>171|46=>144|119=>164|139=>167|138=>166|146=>169|51=>168|80=>67|n=>n,fun|1=>0|3=>1|4=>2|n=>n⟩
theorem Tryz.laysReplace:Go.Proofs.Lays.n155 prog Tryz.laysReplace_ren:={
 mixed:=by kernel_rfl
 f138:=func191.trans (congrArg some (by kernel_rfl))
 f143:=func87.trans (congrArg some (by kernel_rfl))
 f154:=func138.trans (congrArg some (by kernel_rfl))
 f155:=func95.trans (congrArg some (by kernel_rfl))
 f165:=func192.trans (congrArg some (by kernel_rfl))
 f166:=func134.trans (congrArg some (by kernel_rfl))
 f169:=func136.trans (congrArg some (by kernel_rfl))
 f195:=func219.trans (congrArg some (by kernel_rfl))
 f197:=func193.trans (congrArg some (by kernel_rfl))
 f217:=func137.trans (congrArg some (by kernel_rfl))
 f218:=func220.trans (congrArg some (by kernel_rfl))
 f219:=func132.trans (congrArg some (by kernel_rfl))
 f224:=func184.trans (congrArg some (by kernel_rfl))
 f225:=func183.trans (congrArg some (by kernel_rfl))
 f240:=func189.trans (congrArg some (by kernel_rfl))
 f241:=func221.trans (congrArg some (by kernel_rfl))
 f260:=func222.trans (congrArg some (by kernel_rfl))
 f266:=func190.trans (congrArg some (by kernel_rfl))
 f267:=func185.trans (congrArg some (by kernel_rfl))
 f276:=func218.trans (congrArg some (by kernel_rfl))
 f277:=func231.trans (congrArg some (by kernel_rfl))
 f314:=func217.trans (congrArg some (by kernel_rfl))
 t0:=underlying0
 a0:=isAgg0
 z0:=sizeOf0
 v0:=zeroValue0
 t3:=underlying3
 a3:=isAgg3
 z3:=sizeOf3
 v3:=zeroValue3
 t4:=underlying4
 a4:=isAgg4
 z4:=sizeOf4
 v4:=zeroValue4
 t5:=underlying5
 a5:=isAgg5
 z5:=sizeOf5
 v5:=zeroValue5
 t9:=underlying9
 a9:=isAgg9
 z9:=sizeOf9
 v9:=zeroValue9
 t20:=underlying20
 a20:=isAgg20
 z20:=sizeOf20
 v20:=zeroValue20
 t21:=underlying21
 a21:=isAgg21
 z21:=sizeOf21
 v21:=zeroValue21
 t37:=underlying27
 a37:=isAgg27
 z37:=sizeOf27
 v37:=zeroValue27
 t46:=underlying144
 a46:=isAgg144
 z46:=sizeOf144
 v46:=zeroValue144
 t51:=underlying168
 a51:=isAgg168
 z51:=sizeOf168
 v51:=zeroValue168
 t70:=underlying118
 a70:=isAgg118
 z70:=sizeOf118
 v70:=zeroValue118
 t72:=underlying120
 a72:=isAgg120
 z72:=sizeOf120
 v72:=zeroValue120
 t75:=underlying124
 a75:=isAgg124
 z75:=sizeOf124
 v75:=zeroValue124
 t76:=underlying125
 a76:=isAgg125
 z76:=sizeOf125
 v76:=zeroValue125
 t105:=underlying112
 a105:=isAgg112
 z105:=sizeOf112
 v105:=zeroValue112
 t119:=underlying164
 a119:=isAgg164
 z119:=sizeOf164
 t127:=underlying149
 a127:=isAgg149
 z127:=sizeOf149
 v127:=zeroValue149
 t138:=underlying166
 a138:=isAgg166
 z138:=sizeOf166
 v138:=zeroValue166
 t139:=underlying167
 a139:=isAgg167
 z139:=sizeOf167
 v139:=zeroValue167
 t146:=underlying169
 a146:=isAgg169
 z146:=sizeOf169
 v146:=zeroValue169
 t164:=underlying171
 a164:=isAgg171
 z164:=sizeOf171
 v164:=zeroValue171
 g1:=by kernel_rfl
 g3:=by kernel_rfl
 g4:=by kernel_rfl }
def Tryz.laysBString_ren:Go.Shelf.Ren:=⟨fun|169=>136|n=>n,fun|70=>118|9=>9|0=>0|72=>120|37=>27|127=>149|3=>3|5=>5|n=>n,fun|n=>n⟩
theorem Tryz.laysBString:Go.Proofs.Lays.n169 prog Tryz.laysBString_ren:={
 mixed:=by kernel_rfl
 f169:=func136.trans (congrArg some (by kernel_rfl))
 t0:=underlying0
 a0:=isAgg0
 z0:=sizeOf0
 v0:=zeroValue0
 t3:=underlying3
 a3:=isAgg3
 z3:=sizeOf3
 v3:=zeroValue3
 t9:=underlying9
 a9:=isAgg9
 z9:=sizeOf9
 v9:=zeroValue9
 t37:=underlying27
 a37:=isAgg27
 z37:=sizeOf27
 v37:=zeroValue27
 t70:=underlying118
 a70:=isAgg118
 z70:=sizeOf118
 v70:=zeroValue118
 t72:=underlying120
 a72:=isAgg120
 z72:=sizeOf120
 v72:=zeroValue120
 t127:=underlying149
 a127:=isAgg149
 z127:=sizeOf149
 v127:=zeroValue149 }
def Tryz.laysValid_ren:Go.Shelf.Ren:=⟨fun|119=>188|n=>n,fun|21=>21|4=>4|n=>n,fun|n=>n⟩
theorem Tryz.laysValid:Go.Proofs.Lays.n119 prog Tryz.laysValid_ren:={
 mixed:=by kernel_rfl
 f119:=func188.trans (congrArg some (by kernel_rfl))
 t4:=underlying4
 a4:=isAgg4
 z4:=sizeOf4
 v4:=zeroValue4
 t21:=underlying21
 a21:=isAgg21
 z21:=sizeOf21
 v21:=zeroValue21 }
theorem Tryz.xReplace:Builder.Extra prog Tryz.laysReplace_ren:={
 sizeBuilder:=by kernel_rfl
 liesBuilder:=by kernel_rfl
 t5:=underlying5
 a5:=isAgg5
 z5:=sizeOf5
 v5:=zeroValue5
 infoByte:=by kernel_rfl
 cellsByte:=by kernel_rfl
 sizeByte:=by kernel_rfl
 neB5:=by decide }
theorem Tryz.xBString:Builder.Extra prog Tryz.laysBString_ren:={
 sizeBuilder:=by kernel_rfl
 liesBuilder:=by kernel_rfl
 t5:=underlying5
 a5:=isAgg5
 z5:=sizeOf5
 v5:=zeroValue5
 infoByte:=by kernel_rfl
 cellsByte:=by kernel_rfl
 sizeByte:=by kernel_rfl
 neB5:=by decide }
end
end Go.Proofs
