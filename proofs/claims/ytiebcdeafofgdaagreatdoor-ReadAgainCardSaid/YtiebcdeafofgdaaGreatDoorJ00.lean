/-
  Parts of the proof: Words Enc Node Qc Law Shelf4 Shelf Shelf3 Lspec Rspec Tspec. By an AI agent.
-/
import Derived.Test.YtiebcdeafofgdaaGreatDoorChecked
import Derived.Test.YtiebcdeafofgdaaGreatDoorProg
import Derived.Below
import Derived.Laws.OwnMore
import Derived.Deep.AppendLies
import Derived.Deep.Draws
import Derived.Maps.AppendAt
import Derived.RegionTactic
import Derived.OwnWalk
import Derived.Laws.Rows
import Derived.BigQuiet
import Derived.Deep.Slices
import Derived.Deep.Fields
import Derived.ChangeSame
import Derived.ProofKit
import Derived.OpenShut
import Derived.Deep.DeepHandedRow
import Derived.Lib.LaidTab
import Derived.SizedLaws
import Derived.Shelf.Spec.DecodeRune
import Derived.Shelf.Strings.Replace
import Derived.Shelf.Strings.Builder1
import Derived.Shelf.Small.Utf8
import Derived.Ground.NamesProg
import Derived.Ground.Names7Prog
import Derived.Shelf.Lays
import Derived.Shelf.Lays7
import Derived.Shelf.Strings.Search3
import Derived.Shelf.Strings.Cut
import Derived.Shelf.Strings.Prefix
import Derived.Shelf.Small.Strs
import Derived.Shelf.Strings.OnBuilder
import Derived.Lib.IndexMore
namespace Go.Proofs.YtiebcdeafofgdaaGreatDoor
section
open Go.RowKit
theorem gA:type_of% @if_neg:=@if_neg
theorem gE:type_of% @if_pos:=@if_pos
theorem gQ:type_of% @List.getElem?_eq_getElem:=@List.getElem?_eq_getElem
theorem gR:type_of% @List.length_drop:=@List.length_drop
theorem gW:type_of% @Go.RowKit.Below.heap_alloc:=@Go.RowKit.Below.heap_alloc
theorem jA:type_of% @List.flatMap_cons:=@List.flatMap_cons
theorem jQ:type_of% @Go.RowKit.Below.heap_setCell:=@Go.RowKit.Below.heap_setCell
theorem jR:type_of% @List.eq_nil_of_length_eq_zero:=@List.eq_nil_of_length_eq_zero
theorem jW:type_of% @List.map_cons:=@List.map_cons
theorem jZ:type_of% @Nat.lt_or_ge:=@Nat.lt_or_ge
theorem kI:type_of% @Array.getElem?_eq_none:=@Array.getElem?_eq_none
theorem kQ:type_of% @Nat.eq_zero_or_pos:=@Nat.eq_zero_or_pos
theorem kS:type_of% @Go.World.cell?_of_block:=@Go.World.cell?_of_block
theorem kY:type_of% @List.getElem?_drop:=@List.getElem?_drop
theorem qj:type_of% @Go.run_underlying:=@Go.run_underlying
theorem qp:type_of% @List.mem_cons_of_mem:=@List.mem_cons_of_mem
theorem qq:type_of% @Go.heap_alloc_new:=@Go.heap_alloc_new
theorem qx:type_of% @Go.World.news_of_block:=@Go.World.news_of_block
theorem va:type_of% @Go.World.grownBy.refl:=@Go.World.grownBy.refl
theorem vn:type_of% @Go.wpList_plain:=@Go.wpList_plain
theorem vz:type_of% @List.foldl_cons:=@List.foldl_cons
theorem vB:type_of% @Nat.one_mul:=@Nat.one_mul
instance:Coe World Nat:=⟨fun w=>w.heap.size⟩
instance:Coe Nat Value:=⟨fun b=>.pointer (some ⟨b,0,none⟩)⟩
abbrev BA:=ByteArray
theorem a8{a b c:World}(h:Below a a b)(h':Below b b c):Below a a c:=h.trans (h'.mono h.size)
theorem sB(a:Addr)(n:Nat):(a.add n).block=a.block:=by unfold Addr.add;split<;>rfl
theorem ED(a:Addr)(i j:Nat):(a.add i).add j=a.add (i+j):=by unfold Addr.add;by_cases I:i=0<;>by_cases D:j=0<;>simp[I,D,Nat.add_assoc]
def cw(w:World)(B size:Nat)(A:Option Addr)(n:Nat)(xs:List Value):Prop:=
 xs.length=n*size/\(0<n->∃ad,A=some ad/\ad.block<B/\∀j u,xs[j]? = some u->w.cell? (ad.add j)=some u)
section
variable {w w':World} {B B' size n:Nat} {A:Option Addr} {xs:List Value}
theorem cw.at_{k:Nat}(h:cw w B 1 A n xs)(I:k<n):∃ad u,A=some ad/\ad.block<B/\xs[k]? = some u/\w.cell? (ad.add k)=some u:=by obtain⟨ad,e,hb,hc⟩:=h.2 (by omega);(have D:k<xs.length:=by have:=h.1;omega);exact⟨ad,xs[k],e,hb,gQ D,hc k _ (gQ D)⟩
theorem cw.keep(h:cw w B size A n xs)(I:∀p:Addr,p.block<B->w'.cell? p=w.cell? p):cw w' B size A n xs:=
 ⟨h.1,fun D=>by obtain⟨ad,e,hb,hc⟩:=h.2 D;exact⟨ad,e,hb,fun j u hu=>(I _ (by rw[sB];exact hb)).trans (hc j u hu)⟩⟩
theorem cw.more(h:cw w B size A n xs)(hB:B<=B'):cw w B' size A n xs:=
 ⟨h.1,fun D=>by obtain⟨ad,e,hb,hc⟩:=h.2 D;exact⟨ad,e,by omega,hc⟩⟩
theorem cw.below(h:cw w B size A n xs)(hb:Below B w w'):cw w' B size A n xs:=h.keep fun _ hp=>hb.cell hp
theorem cw.drew(h:cw w B size A n xs):cw w.drew B size A n xs:=h
theorem cw.drewN(h:cw w B size A n xs)(k:Nat):cw (w.drewN k) B size A n xs:=h
theorem cw.alloc(h:cw w B size A n xs)(hB:B<=w.heap.size)(o:Obj):cw (w.alloc o) B size A n xs:=h.keep fun p hp=>World.cell?_alloc_lt w o p (by omega)
theorem cw.setCell(h:cw w B size A n xs){p:Addr}(hB:B<=p.block)(u:Value):cw (w.setCell p u) B size A n xs:=
 h.keep fun q hq=>World.cell?_setCell_other w p q u (fun e=>by subst e;omega)
theorem cw.grown(h:cw w B size A n xs){row:Option Nat}(I:w.grownBy w' row)(hB:B<=w.heap.size)(D:∀g,row=some g->B<=g):cw w' B size A n xs:=
 h.keep fun p hp=>kS (I.block p.block (by omega) (fun e=>by have:=D _ e.symm;omega))
theorem cw.cut(h:cw w B size A n xs){k cap:Nat}(J:k<=n)(hc:n<=cap):
  cw w B size (if cap=k then A else A.map (·.add (k*size))) (n-k) (xs.drop (k*size)):=by refine⟨by rw[gR,h.1,Nat.sub_mul],fun I=>?_⟩;obtain⟨ad,rfl,hb,D⟩:=h.2 (by omega);rw[gA (by omega)];refine⟨ad.add (k*size),rfl,by rw[sB];exact hb,fun j u hu=>?_⟩;rw[ED];exact D _ u (by rw[<-hu,kY])
theorem cw.of_own{base:Nat}{e:TypeId}{c:Nat}(h:w.ownsRow base e size (.slice A n c) n xs):cw w w.heap.size size A n xs:=by refine⟨h.1,fun J=>?_⟩;obtain⟨g,cap,I,_,D⟩:=h.form J;(have M:A=some ⟨g,0,none⟩:=by injection I);subst M;exact⟨_,rfl,D,h.cells (g:=g) rfl⟩
end
def au(w:World)(g:Nat)(t:TypeId)(cs:Array Value):Prop:=w.heap[g]? = some (.cells cs t (0,0))
section
variable {w w':World} {g:Nat} {t:TypeId} {cs:Array Value}
theorem au.lt(h:au w g t cs):g<w.heap.size:=by
 rcases jZ g w.heap.size with D|hge
 ·exact D
 ·unfold au at h;rw[kI hge]at h;cases h
theorem au.cell(h:au w g t cs)(i:Nat):w.cell? ⟨g,i,none⟩=cs[i]? :=cell_of_row w g i cs t (0,0) h
theorem au.frozen(h:au w g t cs)(i:Nat):w.frozen? ⟨g,i,none⟩=false:=by unfold au at h;simp[World.frozen?,h]
theorem au.new(w:World)(t:TypeId)(cs:Array Value):au (w.alloc (.cells cs t)) w.heap.size t cs:=qq w _
theorem au.drew(h:au w g t cs):au w.drew g t cs:=h
theorem au.drewN(h:au w g t cs)(n:Nat):au (w.drewN n) g t cs:=h
theorem au.alloc(h:au w g t cs)(o:Obj):au (w.alloc o) g t cs:=(gW w o g h.lt).trans h
theorem au.set_(h:au w g t cs)(i:Nat)(u:Value):au (w.setCell ⟨g,i,none⟩ u) g t (cs.setIfInBounds i u):=by unfold au at h |-;simp[World.setCell,Array.getElem?_modify,h]
theorem au.far(h:au w g t cs){p:Addr}(D:g≠p.block)(u:Value):au (w.setCell p u) g t cs:=(jQ w p u g D).trans h
theorem au.below{B:Nat}(h:au w g t cs)(hb:Below B w w')(D:g<B):au w' g t cs:=(hb.block g D).trans h
theorem au.bl(h:au w g t cs)(hb:Below w w w'):au w' g t cs:=h.below hb h.lt
theorem au.grown{row:Option Nat}(h:au w g t cs)(hb:w.grownBy w' row)(D:some g≠row:=by intro e;injection e with e;omega):au w' g t cs:=(hb.block g h.lt D).trans h
end
section
variable {P:Program} (w:World)
theorem sC(base:Nat)(t ty e:TypeId)(i:TypeInfo)(size:Nat)(J:P.underlying t=some (.slice e))(M:P.info? e=some i)
  (v:Value)(n:Nat)(xs:List Value)(D:w.ownsRow base e size v n xs)(c:Nat):(Builtin.append_ #[t,t] ty #[v,.slice none 0 c]).run P w=.ok v w:=by
 rcases D.2 with⟨rfl,rfl⟩|⟨g,cap,cur,rfl,_,_,I,_⟩
 ·simp[Builtin.append_,run_underlying J,sizeOf,typeInfo,M,Builtin.lenOf,Builtin.firstCells]
 ·simp[Builtin.append_,run_underlying J,sizeOf,typeInfo,M,Builtin.lenOf,Builtin.firstCells,I,storeCells]
theorem wD(base:Nat)(t ty e:TypeId)(i:TypeInfo)(z:Value)(size bytes:Nat)(ht:P.underlying t=some (.slice e))(hi:P.info? e=some i)(hz:i.zero=some z)
  (M:i.size=size)(gd:i.bytes=bytes)(ga:z.cells.size=size)(gb:0<size)
  (v:Value)(n:Nat)(xs:List Value)(D:w.ownsRow base e size v n xs)
  (B:Nat)(A:Option Addr)(m c:Nat)(news:List Value)(hr:cw w B size A m news)(h1:∀u∈news,u.oneCell'=true)
  (ge:n+m<=maxLen)(J:(n+m)*bytes<=140737488355328)(N:base<=w.heap.size):
  ∃v' w',(Builtin.append_ #[t,t] ty #[v,.slice A m c]).run P w=.ok v' w'/\w'.ownsRow base e size v' (n+m) (xs++news)/\w.grownBy w' v.ownBlock /\
    (v'.ownBlock=v.ownBlock\/v'.ownBlock=some w.heap.size):=by
 rcases A with _|ad
 ·have hm:m=0:=by
   rcases kQ m with O|O
   ·exact O
   ·obtain⟨ad,h,_⟩:=hr.2 O;cases h
  subst hm;have hn:news=[]:=jR (by simpa using hr.1);subst hn;exact⟨v,w,sC w base t ty e i size ht hi v n xs D c,by simpa using D,va w _,.inl rfl⟩
 ·have I:∀j u,news[j]? = some u->w.cell? (ad.add j)=some u:=by
   intro j u hu;rcases kQ m with O|O
   ·subst O;have hn:news=[]:=jR (by simpa using hr.1);subst hn;simp at hu
   ·obtain⟨ad',h,_,hc⟩:=hr.2 O;injection h with h;subst h;exact hc j u hu
  obtain⟨v',w',U,h2,h3,_,h5⟩:=run_append_own_at (P:=P) w base t ty e i z size bytes ht hi hz M gd ga gb v n xs D ad m c news hr.1 I h1 ge J N;exact⟨v',w',U,h2,h3,h5⟩
theorem rI{o:Oper}{a:Act}{K:Act->World->Prop}{Q:Exit->Act->World->Prop}(s x:Operand)(t:TypeId)
  (ho:o.op=.call { callee:=.builtin .append,args:=#[s,x],argTypes:=#[t,t] })
  (base:Nat)(e:TypeId)(i:TypeInfo)(z:Value)(size bytes:Nat)(ht:P.underlying t=some (.slice e))(hi:P.info? e=some i)(hz:i.zero=some z)
  (I:i.size=size)(ga:i.bytes=bytes)(O:z.cells.size=size)(U:0<size)
  (v:Value)(n:Nat)(xs:List Value)(hs:a.eval s=v)(N:w.ownsRow base e size v n xs)
  (B:Nat)(A:Option Addr)(m c:Nat)(news:List Value)(hx:a.eval x=.slice A m c)(hr:cw w B size A m news)(h1:∀u∈news,u.oneCell'=true)
  (gb:n+m<=maxLen)(D:(n+m)*bytes<=140737488355328)(J:base<=w.heap.size)
  (h:∀v' w',w'.ownsRow base e size v' (n+m) (xs++news)->w.grownBy w' v.ownBlock->(v'.ownBlock=v.ownBlock\/v'.ownBlock=some w.heap.size)->K (a.put o.dst v') w'):o.wp P a w K Q:=by obtain⟨v',w',M,h2,h3,h4⟩:=wD (P:=P) w base t o.type e i z size bytes ht hi hz I ga O U v n xs N B A m c news hr h1 gb D J;unfold Oper.wp execOp;simp only[ho,resolve,invoke,builtin,Sem.run_bind,Sem.run_pure,Result.andThen_ok,List.map_toArray,jW,List.map_nil,hs,hx,M];exact h v' w' h2 h3 h4
theorem sD{ops:Array Oper}{rest:List Oper}{o:Oper}{a:Act}{Q:Exit->Act->World->Prop}(U:o.guard=none)(s x:Operand)(t:TypeId)
  (ho:o.op=.call { callee:=.builtin .append,args:=#[s,x],argTypes:=#[t,t] })
  (base:Nat)(e:TypeId)(i:TypeInfo)(z:Value)(size bytes:Nat)(ht:P.underlying t=some (.slice e))(hi:P.info? e=some i)(hz:i.zero=some z)
  (I:i.size=size)(ga:i.bytes=bytes)(N:z.cells.size=size)(O:0<size)
  (v:Value)(n:Nat)(xs:List Value)(hs:a.eval s=v)(M:w.ownsRow base e size v n xs)
  (B:Nat)(A:Option Addr)(m c:Nat)(news:List Value)(hx:a.eval x=.slice A m c)(hr:cw w B size A m news)(h1:∀u∈news,u.oneCell'=true)
  (gb:n+m<=maxLen)(D:(n+m)*bytes<=140737488355328)(J:base<=w.heap.size)
  (h:∀v' w',w'.ownsRow base e size v' (n+m) (xs++news)->w.grownBy w' v.ownBlock->(v'.ownBlock=v.ownBlock\/v'.ownBlock=some w.heap.size)->wpList P ops Q rest (a.put o.dst v') w'):wpList P ops Q (o::rest) a w:=
 vn U fun _ hK=>rI w s x t ho base e i z size bytes ht hi hz I ga N O v n xs hs M B A m c news hx hr h1 gb D J fun v' w' h2 h3 h4=>hK _ _ (h v' w' h2 h3 h4)
theorem fC{ops:Array Oper}{o:Oper}{a:Act}{K:Act->World->Prop}{Q:Exit->Act->World->Prop}{E:Prop}(U:o.guard=none)(s x:Operand)(t:TypeId)
  (ho:o.op=.call { callee:=.builtin .append,args:=#[s,x],argTypes:=#[t,t] })
  (base:Nat)(e:TypeId)(i:TypeInfo)(z:Value)(size bytes:Nat)(ht:P.underlying t=some (.slice e))(hi:P.info? e=some i)(hz:i.zero=some z)
  (I:i.size=size)(ga:i.bytes=bytes)(N:z.cells.size=size)(O:0<size)
  (v:Value)(n:Nat)(xs:List Value)(hs:a.eval s=v)(M:w.ownsRow base e size v n xs)
  (B:Nat)(A:Option Addr)(m c:Nat)(news:List Value)(hx:a.eval x=.slice A m c)(hr:cw w B size A m news)(h1:∀u∈news,u.oneCell'=true)
  (gb:n+m<=maxLen)(D:(n+m)*bytes<=140737488355328)(J:base<=w.heap.size)
  (h:∀v' w',w'.ownsRow base e size v' (n+m) (xs++news)->w.grownBy w' v.ownBlock->(v'.ownBlock=v.ownBlock\/v'.ownBlock=some w.heap.size)->K (a.put o.dst v') w'):
  if Region.wanted o (yielded ops a.tmps)=true then Oper.wp P o a w K Q else E:=by(have hw:Region.wanted o (yielded ops a.tmps)=true:=by simp[Region.wanted,U]);rw[gE hw];exact rI w s x t ho base e i z size bytes ht hi hz I ga N O v n xs hs M B A m c news hx hr h1 gb D J h
end
section
variable {α:Type} {enc:α->List Value} {sz:Nat}
theorem wE(hs:∀x,(enc x).length=sz)(xs:List α):(xs.flatMap enc).length=xs.length*sz:=by
 induction xs with
 |nil=>simp
 |cons x xs ih=>simp[List.flatMap_cons,ih,hs,Nat.add_mul,Nat.add_comm]
theorem mv(hs:∀x,(enc x).length=sz):∀(xs:List α)(i j:Nat)(h:i<xs.length),j<sz->(xs.flatMap enc)[i*sz+j]? = (enc xs[i])[j]?
 |[],i,j,h,_=>by simp at h
 |x::xs,0,j,_,D=>by rw[jA,List.getElem?_append_left (by rw[hs];omega)];simp
 |x::xs,i+1,j,h,D=>by
  (have h':i<xs.length:=by simpa using h);rw[jA,List.getElem?_append_right (by rw[hs,Nat.add_mul];omega),hs,Nat.add_mul,vB,
   show i*sz+sz+j-sz=i*sz+j by omega,mv hs xs i j h' D]
  simp
theorem sE{w:World}{a:Addr}{v:Value}(h:w.cell? a=some v):a=⟨a.block,a.off,none⟩:=by
 obtain⟨b,o,s⟩:=a;cases s with
 |none=>rfl
 |some s=>unfold World.cell? at h;simp at h;split at h<;>simp at h
theorem rU(b o i:Nat):(⟨b,o,none⟩:Addr).add i=⟨b,o+i,none⟩:=by
 unfold Addr.add;split
 ·rename_i h;subst h;rfl
 ·rfl
theorem lk(w:World)(b o:Nat)(v:Value):w.grownBy (w.setCell ⟨b,o,none⟩ v) (some b):=
 ⟨rfl,rfl,rfl,by simp[World.setCell],fun k _ hne=>jQ w ⟨b,o,none⟩ v k (fun e=>hne (by rw[e]))⟩
theorem eC{w w':World}{b B:Nat}(h:w.grownBy w' (some b))(hb:B<=b)(hB:B<=w.heap.size):Below B w w':=
 ⟨h.os,h.tape,h.output,h.size,fun k hk=>h.block k (by omega) (fun e=>by injection e with e;omega)⟩
theorem ak{w w':World}(r:Option Nat)(h:Below w w w'):w.grownBy w' r:=⟨h.os,h.tape,h.output,h.size,fun k hk _=>h.block k hk⟩
theorem au.new_at{w:World}{n:Nat}(h:w.heap.size=n)(t:TypeId)(cs:Array Value):au (w.alloc (.cells cs t)) n t cs:=by subst h;exact au.new w t cs
theorem cw.el{w:World}{B n:Nat}{A:Option Addr}{xs:List α}(h:cw w B sz A n (xs.flatMap enc))(hs:∀x,(enc x).length=sz)(h0:0<sz)(hn:xs.length=n){i:Nat}(hi:i<n):
  ∃b off,A=some ⟨b,off,none⟩/\b<B/\∀k(J:k<xs.length)j u,(enc xs[k])[j]? = some u->w.cell? ⟨b,off+k*sz+j,none⟩=some u:=by obtain⟨ad,U,hb,hc⟩:=h.2 (by omega);(have key:∀k(J:k<xs.length)j u,(enc xs[k])[j]? = some u->w.cell? (ad.add (k*sz+j))=some u:=by intro k J j u I;(have O:j<sz:=by have:=(List.getElem?_eq_some_iff.1 I).1;rw[hs]at this;exact this);exact hc _ u (by rw[mv hs xs k j J O];exact I));have N:∃u,(enc (xs[0]'(by omega)))[0]? = some u:=⟨(enc (xs[0]'(by omega)))[0]'(by rw[hs];exact h0),gQ _⟩;obtain⟨u,I⟩:=N;have D:=key 0 (by omega) 0 u I;rw[show 0*sz+0=0 by omega,show ad.add 0=ad from rfl]at D;have D:=sE D;obtain⟨b,o,s⟩:=ad;(have M:s=none:=by simpa using D);subst M;refine⟨b,o,U,hb,fun k J j u I=>?_⟩;have:=key k J j u I;rw[rU,<-Nat.add_assoc]at this;exact this
theorem wF{w:World}{g n B size:Nat}{t:TypeId}{fr:Nat×Nat}{cs:List Value}(h:w.heap[g]? = some (.cells cs.toArray t fr))(D:cs.length=n*size)(hB:g<B):cw w B size (some ⟨g,0,none⟩) n cs:=
 ⟨D,fun _=>⟨_,rfl,hB,fun j u hu=>qx h j u (by simpa using hu)⟩⟩
theorem uv{w:World}{n:Nat}(h:w.heap.size=n)(o:Obj):(w.alloc o).heap[n]? = some o:=by subst h;exact qq w o
theorem cw.len{w:World}{B n:Nat}{A:Option Addr}{xs:List α}(h:cw w B sz A n (xs.flatMap enc))(hs:∀x,(enc x).length=sz)(D:0<sz):xs.length=n:=by have:=h.1;rw[wE hs]at this;exact Nat.eq_of_mul_eq_mul_right D this
end
inductive Nd where
 |mk (kind:Int) (text:ByteArray) (kids:List Nd) (pos:Int)
namespace Nd
def kind:Nd->Int| .mk k _ _ _=>k
def text:Nd->ByteArray| .mk _ t _ _=>t
def kids:Nd->List Nd| .mk _ _ l _=>l
def pos:Nd->Int| .mk _ _ _ a=>a
@[simp] theorem kind_mk (k t l a):(Nd.mk k t l a).kind=k:=rfl
@[simp] theorem text_mk (k t l a):(Nd.mk k t l a).text=t:=rfl
@[simp] theorem kids_mk (k t l a):(Nd.mk k t l a).kids=l:=rfl
@[simp] theorem pos_mk (k t l a):(Nd.mk k t l a).pos=a:=rfl
theorem eta(n:Nd):n=.mk n.kind n.text n.kids n.pos:=by cases n;rfl
end Nd
def bU:Nd:=.mk 0 ⟨#[]⟩ [] 0
theorem aH(w:World)(c:Array Value):Below w w (w.alloc (.cells c 24))/\au (w.alloc (.cells c 24)) w.heap.size 24 c:=⟨(Below.refl w.heap.size w).alloc (Nat.le_refl _) _,au.new w _ _⟩
def fU(X:Nat->Prop)(w:World)(size:Nat)(A:Option Addr)(n:Nat)(xs:List Value):Prop:=
 xs.length=n*size/\(0<n->∃b off,A=some ⟨b,off,none⟩/\X b/\∀j u,xs[j]? = some u->w.cell? ⟨b,off+j,none⟩=some u)
mutual
def bK(X:Nat->Prop)(w:World):Nd->List Value->Prop
 | .mk k t l a,cs=>∃A cap xs,cs=[.int .i64 k,.string t,.slice A l.length cap,.int .i64 a]/\l.length<=cap/\fU X w 4 A l.length xs/\an X w l xs
def an(X:Nat->Prop)(w:World):List Nd->List Value->Prop
 |[],xs=>xs=[]
 |n::l,xs=>∃ys zs,xs=ys++zs/\bK X w n ys/\an X w l zs
end
section
variable {X Y:Nat->Prop} {w w':World}
theorem fU.mono{size n:Nat}{A:Option Addr}{xs:List Value}(D:∀b,X b->b<w.heap.size->Y b)(h:fU X w size A n xs)(hs:0<size):fU Y w size A n xs:=
 ⟨h.1,fun I=>by obtain⟨b,off,e,hb,hc⟩:=h.2 I;(have J:0<xs.length:=by rw[h.1];exact Nat.mul_pos I hs);have M:=hc 0 xs[0] (List.getElem?_eq_getElem J);exact⟨b,off,e,D b hb (World.block_lt_of_cell? w _ M),hc⟩⟩
theorem fU.keep{size n:Nat}{A:Option Addr}{xs:List Value}(M:∀b,X b->b<w.heap.size->w'.heap[b]? = w.heap[b]?)(h:fU X w size A n xs):fU X w' size A n xs:=
 ⟨h.1,fun J=>by obtain⟨b,off,e,hb,hc⟩:=h.2 J;refine⟨b,off,e,hb,fun j u hu=>?_⟩;have I:=hc j u hu;have D:=World.block_lt_of_cell? w _ I;exact(World.cell?_of_block (a:=⟨b,off+j,none⟩) (M b hb D)).trans I⟩
mutual
theorem bK.mono(D:∀b,X b->b<w.heap.size->Y b):∀(n:Nd)(cs:List Value),bK X w n cs->bK Y w n cs
 | .mk k t l a,cs,h=>by unfold bK at h |-;obtain⟨A,cap,xs,e,M,I,J⟩:=h;exact⟨A,cap,xs,e,M,I.mono D (by omega),an.mono D l xs J⟩
theorem an.mono(D:∀b,X b->b<w.heap.size->Y b):∀(l:List Nd)(xs:List Value),an X w l xs->an Y w l xs
 |[],xs,h=>by unfold an at h |-;exact h
 |n::l,xs,h=>by unfold an at h |-;obtain⟨ys,zs,e,J,I⟩:=h;exact⟨ys,zs,e,bK.mono D n ys J,an.mono D l zs I⟩
end
mutual
theorem bK.keep(D:∀b,X b->b<w.heap.size->w'.heap[b]? = w.heap[b]?):∀(n:Nd)(cs:List Value),bK X w n cs->bK X w' n cs
 | .mk k t l a,cs,h=>by unfold bK at h |-;obtain⟨A,cap,xs,e,M,I,J⟩:=h;exact⟨A,cap,xs,e,M,I.keep D,an.keep D l xs J⟩
theorem an.keep(D:∀b,X b->b<w.heap.size->w'.heap[b]? = w.heap[b]?):∀(l:List Nd)(xs:List Value),an X w l xs->an X w' l xs
 |[],xs,h=>by unfold an at h |-;exact h
 |n::l,xs,h=>by unfold an at h |-;obtain⟨ys,zs,e,J,I⟩:=h;exact⟨ys,zs,e,bK.keep D n ys J,an.keep D l zs I⟩
end
theorem bK.len{n:Nd}{cs:List Value}(h:bK X w n cs):cs.length=4:=by cases n;unfold bK at h;obtain⟨A,cap,xs,e,_⟩:=h;simp[e]
theorem an.len:∀{l:List Nd}{xs:List Value},an X w l xs->xs.length=l.length*4
 |[],xs,h=>by unfold an at h;simp[h]
 |n::l,xs,h=>by unfold an at h;obtain⟨ys,zs,rfl,I,D⟩:=h;rw[List.length_append,I.len,D.len,List.length_cons];omega
theorem an.nil:an X w [] []:=by unfold an;rfl
theorem an.cons{n:Nd}{l:List Nd}{ys zs:List Value}(I:bK X w n ys)(D:an X w l zs):an X w (n::l) (ys++zs):=by unfold an;exact⟨ys,zs,rfl,I,D⟩
theorem an.one{n:Nd}{ys:List Value}(D:bK X w n ys):an X w [n] ys:=by
 have:=an.cons D (an.nil (X:=X) (w:=w))
 rwa [List.append_nil]at this
theorem an.app:∀{l m:List Nd}{xs ys:List Value},an X w l xs->an X w m ys->an X w (l++m) (xs++ys)
 |[],m,xs,ys,D,I=>by unfold an at D;subst D;exact I
 |n::l,m,xs,ys,D,I=>by unfold an at D;obtain⟨us,bs,rfl,M,J⟩:=D;rw[List.append_assoc];exact an.cons M (an.app J I)
theorem an.get:∀{l:List Nd}{xs:List Value}(i:Nat)(D:i<l.length),an X w l xs->∃ys,bK X w l[i] ys/\(∀j,j<4->xs[i*4+j]? = ys[j]?)
 |[],xs,i,D,h=>absurd D (by simp)
 |n::l,xs,0,D,h=>by unfold an at h;obtain⟨ys,zs,rfl,I,J⟩:=h;refine⟨ys,I,fun j hj=>?_⟩;rw[List.getElem?_append_left (by rw[I.len];omega)];simp
 |n::l,xs,i+1,D,h=>by unfold an at h;obtain⟨ys,zs,rfl,I,J⟩:=h;obtain⟨us,N,M⟩:=an.get i (by simpa using D) J;refine⟨us,N,fun j hj=>?_⟩;rw[List.getElem?_append_right (by rw[I.len];omega),I.len,show(i+1)*4+j-4=i*4+j by omega];exact M j hj
theorem an.split:∀{l:List Nd}{xs:List Value}(k:Nat),an X w l xs->an X w (l.take k) (xs.take (k*4))/\an X w (l.drop k) (xs.drop (k*4))
 |l,xs,0,h=>by simpa using⟨an.nil,h⟩
 |[],xs,k+1,h=>by unfold an at h;subst h;constructor<;>simpa using an.nil
 |n::l,xs,k+1,h=>by unfold an at h;obtain⟨ys,zs,rfl,D,M⟩:=h;obtain⟨J,I⟩:=an.split k M;(have O:(ys++zs).take ((k+1)*4)=ys++zs.take (k*4):=by rw[List.take_append,D.len,List.take_of_length_le (by rw[D.len];omega),show(k+1)*4-4=k*4 by omega]);(have N:(ys++zs).drop ((k+1)*4)=zs.drop (k*4):=by rw[List.drop_append,D.len,List.drop_of_length_le (by rw[D.len];omega),show(k+1)*4-4=k*4 by omega,List.nil_append]);rw[O,N,List.take_succ_cons,List.drop_succ_cons];exact⟨an.cons D J,I⟩
def aq(X:Nat->Prop)(w:World)(v:Value)(n:Nd):Prop:=
 ∃A cap xs,v=.agg #[.int .i64 n.kind,.string n.text,.slice A n.kids.length cap,.int .i64 n.pos]/\n.kids.length<=cap/\fU X w 4 A n.kids.length xs/\an X w n.kids xs
theorem aq.toC{v:Value}{n:Nd}(h:aq X w v n):∃A cap,v=.agg #[.int .i64 n.kind,.string n.text,.slice A n.kids.length cap,.int .i64 n.pos]/\bK X w n [.int .i64 n.kind,.string n.text,.slice A n.kids.length cap,.int .i64 n.pos]:=by obtain⟨A,cap,xs,e,J,I,D⟩:=h;refine⟨A,cap,e,?_⟩;cases n;unfold bK;exact⟨A,cap,xs,rfl,J,I,D⟩
theorem bK.toV{n:Nd}{cs:List Value}(h:bK X w n cs):∃A cap xs,cs=[.int .i64 n.kind,.string n.text,.slice A n.kids.length cap,.int .i64 n.pos]/\n.kids.length<=cap/\fU X w 4 A n.kids.length xs/\an X w n.kids xs:=by cases n;unfold bK at h;exact h
theorem aq.mono{v:Value}{n:Nd}(D:∀b,X b->b<w.heap.size->Y b)(h:aq X w v n):aq Y w v n:=by obtain⟨A,cap,xs,e,M,J,I⟩:=h;exact⟨A,cap,xs,e,M,J.mono D (by omega),I.mono D⟩
theorem aq.keep{v:Value}{n:Nd}(D:∀b,X b->b<w.heap.size->w'.heap[b]? = w.heap[b]?)(h:aq X w v n):aq X w' v n:=by obtain⟨A,cap,xs,e,M,J,I⟩:=h;exact⟨A,cap,xs,e,M,J.keep D,I.keep D⟩
theorem aq.zero:aq X w (.agg #[.int .i64 0,.string ⟨#[]⟩,.slice none 0 0,.int .i64 0]) bU:=
 ⟨none,0,[],rfl,Nat.le_refl _,⟨rfl,fun h=>absurd h (by simp[bU])⟩,an.nil⟩
end
abbrev nv(n:Nd)(A:Option Addr)(c:Nat):Array Value:=#[.int .i64 n.kind,.string n.text,.slice A n.kids.length c,.int .i64 n.pos]
structure Wd(S:World->Prop)where
 wd:World
 ok:S wd
theorem i7{P:Program}(S:World->Prop){id:Nat}{Q:Exit->Act->World->Prop}{a:Act}{w:World}{l:List Oper}(D:P.follows .mixedOrders=true)(hB:Region.lexB .any l.toArray=true)(I:S w.drew)
  (h:wpQuiet P l.toArray (fun w'=>∃n:Wd S,w'=n.wd) (fun a'=>∀n:Wd S,Q .normal a' n.wd) l a):(Code.region id l.toArray true).wp P Q a w:=
 wp_region_quiet (C:=fun w'=>∃n:Wd S,w'=n.wd) D hB ⟨⟨w.drew,I⟩,rfl⟩ (by(have e:(fun a'=>∀w',(∃n:Wd S,w'=n.wd)->Q .normal a' w')=fun a'=>∀n:Wd S,Q .normal a' n.wd:=by funext a';exact propext ⟨fun h n=>h _ ⟨n,rfl⟩,fun h w'⟨n,e⟩=>e▸h n⟩);rw[e];simpa using h)
instance(w:World):Nonempty (Wd (Below w w)):=⟨⟨w,Below.refl _ _⟩⟩
theorem cQ(W:World){P:Program}{id:Nat}{Q:Exit->Act->World->Prop}{a:Act}{l:List Oper}
 (h:wpQuiet P l.toArray (fun w'=>∃n:Wd (Below W W),w'=n.wd) (fun a'=>∀n:Wd (Below W W),Q .normal a' n.wd) l a)(D:P.follows .mixedOrders=true:=by kernel_rfl)(hB:Region.lexB .any l.toArray=true:=by kernel_rfl):
 (Code.region id l.toArray true).wp P Q a W:=i7 (Below W W) D hB (Below.refl _ _).drew h
theorem uV{P:Program}{W:World}{f:FuncId}{args:Array Value}{v:Ending}(h:∀m:Wd (Below W W),Calls P f args m.wd fun e w'=>e=v/\Below m.wd.heap.size m.wd w')(m:Wd (Below W W)):Calls P f args m.wd fun e w'=>e=v/\∃m':Wd (Below W W),w'=m'.wd:=
 (h m).mono (fun _ w'⟨D,hb⟩=>⟨D,⟨w',a8 m.ok hb⟩,rfl⟩)
end
section
open Go.ChangeShapes Go.WideShapes Go.ChangeAt Go.RowKit
theorem OL:laidOutB Tryz.prog=true:=by kernel_rfl
theorem own:ownKnob Tryz.prog.godebug=none:=by kernel_rfl
section
variable {H:Type} {enc:TypeId×Value->H}
theorem rJ{W W':World}(hb:Below W W W'):∀{ts:List TypeId}{vs:List Value}{ds:List (DataW H)}{ps:List MemPlace},(∀t∈ts,Tryz.prog.readableRec t=true/\t<Tryz.prog.types.size) ->
  DataW.TrodAll enc Tryz.prog W 0 (fun _=>true) true ts vs ds ps->(∀x∈ps,x.block<W.heap.size)->DataW.TrodAll enc Tryz.prog W' 0 (fun b=>decide (b<W.heap.size)) true ts vs ds ps
 |[],vs,ds,ps,_,h,_=>by obtain⟨rfl,rfl,rfl⟩:=trodAll_nil h;exact trodAll_mk0
 |t::ts,vs,ds,ps,I,h,J=>by obtain⟨v,vs',d,ds',p,q,rfl,rfl,rfl,N,M⟩:=trodAll_cons h;have D:=I t (by simp);exact trodAll_cons_mk (Below.trod OL D.1 D.2 N hb (fun x hx=>J x (by simp[hx]))) (rJ hb (fun t' ht'=>I t' (by simp[ht'])) M (fun x hx=>J x (by simp[hx])))
theorem Li{fn:Func}{s:ChangeSpec}{W W':World}{args:Array Value}{ds gs:List (DataW H)}{before:List MemPlace}{fresh handsOn:Bool}
  (hW:DataW.Whole enc Tryz.prog fn.params.toList s.vars false W args.toList ds gs before)(U:s.vars=[])
  (J:(s.fn H (ds++[])).results=[.lit (.bool true)])(I:(s.fn H (ds++[])).args=ds)(D:(s.fn H (ds++[])).vars=[])
  (M:fn.resultTypes = #[4])(hr:∀t∈fn.params.toList,Tryz.prog.readableRec t=true/\t<Tryz.prog.types.size)(hb:Below W W W'):
  s.post enc Tryz.prog fn false fresh handsOn false W args (.bool true) W':=by
 have N:=hW.lt;have O:=hW;obtain⟨p,q,hA,hV,rfl,gb,ga⟩:=hW;rw[U]at hV;obtain⟨rfl,rfl⟩:=trodVars_none hV;refine⟨ds,[],p++[],[],p,[],O,?_,?_,?_,hb.frame _,fun h=>by cases h⟩
 ·rw[J,M];exact trodAll_cons_mk (shut_bool Tryz.underlying4 true) trodAll_mk0
 ·rw[I];exact rJ hb hr hA (fun x hx=>N x (by simp[hx]))
 ·rw[U,D];rfl
end
end
end Go.Proofs.YtiebcdeafofgdaaGreatDoor
namespace Go.Proofs
section
open Go.Shelf
def Tryz.laysDecode_ren:Go.Shelf.Ren:=⟨fun|32=>94|49=>140|n=>n,fun|30=>27|21=>21|3=>3|0=>0|5=>5|4=>4|33=>99|66=>149|25=>150|69=>153|68=>152|n=>n,fun|2=>0|3=>1|n=>n⟩
theorem Tryz.laysDecode:Go.Proofs.Lays7.n32 Tryz.prog Tryz.laysDecode_ren:={
 mixed:=by kernel_rfl
 f32:=Tryz.func94.trans (congrArg some (by kernel_rfl))
 f49:=Tryz.func140.trans (congrArg some (by kernel_rfl))
 t0:=Tryz.underlying0
 a0:=Tryz.isAgg0
 z0:=Tryz.sizeOf0
 v0:=Tryz.zeroValue0
 i0:=by kernel_rfl
 t3:=Tryz.underlying3
 a3:=Tryz.isAgg3
 z3:=Tryz.sizeOf3
 v3:=Tryz.zeroValue3
 i3:=by kernel_rfl
 t4:=Tryz.underlying4
 a4:=Tryz.isAgg4
 z4:=Tryz.sizeOf4
 v4:=Tryz.zeroValue4
 i4:=by kernel_rfl
 t5:=Tryz.underlying5
 a5:=Tryz.isAgg5
 z5:=Tryz.sizeOf5
 v5:=Tryz.zeroValue5
 i5:=by kernel_rfl
 t21:=Tryz.underlying21
 a21:=Tryz.isAgg21
 z21:=Tryz.sizeOf21
 v21:=Tryz.zeroValue21
 i21:=by kernel_rfl
 t25:=Tryz.underlying150
 a25:=Tryz.isAgg150
 z25:=Tryz.sizeOf150
 v25:=Tryz.zeroValue150
 i25:=by kernel_rfl
 t30:=Tryz.underlying27
 a30:=Tryz.isAgg27
 z30:=Tryz.sizeOf27
 v30:=Tryz.zeroValue27
 i30:=by kernel_rfl
 t33:=Tryz.underlying99
 a33:=Tryz.isAgg99
 z33:=Tryz.sizeOf99
 v33:=Tryz.zeroValue99
 i33:=by kernel_rfl
 t66:=Tryz.underlying149
 a66:=Tryz.isAgg149
 z66:=Tryz.sizeOf149
 t68:=Tryz.underlying152
 a68:=Tryz.isAgg152
 z68:=Tryz.sizeOf152
 v68:=Tryz.zeroValue152
 i68:=by kernel_rfl
 t69:=Tryz.underlying153
 a69:=Tryz.isAgg153
 z69:=Tryz.sizeOf153
 v69:=Tryz.zeroValue153
 i69:=by kernel_rfl
 g2:=by kernel_rfl
 g3:=by kernel_rfl }
def Tryz.laysReplace_ren:Go.Shelf.Ren:=⟨fun|155=>116|154=>150|138=>199|165=>200|143=>108|166=>146|197=>201|169=>148|195=>227|218=>228|240=>197|241=>229|219=>144|260=>230|276=>226|277=>239|217=>149|225=>191|224=>192|267=>193|266=>198|314=>225|n=>n,fun|9=>9|3=>3|4=>4|72=>129|0=>0|76=>134|105=>99|21=>21|5=>5|70=>127|20=>20|37=>27|75=>133|127=>159|164=>177|46=>150|119=>149|139=>153|138=>152|146=>175|51=>174|80=>78|n=>n,fun|1=>2|3=>0|4=>1|n=>n⟩
theorem Tryz.laysReplace:Go.Proofs.Lays.n155 Tryz.prog Tryz.laysReplace_ren:={
 mixed:=by kernel_rfl
 f138:=Tryz.func199.trans (congrArg some (by kernel_rfl))
 f143:=Tryz.func108.trans (congrArg some (by kernel_rfl))
 f154:=Tryz.func150.trans (congrArg some (by kernel_rfl))
 f155:=Tryz.func116.trans (congrArg some (by kernel_rfl))
 f165:=Tryz.func200.trans (congrArg some (by kernel_rfl))
 f166:=Tryz.func146.trans (congrArg some (by kernel_rfl))
 f169:=Tryz.func148.trans (congrArg some (by kernel_rfl))
 f195:=Tryz.func227.trans (congrArg some (by kernel_rfl))
 f197:=Tryz.func201.trans (congrArg some (by kernel_rfl))
 f217:=Tryz.func149.trans (congrArg some (by kernel_rfl))
 f218:=Tryz.func228.trans (congrArg some (by kernel_rfl))
 f219:=Tryz.func144.trans (congrArg some (by kernel_rfl))
 f224:=Tryz.func192.trans (congrArg some (by kernel_rfl))
 f225:=Tryz.func191.trans (congrArg some (by kernel_rfl))
 f240:=Tryz.func197.trans (congrArg some (by kernel_rfl))
 f241:=Tryz.func229.trans (congrArg some (by kernel_rfl))
 f260:=Tryz.func230.trans (congrArg some (by kernel_rfl))
 f266:=Tryz.func198.trans (congrArg some (by kernel_rfl))
 f267:=Tryz.func193.trans (congrArg some (by kernel_rfl))
 f276:=Tryz.func226.trans (congrArg some (by kernel_rfl))
 f277:=Tryz.func239.trans (congrArg some (by kernel_rfl))
 f314:=Tryz.func225.trans (congrArg some (by kernel_rfl))
 t0:=Tryz.underlying0
 a0:=Tryz.isAgg0
 z0:=Tryz.sizeOf0
 v0:=Tryz.zeroValue0
 t3:=Tryz.underlying3
 a3:=Tryz.isAgg3
 z3:=Tryz.sizeOf3
 v3:=Tryz.zeroValue3
 t4:=Tryz.underlying4
 a4:=Tryz.isAgg4
 z4:=Tryz.sizeOf4
 v4:=Tryz.zeroValue4
 t5:=Tryz.underlying5
 a5:=Tryz.isAgg5
 z5:=Tryz.sizeOf5
 v5:=Tryz.zeroValue5
 t9:=Tryz.underlying9
 a9:=Tryz.isAgg9
 z9:=Tryz.sizeOf9
 v9:=Tryz.zeroValue9
 t20:=Tryz.underlying20
 a20:=Tryz.isAgg20
 z20:=Tryz.sizeOf20
 v20:=Tryz.zeroValue20
 t21:=Tryz.underlying21
 a21:=Tryz.isAgg21
 z21:=Tryz.sizeOf21
 v21:=Tryz.zeroValue21
 t37:=Tryz.underlying27
 a37:=Tryz.isAgg27
 z37:=Tryz.sizeOf27
 v37:=Tryz.zeroValue27
 t46:=Tryz.underlying150
 a46:=Tryz.isAgg150
 z46:=Tryz.sizeOf150
 v46:=Tryz.zeroValue150
 t51:=Tryz.underlying174
 a51:=Tryz.isAgg174
 z51:=Tryz.sizeOf174
 v51:=Tryz.zeroValue174
 t70:=Tryz.underlying127
 a70:=Tryz.isAgg127
 z70:=Tryz.sizeOf127
 v70:=Tryz.zeroValue127
 t72:=Tryz.underlying129
 a72:=Tryz.isAgg129
 z72:=Tryz.sizeOf129
 v72:=Tryz.zeroValue129
 t75:=Tryz.underlying133
 a75:=Tryz.isAgg133
 z75:=Tryz.sizeOf133
 v75:=Tryz.zeroValue133
 t76:=Tryz.underlying134
 a76:=Tryz.isAgg134
 z76:=Tryz.sizeOf134
 v76:=Tryz.zeroValue134
 t105:=Tryz.underlying99
 a105:=Tryz.isAgg99
 z105:=Tryz.sizeOf99
 v105:=Tryz.zeroValue99
 t119:=Tryz.underlying149
 a119:=Tryz.isAgg149
 z119:=Tryz.sizeOf149
 t127:=Tryz.underlying159
 a127:=Tryz.isAgg159
 z127:=Tryz.sizeOf159
 v127:=Tryz.zeroValue159
 t138:=Tryz.underlying152
 a138:=Tryz.isAgg152
 z138:=Tryz.sizeOf152
 v138:=Tryz.zeroValue152
 t139:=Tryz.underlying153
 a139:=Tryz.isAgg153
 z139:=Tryz.sizeOf153
 v139:=Tryz.zeroValue153
 t146:=Tryz.underlying175
 a146:=Tryz.isAgg175
 z146:=Tryz.sizeOf175
 v146:=Tryz.zeroValue175
 t164:=Tryz.underlying177
 a164:=Tryz.isAgg177
 z164:=Tryz.sizeOf177
 v164:=Tryz.zeroValue177
 g1:=by kernel_rfl
 g3:=by kernel_rfl
 g4:=by kernel_rfl }
def Tryz.laysBString_ren:Go.Shelf.Ren:=⟨fun|169=>148|n=>n,fun|70=>127|9=>9|0=>0|72=>129|37=>27|127=>159|3=>3|5=>5|n=>n,fun|n=>n⟩
theorem Tryz.laysBString:Go.Proofs.Lays.n169 Tryz.prog Tryz.laysBString_ren:={
 mixed:=by kernel_rfl
 f169:=Tryz.func148.trans (congrArg some (by kernel_rfl))
 t0:=Tryz.underlying0
 a0:=Tryz.isAgg0
 z0:=Tryz.sizeOf0
 v0:=Tryz.zeroValue0
 t3:=Tryz.underlying3
 a3:=Tryz.isAgg3
 z3:=Tryz.sizeOf3
 v3:=Tryz.zeroValue3
 t9:=Tryz.underlying9
 a9:=Tryz.isAgg9
 z9:=Tryz.sizeOf9
 v9:=Tryz.zeroValue9
 t37:=Tryz.underlying27
 a37:=Tryz.isAgg27
 z37:=Tryz.sizeOf27
 v37:=Tryz.zeroValue27
 t70:=Tryz.underlying127
 a70:=Tryz.isAgg127
 z70:=Tryz.sizeOf127
 v70:=Tryz.zeroValue127
 t72:=Tryz.underlying129
 a72:=Tryz.isAgg129
 z72:=Tryz.sizeOf129
 v72:=Tryz.zeroValue129
 t127:=Tryz.underlying159
 a127:=Tryz.isAgg159
 z127:=Tryz.sizeOf159
 v127:=Tryz.zeroValue159 }
def Tryz.laysValid_ren:Go.Shelf.Ren:=⟨fun|119=>196|n=>n,fun|21=>21|4=>4|n=>n,fun|n=>n⟩
theorem Tryz.laysValid:Go.Proofs.Lays.n119 Tryz.prog Tryz.laysValid_ren:={
 mixed:=by kernel_rfl
 f119:=Tryz.func196.trans (congrArg some (by kernel_rfl))
 t4:=Tryz.underlying4
 a4:=Tryz.isAgg4
 z4:=Tryz.sizeOf4
 v4:=Tryz.zeroValue4
 t21:=Tryz.underlying21
 a21:=Tryz.isAgg21
 z21:=Tryz.sizeOf21
 v21:=Tryz.zeroValue21 }
theorem Tryz.xReplace:Builder.Extra Tryz.prog Tryz.laysReplace_ren:={
 sizeBuilder:=by kernel_rfl
 liesBuilder:=by kernel_rfl
 t5:=Tryz.underlying5
 a5:=Tryz.isAgg5
 z5:=Tryz.sizeOf5
 v5:=Tryz.zeroValue5
 infoByte:=by kernel_rfl
 cellsByte:=by kernel_rfl
 sizeByte:=by kernel_rfl
 neB5:=by decide }
theorem Tryz.xBString:Builder.Extra Tryz.prog Tryz.laysBString_ren:={
 sizeBuilder:=by kernel_rfl
 liesBuilder:=by kernel_rfl
 t5:=Tryz.underlying5
 a5:=Tryz.isAgg5
 z5:=Tryz.sizeOf5
 v5:=Tryz.zeroValue5
 infoByte:=by kernel_rfl
 cellsByte:=by kernel_rfl
 sizeByte:=by kernel_rfl
 neB5:=by decide }
def Tryz.laysContains_ren:Go.Shelf.Ren:=⟨fun|144=>78|143=>108|219=>144|217=>149|225=>191|224=>192|267=>193|266=>198|314=>225|n=>n,fun|9=>9|4=>4|3=>3|5=>5|46=>150|146=>175|51=>174|n=>n,fun|1=>2|n=>n⟩
theorem Tryz.laysContains:Go.Proofs.Lays.n144 Tryz.prog Tryz.laysContains_ren:={
 mixed:=by kernel_rfl
 f143:=Tryz.func108.trans (congrArg some (by kernel_rfl))
 f144:=Tryz.func78.trans (congrArg some (by kernel_rfl))
 f217:=Tryz.func149.trans (congrArg some (by kernel_rfl))
 f219:=Tryz.func144.trans (congrArg some (by kernel_rfl))
 f224:=Tryz.func192.trans (congrArg some (by kernel_rfl))
 f225:=Tryz.func191.trans (congrArg some (by kernel_rfl))
 f266:=Tryz.func198.trans (congrArg some (by kernel_rfl))
 f267:=Tryz.func193.trans (congrArg some (by kernel_rfl))
 f314:=Tryz.func225.trans (congrArg some (by kernel_rfl))
 t3:=Tryz.underlying3
 a3:=Tryz.isAgg3
 z3:=Tryz.sizeOf3
 v3:=Tryz.zeroValue3
 t4:=Tryz.underlying4
 a4:=Tryz.isAgg4
 z4:=Tryz.sizeOf4
 v4:=Tryz.zeroValue4
 t5:=Tryz.underlying5
 a5:=Tryz.isAgg5
 z5:=Tryz.sizeOf5
 v5:=Tryz.zeroValue5
 t9:=Tryz.underlying9
 a9:=Tryz.isAgg9
 z9:=Tryz.sizeOf9
 v9:=Tryz.zeroValue9
 t46:=Tryz.underlying150
 a46:=Tryz.isAgg150
 z46:=Tryz.sizeOf150
 v46:=Tryz.zeroValue150
 t51:=Tryz.underlying174
 a51:=Tryz.isAgg174
 z51:=Tryz.sizeOf174
 v51:=Tryz.zeroValue174
 t146:=Tryz.underlying175
 a146:=Tryz.isAgg175
 z146:=Tryz.sizeOf175
 v146:=Tryz.zeroValue175
 g1:=by kernel_rfl }
def Tryz.laysCut_ren:Go.Shelf.Ren:=⟨fun|145=>215|220=>231|219=>144|217=>149|225=>191|224=>192|267=>193|266=>198|314=>225|n=>n,fun|9=>9|4=>4|59=>164|3=>3|5=>5|46=>150|146=>175|51=>174|n=>n,fun|1=>2|n=>n⟩
theorem Tryz.laysCut:Go.Proofs.Lays.n145 Tryz.prog Tryz.laysCut_ren:={
 mixed:=by kernel_rfl
 f145:=Tryz.func215.trans (congrArg some (by kernel_rfl))
 f217:=Tryz.func149.trans (congrArg some (by kernel_rfl))
 f219:=Tryz.func144.trans (congrArg some (by kernel_rfl))
 f220:=Tryz.func231.trans (congrArg some (by kernel_rfl))
 f224:=Tryz.func192.trans (congrArg some (by kernel_rfl))
 f225:=Tryz.func191.trans (congrArg some (by kernel_rfl))
 f266:=Tryz.func198.trans (congrArg some (by kernel_rfl))
 f267:=Tryz.func193.trans (congrArg some (by kernel_rfl))
 f314:=Tryz.func225.trans (congrArg some (by kernel_rfl))
 t3:=Tryz.underlying3
 a3:=Tryz.isAgg3
 z3:=Tryz.sizeOf3
 v3:=Tryz.zeroValue3
 t4:=Tryz.underlying4
 a4:=Tryz.isAgg4
 z4:=Tryz.sizeOf4
 v4:=Tryz.zeroValue4
 t5:=Tryz.underlying5
 a5:=Tryz.isAgg5
 z5:=Tryz.sizeOf5
 v5:=Tryz.zeroValue5
 t9:=Tryz.underlying9
 a9:=Tryz.isAgg9
 z9:=Tryz.sizeOf9
 v9:=Tryz.zeroValue9
 t46:=Tryz.underlying150
 a46:=Tryz.isAgg150
 z46:=Tryz.sizeOf150
 v46:=Tryz.zeroValue150
 t51:=Tryz.underlying174
 a51:=Tryz.isAgg174
 z51:=Tryz.sizeOf174
 v51:=Tryz.zeroValue174
 t59:=Tryz.underlying164
 a59:=Tryz.isAgg164
 z59:=Tryz.sizeOf164
 v59:=Tryz.zeroValue164
 t146:=Tryz.underlying175
 a146:=Tryz.isAgg175
 z146:=Tryz.sizeOf175
 v146:=Tryz.zeroValue175
 g1:=by kernel_rfl }
def Tryz.laysPrefix_ren:Go.Shelf.Ren:=⟨fun|99=>95|206=>141|n=>n,fun|9=>9|4=>4|3=>3|n=>n,fun|n=>n⟩
theorem Tryz.laysPrefix:Go.Proofs.Lays.n99 Tryz.prog Tryz.laysPrefix_ren:={
 mixed:=by kernel_rfl
 f99:=Tryz.func95.trans (congrArg some (by kernel_rfl))
 f206:=Tryz.func141.trans (congrArg some (by kernel_rfl))
 t3:=Tryz.underlying3
 a3:=Tryz.isAgg3
 z3:=Tryz.sizeOf3
 v3:=Tryz.zeroValue3
 t4:=Tryz.underlying4
 a4:=Tryz.isAgg4
 z4:=Tryz.sizeOf4
 v4:=Tryz.zeroValue4
 t9:=Tryz.underlying9
 a9:=Tryz.isAgg9
 z9:=Tryz.sizeOf9
 v9:=Tryz.zeroValue9 }
def Tryz.laysIndexByte_ren:Go.Shelf.Ren:=⟨fun|137=>115|217=>149|266=>198|n=>n,fun|9=>9|5=>5|3=>3|n=>n,fun|n=>n⟩
theorem Tryz.laysIndexByte:Go.Proofs.Lays.n137 Tryz.prog Tryz.laysIndexByte_ren:={
 mixed:=by kernel_rfl
 f137:=Tryz.func115.trans (congrArg some (by kernel_rfl))
 f217:=Tryz.func149.trans (congrArg some (by kernel_rfl))
 f266:=Tryz.func198.trans (congrArg some (by kernel_rfl))
 t3:=Tryz.underlying3
 a3:=Tryz.isAgg3
 z3:=Tryz.sizeOf3
 v3:=Tryz.zeroValue3
 t5:=Tryz.underlying5
 a5:=Tryz.isAgg5
 z5:=Tryz.sizeOf5
 v5:=Tryz.zeroValue5
 t9:=Tryz.underlying9
 a9:=Tryz.isAgg9
 z9:=Tryz.sizeOf9
 v9:=Tryz.zeroValue9 }
def Tryz.laysIndex_ren:Go.Shelf.Ren:=⟨fun|143=>108|219=>144|217=>149|225=>191|224=>192|267=>193|266=>198|314=>225|n=>n,fun|9=>9|3=>3|4=>4|5=>5|46=>150|146=>175|51=>174|n=>n,fun|1=>2|n=>n⟩
theorem Tryz.laysIndex:Go.Proofs.Lays.n143 Tryz.prog Tryz.laysIndex_ren:={
 mixed:=by kernel_rfl
 f143:=Tryz.func108.trans (congrArg some (by kernel_rfl))
 f217:=Tryz.func149.trans (congrArg some (by kernel_rfl))
 f219:=Tryz.func144.trans (congrArg some (by kernel_rfl))
 f224:=Tryz.func192.trans (congrArg some (by kernel_rfl))
 f225:=Tryz.func191.trans (congrArg some (by kernel_rfl))
 f266:=Tryz.func198.trans (congrArg some (by kernel_rfl))
 f267:=Tryz.func193.trans (congrArg some (by kernel_rfl))
 f314:=Tryz.func225.trans (congrArg some (by kernel_rfl))
 t3:=Tryz.underlying3
 a3:=Tryz.isAgg3
 z3:=Tryz.sizeOf3
 v3:=Tryz.zeroValue3
 t4:=Tryz.underlying4
 a4:=Tryz.isAgg4
 z4:=Tryz.sizeOf4
 v4:=Tryz.zeroValue4
 t5:=Tryz.underlying5
 a5:=Tryz.isAgg5
 z5:=Tryz.sizeOf5
 v5:=Tryz.zeroValue5
 t9:=Tryz.underlying9
 a9:=Tryz.isAgg9
 z9:=Tryz.sizeOf9
 v9:=Tryz.zeroValue9
 t46:=Tryz.underlying150
 a46:=Tryz.isAgg150
 z46:=Tryz.sizeOf150
 v46:=Tryz.zeroValue150
 t51:=Tryz.underlying174
 a51:=Tryz.isAgg174
 z51:=Tryz.sizeOf174
 v51:=Tryz.zeroValue174
 t146:=Tryz.underlying175
 a146:=Tryz.isAgg175
 z146:=Tryz.sizeOf175
 v146:=Tryz.zeroValue175
 g1:=by kernel_rfl }
def Tryz.laysJoin_ren:Go.Shelf.Ren:=⟨fun|156=>233|165=>200|166=>146|169=>148|240=>197|241=>229|276=>226|277=>239|n=>n,fun|31=>95|9=>9|3=>3|4=>4|0=>0|20=>20|72=>129|76=>134|70=>127|37=>27|75=>133|127=>159|164=>177|5=>5|80=>78|n=>n,fun|n=>n⟩
theorem Tryz.laysJoin:Go.Proofs.Lays.n156 Tryz.prog Tryz.laysJoin_ren:={
 mixed:=by kernel_rfl
 f156:=Tryz.func233.trans (congrArg some (by kernel_rfl))
 f165:=Tryz.func200.trans (congrArg some (by kernel_rfl))
 f166:=Tryz.func146.trans (congrArg some (by kernel_rfl))
 f169:=Tryz.func148.trans (congrArg some (by kernel_rfl))
 f240:=Tryz.func197.trans (congrArg some (by kernel_rfl))
 f241:=Tryz.func229.trans (congrArg some (by kernel_rfl))
 f276:=Tryz.func226.trans (congrArg some (by kernel_rfl))
 f277:=Tryz.func239.trans (congrArg some (by kernel_rfl))
 t0:=Tryz.underlying0
 a0:=Tryz.isAgg0
 z0:=Tryz.sizeOf0
 v0:=Tryz.zeroValue0
 t3:=Tryz.underlying3
 a3:=Tryz.isAgg3
 z3:=Tryz.sizeOf3
 v3:=Tryz.zeroValue3
 t4:=Tryz.underlying4
 a4:=Tryz.isAgg4
 z4:=Tryz.sizeOf4
 v4:=Tryz.zeroValue4
 t9:=Tryz.underlying9
 a9:=Tryz.isAgg9
 z9:=Tryz.sizeOf9
 v9:=Tryz.zeroValue9
 t20:=Tryz.underlying20
 a20:=Tryz.isAgg20
 z20:=Tryz.sizeOf20
 v20:=Tryz.zeroValue20
 t31:=Tryz.underlying95
 a31:=Tryz.isAgg95
 z31:=Tryz.sizeOf95
 v31:=Tryz.zeroValue95
 t37:=Tryz.underlying27
 a37:=Tryz.isAgg27
 z37:=Tryz.sizeOf27
 v37:=Tryz.zeroValue27
 t70:=Tryz.underlying127
 a70:=Tryz.isAgg127
 z70:=Tryz.sizeOf127
 v70:=Tryz.zeroValue127
 t72:=Tryz.underlying129
 a72:=Tryz.isAgg129
 z72:=Tryz.sizeOf129
 v72:=Tryz.zeroValue129
 t75:=Tryz.underlying133
 a75:=Tryz.isAgg133
 z75:=Tryz.sizeOf133
 v75:=Tryz.zeroValue133
 t76:=Tryz.underlying134
 a76:=Tryz.isAgg134
 z76:=Tryz.sizeOf134
 v76:=Tryz.zeroValue134
 t127:=Tryz.underlying159
 a127:=Tryz.isAgg159
 z127:=Tryz.sizeOf159
 v127:=Tryz.zeroValue159
 t164:=Tryz.underlying177
 a164:=Tryz.isAgg177
 z164:=Tryz.sizeOf177
 v164:=Tryz.zeroValue177 }
theorem Tryz.joinX:Builder.Extra Tryz.prog Tryz.laysJoin_ren:={
 sizeBuilder:=by kernel_rfl
 liesBuilder:=by kernel_rfl
 t5:=Tryz.underlying5
 a5:=Tryz.isAgg5
 z5:=Tryz.sizeOf5
 v5:=Tryz.zeroValue5
 infoByte:=by kernel_rfl
 cellsByte:=by kernel_rfl
 sizeByte:=by kernel_rfl
 neB5:=by decide }
end
end Go.Proofs
namespace Go.Proofs.YtiebcdeafofgdaaGreatDoor
section
def dZ(c:Nat):Option Nat:=
 if 48<=c/\c<=57 then some (c-48)else if 97<=c/\c<=102 then some (c-87)else if 65<=c/\c<=70 then some (c-55)else none
def sF:List UInt8->Nat×List UInt8
 |[]=>(10,[])
 |[a]=>(10,[a])
 |a::b::r=>
  if a.toNat=48 then
   if b.toNat=120\/b.toNat=88 then(16,r)
   else if b.toNat=98\/b.toNat=66 then(2,r)
   else if b.toNat=111\/b.toNat=79 then(8,r)
   else(8,b::r)
  else(10,a::b::r)
def iF(m:Nat):List Nat:=if m=0 then[]else if m<10 then[m]else[m%10,m/10]
def d6(f:Nat):List Nat->Nat->List Nat
 |[],m=>iF m
 |x::r,m=>(x*f+m)%10::d6 f r ((x*f+m)/10)
def fD(radix:Nat):List UInt8->List Nat->Bool->Nat->Option (List Nat×Bool×Nat)
 |[],v,line,many=>some (v,line,many)
 |c::r,v,line,many=>
  if c.toNat=95/\line=false then fD radix r v true many
  else match dZ c.toNat with
   |none=>none
   |some d=>if d<radix then fD radix r (d6 radix v d) false (many+1)else none
def nJ(v:List Nat):ByteArray:=⟨((if v=[]then[0]else v.reverse).map fun d=>UInt8.ofNat (48+d)).toArray⟩
def lA(s:ByteArray):Option ByteArray:=
 if 200<s.size then none else
 let b:=sF s.data.toList
 if b.1=10/\(b.2=[]\/(b.2.headD 0).toNat=95)then none else
 match fD b.1 b.2 [] false 0 with
 |none=>none
 |some (v,line,many)=>if line=true\/many=0\/(b.1=10/\1<many/\(b.2.headD 0).toNat=48)then none else some (nJ v)
def iZ(s:ByteArray):Nat->Nat->Option Nat
 |0,_=>none
 |g+1,i=>
  if i<s.size then
   if(Utf8.decode s i).1=0\/((Utf8.decode s i).1=65533/\(Utf8.decode s i).2=1)\/((Utf8.decode s i).1=65279/\0<i)then some i
   else iZ s g (i+(Utf8.decode s i).2)
  else none
def mf(s:ByteArray):Option Nat:=iZ s s.size 0
def fM(radix:Nat):List UInt8->Nat->Option Nat
 |[],v=>some v
 |c::r,v=>match dZ c.toNat with
   |none=>none
   |some d=>if d<radix then fM radix r (v*radix+d)else none
def cB(s:List UInt8)(n radix:Nat):Option Nat:=if n<=s.length then fM radix (s.take n) 0 else none
def fj(c:Nat):Option Nat:=
 if c=97 then some 7 else if c=98 then some 8 else if c=102 then some 12 else if c=110 then some 10 else if c=114 then some 13
 else if c=116 then some 9 else if c=118 then some 11 else if c=92 then some 92 else if c=34 then some 34 else none
def lT:List UInt8->Option (List UInt8×Nat)
 |[]=>none
 |c::r=>
  match fj c.toNat with
  |some v=>some ([UInt8.ofNat v],1)
  |none=>
   if c.toNat=120 then(cB r 2 16).map fun v=>([UInt8.ofNat v],3)
   else if c.toNat=117 then(cB r 4 16).bind fun v=>if Utf8.valid (v:Int)=true then some ((Utf8.encode (v:Int)).data.toList,5)else none
   else if c.toNat=85 then(cB r 8 16).bind fun v=>if Utf8.valid (v:Int)=true then some ((Utf8.encode (v:Int)).data.toList,9)else none
   else(cB (c::r) 3 8).bind fun v=>if v<=255 then some ([UInt8.ofNat v],3)else none
def cI:Nat->List UInt8->Option (List UInt8)
 |0,_=>none
 |_+1,[]=>some []
 |g+1,c::r=>
  if c.toNat=92 then(lT r).bind fun p=>(cI g (r.drop p.2)).map fun t=>p.1++t
  else if c.toNat=34\/c.toNat=10 then none
  else(cI g r).map fun t=>c::t
def ec(s:ByteArray):Option ByteArray:=
 if 65536<s.size then none
 else if s.size<2\/s.data.toList.head? ≠ s.data.toList.getLast? then none
 else if mf s≠none then none
 else if(s.data.toList.headD 0).toNat=34 then(cI (s.size+1) (s.data.toList.extract 1 (s.size-1))).map fun l=>⟨l.toArray⟩
 else if(s.data.toList.headD 0).toNat=96 then
  if(s.data.toList.extract 1 (s.size-1)).any (fun c=>c.toNat==96)then none
  else some ⟨((s.data.toList.extract 1 (s.size-1)).filter fun c=>c.toNat != 13).toArray⟩
 else none
structure cY where
 kind:Int
 text:ByteArray
 pos:Int
structure Cx where
 toks:List cY
 fin:Int
structure St where
 at_:Nat
 head:Bool
 part:Int
inductive bH(α:Type)where
 |ok (a:α) (s:St)
 |fail (p:Int)
 |out
def R(α:Type):=Cx->St->bH α
def bH.bind{α β:Type}(r:bH α)(f:α->St->bH β):bH β:=
 match r with
 | .ok a s=>f a s
 | .fail p=>.fail p
 | .out=>.out
@[simp] theorem bH.bind_ok {α β:Type} (a:α) (s:St) (f:α->St->bH β):(bH.ok a s).bind f=f a s:=rfl
@[simp] theorem bH.bind_fail {α β:Type} (p:Int) (f:α->St->bH β):(bH.fail p:bH α).bind f=.fail p:=rfl
@[simp] theorem bH.bind_out {α β:Type} (f:α->St->bH β):(bH.out:bH α).bind f=.out:=rfl
def ar(c:Cx)(i:Nat):cY:=
 match c.toks[i]? with
 |some t=>t
 |none=>⟨0,⟨#[]⟩,c.fin⟩
def OM(t:cY)(x:ByteArray):Bool:=(t.kind==2||t.kind==6)&&decide (t.text=x)
def aP(c:Cx)(s:St)(x:ByteArray):Bool:=OM (ar c s.at_) x
def adv(s:St):St:={ s with at_:=s.at_+1 }
def av(c:Cx)(s:St):Int:=(ar c s.at_).pos
def need(x:ByteArray):R Unit:=fun c s=>if aP c s x then .ok () (adv s)else .fail (av c s)
def cG:R ByteArray:=fun c s=>if(ar c s.at_).kind=1 then .ok (ar c s.at_).text (adv s)else .fail (av c s)
def dV(c:Cx)(s:St):Bool:=aP c s ⟨#[59]⟩||aP c s ⟨#[10]⟩
def eP(c:Cx)(s:St):St:=if dV c s then adv s else s
def dp(c:Cx)(s:St):Bool:=aP c s ⟨#[91]⟩&&(match c.toks[s.at_+1]? with|some t=>t.kind==6&&decide (t.text=(⟨#[93]⟩:BA))|none=>false)
def aX(part:R Nd)(en:ByteArray):Nat->List Nd->R (List Nd)
 |0,_=>fun _ _=>.out
 |g+1,acc=>fun c s=>
  if aP c s en then .ok acc (adv s)else
  (part c s).bind fun n s1=>
  if aP c s1 en then .ok (acc++[n]) (adv s1)else
  (need ⟨#[44]⟩ c s1).bind fun _ s2=>aX part en g (acc++[n]) c s2
def ce{α:Type}(part:R α):R α:=fun c s=>(part c { s with head:=false }).bind fun a s1=>.ok a { s1 with head:=s.head }
def cZ{α:Type}(part:R α):R α:=fun c s=>(part c { s with head:=true }).bind fun a s1=>.ok a { s1 with head:=s.head }
def pD(c:Cx)(s:St):Bool:=(ar c s.at_).kind==1||(aP c s ⟨#[91]⟩||(aP c s ⟨#[40]⟩||aP c s ⟨#[102,117,110,99]⟩))
structure fJ where
 g:Nat
 typ:R Nd
 expr:R Nd
 unary:R Nd
 stmt:R Nd
 ifS:R Nd
section
variable (F:fJ)
def dg:R Nd:=fun c s=>if pD c s then F.typ c s else .ok bU s
def lB:R Nd:=fun c s=>(F.typ c s).bind fun t s1=>.ok (.mk 8 ⟨#[]⟩ [t] (av c s)) s1
def dD(p:Int):R Nd:=fun c s=>
 (need ⟨#[40]⟩ c s).bind fun _ s1=>(aX (lB F) ⟨#[41]⟩ F.g [] c s1).bind fun l s2=>
 (dg F c s2).bind fun r s3=>.ok (.mk 12 ⟨#[]⟩ [.mk 6 ⟨#[]⟩ l (av c s),r] p) s3
def eG:R Nd:=fun c s=>(cG c s).bind fun x s1=>(F.typ c s1).bind fun t s2=>.ok (.mk 8 x [t] (av c s)) s2
def oR(p:Int):R Nd:=fun c s=>
 (need ⟨#[40]⟩ c s).bind fun _ s1=>(aX (eG F) ⟨#[41]⟩ F.g [] c s1).bind fun l s2=>
 (dg F c s2).bind fun r s3=>.ok (.mk 12 ⟨#[]⟩ [.mk 6 ⟨#[]⟩ l (av c s),r] p) s3
def wG:R Nd:=fun c s=>
 if aP c s ⟨#[40]⟩then(F.typ c (adv s)).bind fun t s1=>(need ⟨#[41]⟩ c s1).bind fun _ s2=>.ok t s2
 else if aP c s ⟨#[91]⟩then(need ⟨#[93]⟩ c (adv s)).bind fun _ s1=>(F.typ c s1).bind fun t s2=>.ok (.mk 11 ⟨#[]⟩ [t] (av c s)) s2
 else if aP c s ⟨#[102,117,110,99]⟩then dD F (av c s) c (adv s)
 else(cG c s).bind fun x s1=>
  if aP c s1 ⟨#[91]⟩ && !dp c s1 then
   (aX F.typ ⟨#[93]⟩ F.g [] c (adv s1)).bind fun l s2=>if l.length=0 then .fail (av c s2)else .ok (.mk 10 x l (av c s)) s2
  else .ok (.mk 10 x [] (av c s)) s1
def lU:R Nd:=fun c s=>
 if aP c s ⟨#[126]⟩then(F.typ c (adv s)).bind fun t s1=>.ok (.mk 15 ⟨#[126]⟩ [t] (av c s)) s1
 else(F.typ c s).bind fun t s1=>.ok (.mk 15 ⟨#[]⟩ [t] (av c s)) s1
def eH(p:Int):Nat->List Nd->R Nd
 |0,_=>fun _ _=>.out
 |g+1,acc=>fun c s=>
  if aP c s ⟨#[124]⟩then(lU F c (adv s)).bind fun t s1=>eH p g (acc++[t]) c s1
  else .ok (.mk 14 ⟨#[]⟩ acc p) s
def eD(p:Int):R Nd:=fun c s=>(lU F c s).bind fun t s1=>eH F p F.g [t] c s1
def fV(p:Int):R Nd:=fun c s=>
 (need ⟨#[123]⟩ c s).bind fun _ s1=>(eD F p c s1).bind fun n s2=>(need ⟨#[125]⟩ c (eP c s2)).bind fun _ s3=>.ok n s3
def rK(n:Nd):Option Nd:=
 match n.kids with
 |[t]=>match t.kids with
   |k::_=>if t.text=(⟨#[]⟩:BA)/\k.kind=10 then some k else none
   |[]=>none
 |_=>none
def dP:R Nd:=fun c s=>
 if aP c s ⟨#[105,110,116,101,114,102,97,99,101]⟩then fV F (av c s) c (adv s)
 else(eD F (av c s) c s).bind fun n s1=>.ok ((rK n).getD n) s1
def dt:R Nd:=fun c s=>(cG c s).bind fun x s1=>(dP F c s1).bind fun t s2=>.ok (.mk 7 x [t] (av c s)) s2
def eI:R Nd:=fun c s=>
 if aP c s ⟨#[91]⟩ && !dp c s then
  (aX (dt F) ⟨#[93]⟩ F.g [] c (adv s)).bind fun l s1=>if l.length=0 then .fail (av c s1)else .ok (.mk 6 ⟨#[]⟩ l (av c s)) s1
 else .ok (.mk 6 ⟨#[]⟩ [] 0) s
def cP(p:Int):Nat->List Nd->R Nd
 |0,_=>fun _ _=>.out
 |g+1,acc=>fun c s=>
  if aP c s ⟨#[125]⟩then .ok (.mk 13 ⟨#[]⟩ acc p) (adv s)else
  (cG c s).bind fun x s1=>(F.typ c s1).bind fun t s2=>
  if dV c s2 then cP p g (acc++[.mk 9 x [t] (av c s)]) c (adv s2)
  else if aP c s2 ⟨#[125]⟩then cP p g (acc++[.mk 9 x [t] (av c s)]) c s2
  else .fail (av c s2)
def ip(p:Int):R Nd:=fun c s=>(need ⟨#[123]⟩ c s).bind fun _ s1=>cP F p F.g [] c s1
def dW:R Nd:=fun c s=>
 (need ⟨#[118,97,114]⟩ c s).bind fun _ s1=>(cG c s1).bind fun x s2=>
 if aP c s2 ⟨#[61]⟩then(F.expr c (adv s2)).bind fun v s3=>.ok (.mk 5 x [bU,v] (av c s)) s3
 else(F.typ c s2).bind fun t s3=>
  if aP c s3 ⟨#[61]⟩then(F.expr c (adv s3)).bind fun v s4=>.ok (.mk 5 x [t,v] (av c s)) s4
  else .ok (.mk 5 x [t,bU] (av c s)) s3
def iq(p:Int):R Nd:=fun c s=>
 (cG c s).bind fun x s1=>(eI F c s1).bind fun ps s2=>
 if aP c s2 ⟨#[61]⟩then(F.typ c (adv s2)).bind fun t s3=>.ok (.mk 4 x [ps,t] p) s3
 else if aP c s2 ⟨#[115,116,114,117,99,116]⟩then(ip F (av c s2) c (adv s2)).bind fun t s3=>.ok (.mk 3 x [ps,t] p) s3
 else if aP c s2 ⟨#[105,110,116,101,114,102,97,99,101]⟩then(fV F (av c s2) c (adv s2)).bind fun t s3=>.ok (.mk 3 x [ps,t] p) s3
 else(F.typ c s2).bind fun t s3=>.ok (.mk 3 x [ps,t] p) s3
def dh(p:Int):Nat->List Nd->R Nd
 |0,_=>fun _ _=>.out
 |g+1,acc=>fun c s=>
  if aP c s ⟨#[125]⟩then .ok (.mk 36 ⟨#[]⟩ acc p) (adv s)
  else if dV c s then dh p g acc c (adv s)
  else(F.stmt c s).bind fun n s1=>
   if dV c s1 then dh p g (acc++[n]) c (adv s1)
   else if aP c s1 ⟨#[125]⟩then dh p g (acc++[n]) c s1
   else .fail (av c s1)
def mO:R Nd:=fun c s=>(need ⟨#[123]⟩ c s).bind fun _ s1=>dh F (av c s) F.g [] c s1
def bE:R Nd:=ce (mO F)
def fN:R Nd:=fun c s=>
 if aP c s ⟨#[102,117,110,99]⟩then
  (cG c (adv s)).bind fun x s1=>(eI F c s1).bind fun ps s2=>(oR F (av c s) c s2).bind fun sg s3=>(bE F c s3).bind fun b s4=>.ok (.mk 2 x [ps,sg,b] (av c s)) s4
 else if aP c s ⟨#[116,121,112,101]⟩then iq F (av c s) c (adv s)
 else dW F c s
def fW(p:Int)(x:Nd):R Nd:=fun c s=>
 if x.kind=18/\x.text≠(⟨#[95]⟩:BA)/\aP c s ⟨#[58,61]⟩=true then(F.expr c (adv s)).bind fun v s1=>.ok (.mk 26 x.text [v] p) s1
 else if aP c s ⟨#[61]⟩then(F.expr c (adv s)).bind fun v s1=>.ok (.mk 27 ⟨#[]⟩ [x,v] p) s1
 else if aP c s ⟨#[43,43]⟩then .ok (.mk 28 ⟨#[43,43]⟩ [x] p) (adv s)
 else if aP c s ⟨#[45,45]⟩then .ok (.mk 28 ⟨#[45,45]⟩ [x] p) (adv s)
 else if x.kind=21 then .ok (.mk 29 ⟨#[]⟩ [x] p) s
 else .fail (av c s)
def fO:R Nd:=fun c s=>(F.expr c s).bind fun x s1=>fW F (av c s) x c s1
def GO:R Nd:=fun c s=>
 (need ⟨#[105,102]⟩ c s).bind fun _ s1=>(cZ F.expr c s1).bind fun x s2=>(bE F c s2).bind fun b s3=>
 if aP c s3 ⟨#[101,108,115,101]⟩then
  if aP c (adv s3) ⟨#[105,102]⟩then(F.ifS c (adv s3)).bind fun o s4=>.ok (.mk 30 ⟨#[]⟩ [x,b,o] (av c s)) s4
  else(bE F c (adv s3)).bind fun o s4=>.ok (.mk 30 ⟨#[]⟩ [x,b,o] (av c s)) s4
 else .ok (.mk 30 ⟨#[]⟩ [x,b,bU] (av c s)) s3
def dE(l:List cY):ByteArray:=
 if l.any (fun t=>t.kind==5)then(⟨#[]⟩:BA)else
 match l with
 |[]=>(⟨#[]⟩:BA)
 |t::r=>r.foldl (fun a u=>a++(⟨#[32]⟩:BA)++u.text) t.text
def bI(c:Cx)(s:St):Option (ByteArray×St):=
 let l:=c.toks.drop s.at_
 if aP c s ⟨#[114,97,110,103,101]⟩then some ((⟨#[]⟩:BA),adv s)else
 match l with
 |a::b::d::_=>
  if a.kind=1/\a.text≠(⟨#[95]⟩:BA)/\dE [a,b,d]=a.text++(⟨#[32,58,61,32,114,97,110,103,101]⟩:BA)then some (a.text,{ s with at_:=s.at_+3 })
  else if a.kind=1/\d.kind=1/\d.text≠(⟨#[95]⟩:BA)/\dE (l.take 5)=a.text++(⟨#[32,44,32]⟩:BA)++d.text++(⟨#[32,58,61,32,114,97,110,103,101]⟩:BA)then some (a.text++(⟨#[44]⟩:BA)++d.text,{ s with at_:=s.at_+5 })
  else none
 |_=>none
def eW:R Nd:=fun c s=>(F.expr c s).bind fun x s1=>if aP c s1 ⟨#[123]⟩then .ok x s1 else fW F (av c s) x c s1
def mJ:R Nd:=fun c s=>(fO F c s).bind fun x s1=>if x.kind=26 then .fail (ar c (s.at_+1)).pos else .ok x s1
def nK:R (Nd×Nd×Nd):=fun c s=>
 let tail:Nd->R (Nd×Nd×Nd):=fun a c s=>
  (need ⟨#[59]⟩ c s).bind fun _ s1=>
  (if aP c s1 ⟨#[59]⟩then .ok bU s1 else cZ F.expr c s1).bind fun b s2=>
  (need ⟨#[59]⟩ c s2).bind fun _ s3=>
  (if aP c s3 ⟨#[123]⟩then .ok bU s3 else cZ (mJ F) c s3).bind fun d s4=>.ok (a,b,d) s4
 if aP c s ⟨#[59]⟩then tail bU c s else
 (cZ (eW F) c s).bind fun x s1=>
 if x.kind=29 then .fail (av c s1)
 else if x.kind<26 then .ok (bU,x,bU) s1
 else tail x c s1
def rV:R Nd:=fun c s=>
 (need ⟨#[102,111,114]⟩ c s).bind fun _ s1=>
 match bI c s1 with
 |some (x,s2)=>(cZ F.expr c s2).bind fun e s3=>(bE F c s3).bind fun b s4=>.ok (.mk 32 x [e,b] (av c s)) s4
 |none=>
  (if aP c s1 ⟨#[123]⟩then .ok (bU,bU,bU) s1 else nK F c s1).bind fun h s2=>
  (bE F c s2).bind fun b s3=>.ok (.mk 31 ⟨#[]⟩ [h.1,h.2.1,h.2.2,b] (av c s)) s3
def iC:R Nd:=fun c s=>
 if aP c s ⟨#[118,97,114]⟩then dW F c s
 else if aP c s ⟨#[105,102]⟩then GO F c s
 else if aP c s ⟨#[102,111,114]⟩then rV F c s
 else if aP c s ⟨#[123]⟩then bE F c s
 else if aP c s ⟨#[114,101,116,117,114,110]⟩then
  if dV c (adv s)||aP c (adv s) ⟨#[125]⟩then .ok (.mk 33 ⟨#[]⟩ [bU] (av c s)) (adv s)
  else(F.expr c (adv s)).bind fun x s1=>.ok (.mk 33 ⟨#[]⟩ [x] (av c s)) s1
 else if aP c s ⟨#[98,114,101,97,107]⟩then .ok (.mk 34 ⟨#[]⟩ [] (av c s)) (adv s)
 else if aP c s ⟨#[99,111,110,116,105,110,117,101]⟩then .ok (.mk 35 ⟨#[]⟩ [] (av c s)) (adv s)
 else fO F c s
def ll(c:Cx)(s:St):Bool:=aP c s ⟨#[44]⟩||aP c s ⟨#[93]⟩
def lC(c:Cx)(s:St):Bool:=
 decide (s.at_+2<c.toks.length)&&((ar c (s.at_+1)).kind==1 &&
  ((ar c (s.at_+2)).kind==1||(aP c { s with at_:=s.at_+2 } (⟨#[102,117,110,99]⟩:BA)||(aP c { s with at_:=s.at_+2 } (⟨#[40]⟩:BA)||dp c { s with at_:=s.at_+2 }))))
def du(p:Int)(types:Bool):R Nd:=fun c s=>
 if types=true/\lC c s=false/\s.at_+1<c.toks.length/\(ar c (s.at_+1)).text≠(⟨#[41]⟩:BA)then
  (dD F p c s).bind fun t s1=>if ll c s1 then .ok t s1 else .fail (av c s1)
 else(oR F p c s).bind fun sg s1=>
  if types=true/\(sg.kids.headD bU).kids.length=0/\ll c s1=true then .ok sg s1
  else(bE F c s1).bind fun b s2=>.ok (.mk 25 ⟨#[]⟩ [sg,b] p) s2
def da(t:Nd):R Nd:=fun c s=>
 (need ⟨#[123]⟩ c s).bind fun _ s1=>(ce (aX F.expr ⟨#[125]⟩ F.g []) c s1).bind fun l s2=>.ok (.mk 24 ⟨#[]⟩ (t::l) t.pos) s2
def ir(types:Bool):R Nd:=fun c s=>
 (F.typ c s).bind fun t s1=>if types&&ll c s1 then .ok t s1 else da F t c s1
def db:R Nd:=fun c s=>F.expr c { s with part:=s.at_ }
mutual
def bJ:Nd->Option Nd
 | .mk k t l a=>
  if k=10\/k=11\/k=12 then some (.mk k t l a)
  else if k=18 then some (.mk 10 t [] a)
  else if k=22 then
   match l with
   |[]=>none
   |x::r=>match bJ x with
     |some (.mk k2 t2 l2 a2)=>if k2=10/\l2.length=0 then(cJ r).map fun r'=>.mk k2 t2 r' a2 else none
     |none=>none
  else none
def cJ:List Nd->Option (List Nd)
 |[]=>some []
 |x::r=>match bJ x with
   |some y=>(cJ r).map fun r'=>y::r'
   |none=>none
end
def lY(s:ByteArray):ByteArray:=(lA s).getD ⟨#[]⟩
def i6(s:ByteArray):ByteArray:=(ec s).getD ⟨#[]⟩
def cx:R (Nd×Bool):=fun c s=>
 let t:=ar c s.at_
 let types:Bool:=decide (s.part=(s.at_:Int))
 let s0:St:={ s with part :=-1 }
 if t.kind=1 then .ok (.mk 18 t.text [] t.pos,true) (adv s0)
 else if t.kind=4 then .ok (.mk 16 (lY t.text) [] t.pos,false) (adv s0)
 else if t.kind=5 then .ok (.mk 17 (i6 t.text) [] t.pos,false) (adv s0)
 else if aP c s0 ⟨#[40]⟩then(ce F.expr c (adv s0)).bind fun x s1=>(need ⟨#[41]⟩ c s1).bind fun _ s2=>.ok (x,false) s2
 else if aP c s0 ⟨#[102,117,110,99]⟩then(du F t.pos types c (adv s0)).bind fun x s1=>.ok (x,false) s1
 else if dp c s0 then(ir F types c s0).bind fun x s1=>.ok (x,false) s1
 else .fail t.pos
def aI:Nat->Nd->Bool->R Nd
 |0,_,_=>fun _ _=>.out
 |g+1,out,bare=>fun c s=>
  if aP c s ⟨#[40]⟩then(ce (aX F.expr ⟨#[41]⟩ F.g []) c (adv s)).bind fun l s1=>aI g (.mk 21 ⟨#[]⟩ (out::l) out.pos) false c s1
  else if aP c s ⟨#[91]⟩then(ce (aX (db F) ⟨#[93]⟩ F.g []) c (adv s)).bind fun l s1=>
   if l.length=0 then .fail (ar c (s1.at_-1)).pos else aI g (.mk 22 ⟨#[]⟩ (out::l) out.pos) bare c s1
  else if aP c s ⟨#[46]⟩then(cG c (adv s)).bind fun x s1=>aI g (.mk 23 x [out] out.pos) false c s1
  else if aP c s ⟨#[123]⟩&&(bare && !s.head)then
   match bJ out with
   |none=>.ok out s
   |some t=>(da F t c s).bind fun n s1=>aI g n false c s1
  else .ok out s
def fE:R Nd:=fun c s=>(cx F c s).bind fun x s1=>aI F F.g x.1 x.2 c s1
def iG:R Nd:=fun c s=>
 if aP c s ⟨#[45]⟩||aP c s ⟨#[33]⟩then(F.unary c (adv s)).bind fun x s1=>.ok (.mk 19 (ar c s.at_).text [x] (av c s)) s1
 else fE F c s
def EA:Nat->List ByteArray
 |5=>[(⟨#[124,124]⟩:BA)]
 |4=>[(⟨#[38,38]⟩:BA)]
 |3=>[(⟨#[61,61]⟩:BA),(⟨#[33,61]⟩:BA),(⟨#[60]⟩:BA),(⟨#[60,61]⟩:BA),(⟨#[62]⟩:BA),(⟨#[62,61]⟩:BA)]
 |2=>[(⟨#[43]⟩:BA),(⟨#[45]⟩:BA)]
 |_=>[(⟨#[42]⟩:BA),(⟨#[47]⟩:BA),(⟨#[37]⟩:BA)]
def RB(k:Nat)(t:cY):Bool:=t.kind==6&&(EA k).any fun x=>decide (t.text=x)
def lV(k:Nat)(below:R Nd):Nat->Nd->R Nd
 |0,_=>fun _ _=>.out
 |g+1,out=>fun c s=>
  if RB k (ar c s.at_)then(below c (adv s)).bind fun y s1=>lV k below g (.mk 20 (ar c s.at_).text [out,y] out.pos) c s1
  else .ok out s
def i9:Nat->R Nd
 |0=>iG F
 |k+1=>fun c s=>(i9 k c s).bind fun x s1=>lV (k+1) (i9 k) F.g x c s1
def Lj:R Nd:=i9 F 5
def fX(p:Int)(x:ByteArray):Nat->List Nd->R Nd
 |0,_=>fun _ _=>.out
 |g+1,acc=>fun c s=>
  if dV c s then
   if s.at_+1=c.toks.length then .ok (.mk 1 x acc p) (adv s)
   else if aP c (adv s) ⟨#[102,117,110,99]⟩||(aP c (adv s) ⟨#[116,121,112,101]⟩||aP c (adv s) ⟨#[118,97,114]⟩)then(fN F c (adv s)).bind fun d s1=>fX p x g (acc++[d]) c s1
   else .fail (av c (adv s))
  else .fail (av c s)
def fY:R Nd:=fun c s=>(need ⟨#[112,97,99,107,97,103,101]⟩ c s).bind fun _ s1=>(cG c s1).bind fun x s2=>fX F (av c s) x F.g [] c s2
end
def cF:Nat->fJ
 |0=>⟨0,fun _ _=>.out,fun _ _=>.out,fun _ _=>.out,fun _ _=>.out,fun _ _=>.out⟩
 |g+1=>⟨g+1,wG (cF g),Lj (cF g),iG (cF g),iC (cF g),GO (cF g)⟩
def mh(c:UInt8):Bool:=c==95||((decide (97<=c)&&decide (c<=122))||(decide (65<=c)&&decide (c<=90)))
def fk(c:UInt8):Bool:=decide (48<=c)&&decide (c<=57)
def Lq:List ByteArray:=[(⟨#[98,114,101,97,107]⟩:BA),(⟨#[99,111,110,116,105,110,117,101]⟩:BA),(⟨#[101,108,115,101]⟩:BA),(⟨#[102,111,114]⟩:BA),(⟨#[102,117,110,99]⟩:BA),(⟨#[105,102]⟩:BA),(⟨#[105,109,112,111,114,116]⟩:BA),(⟨#[105,110,116,101,114,102,97,99,101]⟩:BA),(⟨#[112,97,99,107,97,103,101]⟩:BA),(⟨#[114,97,110,103,101]⟩:BA),(⟨#[114,101,116,117,114,110]⟩:BA),(⟨#[115,116,114,117,99,116]⟩:BA),(⟨#[116,121,112,101]⟩:BA),(⟨#[118,97,114]⟩:BA)]
def Lr:List ByteArray:=[(⟨#[99,97,115,101]⟩:BA),(⟨#[99,104,97,110]⟩:BA),(⟨#[99,111,110,115,116]⟩:BA),(⟨#[100,101,102,97,117,108,116]⟩:BA),(⟨#[100,101,102,101,114]⟩:BA),(⟨#[102,97,108,108,116,104,114,111,117,103,104]⟩:BA),(⟨#[103,111]⟩:BA),(⟨#[103,111,116,111]⟩:BA),(⟨#[109,97,112]⟩:BA),(⟨#[115,101,108,101,99,116]⟩:BA),(⟨#[115,119,105,116,99,104]⟩:BA)]
def bZ(s:ByteArray):Int:=if Lq.any (fun x=>decide (s=x))then 1 else if Lr.any (fun x=>decide (s=x))then 2 else 0
def eT:List UInt8->Bool
 |[]=>true
 |c::r=>mh c&&r.all fun c=>mh c||fk c
def mi(s:ByteArray):Bool:=eT s.data.toList&&(decide (s≠(⟨#[]⟩:BA))&&decide (bZ s=0))
def aO(s:ByteArray):Bool:=decide (s.size<=100)&&mi s
def ev(s:ByteArray):Bool:=aO s&&decide (s≠(⟨#[95]⟩:BA))
def iI(s:ByteArray):Bool:=s.data.toList.all fk&&(decide (s=(⟨#[48]⟩:BA))||(decide (s≠(⟨#[]⟩:BA))&&(decide (s.size<=200)&&decide (s.data.toList.head? ≠ some 48))))
def aE(n:Nd):Bool:=decide (n.kind=0)&&(decide (n.text=(⟨#[]⟩:BA))&&decide (n.kids.length=0))
def cy:List (Nd->Bool)->List Nd->Bool
 |[],[]=>true
 |p::ps,n::ns=>p n&&cy ps ns
 |_,_=>false
def fc(k:Int)(l:List (Nd->Bool))(n:Nd):Bool:=decide (n.kind=k)&&(decide (n.text=(⟨#[]⟩:BA))&&cy l n.kids)
def aG(so:ByteArray->Bool)(n:Nd):Nd:=if so n.text then .mk n.kind ⟨#[]⟩ n.kids n.pos else .mk 37 ⟨#[]⟩ [] 0
def nL(so:Nd->Bool)(n:Nd):Bool:=decide (n.kind=6)&&(decide (n.text=(⟨#[]⟩:BA))&&n.kids.all so)
def dv(a b:Nd->Bool)(n:Nd):Bool:=a n||b n
structure dM where
 typ:Nd->Bool
 expr:Nd->Bool
 block:Nd->Bool
 stmt:Nd->Bool
 ifS:Nd->Bool
section
variable (F:dM)
def lG(so:ByteArray->Bool)(p:Nd):Bool:=fc 8 [F.typ] (aG so p)
def wK(so:ByteArray->Bool)(n:Nd):Bool:=fc 12 [nL (lG F so),dv aE F.typ] n
def ld(n:Nd):Bool:=wK F aO n
def fK(s:ByteArray):Bool:=decide (s=(⟨#[]⟩:BA))
def l5(n:Nd):Bool:=
 if n.kind=10 then aO n.text&&n.kids.all F.typ
 else if n.kind=11 then fc 11 [F.typ] n
 else if n.kind=12 then wK F fK n
 else false
def nY(s:ByteArray):Bool:=decide (s=(⟨#[]⟩:BA))||decide (s=(⟨#[126]⟩:BA))
def oz(t:Nd):Bool:=fc 15 [F.typ] (aG nY t)
def ct(n:Nd):Bool:=decide (n.kind=14)&&(decide (n.text=(⟨#[]⟩:BA))&&(decide (0<n.kids.length)&&n.kids.all (oz F)))
def nZ(f:Nd):Bool:=fc 9 [F.typ] (aG aO f)
def cK(n:Nd):Bool:=decide (n.kind=13)&&(decide (n.text=(⟨#[]⟩:BA))&&n.kids.all (nZ F))
def fQ(c:Nd):Bool:=decide (c.kind=10)&&F.typ c
def nM(p:Nd):Bool:=fc 7 [dv (fQ F) (ct F)] (aG aO p)
def cC(n:Nd):Bool:=nL (nM F) n
def oU(n:Nd):Bool:=fc 5 [dv aE F.typ,dv aE F.expr] (aG aO n)&&(!(aE (n.kids.getD 0 bU)) || !(aE (n.kids.getD 1 bU)))
def f8(n:Nd):Bool:=
 if n.kind=2 then fc 2 [cC F,ld F,F.block] (aG aO n)
 else if n.kind=3 then fc 3 [cC F,dv (dv F.typ (cK F)) (ct F)] (aG aO n)
 else if n.kind=4 then fc 4 [cC F,F.typ] (aG aO n)
 else oU F n
def iR:List UInt8:=((⟨#[43,32,45,32,42,32,47,32,37,32,61,61,32,33,61,32,60,32,60,61,32,62,32,62,61,32,38,38,32,124,124,32]⟩:BA).data.toList)
def iu(s:ByteArray):Bool:=decide (s≠(⟨#[]⟩:BA))&&(!(Lib.contains s.data.toList [32])&&Lib.contains (32::iR) (32::(s.data.toList++[32])))
def ng(s:ByteArray):Bool:=decide (s=(⟨#[45]⟩:BA))||decide (s=(⟨#[33]⟩:BA))
def iS(s:ByteArray):Bool:=decide (s.size<=1000)
def f9(k:Nd):Bool:=F.expr k||(decide (k.kind≠10)&&F.typ k)
def dc(n:Nd):Bool:=
 if n.kind=16 then fc 16 [] (aG iI n)
 else if n.kind=17 then fc 17 [] (aG iS n)
 else if n.kind=18 then fc 18 [] (aG aO n)
 else if n.kind=19 then fc 19 [F.expr] (aG ng n)
 else if n.kind=20 then fc 20 [F.expr,F.expr] (aG iu n)
 else if n.kind=21 then decide (n.text=(⟨#[]⟩:BA))&&(decide (0<n.kids.length)&&n.kids.all F.expr)
 else if n.kind=22 then decide (n.text=(⟨#[]⟩:BA))&&(decide (1<n.kids.length)&&(F.expr (n.kids.getD 0 bU)&&(n.kids.drop 1).all (f9 F)))
 else if n.kind=23 then fc 23 [F.expr] (aG aO n)
 else if n.kind=24 then decide (n.text=(⟨#[]⟩:BA))&&(decide (0<n.kids.length)&&(decide ((n.kids.getD 0 bU).kind≠12)&&(F.typ (n.kids.getD 0 bU)&&(n.kids.drop 1).all F.expr)))
 else fc 25 [ld F,F.block] n
def iJ(s:ByteArray):List UInt8×List UInt8×Bool:=Lib.cut s.data.toList [44]
def ew(s:ByteArray):Bool:=
 decide (s=(⟨#[]⟩:BA))||(((iJ s).2.2&&(aO ⟨(iJ s).1.toArray⟩&&ev ⟨(iJ s).2.1.toArray⟩))||(!(iJ s).2.2&&ev ⟨(iJ s).1.toArray⟩))
def pu(s:ByteArray):Bool:=decide (s=(⟨#[43,43]⟩:BA))||decide (s=(⟨#[45,45]⟩:BA))
def mE(n:Nd):Bool:=fc 28 [F.expr] (aG pu n)
def mF(n:Nd):Bool:=fc 27 [F.expr,F.expr] n
def oA(x:Nd):Bool:=decide (x.kind=21)&&F.expr x
def mw(n:Nd):Bool:=fc 29 [oA F] n
def ia(n:Nd):Bool:=fc 26 [F.expr] (aG ev n)
def dj(n:Nd):Bool:=decide (n.kind=36)&&(decide (n.text=(⟨#[]⟩:BA))&&n.kids.all F.stmt)
def GQ(n:Nd):Bool:=fc 30 [F.expr,F.block,dv (dv aE F.block) F.ifS] n
def eY(n:Nd):Bool:=
 if n.kind=5 then oU F n
 else if n.kind=26 then ia F n
 else if n.kind=27 then mF F n
 else if n.kind=28 then mE F n
 else if n.kind=29 then mw F n
 else if n.kind=30 then GQ F n
 else if n.kind=31 then fc 31 [dv (dv aE (ia F)) (dv (mF F) (mE F)),dv aE F.expr,dv (dv aE (mF F)) (dv (mE F) (mw F)),F.block] n
 else if n.kind=32 then fc 32 [F.expr,F.block] (aG ew n)
 else if n.kind=33 then fc 33 [dv aE F.expr] n
 else if n.kind=34\/n.kind=35 then fc n.kind [] n
 else dj F n
def iT(n:Nd):Bool:=decide (n.kind=1)&&(aO n.text&&n.kids.all (f8 F))
end
def aj:Nat->dM
 |0=>⟨fun _=>false,fun _=>false,fun _=>false,fun _=>false,fun _=>false⟩
 |g+1=>⟨l5 (aj g),dc (aj g),dj (aj g),eY (aj g),GQ (aj g)⟩
def lW:Nat->Nd->Prop
 |0,_=>False
 |g+1,n=>(n.kids.length<=1000000000/\n.text.size<=1000000000)/\∀k∈n.kids,lW g k
theorem lW.succ:∀{g:Nat}{n:Nd},lW g n->lW (g+1) n
 |0,_,h=>h.elim
 |_+1,_,h=>⟨h.1,fun k hk=>lW.succ (h.2 k hk)⟩
theorem lW.kid{g:Nat}{n k:Nd}(h:lW (g+1) n)(D:k∈n.kids):lW g k:=h.2 k D
theorem lW.len{g:Nat}{n:Nd}(h:lW g n):n.kids.length<=1000000000:=by
 cases g with
 |zero=>exact h.elim
 |succ g=>exact h.1.1
theorem lW.txt{g:Nat}{n:Nd}(h:lW g n):n.text.size<=1000000000:=by
 cases g with
 |zero=>exact h.elim
 |succ g=>exact h.1.2
theorem lW.named{g:Nat}{n:Nd}{so:ByteArray->Bool}(h:lW g n):lW g (aG so n):=by
 cases g with
 |zero=>exact h.elim
 |succ g=>
  unfold aG;split
  ·exact⟨⟨h.1.1,by simp[ByteArray.size]⟩,h.2⟩
  ·exact⟨⟨by simp,by simp[ByteArray.size]⟩,fun k hk=>by simp at hk⟩
def Au:Nat->Nd->Prop
 |0,_=>True
 |g+1,n=>(n.kids.length<=1000000000/\n.text.size<=1000000000)/\∀k∈n.kids,Au g k
def b8:Nat->Nd->List Nat
 |0,_=>[]
 |l+1,n=>(l+1)::n.kids.flatMap (b8 l)
def CW(l:Nat)(n:Nd):Nat:=(b8 l n).length
def ic(n:Nd):Nat:=(b8 101 n).foldl (fun d l=>max d (102-l)) 0
theorem rL(l:List Nat):∀d m,l.foldl (fun d l=>max d (102-l)) d<=m↔d<=m/\∀x∈l,102-x<=m:=by
 induction l with
 |nil=>intro d m;simp
 |cons x l ih=>
  intro d m;rw[vz,ih,Nat.max_le];constructor
  ·rintro⟨⟨I,D⟩,J⟩;refine⟨I,fun y hy=>?_⟩;rcases List.mem_cons.1 hy with rfl|hy
   ·exact D
   ·exact J y hy
  ·rintro⟨I,D⟩;exact⟨⟨I,D x List.mem_cons_self⟩,fun y hy=>D y (qp _ hy)⟩
theorem AO:∀(g:Nat)(n:Nd),Au g n->(∀x∈b8 (g+1) n,2<=x)->lW g n
 |0,n,_,h=>by have:=h 1 (by simp[b8]);omega
 |g+1,_,D,h=>⟨D.1,fun k I=>AO g k (D.2 k I) fun x J=>h x (by
     rw[b8];exact qp _ (List.mem_flatMap.2 ⟨k,I,J⟩))⟩
theorem oV{n:Nd}(D:Au 100 n)(h:ic n<=100):lW 100 n:=by refine AO 100 n D fun x hx=>?_;have:=((rL _ _ _).1 h).2 x hx;omega
def de(n:Nd):Bool:=decide (ic n<=100)&&(decide (CW 100 n<=65536)&&iT (aj 100) n)
end
end Go.Proofs.YtiebcdeafofgdaaGreatDoor
