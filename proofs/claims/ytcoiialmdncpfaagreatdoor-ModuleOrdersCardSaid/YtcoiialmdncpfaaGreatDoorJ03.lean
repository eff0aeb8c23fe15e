/-
  Parts of the proof: Pres2 Gspec Gneed Prel. By an AI agent.
-/
import Derived.Test.YtcoiialmdncpfaaGreatDoorJ02
namespace Go.Proofs.YtcoiialmdncpfaaGreatDoor
section
theorem gJ:type_of% @List.length_append:=@List.length_append
theorem jN:type_of% @List.length_map:=@List.length_map
theorem jO:type_of% @Nat.lt_succ_self:=@Nat.lt_succ_self
theorem kW:type_of% @List.map_append:=@List.map_append
theorem qD:type_of% @congrArg:=@congrArg
theorem vL:type_of% @List.mem_of_mem_drop:=@List.mem_of_mem_drop
section
variable {c:Cx} {i i' j j' m:Nat}
theorem aN.make'{k t l a}(m:Nat)(q:a=(aj c m).pos)(D:t.size<=1000000000)(J:k≠22)(O:i<=m)(M:m<j)(I:an c m j l):aN c i j (.mk k t l a):=
 ez.2 ⟨D,fun h=>absurd h J,m,O,M,q,I⟩
theorem aN.self{n:Nd}(h:aN c i j n):∃m,i<=m/\m<j/\n.pos=(aj c m).pos/\aN c m j n:=by obtain⟨k,t,l,a⟩:=n;obtain⟨q,O,m,M,I,D,J⟩:=ez.1 h;exact⟨m,M,I,D,ez.2 ⟨q,O,m,gA _,I,D,J⟩⟩
theorem wE{α:Type}{b:Prop}{P:α->Nat->Prop}{part:R α}(s:St)(h:bF b (fun a s1=>P a s1.at_) (part c { s with head:=false })):bF b (fun a s1=>P a s1.at_) (bZ part c s):=by unfold bZ;exact h.bind id fun a s1 h=>h
theorem wF{α:Type}{b:Prop}{P:α->Nat->Prop}{part:R α}(s:St)(h:bF b (fun a s1=>P a s1.at_) (part c { s with head:=true })):bF b (fun a s1=>P a s1.at_) (cV part c s):=by unfold cV;exact h.bind id fun a s1 h=>h
mutual
theorem sI{i j:Nat}:∀n t:Nd,cR n=some t->aN c i j n->aN c i j t/\t.pos=n.pos/\(t.kind=10\/t.kind=11\/t.kind=12)/\fc t<=fc n
 | .mk k x l a,t,h,hn=>by
  unfold cR at h;split at h
  ·rename_i hk;injection h with h;subst h;exact⟨hn,rfl,hk,gA _⟩
  ·split at h
   ·injection h with h;subst h;obtain⟨h1,h2,m,h3,h4,h5,M⟩:=ez.1 hn;refine⟨aN.make' m h5 h1 (by decide) h3 h4 an.nil,rfl,.inl rfl,?_⟩;rw[aG,aG,aB];omega
   ·split at h
    ·rename_i hk;obtain⟨h1,h2,m,h3,h4,h5,M⟩:=ez.1 hn;obtain⟨y,r,rfl,-,-,I⟩:=h2 hk;rw[bH]at M;simp only at h;cases D:cR y with
     |none=>rw[D]at h;cases h
     | some z=>
      obtain⟨k2,t2,l2,a2⟩:=z;rw[D]at h;simp only at h;split at h
      ·rename_i ga;cases q:dw r with
       |none=>rw[q]at h;cases h
       |some r'=>rw[q]at h;injection h with h;subst h;have O:aN c m j y:=M.1.resolve_left (fun hz=>by obtain⟨ky,ty,ly,ay⟩:=y;have gb:ky=0\/ky=6:=hz.2.2.2;unfold cR at D;rw[gE (by omega),gE (by omega),gE (by omega)]at D;cases D);obtain⟨q1,q2,q3,q4⟩:=sI y _ D O;obtain⟨q5,q6⟩:=wG r r' q M.2;(have J:a2=a:=by have:a2=y.pos:=q2;rw[this,I]);obtain⟨w1,-,-⟩:=ez.1 q1;refine⟨aN.make' m (J.trans h5) w1 (by rw[ga.1];decide) h3 h4 q5,J,q3,?_⟩;rw[aG,aG,ap];omega
      ·cases h
    ·cases h
theorem wG{i j:Nat}:∀l l':List Nd,dw l=some l'->an c i j l->an c i j l'/\fZ l'<=fZ l
 |[],l',h,_=>by unfold dw at h;injection h with h;subst h;exact⟨an.nil,gA _⟩
 | x::r,l',h,M=>by
  rw[bH]at M;unfold dw at h;cases D:cR x with
  |none=>rw[D]at h;cases h
  |some y=>
   rw[D]at h;simp only at h;cases J:dw r with
   |none=>rw[J]at h;cases h
   |some r'=>rw[J]at h;injection h with h;subst h;have I:aN c i j x:=M.1.resolve_left (fun hz=>by obtain⟨ky,ty,ly,ay⟩:=x;have z:ky=0\/ky=6:=hz.2.2.2;unfold cR at D;rw[gE (by omega),gE (by omega),gE (by omega)]at D;cases D);obtain⟨q,q2,q3,q4⟩:=sI x _ D I;obtain⟨O,q6⟩:=wG r r' J M.2;exact⟨an.cons q O,by rw[ap,ap];omega⟩
end
end
section
variable {c:Cx} {g:Nat} {F:eQ} (hF:Lw c g F) (hT:wB c)
include hF hT
theorem Bi(i0:Nat)(s:St)(z:s.at_<=c.toks.length)(hi:i0<s.at_):bF (3*(c.toks.length-s.at_)<=g) (fun n s1=>bJ c i0 s.at_ 0 n s1.at_) (ig F (aj c i0).pos c s):=by
 have _:=z;unfold ig;refine(iR (b:=True) hT s).bind (fun _=>trivial) fun x s1 h1=>?_;have e1:=h1.1.1;have ga:=h1.1.2;refine(wD hF hT s1 h1.1.2).bind (fun h=>by omega) fun ps J h2=>?_;obtain⟨e2,e3,e4,e5⟩:=h2;(have key:∀(k:Int)(y:k≠22)(t:Nd)(I:St)(lo:Nat),J.at_<=lo->bJ c J.at_ lo 5 t I.at_->bJ c i0 s.at_ 0 (.mk k x [ps,t] (aj c i0).pos) I.at_:=by intro k y t I lo hlo h;have q:=h.lt;have e7:=h.cnt;refine⟨by omega,h.le,aN.make i0 (gM h1.2 (by decide)) y (gA _) (by omega) (bH.2 ⟨e4.imp id fun h=>aN.mono (by omega) (by omega) _ h,an.cons (aN.mono (by omega) (gA _) _ h.ok) an.nil⟩),?_⟩;rw[aG,ap,ap,aB];omega);refine bF.ite (fun M=>?_) (fun _=>bF.ite (fun M=>?_) (fun _=>bF.ite (fun M=>?_) (fun _=>?_)))
 ·have D:=bj M;generalize am J=s0 at D |-;have q:=D.1;have O:=D.2;refine(hF.typ s0 D.2).bind (fun h=>by omega) fun t I h=>?_;exact key 4 (by decide) t I s0.at_ (by omega) ⟨h.1.lt,h.1.le,aN.mono (by omega) (gA _) _ h.1.ok,by have:=h.1.cnt;omega⟩
 ·have D:=bj M;generalize am J=s0 at D |-;have q:=D.1;have O:=D.2;refine(Ep hF hT J.at_ s0 D.2 (by omega)).bind (fun h=>by omega) fun t I h=>?_;exact key 3 (by decide) t I s0.at_ (by omega) ⟨h.lt,h.le,h.ok,by have:=h.cnt;omega⟩
 ·have D:=bj M;generalize am J=s0 at D |-;have q:=D.1;have O:=D.2;refine(Ai hF hT J.at_ s0 D.2 (by omega)).bind (fun h=>by omega) fun t I h=>?_;exact key 3 (by decide) t I s0.at_ (by omega) ⟨h.lt,h.le,h.ok,by have:=h.cnt;omega⟩
 ·refine(hF.typ J e3).bind (fun h=>by omega) fun t I h=>?_;exact key 3 (by decide) t I J.at_ (by omega) ⟨h.1.lt,h.1.le,h.1.ok,by have:=h.1.cnt;omega⟩
theorem ma(i0 C:Nat)(M:i0<=C):∀(f:Nat)(acc:List Nd)(s:St),s.at_<=c.toks.length->an c i0 s.at_ acc->fZ acc<=8*(s.at_-C)->C<=s.at_ ->
  bF (3*(c.toks.length-s.at_)+3<=g/\c.toks.length-s.at_<f) (fun n s1=>bJ c i0 C 7 n s1.at_) (cE F (aj c i0).pos f acc c s)
 |0,_,_,_,_,_,_=>fun h=>absurd h.2 (by omega)
 | f+1,acc,s,x,O,h4,h5=>by
  have _:=hT;unfold cE;refine bF.ite (fun J=>?_) (fun _=>bF.ite (fun J=>?_) (fun _=>?_))
  ·have D:=bj J;have z:=D.1;refine⟨by omega,D.2,aN.make i0 (by show(0:Nat)<=_;omega) (by decide) (gA _) (by omega) (an.mono (gA _) (by omega) _ O),?_⟩;rw[aG];omega
  ·have D:=l9 (oy J);generalize am s=s0 at D |-;have z:=D.1;have y:=D.2;exact(ma i0 C M f acc s0 D.2 (an.mono (gA _) (by omega) _ O) (by omega) (by omega)).mono (fun h=>⟨by omega,by omega⟩) fun m s2 h'=>h'
  ·refine(hF.stmt s x).bind (fun h=>by omega) fun n s2 h=>?_;have e2:=h.lt;have e3:=h.cnt;have I:an c i0 s2.at_ (acc++[n]):=(an.mono (gA _) (by omega) _ O).app (an.cons (aN.mono (by omega) (gA _) _ h.ok) an.nil);(have q:fZ (acc++[n])=fZ acc+fc n:=by rw[fB,ap,aB];omega);refine bF.ite (fun J=>?_) (fun _=>bF.ite (fun _=>?_) fun _=>trivial)
   ·have D:=l9 (oy J);generalize am s2=s0 at D |-;have e4:=D.1;have e5:=D.2;exact(ma i0 C M f _ s0 D.2 (an.mono (gA _) (by omega) _ I) (by omega) (by omega)).mono (fun h=>⟨by omega,by omega⟩) fun m s2 h'=>h'
   ·have:=h.le;exact(ma i0 C M f _ s2 h.le I (by omega) (by omega)).mono (fun h=>⟨by omega,by omega⟩) fun m s2 h'=>h'
theorem it(s:St)(I:s.at_<=c.toks.length):bF (3*(c.toks.length-s.at_)<=g) (fun n D=>bJ c s.at_ s.at_ 7 n D.at_) (be F c s):=by have _:=I;unfold be;refine wE (P:=fun n k=>bJ c s.at_ s.at_ 7 n k) s ?_;unfold lY;refine(cX (b:=True) _ _).bind (fun _=>trivial) fun _ D h1=>?_;have M:D.at_=s.at_+1:=h1.1;have J:=h1.2;rw[hF.hg];exact(ma hF hT s.at_ s.at_ (gA _) g [] D h1.2 an.nil (by rw[aB];omega) (by omega)).mono (fun h=>⟨by omega,by omega⟩) fun m s2 h'=>h'
theorem Ly(s:St)(q:s.at_<=c.toks.length):bF (3*(c.toks.length-s.at_)<=g) (fun n s1=>bJ c s.at_ s.at_ 0 n s1.at_) (nY F c s):=by
 unfold nY;refine bF.ite (fun J=>?_) (fun _=>bF.ite (fun J=>?_) (fun _=>?_))
 ·have D:=bj J;generalize am s=s0 at D |-;have e0:=D.1;have M:=D.2;refine(iR (b:=True) hT s0).bind (fun _=>trivial) fun x s1 h1=>?_;have e1:=h1.1.1;have ga:=h1.1.2;refine(wD hF hT s1 h1.1.2).bind (fun h=>by omega) fun ps s2 h2=>?_;obtain⟨O,z,y,e5⟩:=h2;refine(Fa hF hT s.at_ s2 z (by omega)).bind (fun h=>by omega) fun sg s3 h3=>?_;have e6:=h3.1.lt;have e7:=h3.1.cnt;refine(it hF hT s3 h3.1.le).bind (fun h=>by omega) fun b s4 I=>?_;have e8:=I.lt;have e9:=I.cnt;refine⟨by omega,I.le,aN.make s.at_ (gM h1.2 (by decide)) (by decide) (gA _) (by omega) (bH.2 ⟨y.imp id fun h=>aN.mono (by omega) (by omega) _ h,an.cons (aN.mono (gA _) (by omega) _ h3.1.ok) (an.cons (aN.mono (by omega) (gA _) _ I.ok) an.nil)⟩),?_⟩;rw[aG,ap,ap,ap,aB];omega
 ·have D:=bj J;generalize am s=s0 at D |-;have e0:=D.1;have M:=D.2;refine(Bi hF hT s.at_ s0 D.2 (by omega)).mono (fun h=>by omega) fun n s1 h=>?_;have e1:=h.lt;have O:=h.cnt;exact⟨by omega,h.le,h.ok,by omega⟩
 ·refine(rR hF hT s q).mono id fun n s1 h=>?_;have O:=h.cnt;exact⟨h.lt,h.le,h.ok,by omega⟩
theorem CX(i0:Nat)(x:Nd)(s:St)(I:bJ c i0 i0 7 x s.at_):bF (3*(c.toks.length-s.at_)<=g) (fun n s1=>bJ c i0 i0 6 n s1.at_) (ia F (aj c i0).pos x c s):=by
 have _:=hT;have x1:=I.lt;have x2:=I.cnt;have z:=I.le;unfold ia;refine bF.ite (fun J=>?_) (fun _=>bF.ite (fun J=>?_) (fun _=>bF.ite (fun J=>?_) (fun _=>bF.ite (fun J=>?_) (fun _=>bF.ite (fun J=>?_) (fun _=>trivial)))))
 ·have D:=bj J.2.2;generalize am s=s0 at D |-;have O:=D.1;have M:=D.2;refine(hF.expr s0 D.2).bind (fun h=>by omega) fun v s1 h=>?_;have h:=h.1;have y:=h.lt;have q:=h.cnt;(obtain⟨xt,-⟩:x.text.size<=1000000000/\True:=by obtain⟨k,t,l,a⟩:=x;exact⟨(ez.1 I.ok).1,trivial⟩);refine⟨by omega,h.le,aN.make i0 xt (by decide) (gA _) (by omega) (an.cons (aN.mono (by omega) (gA _) _ h.ok) an.nil),?_⟩;rw[aG,ap,aB];omega
 ·have D:=bj J;generalize am s=s0 at D |-;have O:=D.1;have M:=D.2;refine(hF.expr s0 D.2).bind (fun h=>by omega) fun v s1 h=>?_;have h:=h.1;have y:=h.lt;have q:=h.cnt;refine⟨by omega,h.le,aN.make i0 (by show(0:Nat)<=_;omega) (by decide) (gA _) (by omega) (an.cons (aN.mono (gA _) (by omega) _ I.ok) (an.cons (aN.mono (by omega) (gA _) _ h.ok) an.nil)),?_⟩;rw[aG,ap,ap,aB];omega
 ·have D:=bj J;generalize am s=s0 at D |-;have O:=D.1;have M:=D.2;refine⟨by omega,D.2,aN.make i0 (by show(2:Nat)<=_;omega) (by decide) (gA _) (by omega) (an.cons (aN.mono (gA _) (by omega) _ I.ok) an.nil),?_⟩;rw[aG,ap,aB];omega
 ·have D:=bj J;generalize am s=s0 at D |-;have O:=D.1;have M:=D.2;refine⟨by omega,D.2,aN.make i0 (by show(2:Nat)<=_;omega) (by decide) (gA _) (by omega) (an.cons (aN.mono (gA _) (by omega) _ I.ok) an.nil),?_⟩;rw[aG,ap,aB];omega
 ·refine⟨by omega,I.le,aN.make i0 (by show(0:Nat)<=_;omega) (by decide) (gA _) (by omega) (an.cons I.ok an.nil),?_⟩;rw[aG,ap,aB];omega
theorem wH(s:St)(D:s.at_<=c.toks.length):bF (3*(c.toks.length-s.at_)+2<=g) (fun n s1=>bJ c s.at_ s.at_ 6 n s1.at_) (iz F c s):=by unfold iz;refine(hF.expr s D).bind id fun x s1 h=>?_;have I:=h.1.lt;exact(CX hF hT s.at_ x s1 h.1).mono (fun h=>by omega) fun _ _ h=>h
theorem sJ(s:St)(D:s.at_<=c.toks.length):bF (3*(c.toks.length-s.at_)+2<=g) (fun n s1=>bJ c s.at_ s.at_ 7 n s1.at_) (cV F.expr c s):=have _:=hT
 wF (P:=fun n k=>bJ c s.at_ s.at_ 7 n k) s ((hF.expr { s with head:=true } D).mono id fun _ _ h=>h.1)
theorem Gu(s:St)(D:s.at_<=c.toks.length):bF (3*(c.toks.length-s.at_)+2<=g) (fun n s1=>bJ c s.at_ s.at_ 7 n s1.at_/\n.kind≠10/\n.kind<26) (bZ F.expr c s):=have _:=hT
 wE (P:=fun n k=>bJ c s.at_ s.at_ 7 n k/\n.kind≠10/\n.kind<26) s (hF.expr _ D)
theorem Lz(s:St)(O:s.at_<=c.toks.length):bF (3*(c.toks.length-s.at_)<=g) (fun n s1=>bJ c s.at_ s.at_ 6 n s1.at_) (Mu F c s):=by
 have _:=O;unfold Mu;refine(cX (b:=True) _ s).bind (fun _=>trivial) fun _ s1 h1=>?_;have e1:=h1.1;have ga:=h1.2;refine(sJ hF hT s1 h1.2).bind (fun h=>by omega) fun x s2 h2=>?_;have e2:=h2.lt;have e3:=h2.cnt;refine(it hF hT s2 h2.le).bind (fun h=>by omega) fun b M I=>?_;have e4:=I.lt;have e5:=I.cnt;(have key:∀(o:Nd)(D:St)(lo:Nat),M.at_<=lo->bJ c lo lo 6 o D.at_->bJ c s.at_ s.at_ 6 (.mk 30 ⟨#[]⟩ [x,b,o] (ar c s)) D.at_:=by intro o D lo hlo h;have z:=h.lt;have e7:=h.cnt;refine⟨by omega,h.le,aN.make s.at_ (by show(0:Nat)<=_;omega) (by decide) (gA _) (by omega) (an.cons (aN.mono (by omega) (by omega) _ h2.ok) (an.cons (aN.mono (by omega) (by omega) _ I.ok) (an.cons (aN.mono (by omega) (gA _) _ h.ok) an.nil))),?_⟩;rw[aG,ap,ap,ap,aB];omega);refine bF.ite (fun q=>?_) (fun _=>?_)
 ·have J:=bj q;generalize am M=s0 at J |-;have z:=J.1;have y:=J.2;refine bF.ite (fun _=>?_) (fun _=>?_)
  ·exact(hF.ifS s0 J.2).bind (fun h=>by omega) fun o D h=>key o D s0.at_ (by omega) h
  ·exact(it hF hT s0 J.2).bind (fun h=>by omega) fun o D h=>key o D s0.at_ (by omega) ⟨h.lt,h.le,h.ok,by have:=h.cnt;omega⟩
 ·refine⟨by omega,I.le,aN.make s.at_ (by show(0:Nat)<=_;omega) (by decide) (gA _) (by omega) (an.cons (aN.mono (by omega) (by omega) _ h2.ok) (an.cons (aN.mono (by omega) (by omega) _ I.ok) (an.consZ eG an.nil))),?_⟩;rw[aG,ap,ap,ap,aB,iQ];omega
theorem Er(s:St)(D:s.at_<=c.toks.length):bF (3*(c.toks.length-s.at_)+2<=g) (fun n s1=>bJ c s.at_ s.at_ 6 n s1.at_) (fH F c s):=by
 unfold fH;refine(hF.expr s D).bind id fun x s1 h=>?_;have J:=h.1.lt;have I:=h.1.cnt;refine bF.ite (fun _=>?_) (fun _=>?_)
 ·exact⟨h.1.lt,h.1.le,h.1.ok,by omega⟩
 ·exact(CX hF hT s.at_ x s1 h.1).mono (fun h=>by omega) fun _ _ h=>h
theorem LA(s:St)(D:s.at_<=c.toks.length):bF (3*(c.toks.length-s.at_)+2<=g) (fun n s1=>bJ c s.at_ s.at_ 6 n s1.at_) (mz F c s):=by unfold mz;exact(wH hF hT s D).bind id fun x s1 h=>bF.ite (fun _=>trivial) fun _=>h
def o7(c:Cx)(i:Nat)(n:Nd)(j:Nat):Prop:=i<=j/\j<=c.toks.length/\(o6 n\/aN c i j n)/\fc n<=1+8*(j-i)
omit hF hT in
theorem o7.zero{i:Nat}(h:i<=c.toks.length):o7 c i cj i:=⟨gA _,h,.inl eG,by rw[iQ];omega⟩
omit hF hT in
theorem o7.fine{i j sl:Nat}{n:Nd}(h:bJ c i i sl n j):o7 c i n j:=⟨jV h.lt,h.le,.inr h.ok,by have:=h.cnt;omega⟩
omit hF hT in
theorem o7.mono{i i' j j':Nat}{n:Nd}(h:o7 c i n j)(I:i'<=i)(D:j<=j'):o6 n\/aN c i' j' n:=h.2.2.1.imp id fun h=>aN.mono I D _ h
def LB(c:Cx)(i:Nat)(h:Nd×Nd×Nd)(j:Nat):Prop:=i<=j/\j<=c.toks.length/\(o6 h.1\/aN c i j h.1)/\(o6 h.2.1\/aN c i j h.2.1)/\(o6 h.2.2\/aN c i j h.2.2)/\fc h.1+fc h.2.1+fc h.2.2<=3+8*(j-i)
theorem LC(s:St)(M:s.at_<=c.toks.length):bF (3*(c.toks.length-s.at_)+2<=g) (fun h s1=>LB c s.at_ h s1.at_) (nK F c s):=by
 have tail:∀(a:Nd)(t:St),o7 c s.at_ a t.at_->bF (3*(c.toks.length-s.at_)+2<=g) (fun h s1=>LB c s.at_ h s1.at_)
   ((need ⟨#[59]⟩ c t).bind fun _ s1=>(if aR c s1 ⟨#[59]⟩then .ok cj s1 else cV F.expr c s1).bind fun b s2=>(need ⟨#[59]⟩ c s2).bind fun _ s3=>(if aR c s3 ⟨#[123]⟩then .ok cj s3 else cV (mz F) c s3).bind fun d s4=>.ok (a,b,d) s4):=by intro a t I;have a1:=I.1;have a2:=I.2.2.2;refine(cX (b:=True) _ t).bind (fun _=>trivial) fun _ s1 h1=>?_;have y:=h1.1;have q:=h1.2;refine bF.bind (b':=3*(c.toks.length-s1.at_)+2<=g) (Q:=fun n s2=>o7 c s1.at_ n s2.at_) (bF.ite (fun _=>o7.zero h1.2) fun _=>(sJ hF hT s1 h1.2).mono id fun _ _ h=>o7.fine h) (fun h=>by omega) fun b s2 J=>?_;have b1:=J.1;have b2:=J.2.2.2;refine(cX (b:=True) _ s2).bind (fun _=>trivial) fun _ s3 h3=>?_;have z:=h3.1;have O:=h3.2;refine bF.bind (b':=3*(c.toks.length-s3.at_)+2<=g) (Q:=fun n s4=>o7 c s3.at_ n s4.at_) (bF.ite (fun _=>o7.zero h3.2) fun _=>wF (P:=fun n k=>o7 c s3.at_ n k) s3 ((LA hF hT { s3 with head:=true } h3.2).mono id fun _ _ h=>o7.fine h)) (fun h=>by omega) fun d s4 D=>?_;have d1:=D.1;have d2:=D.2.2.2;exact⟨by omega,D.2.1,I.mono (gA _) (by omega),J.mono (by omega) (by omega),D.mono (by omega) (gA _),by show fc a+fc b+fc d<=_;omega⟩
 unfold nK;refine bF.ite (fun _=>?_) (fun _=>?_)
 ·exact tail cj s (o7.zero M)
 ·refine(wF (P:=fun n k=>bJ c s.at_ s.at_ 6 n k) s (Er hF hT { s with head:=true } M)).bind id fun x s1 h=>?_;have y:=h.lt;have e2:=h.cnt;refine bF.ite (fun _=>trivial) (fun _=>bF.ite (fun _=>?_) (fun _=>tail x s1 (o7.fine h)));exact⟨by omega,h.le,.inl eG,.inr h.ok,.inl eG,by show fc cj+fc x+fc cj<=_;rw[iQ];omega⟩
omit hF in
theorem Gv{s s':St}{x:ByteArray}(h:cO c s=some (x,s')):s.at_<s'.at_/\s'.at_<=c.toks.length/\x.size<=1000000000:=by
 refine⟨?_,hT.rg _ _ _ h,?_⟩
 ·unfold cO at h;simp only at h;split at h
  ·injection h with h;injection h with _ h;subst h;exact jO _
  ·split at h
   ·split at h
    ·injection h with h;injection h with _ h;subst h;show s.at_<s.at_+3;omega
    ·split at h
     ·injection h with h;injection h with _ h;subst h;show s.at_<s.at_+5;omega
     ·cases h
   ·cases h
 ·unfold cO at h;simp only at h;split at h
  ·injection h with h;injection h with h _;subst h;show(0:Nat)<=_;omega
  ·split at h
   ·rename_i a b d r hl;have I:∀t,t∈[a,b,d]->t.text.size<=65536:=fun t D=>hT.txt t (vL (i:=s.at_) (by rw[hl];simp at D |-;rcases D with rfl|rfl|rfl<;>simp));have J:=I a (by simp);have hd:=I d (by simp);split at h
    ·injection h with h;injection h with h _;subst h;omega
    ·split at h
     ·injection h with h;injection h with h _;subst h;simp only[ByteArray.size_append];have:((⟨#[44]⟩:BA):ByteArray).size=1:=rfl;omega
     ·cases h
   ·cases h
theorem Ny(s:St)(z:s.at_<=c.toks.length):bF (3*(c.toks.length-s.at_)<=g) (fun n s1=>bJ c s.at_ s.at_ 6 n s1.at_) (AE F c s):=by
 have _:=z;unfold AE;refine(cX (b:=True) _ s).bind (fun _=>trivial) fun _ s1 M=>?_;have e1:=M.1;have ga:=M.2;cases hr:cO c s1 with
 |some p=>obtain⟨x,D⟩:=p;obtain⟨q1,q,O⟩:=Gv hT hr;show bF _ _ ((cV F.expr c D).bind fun e s3=>(be F c s3).bind fun b s4=>.ok (Nd.mk 32 x [e,b] (ar c s)) s4);refine(sJ hF hT D q).bind (fun h=>by omega) fun x s3 I=>?_;have e2:=I.lt;have e3:=I.cnt;refine(it hF hT s3 I.le).bind (fun h=>by omega) fun b s4 J=>?_;have e4:=J.lt;have e5:=J.cnt;refine⟨by omega,J.le,aN.make s.at_ O (by decide) (gA _) (by omega) (an.cons (aN.mono (by omega) (by omega) _ I.ok) (an.cons (aN.mono (by omega) (by omega) _ J.ok) an.nil)),?_⟩;rw[aG,ap,ap,aB];omega
 |none=>show bF _ _ ((if aR c s1 ⟨#[123]⟩then .ok (cj,cj,cj) s1 else nK F c s1).bind fun h D=>(be F c D).bind fun b s3=>.ok (Nd.mk 31 ⟨#[]⟩ [h.1,h.2.1,h.2.2,b] (ar c s)) s3);refine bF.bind (b':=3*(c.toks.length-s1.at_)+2<=g) (Q:=fun h D=>LB c s1.at_ h D.at_) (bF.ite (fun _=>⟨gA _,M.2,.inl eG,.inl eG,.inl eG,by show fc cj+fc cj+fc cj<=_;rw[iQ];omega⟩) fun _=>LC hF hT s1 M.2) (fun h=>by omega) fun h D h2=>?_;obtain⟨p1,p2,p3,p4,y,p6⟩:=h2;refine(it hF hT D p2).bind (fun h=>by omega) fun b s3 I=>?_;have e4:=I.lt;have e5:=I.cnt;have up:∀n:Nd,o6 n\/aN c s1.at_ D.at_ n->o6 n\/aN c s.at_ s3.at_ n:=fun n h=>h.imp id fun h=>aN.mono (by omega) (by omega) _ h;refine⟨by omega,I.le,aN.make s.at_ (by show(0:Nat)<=_;omega) (by decide) (gA _) (by omega) (bH.2 ⟨up _ p3,bH.2 ⟨up _ p4,bH.2 ⟨up _ y,an.cons (aN.mono (by omega) (by omega) _ I.ok) an.nil⟩⟩⟩),?_⟩;rw[aG,ap,ap,ap,ap,aB];omega
theorem LD(s:St)(I:s.at_<=c.toks.length):bF (3*(c.toks.length-s.at_)+2<=g) (fun n s1=>bJ c s.at_ s.at_ 6 n s1.at_) (By F c s):=by
 unfold By;refine bF.ite (fun _=>?_) fun _=>bF.ite (fun _=>?_) fun _=>bF.ite (fun _=>?_) fun _=>bF.ite (fun _=>?_) fun _=>bF.ite (fun J=>?_) fun _=>bF.ite (fun J=>?_) fun _=>bF.ite (fun J=>?_) fun _=>?_
 ·exact(rR hF hT s I).mono (fun h=>by omega) fun _ _ h=>h
 ·exact(Lz hF hT s I).mono (fun h=>by omega) fun _ _ h=>h
 ·exact(Ny hF hT s I).mono (fun h=>by omega) fun _ _ h=>h
 ·exact(it hF hT s I).mono (fun h=>by omega) fun _ _ h=>⟨h.lt,h.le,h.ok,by have:=h.cnt;omega⟩
 ·have D:=bj J;generalize am s=s0 at D |-;have M:=D.1;have O:=D.2;refine bF.ite (fun _=>?_) (fun _=>?_)
  ·refine⟨by omega,D.2,aN.make s.at_ (by show(0:Nat)<=_;omega) (by decide) (gA _) (by omega) (an.consZ eG an.nil),?_⟩;rw[aG,ap,aB,iQ];omega
  ·refine(hF.expr s0 D.2).bind (fun h=>by omega) fun v s1 h=>?_;have h:=h.1;have x:=h.lt;have q:=h.cnt;refine⟨by omega,h.le,aN.make s.at_ (by show(0:Nat)<=_;omega) (by decide) (gA _) (by omega) (an.cons (aN.mono (by omega) (gA _) _ h.ok) an.nil),?_⟩;rw[aG,ap,aB];omega
 ·have D:=bj J;generalize am s=s0 at D |-;have M:=D.1;refine⟨by omega,D.2,aN.make s.at_ (by show(0:Nat)<=_;omega) (by decide) (gA _) (by omega) an.nil,?_⟩;rw[aG,aB];omega
 ·have D:=bj J;generalize am s=s0 at D |-;have M:=D.1;refine⟨by omega,D.2,aN.make s.at_ (by show(0:Nat)<=_;omega) (by decide) (gA _) (by omega) an.nil,?_⟩;rw[aG,aB];omega
 ·exact wH hF hT s I
def Xk(n:Nd):Prop:=n.kind≠10/\n.kind<26
theorem Bj(i0:Nat)(types:Bool)(s:St)(I:s.at_<=c.toks.length)(J:i0<s.at_):bF (3*(c.toks.length-s.at_)<=g) (fun n s1=>bJ c i0 s.at_ 0 n s1.at_/\Xk n) (dV F (aj c i0).pos types c s):=by
 unfold dV;refine bF.ite (fun _=>?_) (fun _=>?_)
 ·refine(rQ hF hT i0 s I (by omega)).bind id fun n s1 h=>?_;exact bF.ite (fun _=>⟨⟨h.1.lt,h.1.le,h.1.ok,by have:=h.1.cnt;omega⟩,by rw[h.2];decide,by rw[h.2];decide⟩) fun _=>trivial
 ·refine(Fa hF hT i0 s I (by omega)).bind id fun n s1 h=>?_;have x:=h.1.lt;have q:=h.1.cnt;refine bF.ite (fun _=>⟨⟨h.1.lt,h.1.le,h.1.ok,by omega⟩,by rw[h.2];decide,by rw[h.2];decide⟩) fun _=>?_;refine(it hF hT s1 h.1.le).bind (fun h=>by omega) fun b s2 D=>?_;have O:=D.lt;have M:=D.cnt;refine⟨⟨by omega,D.le,aN.make i0 (by show(0:Nat)<=_;omega) (by decide) (gA _) (by omega) (an.cons (aN.mono (gA _) (by omega) _ h.1.ok) (an.cons (aN.mono (by omega) (gA _) _ D.ok) an.nil)),?_⟩,by show(25:Int)≠10;decide,by show(25:Int)<26;decide⟩;rw[aG,ap,ap,aB];omega
theorem sK{part:R Nd}(I:∀s,s.at_<=c.toks.length->bF (3*(c.toks.length-s.at_)+2<=g) (fun n s1=>bJ c s.at_ s.at_ 7 n s1.at_/\n.kind≠10/\n.kind<26) (part c s))(en:ByteArray)(s:St)(D:s.at_<=c.toks.length):
  bF (3*(c.toks.length-s.at_)+2<=g) (fun l s1=>Lv c s.at_ s.at_ 0 l s1.at_) (bZ (aU part en F.g []) c s):=by have _:=hT;refine wE (P:=fun l k=>Lv c s.at_ s.at_ 0 l k) s ?_;rw[hF.hg];exact(mM (i0:=s.at_) (lo:=s.at_) (b:=3*(c.toks.length-s.at_)+2<=g) (fun s' hlo hs'=>(I s' hs').mono (fun h=>by omega) fun _ _ h=>⟨h.1.lt,h.1.le,h.1.ok,by have:=h.1.cnt;omega⟩) g 0 [] { s with head:=false } (gA _) (gA _) D an.nil (by rw[aB];omega)).mono (fun h=>⟨h,by show c.toks.length-s.at_<g;omega⟩) fun _ _ h=>h
theorem tB{i0:Nat}(t:Nd)(s:St)(I:bJ c i0 i0 7 t s.at_):bF (3*(c.toks.length-s.at_)<=g) (fun n s1=>bJ c i0 i0 7 n s1.at_/\Xk n/\s.at_<s1.at_) (cI F t c s):=by have y:=I.lt;have x:=I.cnt;unfold cI;refine(cX (b:=True) _ s).bind (fun _=>trivial) fun _ s1 h1=>?_;have e1:=h1.1;have q:=h1.2;refine(sK hF hT hF.expr ⟨#[125]⟩ s1 h1.2).bind (fun h=>by omega) fun l s2 D=>?_;have e2:=D.lt;have e3:=D.cnt;obtain⟨m,O,z,M,J⟩:=I.ok.self;refine⟨⟨by omega,D.le,aN.make' m M (by show(0:Nat)<=_;omega) (by decide) O (by omega) (an.cons (aN.mono (gA _) (by omega) _ J) (an.mono (by omega) (gA _) _ D.ok)),?_⟩,⟨by show(24:Int)≠10;decide,by show(24:Int)<26;decide⟩,by omega⟩;rw[aG,ap];omega
theorem Es(types:Bool)(s:St)(D:s.at_<=c.toks.length)(hb:aR c s ⟨#[91]⟩=true):bF (3*(c.toks.length-s.at_)+1<=g) (fun n s1=>bJ c s.at_ s.at_ 7 n s1.at_/\Xk n) (iA F types c s):=by unfold iA;refine(hF.typ s D).bind id fun t s1 h=>?_;have I:=h.1.lt;refine bF.ite (fun _=>⟨h.1,h.2.2 hb,by have:=h.2.1;omega⟩) fun _=>?_;exact(tB hF hT t s1 h.1).mono (fun h=>by omega) fun _ _ h=>⟨h.1,h.2.1⟩
theorem CY(s:St)(hs:s.at_<=c.toks.length):bF (3*(c.toks.length-s.at_)+1<=g) (fun x s1=>bJ c s.at_ s.at_ 7 x.1 s1.at_/\Xk x.1) (dW F c s):=by
 (have leaf:∀(k:Int)(t:ByteArray),k≠22->k≠10->k<26->t.size<=1000000000->s.at_<c.toks.length->bJ c s.at_ s.at_ 7 (.mk k t [] (aj c s.at_).pos) (s.at_+1)/\Xk (Nd.mk k t [] (aj c s.at_).pos):=by intro k t h22 q O ht D;refine⟨⟨by omega,D,aN.make s.at_ ht h22 (gA _) (by omega) an.nil,?_⟩,q,O⟩;rw[aG,aB];omega);unfold dW;refine bF.ite (fun M=>?_) fun _=>bF.ite (fun M=>?_) fun _=>bF.ite (fun M=>?_) fun _=>bF.ite (fun J=>?_) fun _=>bF.ite (fun J=>?_) fun _=>bF.ite (fun J=>?_) fun _=>trivial
 ·exact leaf 18 _ (by decide) (by decide) (by decide) (gM (hT.at_ _) (by decide)) (oR (by rw[M];decide))
 ·have D:=oR (c:=c) (i:=s.at_) (by rw[M];decide);exact leaf 16 _ (by decide) (by decide) (by decide) (by rw[wA D];exact hT.num _ (jF D)) D
 ·have D:=oR (c:=c) (i:=s.at_) (by rw[M];decide);exact leaf 17 _ (by decide) (by decide) (by decide) (by rw[wA D];exact hT.str _ (jF D)) D
 ·have I:N3 c s (am { s with part :=-1 }):=bj (s:={ s with part :=-1 }) J;generalize am { s with part :=-1 }=s0 at I |-;have e0:=I.1;have y:=I.2;refine(Gu hF hT s0 I.2).bind (fun h=>by omega) fun x s1 h=>?_;have e1:=h.1.lt;have e2:=h.1.cnt;refine(cX (b:=True) _ s1).bind (fun _=>trivial) fun _ s2 z=>?_;have e3:=z.1;exact⟨⟨by omega,z.2,aN.mono (by omega) (by omega) _ h.1.ok,by show fc x+7<=_;omega⟩,h.2⟩
 ·have I:N3 c s (am { s with part :=-1 }):=bj (s:={ s with part :=-1 }) J;generalize am { s with part :=-1 }=s0 at I |-;have e0:=I.1;have y:=I.2;refine(Bj hF hT s.at_ _ s0 I.2 (by omega)).bind (fun h=>by omega) fun x s1 h=>?_;have e1:=h.1.lt;have e2:=h.1.cnt;exact⟨⟨by omega,h.1.le,h.1.ok,by show fc x+7<=_;omega⟩,h.2⟩
 ·exact(Es hF hT _ { s with part :=-1 } hs (by unfold dG at J;rw[gR]at J;exact J.1)).bind id fun x s1 h=>h
theorem fd(i0:Nat):∀(f:Nat)(out:Nd)(bare:Bool)(s:St),bJ c i0 i0 7 out s.at_->Xk out ->
  bF (3*(c.toks.length-s.at_)<=g/\c.toks.length-s.at_<f) (fun n s1=>bJ c i0 i0 7 n s1.at_/\Xk n) (aV F f out bare c s)
 |0,_,_,_,_,_=>fun h=>absurd h.2 (by omega)
 | f+1,out,bare,s,I,hx=>by
  have o1:=I.lt;have o2:=I.cnt;have o3:=I.le;obtain⟨m,z,m2,y,q⟩:=I.ok.self;unfold aV;refine bF.ite (fun J=>?_) fun _=>bF.ite (fun J=>?_) fun _=>bF.ite (fun J=>?_) fun _=>bF.ite (fun J=>?_) fun _=>⟨I,hx⟩
  ·have D:=bj J;generalize am s=s0 at D |-;have e0:=D.1;have O:=D.2;refine(sK hF hT hF.expr ⟨#[41]⟩ s0 D.2).bind (fun h=>by omega) fun l s1 h=>?_;have e1:=h.lt;have e2:=h.cnt;refine(fd i0 f _ false s1 ⟨by omega,h.le,aN.make' m y (by show(0:Nat)<=_;omega) (by decide) z (by omega) (an.cons (aN.mono (gA _) (by omega) _ q) (an.mono (by omega) (gA _) _ h.ok)),?_⟩ ⟨by show(21:Int)≠10;decide,by show(21:Int)<26;decide⟩).mono (fun h=>⟨by omega,by omega⟩) fun _ _ h=>h;rw[aG,ap];omega
  ·have D:=bj J;generalize am s=s0 at D |-;have e0:=D.1;have O:=D.2;refine(sK (part:=cP F) hF hT (fun s hs=>hF.expr { s with part:=s.at_ } hs) ⟨#[93]⟩ s0 D.2).bind (fun h=>by omega) fun l s1 h=>?_;have e1:=h.lt;have e2:=h.cnt;refine bF.ite (fun _=>trivial) fun hl=>?_;refine(fd i0 f _ bare s1 ⟨by omega,h.le,ez.2 ⟨by show(0:Nat)<=_;omega,fun _=>⟨out,l,rfl,fun h=>hl (by rw[h];rfl),hx.1,rfl⟩,m,z,by omega,y,an.cons (aN.mono (gA _) (by omega) _ q) (an.mono (by omega) (gA _) _ h.ok)⟩,?_⟩ ⟨by show(22:Int)≠10;decide,by show(22:Int)<26;decide⟩).mono (fun h=>⟨by omega,by omega⟩) fun _ _ h=>h;rw[aG,ap];omega
  ·have D:=bj J;generalize am s=s0 at D |-;have e0:=D.1;have O:=D.2;refine(iR (b:=True) hT s0).bind (fun _=>trivial) fun x s1 M=>?_;have e1:=M.1.1;have gb:=M.1.2;refine(fd i0 f _ false s1 ⟨by omega,M.1.2,aN.make' m y (gM M.2 (by decide)) (by decide) z (by omega) (an.cons (aN.mono (gA _) (by omega) _ q) an.nil),?_⟩ ⟨by show(23:Int)≠10;decide,by show(23:Int)<26;decide⟩).mono (fun h=>⟨by omega,by omega⟩) fun _ _ h=>h;rw[aG,ap,aB];omega
  ·cases ha:cR out with
   |none=>exact⟨I,hx⟩
   |some t=>obtain⟨q1,q2,q3,q4⟩:=sI out t ha I.ok;have ga:=ny (show aR c s ⟨#[123]⟩=true by rw[gR]at J;exact J.1);show bF _ _ ((cI F t c s).bind fun n s1=>aV F f n false c s1);refine(tB hF hT t s ⟨I.lt,I.le,q1,by omega⟩).bind (fun h=>by omega) fun n s1 h=>?_;obtain⟨M,h2,h3⟩:=h;have:=M.le;exact(fd i0 f n false s1 M h2).mono (fun h=>⟨by omega,by omega⟩) fun _ _ h=>h
theorem CZ(s:St)(D:s.at_<=c.toks.length):bF (3*(c.toks.length-s.at_)+1<=g) (fun n s1=>bJ c s.at_ s.at_ 7 n s1.at_/\Xk n) (eY F c s):=by unfold eY;refine(CY hF hT s D).bind id fun x s1 h=>?_;have J:=h.1.lt;have I:=h.1.le;rw[hF.hg];exact(fd hF hT s.at_ g x.1 x.2 s1 h.1 h.2).mono (fun h=>⟨by omega,by omega⟩) fun _ _ h=>h
theorem Aj(s:St)(M:s.at_<=c.toks.length):bF (3*(c.toks.length-s.at_)+1<=g) (fun n s1=>bJ c s.at_ s.at_ 7 n s1.at_/\Xk n) (lI F c s):=by unfold lI;refine bF.ite (fun J=>?_) fun _=>CZ hF hT s M;(have I:s.at_<c.toks.length:=by rw[vI]at J;exact J.elim ny ny);have D:=l9 I;generalize am s=s0 at D |-;have z:=D.1;have O:=D.2;refine(hF.unary s0 D.2).bind (fun h=>by omega) fun x s1 h=>?_;have y:=h.1.lt;have q:=h.1.cnt;refine⟨⟨by omega,h.1.le,aN.make s.at_ (gM (hT.at_ _) (by decide)) (by decide) (gA _) (by omega) (an.cons (aN.mono (by omega) (gA _) _ h.1.ok) an.nil),?_⟩,by show(19:Int)≠10;decide,by show(19:Int)<26;decide⟩;rw[aG,ap,aB];omega
theorem Al(k:Nat){below:R Nd}(hb:∀s,s.at_<=c.toks.length->bF (3*(c.toks.length-s.at_)+1<=g) (fun n s1=>bJ c s.at_ s.at_ 7 n s1.at_/\Xk n) (below c s))(i0:Nat):∀(f:Nat)(out:Nd)(s:St),bJ c i0 i0 7 out s.at_->Xk out ->
  bF (3*(c.toks.length-s.at_)+1<=g/\c.toks.length-s.at_<f) (fun n s1=>bJ c i0 i0 7 n s1.at_/\Xk n) (pd k below f out c s)
 |0,_,_,_,_=>fun h=>absurd h.2 (by omega)
 |f+1,out,s,I,z=>by have _:=hF;have o1:=I.lt;have o2:=I.cnt;have o3:=I.le;obtain⟨m,x,m2,q,O⟩:=I.ok.self;unfold pd;refine bF.ite (fun M=>?_) fun _=>⟨I,z⟩;have J:s.at_<c.toks.length:=oR (fun D=>by unfold Pr at M;rw[D]at M;simp at M);have D:=l9 J;generalize am s=s0 at D |-;have e0:=D.1;have ga:=D.2;refine(hb s0 D.2).bind (fun h=>by omega) fun y s1 h=>?_;have e1:=h.1.lt;have e2:=h.1.cnt;refine(Al k hb i0 f _ s1 ⟨by omega,h.1.le,aN.make' m q (gM (hT.at_ _) (by decide)) (by decide) x (by omega) (an.cons (aN.mono (gA _) (by omega) _ O) (an.cons (aN.mono (by omega) (gA _) _ h.1.ok) an.nil)),?_⟩ ⟨by show(20:Int)≠10;decide,by show(20:Int)<26;decide⟩).mono (fun h=>⟨by omega,by omega⟩) fun _ _ h=>h;rw[aG,ap,ap,aB];omega
theorem Bk:∀(k:Nat)(s:St),s.at_<=c.toks.length->bF (3*(c.toks.length-s.at_)+1<=g) (fun n s1=>bJ c s.at_ s.at_ 7 n s1.at_/\Xk n) (lg F k c s)
 |0,s,D=>Aj hF hT s D
 |k+1,s,D=>by unfold lg;refine(Bk k s D).bind id fun x s1 h=>?_;have J:=h.1.lt;have I:=h.1.le;rw[hF.hg];exact(Al hF hT (k+1) (Bk k) s.at_ g x s1 h.1 h.2).mono (fun h=>⟨by omega,by omega⟩) fun _ _ h=>h
theorem wI(i0 C:Nat)(O:i0<=C)(x:ByteArray)(I:x.size<=65536):∀(f:Nat)(acc:List Nd)(s:St),s.at_<=c.toks.length->an c i0 s.at_ acc->fZ acc<=8*(s.at_-C)->C<=s.at_ ->
  bF (3*(c.toks.length-s.at_)<=g/\c.toks.length-s.at_<f) (fun n s1=>bJ c i0 C 0 n s1.at_) (fI F (aj c i0).pos x f acc c s)
 |0,_,_,_,_,_,_=>fun h=>absurd h.2 (by omega)
 |f+1,acc,s,h2,J,z,y=>by
  unfold fI;refine bF.ite (fun M=>?_) fun _=>trivial;have D:=l9 (oy M);generalize am s=s0 at D |-;have e0:=D.1;have q:=D.2;refine bF.ite (fun _=>?_) fun _=>bF.ite (fun _=>?_) fun _=>trivial
  ·refine⟨by omega,D.2,aN.make i0 (gM I (by decide)) (by decide) (gA _) (by omega) (an.mono (gA _) (by omega) _ J),?_⟩;rw[aG];omega
  ·refine(Ly hF hT s0 D.2).bind (fun h=>by omega) fun d s1 h=>?_;have e1:=h.lt;have e2:=h.cnt;exact(wI i0 C O x I f _ s1 h.le ((an.mono (gA _) (by omega) _ J).app (an.cons (aN.mono (by omega) (gA _) _ h.ok) an.nil)) (by rw[fB,ap,aB];omega) (by omega)).mono (fun h=>⟨by omega,by omega⟩) fun _ _ h=>h
theorem LE(s:St)(D:s.at_<=c.toks.length):bF (3*(c.toks.length-s.at_)<=g) (fun n s1=>bJ c s.at_ s.at_ 0 n s1.at_) (fu F c s):=by have _:=D;unfold fu;refine(cX (b:=True) _ s).bind (fun _=>trivial) fun _ s1 h1=>?_;have O:=h1.1;have J:=h1.2;refine(iR (b:=True) hT s1).bind (fun _=>trivial) fun x s2 h2=>?_;have M:=h2.1.1;have I:=h2.1.2;rw[hF.hg];exact(wI hF hT s.at_ s.at_ (gA _) x h2.2 g [] s2 h2.1.2 an.nil (by rw[aB];omega) (by omega)).mono (fun h=>⟨by omega,by omega⟩) fun _ _ h=>h
end
theorem wJ{c:Cx}(hT:wB c):∀g,Lw c g (tI g)
 |0=>⟨rfl,fun _ _ h=>absurd h (by omega),fun _ _ h=>absurd h (by omega),fun _ _ h=>absurd h (by omega),fun _ _ h=>absurd h (by omega),fun _ _ h=>absurd h (by omega)⟩
 | g+1=>by
  have hF:=wJ hT g;exact⟨rfl,Nx hF hT,fun s hs=>(Bk hF hT 5 s hs).mono (fun h=>by omega) fun _ _ h=>h,fun s hs=>(Aj hF hT s hs).mono (fun h=>by omega) fun _ _ h=>h,
   fun s hs=>(LD hF hT s hs).mono (fun h=>by omega) fun _ _ h=>h,fun s hs=>(Lz hF hT s hs).mono (fun h=>by omega) fun _ _ h=>h⟩
abbrev Us:=List (Int×Int)
def o8(u:Int×Int):List Value:=[.int .i64 u.1,.int .i64 u.2]
def rS(l:Us):List Value:=l.flatMap o8
def oz(n:Nd):Us:=
 match(n.kids.getD 0 cj).kids with
 |[]=>[]
 |k::_=>(18,k.pos)::(if n.kind=4 then[(24,n.pos)]else[])
def mu(n:Nd):Us:=if n.kind=3/\(n.kids.getD 1 cj).kind=14 then[(18,(n.kids.getD 1 cj).pos)]else[]
def cg(n:Nd):Us:=
 if n.kind=2\/n.kind=3\/n.kind=4 then oz n++mu n
 else if n.kind=10 then(if 0<n.kids.length then[(18,n.pos)]else[])
 else if n.kind=22 then(if 2<n.kids.length\/(n.kids.getD 1 cj).kind=11\/(n.kids.getD 1 cj).kind=12 then[(18,n.pos)]else[])
 else[]
def eP:Nat->Nd->Us
 |0,_=>[]
 |g+1,n=>cg n++n.kids.flatMap (eP g)
def OQ:Nat->Nd->Prop
 |0,_=>True
 |g+1,n=>((n.kind=2\/n.kind=4->1<=n.kids.length)/\(n.kind=3\/n.kind=22->2<=n.kids.length))/\∀k∈n.kids,OQ g k
theorem LM(n:Nd):(oz n).length<=1+(if n.kind=4 then 1 else 0):=by
 unfold oz;split
 ·simp
 ·split<;>simp
theorem C5(n:Nd):(cg n).length<=2:=by
 unfold cg;split
 ·have:=LM n;rw[gJ];unfold mu;by_cases D:n.kind=4
  ·rw[gL D]at this;rw[gE (by omega)];simpa using this
  ·rw[gE D]at this;split<;>simp<;>omega
 ·split
  ·split<;>simp
  ·split
   ·split<;>simp
   ·simp
theorem wL{α β γ:Type}(f:α->List β)(h:α->List γ)(l:List α)(D:∀x∈l,(f x).length<=2*(h x).length):(l.flatMap f).length<=2*(l.flatMap h).length:=by
 induction l with
 |nil=>simp
 |cons x l ih=>rw[qR,qR,gJ,gJ];have J:=D x vV;have I:=ih fun y hy=>D y (vu _ hy);omega
theorem mN:∀(g:Nat)(n:Nd),(eP g n).length<=2*(bi g n).length
 |0,_=>by simp[eP]
 |g+1,n=>by rw[eP,bi,gJ,gI];have I:=C5 n;have D:=wL (eP g) (bi g) n.kids fun k _=>mN g k;omega
def pW(k:Int)(m:Nat):Prop:=(k=2\/k=4->1<=m)/\(k=3\/k=22->2<=m)
mutual
def nN:Nd->Prop
 | .mk k _ l _=>pW k l.length/\Dc l
def Dc:List Nd->Prop
 |[]=>True
 |n::l=>nN n/\Dc l
end
theorem Av:∀l:List Nd,Dc l↔∀k∈l,nN k
 |[]=>by simp[Dc]
 |n::l=>by rw[Dc,Av l];simp
theorem iu(n:Nd):nN n↔pW n.kind n.kids.length/\∀k∈n.kids,nN k:=by
 cases n with
 |mk k t l a=>rw[nN,Av];rfl
theorem nN.need:∀(g:Nat)(n:Nd),nN n->OQ g n
 |0,_,_=>trivial
 |g+1,n,h=>⟨((iu n).1 h).1,fun k hk=>nN.need g k (((iu n).1 h).2 k hk)⟩
theorem tD:∀(ps:List (Nd->Bool))(ns:List Nd),dY ps ns=true->ns.length=ps.length
 |[],[],_=>rfl
 |[],_::_,h=>by simp[dY]at h
 |_::_,[],h=>by simp[dY]at h
 |p::ps,n::ns,h=>by simp only[dY,gR]at h;rw[gI,gI,tD ps ns h.2]
theorem tE:∀(ps:List (Nd->Bool))(ns:List Nd),dY ps ns=true->∀k∈ns,∃p∈ps,p k=true
 |[],[],_=>by simp
 |[],_::_,h=>by simp[dY]at h
 |_::_,[],h=>by simp[dY]at h
 |p::ps,n::ns,h=>by
  simp only[dY,gR]at h;intro k hk;rcases List.mem_cons.1 hk with rfl|hk
  ·exact⟨p,vV,h.1⟩
  ·obtain⟨q,D,e⟩:=tE ps ns h.2 k hk;exact⟨q,vu _ D,e⟩
def bP(p:Nd->Bool):Prop:=∀n,p n=true->nN n
theorem LR{k:Int}{l:List (Nd->Bool)}{n:Nd}(O:n.kind=k)(D:dY l n.kids=true)(I:pW k l.length)(M:∀p∈l,bP p):nN n:=by rw[iu];refine⟨by rw[O,tD _ _ D];exact I,fun m hm=>?_⟩;obtain⟨p,J,e⟩:=tE _ _ D m hm;exact M p J m e
theorem rT{k:Int}{l:List (Nd->Bool)}(D:pW k l.length)(I:∀p∈l,bP p):bP (fi k l):=by intro n h;unfold fi at h;simp only[gR,jG]at h;exact LR h.1 h.2.2 D I
theorem cK{k:Int}{l:List (Nd->Bool)}{so:ByteArray->Bool}(D:k≠37)(J:pW k l.length)(M:∀p∈l,bP p):bP (fun n=>fi k l (aJ so n)):=by
 intro n h;have h:fi k l (aJ so n)=true:=h;unfold fi aJ at h;by_cases I:so n.text=true
 ·rw[gL I]at h;simp only[gR,jG]at h;exact LR h.1 h.2.2 J M
 ·rw[gE I]at h;simp only[gR,jG]at h;exact absurd h.1.symm D
theorem nA{n:Nd}{p:Nd->Bool}(h:n.kids.all p=true)(D:pW n.kind n.kids.length)(I:bP p):nN n:=by rw[iu];exact⟨D,fun k hk=>I k (List.all_eq_true.1 h k hk)⟩
theorem iS:bP aX:=by intro n h;unfold aX at h;simp only[gR,jG]at h;rw[iu];refine⟨by rw[h.1];exact⟨by omega,by omega⟩,?_⟩;rw[jI h.2.2];simp
theorem ld{a b:Nd->Bool}(D:bP a)(hb:bP b):bP (fD a b):=by intro n h;unfold fD at h;rw[vI]at h;exact h.elim (D n) (hb n)
theorem aO{k:Int}{m:Nat}(h:k≠2/\k≠3/\k≠4/\k≠22):pW k m:=⟨by omega,by omega⟩
theorem Fe{p:Nd->Bool}(D:bP p):bP (n7 p):=by intro n h;unfold n7 at h;simp only[gR,jG]at h;exact nA h.2.2 (aO (by rw[h.1];decide)) D
theorem ba:∀p∈([]:List (Nd->Bool)),bP p:=by simp
theorem aD{p:Nd->Bool}{l:List (Nd->Bool)}(h:bP p)(D:∀p∈l,bP p):∀q∈p::l,bP q:=by
 intro q hq;rcases List.mem_cons.1 hq with rfl|hq
 ·exact h
 ·exact D q hq
structure t8(F:eZ):Prop where
 typ:bP F.typ
 expr:bP F.expr
 block:bP F.block
 stmt:bP F.stmt
 ifS:bP F.ifS
section
variable {F:eZ}
theorem LT(h:t8 F)(so:ByteArray->Bool):bP (sn F so):=cK (by decide) (aO (by decide)) (aD h.typ ba)
theorem LU(h:t8 F)(so:ByteArray->Bool):bP (Fo F so):=rT (aO (by decide)) (aD (Fe (LT h so)) (aD (ld iS h.typ) ba))
theorem Dd(h:t8 F):bP (mX F):=LU h br
theorem OR(h:t8 F):bP (AG F):=by
 intro n D;unfold AG at D;split at D
 case isTrue hk=>rw[gR]at D;exact nA D.2 (aO (by rw[hk];decide)) h.typ
 case isFalse=>
  split at D
  ·exact rT (aO (by decide)) (aD h.typ ba) n D
  ·split at D
   ·exact LU h _ n D
   ·cases D
theorem ND(h:t8 F):bP (ut F):=cK (by decide) (aO (by decide)) (aD h.typ ba)
theorem De(h:t8 F):bP (ik F):=by intro n hn;unfold ik at hn;simp only[gR,jG]at hn;exact nA hn.2.2.2 (aO (by rw[hn.1];decide)) (ND h)
theorem LV(h:t8 F):bP (pz F):=cK (by decide) (aO (by decide)) (aD h.typ ba)
theorem GA(h:t8 F):bP (iC F):=by intro n hn;unfold iC at hn;simp only[gR,jG]at hn;exact nA hn.2.2 (aO (by rw[hn.1];decide)) (LV h)
theorem GB(h:t8 F):bP (ll F):=by intro n hn;unfold ll at hn;rw[gR]at hn;exact h.typ n hn.2
theorem GC(h:t8 F):bP (ri F):=cK (by decide) (aO (by decide)) (aD (ld (GB h) (De h)) ba)
theorem sM(h:t8 F):bP (fM F):=Fe (GC h)
theorem LW(h:t8 F):bP (BG F):=by intro n hn;unfold BG at hn;rw[gR]at hn;exact cK (k:=5) (by decide) (aO (by decide)) (aD (ld iS h.typ) (aD (ld iS h.expr) ba)) n hn.1
theorem NE(h:t8 F):bP (mE F):=by
 intro n hn;unfold mE at hn;split at hn
 ·exact cK (k:=2) (by decide) ⟨by simp,by simp⟩ (aD (sM h) (aD (Dd h) (aD h.block ba))) n hn
 ·split at hn
  ·exact cK (k:=3) (by decide) ⟨by simp,by simp⟩ (aD (sM h) (aD (ld (ld h.typ (GA h)) (De h)) ba)) n hn
  ·split at hn
   ·exact cK (k:=4) (by decide) ⟨by simp,by simp⟩ (aD (sM h) (aD h.typ ba)) n hn
   ·exact LW h n hn
theorem NF(h:t8 F):bP (sQ F):=by intro n hn;unfold sQ at hn;rw[vI,gR]at hn;exact hn.elim (h.expr n) (fun e=>h.typ n e.2)
theorem NG(h:t8 F):bP (i8 F):=by
 intro n hn;unfold i8 at hn;split at hn
 ·exact cK (k:=16) (by decide) (aO (by decide)) ba n hn
 split at hn
 ·exact cK (k:=17) (by decide) (aO (by decide)) ba n hn
 split at hn
 ·exact cK (k:=18) (by decide) (aO (by decide)) ba n hn
 split at hn
 ·exact cK (k:=19) (by decide) (aO (by decide)) (aD h.expr ba) n hn
 split at hn
 ·exact cK (k:=20) (by decide) (aO (by decide)) (aD h.expr (aD h.expr ba)) n hn
 split at hn
 case isTrue hk=>simp only[gR,jG]at hn;exact nA hn.2.2 (aO (by rw[hk];decide)) h.expr
 split at hn
 case isTrue hk=>
  simp only[gR,jG]at hn;obtain⟨_,I,M,J⟩:=hn;rw[iu];refine⟨⟨by omega,fun _=>I⟩,fun k hm=>?_⟩;rcases D:n.kids with _|⟨z,zs⟩
  ·rw[D]at I;simp at I
  ·rw[D]at hm M J;rcases List.mem_cons.1 hm with rfl|hm
   ·exact h.expr _ M
   ·exact NF h k (List.all_eq_true.1 J k hm)
 split at hn
 ·exact cK (k:=23) (by decide) (aO (by decide)) (aD h.expr ba) n hn
 split at hn
 case isTrue hk=>
  simp only[gR,jG]at hn;obtain⟨_,I,_,M,J⟩:=hn;rw[iu];refine⟨aO (by rw[hk];decide),fun k hm=>?_⟩;rcases D:n.kids with _|⟨z,zs⟩
  ·rw[D]at I;simp at I
  ·rw[D]at hm M J;rcases List.mem_cons.1 hm with rfl|hm
   ·exact h.typ _ M
   ·exact h.expr k (List.all_eq_true.1 J k hm)
 ·exact rT (aO (by decide)) (aD (Dd h) (aD h.block ba)) n hn
theorem Ew(h:t8 F):bP (pB F):=cK (by decide) (aO (by decide)) (aD h.expr ba)
theorem Ex(h:t8 F):bP (pC F):=rT (aO (by decide)) (aD h.expr (aD h.expr ba))
theorem LX(h:t8 F):bP (sR F):=by intro n hn;unfold sR at hn;rw[gR]at hn;exact h.expr n hn.2
theorem Ff(h:t8 F):bP (pg F):=rT (aO (by decide)) (aD (LX h) ba)
theorem Df(h:t8 F):bP (me F):=cK (by decide) (aO (by decide)) (aD h.expr ba)
theorem Dg(h:t8 F):bP (oa F):=by intro n hn;unfold oa at hn;simp only[gR,jG]at hn;exact nA hn.2.2 (aO (by rw[hn.1];decide)) h.stmt
theorem N7(h:t8 F):bP (O2 F):=rT (aO (by decide)) (aD h.expr (aD h.block (aD (ld (ld iS h.block) h.ifS) ba)))
theorem NH(h:t8 F):bP (iH F):=by
 intro n hn;unfold iH at hn;split at hn
 ·exact LW h n hn
 split at hn
 ·exact Df h n hn
 split at hn
 ·exact Ex h n hn
 split at hn
 ·exact Ew h n hn
 split at hn
 ·exact Ff h n hn
 split at hn
 ·exact N7 h n hn
 split at hn
 ·exact rT (aO (by decide)) (aD (ld (ld iS (Df h)) (ld (Ex h) (Ew h))) (aD (ld iS h.expr) (aD (ld (ld iS (Ex h)) (ld (Ew h) (Ff h))) (aD h.block ba)))) n hn
 split at hn
 ·exact cK (k:=32) (by decide) (aO (by decide)) (aD h.expr (aD h.block ba)) n hn
 split at hn
 ·exact rT (aO (by decide)) (aD (ld iS h.expr) ba) n hn
 split at hn
 case isTrue hk=>exact rT (aO (by omega)) ba n hn
 ·exact Dg h n hn
end
theorem O4:∀g:Nat,t8 (o4 g)
 |0=>⟨fun _ h=>by simp[o4]at h,fun _ h=>by simp[o4]at h,fun _ h=>by simp[o4]at h,fun _ h=>by simp[o4]at h,fun _ h=>by simp[o4]at h⟩
 |g+1=>⟨OR (O4 g),NG (O4 g),Dg (O4 g),NH (O4 g),N7 (O4 g)⟩
theorem Ey(n:Nd)(h:cB n=true):nN n:=by unfold cB at h;simp only[gR]at h;have D:=h.2.2;unfold uw at D;simp only[gR,jG]at D;exact nA D.2.2 (aO (by rw[D.1];decide)) (NE (O4 100))
mutual
def Oa:Nd->Nd
 | .mk k t l _=>.mk k t (yb l) 0
def yb:List Nd->List Nd
 |[]=>[]
 |n::l=>Oa n::yb l
end
theorem oE(k t l a):Oa (.mk k t l a)=.mk k t (yb l) 0:=by rw[Oa]
theorem oZ:∀l,yb l=l.map Oa
 |[]=>by rw[yb];rfl
 |n::l=>by rw[yb,oZ l];rfl
theorem Fk(l m:List Nd):yb (l++m)=yb l++yb m:=by rw[oZ,oZ,oZ,kW]
def Bv(n m:Nd):Prop:=Oa n=Oa m
def i6(l m:List Nd):Prop:=yb l=yb m
section
variable {n m:Nd} {l l':List Nd}
theorem Bv.kind(h:Bv n m):n.kind=m.kind:=by obtain⟨k,t,l,a⟩:=n;obtain⟨k',t',l',a'⟩:=m;unfold Bv at h;rw[oE,oE]at h;injection h
theorem Bv.text(h:Bv n m):n.text=m.text:=by obtain⟨k,t,l,a⟩:=n;obtain⟨k',t',l',a'⟩:=m;unfold Bv at h;rw[oE,oE]at h;injection h
theorem Bv.kids(h:Bv n m):i6 n.kids m.kids:=by obtain⟨k,t,l,a⟩:=n;obtain⟨k',t',l',a'⟩:=m;unfold Bv at h;rw[oE,oE]at h;injection h
theorem Bv.mk{k t}(h:i6 l l')(a a':Int):Bv (.mk k t l a) (.mk k t l' a'):=by unfold Bv;rw[oE,oE,show yb l=yb l' from h]
theorem i6.len(h:i6 l l'):l.length=l'.length:=by have:=qD List.length h;rw[oZ,oZ,jN,jN]at this;exact this
theorem i6.nil:i6 [] []:=rfl
theorem i6.app(h:i6 l l'){p q:List Nd}(D:i6 p q):i6 (l++p) (l'++q):=by unfold i6;rw[Fk,Fk,show yb l=yb l' from h,show yb p=yb q from D]
theorem i6.cons(h:Bv n m)(D:i6 l l'):i6 (n::l) (m::l'):=by unfold i6;rw[yb,yb,show Oa n=Oa m from h,show yb l=yb l' from D]
theorem i6.one(h:Bv n m):i6 [n] [m]:=i6.cons h i6.nil
theorem Bv.refl(n:Nd):Bv n n:=rfl
end
section
variable {c c':Cx} {k:Nat} {d:Int->Int}
variable {s s':St}
variable {F:eQ}
end
end
end Go.Proofs.YtcoiialmdncpfaaGreatDoor
