/-
  Parts of the proof: Pres2 Gspec. By an AI agent.
-/
import Derived.Test.YtiebcdeafofgdaaGreatDoorJ03
import Derived.Test.YtiebcdeafofgdaaGreatDoorJ02
namespace Go.Proofs.YtiebcdeafofgdaaGreatDoor
section
section
variable {c:Cx} {i i' j j' m:Nat}
theorem aL.make' {k t l a} (m:Nat) (O:a=(am c m).pos) (D:t.size≤1000000000) (J:k≠22) (N:i≤m) (M:m<j) (I:ap c m j l):aL c i j (.mk k t l a):=
 dP.2 ⟨D,fun h=>absurd h J,m,N,M,O,I⟩
theorem aL.self {n:Nd} (h:aL c i j n):∃ m,i≤m∧m<j∧n.pos=(am c m).pos∧aL c m j n:=by obtain ⟨k,t,l,a⟩:=n;obtain ⟨O,N,m,M,I,D,J⟩:=dP.1 h;exact ⟨m,M,I,D,dP.2 ⟨O,N,m,Nat.le_refl _,I,D,J⟩⟩
theorem tE {α:Type} {b:Prop} {P:α→Nat→Prop} {part:R α} (s:St) (h:bi b (fun a s1=>P a s1.at_) (part c { s with head:=false })):bi b (fun a s1=>P a s1.at_) (bU part c s):=by unfold bU;exact h.bind id fun a s1 h=>h
theorem tF {α:Type} {b:Prop} {P:α→Nat→Prop} {part:R α} (s:St) (h:bi b (fun a s1=>P a s1.at_) (part c { s with head:=true })):bi b (fun a s1=>P a s1.at_) (bG part c s):=by unfold bG;exact h.bind id fun a s1 h=>h
mutual
theorem rD {i j:Nat} : ∀ n t:Nd,bF n=some t→aL c i j n→aL c i j t∧t.pos=n.pos∧(t.kind=10∨t.kind=11∨t.kind=12)∧eU t≤eU n
 | .mk k x l a,t,h,U=>by
  unfold bF at h;split at h
  ·rename_i hk;injection h with h;subst h;exact ⟨U,rfl,hk,Nat.le_refl _⟩
  ·split at h
   ·injection h with h;subst h;obtain ⟨h1,h2,m,h3,h4,h5,M⟩:=dP.1 U;refine ⟨aL.make' m h5 h1 (by decide) h3 h4 ap.nil,rfl,.inl rfl,?_⟩;rw [aF,aF,aB];omega
   ·split at h
    ·rename_i hk;obtain ⟨h1,h2,m,h3,h4,h5,M⟩:=dP.1 U;obtain ⟨y,r,rfl,-,-,I⟩:=h2 hk;rw [bX] at M;simp only at h;cases D:bF y with
     | none=>rw [D] at h;cases h
     | some z=>
      obtain ⟨k2,t2,l2,a2⟩:=z;rw [D] at h;simp only at h;split at h
      ·rename_i q;cases O:cH r with
       | none=>rw [O] at h;cases h
       | some r'=>rw [O] at h;injection h with h;subst h;have N:aL c m j y:=M.1.resolve_left (fun hz=>by obtain ⟨ky,ty,ly,ay⟩:=y;have ga:ky=0∨ky=6:=hz.2.2.2;unfold bF at D;rw [if_neg (by omega),if_neg (by omega),if_neg (by omega)] at D;cases D);obtain ⟨q1,q2,q3,q4⟩:=rD y _ D N;obtain ⟨q5,q6⟩:=tG r r' O M.2;(have J:a2=a:=by have:a2=y.pos:=q2;rw [this,I]);obtain ⟨w1,-,-⟩:=dP.1 q1;refine ⟨aL.make' m (J.trans h5) w1 (by rw [q.1];decide) h3 h4 q5,J,q3,?_⟩;rw [aF,aF,aq];omega
      ·cases h
    ·cases h
theorem tG {i j:Nat} : ∀ l l':List Nd,cH l=some l'→ap c i j l→ap c i j l'∧f6 l'≤f6 l
 | [],l',h,_=>by unfold cH at h;injection h with h;subst h;exact ⟨ap.nil,Nat.le_refl _⟩
 | x::r,l',h,M=>by
  rw [bX] at M;unfold cH at h;cases D:bF x with
  | none=>rw [D] at h;cases h
  | some y=>
   rw [D] at h;simp only at h;cases J:cH r with
   | none=>rw [J] at h;cases h
   | some r'=>rw [J] at h;injection h with h;subst h;have I:aL c i j x:=M.1.resolve_left (fun q=>by obtain ⟨ky,ty,ly,ay⟩:=x;have U:ky=0∨ky=6:=q.2.2.2;unfold bF at D;rw [if_neg (by omega),if_neg (by omega),if_neg (by omega)] at D;cases D);obtain ⟨O,q2,q3,q4⟩:=rD x _ D I;obtain ⟨N,z⟩:=tG r r' J M.2;exact ⟨ap.cons O N,by rw [aq,aq];omega⟩
end
end
section
variable {c:Cx} {g:Nat} {F:eB} (hF:FS c g F) (hT:sp c)
include hF hT
theorem yi (i0:Nat) (s:St) (hs:s.at_≤c.toks.length) (hi:i0<s.at_):bi (3 * (c.toks.length-s.at_)≤g) (fun n s1=>bZ c i0 s.at_ 0 n s1.at_) (eo F (am c i0).pos c s):=by
 have _:=hs;unfold eo;refine (iQ (b:=True) hT s).bind (fun _=>trivial) fun x s1 h1=>?_;have e1:=h1.1.1;have z:=h1.1.2;refine (tD hF hT s1 h1.1.2).bind (fun h=>by omega) fun ps J h2=>?_;obtain ⟨e2,y,q,e5⟩:=h2;(have key:∀ (k:Int) (U:k≠22) (t:Nd) (I:St) (lo:Nat),J.at_≤lo→bZ c J.at_ lo 5 t I.at_→bZ c i0 s.at_ 0 (.mk k x [ps,t] (am c i0).pos) I.at_:=by intro k U t I lo hlo h;have O:=h.lt;have e7:=h.cnt;refine ⟨by omega,h.le,aL.make i0 (Nat.le_trans h1.2 (by decide)) U (Nat.le_refl _) (by omega) (bX.2 ⟨q.imp id fun h=>aL.mono (by omega) (by omega) _ h,ap.cons (aL.mono (by omega) (Nat.le_refl _) _ h.ok) ap.nil⟩),?_⟩;rw [aF,aq,aq,aB];omega);refine bi.ite (fun M=>?_) (fun _=>bi.ite (fun M=>?_) (fun _=>bi.ite (fun M=>?_) (fun _=>?_)))
 ·have D:=bx M;generalize adv J=s0 at D ⊢;have O:=D.1;have N:=D.2;refine (hF.typ s0 D.2).bind (fun h=>by omega) fun t I h=>?_;exact key 4 (by decide) t I s0.at_ (by omega) ⟨h.1.lt,h.1.le,aL.mono (by omega) (Nat.le_refl _) _ h.1.ok,by have:=h.1.cnt;omega⟩
 ·have D:=bx M;generalize adv J=s0 at D ⊢;have O:=D.1;have N:=D.2;refine (Cj hF hT J.at_ s0 D.2 (by omega)).bind (fun h=>by omega) fun t I h=>?_;exact key 3 (by decide) t I s0.at_ (by omega) ⟨h.lt,h.le,h.ok,by have:=h.cnt;omega⟩
 ·have D:=bx M;generalize adv J=s0 at D ⊢;have O:=D.1;have N:=D.2;refine (uY hF hT J.at_ s0 D.2 (by omega)).bind (fun h=>by omega) fun t I h=>?_;exact key 3 (by decide) t I s0.at_ (by omega) ⟨h.lt,h.le,h.ok,by have:=h.cnt;omega⟩
 ·refine (hF.typ J y).bind (fun h=>by omega) fun t I h=>?_;exact key 3 (by decide) t I J.at_ (by omega) ⟨h.1.lt,h.1.le,h.1.ok,by have:=h.1.cnt;omega⟩
theorem mf (i0 C:Nat) (M:i0≤C):∀ (f:Nat) (acc:List Nd) (s:St),s.at_≤c.toks.length→ap c i0 s.at_ acc→f6 acc≤8 * (s.at_-C)→C≤s.at_ →
  bi (3 * (c.toks.length-s.at_)+3≤g∧c.toks.length-s.at_<f) (fun n s1=>bZ c i0 C 7 n s1.at_) (ck F (am c i0).pos f acc c s)
 | 0,_,_,_,_,_,_=>fun h=>absurd h.2 (by omega)
 | f+1,acc,s,U,N,h4,z=>by
  have _:=hT;unfold ck;refine bi.ite (fun J=>?_) (fun _=>bi.ite (fun J=>?_) (fun _=>?_))
  ·have D:=bx J;have y:=D.1;refine ⟨by omega,D.2,aL.make i0 (by show (0:Nat)≤_;omega) (by decide) (Nat.le_refl _) (by omega) (ap.mono (Nat.le_refl _) (by omega) _ N),?_⟩;rw [aF];omega
  ·have D:=me (nY J);generalize adv s=s0 at D ⊢;have y:=D.1;have q:=D.2;exact (mf i0 C M f acc s0 D.2 (ap.mono (Nat.le_refl _) (by omega) _ N) (by omega) (by omega)).mono (fun h=>⟨by omega,by omega⟩) fun m s2 h'=>h'
  ·refine (hF.stmt s U).bind (fun h=>by omega) fun n s2 h=>?_;have e2:=h.lt;have e3:=h.cnt;have I:ap c i0 s2.at_ (acc++[n]):=(ap.mono (Nat.le_refl _) (by omega) _ N).app (ap.cons (aL.mono (by omega) (Nat.le_refl _) _ h.ok) ap.nil);(have O:f6 (acc++[n])=f6 acc+eU n:=by rw [fC,aq,aB];omega);refine bi.ite (fun J=>?_) (fun _=>bi.ite (fun _=>?_) fun _=>trivial)
   ·have D:=me (nY J);generalize adv s2=s0 at D ⊢;have e4:=D.1;have e5:=D.2;exact (mf i0 C M f _ s0 D.2 (ap.mono (Nat.le_refl _) (by omega) _ I) (by omega) (by omega)).mono (fun h=>⟨by omega,by omega⟩) fun m s2 h'=>h'
   ·have:=h.le;exact (mf i0 C M f _ s2 h.le I (by omega) (by omega)).mono (fun h=>⟨by omega,by omega⟩) fun m s2 h'=>h'
theorem iu (s:St) (hs:s.at_≤c.toks.length):bi (3 * (c.toks.length-s.at_)≤g) (fun n D=>bZ c s.at_ s.at_ 7 n D.at_) (bm F c s):=by have _:=hs;unfold bm;refine tE (P:=fun n k=>bZ c s.at_ s.at_ 7 n k) s ?_;unfold lX;refine (dn (b:=True) _ _).bind (fun _=>trivial) fun _ D h1=>?_;have J:D.at_=s.at_+1:=h1.1;have I:=h1.2;rw [hF.hg];exact (mf hF hT s.at_ s.at_ (Nat.le_refl _) g [] D h1.2 ap.nil (by rw [aB];omega) (by omega)).mono (fun h=>⟨by omega,by omega⟩) fun m s2 h'=>h'
theorem FU (s:St) (hs:s.at_≤c.toks.length):bi (3 * (c.toks.length-s.at_)≤g) (fun n s1=>bZ c s.at_ s.at_ 0 n s1.at_) (lB F c s):=by
 unfold lB;refine bi.ite (fun J=>?_) (fun _=>bi.ite (fun J=>?_) (fun _=>?_))
 ·have D:=bx J;generalize adv s=s0 at D ⊢;have z:=D.1;have M:=D.2;refine (iQ (b:=True) hT s0).bind (fun _=>trivial) fun x s1 h1=>?_;have y:=h1.1.1;have q:=h1.1.2;refine (tD hF hT s1 h1.1.2).bind (fun h=>by omega) fun ps s2 h2=>?_;obtain ⟨N,U,O,e5⟩:=h2;refine (C9 hF hT s.at_ s2 U (by omega)).bind (fun h=>by omega) fun sg s3 h3=>?_;have e6:=h3.1.lt;have e7:=h3.1.cnt;refine (iu hF hT s3 h3.1.le).bind (fun h=>by omega) fun b s4 I=>?_;have e8:=I.lt;have e9:=I.cnt;refine ⟨by omega,I.le,aL.make s.at_ (Nat.le_trans h1.2 (by decide)) (by decide) (Nat.le_refl _) (by omega) (bX.2 ⟨O.imp id fun h=>aL.mono (by omega) (by omega) _ h,ap.cons (aL.mono (Nat.le_refl _) (by omega) _ h3.1.ok) (ap.cons (aL.mono (by omega) (Nat.le_refl _) _ I.ok) ap.nil)⟩),?_⟩;rw [aF,aq,aq,aq,aB];omega
 ·have D:=bx J;generalize adv s=s0 at D ⊢;have z:=D.1;have M:=D.2;refine (yi hF hT s.at_ s0 D.2 (by omega)).mono (fun h=>by omega) fun n s1 h=>?_;have y:=h.lt;have N:=h.cnt;exact ⟨by omega,h.le,h.ok,by omega⟩
 ·refine (p8 hF hT s hs).mono id fun n s1 h=>?_;have N:=h.cnt;exact ⟨h.lt,h.le,h.ok,by omega⟩
theorem AP (i0:Nat) (x:Nd) (s:St) (I:bZ c i0 i0 7 x s.at_):bi (3 * (c.toks.length-s.at_)≤g) (fun n s1=>bZ c i0 i0 6 n s1.at_) (fc F (am c i0).pos x c s):=by
 have _:=hT;have z:=I.lt;have y:=I.cnt;have q:=I.le;unfold fc;refine bi.ite (fun J=>?_) (fun _=>bi.ite (fun J=>?_) (fun _=>bi.ite (fun J=>?_) (fun _=>bi.ite (fun J=>?_) (fun _=>bi.ite (fun J=>?_) (fun _=>trivial)))))
 ·have D:=bx J.2.2;generalize adv s=s0 at D ⊢;have N:=D.1;have M:=D.2;refine (hF.expr s0 D.2).bind (fun h=>by omega) fun v s1 h=>?_;have h:=h.1;have U:=h.lt;have O:=h.cnt;(obtain ⟨xt,-⟩:x.text.size≤1000000000∧True:=by obtain ⟨k,t,l,a⟩:=x;exact ⟨(dP.1 I.ok).1,trivial⟩);refine ⟨by omega,h.le,aL.make i0 xt (by decide) (Nat.le_refl _) (by omega) (ap.cons (aL.mono (by omega) (Nat.le_refl _) _ h.ok) ap.nil),?_⟩;rw [aF,aq,aB];omega
 ·have D:=bx J;generalize adv s=s0 at D ⊢;have N:=D.1;have M:=D.2;refine (hF.expr s0 D.2).bind (fun h=>by omega) fun v s1 h=>?_;have h:=h.1;have U:=h.lt;have O:=h.cnt;refine ⟨by omega,h.le,aL.make i0 (by show (0:Nat)≤_;omega) (by decide) (Nat.le_refl _) (by omega) (ap.cons (aL.mono (Nat.le_refl _) (by omega) _ I.ok) (ap.cons (aL.mono (by omega) (Nat.le_refl _) _ h.ok) ap.nil)),?_⟩;rw [aF,aq,aq,aB];omega
 ·have D:=bx J;generalize adv s=s0 at D ⊢;have N:=D.1;have M:=D.2;refine ⟨by omega,D.2,aL.make i0 (by show (2:Nat)≤_;omega) (by decide) (Nat.le_refl _) (by omega) (ap.cons (aL.mono (Nat.le_refl _) (by omega) _ I.ok) ap.nil),?_⟩;rw [aF,aq,aB];omega
 ·have D:=bx J;generalize adv s=s0 at D ⊢;have N:=D.1;have M:=D.2;refine ⟨by omega,D.2,aL.make i0 (by show (2:Nat)≤_;omega) (by decide) (Nat.le_refl _) (by omega) (ap.cons (aL.mono (Nat.le_refl _) (by omega) _ I.ok) ap.nil),?_⟩;rw [aF,aq,aB];omega
 ·refine ⟨by omega,I.le,aL.make i0 (by show (0:Nat)≤_;omega) (by decide) (Nat.le_refl _) (by omega) (ap.cons I.ok ap.nil),?_⟩;rw [aF,aq,aB];omega
theorem tH (s:St) (hs:s.at_≤c.toks.length):bi (3 * (c.toks.length-s.at_)+2≤g) (fun n s1=>bZ c s.at_ s.at_ 6 n s1.at_) (fl F c s):=by unfold fl;refine (hF.expr s hs).bind id fun x s1 h=>?_;have D:=h.1.lt;exact (AP hF hT s.at_ x s1 h.1).mono (fun h=>by omega) fun _ _ h=>h
theorem rE (s:St) (hs:s.at_≤c.toks.length):bi (3 * (c.toks.length-s.at_)+2≤g) (fun n s1=>bZ c s.at_ s.at_ 7 n s1.at_) (bG F.expr c s):=have _:=hT
 tF (P:=fun n k=>bZ c s.at_ s.at_ 7 n k) s ((hF.expr { s with head:=true } hs).mono id fun _ _ h=>h.1)
theorem D7 (s:St) (hs:s.at_≤c.toks.length):bi (3 * (c.toks.length-s.at_)+2≤g) (fun n s1=>bZ c s.at_ s.at_ 7 n s1.at_∧n.kind≠10∧n.kind<26) (bU F.expr c s):=have _:=hT
 tE (P:=fun n k=>bZ c s.at_ s.at_ 7 n k∧n.kind≠10∧n.kind<26) s (hF.expr _ hs)
theorem FV (s:St) (hs:s.at_≤c.toks.length):bi (3 * (c.toks.length-s.at_)≤g) (fun n s1=>bZ c s.at_ s.at_ 6 n s1.at_) (Dt F c s):=by
 have _:=hs;unfold Dt;refine (dn (b:=True) _ s).bind (fun _=>trivial) fun _ s1 h1=>?_;have e1:=h1.1;have q:=h1.2;refine (rE hF hT s1 h1.2).bind (fun h=>by omega) fun x s2 h2=>?_;have e2:=h2.lt;have e3:=h2.cnt;refine (iu hF hT s2 h2.le).bind (fun h=>by omega) fun b M I=>?_;have e4:=I.lt;have z:=I.cnt;(have key:∀ (o:Nd) (D:St) (lo:Nat),M.at_≤lo→bZ c lo lo 6 o D.at_→bZ c s.at_ s.at_ 6 (.mk 30 (⟨#[]⟩:BA) [x,b,o] (an c s)) D.at_:=by intro o D lo hlo h;have U:=h.lt;have y:=h.cnt;refine ⟨by omega,h.le,aL.make s.at_ (by show (0:Nat)≤_;omega) (by decide) (Nat.le_refl _) (by omega) (ap.cons (aL.mono (by omega) (by omega) _ h2.ok) (ap.cons (aL.mono (by omega) (by omega) _ I.ok) (ap.cons (aL.mono (by omega) (Nat.le_refl _) _ h.ok) ap.nil))),?_⟩;rw [aF,aq,aq,aq,aB];omega);refine bi.ite (fun N=>?_) (fun _=>?_)
 ·have J:=bx N;generalize adv M=s0 at J ⊢;have U:=J.1;have O:=J.2;refine bi.ite (fun _=>?_) (fun _=>?_)
  ·exact (hF.ifS s0 J.2).bind (fun h=>by omega) fun o D h=>key o D s0.at_ (by omega) h
  ·exact (iu hF hT s0 J.2).bind (fun h=>by omega) fun o D h=>key o D s0.at_ (by omega) ⟨h.lt,h.le,h.ok,by have:=h.cnt;omega⟩
 ·refine ⟨by omega,I.le,aL.make s.at_ (by show (0:Nat)≤_;omega) (by decide) (Nat.le_refl _) (by omega) (ap.cons (aL.mono (by omega) (by omega) _ h2.ok) (ap.cons (aL.mono (by omega) (by omega) _ I.ok) (ap.consZ eJ ap.nil))),?_⟩;rw [aF,aq,aq,aq,aB,iP];omega
theorem Ck (s:St) (hs:s.at_≤c.toks.length):bi (3 * (c.toks.length-s.at_)+2≤g) (fun n s1=>bZ c s.at_ s.at_ 6 n s1.at_) (eM F c s):=by
 unfold eM;refine (hF.expr s hs).bind id fun x s1 h=>?_;have I:=h.1.lt;have D:=h.1.cnt;refine bi.ite (fun _=>?_) (fun _=>?_)
 ·exact ⟨h.1.lt,h.1.le,h.1.ok,by omega⟩
 ·exact (AP hF hT s.at_ x s1 h.1).mono (fun h=>by omega) fun _ _ h=>h
theorem FW (s:St) (hs:s.at_≤c.toks.length):bi (3 * (c.toks.length-s.at_)+2≤g) (fun n s1=>bZ c s.at_ s.at_ 6 n s1.at_) (dw F c s):=by unfold dw;exact (tH hF hT s hs).bind id fun x s1 h=>bi.ite (fun _=>trivial) fun _=>h
def oM (c:Cx) (i:Nat) (n:Nd) (j:Nat):Prop:=i≤j∧j≤c.toks.length∧(nh n∨aL c i j n)∧eU n≤1+8 * (j-i)
omit hF hT in
theorem oM.zero {i:Nat} (h:i≤c.toks.length):oM c i bJ i:=⟨Nat.le_refl _,h,.inl eJ,by rw [iP];omega⟩
omit hF hT in
theorem oM.fine {i j sl:Nat} {n:Nd} (h:bZ c i i sl n j):oM c i n j:=⟨Nat.le_of_lt h.lt,h.le,.inr h.ok,by have:=h.cnt;omega⟩
omit hF hT in
theorem oM.mono {i i' j j':Nat} {n:Nd} (h:oM c i n j) (I:i'≤i) (D:j≤j'):nh n∨aL c i' j' n:=h.2.2.1.imp id fun h=>aL.mono I D _ h
def FX (c:Cx) (i:Nat) (h:Nd × Nd × Nd) (j:Nat):Prop:=i≤j∧j≤c.toks.length∧(nh h.1∨aL c i j h.1)∧(nh h.2.1∨aL c i j h.2.1)∧(nh h.2.2∨aL c i j h.2.2)∧eU h.1+eU h.2.1+eU h.2.2≤3+8 * (j-i)
theorem FY (s:St) (hs:s.at_≤c.toks.length):bi (3 * (c.toks.length-s.at_)+2≤g) (fun h s1=>FX c s.at_ h s1.at_) (iI F c s):=by
 have tail:∀ (a:Nd) (t:St),oM c s.at_ a t.at_→bi (3 * (c.toks.length-s.at_)+2≤g) (fun h s1=>FX c s.at_ h s1.at_)
   ((need (⟨#[59]⟩:BA) c t).bind fun _ s1=>(if aE c s1 (⟨#[59]⟩:BA) then .ok bJ s1 else bG F.expr c s1).bind fun b s2=>(need (⟨#[59]⟩:BA) c s2).bind fun _ s3=>(if aE c s3 (⟨#[123]⟩:BA) then .ok bJ s3 else bG (dw F) c s3).bind fun d s4=>.ok (a,b,d) s4):=by intro a t I;have a1:=I.1;have a2:=I.2.2.2;refine (dn (b:=True) _ t).bind (fun _=>trivial) fun _ s1 h1=>?_;have O:=h1.1;have N:=h1.2;refine bi.bind (b':=3 * (c.toks.length-s1.at_)+2≤g) (Q:=fun n s2=>oM c s1.at_ n s2.at_) (bi.ite (fun _=>oM.zero h1.2) fun _=>(rE hF hT s1 h1.2).mono id fun _ _ h=>oM.fine h) (fun h=>by omega) fun b s2 J=>?_;have b1:=J.1;have b2:=J.2.2.2;refine (dn (b:=True) _ s2).bind (fun _=>trivial) fun _ s3 h3=>?_;have U:=h3.1;have M:=h3.2;refine bi.bind (b':=3 * (c.toks.length-s3.at_)+2≤g) (Q:=fun n s4=>oM c s3.at_ n s4.at_) (bi.ite (fun _=>oM.zero h3.2) fun _=>tF (P:=fun n k=>oM c s3.at_ n k) s3 ((FW hF hT { s3 with head:=true } h3.2).mono id fun _ _ h=>oM.fine h)) (fun h=>by omega) fun d s4 D=>?_;have z:=D.1;have y:=D.2.2.2;exact ⟨by omega,D.2.1,I.mono (Nat.le_refl _) (by omega),J.mono (by omega) (by omega),D.mono (by omega) (Nat.le_refl _),by show eU a+eU b+eU d≤_;omega⟩
 unfold iI;refine bi.ite (fun _=>?_) (fun _=>?_)
 ·exact tail bJ s (oM.zero hs)
 ·refine (tF (P:=fun n k=>bZ c s.at_ s.at_ 6 n k) s (Ck hF hT { s with head:=true } hs)).bind id fun x s1 h=>?_;have O:=h.lt;have q:=h.cnt;refine bi.ite (fun _=>trivial) (fun _=>bi.ite (fun _=>?_) (fun _=>tail x s1 (oM.fine h)));exact ⟨by omega,h.le,.inl eJ,.inr h.ok,.inl eJ,by show eU bJ+eU x+eU bJ≤_;rw [iP];omega⟩
omit hF in
theorem D8 {s s':St} {x:ByteArray} (h:cv c s=some (x,s')):s.at_<s'.at_∧s'.at_≤c.toks.length∧x.size≤1000000000:=by
 refine ⟨?_,hT.rg _ _ _ h,?_⟩
 ·unfold cv at h;simp only at h;split at h
  ·injection h with h;injection h with _ h;subst h;exact Nat.lt_succ_self _
  ·split at h
   ·split at h
    ·injection h with h;injection h with _ h;subst h;show s.at_<s.at_+3;omega
    ·split at h
     ·injection h with h;injection h with _ h;subst h;show s.at_<s.at_+5;omega
     ·cases h
   ·cases h
 ·unfold cv at h;simp only at h;split at h
  ·injection h with h;injection h with h _;subst h;show (0:Nat)≤_;omega
  ·split at h
   ·rename_i a b d r hl;have I:∀ t,t∈[a,b,d]→t.text.size≤65536:=fun t D=>hT.txt t (List.mem_of_mem_drop (i:=s.at_) (by rw [hl];simp at D ⊢;rcases D with rfl | rfl | rfl <;> simp));have J:=I a (by simp);have hd:=I d (by simp);split at h
    ·injection h with h;injection h with h _;subst h;omega
    ·split at h
     ·injection h with h;injection h with h _;subst h;simp only [ByteArray.size_append];have:((⟨#[44]⟩:BA):ByteArray).size=1:=rfl;omega
     ·cases h
   ·cases h
theorem ID (s:St) (hs:s.at_≤c.toks.length):bi (3 * (c.toks.length-s.at_)≤g) (fun n s1=>bZ c s.at_ s.at_ 6 n s1.at_) (sf F c s):=by
 have _:=hs;unfold sf;refine (dn (b:=True) _ s).bind (fun _=>trivial) fun _ s1 M=>?_;have e1:=M.1;have ga:=M.2;cases q:cv c s1 with
 | some p=>obtain ⟨x,D⟩:=p;obtain ⟨q1,O,N⟩:=D8 hT q;show bi _ _ ((bG F.expr c D).bind fun e s3=>(bm F c s3).bind fun b s4=>.ok (Nd.mk 32 x [e,b] (an c s)) s4);refine (rE hF hT D O).bind (fun h=>by omega) fun x s3 I=>?_;have e2:=I.lt;have e3:=I.cnt;refine (iu hF hT s3 I.le).bind (fun h=>by omega) fun b s4 J=>?_;have z:=J.lt;have y:=J.cnt;refine ⟨by omega,J.le,aL.make s.at_ N (by decide) (Nat.le_refl _) (by omega) (ap.cons (aL.mono (by omega) (by omega) _ I.ok) (ap.cons (aL.mono (by omega) (by omega) _ J.ok) ap.nil)),?_⟩;rw [aF,aq,aq,aB];omega
 | none=>show bi _ _ ((if aE c s1 (⟨#[123]⟩:BA) then .ok (bJ,bJ,bJ) s1 else iI F c s1).bind fun h D=>(bm F c D).bind fun b s3=>.ok (Nd.mk 31 (⟨#[]⟩:BA) [h.1,h.2.1,h.2.2,b] (an c s)) s3);refine bi.bind (b':=3 * (c.toks.length-s1.at_)+2≤g) (Q:=fun h D=>FX c s1.at_ h D.at_) (bi.ite (fun _=>⟨Nat.le_refl _,M.2,.inl eJ,.inl eJ,.inl eJ,by show eU bJ+eU bJ+eU bJ≤_;rw [iP];omega⟩) fun _=>FY hF hT s1 M.2) (fun h=>by omega) fun h D h2=>?_;obtain ⟨p1,p2,p3,p4,U,p6⟩:=h2;refine (iu hF hT D p2).bind (fun h=>by omega) fun b s3 I=>?_;have z:=I.lt;have y:=I.cnt;have up:∀ n:Nd,nh n∨aL c s1.at_ D.at_ n→nh n∨aL c s.at_ s3.at_ n:=fun n h=>h.imp id fun h=>aL.mono (by omega) (by omega) _ h;refine ⟨by omega,I.le,aL.make s.at_ (by show (0:Nat)≤_;omega) (by decide) (Nat.le_refl _) (by omega) (bX.2 ⟨up _ p3,bX.2 ⟨up _ p4,bX.2 ⟨up _ U,ap.cons (aL.mono (by omega) (by omega) _ I.ok) ap.nil⟩⟩⟩),?_⟩;rw [aF,aq,aq,aq,aq,aB];omega
theorem FZ (s:St) (hs:s.at_≤c.toks.length):bi (3 * (c.toks.length-s.at_)+2≤g) (fun n s1=>bZ c s.at_ s.at_ 6 n s1.at_) (rQ F c s):=by
 unfold rQ;refine bi.ite (fun _=>?_) fun _=>bi.ite (fun _=>?_) fun _=>bi.ite (fun _=>?_) fun _=>bi.ite (fun _=>?_) fun _=>bi.ite (fun I=>?_) fun _=>bi.ite (fun I=>?_) fun _=>bi.ite (fun I=>?_) fun _=>?_
 ·exact (p8 hF hT s hs).mono (fun h=>by omega) fun _ _ h=>h
 ·exact (FV hF hT s hs).mono (fun h=>by omega) fun _ _ h=>h
 ·exact (ID hF hT s hs).mono (fun h=>by omega) fun _ _ h=>h
 ·exact (iu hF hT s hs).mono (fun h=>by omega) fun _ _ h=>⟨h.lt,h.le,h.ok,by have:=h.cnt;omega⟩
 ·have D:=bx I;generalize adv s=s0 at D ⊢;have J:=D.1;have M:=D.2;refine bi.ite (fun _=>?_) (fun _=>?_)
  ·refine ⟨by omega,D.2,aL.make s.at_ (by show (0:Nat)≤_;omega) (by decide) (Nat.le_refl _) (by omega) (ap.consZ eJ ap.nil),?_⟩;rw [aF,aq,aB,iP];omega
  ·refine (hF.expr s0 D.2).bind (fun h=>by omega) fun v s1 h=>?_;have h:=h.1;have O:=h.lt;have N:=h.cnt;refine ⟨by omega,h.le,aL.make s.at_ (by show (0:Nat)≤_;omega) (by decide) (Nat.le_refl _) (by omega) (ap.cons (aL.mono (by omega) (Nat.le_refl _) _ h.ok) ap.nil),?_⟩;rw [aF,aq,aB];omega
 ·have D:=bx I;generalize adv s=s0 at D ⊢;have J:=D.1;refine ⟨by omega,D.2,aL.make s.at_ (by show (0:Nat)≤_;omega) (by decide) (Nat.le_refl _) (by omega) ap.nil,?_⟩;rw [aF,aB];omega
 ·have D:=bx I;generalize adv s=s0 at D ⊢;have J:=D.1;refine ⟨by omega,D.2,aL.make s.at_ (by show (0:Nat)≤_;omega) (by decide) (Nat.le_refl _) (by omega) ap.nil,?_⟩;rw [aF,aB];omega
 ·exact tH hF hT s hs
def Xk (n:Nd):Prop:=n.kind≠10∧n.kind<26
theorem yj (i0:Nat) (types:Bool) (s:St) (hs:s.at_≤c.toks.length) (I:i0<s.at_):bi (3 * (c.toks.length-s.at_)≤g) (fun n s1=>bZ c i0 s.at_ 0 n s1.at_∧Xk n) (cN F (am c i0).pos types c s):=by
 unfold cN;refine bi.ite (fun _=>?_) (fun _=>?_)
 ·refine (pZ hF hT i0 s hs (by omega)).bind id fun n s1 h=>?_;exact bi.ite (fun _=>⟨⟨h.1.lt,h.1.le,h.1.ok,by have:=h.1.cnt;omega⟩,by rw [h.2];decide,by rw [h.2];decide⟩) fun _=>trivial
 ·refine (C9 hF hT i0 s hs (by omega)).bind id fun n s1 h=>?_;have O:=h.1.lt;have N:=h.1.cnt;refine bi.ite (fun _=>⟨⟨h.1.lt,h.1.le,h.1.ok,by omega⟩,by rw [h.2];decide,by rw [h.2];decide⟩) fun _=>?_;refine (iu hF hT s1 h.1.le).bind (fun h=>by omega) fun b s2 D=>?_;have M:=D.lt;have J:=D.cnt;refine ⟨⟨by omega,D.le,aL.make i0 (by show (0:Nat)≤_;omega) (by decide) (Nat.le_refl _) (by omega) (ap.cons (aL.mono (Nat.le_refl _) (by omega) _ h.1.ok) (ap.cons (aL.mono (by omega) (Nat.le_refl _) _ D.ok) ap.nil)),?_⟩,by show (25:Int)≠10;decide,by show (25:Int)<26;decide⟩;rw [aF,aq,aq,aB];omega
theorem rF {part:R Nd} (D:∀ s,s.at_≤c.toks.length→bi (3 * (c.toks.length-s.at_)+2≤g) (fun n s1=>bZ c s.at_ s.at_ 7 n s1.at_∧n.kind≠10∧n.kind<26) (part c s)) (en:ByteArray) (s:St) (hs:s.at_≤c.toks.length) :
  bi (3 * (c.toks.length-s.at_)+2≤g) (fun l s1=>FR c s.at_ s.at_ 0 l s1.at_) (bU (aO part en F.g []) c s):=by have _:=hT;refine tE (P:=fun l k=>FR c s.at_ s.at_ 0 l k) s ?_;rw [hF.hg];exact (mG (i0:=s.at_) (lo:=s.at_) (b:=3 * (c.toks.length-s.at_)+2≤g) (fun s' hlo hs'=>(D s' hs').mono (fun h=>by omega) fun _ _ h=>⟨h.1.lt,h.1.le,h.1.ok,by have:=h.1.cnt;omega⟩) g 0 [] { s with head:=false } (Nat.le_refl _) (Nat.le_refl _) hs ap.nil (by rw [aB];omega)).mono (fun h=>⟨h,by show c.toks.length-s.at_<g;omega⟩) fun _ _ h=>h
theorem r8 {i0:Nat} (t:Nd) (s:St) (I:bZ c i0 i0 7 t s.at_):bi (3 * (c.toks.length-s.at_)≤g) (fun n s1=>bZ c i0 i0 7 n s1.at_∧Xk n∧s.at_<s1.at_) (cg F t c s):=by have q:=I.lt;have U:=I.cnt;unfold cg;refine (dn (b:=True) _ s).bind (fun _=>trivial) fun _ s1 h1=>?_;have e1:=h1.1;have O:=h1.2;refine (rF hF hT hF.expr (⟨#[125]⟩:BA) s1 h1.2).bind (fun h=>by omega) fun l s2 D=>?_;have e2:=D.lt;have z:=D.cnt;obtain ⟨m,N,y,M,J⟩:=I.ok.self;refine ⟨⟨by omega,D.le,aL.make' m M (by show (0:Nat)≤_;omega) (by decide) N (by omega) (ap.cons (aL.mono (Nat.le_refl _) (by omega) _ J) (ap.mono (by omega) (Nat.le_refl _) _ D.ok)),?_⟩,⟨by show (24:Int)≠10;decide,by show (24:Int)<26;decide⟩,by omega⟩;rw [aF,aq];omega
theorem Cl (types:Bool) (s:St) (hs:s.at_≤c.toks.length) (hb:aE c s (⟨#[91]⟩:BA)=true):bi (3 * (c.toks.length-s.at_)+1≤g) (fun n s1=>bZ c s.at_ s.at_ 7 n s1.at_∧Xk n) (eN F types c s):=by unfold eN;refine (hF.typ s hs).bind id fun t s1 h=>?_;have D:=h.1.lt;refine bi.ite (fun _=>⟨h.1,h.2.2 hb,by have:=h.2.1;omega⟩) fun _=>?_;exact (r8 hF hT t s1 h.1).mono (fun h=>by omega) fun _ _ h=>⟨h.1,h.2.1⟩
theorem AQ (s:St) (hs:s.at_≤c.toks.length):bi (3 * (c.toks.length-s.at_)+1≤g) (fun x s1=>bZ c s.at_ s.at_ 7 x.1 s1.at_∧Xk x.1) (cT F c s):=by
 (have leaf:∀ (k:Int) (t:ByteArray),k≠22→k≠10→k<26→t.size≤1000000000→s.at_<c.toks.length→bZ c s.at_ s.at_ 7 (.mk k t [] (am c s.at_).pos) (s.at_+1)∧Xk (Nd.mk k t [] (am c s.at_).pos):=by intro k t h22 O N ht D;refine ⟨⟨by omega,D,aL.make s.at_ ht h22 (Nat.le_refl _) (by omega) ap.nil,?_⟩,O,N⟩;rw [aF,aB];omega);unfold cT;refine bi.ite (fun M=>?_) fun _=>bi.ite (fun M=>?_) fun _=>bi.ite (fun M=>?_) fun _=>bi.ite (fun J=>?_) fun _=>bi.ite (fun J=>?_) fun _=>bi.ite (fun J=>?_) fun _=>trivial
 ·exact leaf 18 _ (by decide) (by decide) (by decide) (Nat.le_trans (hT.at_ _) (by decide)) (oE (by rw [M];decide))
 ·have D:=oE (c:=c) (i:=s.at_) (by rw [M];decide);exact leaf 16 _ (by decide) (by decide) (by decide) (by rw [f7 D];exact hT.num _ (List.getElem_mem D)) D
 ·have D:=oE (c:=c) (i:=s.at_) (by rw [M];decide);exact leaf 17 _ (by decide) (by decide) (by decide) (by rw [f7 D];exact hT.str _ (List.getElem_mem D)) D
 ·have I:I6 c s (adv { s with part := -1 }):=bx (s := { s with part := -1 }) J;generalize adv { s with part := -1 } = s0 at I ⊢;have e0:=I.1;have U:=I.2;refine (D7 hF hT s0 I.2).bind (fun h=>by omega) fun x s1 h=>?_;have z:=h.1.lt;have y:=h.1.cnt;refine (dn (b:=True) _ s1).bind (fun _=>trivial) fun _ s2 q=>?_;have e3:=q.1;exact ⟨⟨by omega,q.2,aL.mono (by omega) (by omega) _ h.1.ok,by show eU x+7≤_;omega⟩,h.2⟩
 ·have I:I6 c s (adv { s with part := -1 }):=bx (s := { s with part := -1 }) J;generalize adv { s with part := -1 } = s0 at I ⊢;have e0:=I.1;have U:=I.2;refine (yj hF hT s.at_ _ s0 I.2 (by omega)).bind (fun h=>by omega) fun x s1 h=>?_;have z:=h.1.lt;have y:=h.1.cnt;exact ⟨⟨by omega,h.1.le,h.1.ok,by show eU x+7≤_;omega⟩,h.2⟩
 ·exact (Cl hF hT _ { s with part := -1 } hs (by unfold dq at J;rw [Bool.and_eq_true] at J;exact J.1)).bind id fun x s1 h=>h
theorem fh (i0:Nat):∀ (f:Nat) (out:Nd) (bare:Bool) (s:St),bZ c i0 i0 7 out s.at_→Xk out →
  bi (3 * (c.toks.length-s.at_)≤g∧c.toks.length-s.at_<f) (fun n s1=>bZ c i0 i0 7 n s1.at_∧Xk n) (aN F f out bare c s)
 | 0,_,_,_,_,_=>fun h=>absurd h.2 (by omega)
 | f+1,out,bare,s,I,y=>by
  have o1:=I.lt;have o2:=I.cnt;have o3:=I.le;obtain ⟨m,q,m2,U,O⟩:=I.ok.self;unfold aN;refine bi.ite (fun J=>?_) fun _=>bi.ite (fun J=>?_) fun _=>bi.ite (fun J=>?_) fun _=>bi.ite (fun J=>?_) fun _=>⟨I,y⟩
  ·have D:=bx J;generalize adv s=s0 at D ⊢;have e0:=D.1;have N:=D.2;refine (rF hF hT hF.expr (⟨#[41]⟩:BA) s0 D.2).bind (fun h=>by omega) fun l s1 h=>?_;have z:=h.lt;have e2:=h.cnt;refine (fh i0 f _ false s1 ⟨by omega,h.le,aL.make' m U (by show (0:Nat)≤_;omega) (by decide) q (by omega) (ap.cons (aL.mono (Nat.le_refl _) (by omega) _ O) (ap.mono (by omega) (Nat.le_refl _) _ h.ok)),?_⟩ ⟨by show (21:Int)≠10;decide,by show (21:Int)<26;decide⟩).mono (fun h=>⟨by omega,by omega⟩) fun _ _ h=>h;rw [aF,aq];omega
  ·have D:=bx J;generalize adv s=s0 at D ⊢;have e0:=D.1;have N:=D.2;refine (rF (part:=cA F) hF hT (fun s hs=>hF.expr { s with part:=s.at_ } hs) (⟨#[93]⟩:BA) s0 D.2).bind (fun h=>by omega) fun l s1 h=>?_;have z:=h.lt;have e2:=h.cnt;refine bi.ite (fun _=>trivial) fun hl=>?_;refine (fh i0 f _ bare s1 ⟨by omega,h.le,dP.2 ⟨by show (0:Nat)≤_;omega,fun _=>⟨out,l,rfl,fun h=>hl (by rw [h];rfl),y.1,rfl⟩,m,q,by omega,U,ap.cons (aL.mono (Nat.le_refl _) (by omega) _ O) (ap.mono (by omega) (Nat.le_refl _) _ h.ok)⟩,?_⟩ ⟨by show (22:Int)≠10;decide,by show (22:Int)<26;decide⟩).mono (fun h=>⟨by omega,by omega⟩) fun _ _ h=>h;rw [aF,aq];omega
  ·have D:=bx J;generalize adv s=s0 at D ⊢;have e0:=D.1;have N:=D.2;refine (iQ (b:=True) hT s0).bind (fun _=>trivial) fun x s1 M=>?_;have z:=M.1.1;have gb:=M.1.2;refine (fh i0 f _ false s1 ⟨by omega,M.1.2,aL.make' m U (Nat.le_trans M.2 (by decide)) (by decide) q (by omega) (ap.cons (aL.mono (Nat.le_refl _) (by omega) _ O) ap.nil),?_⟩ ⟨by show (23:Int)≠10;decide,by show (23:Int)<26;decide⟩).mono (fun h=>⟨by omega,by omega⟩) fun _ _ h=>h;rw [aF,aq,aB];omega
  ·cases ha:bF out with
   | none=>exact ⟨I,y⟩
   | some t=>obtain ⟨q1,q2,q3,q4⟩:=rD out t ha I.ok;have ga:=lm (show aE c s (⟨#[123]⟩:BA)=true by rw [Bool.and_eq_true] at J;exact J.1);show bi _ _ ((cg F t c s).bind fun n s1=>aN F f n false c s1);refine (r8 hF hT t s ⟨I.lt,I.le,q1,by omega⟩).bind (fun h=>by omega) fun n s1 h=>?_;obtain ⟨M,h2,h3⟩:=h;have:=M.le;exact (fh i0 f n false s1 M h2).mono (fun h=>⟨by omega,by omega⟩) fun _ _ h=>h
theorem AR (s:St) (hs:s.at_≤c.toks.length):bi (3 * (c.toks.length-s.at_)+1≤g) (fun n s1=>bZ c s.at_ s.at_ 7 n s1.at_∧Xk n) (dY F c s):=by unfold dY;refine (AQ hF hT s hs).bind id fun x s1 h=>?_;have I:=h.1.lt;have D:=h.1.le;rw [hF.hg];exact (fh hF hT s.at_ g x.1 x.2 s1 h.1 h.2).mono (fun h=>⟨by omega,by omega⟩) fun _ _ h=>h
theorem uZ (s:St) (hs:s.at_≤c.toks.length):bi (3 * (c.toks.length-s.at_)+1≤g) (fun n s1=>bZ c s.at_ s.at_ 7 n s1.at_∧Xk n) (eX F c s):=by unfold eX;refine bi.ite (fun J=>?_) fun _=>AR hF hT s hs;(have I:s.at_<c.toks.length:=by rw [Bool.or_eq_true] at J;exact J.elim lm lm);have D:=me I;generalize adv s=s0 at D ⊢;have U:=D.1;have M:=D.2;refine (hF.unary s0 D.2).bind (fun h=>by omega) fun x s1 h=>?_;have O:=h.1.lt;have N:=h.1.cnt;refine ⟨⟨by omega,h.1.le,aL.make s.at_ (Nat.le_trans (hT.at_ _) (by decide)) (by decide) (Nat.le_refl _) (by omega) (ap.cons (aL.mono (by omega) (Nat.le_refl _) _ h.1.ok) ap.nil),?_⟩,by show (19:Int)≠10;decide,by show (19:Int)<26;decide⟩;rw [aF,aq,aB];omega
theorem u9 (k:Nat) {below:R Nd} (hb:∀ s,s.at_≤c.toks.length→bi (3 * (c.toks.length-s.at_)+1≤g) (fun n s1=>bZ c s.at_ s.at_ 7 n s1.at_∧Xk n) (below c s)) (i0:Nat):∀ (f:Nat) (out:Nd) (s:St),bZ c i0 i0 7 out s.at_→Xk out →
  bi (3 * (c.toks.length-s.at_)+1≤g∧c.toks.length-s.at_<f) (fun n s1=>bZ c i0 i0 7 n s1.at_∧Xk n) (lC k below f out c s)
 | 0,_,_,_,_=>fun h=>absurd h.2 (by omega)
 | f+1,out,s,I,q=>by have _:=hF;have o1:=I.lt;have o2:=I.cnt;have o3:=I.le;obtain ⟨m,U,m2,O,N⟩:=I.ok.self;unfold lC;refine bi.ite (fun M=>?_) fun _=>⟨I,q⟩;have J:s.at_<c.toks.length:=oE (fun D=>by unfold LS at M;rw [D] at M;simp at M);have D:=me J;generalize adv s=s0 at D ⊢;have e0:=D.1;have z:=D.2;refine (hb s0 D.2).bind (fun h=>by omega) fun y s1 h=>?_;have e1:=h.1.lt;have e2:=h.1.cnt;refine (u9 k hb i0 f _ s1 ⟨by omega,h.1.le,aL.make' m O (Nat.le_trans (hT.at_ _) (by decide)) (by decide) U (by omega) (ap.cons (aL.mono (Nat.le_refl _) (by omega) _ N) (ap.cons (aL.mono (by omega) (Nat.le_refl _) _ h.1.ok) ap.nil)),?_⟩ ⟨by show (20:Int)≠10;decide,by show (20:Int)<26;decide⟩).mono (fun h=>⟨by omega,by omega⟩) fun _ _ h=>h;rw [aF,aq,aq,aB];omega
theorem ym:∀ (k:Nat) (s:St),s.at_≤c.toks.length→bi (3 * (c.toks.length-s.at_)+1≤g) (fun n s1=>bZ c s.at_ s.at_ 7 n s1.at_∧Xk n) (im F k c s)
 | 0,s,hs=>uZ hF hT s hs
 | k+1,s,hs=>by unfold im;refine (ym k s hs).bind id fun x s1 h=>?_;have I:=h.1.lt;have D:=h.1.le;rw [hF.hg];exact (u9 hF hT (k+1) (ym k) s.at_ g x s1 h.1 h.2).mono (fun h=>⟨by omega,by omega⟩) fun _ _ h=>h
theorem tI (i0 C:Nat) (N:i0≤C) (x:ByteArray) (I:x.size≤65536):∀ (f:Nat) (acc:List Nd) (s:St),s.at_≤c.toks.length→ap c i0 s.at_ acc→f6 acc≤8 * (s.at_-C)→C≤s.at_ →
  bi (3 * (c.toks.length-s.at_)≤g∧c.toks.length-s.at_<f) (fun n s1=>bZ c i0 C 0 n s1.at_) (d6 F (am c i0).pos x f acc c s)
 | 0,_,_,_,_,_,_=>fun h=>absurd h.2 (by omega)
 | f+1,acc,s,y,J,q,U=>by
  unfold d6;refine bi.ite (fun M=>?_) fun _=>trivial;have D:=me (nY M);generalize adv s=s0 at D ⊢;have e0:=D.1;have O:=D.2;refine bi.ite (fun _=>?_) fun _=>bi.ite (fun _=>?_) fun _=>trivial
  ·refine ⟨by omega,D.2,aL.make i0 (Nat.le_trans I (by decide)) (by decide) (Nat.le_refl _) (by omega) (ap.mono (Nat.le_refl _) (by omega) _ J),?_⟩;rw [aF];omega
  ·refine (FU hF hT s0 D.2).bind (fun h=>by omega) fun d s1 h=>?_;have e1:=h.lt;have z:=h.cnt;exact (tI i0 C N x I f _ s1 h.le ((ap.mono (Nat.le_refl _) (by omega) _ J).app (ap.cons (aL.mono (by omega) (Nat.le_refl _) _ h.ok) ap.nil)) (by rw [fC,aq,aB];omega) (by omega)).mono (fun h=>⟨by omega,by omega⟩) fun _ _ h=>h
theorem F0 (s:St) (hs:s.at_≤c.toks.length):bi (3 * (c.toks.length-s.at_)≤g) (fun n s1=>bZ c s.at_ s.at_ 0 n s1.at_) (cY F c s):=by have _:=hs;unfold cY;refine (dn (b:=True) _ s).bind (fun _=>trivial) fun _ s1 h1=>?_;have M:=h1.1;have I:=h1.2;refine (iQ (b:=True) hT s1).bind (fun _=>trivial) fun x s2 h2=>?_;have J:=h2.1.1;have D:=h2.1.2;rw [hF.hg];exact (tI hF hT s.at_ s.at_ (Nat.le_refl _) x h2.2 g [] s2 h2.1.2 ap.nil (by rw [aB];omega) (by omega)).mono (fun h=>⟨by omega,by omega⟩) fun _ _ h=>h
end
theorem p9 {c:Cx} (hT:sp c):∀ g,FS c g (pv g)
 | 0=>⟨rfl,fun _ _ h=>absurd h (by omega),fun _ _ h=>absurd h (by omega),fun _ _ h=>absurd h (by omega),fun _ _ h=>absurd h (by omega),fun _ _ h=>absurd h (by omega)⟩
 | g+1=>by
  have hF:=p9 hT g;exact ⟨rfl,IC hF hT,fun s hs=>(ym hF hT 5 s hs).mono (fun h=>by omega) fun _ _ h=>h,fun s hs=>(uZ hF hT s hs).mono (fun h=>by omega) fun _ _ h=>h,
   fun s hs=>(FZ hF hT s hs).mono (fun h=>by omega) fun _ _ h=>h,fun s hs=>(FV hF hT s hs).mono (fun h=>by omega) fun _ _ h=>h⟩
def L2:Nat→Nd→Prop
 | 0,_=>True
 | g+1,n=>((n.kind=2∨n.kind=4→1≤n.kids.length)∧(n.kind=3∨n.kind=22→2≤n.kids.length))∧∀ k∈n.kids,L2 g k
end
end Go.Proofs.YtiebcdeafofgdaaGreatDoor
