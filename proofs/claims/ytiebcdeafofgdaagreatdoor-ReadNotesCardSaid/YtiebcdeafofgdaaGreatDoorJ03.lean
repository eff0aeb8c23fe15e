/-
  Parts of the proof: Pres. By an AI agent.
-/
import Derived.Test.YtiebcdeafofgdaaGreatDoorJ01
namespace Go.Proofs.YtiebcdeafofgdaaGreatDoor
section
mutual
def eU:Nd→Nat
 | .mk _ _ l _=>f6 l+1
def f6:List Nd→Nat
 | []=>0
 | n::l=>eU n+f6 l
end
theorem aF (k t l a):eU (.mk k t l a)=f6 l+1:=by rw [eU]
theorem aB:f6 []=0:=by rw [f6]
theorem aq (n l):f6 (n::l)=eU n+f6 l:=by rw [f6]
theorem iP:eU bJ=1:=by unfold bJ;rw [aF,aB]
theorem fC:∀ l m:List Nd,f6 (l++m)=f6 l+f6 m
 | [],m=>by rw [aB];simp
 | n::l,m=>by rw [List.cons_append,aq,aq,fC l m];omega
theorem pY:∀ l:List Nd,l.length≤f6 l
 | []=>by simp
 | .mk k t m a::l=>by rw [aq,aF,List.length_cons];have:=pY l;omega
def nh (n:Nd):Prop:=n.kids=[]∧n.pos=0∧n.text.size=0∧(n.kind=0∨n.kind=6)
theorem eJ:nh bJ:=⟨rfl,rfl,rfl,.inl rfl⟩
mutual
def aL (c:Cx) (i j:Nat):Nd→Prop
 | .mk k t l a=>t.size≤1000000000∧(k=22→∃ x r,l=x::r∧r≠[]∧x.kind≠10∧x.pos=a)∧∃ m,i≤m∧m<j∧a=(am c m).pos∧ap c m j l
def ap (c:Cx) (i j:Nat):List Nd→Prop
 | []=>True
 | x::r=>(nh x∨aL c i j x)∧ap c i j r
end
section
variable {c:Cx} {i i' j j' m:Nat}
theorem dP {k t l a} : aL c i j (.mk k t l a)↔(t.size≤1000000000∧(k=22→∃ x r,l=x::r∧r≠[]∧x.kind≠10∧x.pos=a)∧∃ m,i≤m∧m<j∧a=(am c m).pos∧ap c m j l):=by rw [aL]
theorem ap.nil:ap c i j []:=by rw [ap];trivial
theorem bX {x r} : ap c i j (x::r)↔((nh x∨aL c i j x)∧ap c i j r):=by rw [ap]
theorem ap.app:∀ {l l':List Nd},ap c i j l→ap c i j l'→ap c i j (l++l')
 | [],_,_,h=>h
 | x::r,_,h,h'=>by rw [bX] at h;rw [List.cons_append,bX];exact ⟨h.1,h.2.app h'⟩
theorem ap.cons {x r} (h:aL c i j x) (D:ap c i j r):ap c i j (x::r):=bX.2 ⟨.inr h,D⟩
theorem ap.consZ {x r} (h:nh x) (D:ap c i j r):ap c i j (x::r):=bX.2 ⟨.inl h,D⟩
mutual
theorem aL.mono {i i' j j':Nat} (O:i'≤i) (D:j≤j'):∀ n:Nd,aL c i j n→aL c i' j' n
 | .mk k t l a,h=>by rw [dP] at h ⊢;obtain ⟨N,M,m,q,U,J,I⟩:=h;exact ⟨N,M,m,by omega,by omega,J,ap.mono (Nat.le_refl m) D l I⟩
theorem ap.mono {i i' j j':Nat} (I:i'≤i) (D:j≤j'):∀ l:List Nd,ap c i j l→ap c i' j' l
 | [],_=>ap.nil
 | x::r,h=>by rw [bX] at h ⊢;exact ⟨h.1.imp id (fun h=>aL.mono I D x h),ap.mono I D r h.2⟩
end
theorem aL.make {k t l} (m:Nat) (D:t.size≤1000000000) (J:k≠22) (N:i≤m) (M:m<j) (I:ap c m j l):aL c i j (.mk k t l (am c m).pos):=
 dP.2 ⟨D,fun h=>absurd h J,m,N,M,rfl,I⟩
def bi {α:Type} (b:Prop) (Q:α→St→Prop):cZ α→Prop
 | .ok a s=>Q a s
 | .fail _=>True
 | .out=>¬ b
theorem bi.bind {α β:Type} {b b':Prop} {Q:α→St→Prop} {Q':β→St→Prop} {r:cZ α} {f:α→St→cZ β} (h:bi b' Q r) (hb:b→b') (I:∀ a s,Q a s→bi b Q' (f a s)):bi b Q' (r.bind f):=by
 cases r with
 | ok a s=>exact I a s h
 | fail p=>trivial
 | out=>exact fun D=>h (hb D)
theorem bi.mono {α:Type} {b b':Prop} {Q Q':α→St→Prop} {r:cZ α} (h:bi b Q r) (hb:b'→b) (I:∀ a s,Q a s→Q' a s):bi b' Q' r:=by
 cases r with
 | ok a s=>exact I a s h
 | fail p=>trivial
 | out=>exact fun D=>h (hb D)
theorem bi.ite {α:Type} {b:Prop} {Q:α→St→Prop} {p:Prop} [Decidable p] {x y:cZ α} (I:p→bi b Q x) (D:¬ p→bi b Q y):bi b Q (if p then x else y):=by
 split
 ·exact I ‹_›
 ·exact D ‹_›
theorem lL {i:Nat} (h:c.toks.length≤i):am c i=⟨0,⟨#[]⟩,c.fin⟩:=by unfold am;rw [List.getElem?_eq_none h]
theorem f7 {i:Nat} (h:i<c.toks.length):am c i=c.toks[i]:=by unfold am;rw [List.getElem?_eq_getElem h]
theorem lm {s:St} {x:ByteArray} (h:aE c s x=true):s.at_<c.toks.length:=by
 rcases Nat.lt_or_ge s.at_ c.toks.length with D | D
 ·exact D
 ·unfold aE yJ at h;rw [lL D] at h;simp at h
theorem oE {i:Nat} (h:(am c i).kind≠0):i<c.toks.length:=by
 rcases Nat.lt_or_ge i c.toks.length with D | D
 ·exact D
 ·rw [lL D] at h;exact absurd rfl h
theorem nY {s:St} (h:db c s=true):s.at_<c.toks.length:=by unfold db at h;rw [Bool.or_eq_true] at h;exact h.elim lm lm
def I6 (c:Cx) (s s1:St):Prop:=s1.at_=s.at_+1∧s1.at_≤c.toks.length
theorem I6.lt {s s1:St} (h:I6 c s s1):s.at_<s1.at_:=by have:=h.1;omega
theorem me {s:St} (h:s.at_<c.toks.length):I6 c s (adv s):=⟨rfl,h⟩
theorem bx {s:St} {x:ByteArray} (h:aE c s x=true):I6 c s (adv s):=me (lm h)
theorem dn {b:Prop} (x:ByteArray) (s:St):bi b (fun _ s1=>I6 c s s1) (need x c s):=by
 unfold need;split
 ·exact bx ‹_›
 ·trivial
structure sp (c:Cx):Prop where
 txt:∀ t∈c.toks,t.text.size≤65536
 num:∀ t∈c.toks,(mL t.text).size≤1000000000
 str:∀ t∈c.toks,(i8 t.text).size≤1000000000
 rg:∀ s x s',cv c s=some (x,s')→s'.at_≤c.toks.length
theorem sp.at_ (h:sp c) (i:Nat):(am c i).text.size≤65536:=by
 rcases Nat.lt_or_ge i c.toks.length with D | D
 ·rw [f7 D];exact h.txt _ (List.getElem_mem D)
 ·rw [lL D];show (0:Nat)≤_;omega
theorem iQ {b:Prop} (hT:sp c) (s:St):bi b (fun x s1=>I6 c s s1∧x.size≤65536) (bQ c s):=by
 unfold bQ;split
 ·rename_i h;exact ⟨me (oE (by rw [h];decide)),hT.at_ _⟩
 ·trivial
theorem AK {s:St} {x y:ByteArray} (I:aE c s x=true) (D:aE c s y=true):x=y:=by unfold aE yJ at I D;rw [Bool.and_eq_true,decide_eq_true_eq] at I D;rw [←I.2,←D.2]
theorem AM {s:St} (h:(am c s.at_).kind=1) (x:ByteArray):¬ aE c s x=true:=by unfold aE yJ;rw [h];simp
theorem D6 {b:Prop} (hT:sp c) (s:St):bi b (fun x D=>(D.at_=s.at_+1∧D.at_≤c.toks.length∧(am c s.at_).kind=1)∧x.size≤65536) (bQ c s):=by
 unfold bQ;split
 ·rename_i h;exact ⟨⟨rfl,oE (by rw [h];decide),h⟩,hT.at_ _⟩
 ·trivial
theorem FQ (s:St) (h:s.at_≤c.toks.length):s.at_≤(dA c s).at_∧(dA c s).at_≤c.toks.length:=by
 unfold dA;split
 ·rename_i D;have:=nY D;exact ⟨Nat.le_succ _,this⟩
 ·exact ⟨Nat.le_refl _,h⟩
structure bZ (c:Cx) (i0 i sl:Nat) (n:Nd) (j:Nat):Prop where
 lt:i<j
 le:j≤c.toks.length
 ok:aL c i0 j n
 cnt:eU n+sl≤8 * (j-i)
structure FR (c:Cx) (i0 i C:Nat) (l:List Nd) (j:Nat):Prop where
 lt:i<j
 le:j≤c.toks.length
 ok:ap c i0 j l
 cnt:f6 l+8≤C+8 * (j-i)
theorem mG {part:R Nd} {en:ByteArray} {b:Prop} {i0 lo:Nat} (M:∀ s,lo≤s.at_→s.at_≤c.toks.length→bi b (fun n D=>bZ c s.at_ s.at_ 0 n D.at_) (part c s)) :
  ∀ (g C:Nat) (acc:List Nd) (s:St),lo≤s.at_→i0≤s.at_→s.at_≤c.toks.length→ap c i0 s.at_ acc→f6 acc≤C →
    bi (b∧c.toks.length-s.at_<g) (fun l D=>FR c i0 s.at_ C l D.at_) (aO part en g acc c s)
 | 0,_,_,_,_,_,_,_,_=>fun h=>absurd h.2 (by omega)
 | g+1,C,acc,s,h1,z,y,N,h5=>by
  unfold aO;refine bi.ite (fun J=>?_) (fun J=>?_)
  ·have:=bx J;exact ⟨this.lt,this.2,ap.mono (Nat.le_refl _) (Nat.le_of_lt this.lt) _ N,by have:=this.1;omega⟩
  ·refine (M s h1 y).bind (fun h=>h.1) fun n D hn=>?_;have I:ap c i0 D.at_ (acc++[n]):=(ap.mono (Nat.le_refl _) (Nat.le_of_lt hn.lt) _ N).app (ap.cons (aL.mono z (Nat.le_refl _) _ hn.ok) ap.nil);(have U:f6 (acc++[n])=f6 acc+eU n:=by rw [fC,aq,aB];omega);have O:=hn.lt;have q:=hn.cnt;refine bi.ite (fun J=>?_) (fun J=>?_)
   ·have:=bx J;exact ⟨by have:=this.1;omega,this.2,ap.mono (Nat.le_refl _) (Nat.le_of_lt this.lt) _ I,by have:=this.1;omega⟩
   ·refine (dn (b:=True) _ D).bind (fun _=>trivial) fun _ s2 ho=>?_;have e1:=ho.1;have e2:=ho.2;refine (mG M g (C+8 * (D.at_-s.at_)) (acc++[n]) s2 (by omega) (by omega) e2 (ap.mono (Nat.le_refl _) (by omega) _ I) (by omega)).mono (fun h=>⟨h.1,by omega⟩) fun l s3 h=>?_;have e3:=h.lt;have e4:=h.cnt;exact ⟨by omega,h.le,h.ok,by omega⟩
structure FS (c:Cx) (g:Nat) (F:eB):Prop where
 hg:F.g=g
 typ:∀ s,s.at_≤c.toks.length→bi (3 * (c.toks.length-s.at_)+1≤g) (fun n s1=>bZ c s.at_ s.at_ 7 n s1.at_∧(n.kind=10∨n.kind=11∨n.kind=12)∧(aE c s (⟨#[91]⟩:BA)=true→n.kind≠10)) (F.typ c s)
 expr:∀ s,s.at_≤c.toks.length→bi (3 * (c.toks.length-s.at_)+2≤g) (fun n s1=>bZ c s.at_ s.at_ 7 n s1.at_∧n.kind≠10∧n.kind<26) (F.expr c s)
 unary:∀ s,s.at_≤c.toks.length→bi (3 * (c.toks.length-s.at_)+2≤g) (fun n s1=>bZ c s.at_ s.at_ 7 n s1.at_∧n.kind≠10∧n.kind<26) (F.unary c s)
 stmt:∀ s,s.at_≤c.toks.length→bi (3 * (c.toks.length-s.at_)+3≤g) (fun n s1=>bZ c s.at_ s.at_ 6 n s1.at_) (F.stmt c s)
 ifS:∀ s,s.at_≤c.toks.length→bi (3 * (c.toks.length-s.at_)+3≤g) (fun n s1=>bZ c s.at_ s.at_ 6 n s1.at_) (F.ifS c s)
end
section
variable {c:Cx} {g:Nat} {F:eB} (hF:FS c g F) (hT:sp c)
include hF hT
theorem Ch (s:St) (hs:s.at_≤c.toks.length):bi (3 * (c.toks.length-s.at_)+1≤g) (fun n D=>s.at_≤D.at_∧D.at_≤c.toks.length∧(nh n∨aL c s.at_ D.at_ n)∧eU n≤1+8 * (D.at_-s.at_)) (cu F c s):=by
 have _:=hT;unfold cu;refine bi.ite (fun _=>?_) (fun _=>?_)
 ·refine (hF.typ s hs).mono id fun n D h=>?_;have:=h.1.cnt;have:=h.1.lt;exact ⟨by omega,h.1.le,.inr h.1.ok,by omega⟩
 ·exact ⟨Nat.le_refl _,hs,.inl eJ,by rw [iP];omega⟩
theorem Ci (s:St) (hs:s.at_≤c.toks.length):bi (3 * (c.toks.length-s.at_)+1≤g) (fun n s1=>bZ c s.at_ s.at_ 0 n s1.at_) (fJ F c s):=by have _:=hT;unfold fJ;refine (hF.typ s hs).bind id fun n s1 h=>?_;have h:=h.1;refine ⟨h.lt,h.le,aL.make _ (by show (0:Nat)≤_;omega) (by decide) (Nat.le_refl _) h.lt (ap.cons h.ok ap.nil),?_⟩;rw [aF,aq,aB];have:=h.cnt;omega
theorem AN (s:St) (hs:s.at_≤c.toks.length):bi (3 * (c.toks.length-s.at_)+1≤g) (fun n s1=>bZ c s.at_ s.at_ 0 n s1.at_) (dF F c s):=by have _:=hs;unfold dF;refine (iQ (b:=True) hT s).bind (fun _=>trivial) fun x s0 h0=>?_;have I:=h0.1.1;refine (hF.typ s0 h0.1.2).bind (fun h=>by omega) fun n s1 h=>?_;have h:=h.1;have D:=h.lt;refine ⟨by omega,h.le,aL.make _ (Nat.le_trans h0.2 (by decide)) (by decide) (Nat.le_refl _) (by omega) (ap.cons (aL.mono (by omega) (Nat.le_refl _) _ h.ok) ap.nil),?_⟩;rw [aF,aq,aB];have:=h.cnt;omega
theorem r6 {part:R Nd} (D:∀ s,s.at_≤c.toks.length→bi (3 * (c.toks.length-s.at_)+1≤g) (fun n s1=>bZ c s.at_ s.at_ 0 n s1.at_) (part c s)) (i0:Nat) (s:St) (hs:s.at_≤c.toks.length) (J:i0≤s.at_) :
  bi (3 * (c.toks.length-s.at_)≤g) (fun n s1=>bZ c i0 s.at_ 7 n s1.at_∧n.kind=12)
   ((need (⟨#[40]⟩:BA) c s).bind fun _ s1=>(aO part (⟨#[41]⟩:BA) F.g [] c s1).bind fun l s2=>(cu F c s2).bind fun r s3=>.ok (.mk 12 (⟨#[]⟩:BA) [.mk 6 (⟨#[]⟩:BA) l (an c s),r] (am c i0).pos) s3):=by have _:=hs;refine (dn (b:=True) _ s).bind (fun _=>trivial) fun _ s1 h1=>?_;have e1:=h1.1;have U:=h1.2;rw [hF.hg];refine (mG (i0:=s.at_) (lo:=s1.at_) (b:=3 * (c.toks.length-s1.at_)+1≤g) (fun s' hlo hs'=>(D s' hs').mono (fun h=>by omega) fun _ _ h=>h) g 0 [] s1 (Nat.le_refl _) (by omega) h1.2 ap.nil (by rw [aB];omega)).bind (fun h=>⟨by omega,by omega⟩) fun l s2 h2=>?_;have z:=h2.lt;have y:=h2.cnt;refine (Ch hF hT s2 h2.le).bind (fun h=>by omega) fun r s3 h3=>?_;obtain ⟨O,N,M,q⟩:=h3;have I:aL c i0 s3.at_ (.mk 6 (⟨#[]⟩:BA) l (an c s)):=aL.make s.at_ (by show (0:Nat)≤_;omega) (by decide) J (by omega) (ap.mono (Nat.le_refl _) O _ h2.ok);refine ⟨⟨by omega,N,aL.make _ (by show (0:Nat)≤_;omega) (by decide) (Nat.le_refl _) (by omega) (ap.cons I (bX.2 ⟨M.imp id fun h=>aL.mono (by omega) (Nat.le_refl _) _ h,ap.nil⟩)),?_⟩,rfl⟩;rw [aF,aq,aq,aB,aF];omega
theorem pZ (i0:Nat) (s:St) (hs:s.at_≤c.toks.length) (D:i0≤s.at_) :
 bi (3 * (c.toks.length-s.at_)≤g) (fun n s1=>bZ c i0 s.at_ 7 n s1.at_∧n.kind=12) (cz F (am c i0).pos c s):=r6 hF hT (Ci hF hT) i0 s hs D
theorem C9 (i0:Nat) (s:St) (hs:s.at_≤c.toks.length) (D:i0≤s.at_) :
 bi (3 * (c.toks.length-s.at_)≤g) (fun n s1=>bZ c i0 s.at_ 7 n s1.at_∧n.kind=12) (mw F (am c i0).pos c s):=r6 hF hT (AN hF hT) i0 s hs D
theorem IC (s:St) (hs:s.at_≤c.toks.length):bi (3 * (c.toks.length-s.at_)+1≤g+1) (fun n s1=>bZ c s.at_ s.at_ 7 n s1.at_∧(n.kind=10∨n.kind=11∨n.kind=12)∧(aE c s (⟨#[91]⟩:BA)=true→n.kind≠10)) (pu F c s):=by
 have _:=hs;unfold pu;refine bi.ite (fun J=>?_) (fun _=>bi.ite (fun J=>?_) (fun _=>bi.ite (fun J=>?_) (fun _=>?_)))
 ·have D:=bx J;generalize adv s=s0 at D ⊢;have q:=D.1;have N:=D.2;refine (hF.typ s0 D.2).bind (fun h=>by omega) fun n s1 h=>?_;refine (dn (b:=True) _ s1).bind (fun _=>trivial) fun _ s2 M=>?_;have y:=M.1;have U:=h.1.lt;have:=h.1.cnt;exact ⟨⟨by omega,M.2,aL.mono (by omega) (by omega) _ h.1.ok,by omega⟩,h.2.1,fun hb=>absurd (AK J hb) (by decide)⟩
 ·have D:=bx J;generalize adv s=s0 at D ⊢;have q:=D.1;have N:=D.2;refine (dn (b:=True) _ s0).bind (fun _=>trivial) fun _ s1 I=>?_;have U:=I.1;have O:=I.2;refine (hF.typ s1 I.2).bind (fun h=>by omega) fun n s2 h=>?_;have h:=h.1;have y:=h.lt;have:=h.cnt;refine ⟨⟨by omega,h.le,aL.make s.at_ (by show (0:Nat)≤_;omega) (by decide) (Nat.le_refl _) (by omega) (ap.cons (aL.mono (by omega) (Nat.le_refl _) _ h.ok) ap.nil),?_⟩,.inr (.inl rfl),fun _=>by show (11:Int)≠10;decide⟩;rw [aF,aq,aB];omega
 ·have D:=bx J;generalize adv s=s0 at D ⊢;have q:=D.1;have N:=D.2;refine (pZ hF hT s.at_ s0 D.2 (by omega)).mono (fun h=>by omega) fun n s1 h=>?_;have U:=h.1.lt;have:=h.1.cnt;exact ⟨⟨by omega,h.1.le,h.1.ok,by omega⟩,.inr (.inr h.2),fun hb=>absurd (AK J hb) (by decide)⟩
 ·refine (D6 (b:=True) hT s).bind (fun _=>trivial) fun x s1 I=>?_;have U:=I.1.1;have O:=I.1.2.1;refine bi.ite (fun J=>?_) (fun _=>?_)
  ·have D:=bx (show aE c s1 (⟨#[91]⟩:BA)=true by rw [Bool.and_eq_true] at J;exact J.1);generalize adv s1=s0 at D ⊢;have q:=D.1;have N:=D.2;rw [hF.hg];refine (mG (i0:=s.at_) (lo:=s0.at_) (b:=3 * (c.toks.length-s0.at_)+1≤g) (fun s' hlo hs'=>(hF.typ s' hs').mono (fun h=>by omega) fun _ _ h=>⟨h.1.lt,h.1.le,h.1.ok,by have:=h.1.cnt;omega⟩) g 0 [] s0 (Nat.le_refl _) (by omega) D.2 ap.nil (by rw [aB];omega)).bind (fun h=>⟨by omega,by omega⟩) fun l s2 M=>?_;have y:=M.lt;have z:=M.cnt;refine bi.ite (fun _=>trivial) (fun _=>?_);refine ⟨⟨by omega,M.le,aL.make s.at_ (Nat.le_trans I.2 (by decide)) (by decide) (Nat.le_refl _) (by omega) M.ok,?_⟩,.inl rfl,fun hb=>absurd hb (AM I.1.2.2 _)⟩;rw [aF];omega
  ·refine ⟨⟨by omega,I.1.2.1,aL.make s.at_ (Nat.le_trans I.2 (by decide)) (by decide) (Nat.le_refl _) (by omega) ap.nil,?_⟩,.inl rfl,fun hb=>absurd hb (AM I.1.2.2 _)⟩;rw [aF,aB];omega
theorem AO (s:St) (hs:s.at_≤c.toks.length):bi (3 * (c.toks.length-s.at_)+1≤g) (fun n s1=>bZ c s.at_ s.at_ 6 n s1.at_∧∃ k,n.kids=[k]) (ij F c s):=by
 have _:=hT;unfold ij;refine bi.ite (fun I=>?_) (fun _=>?_)
 ·have D:=bx I;generalize adv s=s0 at D ⊢;have N:=D.1;have M:=D.2;refine (hF.typ s0 D.2).bind (fun h=>by omega) fun n s1 h=>?_;have h:=h.1;have J:=h.lt;have:=h.cnt;refine ⟨⟨by omega,h.le,aL.make s.at_ (by show (1:Nat)≤_;omega) (by decide) (Nat.le_refl _) (by omega) (ap.cons (aL.mono (by omega) (Nat.le_refl _) _ h.ok) ap.nil),?_⟩,n,rfl⟩;rw [aF,aq,aB];omega
 ·refine (hF.typ s hs).bind id fun n s1 h=>?_;have h:=h.1;have J:=h.lt;have:=h.cnt;refine ⟨⟨by omega,h.le,aL.make s.at_ (by show (0:Nat)≤_;omega) (by decide) (Nat.le_refl _) (by omega) (ap.cons h.ok ap.nil),?_⟩,n,rfl⟩;rw [aF,aq,aB];omega
theorem r7 (i0 C:Nat) (M:i0≤C):∀ (f:Nat) (acc:List Nd) (s:St),s.at_≤c.toks.length→ap c i0 s.at_ acc→f6 acc+6≤8 * (s.at_-C) →
  bi (3 * (c.toks.length-s.at_)+1≤g∧c.toks.length-s.at_<f) (fun n s1=>bZ c i0 C 5 n s1.at_) (dM F (am c i0).pos f acc c s)
 | 0,_,_,_,_,_=>fun h=>absurd h.2 (by omega)
 | f+1,acc,s,N,I,U=>by
  unfold dM;refine bi.ite (fun J=>?_) (fun _=>?_)
  ·have D:=bx J;generalize adv s=s0 at D ⊢;have z:=D.1;have O:=D.2;refine (AO hF hT s0 D.2).bind (fun h=>by omega) fun n s1 h=>?_;have h:=h.1;have y:=h.lt;have q:=h.cnt;exact (r7 i0 C M f (acc++[n]) s1 h.le ((ap.mono (Nat.le_refl _) (by omega) _ I).app (ap.cons (aL.mono (by omega) (Nat.le_refl _) _ h.ok) ap.nil)) (by rw [fC,aq,aB];omega)).mono (fun h=>⟨by omega,by omega⟩) fun m s2 h'=>h'
  ·refine ⟨by omega,N,aL.make i0 (by show (0:Nat)≤_;omega) (by decide) (Nat.le_refl _) (by omega) I,?_⟩;rw [aF];omega
theorem uX (i0:Nat) (s:St) (hs:s.at_≤c.toks.length) (D:i0≤s.at_):bi (3 * (c.toks.length-s.at_)+1≤g) (fun n s1=>bZ c i0 s.at_ 5 n s1.at_) (dK F (am c i0).pos c s):=by unfold dK;refine (AO hF hT s hs).bind id fun n s1 h=>?_;have h:=h.1;have J:=h.lt;have I:=h.cnt;have:=h.le;rw [hF.hg];exact (r7 hF hT i0 s.at_ D g [n] s1 h.le (ap.cons (aL.mono D (Nat.le_refl _) _ h.ok) ap.nil) (by rw [aq,aB];omega)).mono (fun h=>⟨by omega,by omega⟩) fun m s2 h'=>h'
theorem uY (i0:Nat) (s:St) (hs:s.at_≤c.toks.length) (M:i0≤s.at_):bi (3 * (c.toks.length-s.at_)≤g) (fun n s1=>bZ c i0 s.at_ 5 n s1.at_) (eC F (am c i0).pos c s):=by have _:=hs;unfold eC;refine (dn (b:=True) _ s).bind (fun _=>trivial) fun _ s1 h1=>?_;have q:=h1.1;have I:=h1.2;refine (uX hF hT i0 s1 h1.2 (by omega)).bind (fun h=>by omega) fun n s2 h2=>?_;have U:=h2.lt;have O:=h2.cnt;have J:=FQ s2 h2.le;refine (dn (b:=True) _ _).bind (fun _=>trivial) fun _ s3 D=>?_;have N:=D.1;exact ⟨by omega,D.2,aL.mono (Nat.le_refl _) (by omega) _ h2.ok,by omega⟩
omit hF hT in
theorem FT {n k:Nd} {i j sl:Nat} (h:bZ c i i sl n j) (hb:fK n=some k):bZ c i i sl k j:=by
 obtain ⟨kk,t,l,a⟩:=n;unfold fK at hb;rw [Nd.kids_mk] at hb;cases l with
 | nil=>cases hb
 | cons x r=>cases r with
   | cons y r=>cases hb
   | nil=>
    obtain ⟨kx,tx,lx,ax⟩:=x;simp only [Nd.kids_mk] at hb;cases lx with
    | nil=>cases hb
    | cons z r=>
     simp only at hb;split at hb
     ·rename_i N;injection hb with hb;subst hb;have hc:=h.cnt;rw [aF,aq,aF,aq] at hc;obtain ⟨-,-,m,m1,q,-,J⟩:=dP.1 h.ok;rw [bX] at J;have M:=J.1.resolve_left (fun D=>by have:=D.1;cases this);obtain ⟨-,-,m',U,O,-,I⟩:=dP.1 M;rw [bX] at I;have D:=I.1.resolve_left (fun D=>by have:=D.2.2.2;rw [N.2] at this;omega);exact ⟨h.lt,h.le,aL.mono (by omega) (Nat.le_refl _) _ D,by omega⟩
     ·cases hb
theorem tC (s:St) (hs:s.at_≤c.toks.length):bi (3 * (c.toks.length-s.at_)+1≤g) (fun n s1=>bZ c s.at_ s.at_ 5 n s1.at_) (cP F c s):=by
 unfold cP;refine bi.ite (fun I=>?_) (fun _=>?_)
 ·have D:=bx I;generalize adv s=s0 at D ⊢;have N:=D.1;have J:=D.2;refine (uY hF hT s.at_ s0 D.2 (by omega)).mono (fun h=>by omega) fun n s1 h=>?_;have M:=h.lt;have:=h.cnt;exact ⟨by omega,h.le,h.ok,by omega⟩
 ·refine (uX hF hT s.at_ s hs (Nat.le_refl _)).bind id fun n s1 h=>?_;show bZ c s.at_ s.at_ 5 ((fK n).getD n) s1.at_;cases hb:fK n with
  | none=>exact h
  | some k=>exact FT h hb
theorem uv (s:St) (hs:s.at_≤c.toks.length):bi (3 * (c.toks.length-s.at_)+1≤g) (fun n s1=>bZ c s.at_ s.at_ 0 n s1.at_) (cK F c s):=by have _:=hs;unfold cK;refine (iQ (b:=True) hT s).bind (fun _=>trivial) fun x s0 h0=>?_;have I:=h0.1.1;refine (tC hF hT s0 h0.1.2).bind (fun h=>by omega) fun n s1 h=>?_;have D:=h.lt;refine ⟨by omega,h.le,aL.make s.at_ (Nat.le_trans h0.2 (by decide)) (by decide) (Nat.le_refl _) (by omega) (ap.cons (aL.mono (by omega) (Nat.le_refl _) _ h.ok) ap.nil),?_⟩;rw [aF,aq,aB];have:=h.cnt;omega
theorem tD (s:St) (hs:s.at_≤c.toks.length):bi (3 * (c.toks.length-s.at_)≤g) (fun n D=>s.at_≤D.at_∧D.at_≤c.toks.length∧(nh n∨aL c s.at_ D.at_ n)∧eU n≤1+8 * (D.at_-s.at_)) (dG F c s):=by
 unfold dG;refine bi.ite (fun M=>?_) (fun _=>?_)
 ·have J:=bx (show aE c s (⟨#[91]⟩:BA)=true by rw [Bool.and_eq_true] at M;exact M.1);generalize adv s=s0 at J ⊢;have q:=J.1;have N:=J.2;rw [hF.hg];refine (mG (i0:=s.at_) (lo:=s0.at_) (b:=3 * (c.toks.length-s0.at_)+1≤g) (fun s' hlo hs'=>(uv hF hT s' hs').mono (fun h=>by omega) fun _ _ h=>h) g 0 [] s0 (Nat.le_refl _) (by omega) J.2 ap.nil (by rw [aB];omega)).bind (fun h=>⟨by omega,by omega⟩) fun l s2 I=>?_;have U:=I.lt;have O:=I.cnt;refine bi.ite (fun _=>trivial) (fun _=>?_);refine ⟨by omega,I.le,.inr (aL.make s.at_ (by show (0:Nat)≤_;omega) (by decide) (Nat.le_refl _) (by omega) I.ok),?_⟩;rw [aF];omega
 ·refine ⟨Nat.le_refl _,hs,.inl ⟨rfl,rfl,rfl,.inr rfl⟩,?_⟩;rw [aF,aB];omega
theorem ni (i0 C:Nat) (M:i0≤C):∀ (f:Nat) (acc:List Nd) (s:St),s.at_≤c.toks.length→ap c i0 s.at_ acc→f6 acc≤8 * (s.at_-C)→C≤s.at_ →
  bi (3 * (c.toks.length-s.at_)≤g∧c.toks.length-s.at_<f) (fun n s1=>bZ c i0 C 7 n s1.at_) (co F (am c i0).pos f acc c s)
 | 0,_,_,_,_,_,_=>fun h=>absurd h.2 (by omega)
 | f+1,acc,s,z,N,y,q=>by
  unfold co;refine bi.ite (fun J=>?_) (fun _=>?_)
  ·have D:=bx J;have e0:=D.1;refine ⟨by omega,D.2,aL.make i0 (by show (0:Nat)≤_;omega) (by decide) (Nat.le_refl _) (by omega) (ap.mono (Nat.le_refl _) (by omega) _ N),?_⟩;rw [aF];omega
  ·refine (iQ (b:=True) hT s).bind (fun _=>trivial) fun x s1 h1=>?_;have e1:=h1.1.1;have U:=h1.1.2;refine (hF.typ s1 h1.1.2).bind (fun h=>by omega) fun n s2 h=>?_;have h:=h.1;have e2:=h.lt;have e3:=h.cnt;have I:ap c i0 s2.at_ (acc++[.mk 9 x [n] (an c s)]):=(ap.mono (Nat.le_refl _) (by omega) _ N).app (ap.cons (aL.make s.at_ (Nat.le_trans h1.2 (by decide)) (by decide) (by omega) (by omega) (ap.cons (aL.mono (by omega) (Nat.le_refl _) _ h.ok) ap.nil)) ap.nil);(have O:f6 (acc++[.mk 9 x [n] (an c s)])=f6 acc+eU n+1:=by rw [fC,aq,aB,aF,aq,aB];omega);refine bi.ite (fun J=>?_) (fun _=>bi.ite (fun _=>?_) fun _=>trivial)
   ·have D:=me (nY J);generalize adv s2=s0 at D ⊢;have e4:=D.1;have e5:=D.2;exact (ni i0 C M f _ s0 D.2 (ap.mono (Nat.le_refl _) (by omega) _ I) (by omega) (by omega)).mono (fun h=>⟨by omega,by omega⟩) fun m s2 h'=>h'
   ·exact (ni i0 C M f _ s2 h.le I (by omega) (by omega)).mono (fun h=>⟨by omega,by omega⟩) fun m s2 h'=>h'
theorem Cj (i0:Nat) (s:St) (hs:s.at_≤c.toks.length) (D:i0≤s.at_):bi (3 * (c.toks.length-s.at_)≤g) (fun n s1=>bZ c i0 s.at_ 7 n s1.at_) (eK F (am c i0).pos c s):=by have _:=hs;unfold eK;refine (dn (b:=True) _ s).bind (fun _=>trivial) fun _ s1 h1=>?_;have J:=h1.1;have I:=h1.2;rw [hF.hg];exact (ni hF hT i0 s.at_ D g [] s1 h1.2 ap.nil (by rw [aB];omega) (by omega)).mono (fun h=>⟨by omega,by omega⟩) fun m s2 h'=>h'
theorem p8 (s:St) (hs:s.at_≤c.toks.length):bi (3 * (c.toks.length-s.at_)≤g) (fun n s1=>bZ c s.at_ s.at_ 6 n s1.at_) (cM F c s):=by
 have _:=hs;unfold cM;refine (dn (b:=True) _ s).bind (fun _=>trivial) fun _ s1 h1=>?_;have e1:=h1.1;have q:=h1.2;refine (iQ (b:=True) hT s1).bind (fun _=>trivial) fun x s2 h2=>?_;have e2:=h2.1.1;have U:=h2.1.2;refine bi.ite (fun I=>?_) (fun _=>?_)
 ·have D:=bx I;generalize adv s2=s0 at D ⊢;have e3:=D.1;have O:=D.2;refine (hF.expr s0 D.2).bind (fun h=>by omega) fun n s3 h=>?_;have h:=h.1;have N:=h.lt;have M:=h.cnt;refine ⟨by omega,h.le,aL.make s.at_ (Nat.le_trans h2.2 (by decide)) (by decide) (Nat.le_refl _) (by omega) (ap.consZ eJ (ap.cons (aL.mono (by omega) (Nat.le_refl _) _ h.ok) ap.nil)),?_⟩;rw [aF,aq,aq,aB,iP];omega
 ·refine (hF.typ s2 h2.1.2).bind (fun h=>by omega) fun t s3 h=>?_;have h:=h.1;have N:=h.lt;have M:=h.cnt;refine bi.ite (fun I=>?_) (fun _=>?_)
  ·have D:=bx I;generalize adv s3=s0 at D ⊢;have e6:=D.1;have J:=D.2;refine (hF.expr s0 D.2).bind (fun h=>by omega) fun n s4 h'=>?_;have h':=h'.1;have z:=h'.lt;have y:=h'.cnt;refine ⟨by omega,h'.le,aL.make s.at_ (Nat.le_trans h2.2 (by decide)) (by decide) (Nat.le_refl _) (by omega) (ap.cons (aL.mono (by omega) (by omega) _ h.ok) (ap.cons (aL.mono (by omega) (Nat.le_refl _) _ h'.ok) ap.nil)),?_⟩;rw [aF,aq,aq,aB];omega
  ·refine ⟨by omega,h.le,aL.make s.at_ (Nat.le_trans h2.2 (by decide)) (by decide) (Nat.le_refl _) (by omega) (ap.cons (aL.mono (by omega) (by omega) _ h.ok) (ap.consZ eJ ap.nil)),?_⟩;rw [aF,aq,aq,aB,iP];omega
end
end
end Go.Proofs.YtiebcdeafofgdaaGreatDoor
