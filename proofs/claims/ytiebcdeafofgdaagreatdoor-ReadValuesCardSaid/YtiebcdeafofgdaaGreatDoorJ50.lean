/-
  Parts of the proof: Pit Pend Ustab Udepth. By an AI agent.
-/
import Derived.Test.YtiebcdeafofgdaaGreatDoorJ47
import Derived.Test.YtiebcdeafofgdaaGreatDoorJ43
import Derived.Test.YtiebcdeafofgdaaGreatDoorJ04
import Derived.Test.YtiebcdeafofgdaaGreatDoorJ17
set_option maxRecDepth 100000
set_option maxHeartbeats 8000000
namespace Go.Proofs.YtiebcdeafofgdaaGreatDoor
section
open Go.Lib
inductive It where
 | tok (k:Int) (x:List UInt8)
 | gap (b:UInt8)
 | nl
def Mo:It→List UInt8
 | .tok _ x=>x
 | .gap b=>[b]
 | .nl=>[10]
def Dk (l:List It):List UInt8:=l.flatMap Mo
theorem By (a:It) (l:List It):Dk (a::l)=Mo a++Dk l:=by unfold Dk;rw [List.flatMap_cons]
def La (x:List UInt8):ByteArray:=⟨x.toArray⟩
theorem Ev (x:List UInt8):bytes (La x)=x:=by unfold bytes La;exact List.toList_toArray ..
def L5 (k:Int) (x:List UInt8):Bool:=fS ⟨k,La x,0⟩
def GD:List UInt8→Bool
 | []=>false
 | a::r=>a7 (a.toNat:Int)&&r.all fun c=>bA (c.toNat:Int)
def L6:List UInt8→Bool
 | []=>false
 | a::r=>aK (a.toNat:Int)&&r.all fun c=>bA (c.toNat:Int)
def Bz:List UInt8→Bool
 | []=>true
 | b::_ => !(bA (b.toNat:Int))
def CN:List UInt8→Bool
 | []=>false
 | b::_ => !(bA (b.toNat:Int))&&(b != 10&&(b != 32&&(b != 9&&(b != 13&&(b != 34&&b != 96)))))
inductive oX (r:List UInt8):Int→List UInt8→Prop where
 | word {x:List UInt8} (h:GD x=true) (hr:Bz r=true):oX r (ci (La x)+1) x
 | num {x:List UInt8} (h:L6 x=true) (hr:Bz r=true):oX r 4 x
 | text {y:List UInt8} (h:∀ r,aR 34 (y++34::r) false 0=some y.length):oX r 5 (34::y++[34])
 | sign {x:List UInt8} (h:CN x=true) (hl:ri (x++r)=x.length) (h1:hasPrefix (x++r) [47,47]=false) (h2:hasPrefix (x++r) [47,42]=false):oX r 6 x
def BB:Bool→List It→List UInt8→Prop
 | _,[],_=>True
 | e,.nl::z,r=>e=true∧BB false z r
 | e,.gap b::z,r=>(b=32∨b=9∨(b=10∧e=false))∧BB e z r
 | _,.tok k x::z,r=>oX (Dk z++r) k x∧BB (L5 k x) z r
def ub:Nat→List It→List bE
 | _,[]=>[]
 | i,.tok k x::z=>⟨k,La x,(i:Int)⟩::ub (i+x.length) z
 | i,.gap _::z=>ub (i+1) z
 | i,.nl::z=>⟨6,⟨#[10]⟩,(i:Int)⟩::ub (i+1) z
theorem oY {p:UInt8→Bool} : ∀ (x r:List UInt8),x.all p=true→(∀ b q,r=b::q→p b=false)→(x++r).takeWhile p=x
 | [],r,_,h=>by
  cases r with
  | nil=>rfl
  | cons b q=>rw [List.nil_append,List.takeWhile_cons,h b q rfl];rfl
 | a::x,r,D,h=>by rw [List.all_cons,Bool.and_eq_true] at D;rw [List.cons_append,List.takeWhile_cons,if_pos D.1,oY x r D.2 h]
theorem uc {x r:List UInt8} (I:x.all (fun c=>bA (c.toNat:Int))=true) (D:Bz r=true):a8 (x++r)=x.length:=by unfold a8;rw [oY x r I];rintro b q rfl;unfold Bz at D;simpa using D
section
variable {t:ByteArray} {i:Nat}
theorem fD:aa t i=(((bytes t).drop i).getD 0 0).toNat:=by rw [dy,List.getD_eq_getElem?_getD,List.getD_eq_getElem?_getD,List.getElem?_drop,Nat.add_zero]
theorem lA {a:UInt8} {r:List UInt8} (h:(bytes t).drop i=a::r):i<t.size:=by
 rcases Nat.lt_or_ge i t.size with D | D
 ·exact D
 ·rw [List.drop_of_length_le (by rw [bz];exact D)] at h;cases h
theorem yD {x r:List UInt8} (h:(bytes t).drop i=x++r) {j:Nat} (D:j=i+x.length):t.extract i j=La x:=by subst D;apply rG;rw [dx,Ev,h,Nat.add_sub_cancel_left,List.take_left]
theorem IP {x r:List UInt8} (h:(bytes t).drop i=x++r):(bytes t).drop (i+x.length)=r:=by rw [←List.drop_drop,h,List.drop_left]
theorem Ew {b:UInt8} (h:a7 (b.toNat:Int)=true):65≤b.toNat:=by unfold a7 at h;simp only [Bool.or_eq_true,Bool.and_eq_true,beq_iff_eq,decide_eq_true_eq] at h;omega
theorem Ex {b:UInt8} (h:aK (b.toNat:Int)=true):48≤b.toNat∧b.toNat≤57∧a7 (b.toNat:Int)=false:=by unfold aK at h;simp only [Bool.and_eq_true,decide_eq_true_eq] at h;refine ⟨by omega,by omega,?_⟩;unfold a7;(have J:((b.toNat:Int)==95)=false:=by rw [beq_eq_false_iff_ne];omega);(have I:decide (97≤(b.toNat:Int))=false:=by rw [decide_eq_false_iff_not];omega);(have D:decide (65≤(b.toNat:Int))=false:=by rw [decide_eq_false_iff_not];omega);rw [J,I,D];rfl
theorem wH {b:UInt8} {n:Nat} (D:n<256) (h:b≠UInt8.ofNat n):b.toNat≠n:=by intro e;apply h;apply UInt8.toNat_inj.1;rw [e,UInt8.toNat_ofNat'];omega
theorem sC {l:List bE} (I:hasPrefix ((bytes t).drop i) [47,47]=false) (D:hasPrefix ((bytes t).drop i) [47,42]=false):dj t i l=none:=by unfold dj;rw [show hasPrefix (t.data.toList.drop i) [47,47]=false from I,show hasPrefix (t.data.toList.drop i) [47,42]=false from D];rfl
theorem fE {a b:UInt8} {p r:List UInt8} (h:a.toNat≠b.toNat):hasPrefix (a::r) (b::p)=false:=by unfold hasPrefix;rw [List.isPrefixOf,show (b==a)=false from beq_eq_false_iff_ne.2 fun e=>h (by rw [e])];rfl
theorem GE {l:List bE} {k:Int} {x r:List UInt8} (hf:¬ (i=0∧hasPrefix (bytes t) [239,187,191]=true)) (hd:(bytes t).drop i=x++r) (h:oX r k x) :
  i<t.size∧bC t i l=.go (i+x.length) (l++[⟨k,La x,(i:Int)⟩]):=by
 unfold bC;rw [if_neg hf];cases h with
 | word D hr=>
  cases x with
  | nil=>cases D
  | cons a y=>have ga:=D;unfold GD at D;rw [Bool.and_eq_true] at D;(have hb:aa t i=a.toNat:=by rw [fD,hd];rfl);have N:=Ew D.1;(have I:a8 (t.data.toList.drop i)=(a::y).length:=by rw [show t.data.toList.drop i=a::y++r from hd];refine uc ?_ hr;rw [List.all_cons,D.2];unfold bA;rw [D.1];rfl);refine ⟨lA hd,?_⟩;rw [hb,if_neg (by omega),if_neg (by omega),sC (by rw [hd];exact fE (by show a.toNat≠47;omega)) (by rw [hd];exact fE (by show a.toNat≠47;omega))];simp only;rw [if_pos D.1,I,yD hd rfl]
 | num D hr=>
  cases x with
  | nil=>cases D
  | cons a y=>unfold L6 at D;rw [Bool.and_eq_true] at D;(have hb:aa t i=a.toNat:=by rw [fD,hd];rfl);have N:=Ex D.1;(have I:a8 (t.data.toList.drop i)=(a::y).length:=by rw [show t.data.toList.drop i=a::y++r from hd];refine uc ?_ hr;rw [List.all_cons,D.2];unfold bA;rw [D.1];simp);refine ⟨lA hd,?_⟩;rw [hb,if_neg (by omega),if_neg (by omega),sC (by rw [hd];exact fE (by show a.toNat≠47;omega)) (by rw [hd];exact fE (by show a.toNat≠47;omega))];simp only;rw [if_neg (by rw [N.2.2];decide),if_pos D.1,I,yD hd rfl]
 | @text y hq=>have J:(bytes t).drop i=34::(y++[34]++r):=hd;(have hb:aa t i=34:=by rw [fD,J];rfl);refine ⟨lA J,?_⟩;rw [hb,if_neg (by decide),if_neg (by decide),sC (by rw [J];exact fE (by decide)) (by rw [J];exact fE (by decide))];simp only;rw [if_neg (by decide),if_neg (by decide),if_pos (.inl trivial)];unfold nP;rw [hb,show t.data.toList.drop (i+1)=y++34::r by show (bytes t).drop (i+1)=_;rw [←List.drop_drop,J];simp,hq];simp only;(have I:(34::y++[34]).length=y.length+2:=by simp);rw [yD hd (by rw [I];omega),I];rfl
 | sign D hl h1 h2=>
  cases x with
  | nil=>cases D
  | cons a y=>unfold CN at D;simp only [Bool.and_eq_true,Bool.not_eq_true',bne_iff_ne,ne_eq] at D;obtain ⟨M,q,U,O,n4,n5,n6⟩:=D;(have hb:aa t i=a.toNat:=by rw [fD,hd];rfl);have z:a.toNat≠10:=wH (n:=10) (by decide) q;have m2:a.toNat≠32:=wH (n:=32) (by decide) U;have m3:a.toNat≠9:=wH (n:=9) (by decide) O;have m4:a.toNat≠13:=wH (n:=13) (by decide) n4;have m5:a.toNat≠34:=wH (n:=34) (by decide) n5;have m6:a.toNat≠96:=wH (n:=96) (by decide) n6;unfold bA at M;rw [Bool.or_eq_false_iff] at M;refine ⟨lA hd,?_⟩;rw [hb,if_neg z,if_neg (by omega),sC (by rw [hd];exact h1) (by rw [hd];exact h2)];simp only;rw [if_neg (by rw [M.1];decide),if_neg (by rw [M.2];decide),if_neg (by omega)];unfold ik;rw [lp,hd,hl,if_neg (by simp),yD hd rfl]
end
theorem GF (k:Int) (x:ByteArray) (p q:Int):fS ⟨k,x,p⟩=fS ⟨k,x,q⟩:=rfl
theorem rl {t:ByteArray} (O:hasPrefix (bytes t) [239,187,191]=false):∀ (z:List It) (e:Bool) (i:Nat) (l:List bE) (r:List UInt8),(bytes t).drop i=Dk z++r→bL l=e→BB e z r→∀ g,
  aU t (g+z.length) i l=aU t g (i+(Dk z).length) (l++ub i z)
 | [],e,i,l,r,_,_,_,g=>by show aU t g i l=aU t g (i+0) (l++[]);rw [List.append_nil,Nat.add_zero]
 | a::z,e,i,l,r,hd,q,U,g=>by
  (have N:¬ (i=0∧hasPrefix (bytes t) [239,187,191]=true):=fun h=>by rw [O] at h;exact absurd h.2 (by decide));rw [By,List.append_assoc] at hd;have hd2:=IP hd;rw [show g+(a::z).length=g+z.length+1 from rfl,By,List.length_append,←Nat.add_assoc];cases a with
  | tok k x=>obtain ⟨J,D⟩:=U;obtain ⟨h1,h2⟩:=GE (l:=l) N hd J;rw [eq h1 h2,rl O z (L5 k x) _ _ r hd2 (by rw [iF];exact GF _ _ _ _) D,List.append_assoc];rfl
  | gap b=>
   obtain ⟨J,D⟩:=U;have I:(bytes t).drop i=b::(Dk z++r):=hd;(have hb:aa t i=b.toNat:=by rw [fD,I];rfl);have M:bC t i l=.go (i+1) l:=by
    rcases J with rfl | rfl | ⟨rfl,rfl⟩
    ·exact t8 N hb
    ·unfold bC;rw [if_neg N,if_neg (by rw [hb];decide),if_pos (by rw [hb];decide)]
    ·rw [mK N hb,t7 q]
   rw [eq (lA I) M];exact rl O z e _ _ r hd2 q D g
  | nl=>obtain ⟨rfl,D⟩:=U;have I:(bytes t).drop i=10::(Dk z++r):=hd;(have hb:aa t i=10:=by rw [fD,I];rfl);(have M:bC t i l=.go (i+1) (l++[⟨6,⟨#[10]⟩,(i:Int)⟩]):=by rw [mK N hb];unfold cC;rw [q,if_pos rfl]);have y:=rl O z false (i+1) (l++[⟨6,⟨#[10]⟩,(i:Int)⟩]) r hd2 (by rw [iF];exact wE _) D g;rw [eq (lA I) M,y,List.append_assoc];rfl
end
section
def dz (c:Cx) (s1:St):Prop:=fS (am c (s1.at_-1))=true
def rL (x:ByteArray):Prop:=fS ⟨6,x,0⟩=true∧ci x≠1
theorem rm:rL (⟨#[41]⟩:BA):=⟨by decide +kernel,by decide +kernel⟩
theorem Dl:rL (⟨#[93]⟩:BA):=⟨by decide +kernel,by decide +kernel⟩
theorem Dm:rL (⟨#[125]⟩:BA):=⟨by decide +kernel,by decide +kernel⟩
theorem iG {α:Type} (r:cZ α):bi False (fun _ _=>True) r:=by
 cases r
 ·trivial
 ·trivial
 ·exact fun h=>h
section
variable {c:Cx} (hK:∀ t∈c.toks,KD t)
include hK
theorem yE {s:St} {x:ByteArray} (J:rL x) (h:aE c s x=true):dz c (adv s):=by
 have M:=lm h;unfold aE yJ at h;rw [Bool.and_eq_true,decide_eq_true_eq,Bool.or_eq_true,beq_iff_eq,beq_iff_eq] at h;show fS (am c (s.at_+1-1))=true;rw [Nat.add_sub_cancel];obtain ⟨D,I⟩:=h;(have N:KD (am c s.at_):=by rw [f7 M];exact hK _ (List.getElem_mem M));generalize am c s.at_=t at *;obtain ⟨k,y,p⟩:=t;have I:y=x:=I;subst I;rcases D with D | D
 ·exact absurd (N D) J.2
 ·have D:k=6:=D;subst D;exact J.1
theorem BC {s:St} {x:ByteArray} (D:rL x):bi False (fun _ s1=>dz c s1) (need x c s):=by unfold need;exact bi.ite (fun h=>yE hK D h) fun _=>trivial
omit hK in
theorem rn {s:St} (h:(am c s.at_).kind=1∨(am c s.at_).kind=4∨(am c s.at_).kind=5) (s1:St) (D:s1.at_=s.at_+1):dz c s1:=by unfold dz fS;rw [D,Nat.add_sub_cancel,if_pos h]
omit hK in
theorem BD {s:St} : bi False (fun _ s1=>dz c s1) (bQ c s):=by unfold bQ;exact bi.ite (fun h=>rn (.inl h) _ rfl) fun _=>trivial
theorem nA {part:R Nd} {en:ByteArray} (D:rL en):∀ (g:Nat) (acc:List Nd) (s:St),bi False (fun _ s1=>dz c s1) (aO part en g acc c s)
 | 0,_,_=>fun h=>h
 | g+1,acc,s=>by unfold aO;refine bi.ite (fun h=>yE hK D h) fun _=>(iG _).bind id fun n s1 _=>bi.ite (fun h=>yE hK D h) fun _=>(iG _).bind id fun _ s2 _=>nA D g _ s2
omit hK in
theorem ro {α:Type} {p:R α} {s:St} (h:bi False (fun _ s1=>dz c s1) (p c { s with head:=false })):bi False (fun _ s1=>dz c s1) (bU p c s):=by unfold bU;exact h.bind id fun _ _ h1=>h1
structure L7 (c:Cx) (F:eB):Prop where
 typ:∀ s,bi False (fun _ s1=>dz c s1) (F.typ c s)
 expr:∀ s,bi False (fun _ s1=>dz c s1) (F.expr c s)
 unary:∀ s,bi False (fun _ s1=>dz c s1) (F.unary c s)
variable {F:eB} (hF:L7 c F)
include hF
omit hK in
theorem ud {s:St} (h:dz c s):bi False (fun _ s1=>dz c s1) (cu F c s):=by unfold cu;exact bi.ite (fun _=>hF.typ s) fun _=>h
theorem rp (p:Int) (s:St):bi False (fun _ s1=>dz c s1) (cz F p c s):=
 (iG _).bind id fun _ s1 _=>(nA hK rm F.g [] s1).bind id fun _ _ h2=>(ud hF h2).bind id fun _ _ h3=>h3
theorem IQ (p:Int) (s:St):bi False (fun _ s1=>dz c s1) (mw F p c s):=
 (iG _).bind id fun _ s1 _=>(nA hK rm F.g [] s1).bind id fun _ _ h2=>(ud hF h2).bind id fun _ _ h3=>h3
theorem IR (s:St):bi False (fun _ s1=>dz c s1) (pu F c s):=by unfold pu;refine bi.ite (fun _=>(iG _).bind id fun _ s1 _=>(BC hK rm).bind id fun _ _ h=>h) fun _=>bi.ite (fun _=>(iG _).bind id fun _ s1 _=>(hF.typ s1).bind id fun _ _ h=>h) fun _=>bi.ite (fun _=>rp hK hF _ _) fun _=>BD.bind id fun x s1 h1=>bi.ite (fun _=>(nA hK Dl F.g [] _).bind id fun _ _ h2=>bi.ite (fun _=>trivial) fun _=>h2) fun _=>h1
omit hF in
theorem mj (p:Int):∀ (g:Nat) (acc:List Nd) (s:St),bi False (fun _ s1=>dz c s1) (ck F p g acc c s)
 | 0,_,_=>fun h=>h
 | g+1,acc,s=>by unfold ck;exact bi.ite (fun h=>yE hK Dm h) fun _=>bi.ite (fun _=>mj p g acc _) fun _=>(iG _).bind id fun n s1 _=>bi.ite (fun _=>mj p g _ _) fun _=>bi.ite (fun _=>mj p g _ _) fun _=>trivial
omit hF in
theorem Ey (s:St):bi False (fun _ s1=>dz c s1) (bm F c s):=
 ro ((iG _).bind id fun _ s1 _=>mj hK _ F.g [] s1)
theorem yF (p:Int) (types:Bool) (s:St):bi False (fun _ s1=>dz c s1) (cN F p types c s):=by unfold cN;exact bi.ite (fun _=>(rp hK hF p s).bind id fun _ _ h=>bi.ite (fun _=>h) fun _=>trivial) fun _=>(IQ hK hF p s).bind id fun _ s1 h=>bi.ite (fun _=>h) fun _=>(Ey hK s1).bind id fun _ _ h=>h
omit hF in
theorem se (t:Nd) (s:St):bi False (fun _ s1=>dz c s1) (cg F t c s):=
 (iG _).bind id fun _ _ _=>(ro (nA hK Dm F.g [] _)).bind id fun _ _ h=>h
theorem CO (types:Bool) (s:St):bi False (fun _ s1=>dz c s1) (eN F types c s):=
 (hF.typ s).bind id fun t s1 h=>bi.ite (fun _=>h) fun _=>se hK t s1
theorem BE (s:St):bi False (fun _ s1=>dz c s1) (cT F c s):=by
 unfold cT;simp only;refine bi.ite (fun h=>rn (.inl h) _ rfl) fun _=>bi.ite (fun h=>rn (.inr (.inl h)) _ rfl) fun _=>bi.ite (fun h=>rn (.inr (.inr h)) _ rfl) fun _=>bi.ite (fun _=>?_) fun _=>bi.ite (fun _=>?_) fun _=>bi.ite (fun _=>?_) fun _=>trivial
 ·exact (iG _).bind id fun _ _ _=>(BC hK rm).bind id fun _ _ h=>h
 ·exact (yF hK hF _ _ _).bind id fun _ _ h=>h
 ·exact (CO hK hF _ _).bind id fun _ _ h=>h
omit hF in
theorem fj:∀ (g:Nat) (x:Nd) (b:Bool) (s:St),dz c s→bi False (fun _ s1=>dz c s1) (aN F g x b c s)
 | 0,_,_,_,_=>fun h=>h
 | g+1,x,b,s,hs=>by
  unfold aN;refine bi.ite (fun _=>?_) fun _=>bi.ite (fun _=>?_) fun _=>bi.ite (fun _=>?_) fun _=>bi.ite (fun _=>?_) fun _=>hs
  ·exact (ro (nA hK rm F.g [] _)).bind id fun l s1 h1=>fj g _ false s1 h1
  ·exact (ro (nA hK Dl F.g [] _)).bind id fun l s1 h1=>bi.ite (fun _=>trivial) fun _=>fj g _ b s1 h1
  ·exact BD.bind id fun y s1 h1=>fj g _ false s1 h1
  ·cases bF x with
   | none=>exact hs
   | some t=>exact (se hK t s).bind id fun n s1 h1=>fj g n false s1 h1
theorem BF (s:St):bi False (fun _ s1=>dz c s1) (dY F c s):=(BE hK hF s).bind id fun _ s1 h=>fj hK F.g _ _ s1 h
theorem wI (s:St):bi False (fun _ s1=>dz c s1) (eX F c s):=by unfold eX;exact bi.ite (fun _=>(hF.unary _).bind id fun _ _ h=>h) fun _=>BF hK hF s
omit hK hF in
theorem wJ (n:Nat) {below:R Nd} (hb:∀ s,bi False (fun _ s1=>dz c s1) (below c s)):∀ (g:Nat) (x:Nd) (s:St),dz c s→bi False (fun _ s1=>dz c s1) (lC n below g x c s)
 | 0,_,_,_=>fun h=>h
 | g+1,x,s,hs=>by unfold lC;exact bi.ite (fun _=>(hb _).bind id fun y s1 h1=>wJ n hb g _ s1 h1) fun _=>hs
theorem yG:∀ n s,bi False (fun _ s1=>dz c s1) (im F n c s)
 | 0,s=>wI hK hF s
 | n+1,s=>(yG n s).bind id fun x s1 h=>wJ (n+1) (yG n) F.g x s1 h
omit hF in
theorem sD:∀ g,L7 c (pv g)
 | 0=>⟨fun _ h=>h,fun _ h=>h,fun _ h=>h⟩
 | g+1=>⟨IR hK (sD g),yG hK (sD g) 5,wI hK (sD g)⟩
end
def Ag (d:Nat) (P Q:Nd→Bool):Prop:=∀ n,et d n→P n=Q n
structure ux (d:Nat) (F G:eF):Prop where
 typ:Ag d F.typ G.typ
 expr:Ag d F.expr G.expr
 block:Ag d F.block G.block
 stmt:Ag d F.stmt G.stmt
 ifS:Ag d F.ifS G.ifS
theorem Ag.refl (d:Nat) (P:Nd→Bool):Ag d P P:=fun _ _=>rfl
theorem rM {d:Nat} {P Q:Nd→Bool} (h:Ag d P Q) {l:List Nd} (D:∀ k∈l,et d k):l.all P=l.all Q:=by
 induction l with
 | nil=>rfl
 | cons x l ih=>rw [List.all_cons,List.all_cons,h x (D x (by simp)),ih (fun k hk=>D k (by simp [hk]))]
inductive LR (d:Nat):List (Nd→Bool)→List (Nd→Bool)→Prop where
 | nil:LR d [] []
 | cons {P Q:Nd→Bool} {l m:List (Nd→Bool)} : Ag d P Q→LR d l m→LR d (P::l) (Q::m)
theorem CP {d:Nat} : ∀ {ps qs:List (Nd→Bool)},LR d ps qs→∀ (ks:List Nd),(∀ k∈ks,et d k)→d7 ps ks=d7 qs ks
 | _,_,.nil,ks,_=>by cases ks <;> rfl
 | _,_,.cons h hs,[],_=>rfl
 | _,_,.cons h hs,k::ks,D=>by unfold d7;rw [h k (D k (by simp)),CP hs ks (fun j hj=>D j (by simp [hj]))]
theorem lR {d:Nat} (k:Int) {ps qs:List (Nd→Bool)} (h:LR d ps qs):Ag (d+1) (ew k ps) (ew k qs):=by intro n hn;unfold ew;rw [CP h n.kids (fun j hj=>hn.kid hj)]
theorem rN {d:Nat} (k:Int) {ps qs:List (Nd→Bool)} (h:LR d ps qs):Ag d (ew k ps) (ew k qs):=by intro n hn;unfold ew;rw [CP h n.kids (fun j hj=>hn.kid' hj)]
theorem oo {d:Nat} {P Q:Nd→Bool} (so:ByteArray→Bool) (h:Ag d P Q):Ag d (fun n=>P (aA so n)) (fun n=>Q (aA so n)):=fun _ hn=>h _ hn.named
theorem ml {d:Nat} {P Q P' Q':Nd→Bool} (h:Ag d P Q) (h':Ag d P' Q'):Ag d (fm P P') (fm Q Q'):=by intro n hn;unfold fm;rw [h n hn,h' n hn]
theorem Dn {d:Nat} {P Q:Nd→Bool} (h:Ag d P Q):Ag d (lY P) (lY Q):=by intro n hn;unfold lY;rw [rM h (fun j hj=>hn.kid' hj)]
section
variable {d:Nat} {F G:eF}
theorem BG (h:ux d F G) (so:ByteArray→Bool):Ag d (o0 F so) (o0 G so):=oo so (rN 8 (.cons h.typ .nil))
theorem IS (h:ux d F G) (so:ByteArray→Bool):Ag d (uj F so) (uj G so):=rN 12 (.cons (Dn (BG h so)) (.cons (ml (Ag.refl d aS) h.typ) .nil))
theorem LK (h:ux d F G) (so:ByteArray→Bool):Ag (d+1) (uj F so) (uj G so):=lR 12 (.cons (Dn (BG h so)) (.cons (ml (Ag.refl d aS) h.typ) .nil))
theorem Ez (h:ux d F G):Ag d (iT F) (iT G):=IS h bj
theorem LM (h:ux d F G):Ag (d+1) (sh F) (sh G):=by intro n hn;unfold sh;rw [rM h.typ (fun j hj=>hn.kid hj),lR 11 (.cons h.typ .nil) n hn,LK h o7 n hn]
theorem LN (h:ux d F G):Ag (d+1) (si F) (si G):=by intro n hn;unfold si;rw [lR 5 (.cons (ml (Ag.refl d aS) h.typ) (.cons (ml (Ag.refl d aS) h.expr) .nil)) (aA bj n) hn.named]
theorem IT (h:ux d F G):Ag d (nI F) (nI G):=by intro n hn;unfold nI;rw [h.expr n hn,h.typ n hn]
theorem BH {n:Nd} (D:et (d+1) n) (i:Nat):∀ k∈n.kids.drop i,et d k:=fun _ hk=>D.kid (List.mem_of_mem_drop hk)
theorem GG {P Q:Nd→Bool} (h:Ag d P Q) {n:Nd} (I:et (d+1) n) (D:0<n.kids.length):P (n.kids.getD 0 bJ)=Q (n.kids.getD 0 bJ):=by rw [List.getD_eq_getElem?_getD,List.getElem?_eq_getElem D];exact h _ (I.kid (List.getElem_mem D))
theorem IU (h:ux d F G):Ag (d+1) (ex F) (ex G):=by
 intro n hn;unfold ex;rw [lR 19 (.cons h.expr .nil) (aA mR n) hn.named,lR 20 (.cons h.expr (.cons h.expr .nil)) (aA lc n) hn.named,rM h.expr (fun j hj=>hn.kid hj),
  lR 23 (.cons h.expr .nil) (aA bj n) hn.named,rM (IT h) (BH hn 1),rM h.expr (BH hn 1),lR 25 (.cons (Ez h) (.cons h.block .nil)) n hn]
 by_cases D:0<n.kids.length
 ·rw [GG h.expr hn D,GG h.typ hn D]
 ·(have I:¬ 1<n.kids.length:=by omega);simp [D,I]
theorem BI (h:ux d F G):Ag (d+1) (lE F) (lE G):=by intro n hn;unfold lE;rw [rM h.stmt (fun j hj=>hn.kid hj)]
theorem Lb (h:ux d F G):Ag (d+1) (IZ F) (IZ G):=lR 30 (.cons h.expr (.cons h.block (.cons (ml (ml (Ag.refl d aS) h.block) h.ifS) .nil)))
theorem GH (h:ux d F G):Ag (d+1) (fP F) (fP G):=oo eE (lR 26 (.cons h.expr .nil))
theorem LO (h:ux d F G):Ag (d+1) (mT F) (mT G):=lR 27 (.cons h.expr (.cons h.expr .nil))
theorem LP (h:ux d F G):Ag (d+1) (mS F) (mS G):=oo oQ (lR 28 (.cons h.expr .nil))
theorem BJ (h:ux d F G):Ag d (nJ F) (nJ G):=by intro n hn;unfold nJ;rw [h.expr n hn]
theorem IV (h:ux d F G):Ag (d+1) (l5 F) (l5 G):=lR 29 (.cons (BJ h) .nil)
theorem EA (h:ux d F G):Ag d (fP F) (fP G):=oo eE (rN 26 (.cons h.expr .nil))
theorem Do (h:ux d F G):Ag d (mT F) (mT G):=rN 27 (.cons h.expr (.cons h.expr .nil))
theorem Dp (h:ux d F G):Ag d (mS F) (mS G):=oo oQ (rN 28 (.cons h.expr .nil))
theorem GI (h:ux d F G):Ag d (l5 F) (l5 G):=rN 29 (.cons (BJ h) .nil)
theorem IW (h:ux d F G):Ag (d+1) (fz F) (fz G):=by
 intro n hn;unfold fz;rw [LN h n hn,GH h n hn,LO h n hn,LP h n hn,IV h n hn,Lb h n hn,BI h n hn,
  lR 31 (.cons (ml (ml (Ag.refl d aS) (EA h)) (ml (Do h) (Dp h))) (.cons (ml (Ag.refl d aS) h.expr) (.cons (ml (ml (Ag.refl d aS) (Do h)) (ml (Dp h) (GI h))) (.cons h.block .nil)))) n hn,
  lR 32 (.cons h.expr (.cons h.block .nil)) (aA ld n) hn.named,lR 33 (.cons (ml (Ag.refl d aS) h.expr) .nil) n hn]
end
theorem fF:∀ d,ux d (lU d) (lU (d+1))
 | 0=>⟨fun _ h=>h.elim,fun _ h=>h.elim,fun _ h=>h.elim,fun _ h=>h.elim,fun _ h=>h.elim⟩
 | d+1=>⟨LM (fF d),IU (fF d),BI (fF d),IW (fF d),Lb (fF d)⟩
end
section
open Go.RowKit Go.Lib Go.Proofs
attribute [local go_sem ↓] Go.wp_at_zero Go.wp_at_succ
def dS:Nat→Nd→Nat
 | 0,_=>0
 | g+1,n=>(n.kids.map (dS g)).foldl max 0+1
theorem rq {b:Nat} : ∀ (l:List Nat) (a:Nat),a≤b→(∀ x∈l,x≤b)→l.foldl max a≤b
 | [],a,h,_=>h
 | x::l,a,h,D=>rq l (max a x) (Nat.max_le.2 ⟨h,D x (by simp)⟩) fun y hy=>D y (by simp [hy])
theorem sE:∀ (g:Nat) (n:Nd),dS g n≤g
 | 0,_=>Nat.le_refl _
 | g+1,n=>by have:=rq (b:=g) (n.kids.map (dS g)) 0 (Nat.zero_le _) (fun x hx=>by obtain ⟨k,_,rfl⟩:=List.mem_map.1 hx;exact sE g k);unfold dS;omega
theorem lS (l:List Nat):∀ a m,l.foldl max a≤m↔a≤m∧∀ x∈l,x≤m:=by
 induction l with
 | nil=>intro a m;simp
 | cons x l ih=>
  intro a m;rw [List.foldl_cons,ih,Nat.max_le];simp only [List.mem_cons,forall_eq_or_imp];constructor
  ·rintro ⟨⟨J,I⟩,D⟩;exact ⟨J,I,D⟩
  ·rintro ⟨J,I,D⟩;exact ⟨⟨J,I⟩,D⟩
theorem ig:∀ (g:Nat) (n:Nd) (m:Nat),dS g n≤m↔∀ x∈bg g n,g+1-x≤m
 | 0,n,m=>by simp [dS,bg]
 | g+1,n,0=>by
  rw [bg,dS];constructor
  ·intro h;omega
  ·intro h;have:=h (g+1) List.mem_cons_self;omega
 | g+1,n,m+1=>by
  rw [bg,dS,Nat.add_le_add_iff_right,lS];constructor
  ·rintro ⟨-,h⟩ x D;rcases List.mem_cons.1 D with rfl | D
   ·omega
   ·obtain ⟨k,I,D⟩:=List.mem_flatMap.1 D;have:=(ig g k m).1 (h _ (List.mem_map.2 ⟨k,I,rfl⟩)) x D;omega
  ·intro h;refine ⟨Nat.zero_le _,fun y hy=>?_⟩;obtain ⟨k,I,rfl⟩:=List.mem_map.1 hy;refine (ig g k m).2 fun x D=>?_;have:=h x (List.mem_cons_of_mem _ (List.mem_flatMap.2 ⟨k,I,D⟩));omega
theorem BK (n:Nd):dS 101 n≤100↔dQ n≤100:=by
 rw [ig,dQ,mm];constructor
 ·intro h;exact ⟨Nat.zero_le _,fun x hx=>by have:=h x hx;omega⟩
 ·rintro ⟨-,h⟩ x hx;have:=h x hx;omega
theorem CQ:∀ (d:Nat) (v:Value) (n:Nd) (w:World),d≤1000→eG w v n→oy d n →
  Calls Tryz.prog 21 #[v,.int .i64 (d:Int)] w fun e w'=>e=.returned (.int .i64 ((dS d n:Nat):Int))∧Below w.heap.size w w':=by
 intro d;induction d with
 | zero=>intro v n w _ hv _;obtain ⟨A,cp,rfl,O⟩:=hv.toC;clear hv O;have D:=(Below.refl w.heap.size w).alloc (Nat.le_refl _) (.cells (nv n A cp) 24);(go_enter Tryz.func21,Tryz.ntmps21);(go_wp2_with fail);go_ret;exact ⟨rfl,D⟩
 | succ d ih=>
  intro v n w hd hv hw;have HV:=hid hv;have HW:=hid hw;have HI:=hid ih;have gb:=hw.1.1;obtain ⟨A,cp,rfl,O⟩:=hv.toC;clear hv O hw ih;have D:=(Below.refl w.heap.size w).alloc (Nat.le_refl _) (.cells (nv n A cp) 24);have M:aj (w.alloc (.cells (nv n A cp) 24)) w.heap.size 24 (nv n A cp):=aj.new w _ _;(have hz:((d:Int)+1==0)=false:=by simp;omega);have hT:=hid (show dS (d+1) n=(n.kids.map (dS d)).foldl max 0+1 from rfl);(go_enter Tryz.func21,Tryz.ntmps21);(go_wp2_with fail);go_loopg [5,6] n.kids.length (fun g1 u5 u6 wr=>∃ (i m:Nat),i≤n.kids.length∧n.kids.length-i≤g1∧u6=.int .i64 (i:Int)∧u5=.int .i64 (m:Int)∧m=((n.kids.take i).map (dS d)).foldl max 0∧m≤d∧Below w.heap.size w wr∧aj wr w.heap.size 24 (nv n A cp))
  case atStart=>exact ⟨0,0,Nat.zero_le _,by omega,rfl,rfl,rfl,Nat.zero_le _,D,M⟩
  case round=>
   clear M D;obtain ⟨i,m,hi,hg,rfl,rfl,y,ga,D,M⟩:=hrel;have z:=hid y;clear y;obtain ⟨x0,x1,x2,x3,-,-,-,-⟩:=ac M;by_cases I:i<n.kids.length
   ·(have N:(i:Int)<(n.kids.length:Int):=by omega);(have h0:(0:Int)≤(i:Int):=by omega);obtain ⟨bp,op,A1,ge,rfl,h⟩:=tQ (av.below HV.out D) i I;have HK:=hid (show max m (dS d n.kids[i])=((n.kids.take (i+1)).map (dS d)).foldl max 0 by rw [List.take_succ_eq_append_getElem I,List.map_append,List.foldl_append,←z.out];rfl);have gd:=sE d n.kids[i];have HC:=hid (HI.out _ n.kids[i] wr (by omega) h.2.2.2.2 (HW.out.2 _ (List.getElem_mem I)));generalize n.kids[i]=x at *;generalize dS d x=q at *;obtain ⟨k0,k1,k2,k3,-⟩:=h;(go_wp2_with fail);refine HC.out.mono ?_;rintro e w2 ⟨rfl,J⟩;have U:=D.trans (J.mono D.size);have b2:=M.below J M.lt;clear J M HC k0 k1 k2 k3 x0 x1 x2 x3;(go_wp2_with fail);go_roundg (n.kids.length-(i+1))
    case measure=>omega
    case rel=>exact ⟨i+1,max m q,by omega,Nat.le_refl _,by go_num,by go_num,HK.out,by omega,U,b2⟩
   ·(have N:¬ (i:Int)<(n.kids.length:Int):=by omega);have HE:=hid (show m+1=dS (d+1) n by rw [hT.out,z.out,List.take_of_length_le (by omega)]);(go_wp2_with fail);go_ret;exact ⟨by rw [←HE.out];go_num,D⟩
end
end Go.Proofs.YtiebcdeafofgdaaGreatDoor
