/-
  Parts of the proof: Ppv Ppw Ppx Ppy Ppz Pqa. By an AI agent.
-/
import Derived.Test.YtiebcdeafofgdaaGreatDoorL20
namespace Go.Proofs.YtiebcdeafofgdaaGreatDoor
section
open Go.Lib
def eX:Bool→List It→Bool
 | e,[]=>e
 | _,.tok k x::z=>eX (lK k x) z
 | e,.gap _::z=>eX e z
 | _,.nl::z=>eX false z
theorem aI.app:∀ {a b:List It} {e:Bool} {r:List UInt8},aI e a (dA b++r)→aI (eX e a) b r→aI e (a++b) r
 | [],_,_,_,_,h=>h
 | .tok k x::a,b,e,r,D,I=>by refine ⟨?_,aI.app D.2 I⟩;show eW (dA (a++b)++r) k x;rw [dx,List.append_assoc];exact D.1
 | .gap c::a,b,e,r,D,I=>⟨D.1,aI.app D.2 I⟩
 | .nl::a,b,e,r,D,I=>⟨D.1,aI.app D.2 I⟩
theorem bY:∀ (a b:List It) (e:Bool),eX e (a++b)=eX (eX e a) b
 | [],_,_=>rfl
 | .tok k x::a,b,_=>bY a b (lK k x)
 | .gap _::a,b,e=>bY a b e
 | .nl::a,b,_=>bY a b false
def eM (r:List UInt8):Prop:=∃ b q,r=b::q∧aG (b.toNat:Int)=false
theorem eM.stop {r:List UInt8} (h:eM r):rY r=true:=by obtain ⟨b,q,rfl,h⟩:=h;show (!aG (b.toNat:Int))=true;rw [h];rfl
def pJ (a:UInt8):Bool:=a==40||(a==41||(a==91||(a==93||(a==123||(a==125||(a==44||(a==59||a==126)))))))
theorem yQ {a:UInt8} (h:pJ a=true) (b:UInt8):BE a b=true∧l5 [a]=true∧a≠47∧aG (a.toNat:Int)=false:=by (have key:∀ b:Fin 256,∀ a∈([40,41,91,93,123,125,44,59,126]:List UInt8),BE a (UInt8.ofNat b.val)=true:=by decide +kernel);(have D:∀ a∈([40,41,91,93,123,125,44,59,126]:List UInt8),l5 [a]=true∧a≠47∧aG (a.toNat:Int)=false:=by decide +kernel);(have I:a∈([40,41,91,93,123,125,44,59,126]:List UInt8):=by unfold pJ at h;simpa [Bool.or_eq_true,beq_iff_eq] using h);have:=key ⟨b.toNat,b.toNat_lt⟩ a I;exact ⟨by simpa using this,D a I⟩
theorem eM.sg {a:UInt8} (h:pJ a=true) (q:List UInt8):eM (a::q):=⟨a,q,rfl,(yQ h 0).2.2.2⟩
theorem eM.sp (q:List UInt8):eM (32::q):=⟨32,q,rfl,by decide +kernel⟩
section
variable {e:Bool} {z:List It} {r:List UInt8}
theorem ie {a:UInt8} (K:pJ a=true) (D:dA z++r≠[]) (I:aI (lK 6 [a]) z r):aI e (cF a::z) r:=by
 refine ⟨?_,I⟩;cases J:dA z++r with
 | nil=>exact absurd J D
 | cons b q=>obtain ⟨O,N,M,_⟩:=yQ K b;exact .one O N fun h=>absurd h M
theorem dG (D:aI e z r):aI e (aY::z) r:=⟨.inl rfl,D⟩
theorem uq {l:List UInt8} (h:bL l=true) (J:l≠[]):fO l=true:=by
 cases l with
 | nil=>exact absurd rfl J
 | cons a l=>unfold bL at h;rw [Bool.and_eq_true] at h;unfold fO;(have I:∀ b:Fin 256,fo (UInt8.ofNat b.val)=true→aA (((UInt8.ofNat b.val).toNat:Nat):Int)=true:=by decide +kernel);(have D:∀ b:Fin 256,(fo (UInt8.ofNat b.val)||cY (UInt8.ofNat b.val))=true→aG (((UInt8.ofNat b.val).toNat:Nat):Int)=true:=by decide +kernel);rw [Bool.and_eq_true];refine ⟨by have:=I ⟨a.toNat,a.toNat_lt⟩;simpa using this (by simpa using h.1),List.all_eq_true.2 fun b hb=>?_⟩;have hb:=List.all_eq_true.1 h.2 b hb;have:=D ⟨b.toNat,b.toNat_lt⟩;simpa using this (by simpa using hb)
theorem mW {x:ByteArray} (D:aw x=true):fO (bytes x)=true∧aX (eg (bytes x))=0:=by unfold aw cz at D;rw [Bool.and_eq_true,Bool.and_eq_true,Bool.and_eq_true,decide_eq_true_eq,decide_eq_true_eq,decide_eq_true_eq] at D;obtain ⟨_,K,J,I⟩:=D;rw [ug];refine ⟨?_,I⟩;exact uq K fun h=>J (cj h)
theorem pK {x:ByteArray} (I:aw x=true) (hs:eM (dA z++r)) (D:aI true z r):aI e (ik x::z) r:=by obtain ⟨K,J⟩:=mW I;exact ⟨.wordK (by rw [J];rfl) K hs.stop,D⟩
theorem r5 {x:ByteArray} (D:fO (bytes x)=true∧aX (eg (bytes x))=1) (hs:eM (dA z++r)) (I:aI (lK 2 (bytes x)) z r):aI e (fB x::z) r:=
 ⟨.wordK (by rw [D.2];rfl) D.1 hs.stop,I⟩
end
structure Pc (l:List It):Prop where
 ok:∀ e r,eM r→aI e l r
 fin:∀ e,eX e l=true
 hd:∃ b q,dA l=b::q
theorem Pc.app {a b:List It} (D:Pc a) (hb:Pc b) (h:∀ r,eM r→eM (dA b++r)):Pc (a++b):=by refine ⟨fun e r hr=>aI.app (D.ok e _ (h r hr)) (hb.ok _ r hr),fun e=>by rw [bY,hb.fin],?_⟩;obtain ⟨b',q,I⟩:=D.hd;exact ⟨b',q++dA b,by rw [dx,I];rfl⟩
theorem wN (s:List It) (hs:∀ e r,aI e s r) (D:∀ z,eM (dA s++z)):∀ (L:List (List It)),(∀ l∈L,Pc l)→∀ e r,eM r→aI e (bH s L) r
 | [],_,_,_,_=>trivial
 | [x],h,e,r,I=>(h x (by simp)).ok e r I
 | x::y::L,h,e,r,I=>by show aI e (x++(s++bH s (y::L))) r;refine aI.app ((h x (by simp)).ok e _ ?_) (aI.app (hs _ _) (wN s hs D (y::L) (fun l hl=>h l (by simp [hl])) _ r I));rw [dx,List.append_assoc];exact D _
theorem GE (e:Bool) (r:List UInt8):aI e bo r:=ie (by decide) (by simp [dA];exact fun h=>by cases h) (dG trivial)
theorem GF (z:List UInt8):eM (dA bo++z):=eM.sg (a:=44) (by decide) _
theorem pL {a:UInt8} (D:a=41∨a=93∨a=125):lK 6 [a]=true:=by rcases D with rfl | rfl | rfl <;> decide +kernel
theorem sP {o a:UInt8} (M:pJ o=true) (J:a=41∨a=93∨a=125) {L:List (List It)} (N:∀ l∈L,Pc l) {z:List It} (K:∀ r,eM r→aI true z r) (I:eX true z=true) (D:∀ r,eM r→dA z++r≠[]):Pc (cF o::(bH bo L++(cF a::z))):=by
 (have hs:pJ a=true:=by rcases J with rfl | rfl | rfl <;> decide);refine ⟨fun e r hr=>?_,fun e=>?_,⟨o,_,rfl⟩⟩
 ·refine ie M ?_ (aI.app (wN bo GE GF L N _ _ (eM.sg hs _)) (ie hs (D r hr) ?_))
  ·rw [dx,bX];show (_++(a::_))++_≠[];simp
  ·rw [pL J];exact K r hr
 ·show eX (lK 6 [o]) (bH bo L++(cF a::z))=true;rw [bY];show eX (lK 6 [a]) z=true;rw [pL J];exact I
theorem stp_ne {z:List It} {r:List UInt8} (D:eM r):dA z++r≠[]:=by obtain ⟨b,q,rfl,_⟩:=D;simp
def Hd (l:List It):Prop:=∃ b q,dA l=b::q∧(b≠61∧b≠62∧b≠45)
theorem yR {b:UInt8} (h:aG (b.toNat:Int)=true):b≠61∧b≠62∧b≠45:=by refine ⟨?_,?_,?_⟩ <;> (rintro rfl;revert h;decide)
theorem mp {x:ByteArray} (I:aw x=true) (z:List It):Hd (ik x::z):=by
 have h:=(mW I).1;cases D:bytes x with
 | nil=>rw [D] at h;cases h
 | cons b q=>rw [D] at h;unfold fO at h;rw [Bool.and_eq_true] at h;refine ⟨b,q++dA z,?_,yR (by unfold aG;rw [h.1];rfl)⟩;rw [bX];show bytes x++_=_;rw [D];rfl
theorem Hd.app {a:List It} (h:Hd a) (b:List It):Hd (a++b):=by obtain ⟨c,q,e,h⟩:=h;exact ⟨c,q++dA b,by rw [dx,e];rfl,h⟩
theorem yS {x:ByteArray} (D:aw x=true):Pc [ik x]:=
 ⟨fun e r hr=>pK D hr trivial,fun e=>by show lK 1 (bytes x)=true;rfl,by obtain ⟨b,q,e,_⟩:=mp D [];exact ⟨b,q,e⟩⟩
theorem ly {x:ByteArray} (D:aw x=true) {p:List It} (I:Pc p):Pc (ik x::aY::p):=
 ⟨fun e r hr=>pK D (eM.sp _) (dG (I.ok _ r hr)),fun e=>I.fin _,by obtain ⟨b,q,e,_⟩:=mp D (aY::p);exact ⟨b,q,e⟩⟩
theorem Pc.stp_ne {l:List It} (_:Pc l) {r:List UInt8} (D:eM r):dA l++r≠[]:=Go.Proofs.YtiebcdeafofgdaaGreatDoor.stp_ne D
theorem GG {f:Nd→List It} {n:Nd} (J:∀ p∈(aJ n 0).kids,Pc (fC p.text++f (aJ p 0))) (D:(aJ n 1).kind≠0→Pc (f (aJ n 1))):Pc (fK f n):=by
 unfold fK;refine sP (by decide) (.inl rfl) (fun l hl=>?_) (fun r hr=>?_) ?_ fun r hr=>stp_ne hr
 ·obtain ⟨p,I,rfl⟩:=List.mem_map.1 hl;exact J p I
 ·split
  ·trivial
  ·rename_i h;exact dG ((D h).ok _ r hr)
 ·split
  ·rfl
  ·rename_i h;exact (D h).fin _
theorem wO (f:Nd→List It) (n:Nd) (r:List UInt8):eM (dA (fK f n)++r):=by unfold fK;rw [bX];exact eM.sg (a:=40) (by decide) _
theorem EZ:fO (bytes (⟨#[102,117,110,99]⟩:BA))=true∧aX (eg (bytes (⟨#[102,117,110,99]⟩:BA)))=1:=⟨by decide +kernel,by decide +kernel⟩
theorem yT {l:List It} (D:Pc l) (hs:∀ r,eM (dA l++r)):Pc (fB (⟨#[102,117,110,99]⟩:BA)::l)∧Hd (fB (⟨#[102,117,110,99]⟩:BA)::l):=
 ⟨⟨fun e r hr=>r5 EZ (hs r) (D.ok _ r hr),fun e=>D.fin _,⟨102,_,rfl⟩⟩,⟨102,_,rfl,by decide,by decide,by decide⟩⟩
theorem CQ {F:bj} {f:Nd→List It} {so:ByteArray→Bool} (I:so=aw∨so=dL) (M:∀ n,F.typ n=true→Pc (f n)) {p:Nd} (N:dI F so p=true):Pc (fC p.text++f (aJ p 0)):=by
 obtain ⟨x,l,a,rfl,D,O⟩:=aM (by decide) N;obtain ⟨k,rfl,K⟩:=ec O;show Pc (fC x++f k);unfold fC;split
 ·exact M k K
 ·rename_i J;rcases I with rfl | rfl
  ·exact ly D (M k K)
  ·unfold dL at D;rw [decide_eq_true_eq] at D;exact absurd D J
theorem sQ {F:bj} {f:Nd→List It} {so:ByteArray→Bool} (I:so=aw∨so=dL) (K:∀ n,F.typ n=true→Pc (f n)) {n:Nd} (M:ep F so n=true):Pc (fK f n):=by
 obtain ⟨ps,a1,res,a,rfl,J,D⟩:=wA M;refine GG (fun p hp=>CQ I K (List.all_eq_true.1 J p hp)) fun h=>?_;rcases D with D | D
 ·obtain ⟨a',rfl⟩:=ce D;exact absurd rfl h
 ·exact K res D
theorem CR {f:Nd→List It} {l:List Nd} (J:∀ x∈l,Pc (f x)) (r:List UInt8) (D:eM r):aI true (mT f l) r∧eX true (mT f l)=true∧eM (dA (mT f l)++r):=by
 unfold mT;split
 ·exact ⟨trivial,rfl,D⟩
 ·have:=sP (o:=91) (a:=93) (L:=l.map f) (z:=[]) (by decide) (.inr (.inl rfl)) (fun y hy=>by obtain ⟨x,I,rfl⟩:=List.mem_map.1 hy;exact J x I) (fun _ _=>trivial) rfl (fun r D=>stp_ne D);refine ⟨this.ok _ r D,this.fin _,?_⟩;rw [bX];exact eM.sg (a:=91) (by decide) _
theorem iH:∀ (d:Nat) {n:Nd},(aa d).typ n=true→Pc (az d n)∧Hd (az d n)
 | 0,_,h=>by cases h
 | d+1,n,h=>by
  have I:=typ_kind h;have h:dg (aa d) n=true:=h;have K:∀ n,(aa d).typ n=true→Pc (az d n):=fun n h=>(iH d h).1;unfold dg at h;unfold az;rcases I with I | I | I
  ·rw [if_neg (by omega),if_neg (by omega),if_neg (by omega)];rw [if_pos I,Bool.and_eq_true] at h;have D:=CR (f:=az d) (l:=n.kids) fun x hx=>K x (List.all_eq_true.1 h.2 x hx);refine ⟨⟨fun e r hr=>pK h.1 (D r hr).2.2 (D r hr).1,fun e=>(D [32] (eM.sp [])).2.1,?_⟩,mp h.1 _⟩;obtain ⟨b,q,e,_⟩:=mp h.1 (mT (az d) n.kids);exact ⟨b,q,e⟩
  ·rw [if_pos I];rw [if_neg (by omega),if_pos I] at h;obtain ⟨l,a,rfl,N⟩:=cD h;obtain ⟨k,rfl,J⟩:=ec N;have M:=K k J;refine ⟨⟨fun e r hr=>ie (by decide) (by rw [bX];show (93::_)++r≠[];simp) (ie (by decide) (stp_ne hr) (M.ok _ r hr)),fun e=>M.fin _,⟨91,_,rfl⟩⟩,⟨91,_,rfl,by decide,by decide,by decide⟩⟩
  ·rw [if_neg (by omega),if_pos I];rw [if_neg (by omega),if_neg (by omega),if_pos I] at h;exact yT (sQ (.inr rfl) K h) (wO _ _)
def E0 (n:Nd) (l:List It):Prop:=∃ b q,dA l=b::q∧b≠61∧b≠62∧(n.kind≠20→b=45→n.kind=19∧n.text=(⟨#[45]⟩:BA))
theorem Hd.e {l:List It} (h:Hd l) (n:Nd):E0 n l:=by obtain ⟨b,q,e,J,I,D⟩:=h;exact ⟨b,q,e,J,I,fun _ h=>absurd h D⟩
theorem CS (b:UInt8) (h:b≠61∧b≠62∧b≠45):BE 45 b=true:=by (have key:∀ b:Fin 256,b.val≠61→b.val≠62→b.val≠45→BE 45 (UInt8.ofNat b.val)=true:=by decide +kernel);have:=key ⟨b.toNat,b.toNat_lt⟩ (i8 (n:=61) (by decide) h.1) (i8 (n:=62) (by decide) h.2.1) (i8 (n:=45) (by decide) h.2.2);simpa using this
theorem GH (b:UInt8) (h:b≠61):BE 33 b=true:=by (have key:∀ b:Fin 256,b.val≠61→BE 33 (UInt8.ofNat b.val)=true:=by decide +kernel);have:=key ⟨b.toNat,b.toNat_lt⟩ (i8 (n:=61) (by decide) h);simpa using this
theorem GI (b:UInt8) (h:aG (b.toNat:Int)=true):BE 46 b=true:=by (have key:∀ b:Fin 256,aG (((UInt8.ofNat b.val).toNat:Nat):Int)=true→BE 46 (UInt8.ofNat b.val)=true:=by decide +kernel);have:=key ⟨b.toNat,b.toNat_lt⟩;simpa using this (by simpa using h)
theorem ob {b:UInt8} (N:b≠34) (M:b≠92) (K:b≠10) (r:List UInt8) (k:Nat):aO 34 (b::r) false k=aO 34 r false (k+1):=by have J:b.toNat≠34:=i8 (n:=34) (by decide) N;have I:b.toNat≠92:=i8 (n:=92) (by decide) M;have D:b.toNat≠10:=i8 (n:=10) (by decide) K;rw [aO,if_neg (fun h=>I h.1),if_neg J,if_neg (fun h=>D h.1)]
theorem CT (b:UInt8) (r:List UInt8) (k:Nat):aO 34 (br b++r) false k=aO 34 r false (k+(br b).length):=by
 unfold br;split
 ·rfl
 ·split
  ·rfl
  ·split
   ·rfl
   ·split
    ·rfl
    ·split
     ·rename_i J h2 h3 h4 h5;exact ob J h2 h3 r k
     ·(have key:∀ n:Fin 16,rp n.val≠34∧rp n.val≠92∧rp n.val≠10:=by decide +kernel);have I:=key ⟨b.toNat / 16,by have:=b.toNat_lt;omega⟩;have D:=key ⟨b.toNat % 16,by omega⟩;show aO 34 (rp (b.toNat / 16)::rp (b.toNat % 16)::r) false (k+1+1)=_;rw [ob I.1 I.2.1 I.2.2,ob D.1 D.2.1 D.2.2];rfl
theorem r6:∀ (l:List UInt8) (r:List UInt8) (k:Nat),aO 34 (l.flatMap br++34::r) false k=some (k+(l.flatMap br).length)
 | [],r,k=>by show aO 34 (34::r) false k=_;simp [aO]
 | b::l,r,k=>by rw [List.flatMap_cons,List.append_assoc,CT,r6 l r,List.length_append,Nat.add_assoc]
def E1:List UInt8→Bool
 | [a]=>BE a 32&&(l5 [a])
 | [a,b]=>ID a b&&(l5 [a]&&a != 47)
 | _=>false
theorem GJ {x:List UInt8} (h:E1 x=true) (r:List UInt8):eW (32::r) 6 x:=by
 unfold E1 at h;split at h
 ·rw [Bool.and_eq_true] at h;exact .one h.1 h.2 fun _=>⟨by decide,by decide⟩
 ·rw [Bool.and_eq_true,Bool.and_eq_true] at h;exact .two h.1 h.2.1 (by simpa using h.2.2)
 ·cases h
theorem ur {l:List It} (D:Pc l):Pc (cF 40::(l++[cF 41]))∧Hd (cF 40::(l++[cF 41])):=by have:=sP (o:=40) (a:=41) (L:=[l]) (z:=[]) (by decide) (.inl rfl) (fun y hy=>by obtain rfl:y=l:=(by simpa using hy);exact D) (fun _ _=>trivial) rfl (fun r hr=>stp_ne hr);exact ⟨this,⟨40,_,rfl,by decide,by decide,by decide⟩⟩
theorem GK {x:ByteArray} (I:cA x=true):Pc [.tok 4 (bytes x)]∧Hd [.tok 4 (bytes x)]:=by
 unfold cA at I;rw [Bool.and_eq_true,Bool.or_eq_true,decide_eq_true_eq] at I;obtain ⟨D,h⟩:=I;have J:bytes x≠[]:=by
  rcases h with rfl | h
  ·decide
  ·rw [Bool.and_eq_true,decide_eq_true_eq] at h;exact fun e=>h.1 (cj e)
 cases K:bytes x with
 | nil=>exact absurd K J
 | cons a q=>(have D:(a::q).all cY=true:=by rw [←K];exact D);rw [List.all_cons,Bool.and_eq_true] at D;(have N:aG (a.toNat:Int)=true:=by unfold aG;rw [←dq,D.1,Bool.or_true]);(have M:GA (a::q)=true:=by show (ao (a.toNat:Int)&&q.all fun c=>aG (c.toNat:Int))=true;rw [←dq,D.1,Bool.true_and,List.all_eq_true];intro b hb;unfold aG;rw [←dq,List.all_eq_true.1 D.2 b hb,Bool.or_true]);exact ⟨⟨fun e r hr=>⟨.num M hr.stop,trivial⟩,fun e=>rfl,⟨a,_,rfl⟩⟩,⟨a,_,rfl,yR N⟩⟩
section
variable {d:Nat} (hE:∀ n deep head,(aa d).expr n=true→Pc ((an d).expr n deep head)∧E0 n ((an d).expr n deep head))
include hE
theorem nD {n:Nd} (yes:Bool) (deep:Nat) (head:Bool) (D:(aa d).expr n=true):Pc (aT (an d) yes n deep head)∧(yes=true∧Hd (aT (an d) yes n deep head)∨yes=false∧E0 n (aT (an d) yes n deep head)):=by
 unfold aT;cases yes with
 | true=>rw [if_pos rfl];have:=ur (hE n deep false D).1;exact ⟨this.1,.inl ⟨rfl,this.2⟩⟩
 | false=>rw [if_neg (by decide)];exact ⟨(hE n deep head D).1,.inr ⟨rfl,(hE n deep head D).2⟩⟩
theorem E2 {x:Nd} (deep:Nat) (D:cN (aa d) x=true) (I:(aa d).expr x=true→16≤x.kind):Pc (dO (an d) deep x):=by
 unfold cN at D;rw [Bool.or_eq_true,Bool.and_eq_true,decide_eq_true_eq] at D;unfold dO;rcases D with D | ⟨J,D⟩
 ·have:=I D;rw [if_neg (by omega)];exact (hE x deep false D).1
 ·have:=typ_kind D;rw [if_pos (by omega),eB];exact (iH d D).1
theorem od {n f:Nd} (deep:Nat) (head:Bool) (M:(aa d).expr f=true) {z:List It} (K:Pc z) (I:∀ r,eM (dA z++r)):Pc (aT (an d) (iw f) f deep head++z)∧E0 n (aT (an d) (iw f) f deep head++z):=by
 obtain ⟨N,J⟩:=nD hE (iw f) deep head M;refine ⟨N.app K fun r _=>I r,?_⟩;rcases J with ⟨_,J⟩ | ⟨D,b,q,e,j,U,O⟩
 ·exact (J.app z).e n
 ·unfold iw at D;rw [Bool.or_eq_false_iff,decide_eq_false_iff_not,decide_eq_false_iff_not] at D;exact ⟨b,q++dA z,by rw [dx,e];rfl,j,U,fun _ h=>absurd (O D.2 h).1 D.1⟩
theorem GL (hk:∀ n,(aa d).expr n=true→16≤n.kind) (hB:∀ n deep,(aa d).block n=true→Pc ((an d).block n deep)) {n:Nd} (deep:Nat) (head:Bool) (D:ay (aa d) n=true):Pc (i7 (an d) n deep head)∧E0 n (i7 (an d) n deep head):=by
 have hF:(an d).typ=az d:=funext eB;(have N:∀ (o a:UInt8) (l:List Nd),pJ o=true→(a=41∨a=93∨a=125)→l.all (cN (aa d))=true→Pc (cF o::(bH bo (l.map (dO (an d) deep))++[cF a])):=by intro o a l ho ha j;refine sP ho ha (fun y hy=>?_) (fun _ _=>trivial) rfl fun r J=>stp_ne J;obtain ⟨x,I,rfl⟩:=List.mem_map.1 hy;exact E2 hE deep (List.all_eq_true.1 j x I) (hk x));(have ga:∀ l:List Nd,l.all (aa d).expr=true→l.all (cN (aa d))=true:=by intro l j;rw [List.all_eq_true] at j ⊢;intro x I;unfold cN;rw [j x I];rfl);unfold ay at D;unfold i7;split at D
 ·rename_i h;rw [if_pos h];obtain ⟨x,l,a,rfl,I,K⟩:=aM (by decide) D;have:=GK I;exact ⟨this.1,this.2.e _⟩
 ·split at D
  ·rename_i K h;rw [if_neg K,if_pos h];obtain ⟨x,l,a,rfl,I,_⟩:=aM (by decide) D;exact ⟨⟨fun e r J=>⟨.text (y:=(bytes x).flatMap br) fun r=>by rw [r6,Nat.zero_add],trivial⟩,fun e=>rfl,⟨34,_,rfl⟩⟩,⟨34,_,rfl,by decide,by decide,fun _ h=>absurd h (by decide)⟩⟩
  ·split at D
   ·rename_i K h1 h;rw [if_neg K,if_neg h1,if_pos h];obtain ⟨x,l,a,rfl,I,_⟩:=aM (by decide) D;exact ⟨yS I,(mp I []).e _⟩
   ·split at D
    ·rename_i K h1 h2 h;rw [if_neg K,if_neg h1,if_neg h2,if_pos h];obtain ⟨x,l,a,rfl,I,M⟩:=aM (by decide) D;obtain ⟨y,rfl,hy⟩:=ec M;show Pc (nK x::aT (an d) (dK (Nd.mk 19 x [y] a) y) y deep head)∧E0 _ (nK x::aT (an d) (dK (Nd.mk 19 x [y] a) y) y deep head);obtain ⟨p1,p2⟩:=nD hE (dK (Nd.mk 19 x [y] a) y) deep head hy;unfold d6 at I;rw [Bool.or_eq_true,decide_eq_true_eq,decide_eq_true_eq] at I;have hb:∃ b q,dA (aT (an d) (dK (Nd.mk 19 x [y] a) y) y deep head)=b::q∧b≠61∧(x=(⟨#[45]⟩:BA)→b≠62∧b≠45):=by
      rcases p2 with ⟨_,b,q,e,b1,u,b3⟩ | ⟨J,b,q,e,b1,u,b3⟩
      ·exact ⟨b,q,e,b1,fun _=>⟨u,b3⟩⟩
      ·refine ⟨b,q,e,b1,fun hm=>⟨u,fun gh=>?_⟩⟩;unfold dK at J;rw [Bool.or_eq_false_iff,decide_eq_false_iff_not] at J;obtain ⟨k1,k2⟩:=b3 J.1 gh;have:=J.2;rw [k1,k2] at this;subst hm;exact absurd (show true=false from this) (by decide)
     obtain ⟨b,q,eb,b1,u⟩:=hb;rcases I with rfl | rfl
     ·refine ⟨⟨fun e r J=>⟨?_,p1.ok _ r J⟩,fun e=>p1.fin _,⟨45,_,rfl⟩⟩,⟨45,_,rfl,by decide,by decide,fun _ _=>⟨rfl,rfl⟩⟩⟩;rw [eb];exact .one (a:=45) (CS b ⟨b1,(u rfl).1,(u rfl).2⟩) (by decide +kernel) fun h=>absurd h (by decide)
     ·refine ⟨⟨fun e r J=>⟨?_,p1.ok _ r J⟩,fun e=>p1.fin _,⟨33,_,rfl⟩⟩,⟨33,_,rfl,by decide,by decide,fun _ h=>absurd h (by decide)⟩⟩;rw [eb];exact .one (a:=33) (GH b b1) (by decide +kernel) fun h=>absurd h (by decide)
    ·split at D
     ·rename_i K h1 h2 M h;rw [if_neg K,if_neg h1,if_neg h2,if_neg M,if_pos h];obtain ⟨x,l,a,rfl,I,U⟩:=aM (by decide) D;obtain ⟨y,z,rfl,hy,hz⟩:=il U;obtain ⟨p1,p2⟩:=nD hE (ft (Nd.mk 20 x [y,z] a) y) deep head hy;obtain ⟨q1,q2⟩:=nD hE (ez (Nd.mk 20 x [y,z] a) z) deep head hz;have gb:E1 (bytes x)=true:=rZ I (fun y=>E1 (bytes y)=true) (by decide +kernel);have J:Pc (nK x::aY::aT (an d) (ez (Nd.mk 20 x [y,z] a) z) z deep head):=by
       refine ⟨fun e r J=>⟨GJ gb _,dG (q1.ok _ r J)⟩,fun e=>q1.fin _,?_⟩;rw [bX];show ∃ b q,bytes x++_=b::q;cases hq:bytes x with
       | nil=>rw [hq] at gb;cases gb
       | cons b q=>exact ⟨b,_,rfl⟩
      have ge:Pc (aY::nK x::aY::aT (an d) (ez (Nd.mk 20 x [y,z] a) z) z deep head):=⟨fun e r h=>dG (J.ok e r h),fun e=>J.fin e,⟨32,_,rfl⟩⟩
      refine ⟨p1.app ge fun r _=>eM.sp _,?_⟩;rcases p2 with ⟨_,b,q,e,b1,u,b3⟩ | ⟨_,b,q,e,b1,u,b3⟩
      ·exact ⟨b,_,by rw [dx];erw [e];rfl,b1,u,fun h=>absurd rfl h⟩
      ·exact ⟨b,_,by rw [dx];erw [e];rfl,b1,u,fun h=>absurd rfl h⟩
     ·split at D
      ·rename_i K h1 h2 M U h;rw [if_neg K,if_neg h1,if_neg h2,if_neg M,if_neg U,if_pos h];obtain ⟨k,t,l,a⟩:=n;rw [Bool.and_eq_true,Bool.and_eq_true,decide_eq_true_eq,decide_eq_true_eq] at D;obtain ⟨ht,j,hA⟩:=D;cases l with
       | nil=>exact absurd j (by show ¬ 0<0;omega)
       | cons f args=>have hA:((f::args).all (aa d).expr)=true:=hA;rw [List.all_cons,Bool.and_eq_true] at hA;exact od hE deep head hA.1 (N 40 41 args (by decide) (.inl rfl) (ga _ hA.2)) fun r=>eM.sg (a:=40) (by decide) _
      ·split at D
       ·rename_i K h1 h2 M U h5 h;rw [if_neg K,if_neg h1,if_neg h2,if_neg M,if_neg U,if_neg h5,if_pos h];obtain ⟨k,t,l,a⟩:=n;rw [Bool.and_eq_true,Bool.and_eq_true,Bool.and_eq_true,decide_eq_true_eq,decide_eq_true_eq] at D;obtain ⟨ht,j,hf,hA⟩:=D;cases l with
        | nil=>exact absurd j (by show ¬ 1<0;omega)
        | cons f args=>exact od hE deep head hf (N 91 93 args (by decide) (.inr (.inl rfl)) hA) fun r=>eM.sg (a:=91) (by decide) _
       ·split at D
        ·rename_i K h1 h2 M U h5 h6 h;rw [if_neg K,if_neg h1,if_neg h2,if_neg M,if_neg U,if_neg h5,if_neg h6,if_pos h];obtain ⟨x,l,a,rfl,I,h7⟩:=aM (by decide) D;obtain ⟨f,rfl,hf⟩:=ec h7;refine od hE deep head hf (z:=[cF 46,ik x]) ⟨fun e r J=>⟨?_,pK I J trivial⟩,fun e=>rfl,⟨46,_,rfl⟩⟩ fun r=>⟨46,_,rfl,by decide +kernel⟩;have hw:=(mW I).1;cases hq:bytes x with
         | nil=>rw [hq] at hw;cases hw
         | cons b q=>rw [hq] at hw;unfold fO at hw;rw [Bool.and_eq_true] at hw;show eW (dA [ik x]++r) 6 [46];rw [show dA [ik x]++r=b::(q++r) by show (bytes x++[])++r=_;rw [List.append_nil,hq];rfl];exact .one (GI b (by unfold aG;rw [hw.1];rfl)) (by decide +kernel) fun h=>absurd h (by decide)
        ·split at D
         ·rename_i K h1 h2 M U h5 h6 h7 h;rw [if_neg K,if_neg h1,if_neg h2,if_neg M,if_neg U,if_neg h5,if_neg h6,if_neg h7,if_pos h];obtain ⟨k,t,l,a⟩:=n;rw [Bool.and_eq_true,Bool.and_eq_true,Bool.and_eq_true,Bool.and_eq_true,decide_eq_true_eq,decide_eq_true_eq,decide_eq_true_eq] at D;obtain ⟨ht,j,gi,hT,hA⟩:=D;cases l with
          | nil=>exact absurd j (by show ¬ 0<0;omega)
          | cons T args=>
           have hT:(aa d).typ T=true:=hT;(have O:Pc (my (an d) (.mk k t (T::args) a) deep)∧Hd (my (an d) (.mk k t (T::args) a) deep):=by unfold my;rw [hF];obtain ⟨t1,t2⟩:=iH d hT;exact ⟨t1.app (N 123 125 args (by decide) (.inr (.inr rfl)) (ga _ hA)) fun r _=>eM.sg (a:=123) (by decide) _,t2.app _⟩);split
           ·have:=ur O.1;exact ⟨this.1,this.2.e _⟩
           ·exact ⟨O.1,O.2.e _⟩
         ·rename_i K h1 h2 M U h5 h6 h7 h8;rw [if_neg K,if_neg h1,if_neg h2,if_neg M,if_neg U,if_neg h5,if_neg h6,if_neg h7,if_neg h8];obtain ⟨l,a,rfl,h9⟩:=cD D;obtain ⟨sg,b,rfl,gd,hb⟩:=il h9;rw [hF];have hs:=sQ (.inl rfl) (fun n h=>(iH d h).1) gd;have hb:=hB b deep hb;have gg:Pc (aY::(an d).block b deep):=⟨fun e r h=>dG (hb.ok e r h),fun e=>hb.fin e,⟨32,_,rfl⟩⟩
          (have:=yT (hs.app gg fun r _=>eM.sp _) fun r=>by rw [dx,List.append_assoc];exact wO _ _ _);exact ⟨this.1,this.2.e _⟩
end
theorem sR:∀ (k:Nat) (e:Bool) (r:List UInt8),aI e (i6 k) r∧eX e (i6 k)=e
 | 0,_,_=>⟨trivial,rfl⟩
 | k+1,e,r=>⟨⟨.inr (.inl rfl),(sR k e r).1⟩,(sR k e r).2⟩
theorem sS (q:List UInt8):eM (10::q):=⟨10,q,rfl,by decide +kernel⟩
theorem yU {f:Nd→List It} (k:Nat):∀ (l:List Nd),(∀ x∈l,Pc (f x))→∀ r,aI false (l.flatMap fun x=>i6 k++(f x++[.nl])) r∧eX false (l.flatMap fun x=>i6 k++(f x++[.nl]))=false
 | [],_,_=>⟨trivial,rfl⟩
 | x::l,h,r=>by
  have I:=h x (by simp);have ih:=yU k l (fun y hy=>h y (by simp [hy])) r;have D:∀ r,aI false (i6 k++(f x++[.nl])) r∧eX false (i6 k++(f x++[.nl]))=false:=by
   intro r;refine ⟨aI.app (sR _ _ _).1 (aI.app (I.ok _ _ (sS _)) ?_),?_⟩
   ·rw [I.fin];exact ⟨rfl,trivial⟩
   ·rw [bY,bY];rfl
  rw [List.flatMap_cons];refine ⟨aI.app (D _).1 ?_,?_⟩
  ·rw [(D r).2];exact ih.1
  ·rw [bY,(D r).2,ih.2]
theorem nE:lK 6 [123]=false:=by decide +kernel
theorem CU {F:oX} {n:Nd} (deep:Nat) (h:∀ x∈n.kids,Pc (F.stmt x (deep+1) false)):Pc (nz F n deep):=by
 unfold nz;have hb:=yU (f:=fun x=>F.stmt x (deep+1) false) (deep+1) n.kids h;refine ⟨fun e r hr=>ie (by decide) (by rw [bX];show (10::_)++r≠[];simp) ⟨.inr (.inr ⟨rfl,nE⟩),?_⟩,fun e=>?_,⟨123,_,rfl⟩⟩
 ·rw [nE];refine aI.app (hb _).1 (aI.app (sR _ _ _).1 (ie (by decide) (stp_ne hr) trivial))
 ·show eX (lK 6 [123]) (_++(i6 deep++[cF 125]))=true;rw [bY,bY];exact pL (.inr (.inr rfl))
theorem r7 {l:List It} (h:Pc l):Pc (aY::l):=⟨fun e r hr=>dG (h.ok e r hr),fun e=>h.fin e,⟨32,_,rfl⟩⟩
theorem lc {x:ByteArray} (D:fO (bytes x)=true∧aX (eg (bytes x))=1) {l:List It} (h:Pc l):Pc (fB x::aY::l):=by
 refine ⟨fun e r hr=>r5 D (eM.sp _) (dG (h.ok _ r hr)),fun e=>h.fin _,?_⟩;rw [bX];show ∃ b q,bytes x++_=b::q;cases I:bytes x with
 | nil=>rw [I] at D;cases D.1
 | cons b q=>exact ⟨b,_,rfl⟩
theorem wP (r:List UInt8):eW (32::r) 6 [61]:=.one (by decide +kernel) (by decide +kernel) fun h=>absurd h (by decide)
theorem yV (r:List UInt8):eW r 6 (bytes (⟨#[58,61]⟩:BA)):=eW.two (a:=58) (b:=61) (by decide +kernel) (by decide +kernel) (by decide)
theorem Pc.opt {l z:List It} (D:Pc l) {p:Prop} [Decidable p] (I:¬ p→Pc z):Pc (l++(if p then [] else aY::z)):=by
 split
 ·rw [List.append_nil];exact D
 ·rename_i h;exact D.app (r7 (I h)) fun r _=>eM.sp _
section
variable {d:Nat} (hE:∀ n deep head,(aa d).expr n=true→Pc ((an d).expr n deep head)∧E0 n ((an d).expr n deep head))
include hE
theorem CV {n:Nd} (deep:Nat) (J:fd (aa d) n=true):Pc (nW (an d) n deep):=by
 unfold fd at J;rw [Bool.and_eq_true] at J;obtain ⟨x,l,a,rfl,K,M⟩:=aM (by decide) J.1;obtain ⟨t,v,rfl,I,D⟩:=il M;unfold bI at I D;rw [Bool.or_eq_true] at I D;show Pc (fB (⟨#[118,97,114]⟩:BA)::aY::([ik x]++((if t.kind=0 then [] else aY::(an d).typ t)++(if v.kind=0 then [] else aY::cF 61::aY::(an d).expr v deep false))));rw [←List.append_assoc];refine lc ⟨by decide +kernel,by decide +kernel⟩ (Pc.opt (Pc.opt (yS K) fun h=>?_) fun h=>?_)
 ·rw [eB];rcases I with I | I
  ·obtain ⟨a',rfl⟩:=ce I;exact absurd rfl h
  ·exact (iH d I).1
 ·rcases D with D | D
  ·obtain ⟨a',rfl⟩:=ce D;exact absurd rfl h
  ·have:=(hE v deep false D).1;exact ⟨fun e r hr=>⟨wP _,dG (this.ok _ r hr)⟩,fun e=>this.fin _,⟨61,_,rfl⟩⟩
theorem pM {n:Nd} (deep:Nat) (head:Bool) (D:ev (aa d) n=true):Pc (dF (an d) n deep head):=by
 unfold ev at D;rw [Bool.or_eq_true,Bool.or_eq_true,Bool.or_eq_true] at D;rcases D with D | D | D | D
 ·obtain ⟨x,l,a,rfl,J,K⟩:=aM (by decide) D;obtain ⟨v,rfl,M⟩:=ec K;unfold bA at J;rw [Bool.and_eq_true] at J;have:=(hE v deep head M).1;show Pc (ik x::aY::nK (⟨#[58,61]⟩:BA)::aY::(an d).expr v deep head);exact ly J.1 ⟨fun e r hr=>⟨yV _,dG (this.ok _ r hr)⟩,fun e=>this.fin _,⟨58,_,rfl⟩⟩
 ·obtain ⟨l,a,rfl,K⟩:=cD D;obtain ⟨y,v,rfl,I,M⟩:=il K;have:=(hE v deep head M).1;show Pc ((an d).expr y deep head++(aY::cF 61::aY::(an d).expr v deep head));exact (hE y deep head I).1.app ⟨fun e r hr=>dG ⟨wP _,dG (this.ok _ r hr)⟩,fun e=>this.fin _,⟨32,_,rfl⟩⟩ fun r _=>eM.sp _
 ·obtain ⟨x,l,a,rfl,J,K⟩:=aM (by decide) D;obtain ⟨y,rfl,I⟩:=ec K;unfold eZ at J;rw [Bool.or_eq_true,decide_eq_true_eq,decide_eq_true_eq] at J;show Pc ((an d).expr y deep head++[nK x]);rcases J with rfl | rfl
  ·exact (hE y deep head I).1.app ⟨fun e r hr=>⟨.two (a:=43) (b:=43) (by decide +kernel) (by decide +kernel) (by decide),trivial⟩,fun e=>by show lK 6 (bytes (⟨#[43,43]⟩:BA))=true;decide +kernel,⟨43,_,rfl⟩⟩ fun r _=>⟨43,_,rfl,by decide +kernel⟩
  ·exact (hE y deep head I).1.app ⟨fun e r hr=>⟨.two (a:=45) (b:=45) (by decide +kernel) (by decide +kernel) (by decide),trivial⟩,fun e=>by show lK 6 (bytes (⟨#[45,45]⟩:BA))=true;decide +kernel,⟨45,_,rfl⟩⟩ fun r _=>⟨45,_,rfl,by decide +kernel⟩
 ·obtain ⟨l,a,rfl,K⟩:=cD D;obtain ⟨y,rfl,I⟩:=ec K;unfold fN at I;rw [Bool.and_eq_true] at I;exact (hE y deep head I.2).1
end
theorem CW {p:Prop} [Decidable p] {l:List It} (h:p→Pc l) (e:Bool) (r:List UInt8) (D:eM r):aI e (if p then l else []) r:=by
 split
 ·exact (h ‹_›).ok e r D
 ·trivial
theorem CX {x:ByteArray} (D:fO (bytes x)=true∧aX (eg (bytes x))=1∧lK 2 (bytes x)=true):Pc [fB x]:=by
 refine ⟨fun e r hr=>r5 ⟨D.1,D.2.1⟩ hr trivial,fun e=>D.2.2,?_⟩;rw [bX];show ∃ b q,bytes x++_=b::q;cases I:bytes x with
 | nil=>rw [I] at D;cases D.1
 | cons b q=>exact ⟨b,_,rfl⟩
theorem yW {x:ByteArray} (D:fO (bytes x)=true∧aX (eg (bytes x))=1) {l z:List It} (K:∀ e r,aI e l r) (I:Pc z):Pc (fB x::aY::(l++z)):=by
 refine ⟨fun e r hr=>r5 D (eM.sp _) (dG (aI.app (K _ _) (I.ok _ r hr))),fun e=>?_,?_⟩
 ·show eX (lK 2 (bytes x)) (l++z)=true;rw [bY,I.fin]
 ·rw [bX];show ∃ b q,bytes x++_=b::q;cases J:bytes x with
  | nil=>rw [J] at D;cases D.1
  | cons b q=>exact ⟨b,_,rfl⟩
theorem Pc.sp {l:List It} (h:Pc l) (e:Bool) (r:List UInt8):aI e (l++[aY]) r:=aI.app (h.ok _ _ (eM.sp _)) (dG trivial)
section
variable {d:Nat} (hE:∀ n deep head,(aa d).expr n=true→Pc ((an d).expr n deep head)∧E0 n ((an d).expr n deep head)) (hB:∀ n deep,(aa d).block n=true→Pc ((an d).block n deep))
include hE
theorem yX {n:Nd} (deep:Nat) (D:ev (aa d) n=true):Pc (ee (an d) n deep true):=by rw [←sK _ (un D)];exact pM hE deep true D
theorem E3 {i e p b:Nd} {a:Int} (deep:Nat) (D:ag i=true∨ev (aa d) i=true) (N:ag e=true∨(aa d).expr e=true) (M:ag p=true∨ev (aa d) p=true) (f:Bool) (r:List UInt8):aI f (rq (an d) (.mk 31 (⟨#[]⟩:BA) [i,e,p,b] a) deep) r:=by
 have K:i.kind≠0→Pc (ee (an d) i deep true):=fun h=>by
  rcases D with D | D
  ·obtain ⟨a',rfl⟩:=ce D;exact absurd rfl h
  ·exact yX hE deep D
 have J:p.kind≠0→Pc (ee (an d) p deep true):=fun h=>by
  rcases M with D | D
  ·obtain ⟨a',rfl⟩:=ce D;exact absurd rfl h
  ·exact yX hE deep D
 have I:e.kind≠0→Pc ((an d).expr e deep true):=fun h=>by
  rcases N with D | D
  ·obtain ⟨a',rfl⟩:=ce D;exact absurd rfl h
  ·exact (hE e deep true D).1
 unfold rq;show aI f (if i.kind≠0∨p.kind≠0 then (if i.kind≠0 then ee (an d) i deep true else [])++(cF 59::aY::((if e.kind≠0 then (an d).expr e deep true else [])++(cF 59::aY::(if p.kind≠0 then ee (an d) p deep true++[aY] else [])))) else if e.kind≠0 then (an d).expr e deep true++[aY] else []) r;split
 ·refine aI.app (CW K _ _ (eM.sg (a:=59) (by decide) _)) (ie (by decide) (by rw [bX];show (32::_)++r≠[];simp) (dG ?_));refine aI.app (CW I _ _ (eM.sg (a:=59) (by decide) _)) (ie (by decide) (by rw [bX];show (32::_)++r≠[];simp) (dG ?_));split
  ·rename_i h;exact (J h).sp _ _
  ·trivial
 ·split
  ·rename_i h;exact (I h).sp _ _
  ·trivial
theorem CY {x:ByteArray} (M:be x=true) (e:Bool) (r:List UInt8):aI e (fi x) r:=by
 have _:=hE;unfold fi;split
 ·trivial
 ·rename_i N;unfold be at M;rw [decide_eq_false N,Bool.false_or,Bool.or_eq_true,Bool.and_eq_true,Bool.and_eq_true,Bool.and_eq_true] at M;(have J:∀ {l:List UInt8},aw ⟨l.toArray⟩=true→∀ {e z r},eM (dA z++r)→aI true z r→aI e (.tok 1 l::z) r:=by intro l hl e z r h1 h2;have:=pK (e:=e) hl h1 h2;unfold ik at this;rw [show bytes ⟨l.toArray⟩=l from bN l] at this;exact this);have D:∀ e r,aI e [aY,nK (⟨#[58,61]⟩:BA),aY] r:=fun e r=>dG ⟨yV _,dG trivial⟩;unfold bA at M;rcases M with ⟨O,I,K⟩ | ⟨O,I⟩
  ·rw [Bool.and_eq_true] at K;rw [if_pos O];exact J I (eM.sg (a:=44) (by decide) _) (ie (by decide) (by show (32::_)++r≠[];simp) (dG (J K.1 (eM.sp _) (D _ _))))
  ·rw [Bool.and_eq_true] at I;rw [if_neg (by simpa using O)];exact J I.1 (eM.sp _) (D _ _)
include hB
theorem F3 (M:∀ n deep,(aa d).ifS n=true→Pc ((an d).stmt n deep false)) (I:∀ n deep,(aa d).block n=true→(an d).stmt n deep false=(an d).block n deep) {n:Nd} (deep:Nat) (K:uL (aa d) n=true):Pc (dF (an d) n deep false):=by
 obtain ⟨l,a,rfl,N⟩:=cD K;obtain ⟨x,b,o,rfl,J,hb,D⟩:=AU N;unfold bI at D;rw [Bool.or_eq_true,Bool.or_eq_true] at D;show Pc (fB (⟨#[105,102]⟩:BA)::aY::((an d).expr x deep true++(aY::((an d).block b deep++(if o.kind=0 then [] else aY::fB (⟨#[101,108,115,101]⟩:BA)::aY::(an d).stmt o deep false)))));refine lc ⟨by decide +kernel,by decide +kernel⟩ ((hE x deep true J).1.app (r7 (Pc.opt (hB b deep hb) fun h=>?_)) fun r _=>eM.sp _);refine lc ⟨by decide +kernel,by decide +kernel⟩ ?_;rcases D with (D | D) | D
 ·obtain ⟨a',rfl⟩:=ce D;exact absurd rfl h
 ·rw [I o deep D];exact hB o deep D
 ·exact M o deep D
theorem GM (q:∀ n deep,(aa d).ifS n=true→Pc ((an d).stmt n deep false)) (U:∀ n deep,(aa d).block n=true→(an d).stmt n deep false=(an d).block n deep) (j:∀ n deep,(aa d).stmt n=true→Pc ((an d).stmt n deep false)) {n:Nd} (deep:Nat) (D:av (aa d) n=true):Pc (dF (an d) n deep false):=by
 unfold av at D;split at D
 ·rename_i h;unfold dF;rw [if_pos h];exact CV hE deep D
 ·split at D
  ·exact pM hE deep false (by unfold ev;rw [D];rfl)
  ·split at D
   ·exact pM hE deep false (by unfold ev;rw [D,Bool.true_or,Bool.or_true])
   ·split at D
    ·exact pM hE deep false (by unfold ev;rw [D,Bool.true_or,Bool.or_true,Bool.or_true])
    ·split at D
     ·exact pM hE deep false (by unfold ev;rw [D,Bool.or_true,Bool.or_true,Bool.or_true])
     ·split at D
      ·exact F3 hE hB q U deep D
      ·split at D
       ·obtain ⟨l,a,rfl,K⟩:=cD D;obtain ⟨i,e,p,b,rfl,I,N,O,hb⟩:=Gz K;unfold bI at I N O;rw [Bool.or_eq_true,Bool.or_eq_true,Bool.or_eq_true] at I O;rw [Bool.or_eq_true] at N;refine yW (l:=rq (an d) (.mk 31 (⟨#[]⟩:BA) [i,e,p,b] a) deep) ⟨by decide +kernel,by decide +kernel⟩ (E3 hE deep ?_ N ?_) (hB b deep hb)
        ·rcases I with (I | I) | (I | I)
         ·exact .inl I
         ·exact .inr (by unfold ev;rw [I];rfl)
         ·exact .inr (by unfold ev;rw [I,Bool.true_or,Bool.or_true])
         ·exact .inr (by unfold ev;rw [I,Bool.true_or,Bool.or_true,Bool.or_true])
        ·rcases O with (I | I) | (I | I)
         ·exact .inl I
         ·exact .inr (by unfold ev;rw [I,Bool.true_or,Bool.or_true])
         ·exact .inr (by unfold ev;rw [I,Bool.true_or,Bool.or_true,Bool.or_true])
         ·exact .inr (by unfold ev;rw [I,Bool.or_true,Bool.or_true,Bool.or_true])
       ·split at D
        ·obtain ⟨x,l,a,rfl,J,K⟩:=aM (by decide) D;obtain ⟨e,b,rfl,N,hb⟩:=il K;refine yW (l:=fi x) ⟨by decide +kernel,by decide +kernel⟩ (CY hE J) ?_;exact lc ⟨by decide +kernel,by decide +kernel⟩ ((hE e deep true N).1.app (r7 (hB b deep hb)) fun r _=>eM.sp _)
        ·split at D
         ·obtain ⟨l,a,rfl,K⟩:=cD D;obtain ⟨x,rfl,J⟩:=ec K;unfold bI at J;rw [Bool.or_eq_true] at J;show Pc ([fB (⟨#[114,101,116,117,114,110]⟩:BA)]++(if x.kind=0 then [] else aY::(an d).expr x deep false));refine Pc.opt (CX ⟨by decide +kernel,by decide +kernel,by decide +kernel⟩) fun h=>?_;rcases J with J | J
          ·obtain ⟨a',rfl⟩:=ce J;exact absurd rfl h
          ·exact (hE x deep false J).1
         ·split at D
          ·rename_i M;rcases M with M | M
           ·rw [M] at D;obtain ⟨l,a,rfl,K⟩:=cD D;exact CX ⟨by decide +kernel,by decide +kernel,by decide +kernel⟩
           ·rw [M] at D;obtain ⟨l,a,rfl,K⟩:=cD D;exact CX ⟨by decide +kernel,by decide +kernel,by decide +kernel⟩
          ·unfold bm at D;rw [Bool.and_eq_true,Bool.and_eq_true,decide_eq_true_eq] at D;have M:n.kind=36:=D.1;unfold dF;rw [if_neg (by omega),if_neg (by omega),if_neg (by omega),if_neg (by omega),if_neg (by omega),if_neg (by omega),if_neg (by omega),if_neg (by omega),if_neg (by omega),if_neg (by omega),if_neg (by omega)];exact CU deep fun x J=>j x (deep+1) (List.all_eq_true.1 D.2.2 x J)
end
def IQ (d:Nat):Prop:=∀ n deep head,(aa d).expr n=true→Pc ((an d).expr n deep head)∧E0 n ((an d).expr n deep head)
def IR (d:Nat):Prop:=∀ n deep,(aa d).block n=true→Pc ((an d).block n deep)
def IS (d:Nat):Prop:=∀ n deep,(aa d).stmt n=true→Pc ((an d).stmt n deep false)
def IT (d:Nat):Prop:=∀ n deep,(aa d).ifS n=true→Pc ((an d).stmt n deep false)
theorem pN (d:Nat):∀ n deep,(aa d).block n=true→(an d).stmt n deep false=(an d).block n deep:=by
 intro n deep D;cases d with
 | zero=>cases D
 | succ d=>have hb:bm (aa d) n=true:=D;(have I:n.kind=36:=by unfold bm at hb;rw [Bool.and_eq_true,decide_eq_true_eq] at hb;exact hb.1);show dF (an d) n deep false=_;unfold dF;rw [if_neg (by omega),if_neg (by omega),if_neg (by omega),if_neg (by omega),if_neg (by omega),if_neg (by omega),if_neg (by omega),if_neg (by omega),if_neg (by omega),if_neg (by omega),if_neg (by omega)];rfl
theorem yY:∀ (d:Nat) n,(aa d).expr n=true→16≤n.kind
 | 0,_,h=>by cases h
 | _+1,_,h=>(wG h).1
theorem wQ:∀ d,IQ d∧IR d∧IS d∧IT d
 | 0=>⟨fun _ _ _ h=>(by cases h),fun _ _ h=>(by cases h),fun _ _ h=>(by cases h),fun _ _ h=>(by cases h)⟩
 | d+1=>by obtain ⟨hE,hB,I,J⟩:=wQ d;refine ⟨fun n deep head D=>GL hE (yY d) hB deep head D,fun n deep D=>?_,fun n deep D=>GM hE hB J (pN d) I deep D,fun n deep D=>F3 hE hB J (pN d) deep D⟩;have D:bm (aa d) n=true:=D;unfold bm at D;rw [Bool.and_eq_true,Bool.and_eq_true] at D;exact CU deep fun x hx=>I x (deep+1) (List.all_eq_true.1 D.2.2 x hx)
section
variable {d:Nat}
theorem E4 {t:Nd} (I:f5 (aa d) t=true):Pc (lY t.text++az d (aJ t 0)):=by
 obtain ⟨x,l,a,rfl,M,K⟩:=aM (by decide) I;obtain ⟨k,rfl,J⟩:=ec K;have D:=(iH d J).1;show Pc (lY x++az d k);unfold lY;split
 ·exact D
 ·exact ⟨fun e r hr=>ie (by decide) (stp_ne hr) (D.ok _ r hr),fun e=>D.fin _,⟨126,_,rfl⟩⟩
theorem GN (e:Bool) (r:List UInt8):aI e [aY,cF 124,aY] r:=
 dG ⟨.one (by decide +kernel) (by decide +kernel) fun h=>absurd h (by decide),dG trivial⟩
theorem CZ {n:Nd} (I:aV (aa d) n=true):Pc (iF (az d) n):=by
 unfold aV at I;rw [Bool.and_eq_true,Bool.and_eq_true,Bool.and_eq_true] at I;have D:=List.all_eq_true.1 I.2.2.2;unfold iF;have J:fO (bytes (⟨#[105,110,116,101,114,102,97,99,101]⟩:BA))=true∧aX (eg (bytes (⟨#[105,110,116,101,114,102,97,99,101]⟩:BA)))=1:=⟨by decide +kernel,by decide +kernel⟩;refine ⟨fun e r hr=>r5 J (eM.sg (a:=123) (by decide) _) (ie (by decide) (by show (32::_)++r≠[];simp) (dG (aI.app (wN _ GN (fun z=>eM.sp _) _ (fun l hl=>?_) _ _ (eM.sp _)) (dG (ie (by decide) (stp_ne hr) trivial))))),fun e=>?_,⟨105,_,rfl⟩⟩
 ·obtain ⟨t,K,rfl⟩:=List.mem_map.1 hl;exact E4 (D t K)
 ·show eX (lK 6 [123]) (bH _ _++[aY,cF 125])=true;rw [bY];exact pL (.inr (.inr rfl))
theorem wR {n:Nd} (D:(aa d).typ n=true∨aV (aa d) n=true):Pc (fD (an d) n):=by
 unfold fD;rw [show (an d).typ=az d from funext eB];rcases D with D | D
 ·have:=typ_kind D;rw [if_neg (by omega)];exact (iH d D).1
 ·(have I:n.kind=14:=by unfold aV at D;rw [Bool.and_eq_true,decide_eq_true_eq] at D;exact D.1);rw [if_pos I];exact CZ D
theorem wS {n:Nd} (K:aR (aa d) n=true) (r:List UInt8) (J:eM r):aI true (fL (an d) n) r∧eX true (fL (an d) n)=true∧eM (dA (fL (an d) n)++r):=by obtain ⟨l,a,rfl,M⟩:=sJ K;refine CR (f:=dz (an d)) (l:=l) (fun p hp=>?_) r J;obtain ⟨x,q,a',rfl,I,N⟩:=aM (by decide) (List.all_eq_true.1 M p hp);obtain ⟨k,rfl,D⟩:=ec N;refine ly I (wR ?_);unfold bI ey at D;rw [Bool.or_eq_true,Bool.and_eq_true] at D;exact D.imp (·.2) id
theorem GO {n:Nd} (K:aZ (aa d) n=true):Pc (nX (an d) n):=by
 unfold aZ at K;rw [Bool.and_eq_true,Bool.and_eq_true] at K;have I:=List.all_eq_true.1 K.2.2;have D:∀ l:List Nd,(∀ x∈l,eR (aa d) x=true)→∀ r,aI false (l.flatMap (cE (an d))) r∧eX false (l.flatMap (cE (an d)))=false:=by
  intro l;induction l with
  | nil=>exact fun _ _=>⟨trivial,rfl⟩
  | cons x l ih=>
   intro h r;have ih:=ih (fun y J=>h y (by simp [J]));have M:∀ r,aI false (cE (an d) x) r∧eX false (cE (an d) x)=false:=by
    intro r;obtain ⟨y,q,a,rfl,J,U⟩:=aM (by decide) (h x (by simp));obtain ⟨k,rfl,O⟩:=ec U;have N:=ly J (iH d O).1;(have e:cE (an d) (.mk 9 y [k] a)=.gap 9::((ik y::aY::az d k)++[.nl]):=by show .gap 9::ik y::aY::((an d).typ k++[.nl])=_;rw [eB];rfl);rw [e];refine ⟨⟨.inr (.inl rfl),aI.app (N.ok _ _ (sS _)) ?_⟩,?_⟩
    ·rw [N.fin];exact ⟨rfl,trivial⟩
    ·show eX false (_++[.nl])=false;rw [bY];rfl
   rw [List.flatMap_cons];refine ⟨aI.app (M _).1 ?_,?_⟩
   ·rw [(M r).2];exact (ih r).1
   ·rw [bY,(M r).2,(ih r).2]
 unfold nX;refine lc ⟨by decide +kernel,by decide +kernel⟩ ⟨fun e r hr=>ie (by decide) (by show (10::_)++r≠[];simp) ⟨.inr (.inr ⟨rfl,nE⟩),?_⟩,fun e=>?_,⟨123,_,rfl⟩⟩
 ·rw [nE];refine aI.app (D _ I _).1 (ie (by decide) (stp_ne hr) trivial)
 ·show eX (lK 6 [123]) (_++[cF 125])=true;rw [bY];exact pL (.inr (.inr rfl))
theorem sT {x y:ByteArray} (M:fO (bytes x)=true∧aX (eg (bytes x))=1) (J:aw y=true) {l z:List It} (K:∀ r,eM r→aI true l r∧eX true l=true∧eM (dA l++r)) (I:Pc z) (D:∀ r,eM (dA z++r)):Pc (fB x::aY::ik y::(l++z)):=by
 refine lc M ⟨fun e r hr=>pK J ?_ (aI.app (K _ (D r)).1 (I.ok _ r hr)),fun e=>?_,?_⟩
 ·rw [dx,List.append_assoc];exact (K _ (D r)).2.2
 ·show eX true (l++z)=true;rw [bY,I.fin]
 ·obtain ⟨b,q,e,_⟩:=mp J (l++z);exact ⟨b,q,e⟩
theorem GP {n:Nd} (J:a8 (aa d) n=true):Pc (iG (an d) n):=by
 have u:(an d).typ=az d:=funext eB;unfold a8 at J;unfold iG;split at J
 ·rename_i h;rw [if_pos h];obtain ⟨x,l,a,rfl,M,K⟩:=aM (by decide) J;obtain ⟨ps,sg,b,rfl,I,O,hb⟩:=AU K;rw [u];refine sT ⟨by decide +kernel,by decide +kernel⟩ M (wS I) ((sQ (.inl rfl) (fun n h=>(iH d h).1) O).app (r7 ((wQ d).2.1 b 0 hb)) fun r _=>eM.sp _) fun r=>?_;rw [dx,List.append_assoc];exact wO _ _ _
 ·split at J
  ·rename_i K h;rw [if_neg K,if_pos h];obtain ⟨x,l,a,rfl,M,N⟩:=aM (by decide) J;obtain ⟨ps,t,rfl,I,D⟩:=il N;refine sT ⟨by decide +kernel,by decide +kernel⟩ M (wS I) (r7 ?_) fun r=>eM.sp _;show Pc (if t.kind=13 then nX (an d) t else fD (an d) t);unfold bI at D;rw [Bool.or_eq_true,Bool.or_eq_true] at D;rcases D with (D | D) | D
   ·have:=typ_kind D;rw [if_neg (by omega)];exact wR (.inl D)
   ·(have q:t.kind=13:=by unfold aZ at D;rw [Bool.and_eq_true,decide_eq_true_eq] at D;exact D.1);rw [if_pos q];exact GO D
   ·(have q:t.kind=14:=by unfold aV at D;rw [Bool.and_eq_true,decide_eq_true_eq] at D;exact D.1);rw [if_neg (by omega)];exact wR (.inr D)
  ·split at J
   ·rename_i K N h;rw [if_neg K,if_neg N,if_pos h];obtain ⟨x,l,a,rfl,M,U⟩:=aM (by decide) J;obtain ⟨ps,t,rfl,I,D⟩:=il U;rw [u];have j:=(iH d D).1;exact sT ⟨by decide +kernel,by decide +kernel⟩ M (wS I) (r7 ⟨fun e r hr=>⟨wP _,dG (j.ok _ r hr)⟩,fun e=>j.fin _,⟨61,_,rfl⟩⟩) fun r=>eM.sp _
   ·rename_i K N U;rw [if_neg K,if_neg N,if_neg U];exact CV (wQ d).1 0 J
theorem C1 {n:Nd} (I:eT (aa d) n=true) (r:List UInt8):aI false (f9 (an d) n) r∧eX false (f9 (an d) n)=false:=by
 unfold eT at I;rw [Bool.and_eq_true,Bool.and_eq_true] at I;have D:=List.all_eq_true.1 I.2.2;have hd:∀ l:List Nd,(∀ x∈l,a8 (aa d) x=true)→∀ r,aI false (l.flatMap fun x=>.gap 10::(iG (an d) x++[.nl])) r∧eX false (l.flatMap fun x=>.gap 10::(iG (an d) x++[.nl]))=false:=by
  intro l;induction l with
  | nil=>exact fun _ _=>⟨trivial,rfl⟩
  | cons x l ih=>
   intro h r;have ih:=ih (fun y hy=>h y (by simp [hy]));have K:=GP (h x (by simp));have J:∀ r,aI false (.gap 10::(iG (an d) x++[.nl])) r∧eX false (.gap 10::(iG (an d) x++[.nl]))=false:=by
    intro r;refine ⟨⟨.inr (.inr ⟨rfl,rfl⟩),aI.app (K.ok _ _ (sS _)) ?_⟩,?_⟩
    ·rw [K.fin];exact ⟨rfl,trivial⟩
    ·show eX false (_++[.nl])=false;rw [bY];rfl
   rw [List.flatMap_cons];refine ⟨aI.app (J _).1 ?_,?_⟩
   ·rw [(J r).2];exact (ih r).1
   ·rw [bY,(J r).2,(ih r).2]
 have h:=hd _ D r;unfold f9;exact ⟨r5 ⟨by decide +kernel,by decide +kernel⟩ (eM.sp _) (dG (pK I.2.1 (sS _) ⟨rfl,h.1⟩)),h.2⟩
end
end
end Go.Proofs.YtiebcdeafofgdaaGreatDoor
