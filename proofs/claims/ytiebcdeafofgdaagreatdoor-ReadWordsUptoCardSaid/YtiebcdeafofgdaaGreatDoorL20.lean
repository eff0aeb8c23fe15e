/-
  Parts of the proof: Pit Ubin Ppq Cut Pval Pqg Ppa Ppt Ppi Ppj Pqh Ppm. By an AI agent.
-/
import Derived.Test.YtiebcdeafofgdaaGreatDoorL19
import Derived.Test.YtiebcdeafofgdaaGreatDoorL01
import Derived.Test.YtiebcdeafofgdaaGreatDoorL00
import Derived.Test.YtiebcdeafofgdaaGreatDoorL07
import Derived.Test.YtiebcdeafofgdaaGreatDoorL15
import Derived.Lib.IndexBytes
import Derived.Lib.IndexAny
import Derived.Lib.IndexMore
import Derived.Sort.Walk0
import Derived.Shelf.SlSortCmp.Insertion
import Derived.Lib.SlicesCompact
import Derived.Laws.StructEq
namespace Go.Proofs.YtiebcdeafofgdaaGreatDoor
section
open Go.Lib
def lK (k:Int) (x:List UInt8):Bool:=lO ⟨k,eg x,0⟩
def fO:List UInt8→Bool
 | []=>false
 | a::r=>aA (a.toNat:Int)&&r.all fun c=>aG (c.toNat:Int)
def GA:List UInt8→Bool
 | []=>false
 | a::r=>ao (a.toNat:Int)&&r.all fun c=>aG (c.toNat:Int)
def rY:List UInt8→Bool
 | []=>true
 | b::_ => !(aG (b.toNat:Int))
def l5:List UInt8→Bool
 | []=>false
 | b::_ => !(aG (b.toNat:Int))&&(b != 10&&(b != 32&&(b != 9&&(b != 13&&(b != 34&&b != 96)))))
inductive eW (r:List UInt8):Int→List UInt8→Prop where
 | word {x:List UInt8} (h:fO x=true) (hr:rY r=true):eW r (aX (eg x)+1) x
 | num {x:List UInt8} (h:GA x=true) (hr:rY r=true):eW r 4 x
 | text {y:List UInt8} (h:∀ r,aO 34 (y++34::r) false 0=some y.length):eW r 5 (34::y++[34])
 | sign {x:List UInt8} (h:l5 x=true) (hl:pE (x++r)=x.length) (h1:hasPrefix (x++r) [47,47]=false) (h2:hasPrefix (x++r) [47,42]=false):eW r 6 x
def aI:Bool→List It→List UInt8→Prop
 | _,[],_=>True
 | e,.nl::z,r=>e=true∧aI false z r
 | e,.gap b::z,r=>(b=32∨b=9∨(b=10∧e=false))∧aI e z r
 | _,.tok k x::z,r=>eW (dA z++r) k x∧aI (lK k x) z r
def cJ:Nat→List It→List cK
 | _,[]=>[]
 | i,.tok k x::z=>⟨k,eg x,(i:Int)⟩::cJ (i+x.length) z
 | i,.gap _::z=>cJ (i+1) z
 | i,.nl::z=>⟨6,⟨#[10]⟩,(i:Int)⟩::cJ (i+1) z
theorem mG {p:UInt8→Bool} : ∀ (x r:List UInt8),x.all p=true→(∀ b q,r=b::q→p b=false)→(x++r).takeWhile p=x
 | [],r,_,h=>by
  cases r with
  | nil=>rfl
  | cons b q=>rw [List.nil_append,List.takeWhile_cons,h b q rfl];rfl
 | a::x,r,D,h=>by rw [List.all_cons,Bool.and_eq_true] at D;rw [List.cons_append,List.takeWhile_cons,if_pos D.1,mG x r D.2 h]
theorem pF {x r:List UInt8} (I:x.all (fun c=>aG (c.toNat:Int))=true) (D:rY r=true):bP (x++r)=x.length:=by unfold bP;rw [mG x r I];rintro b q rfl;unfold rY at D;simpa using D
section
variable {t:ByteArray} {i:Nat}
theorem eJ:ab t i=(((bytes t).drop i).getD 0 0).toNat:=by rw [oI,List.getD_eq_getElem?_getD,List.getD_eq_getElem?_getD,List.getElem?_drop,Nat.add_zero]
theorem fW {a:UInt8} {r:List UInt8} (h:(bytes t).drop i=a::r):i<t.size:=by
 rcases Nat.lt_or_ge i t.size with D | D
 ·exact D
 ·rw [List.drop_of_length_le (by rw [ck];exact D)] at h;cases h
theorem sM {x r:List UInt8} (h:(bytes t).drop i=x++r) {j:Nat} (D:j=i+x.length):t.extract i j=eg x:=by subst D;apply cj;rw [fr,bN,h,Nat.add_sub_cancel_left,List.take_left]
theorem ET {x r:List UInt8} (h:(bytes t).drop i=x++r):(bytes t).drop (i+x.length)=r:=by rw [←List.drop_drop,h,List.drop_left]
theorem AW {b:UInt8} (h:aA (b.toNat:Int)=true):65≤b.toNat:=by unfold aA at h;simp only [Bool.or_eq_true,Bool.and_eq_true,beq_iff_eq,decide_eq_true_eq] at h;omega
theorem AX {b:UInt8} (h:ao (b.toNat:Int)=true):48≤b.toNat∧b.toNat≤57∧aA (b.toNat:Int)=false:=by unfold ao at h;simp only [Bool.and_eq_true,decide_eq_true_eq] at h;refine ⟨by omega,by omega,?_⟩;unfold aA;(have J:((b.toNat:Int)==95)=false:=by rw [beq_eq_false_iff_ne];omega);(have I:decide (97≤(b.toNat:Int))=false:=by rw [decide_eq_false_iff_not];omega);(have D:decide (65≤(b.toNat:Int))=false:=by rw [decide_eq_false_iff_not];omega);rw [J,I,D];rfl
theorem i8 {b:UInt8} {n:Nat} (D:n<256) (h:b≠UInt8.ofNat n):b.toNat≠n:=by intro e;apply h;apply UInt8.toNat_inj.1;rw [e,UInt8.toNat_ofNat'];omega
theorem oY {l:List cK} (I:hasPrefix ((bytes t).drop i) [47,47]=false) (D:hasPrefix ((bytes t).drop i) [47,42]=false):eI t i l=none:=by unfold eI;rw [show hasPrefix (t.data.toList.drop i) [47,47]=false from I,show hasPrefix (t.data.toList.drop i) [47,42]=false from D];rfl
theorem dW {a b:UInt8} {p r:List UInt8} (h:a.toNat≠b.toNat):hasPrefix (a::r) (b::p)=false:=by unfold hasPrefix;rw [List.isPrefixOf,show (b==a)=false from beq_eq_false_iff_ne.2 fun e=>h (by rw [e])];rfl
theorem CJ {l:List cK} {k:Int} {x r:List UInt8} (hf:¬ (i=0∧hasPrefix (bytes t) [239,187,191]=true)) (hd:(bytes t).drop i=x++r) (h:eW r k x) :
  i<t.size∧dN t i l=.go (i+x.length) (l++[⟨k,eg x,(i:Int)⟩]):=by
 unfold dN;rw [if_neg hf];cases h with
 | word D hr=>
  cases x with
  | nil=>cases D
  | cons a y=>have q:=D;unfold fO at D;rw [Bool.and_eq_true] at D;(have hb:ab t i=a.toNat:=by rw [eJ,hd];rfl);have M:=AW D.1;(have I:bP (t.data.toList.drop i)=(a::y).length:=by rw [show t.data.toList.drop i=a::y++r from hd];refine pF ?_ hr;rw [List.all_cons,D.2];unfold aG;rw [D.1];rfl);refine ⟨fW hd,?_⟩;rw [hb,if_neg (by omega),if_neg (by omega),oY (by rw [hd];exact dW (by show a.toNat≠47;omega)) (by rw [hd];exact dW (by show a.toNat≠47;omega))];simp only;rw [if_pos D.1,I,sM hd rfl]
 | num D hr=>
  cases x with
  | nil=>cases D
  | cons a y=>unfold GA at D;rw [Bool.and_eq_true] at D;(have hb:ab t i=a.toNat:=by rw [eJ,hd];rfl);have M:=AX D.1;(have I:bP (t.data.toList.drop i)=(a::y).length:=by rw [show t.data.toList.drop i=a::y++r from hd];refine pF ?_ hr;rw [List.all_cons,D.2];unfold aG;rw [D.1];simp);refine ⟨fW hd,?_⟩;rw [hb,if_neg (by omega),if_neg (by omega),oY (by rw [hd];exact dW (by show a.toNat≠47;omega)) (by rw [hd];exact dW (by show a.toNat≠47;omega))];simp only;rw [if_neg (by rw [M.2.2];decide),if_pos D.1,I,sM hd rfl]
 | @text y u=>have J:(bytes t).drop i=34::(y++[34]++r):=hd;(have hb:ab t i=34:=by rw [eJ,J];rfl);refine ⟨fW J,?_⟩;rw [hb,if_neg (by decide),if_neg (by decide),oY (by rw [J];exact dW (by decide)) (by rw [J];exact dW (by decide))];simp only;rw [if_neg (by decide),if_neg (by decide),if_pos (.inl trivial)];unfold oB;rw [hb,show t.data.toList.drop (i+1)=y++34::r by show (bytes t).drop (i+1)=_;rw [←List.drop_drop,J];simp,u];simp only;(have I:(34::y++[34]).length=y.length+2:=by simp);rw [sM hd (by rw [I];omega),I];rfl
 | sign D hl h1 h2=>
  cases x with
  | nil=>cases D
  | cons a y=>unfold l5 at D;simp only [Bool.and_eq_true,Bool.not_eq_true',bne_iff_ne,ne_eq] at D;obtain ⟨K,U,O,N,n4,n5,n6⟩:=D;(have hb:ab t i=a.toNat:=by rw [eJ,hd];rfl);have j:a.toNat≠10:=i8 (n:=10) (by decide) U;have m2:a.toNat≠32:=i8 (n:=32) (by decide) O;have m3:a.toNat≠9:=i8 (n:=9) (by decide) N;have m4:a.toNat≠13:=i8 (n:=13) (by decide) n4;have m5:a.toNat≠34:=i8 (n:=34) (by decide) n5;have m6:a.toNat≠96:=i8 (n:=96) (by decide) n6;unfold aG at K;rw [Bool.or_eq_false_iff] at K;refine ⟨fW hd,?_⟩;rw [hb,if_neg j,if_neg (by omega),oY (by rw [hd];exact h1) (by rw [hd];exact h2)];simp only;rw [if_neg (by rw [K.1];decide),if_neg (by rw [K.2];decide),if_neg (by omega)];unfold f8;rw [sL,hd,hl,if_neg (by simp),sM hd rfl]
end
theorem CK (k:Int) (x:ByteArray) (p q:Int):lO ⟨k,x,p⟩=lO ⟨k,x,q⟩:=rfl
theorem nA {t:ByteArray} (O:hasPrefix (bytes t) [239,187,191]=false):∀ (z:List It) (e:Bool) (i:Nat) (l:List cK) (r:List UInt8),(bytes t).drop i=dA z++r→cP l=e→aI e z r→∀ g,
  dw t (g+z.length) i l=dw t g (i+(dA z).length) (l++cJ i z)
 | [],e,i,l,r,_,_,_,g=>by show dw t g i l=dw t g (i+0) (l++[]);rw [List.append_nil,Nat.add_zero]
 | a::z,e,i,l,r,hd,j,U,g=>by
  (have N:¬ (i=0∧hasPrefix (bytes t) [239,187,191]=true):=fun h=>by rw [O] at h;exact absurd h.2 (by decide));rw [bX,List.append_assoc] at hd;have M:=ET hd;rw [show g+(a::z).length=g+z.length+1 from rfl,bX,List.length_append,←Nat.add_assoc];cases a with
  | tok k x=>obtain ⟨J,D⟩:=U;obtain ⟨h1,u⟩:=CJ (l:=l) N hd J;rw [nY h1 u,nA O z (lK k x) _ _ r M (by rw [mF];exact CK _ _ _ _) D,List.append_assoc];rfl
  | gap b=>
   obtain ⟨J,D⟩:=U;have I:(bytes t).drop i=b::(dA z++r):=hd;(have hb:ab t i=b.toNat:=by rw [eJ,I];rfl);have K:dN t i l=.go (i+1) l:=by
    rcases J with rfl | rfl | ⟨rfl,rfl⟩
    ·exact wD N hb
    ·unfold dN;rw [if_neg N,if_neg (by rw [hb];decide),if_pos (by rw [hb];decide)]
    ·rw [rX N hb,CI j]
   rw [nY (fW I) K];exact nA O z e _ _ r M j D g
  | nl=>obtain ⟨rfl,D⟩:=U;have I:(bytes t).drop i=10::(dA z++r):=hd;(have hb:ab t i=10:=by rw [eJ,I];rfl);(have K:dN t i l=.go (i+1) (l++[⟨6,⟨#[10]⟩,(i:Int)⟩]):=by rw [rX N hb];unfold dc;rw [j,if_pos rfl]);have q:=nA O z false (i+1) (l++[⟨6,⟨#[10]⟩,(i:Int)⟩]) r M (by rw [mF];exact AV _) D g;rw [nY (fW I) K,q,List.append_assoc];rfl
def cW (l:List UInt8):Bool:=l.all fun b=>decide (0<b.toNat)&&decide (b.toNat<128)
theorem ue {t:ByteArray} (h:cW (bytes t)=true) (j:Nat) (D:j<t.size):0<ab t j∧ab t j<128:=by have I:=List.all_eq_true.1 h _ (List.getElem_mem (show j<(bytes t).length from D));rw [Bool.and_eq_true,decide_eq_true_eq,decide_eq_true_eq] at I;rw [oI,List.getD_eq_getElem?_getD,List.getElem?_eq_getElem (show j<(bytes t).length from D)];exact I
theorem CL {t:ByteArray} {z:List It} (hb:bytes t=dA z) (q:t.size≤65536) (M:cW (bytes t)=true) (K:aI false z []):di t=.toks (dc (cJ 0 z) (t.size:Int)):=by
 have hf:hasPrefix (bytes t) [239,187,191]=false:=by
  cases u:bytes t with
  | nil=>rfl
  | cons a r=>refine dW ?_;have O:=List.all_eq_true.1 M a (by rw [u];simp);rw [Bool.and_eq_true,decide_eq_true_eq,decide_eq_true_eq] at O;show a.toNat≠239;omega
 have J:∀ (z:List It) (e:Bool) (r:List UInt8),aI e z r→z.length≤(dA z).length:=by
  intro z;induction z with
  | nil=>intro e r _;simp
  | cons a z ih=>
   intro e r h;rw [bX,List.length_append,List.length_cons];cases a with
   | tok k x=>
    have N:=ih _ _ h.2;have O:0<x.length:=by
     cases h.1 with
     | word D _=>cases x with
       | nil=>cases D
       | cons _ _=>simp
     | num D _=>cases x with
       | nil=>cases D
       | cons _ _=>simp
     | text _=>simp
     | sign D _ _ _=>cases x with
       | nil=>cases D
       | cons _ _=>simp
    show z.length+1≤x.length+_;omega
   | gap b=>have N:=ih _ _ h.2;show z.length+1≤1+_;omega
   | nl=>have N:=ih _ _ h.2;show z.length+1≤1+_;omega
 have hl:=J z false [] K;(have I:(dA z).length=t.size:=by rw [←hb,ck]);unfold di;rw [if_neg (by omega)];have U:io t=none:=lZ t t.size 0 fun j _ hj=>ue M j hj;rw [U];show tC (dw t (t.size+1) 0 [])=_;rw [show t.size+1=t.size-z.length+1+z.length by omega,nA hf z false 0 [] [] (by rw [List.drop_zero,List.append_nil];exact hb) rfl K,I,Nat.zero_add,dw,if_neg (Nat.lt_irrefl _)];rfl
def cl:List ByteArray:=[(⟨#[43]⟩:BA),(⟨#[45]⟩:BA),(⟨#[42]⟩:BA),(⟨#[47]⟩:BA),(⟨#[37]⟩:BA),(⟨#[61,61]⟩:BA),(⟨#[33,61]⟩:BA),(⟨#[60]⟩:BA),(⟨#[60,61]⟩:BA),(⟨#[62]⟩:BA),(⟨#[62,61]⟩:BA),(⟨#[38,38]⟩:BA),(⟨#[124,124]⟩:BA)]
theorem wE {l sub:List UInt8} {i:Nat} (h:occAt l sub i=true):∃ r,l.drop i=sub++r:=by unfold occAt at h;simp at h;exact ⟨_,(List.prefix_iff_eq_append.1 h).symm⟩
theorem sN {l sub:List UInt8} (h:Lib.contains l sub=true):∃ i,i≤l.length∧occAt l sub i=true:=by
 unfold Lib.contains at h;rw [decide_eq_true_iff] at h;rcases index_spec l sub with ⟨e,_⟩ | ⟨i,_,I,D,_⟩
 ·omega
 ·exact ⟨i,I,D⟩
theorem ru (l:List UInt8) (c:UInt8):Lib.contains l [c]=l.contains c:=by unfold Lib.contains;rw [index_one,contains_iff_indexByte]
theorem ia {p:UInt8→Bool} : ∀ {l r:List UInt8} {c:UInt8},(∀ x∈l,p x=true)→p c=false→(l++c::r).takeWhile p=l
 | [],r,c,_,D=>by simp [D]
 | x::l,r,c,h,D=>by have I:=h x (by simp);rw [List.cons_append,List.takeWhile_cons,if_pos I,ia (fun y hy=>h y (by simp [hy])) D]
theorem wF:∀ i,i≤60→(32::eq)[i]? = some 32→(cl.map (·.data.toList)).contains (((32::eq).drop (i+1)).takeWhile (fun c=>c != 32))=true∨((32::eq).drop (i+1)).takeWhile (fun c=>c != 32)=[]:=by decide +kernel
theorem mV (s:ByteArray):dp s=cl.any fun x=>decide (s=x):=by
 rw [Bool.eq_iff_iff];constructor
 ·intro h;unfold dp at h;rw [Bool.and_eq_true,Bool.and_eq_true,decide_eq_true_iff,Bool.not_eq_true'] at h;obtain ⟨q,M,j⟩:=h;rw [ru] at M;obtain ⟨i,u,U⟩:=sN j;obtain ⟨r,N⟩:=wE U;(have K:(32::eq)[i]? = some 32:=by have:=congrArg (fun l=>l[0]?) N;simpa using this);(have hd:(32::eq).drop (i+1)=s.data.toList++32::r:=by have:=congrArg (fun l=>l.drop 1) N;simpa [List.drop_drop,Nat.add_comm] using this);(have J:∀ x∈s.data.toList,(x != 32)=true:=by intro x D;rw [bne_iff_ne];rintro rfl;rw [List.contains_eq_mem,decide_eq_false_iff_not] at M;exact M D);(have O:(32::eq).length≤60:=by decide +kernel);rcases wF i (by omega) K with I | I
  ·rw [hd,ia J (by decide),List.contains_eq_mem,decide_eq_true_iff,List.mem_map] at I;obtain ⟨x,D,e⟩:=I;rw [List.any_eq_true];refine ⟨x,D,?_⟩;rw [decide_eq_true_iff];apply ByteArray.ext;exact Array.toList_inj.1 e.symm
  ·rw [hd,ia J (by decide)] at I;exact absurd (by apply ByteArray.ext;exact Array.toList_inj.1 I) q
 ·intro h;rw [List.any_eq_true] at h;obtain ⟨x,D,e⟩:=h;rw [decide_eq_true_iff] at e;subst e;(have:∀ x∈cl,dp x=true:=by decide +kernel);exact this s D
theorem oJ:∀ (v:List Nat) (m:Nat),m<10→(∀ x∈v,x<10)→v≠[]→v.getLast? ≠ some 0→cI 10 v m=m::v
 | [],_,_,_,h,_=>absurd rfl h
 | [x],m,K,D,_,J=>by have I:=D x (by simp);have M:x≠0:=fun e=>J (by rw [e];rfl);rw [cI,cI,show (x * 10+m) % 10=m by omega,show (x * 10+m) / 10=x by omega];unfold eN;rw [if_neg M,if_pos I]
 | x::y::v,m,K,D,_,J=>by have I:=D x (by simp);rw [cI,show (x * 10+m) % 10=m by omega,show (x * 10+m) / 10=x by omega,oJ (y::v) x I (fun z hz=>D z (by simp at hz ⊢;exact .inr hz)) (by simp) (by rwa [List.getLast?_cons_cons] at J)]
theorem lw {c:UInt8} (h:cY c=true):dZ c.toNat=some (c.toNat-48)∧c.toNat-48<10∧c.toNat≠95∧UInt8.ofNat (48+(c.toNat-48))=c∧(c≠48→c.toNat-48≠0):=by (have key:∀ n:Fin 256,cY (UInt8.ofNat n.val)=true→dZ (UInt8.ofNat n.val).toNat=some ((UInt8.ofNat n.val).toNat-48)∧(UInt8.ofNat n.val).toNat-48<10∧(UInt8.ofNat n.val).toNat≠95∧UInt8.ofNat (48+((UInt8.ofNat n.val).toNat-48))=UInt8.ofNat n.val∧(UInt8.ofNat n.val≠48→(UInt8.ofNat n.val).toNat-48≠0):=by decide +kernel);have:=key ⟨c.toNat,UInt8.toNat_lt c⟩;simp only [UInt8.ofNat_toNat] at this;exact this h
theorem nB:∀ (l:List UInt8) (v:List Nat) (many:Nat),l.all cY=true→(∀ x∈v,x<10)→v≠[]→v.getLast? ≠ some 0 →
  dX 10 l v false many=some ((l.map fun c=>c.toNat-48).reverse++v,false,many+l.length)
 | [],v,many,_,_,_,_=>rfl
 | c::r,v,many,D,J,K,M=>by rw [List.all_cons,Bool.and_eq_true] at D;obtain ⟨O,I,N,-,-⟩:=lw D.1;rw [dX,if_neg (fun h=>N h.1),O];simp only;rw [if_pos I,oJ v _ I J K M,nB r _ _ D.2 (fun x hx=>by rcases List.mem_cons.1 hx with rfl | hx;exact I;exact J x hx) (by simp) (by cases v with | nil=>exact absurd rfl K | cons y v=>rwa [List.getLast?_cons_cons])];simp;omega
theorem AY {x:ByteArray} (h:cA x=true):lj x=x:=by
 unfold cA at h;rw [Bool.and_eq_true,Bool.or_eq_true,decide_eq_true_eq] at h;obtain ⟨K,h⟩:=h;rcases h with rfl | h
 ·decide +kernel
 ·rw [Bool.and_eq_true,Bool.and_eq_true,decide_eq_true_eq,decide_eq_true_eq,decide_eq_true_eq] at h;obtain ⟨j,h1,N⟩:=h;cases hb:x.data.toList with
  | nil=>exact absurd (cj (x:=x) (y:=(⟨#[]⟩:BA)) hb) j
  | cons a r=>
   rw [hb] at K N;have I:a≠48:=fun e=>N (by rw [e];rfl);have J:a.toNat≠48:=fun e=>I (UInt8.toNat_inj.1 e);have D:pe (a::r)=(10,a::r):=by
    cases r with
    | nil=>rfl
    | cons b r=>rw [pe,if_neg J]
   rw [List.all_cons,Bool.and_eq_true] at K;obtain ⟨d1,U,u,q,O⟩:=lw K.1;(have M:dX 10 (a::r) [] false 0=some ((r.map fun c=>c.toNat-48).reverse++[a.toNat-48],false,1+r.length):=by rw [dX,if_neg (fun h=>u h.1),d1];simp only;rw [if_pos U,cI,eN,if_neg (O I),if_pos U];exact nB r [a.toNat-48] 1 K.2 (fun x hx=>by simp at hx;omega) (by simp) (by simp;exact O I));unfold lj fk;rw [if_neg (by omega),hb,D];simp only;rw [if_neg (by simp;omega),M];simp only;rw [if_neg (by simp;omega),Option.getD_some];apply cj;show (((if _=[] then [0] else _:List Nat)).map fun d=>UInt8.ofNat (48+d)).toArray.toList=_;rw [if_neg (by simp),List.toList_toArray,show bytes x=a::r from hb,List.reverse_append,List.reverse_reverse];show UInt8.ofNat (48+(a.toNat-48))::(r.map fun c=>c.toNat-48).map (fun d=>UInt8.ofNat (48+d))=a::r;rw [q,List.map_map];congr 1;(conv=>rhs;rw [←List.map_id r]);exact List.map_congr_left fun c hc=>(lw (List.all_eq_true.1 K.2 c hc)).2.2.2.1
theorem uh (b:UInt8):(∃ y v,br b=[92,y]∧sj y.toNat=some v∧UInt8.ofNat v=b)∨(br b=[b]∧b.toNat≠92∧b.toNat≠34∧b.toNat≠10)∨(∃ I D v,br b=[92,120,I,D]∧oP 16 [I,D] 0=some v∧UInt8.ofNat v=b):=by
 unfold br;by_cases I:b=34
 ·rw [if_pos I,I];exact .inl ⟨34,34,rfl,rfl,rfl⟩
 rw [if_neg I];by_cases D:b=92
 ·rw [if_pos D,D];exact .inl ⟨92,92,rfl,rfl,rfl⟩
 rw [if_neg D];by_cases J:b=10
 ·rw [if_pos J,J];exact .inl ⟨110,10,rfl,rfl,rfl⟩
 rw [if_neg J];by_cases K:b=9
 ·rw [if_pos K,K];exact .inl ⟨116,9,rfl,rfl,rfl⟩
 rw [if_neg K];split
 ·exact .inr (.inl ⟨rfl,fun e=>D (UInt8.toNat_inj.1 e),fun e=>I (UInt8.toNat_inj.1 e),fun e=>J (UInt8.toNat_inj.1 e)⟩)
 ·refine .inr (.inr ⟨_,_,b.toNat,rfl,?_,UInt8.ofNat_toNat⟩);(have key:∀ n:Fin 256,oP 16 [rp (n.val / 16),rp (n.val % 16)] 0=some n.val:=by decide +kernel);exact key ⟨b.toNat,UInt8.toNat_lt b⟩
theorem oK:∀ (l:List UInt8) (g:Nat),l.length<g→fl g (l.flatMap br)=some l
 | [],g,h=>by obtain ⟨g,rfl⟩:∃ g',g=g'+1:=⟨g-1,by simp at h;omega⟩;rfl
 | b::l,g,h=>by
  obtain ⟨g,rfl⟩:∃ g',g=g'+1:=⟨g-1,by simp at h;omega⟩;have ih:=oK l g (by simpa using h);rw [List.flatMap_cons];rcases uh b with ⟨y,v,e,D,I⟩ | ⟨e,D,I,M⟩ | ⟨K,J,v,e,D,I⟩
  ·rw [e];show fl (g+1) (92::y::l.flatMap br)=_;rw [fl,if_pos (by decide),BG,D];simp only [Option.bind_some];rw [show (y::l.flatMap br).drop 1=l.flatMap br from rfl,ih,I];rfl
  ·rw [e];show fl (g+1) (b::l.flatMap br)=_;rw [fl,if_neg D,if_neg (by omega),ih];rfl
  ·rw [e];show fl (g+1) (92::120::K::J::l.flatMap br)=_;(have hd:mh (K::J::l.flatMap br) 2 16=some v:=by unfold mh;rw [if_pos (by simp)];exact D);rw [fl,if_pos (by decide),BG,show sj (120:UInt8).toNat=none from rfl];simp only;rw [if_pos (by decide),hd];simp only [Option.map_some,Option.bind_some];rw [show (120::K::J::l.flatMap br).drop 3=l.flatMap br from rfl,ih,I];rfl
theorem oL (l:List UInt8):cW (bW l)=true:=by (have key:∀ n:Fin 256,cW (br (UInt8.ofNat n.val))=true:=by decide +kernel);unfold bW cW;rw [List.cons_append,List.all_cons,List.all_append];refine Bool.and_eq_true_iff.2 ⟨by decide,Bool.and_eq_true_iff.2 ⟨?_,by decide⟩⟩;rw [List.all_flatMap,List.all_eq_true];intro b _;have:=key ⟨b.toNat,UInt8.toNat_lt b⟩;simp only [UInt8.ofNat_toNat] at this;exact this
theorem AZ (l:List UInt8):(bW l).length≤4 * l.length+2∧l.length+2≤(bW l).length:=by
 (have key:∀ n:Fin 256,(br (UInt8.ofNat n.val)).length≤4∧1≤(br (UInt8.ofNat n.val)).length:=by decide +kernel);have h:∀ l:List UInt8,(l.flatMap br).length≤4 * l.length∧l.length≤(l.flatMap br).length:=by
  intro l;induction l with
  | nil=>exact ⟨Nat.le_refl _,Nat.le_refl _⟩
  | cons b l ih=>have:=key ⟨b.toNat,UInt8.toNat_lt b⟩;simp only [UInt8.ofNat_toNat] at this;rw [List.flatMap_cons,List.length_append,List.length_cons];omega
 have:=h l;unfold bW;simp only [List.cons_append,List.length_cons,List.length_append,List.length_nil];omega
theorem yI (s:List UInt8) (h:(cut s [44]).2.2=true):s=(cut s [44]).1++44::(cut s [44]).2.1:=by
 unfold cut at h ⊢;split
 ·rename_i D;rw [index_one] at D ⊢;obtain ⟨o,I⟩:=Int.eq_ofNat_of_zero_le D;have K:=(indexByte_some I).1;rw [I];show s=s.take o++44::s.drop (o+1);obtain ⟨M,J⟩:=List.getElem?_eq_some_iff.1 K;rw [←J,List.getElem_cons_drop,List.take_append_drop]
 ·rename_i D;rw [if_neg D] at h;cases h
theorem CM (s:List UInt8) (h:(cut s [44]).2.2=false):(cut s [44]).1=s:=by
 unfold cut at h ⊢;split
 ·rename_i D;rw [if_pos D] at h;cases h
 ·rfl
def yO:List UInt8:=32::bytes mO++[32]
def F2:List UInt8:=32::bytes nf++[32]
def Iz:List UInt8:=32::bytes oN++[32]
def yP (a b:UInt8):Bool:=(a==60&&b==60)||((a==62&&b==62)||((a==38&&b==94)||(a==46&&b==46)))
theorem up {a b c:UInt8} (h:yP a b=false):contains yO (32::[a,b,c]++[32])=false:=by
 cases M:contains yO (32::[a,b,c]++[32]) with
 | false=>rfl
 | true=>exfalso;obtain ⟨k,D,K⟩:=wB M;have J:=rt K;(have D:k<18:=by rw [CH.1] at D;omega);(have key:(List.range 18).all (fun k=>let w:=(yO.drop k).take 5;!(decide (w.length=5)&&(w.getD 0 0==32&&w.getD 4 0==32))||yP (w.getD 1 0) (w.getD 2 0))=true:=by decide +kernel);have I:=List.all_eq_true.1 key k (List.mem_range.2 D);rw [show (yO.drop k).take 5=[32,a,b,c,32] from J] at I;simp [h] at I
def BE (a b:UInt8):Bool := !(yP a b)&&(!(contains F2 [32,a,b,32])&&contains Iz [32,a,32])
def ID (a b:UInt8):Bool := !(yP a b)&&contains F2 [32,a,b,32]
theorem Bf {a b:UInt8} (h:BE a b=true) (r:List UInt8):pE (a::b::r)=1:=by
 unfold BE at h;simp only [Bool.and_eq_true,Bool.not_eq_true'] at h;obtain ⟨K,J,I⟩:=h;unfold pE;rw [if_neg,if_neg,if_pos]
 ·exact ⟨by simp,I⟩
 ·rintro ⟨-,h⟩;rw [show contains (32::bytes nf++[32]) (32::(a::b::r).take 2++[32])=false from J] at h;cases h
 ·rintro ⟨D,h⟩;cases r with
  | nil=>simp at D
  | cons c r=>rw [show contains (32::bytes mO++[32]) (32::(a::b::c::r).take 3++[32])=false from up K] at h;cases h
theorem Bg {a b:UInt8} (h:ID a b=true) (r:List UInt8):pE (a::b::r)=2:=by
 unfold ID at h;simp only [Bool.and_eq_true,Bool.not_eq_true'] at h;obtain ⟨J,I⟩:=h;unfold pE;rw [if_neg,if_pos]
 ·exact ⟨by simp,I⟩
 ·rintro ⟨D,h⟩;cases r with
  | nil=>simp at D
  | cons c r=>rw [show contains (32::bytes mO++[32]) (32::(a::b::c::r).take 3++[32])=false from up J] at h;cases h
theorem eW.one {a b:UInt8} {r:List UInt8} (h:BE a b=true) (J:l5 [a]=true) (I:a=47→b≠47∧b≠42):eW (b::r) 6 [a]:=by
 refine .sign J (Bf h r) ?_ ?_
 ·show ([47,47]:List UInt8).isPrefixOf (a::b::r)=false;by_cases D:a=47
  ·simp [List.isPrefixOf,Ne.symm (I D).1]
  ·simp [List.isPrefixOf,Ne.symm D]
 ·show ([47,42]:List UInt8).isPrefixOf (a::b::r)=false;by_cases D:a=47
  ·simp [List.isPrefixOf,Ne.symm (I D).2]
  ·simp [List.isPrefixOf,Ne.symm D]
theorem eW.two {a b:UInt8} {r:List UInt8} (h:ID a b=true) (I:l5 [a]=true) (D:a≠47):eW r 6 [a,b]:=by
 refine .sign I (Bg h r) ?_ ?_
 ·exact dW (fun e=>D (UInt8.toNat_inj.1 e))
 ·exact dW (fun e=>D (UInt8.toNat_inj.1 e))
theorem eW.wordK {k:Int} {x r:List UInt8} (I:k=aX (eg x)+1) (h:fO x=true) (D:rY r=true):eW r k x:=by subst I;exact .word h D
def sz:List It→Nat
 | []=>0
 | a::l=>(Im a).length+sz l
theorem F5:∀ l,(dA l).length=sz l
 | []=>rfl
 | a::l=>by rw [bX,List.length_append,F5 l,sz]
theorem co:∀ l m,sz (l++m)=sz l+sz m
 | [],m=>by simp [sz]
 | a::l,m=>by simp [sz,co l m,Nat.add_assoc]
theorem ef:sz []=0:=rfl
theorem ig (b l):sz (cF b::l)=1+sz l:=rfl
theorem fE (l):sz (aY::l)=1+sz l:=rfl
theorem pR (b l):sz (.gap b::l)=1+sz l:=rfl
theorem yZ (l):sz (.nl::l)=1+sz l:=rfl
theorem mb (x l):sz (ik x::l)=x.size+sz l:=rfl
theorem C7 (x l):sz (nK x::l)=x.size+sz l:=rfl
theorem lG (x l):sz (fB x::l)=x.size+sz l:=rfl
mutual
def iM:Nd→Nat
 | .mk _ t l _=>o5 l+(4 * t.size+10000)
def o5:List Nd→Nat
 | []=>0
 | n::l=>iM n+o5 l
end
theorem cX (n:Nd):iM n=o5 n.kids+(4 * n.text.size+10000):=by obtain ⟨k,t,l,a⟩:=n;rw [iM];rfl
theorem pS (s:List It) (f:Nd→List It):∀ l:List Nd,(∀ x∈l,sz (f x)+sz s≤iM x)→sz (bH s (l.map f))≤o5 l
 | [],_=>by simp [bH,sz]
 | [x],h=>by have:=h x (by simp);show sz (f x)≤_;rw [o5];omega
 | x::y::l,h=>by have:=h x (by simp);have ih:=pS s f (y::l) fun z hz=>h z (List.mem_cons_of_mem _ hz);show sz (f x++(s++bH s ((y::l).map f)))≤_;rw [co,co,o5];omega
theorem o6 (f:Nd→List It):∀ l:List Nd,(∀ x∈l,sz (f x)≤iM x)→sz (l.flatMap f)≤o5 l
 | [],_=>by simp [sz]
 | x::l,h=>by have:=h x (by simp);have ih:=o6 f l fun z hz=>h z (List.mem_cons_of_mem _ hz);rw [List.flatMap_cons,co,o5];omega
theorem o7 (n:Nd) (f0 f1 f2 f3:Nd→Nat) (D:f0 eG≤1100∧f1 eG≤1100∧f2 eG≤1100∧f3 eG≤1100) (h:∀ x,f0 x≤iM x∧f1 x≤iM x∧f2 x≤iM x∧f3 x≤iM x) :
  f0 (aJ n 0)+f1 (aJ n 1)+f2 (aJ n 2)+f3 (aJ n 3)≤o5 n.kids+4400:=by
 unfold aJ;rcases n.kids with _ | ⟨a,_ | ⟨b,_ | ⟨c,_ | ⟨d,l⟩⟩⟩⟩
 ·show f0 eG+f1 eG+f2 eG+f3 eG≤_;omega
 ·have:=h a;show f0 a+f1 eG+f2 eG+f3 eG≤_;simp only [o5];omega
 ·have:=h a;have:=h b;show f0 a+f1 b+f2 eG+f3 eG≤_;simp only [o5];omega
 ·have:=h a;have:=h b;have:=h c;show f0 a+f1 b+f2 c+f3 eG≤_;simp only [o5];omega
 ·have:=h a;have:=h b;have:=h c;have:=h d;show f0 a+f1 b+f2 c+f3 d≤_;simp only [o5];omega
theorem C8 (n:Nd) (f:Nd→Nat) (D:f eG≤1100) (h:∀ x,f x≤iM x):f (aJ n 0)+o5 (n.kids.drop 1)≤o5 n.kids+1100:=by
 unfold aJ;cases n.kids with
 | nil=>exact Nat.le_trans (Nat.add_le_add_right D _) (by simp [o5])
 | cons a l=>have:=h a;show f a+o5 l≤_;rw [o5];omega
theorem lA (n:Nd) (f g:Nd→Nat) (I:f eG≤1100) (D:g eG≤1100) (h:∀ x,f x≤iM x) (h':∀ x,g x≤iM x):f (aJ n 0)+g (aJ n 1)≤o5 n.kids+4400:=by have:=o7 n f g (fun _=>0) (fun _=>0) ⟨I,D,by omega,by omega⟩ fun x=>⟨h x,h' x,Nat.zero_le _,Nat.zero_le _⟩;omega
theorem sU (n:Nd) (f:Nd→Nat) (D:f eG≤1100) (h:∀ x,f x≤iM x):f (aJ n 0)≤o5 n.kids+4400:=by have:=lA n f (fun _=>0) D (Nat.zero_le _) h fun _=>Nat.zero_le _;omega
theorem sV:∀ n,sz (i6 n)=n
 | 0=>rfl
 | n+1=>by have:=sV n;show 1+sz (i6 n)=_;omega
theorem Fa (x:ByteArray):sz (fC x)≤x.size+1:=by
 unfold fC;split
 ·exact Nat.zero_le _
 ·exact Nat.le_refl _
theorem C9 (x:ByteArray):(bW (bytes x)).length≤4 * x.size+2:=by
 have:∀ l:List UInt8,(l.flatMap br).length≤4 * l.length:=by
  intro l;induction l with
  | nil=>exact Nat.le_refl _
  | cons b l ih=>(have:(br b).length≤4:=by unfold br;(repeat' split);all_goals simp);rw [List.flatMap_cons,List.length_append,List.length_cons];omega
 have:=this (bytes x);rw [ck] at this;unfold bW;show (_++[34]).length+1≤_;rw [List.length_append];show _+1+1≤_;omega
theorem Da (x:ByteArray):sz (fi x)≤x.size+6:=by
 unfold fi;split
 ·exact Nat.zero_le _
 ·split
  ·rename_i h;have:=congrArg List.length (yI x.data.toList h);rw [List.length_append,List.length_cons,ck x] at this;show (eK x).1.length+(1+(1+((eK x).2.1.length+4)))≤_;unfold eK;omega
  ·rename_i h;have:=CM x.data.toList (by simpa [eK] using h);show (eK x).1.length+4≤_;unfold eK;rw [this];show x.size+4≤_;omega
def Io (f:Nd→List It):Prop:=sz (f eG)=0∧∀ n,sz (f n)+100≤iM n
theorem Io.le {f:Nd→List It} (h:Io f) (n:Nd):sz (f (aJ n 0))≤o5 n.kids+4400:=sU _ (fun x=>sz (f x)) (by rw [h.1];omega) fun x=>by have:=h.2 x;omega
theorem pT {f:Nd→List It} (h:Io f) (n:Nd):sz (fK f n)+5000≤iM n:=by (have D:∀ x:Nd,sz (bH bo (x.kids.map fun p=>fC p.text++f (aJ p 0)))≤iM x:=fun x=>by (have:=pS bo (fun p=>fC p.text++f (aJ p 0)) x.kids fun p _=>by have:=h.le p;have:=Fa p.text;have:=cX p;rw [co];show _+2≤_;omega);have:=cX x;omega);(have:=lA n (fun x=>sz (bH bo (x.kids.map fun p=>fC p.text++f (aJ p 0)))) (fun x=>sz (f x)) (Nat.zero_le _) (by rw [h.1];omega) D fun x=>by have:=h.2 x;omega);have:=cX n;unfold fK;split <;> simp only [ef,co,ig,fE] <;> omega
theorem uw {f:Nd→List It} (h:Io f) (n:Nd):sz (iF f n)+5000≤iM n:=by (have:=pS [aY,cF 124,aY] (fun t=>lY t.text++f (aJ t 0)) n.kids fun p _=>by have:=h.le p;have:=cX p;(have:sz (lY p.text)≤1:=by unfold lY;split <;> simp [sz,Im,cF]);rw [co];show _+3≤_;omega);have:=cX n;unfold iF;simp only [ef,co,ig,fE,lG,show ((⟨#[105,110,116,101,114,102,97,99,101]⟩:BA).size=9) from rfl];omega
theorem Db {f:Nd→List It} (h:∀ n,sz (f n)+100≤iM n) (l:List Nd):sz (mT f l)≤o5 l+2:=by
 (have:=pS bo f l fun p _=>by have:=h p;show _+2≤_;omega);unfold mT;split
 ·exact Nat.zero_le _
 ·simp only [ef,co,ig];omega
theorem Dc:∀ d,Io (az d)
 | 0=>⟨rfl,fun n=>by have:=cX n;show 0+100≤_;omega⟩
 | d+1=>by have ih:=Dc d;refine ⟨rfl,fun n=>?_⟩;have:=cX n;have:=ih.le n;have:=pT ih n;have:=uw ih n;have:=Db ih.2 n.kids;unfold az;(repeat' split);all_goals (try simp only [ig,mb,lG,show ((⟨#[102,117,110,99]⟩:BA).size=4) from rfl]);omega
end
section
abbrev TK:=Int × ByteArray
section
variable {c:Cx} {s:St} {l r:List TK} {t:TK}
end
theorem ug (x:ByteArray):eg (bytes x)=x:=cj (bN _)
section
variable {c:Cx} {d:Nat}
end
section
variable {c:Cx} {m:Bool} {head:Bool} {l:List TK} {n:Nd}
end
theorem wG {F:bj} {n:Nd} (h:ay F n=true):16≤n.kind∧n.kind≤25:=by
 unfold ay at h;split at h
 ·omega
 ·split at h
  ·omega
  ·split at h
   ·omega
   ·split at h
    ·omega
    ·split at h
     ·omega
     ·split at h
      ·omega
      ·split at h
       ·omega
       ·split at h
        ·omega
        ·split at h
         ·omega
         ·obtain ⟨l,a,rfl,_⟩:=cD h;exact ⟨by show (16:Int)≤25;omega,by show (25:Int)≤25;omega⟩
section
variable {c:Cx} {d:Nat}
theorem rZ {x:ByteArray} (h:dp x=true):∀ P:ByteArray→Prop,(∀ y∈cl,P y)→P x:=by intro P hP;rw [mV,List.any_eq_true] at h;obtain ⟨y,D,e⟩:=h;rw [decide_eq_true_eq] at e;rw [e];exact hP y D
theorem eB (n:Nd):(an d).typ n=az d n:=by cases d <;> rfl
end
section
variable {c:Cx} {d:Nat}
def ev (F:bj) (n:Nd):Bool:=cB F n||(dT F n||(dS F n||dJ F n))
end
section
variable {c:Cx} {d:Nat}
end
theorem o8 (d:Nat):Io (an d).typ:=by have h:=Dc d;cases d <;> exact h
theorem Dd (d deep:Nat):sz ((an d).block eG deep)≤deep+3:=by
 cases d with
 | zero=>exact Nat.zero_le _
 | succ d=>show sz (cF 123::.gap 10::([]++(i6 deep++[cF 125])))≤_;simp only [ef,co,ig,pR,sV];omega
theorem GU (d deep:Nat) (head:Bool):sz ((an d).expr eG deep head)≤deep+10:=by
 have:=Dd (d-1) deep;cases d with
 | zero=>exact Nat.zero_le _
 | succ d=>show sz (fB (⟨#[102,117,110,99]⟩:BA)::((cF 40::([]++(cF 41::[])))++(aY::(an d).block eG deep)))≤_;simp only [ef,co,ig,fE,lG,show ((⟨#[102,117,110,99]⟩:BA).size=4) from rfl];rw [Nat.add_sub_cancel] at this;omega
theorem IL (d deep:Nat) (head:Bool):sz ((an d).stmt eG deep head)≤deep+3:=by
 cases d with
 | zero=>exact Nat.zero_le _
 | succ d=>exact Dd (d+1) deep
theorem De {p:Prop} [Decidable p] {l m:List It} {c k:Nat} (I:sz l+c≤k) (D:sz m+c≤k):sz (if p then l else m)+c≤k:=by split <;> assumption
def IN (d:Nat):Prop:=∀ deep,deep+d≤1000→(∀ n head,sz ((an d).expr n deep head)+100≤iM n)∧(∀ n,sz ((an d).block n deep)+100≤iM n)∧∀ n head,sz ((an d).stmt n deep head)+1100≤iM n
theorem Df {d deep:Nat} (hd:deep+d≤1000) (hE:∀ n head,sz ((an d).expr n deep head)+100≤iM n) (yes head:Bool):sz (aT (an d) yes eG deep head)≤1100∧∀ x,sz (aT (an d) yes x deep head)≤iM x:=by
 have h:∀ x c,(∀ head,sz ((an d).expr x deep head)+2≤c)→sz (aT (an d) yes x deep head)≤c:=by
  intro x c h;have:=h false;have:=h head;unfold aT;split
  ·simp only [ef,co,ig];omega
  ·omega
 exact ⟨h _ _ fun head=>by have:=GU d deep head;omega,fun x=>h _ _ fun head=>by have:=hE x head;omega⟩
theorem GV {d deep:Nat} (hd:deep+d≤1000) (hE:∀ n head,sz ((an d).expr n deep head)+100≤iM n) (hB:∀ n,sz ((an d).block n deep)+100≤iM n) (n:Nd) (head:Bool):sz (i7 (an d) n deep head)+100≤iM n:=by
 have I:=o8 d;have h:=cX n;have D:=Df hd hE;have q:=Dd d deep;have U:=C9 n.text;have O:=sU n (fun x=>sz (aT (an d) (dK n (aJ n 0)) x deep head)) (D _ _).1 (D _ _).2;have N:=lA n (fun x=>sz (aT (an d) (ft n (aJ n 0)) x deep head)) (fun x=>sz (aT (an d) (ez n (aJ n 1)) x deep head)) (D _ _).1 (D _ _).1 (D _ _).2 (D _ _).2;have M:=C8 n (fun x=>sz (aT (an d) (iw (aJ n 0)) x deep head)) (D _ _).1 (D _ _).2;(have K:=C8 n (fun x=>sz ((an d).typ x)) (by rw [I.1];omega) fun x=>by have:=I.2 x;omega);(have J:=lA n (fun x=>sz (fK (an d).typ x)) (fun x=>sz ((an d).block x deep)) (by have:=pT I eG;rw [show iM eG=10000 from rfl] at this;show 2≤_;omega) (by omega) (fun x=>by have:=pT I x;omega) fun x=>by have:=hB x;omega);have j:=pS bo (dO (an d) deep) (n.kids.drop 1) fun x _=>by
  have:=I.2 x;have:=hE x false;unfold dO;split
  ·show _+2≤_;omega
  ·show _+2≤_;omega
 unfold i7 my dy;(repeat' refine De ?_ ?_);all_goals (try simp only [ef,co,ig,fE,mb,C7,lG,show ((⟨#[102,117,110,99]⟩:BA).size=4) from rfl]);(try simp only [sz,Im,ck]);omega
theorem Dg {d deep:Nat} (hE:∀ n head,sz ((an d).expr n deep head)+100≤iM n) (D:∀ head,sz ((an d).expr eG deep head)≤1100) (n:Nd) (head:Bool):sz (ee (an d) n deep head)+1100≤iM n:=by have I:=cX n;(have h:=lA n (fun x=>sz ((an d).expr x deep head)) (fun x=>sz ((an d).expr x deep head)) (D _) (D _) (fun x=>by have:=hE x head;omega) fun x=>by have:=hE x head;omega);unfold ee;(repeat' split);all_goals (try simp only [ef,co,ig,fE,mb,C7,show ((⟨#[58,61]⟩:BA).size=2) from rfl]);omega
theorem Dh {d deep:Nat} (hd:deep+d+1≤1000) (D:∀ n head,sz ((an d).stmt n (deep+1) head)+1100≤iM n) (n:Nd):sz (nz (an d) n deep)+1100≤iM n:=by have I:=cX n;(have h:=o6 (fun x=>i6 (deep+1)++((an d).stmt x (deep+1) false++[.nl])) n.kids fun x _=>by have:=D x false;simp only [ef,co,sV,yZ];omega);unfold nz;simp only [ef,co,ig,pR,sV];omega
theorem Di {d deep:Nat} (hE:∀ n head,sz ((an d).expr n deep head)+100≤iM n) (I:∀ head,sz ((an d).expr eG deep head)≤1100) (n:Nd):sz (nW (an d) n deep)+1100≤iM n:=by have D:=o8 d;have J:=cX n;(have h:=lA n (fun x=>sz ((an d).typ x)) (fun x=>sz ((an d).expr x deep false)) (by rw [D.1];omega) (I _) (fun x=>by have:=D.2 x;omega) fun x=>by have:=hE x false;omega);unfold nW;(repeat' split);all_goals simp only [ef,co,ig,fE,mb,lG,show ((⟨#[118,97,114]⟩:BA).size=3) from rfl];omega
theorem GW {d deep:Nat} (hd:deep+d+1≤1000) (H:IN d) (n:Nd) (head:Bool):sz (dF (an d) n deep head)+1100≤iM n:=by
 obtain ⟨hE,hB,M⟩:=H deep (by omega);(have D:∀ head,sz ((an d).expr eG deep head)≤1100:=fun head=>by have:=GU d deep head;omega);have b0:=Dd d deep;have u:=IL d deep false;have hw:=cX n;have h5:=Di hE D n;have I:=Dg hE D n head;have h3:=o7 n (fun x=>sz ((an d).expr x deep true)) (fun x=>sz ((an d).block x deep)) (fun x=>sz ((an d).stmt x deep false)) (fun _=>0) ⟨D _,by omega,by omega,by omega⟩ fun x=>⟨by have:=hE x true;omega,by have:=hB x;omega,by have:=M x false;omega,Nat.zero_le _⟩;have hs:=Dg hE D;have J:sz (ee (an d) eG deep true)≤1100:=D true;have h:=o7 n (fun x=>sz (ee (an d) x deep true)) (fun x=>sz ((an d).expr x deep true)) (fun x=>sz (ee (an d) x deep true)) (fun x=>sz ((an d).block x deep)) ⟨J,D _,J,by omega⟩ fun x=>⟨by have:=hs x true;omega,by have:=hE x true;omega,by have:=hs x true;omega,by have:=hB x;omega⟩;(have O:=sU n (fun x=>sz ((an d).expr x deep false)) (D _) fun x=>by have:=hE x false;omega);have U:=Da n.text;have N:=Dh hd (H (deep+1) (by omega)).2.2 n;unfold ee at I;(have hf:sz (rq (an d) n deep)≤sz (ee (an d) (aJ n 0) deep true)+sz ((an d).expr (aJ n 1) deep true)+sz (ee (an d) (aJ n 2) deep true)+5:=by unfold rq;(repeat' split);all_goals simp only [ef,co,ig,fE];omega);have j:sz (if (aJ n 2).kind=0 then [] else aY::fB (⟨#[101,108,115,101]⟩:BA)::aY::(an d).stmt (aJ n 2) deep false)≤sz ((an d).stmt (aJ n 2) deep false)+6:=by
  split
  ·exact Nat.zero_le _
  ·simp only [fE,lG,show ((⟨#[101,108,115,101]⟩:BA).size=4) from rfl];omega
 have K:sz (if (aJ n 0).kind=0 then [] else aY::(an d).expr (aJ n 0) deep false)≤sz ((an d).expr (aJ n 0) deep false)+1:=by
  split
  ·exact Nat.zero_le _
  ·simp only [fE];omega
 (have q:=lA n (fun x=>sz ((an d).expr x deep head)) (fun x=>sz ((an d).expr x deep head)) (D _) (D _) (fun x=>by have:=hE x head;omega) fun x=>by have:=hE x head;omega);unfold dF;(repeat' refine De ?_ ?_);all_goals
  first
  | omega
  | (simp only [ef,co,ig,fE,mb,C7,lG,show ((⟨#[105,102]⟩:BA).size=2) from rfl,show ((⟨#[102,111,114]⟩:BA).size=3) from rfl,show ((⟨#[114,97,110,103,101]⟩:BA).size=5) from rfl,show ((⟨#[114,101,116,117,114,110]⟩:BA).size=6) from rfl,show ((⟨#[98,114,101,97,107]⟩:BA).size=5) from rfl,show ((⟨#[99,111,110,116,105,110,117,101]⟩:BA).size=8) from rfl,show ((⟨#[58,61]⟩:BA).size=2) from rfl];omega)
theorem y5:∀ d,IN d
 | 0=>fun deep _=>⟨fun n _=>by have:=cX n;show 0+100≤_;omega,fun n=>by have:=cX n;show 0+100≤_;omega,fun n _=>by have:=cX n;show 0+1100≤_;omega⟩
 | d+1=>fun deep hd=>by have H:=y5 d;obtain ⟨hE,hB,D⟩:=H deep (by omega);exact ⟨fun n head=>GV (by omega) hE hB n head,fun n=>by have:=Dh (by omega) (H (deep+1) (by omega)).2.2 n;show sz (nz (an d) n deep)+100≤_;omega,fun n head=>GW (by omega) H n head⟩
theorem Dj (d:Nat):sz (fD (an d) eG)=0∧∀ n,sz (fD (an d) n)+100≤iM n:=by have D:=o8 d;refine ⟨D.1,fun n=>?_⟩;have:=D.2 n;have:=uw D n;unfold fD;split <;> omega
theorem GX (d:Nat) (n:Nd):sz (fL (an d) n)+100≤iM n:=by have I:=cX n;have h:=Db (f:=dz (an d)) (fun p=>by have D:=Dj d;(have:=sU p (fun x=>sz (fD (an d) x)) (by rw [D.1];omega) fun x=>by have:=D.2 x;omega);have:=cX p;unfold dz;simp only [fE,mb];omega) n.kids;unfold fL;omega
theorem GY {d:Nat} (hd:d≤1000) (n:Nd):sz (iG (an d) n)+100≤iM n:=by
 have D:=o8 d;have K:=Dj d;obtain ⟨hE,hB,-⟩:=y5 d 0 (by omega);(have M:∀ head,sz ((an d).expr eG 0 head)≤1100:=fun head=>by have:=GU d 0 head;omega);have N:=cX n;have J:=GX d;have I:sz (fL (an d) eG)≤1100:=Nat.zero_le _;have j:=o7 n (fun x=>sz (fL (an d) x)) (fun x=>sz (fK (an d).typ x)) (fun x=>sz ((an d).block x 0)) (fun _=>0) ⟨I,by have:=pT D eG;rw [show iM eG=10000 from rfl] at this;show 2≤_;omega,by have:=Dd d 0;omega,by omega⟩ fun x=>⟨by have:=J x;omega,by have:=pT D x;omega,by have:=hB x;omega,Nat.zero_le _⟩;(have hs:∀ x,sz (nX (an d) x)+100≤iM x:=fun x=>by have:=cX x;(have:=o6 (cE (an d)) x.kids fun f _=>by have:=D.le f;have:=cX f;unfold cE;simp only [ef,co,pR,fE,mb,yZ];omega);unfold nX;simp only [ef,co,pR,fE,ig,lG,show ((⟨#[115,116,114,117,99,116]⟩:BA).size=6) from rfl];omega);(have h:=lA n (fun x=>sz (fL (an d) x)) (fun x=>sz (if x.kind=13 then nX (an d) x else fD (an d) x)) I (by show sz (fD (an d) eG)≤_;rw [K.1];omega) (fun x=>by have:=J x;omega) fun x=>by have:=hs x;have:=K.2 x;split <;> omega);(have U:=lA n (fun x=>sz (fL (an d) x)) (fun x=>sz ((an d).typ x)) I (by rw [D.1];omega) (fun x=>by have:=J x;omega) fun x=>by have:=D.2 x;omega);have O:=Di hE M n;unfold iG;split
 ·simp only [co,fE,mb,lG,show ((⟨#[102,117,110,99]⟩:BA).size=4) from rfl];omega
 ·split
  ·simp only [co,fE,mb,lG,show ((⟨#[116,121,112,101]⟩:BA).size=4) from rfl];omega
  ·split
   ·simp only [co,fE,mb,lG,ig,show ((⟨#[116,121,112,101]⟩:BA).size=4) from rfl];omega
   ·omega
theorem GZ {d:Nat} (hd:d≤1000) (n:Nd):(eg (dA (f9 (an d) n))).size≤iM n:=by have D:=cX n;(have:=o6 (fun x=>.gap 10::(iG (an d) x++[.nl])) n.kids fun x _=>by have:=GY hd x;simp only [ef,co,pR,yZ];omega);show (dA _).length≤_;rw [F5];unfold f9;simp only [fE,mb,lG,yZ,show ((⟨#[112,97,99,107,97,103,101]⟩:BA).size=7) from rfl];omega
end
section
open Go.Lib
theorem un {F:bj} {n:Nd} (h:ev F n=true):26≤n.kind∧n.kind≤29:=by
 unfold ev at h;rw [Bool.or_eq_true,Bool.or_eq_true,Bool.or_eq_true] at h;rcases h with h | h | h | h
 ·obtain ⟨x,l,a,rfl,_⟩:=aM (by decide) h;exact ⟨by show (26:Int)≤26;omega,by show (26:Int)≤29;omega⟩
 ·obtain ⟨l,a,rfl,_⟩:=cD h;exact ⟨by show (26:Int)≤27;omega,by show (27:Int)≤29;omega⟩
 ·obtain ⟨x,l,a,rfl,_⟩:=aM (by decide) h;exact ⟨by show (26:Int)≤28;omega,by show (28:Int)≤29;omega⟩
 ·obtain ⟨l,a,rfl,_⟩:=cD h;exact ⟨by show (26:Int)≤29;omega,by show (29:Int)≤29;omega⟩
section
variable {c:Cx} {d:Nat}
end
end
end Go.Proofs.YtiebcdeafofgdaaGreatDoor
