/-
  Parts of the proof: Pqb Pqc Pqd Pqe Pza Pwc Pwd. By an AI agent.
-/
import Derived.Test.YtiebcdeafofgdaaGreatDoorL21
import Derived.Test.YtiebcdeafofgdaaGreatDoorL19
import Derived.Test.YtiebcdeafofgdaaGreatDoorL16
import Derived.Test.YtiebcdeafofgdaaGreatDoorL04
set_option maxRecDepth 100000
set_option maxHeartbeats 8000000
namespace Go.Proofs.YtiebcdeafofgdaaGreatDoor
section
open Go.Lib
def lF:It→Bool
 | .tok k x=>cW x&&(!(dh ⟨k,eg x,0⟩) && !(lr ⟨k,eg x,0⟩))
 | .gap b=>decide (0<b.toNat)&&decide (b.toNat<128)
 | .nl=>true
def Gd (l:List It):Prop:=l.all lF=true
theorem Gd.app {a b:List It} (D:Gd a) (hb:Gd b):Gd (a++b):=by unfold Gd at *;rw [List.all_append,D,hb];rfl
theorem Gd.cons {a:It} {b:List It} (D:lF a=true) (hb:Gd b):Gd (a::b):=by unfold Gd at *;rw [List.all_cons,D,hb];rfl
theorem Gd.nil:Gd []:=rfl
theorem Gd.flat {α:Type} {f:α→List It} : ∀ {l:List α},(∀ x∈l,Gd (f x))→Gd (l.flatMap f)
 | [],_=>rfl
 | x::l,h=>by rw [List.flatMap_cons];exact (h x (by simp)).app (Gd.flat fun y hy=>h y (by simp [hy]))
theorem Gd.sep {s:List It} (hs:Gd s):∀ {L:List (List It)},(∀ l∈L,Gd l)→Gd (bH s L)
 | [],_=>rfl
 | [x],h=>h x (by simp)
 | x::y::L,h=>(h x (by simp)).app (hs.app (Gd.sep hs fun l hl=>h l (by simp [hl])))
theorem Gd.opt {p:Prop} [Decidable p] {a b:List It} (D:p→Gd a) (hb:¬ p→Gd b):Gd (if p then a else b):=by
 split
 ·exact D ‹_›
 ·exact hb ‹_›
theorem pO {l:List UInt8} (h:l.all (fun c=>fo c||cY c)=true):cW l=true:=by (have key:∀ b:Fin 256,(fo (UInt8.ofNat b.val)||cY (UInt8.ofNat b.val))=true→(decide (0<(UInt8.ofNat b.val).toNat)&&decide ((UInt8.ofNat b.val).toNat<128))=true:=by decide +kernel);unfold cW;rw [List.all_eq_true] at h ⊢;intro b hb;have:=key ⟨b.toNat,b.toNat_lt⟩;simpa using this (by simpa using h b hb)
theorem lz {l:List UInt8} (D:aw ⟨l.toArray⟩=true):lF (.tok 1 l)=true:=by
 (have h:bL l=true:=by unfold aw cz at D;rw [Bool.and_eq_true,Bool.and_eq_true] at D;exact D.2.1);have I:cW l=true:=by
  refine pO ?_;cases l with
  | nil=>rfl
  | cons a l=>unfold bL at h;rw [Bool.and_eq_true] at h;rw [List.all_cons,h.1,h.2];rfl
 show (cW l&&(!(dh ⟨1,eg l,0⟩) && !(lr ⟨1,eg l,0⟩)))=true;rw [I];rfl
theorem cM {x:ByteArray} (D:aw x=true):lF (ik x)=true:=lz D
theorem C2 {x:ByteArray} (D:cA x=true):lF (.tok 4 (bytes x))=true:=by
 have I:=AY D;unfold cA at D;rw [Bool.and_eq_true,Bool.or_eq_true,decide_eq_true_eq] at D;have K:cW (bytes x)=true:=pO (by have:=List.all_eq_true.1 D.1;exact List.all_eq_true.2 fun b hb=>by rw [this b hb,Bool.or_true]);show (cW (bytes x)&&(!(dh ⟨4,eg (bytes x),0⟩) && !(lr ⟨4,eg (bytes x),0⟩)))=true;rw [K,ug];have M:lr ⟨4,x,0⟩=false:=by
  cases J:fk x with
  | some y=>show (true&&(fk x).isNone||_)=false;rw [J];rfl
  | none=>
   unfold lj at I;rw [J] at I;have I:(⟨#[]⟩:BA)=x:=I;subst I;rcases D.2 with h | h
   ·exact absurd h (by decide)
   ·exact absurd h (by decide)
 rw [M];rfl
theorem ut {x:ByteArray} (h:x.size≤1000):m9 (eg (bW (bytes x)))=some x:=by
 have J:=AZ (bytes x);rw [ck] at J;(have D:(eg (bW (bytes x))).size=(bW (bytes x)).length:=by rw [←ck,bN]);have hb:(eg (bW (bytes x))).data.toList=bW (bytes x):=bN _;have I:io (eg (bW (bytes x)))=none:=lZ _ _ 0 fun j _ hj=>ue (by rw [bN];exact oL _) j hj;unfold m9;rw [if_neg (by omega),hb,if_neg,if_neg (fun h=>h I),if_pos (by rfl)]
 ·(have e:(bW (bytes x)).extract 1 ((eg (bW (bytes x))).size-1)=(bytes x).flatMap br:=by rw [D];unfold bW;rw [List.extract_eq_take_drop];simp);rw [e,oK _ _ (by rw [ck];omega)];exact congrArg some (cj (bN _))
 ·rintro (h | h)
  ·omega
  ·refine h ?_;unfold bW;rw [List.getLast?_append];rfl
theorem Bh {x:ByteArray} (h:x.size≤1000):lF (.tok 5 (bW (bytes x)))=true:=by show (cW (bW (bytes x))&&(!(dh ⟨5,eg (bW (bytes x)),0⟩) && !(lr ⟨5,eg (bW (bytes x)),0⟩)))=true;rw [oL];(have D:lr ⟨5,eg (bW (bytes x)),0⟩=false:=by show (false||(true&&yv (m9 (eg (bW (bytes x))))))=false;rw [ut h];have I:decide (1000<x.size)=false:=decide_eq_false (by omega);exact I);rw [D];rfl
theorem wT {F:bj} {f:Nd→List It} {so:ByteArray→Bool} (J:so=aw∨so=dL) (N:∀ n,F.typ n=true→Gd (f n)) {n:Nd} (U:ep F so n=true):Gd (fK f n):=by
 obtain ⟨ps,a1,res,a,rfl,K,D⟩:=wA U;unfold fK;refine Gd.cons (by decide +kernel) ((Gd.sep (by unfold Gd;decide +kernel) fun l hl=>?_).app (Gd.cons (by decide +kernel) (Gd.opt (fun _=>rfl) fun h=>Gd.cons (by decide) ?_)))
 ·obtain ⟨p,O,rfl⟩:=List.mem_map.1 hl;obtain ⟨x,l,a,rfl,I,q⟩:=aM (by decide) (List.all_eq_true.1 K p O);obtain ⟨k,rfl,j⟩:=ec q;show Gd (fC x++f k);refine Gd.app ?_ (N k j);unfold fC;refine Gd.opt (fun _=>rfl) fun M=>?_;rcases J with rfl | rfl
  ·exact Gd.cons (cM I) (by unfold Gd;decide +kernel)
  ·unfold dL at I;rw [decide_eq_true_eq] at I;exact absurd I M
 ·rcases D with D | D
  ·obtain ⟨a',rfl⟩:=ce D;exact absurd rfl h
  ·exact N res D
theorem iI:∀ (d:Nat) {n:Nd},(aa d).typ n=true→Gd (az d n)
 | 0,_,h=>by cases h
 | d+1,n,h=>by
  have D:=typ_kind h;have h:dg (aa d) n=true:=h;have J:∀ n,(aa d).typ n=true→Gd (az d n):=fun n h=>iI d h;unfold dg at h;unfold az;rcases D with D | D | D
  ·rw [if_neg (by omega),if_neg (by omega),if_neg (by omega)];rw [if_pos D,Bool.and_eq_true] at h;refine Gd.cons (cM h.1) ?_;unfold mT;refine Gd.opt (fun _=>rfl) fun _=>Gd.cons (by decide +kernel) ((Gd.sep (by unfold Gd;decide +kernel) fun l hl=>?_).app (by unfold Gd;decide +kernel));obtain ⟨x,K,rfl⟩:=List.mem_map.1 hl;exact J x (List.all_eq_true.1 h.2 x K)
  ·rw [if_pos D];rw [if_neg (by omega),if_pos D] at h;obtain ⟨l,a,rfl,M⟩:=cD h;obtain ⟨k,rfl,I⟩:=ec M;exact Gd.cons (by decide +kernel) (Gd.cons (by decide +kernel) (J k I))
  ·rw [if_neg (by omega),if_pos D];rw [if_neg (by omega),if_neg (by omega),if_pos D] at h;exact Gd.cons (by decide +kernel) (wT (.inr rfl) J h)
def IH (d:Nat):Prop:=∀ n deep head,(aa d).expr n=true→Gd ((an d).expr n deep head)
def II (d:Nat):Prop:=∀ n deep,(aa d).block n=true→Gd ((an d).block n deep)
def IJ (d:Nat):Prop:=∀ n deep,(aa d).stmt n=true→Gd ((an d).stmt n deep false)
def IK (d:Nat):Prop:=∀ n deep,(aa d).ifS n=true→Gd ((an d).stmt n deep false)
theorem Gd.c1 {a:It} (h:lF a=true):Gd [a]:=Gd.cons h rfl
theorem wU:∀ k,Gd (i6 k)
 | 0=>rfl
 | k+1=>Gd.cons (by decide) (wU k)
section
variable {d:Nat} (hE:IH d)
include hE
theorem ld {n:Nd} (yes:Bool) (deep:Nat) (head:Bool) (D:(aa d).expr n=true):Gd (aT (an d) yes n deep head):=by unfold aT;exact Gd.opt (fun _=>Gd.cons (by decide +kernel) ((hE n deep false D).app (Gd.c1 (by decide +kernel)))) fun _=>hE n deep head D
theorem E5 {x:Nd} (deep:Nat) (D:cN (aa d) x=true):Gd (dO (an d) deep x):=by
 unfold cN at D;rw [Bool.or_eq_true,Bool.and_eq_true,decide_eq_true_eq] at D;unfold dO;rcases D with D | ⟨I,D⟩
 ·have:=yY d x D;rw [if_neg (by omega)];exact hE x deep false D
 ·have:=typ_kind D;rw [if_pos (by omega),eB];exact iI d D
theorem pP (deep:Nat) {l:List Nd} (I:l.all (cN (aa d))=true) (a:UInt8) (J:lF (cF a)=true):Gd (bH bo (l.map (dO (an d) deep))++[cF a]):=by refine Gd.app (Gd.sep (by unfold Gd;decide +kernel) fun y hy=>?_) (Gd.c1 J);obtain ⟨x,D,rfl⟩:=List.mem_map.1 hy;exact E5 hE deep (List.all_eq_true.1 I x D)
theorem GQ (hB:II d) {n:Nd} (deep:Nat) (head:Bool) (D:ay (aa d) n=true):Gd (i7 (an d) n deep head):=by
 have hF:(an d).typ=az d:=funext eB;(have U:∀ l:List Nd,l.all (aa d).expr=true→l.all (cN (aa d))=true:=by intro l O;rw [List.all_eq_true] at O ⊢;intro x J;unfold cN;rw [O x J];rfl);unfold ay at D;unfold i7;split at D
 ·rename_i h;rw [if_pos h];obtain ⟨x,l,a,rfl,J,I⟩:=aM (by decide) D;exact Gd.c1 (C2 J)
 ·split at D
  ·rename_i I h;rw [if_neg I,if_pos h];obtain ⟨x,l,a,rfl,J,_⟩:=aM (by decide) D;unfold db at J;rw [decide_eq_true_eq] at J;exact Gd.c1 (Bh J)
  ·split at D
   ·rename_i I h1 h;rw [if_neg I,if_neg h1,if_pos h];obtain ⟨x,l,a,rfl,J,_⟩:=aM (by decide) D;exact Gd.c1 (cM J)
   ·split at D
    ·rename_i I h1 h2 h;rw [if_neg I,if_neg h1,if_neg h2,if_pos h];obtain ⟨x,l,a,rfl,J,K⟩:=aM (by decide) D;obtain ⟨y,rfl,u⟩:=ec K;unfold d6 at J;rw [Bool.or_eq_true,decide_eq_true_eq,decide_eq_true_eq] at J;exact Gd.cons (by show lF (nK x)=true;rcases J with rfl | rfl <;> decide +kernel) (ld hE _ deep head u)
    ·split at D
     ·rename_i I h1 h2 K h;rw [if_neg I,if_neg h1,if_neg h2,if_neg K,if_pos h];obtain ⟨x,l,a,rfl,J,M⟩:=aM (by decide) D;obtain ⟨y,z,rfl,u,hz⟩:=il M;have gb:lF (nK x)=true:=rZ J (fun y=>lF (nK y)=true) (by decide +kernel);exact (ld hE _ deep head u).app (Gd.cons (by decide) (Gd.cons gb (Gd.cons (by decide) (ld hE _ deep head hz))))
     ·split at D
      ·rename_i I h1 h2 K M h;rw [if_neg I,if_neg h1,if_neg h2,if_neg K,if_neg M,if_pos h];obtain ⟨k,t,l,a⟩:=n;rw [Bool.and_eq_true,Bool.and_eq_true,decide_eq_true_eq,decide_eq_true_eq] at D;obtain ⟨ht,O,N⟩:=D;cases l with
       | nil=>exact absurd O (by show ¬ 0<0;omega)
       | cons f args=>have N:((f::args).all (aa d).expr)=true:=N;rw [List.all_cons,Bool.and_eq_true] at N;exact (ld hE _ deep head N.1).app (Gd.cons (by decide +kernel) (pP hE deep (U args N.2) 41 (by decide +kernel)))
      ·split at D
       ·rename_i I h1 h2 K M h5 h;rw [if_neg I,if_neg h1,if_neg h2,if_neg K,if_neg M,if_neg h5,if_pos h];obtain ⟨k,t,l,a⟩:=n;rw [Bool.and_eq_true,Bool.and_eq_true,Bool.and_eq_true,decide_eq_true_eq,decide_eq_true_eq] at D;obtain ⟨ht,O,hf,N⟩:=D;cases l with
        | nil=>exact absurd O (by show ¬ 1<0;omega)
        | cons f args=>exact (ld hE _ deep head hf).app (Gd.cons (by decide +kernel) (pP hE deep N 93 (by decide +kernel)))
       ·split at D
        ·rename_i I h1 h2 K M h5 h6 h;rw [if_neg I,if_neg h1,if_neg h2,if_neg K,if_neg M,if_neg h5,if_neg h6,if_pos h];obtain ⟨x,l,a,rfl,J,q⟩:=aM (by decide) D;obtain ⟨f,rfl,hf⟩:=ec q;exact (ld hE _ deep head hf).app (Gd.cons (by decide +kernel) (Gd.c1 (cM J)))
        ·split at D
         ·rename_i I h1 h2 K M h5 h6 q h;rw [if_neg I,if_neg h1,if_neg h2,if_neg K,if_neg M,if_neg h5,if_neg h6,if_neg q,if_pos h];obtain ⟨k,t,l,a⟩:=n;rw [Bool.and_eq_true,Bool.and_eq_true,Bool.and_eq_true,Bool.and_eq_true,decide_eq_true_eq,decide_eq_true_eq,decide_eq_true_eq] at D;obtain ⟨ht,O,gd,hT,N⟩:=D;cases l with
          | nil=>exact absurd O (by show ¬ 0<0;omega)
          | cons T args=>have hT:(aa d).typ T=true:=hT;(have j:Gd (my (an d) (.mk k t (T::args) a) deep):=by unfold my;rw [hF];exact (iI d hT).app (Gd.cons (by decide +kernel) (pP hE deep (U args N) 125 (by decide +kernel))));exact Gd.opt (fun _=>Gd.cons (by decide +kernel) (j.app (Gd.c1 (by decide +kernel)))) fun _=>j
         ·rename_i I h1 h2 K M h5 h6 q h8;rw [if_neg I,if_neg h1,if_neg h2,if_neg K,if_neg M,if_neg h5,if_neg h6,if_neg q,if_neg h8];obtain ⟨l,a,rfl,h9⟩:=cD D;obtain ⟨sg,b,rfl,ga,hb⟩:=il h9;rw [hF];exact Gd.cons (by decide +kernel) ((wT (.inl rfl) (fun n h=>iI d h) ga).app (Gd.cons (by decide) (hB b deep hb)))
end
section
variable {d:Nat} (hE:IH d) (hB:II d)
include hE
theorem C3 {n:Nd} (deep:Nat) (J:fd (aa d) n=true):Gd (nW (an d) n deep):=by
 unfold fd at J;rw [Bool.and_eq_true] at J;obtain ⟨x,l,a,rfl,K,M⟩:=aM (by decide) J.1;obtain ⟨t,v,rfl,I,D⟩:=il M;unfold bI at I D;rw [Bool.or_eq_true] at I D;refine Gd.cons (by decide +kernel) (Gd.cons (by decide) (Gd.cons (cM K) (Gd.app (Gd.opt (fun _=>rfl) fun h=>Gd.cons (by decide) ?_) (Gd.opt (fun _=>rfl) fun h=>Gd.cons (by decide) (Gd.cons (by decide +kernel) (Gd.cons (by decide) ?_))))))
 ·rw [eB];rcases I with I | I
  ·obtain ⟨a',rfl⟩:=ce I;exact absurd rfl h
  ·exact iI d I
 ·rcases D with D | D
  ·obtain ⟨a',rfl⟩:=ce D;exact absurd rfl h
  ·exact hE v deep false D
theorem pQ {n:Nd} (deep:Nat) (head:Bool) (D:ev (aa d) n=true):Gd (dF (an d) n deep head):=by
 unfold ev at D;rw [Bool.or_eq_true,Bool.or_eq_true,Bool.or_eq_true] at D;rcases D with D | D | D | D
 ·obtain ⟨x,l,a,rfl,J,K⟩:=aM (by decide) D;obtain ⟨v,rfl,M⟩:=ec K;unfold bA at J;rw [Bool.and_eq_true] at J;exact Gd.cons (cM J.1) (Gd.cons (by decide) (Gd.cons (by decide +kernel) (Gd.cons (by decide) (hE v deep head M))))
 ·obtain ⟨l,a,rfl,K⟩:=cD D;obtain ⟨y,v,rfl,I,M⟩:=il K;exact (hE y deep head I).app (Gd.cons (by decide) (Gd.cons (by decide +kernel) (Gd.cons (by decide) (hE v deep head M))))
 ·obtain ⟨x,l,a,rfl,J,K⟩:=aM (by decide) D;obtain ⟨y,rfl,I⟩:=ec K;unfold eZ at J;rw [Bool.or_eq_true,decide_eq_true_eq,decide_eq_true_eq] at J;exact (hE y deep head I).app (Gd.c1 (by show lF (nK x)=true;rcases J with rfl | rfl <;> decide +kernel))
 ·obtain ⟨l,a,rfl,K⟩:=cD D;obtain ⟨y,rfl,I⟩:=ec K;unfold fN at I;rw [Bool.and_eq_true] at I;exact hE y deep head I.2
theorem E6 {i e p b:Nd} {a:Int} (deep:Nat) (D:ag i=true∨ev (aa d) i=true) (K:ag e=true∨(aa d).expr e=true) (J:ag p=true∨ev (aa d) p=true):Gd (rq (an d) (.mk 31 (⟨#[]⟩:BA) [i,e,p,b] a) deep):=by
 have hs:∀ i:Nd,(ag i=true∨ev (aa d) i=true)→i.kind≠0→Gd (ee (an d) i deep true):=fun i D h=>by
  rcases D with D | D
  ·obtain ⟨a',rfl⟩:=ce D;exact absurd rfl h
  ·rw [←sK _ (un D)];exact pQ hE deep true D
 have I:e.kind≠0→Gd ((an d).expr e deep true):=fun h=>by
  rcases K with D | D
  ·obtain ⟨a',rfl⟩:=ce D;exact absurd rfl h
  ·exact hE e deep true D
 unfold rq;refine Gd.opt (fun _=>?_) fun _=>Gd.opt (fun h=>(I h).app (Gd.c1 (by decide))) fun _=>rfl;exact (Gd.opt (hs i D) fun _=>Gd.nil).app (Gd.cons (by decide +kernel) (Gd.cons (by decide) ((Gd.opt I fun _=>Gd.nil).app (Gd.cons (by decide +kernel) (Gd.cons (by decide) (Gd.opt (fun h=>(hs p J h).app (Gd.c1 (by decide))) fun _=>rfl))))))
omit hE in
theorem C5 {x:ByteArray} (J:be x=true):Gd (fi x):=by
 unfold fi;refine Gd.opt (fun _=>rfl) fun K=>?_;unfold be at J;rw [decide_eq_false K,Bool.false_or,Bool.or_eq_true,Bool.and_eq_true,Bool.and_eq_true,Bool.and_eq_true] at J;unfold bA at J;refine Gd.app ?_ (by unfold Gd;decide +kernel);rcases J with ⟨M,D,I⟩ | ⟨M,D⟩
 ·rw [Bool.and_eq_true] at I;rw [if_pos M];exact Gd.cons (lz D) (Gd.cons (by decide +kernel) (Gd.cons (by decide) (Gd.c1 (lz I.1))))
 ·rw [Bool.and_eq_true] at D;rw [if_neg (by simpa using M)];exact Gd.c1 (lz D.1)
include hB
theorem F4 (K:IK d) {n:Nd} (deep:Nat) (J:uL (aa d) n=true):Gd (dF (an d) n deep false):=by
 obtain ⟨l,a,rfl,M⟩:=cD J;obtain ⟨x,b,o,rfl,I,hb,D⟩:=AU M;unfold bI at D;rw [Bool.or_eq_true,Bool.or_eq_true] at D;refine Gd.cons (by decide +kernel) (Gd.cons (by decide) ((hE x deep true I).app (Gd.cons (by decide) ((hB b deep hb).app (Gd.opt (fun _=>rfl) fun h=>Gd.cons (by decide) (Gd.cons (by decide +kernel) (Gd.cons (by decide) ?_)))))));show Gd ((an d).stmt o deep false);rcases D with (D | D) | D
 ·obtain ⟨a',rfl⟩:=ce D;exact absurd rfl h
 ·rw [pN d o deep D];exact hB o deep D
 ·exact K o deep D
omit hE hB in
theorem C6 (I:IJ d) {n:Nd} (deep:Nat) (D:n.kids.all (aa d).stmt=true):Gd (nz (an d) n deep):=by unfold nz;refine Gd.cons (by decide +kernel) (Gd.cons (by decide) (Gd.app (Gd.flat fun x hx=>(wU _).app ((I x (deep+1) (List.all_eq_true.1 D x hx)).app (Gd.c1 rfl))) ((wU _).app (Gd.c1 (by decide +kernel)))))
theorem GR (j:IK d) (U:IJ d) {n:Nd} (deep:Nat) (D:av (aa d) n=true):Gd (dF (an d) n deep false):=by
 unfold av at D;split at D
 ·rename_i h;unfold dF;rw [if_pos h];exact C3 hE deep D
 ·split at D
  ·exact pQ hE deep false (by unfold ev;rw [D];rfl)
  ·split at D
   ·exact pQ hE deep false (by unfold ev;rw [D,Bool.true_or,Bool.or_true])
   ·split at D
    ·exact pQ hE deep false (by unfold ev;rw [D,Bool.true_or,Bool.or_true,Bool.or_true])
    ·split at D
     ·exact pQ hE deep false (by unfold ev;rw [D,Bool.or_true,Bool.or_true,Bool.or_true])
     ·split at D
      ·exact F4 hE hB j deep D
      ·split at D
       ·obtain ⟨l,a,rfl,K⟩:=cD D;obtain ⟨i,e,p,b,rfl,I,N,O,hb⟩:=Gz K;unfold bI at I N O;rw [Bool.or_eq_true,Bool.or_eq_true,Bool.or_eq_true] at I O;rw [Bool.or_eq_true] at N;refine Gd.cons (by decide +kernel) (Gd.cons (by decide) ((E6 hE deep ?_ N ?_).app (hB b deep hb)))
        ·rcases I with (I | I) | (I | I)
         ·exact .inl I
         ·exact .inr (by unfold ev;rw [I];rfl)
         ·exact .inr (by unfold ev;rw [I,Bool.true_or,Bool.or_true])
         ·exact .inr (by unfold ev;rw [I,Bool.true_or,Bool.or_true,Bool.or_true])
        ·rcases O with (I | I) | (I | I)
         ·exact .inl I
         ·exact .inr (by unfold ev;rw [I,Bool.true_or,Bool.or_true])
         ·exact .inr (by unfold ev;rw [I,Bool.true_or,Bool.or_true,Bool.or_true])
         ·exact .inr (by unfold ev;rw [I,Bool.or_true,Bool.or_true,Bool.or_true])
       ·split at D
        ·obtain ⟨x,l,a,rfl,J,K⟩:=aM (by decide) D;obtain ⟨e,b,rfl,N,hb⟩:=il K;exact Gd.cons (by decide +kernel) (Gd.cons (by decide) ((C5 J).app (Gd.cons (by decide +kernel) (Gd.cons (by decide) ((hE e deep true N).app (Gd.cons (by decide) (hB b deep hb)))))))
        ·split at D
         ·obtain ⟨l,a,rfl,K⟩:=cD D;obtain ⟨x,rfl,J⟩:=ec K;unfold bI at J;rw [Bool.or_eq_true] at J;refine Gd.cons (by decide +kernel) (Gd.opt (fun _=>rfl) fun h=>Gd.cons (by decide) ?_);show Gd ((an d).expr x deep false);rcases J with J | J
          ·obtain ⟨a',rfl⟩:=ce J;exact absurd rfl h
          ·exact hE x deep false J
         ·split at D
          ·rename_i M;rcases M with M | M
           ·rw [M] at D;obtain ⟨l,a,rfl,K⟩:=cD D;exact Gd.c1 (by decide +kernel)
           ·rw [M] at D;obtain ⟨l,a,rfl,K⟩:=cD D;exact Gd.c1 (by decide +kernel)
          ·unfold bm at D;rw [Bool.and_eq_true,Bool.and_eq_true,decide_eq_true_eq] at D;have M:n.kind=36:=D.1;unfold dF;rw [if_neg (by omega),if_neg (by omega),if_neg (by omega),if_neg (by omega),if_neg (by omega),if_neg (by omega),if_neg (by omega),if_neg (by omega),if_neg (by omega),if_neg (by omega),if_neg (by omega)];exact C6 U deep D.2.2
end
theorem wV:∀ d,IH d∧II d∧IJ d∧IK d
 | 0=>⟨fun _ _ _ h=>(by cases h),fun _ _ h=>(by cases h),fun _ _ h=>(by cases h),fun _ _ h=>(by cases h)⟩
 | d+1=>by obtain ⟨hE,hB,I,J⟩:=wV d;refine ⟨fun n deep head D=>GQ hE hB deep head D,fun n deep D=>?_,fun n deep D=>GR hE hB J I deep D,fun n deep D=>F4 hE hB J deep D⟩;have D:bm (aa d) n=true:=D;unfold bm at D;rw [Bool.and_eq_true,Bool.and_eq_true] at D;exact C6 I deep D.2.2
section
variable {d:Nat}
theorem wW {n:Nd} (D:(aa d).typ n=true∨aV (aa d) n=true):Gd (fD (an d) n):=by
 unfold fD;rw [show (an d).typ=az d from funext eB];rcases D with D | D
 ·have:=typ_kind D;rw [if_neg (by omega)];exact iI d D
 ·unfold aV at D;rw [Bool.and_eq_true,Bool.and_eq_true,Bool.and_eq_true,decide_eq_true_eq] at D;rw [if_pos D.1];unfold iF;refine Gd.cons (by decide +kernel) (Gd.cons (by decide +kernel) (Gd.cons (by decide) ((Gd.sep (by unfold Gd;decide +kernel) fun l hl=>?_).app (by unfold Gd;decide +kernel))));obtain ⟨t,I,rfl⟩:=List.mem_map.1 hl;obtain ⟨x,l,a,rfl,M,K⟩:=aM (by decide) (List.all_eq_true.1 D.2.2.2 t I);obtain ⟨k,rfl,J⟩:=ec K;refine Gd.app ?_ (iI d J);unfold lY;exact Gd.opt (fun _=>rfl) fun _=>by unfold Gd;decide +kernel
theorem wX {n:Nd} (K:aR (aa d) n=true):Gd (fL (an d) n):=by obtain ⟨l,a,rfl,M⟩:=sJ K;unfold fL mT;refine Gd.opt (fun _=>rfl) fun _=>Gd.cons (by decide +kernel) ((Gd.sep (by unfold Gd;decide +kernel) fun y hy=>?_).app (by unfold Gd;decide +kernel));obtain ⟨p,J,rfl⟩:=List.mem_map.1 hy;obtain ⟨x,q,a',rfl,I,N⟩:=aM (by decide) (List.all_eq_true.1 M p J);obtain ⟨k,rfl,D⟩:=ec N;refine Gd.cons (cM I) (Gd.cons (by decide) (wW ?_));unfold bI ey at D;rw [Bool.or_eq_true,Bool.and_eq_true] at D;exact D.imp (·.2) id
theorem GS {n:Nd} (D:aZ (aa d) n=true):Gd (nX (an d) n):=by unfold aZ at D;rw [Bool.and_eq_true,Bool.and_eq_true] at D;refine Gd.cons (by decide +kernel) (Gd.cons (by decide) (Gd.cons (by decide +kernel) (Gd.cons (by decide) (Gd.app (Gd.flat fun x hx=>?_) (by unfold Gd;decide +kernel)))));obtain ⟨y,q,a,rfl,I,K⟩:=aM (by decide) (List.all_eq_true.1 D.2.2 x hx);obtain ⟨k,rfl,J⟩:=ec K;unfold cE;rw [eB];exact Gd.cons (by decide) (Gd.cons (cM I) (Gd.cons (by decide) ((iI d J).app (Gd.c1 rfl))))
theorem GT {n:Nd} (J:a8 (aa d) n=true):Gd (iG (an d) n):=by
 have q:(an d).typ=az d:=funext eB;unfold a8 at J;unfold iG;split at J
 ·rename_i h;rw [if_pos h];obtain ⟨x,l,a,rfl,M,K⟩:=aM (by decide) J;obtain ⟨ps,sg,b,rfl,I,O,hb⟩:=AU K;rw [q];exact Gd.cons (by decide +kernel) (Gd.cons (by decide) (Gd.cons (cM M) ((wX I).app ((wT (.inl rfl) (fun n h=>iI d h) O).app (Gd.cons (by decide) ((wV d).2.1 b 0 hb))))))
 ·split at J
  ·rename_i K h;rw [if_neg K,if_pos h];obtain ⟨x,l,a,rfl,M,N⟩:=aM (by decide) J;obtain ⟨ps,t,rfl,I,D⟩:=il N;refine Gd.cons (by decide +kernel) (Gd.cons (by decide) (Gd.cons (cM M) ((wX I).app (Gd.cons (by decide) ?_))));show Gd (if t.kind=13 then nX (an d) t else fD (an d) t);unfold bI at D;rw [Bool.or_eq_true,Bool.or_eq_true] at D;rcases D with (D | D) | D
   ·have:=typ_kind D;rw [if_neg (by omega)];exact wW (.inl D)
   ·(have j:t.kind=13:=by unfold aZ at D;rw [Bool.and_eq_true,decide_eq_true_eq] at D;exact D.1);rw [if_pos j];exact GS D
   ·(have j:t.kind=14:=by unfold aV at D;rw [Bool.and_eq_true,decide_eq_true_eq] at D;exact D.1);rw [if_neg (by omega)];exact wW (.inr D)
  ·split at J
   ·rename_i K N h;rw [if_neg K,if_neg N,if_pos h];obtain ⟨x,l,a,rfl,M,U⟩:=aM (by decide) J;obtain ⟨ps,t,rfl,I,D⟩:=il U;rw [q];exact Gd.cons (by decide +kernel) (Gd.cons (by decide) (Gd.cons (cM M) ((wX I).app (Gd.cons (by decide) (Gd.cons (by decide +kernel) (Gd.cons (by decide) (iI d D)))))))
   ·rename_i K N U;rw [if_neg K,if_neg N,if_neg U];exact C3 (wV d).1 0 J
theorem E8 {n:Nd} (D:eT (aa d) n=true):Gd (f9 (an d) n):=by unfold eT at D;rw [Bool.and_eq_true,Bool.and_eq_true] at D;exact Gd.cons (by decide +kernel) (Gd.cons (by decide) (Gd.cons (cM D.2.1) (Gd.cons rfl (Gd.flat fun x hx=>Gd.cons (by decide) ((GT (List.all_eq_true.1 D.2.2 x hx)).app (Gd.c1 rfl))))))
end
theorem uu:∀ {z:List It},Gd z→cW (dA z)=true
 | [],_=>rfl
 | a::z,h=>by
  unfold Gd at h;rw [List.all_cons,Bool.and_eq_true] at h;have ih:=uu (z:=z) h.2;unfold cW at ih ⊢;rw [bX,List.all_append,ih,Bool.and_true];cases a with
  | tok k x=>have D:(cW x&&_)=true:=h.1;rw [Bool.and_eq_true] at D;exact D.1
  | gap b=>have D:(decide (0<b.toNat)&&decide (b.toNat<128))=true:=h.1;show ((decide (0<b.toNat)&&decide (b.toNat<128))&&true)=true;rw [D];rfl
  | nl=>rfl
theorem oZ:∀ {z:List It} (i:Nat),Gd z→∀ t∈cJ i z,dh t=false∧lr t=false
 | [],_,_,t,D=>by simp [cJ] at D
 | a::z,i,h,t,D=>by
  unfold Gd at h;rw [List.all_cons,Bool.and_eq_true] at h;cases a with
  | tok k x=>
   have D:t∈(⟨k,eg x,(i:Int)⟩:cK)::cJ (i+x.length) z:=D;rcases List.mem_cons.1 D with rfl | D
   ·have I:(cW x&&(!(dh ⟨k,eg x,0⟩) && !(lr ⟨k,eg x,0⟩)))=true:=h.1;rw [Bool.and_eq_true,Bool.and_eq_true,Bool.not_eq_true',Bool.not_eq_true'] at I;exact I.2
   ·exact oZ _ h.2 t D
  | gap b=>exact oZ _ h.2 t D
  | nl=>
   have D:t∈(⟨6,⟨#[10]⟩,(i:Int)⟩:cK)::cJ (i+1) z:=D;rcases List.mem_cons.1 D with rfl | D
   ·exact ⟨by show (decide ((6:Int)=3)||_)=false;(have:Lib.contains mm.data.toList ((⟨#[32]⟩++(⟨#[10]⟩:BA)++⟨#[32]⟩:ByteArray)).data.toList=false:=by decide +kernel);show (false||((true&&Lib.contains mm.data.toList ((⟨#[32]⟩++(⟨#[10]⟩:BA)++⟨#[32]⟩:ByteArray)).data.toList)||false))=false;rw [this];rfl,rfl⟩
   ·exact oZ _ h.2 t D
theorem o0:∀ (z y:List It) (i:Nat),cJ i (z++y)=cJ i z++cJ (i+(dA z).length) y
 | [],y,i=>rfl
 | a::z,y,i=>by
  rw [bX,List.length_append,←Nat.add_assoc];cases a with
  | tok k x=>show _::cJ (i+x.length) (z++y)=_;rw [o0 z y];rfl
  | gap b=>show cJ (i+1) (z++y)=_;rw [o0 z y];rfl
  | nl=>show _::cJ (i+1) (z++y)=_;rw [o0 z y];rfl
def ma (k:Nat):ByteArray:=if k=0 then (⟨#[105,109,112,111,114,116]⟩:BA) else if k=1 then (⟨#[103,111]⟩:BA) else if k=2 then (⟨#[109,97,112]⟩:BA) else if k=3 then (⟨#[99,104,97,110]⟩:BA) else if k=4 then (⟨#[115,101,108,101,99,116]⟩:BA) else (⟨#[38]⟩:BA)
def uv (k:Nat):It:=if k=5 then .tok 6 [38] else .tok (aX (eg (bytes (ma k)))+1) (bytes (ma k))
def lL (k:Nat):List It:=[uv k,.gap 32,.tok (aX (eg [120])+1) [120]]
theorem E9 {k:Nat} (I:k<6):aI false (lL k) []:=by
 have D:eW [] (aX (eg [120])+1) [120]:=.word (by decide +kernel) (by decide);(have key:∀ j:Fin 6,j.val=5∨fO (bytes (ma j.val))=true:=by decide +kernel);unfold lL uv;split
 ·exact ⟨.sign (by decide +kernel) (by decide +kernel) (by decide) (by decide),.inl rfl,D,trivial⟩
 ·rename_i h;exact ⟨.word ((key ⟨k,I⟩).resolve_left h) (by decide),.inl rfl,D,trivial⟩
theorem Bi {k:Nat} (D:k<6):dA (lL k)=bytes (ma k++(⟨#[32,120]⟩:BA)):=by (have key:∀ j:Fin 6,dA (lL j.val)=bytes (ma j.val++(⟨#[32,120]⟩:BA)):=by decide +kernel);exact key ⟨k,D⟩
theorem wY {k:Nat} (D:k<6):cW (dA (lL k))=true∧(dA (lL k)).length≤8:=by (have key:∀ j:Fin 6,cW (dA (lL j.val))=true∧(dA (lL j.val)).length≤8:=by decide +kernel);exact key ⟨k,D⟩
theorem Bj {k:Nat} (I:k<6) (i:Nat) (L:List cK):((cJ i (lL k)++L).find? dh).map (·.pos)=some (i:Int):=by (have key:∀ j:Fin 6,(match uv j.val with | .tok a x=>dh ⟨a,eg x,0⟩ | _=>false)=true:=by decide +kernel);have h:=key ⟨k,I⟩;(obtain ⟨a,x,D⟩:∃ a x,uv k=.tok a x:=by unfold uv;split <;> exact ⟨_,_,rfl⟩);(have h:dh ⟨a,eg x,0⟩=true:=by simp only [D] at h;exact h);have J:dh ⟨a,eg x,(i:Int)⟩=true:=h;unfold lL;rw [D];show (((⟨a,eg x,(i:Int)⟩:cK)::_).find? dh).map (·.pos)=_;rw [List.find?_cons,J];rfl
theorem Bk {n:Nd} (M:eT (aa 100) n=true) {k:Nat} (N:k<6) (j:(eg (dA (f9 (an 100) n))).size≤60000) :
  bV (eg (dA (f9 (an 100) n))++ma k++(⟨#[32,120]⟩:BA))=.err ((eg (dA (f9 (an 100) n))).size:Int) 16 ∧
  ∀ L,di (eg (dA (f9 (an 100) n))++ma k++(⟨#[32,120]⟩:BA))=.toks L→L.find? dh=none→∀ t∈L,t.kind≠5:=by
 have U:=C1 M (dA (lL k));have hg:=E8 M;obtain ⟨z,hZ⟩:∃ z,f9 (an 100) n=z:=⟨_,rfl⟩;rw [hZ] at U hg j ⊢;have gd:(eg (dA z)).size=(dA z).length:=rfl;(have hb:bytes (eg (dA z)++ma k++(⟨#[32,120]⟩:BA))=dA (z++lL k):=by rw [ByteArray.append_assoc,cS,bN,dx,Bi N]);obtain ⟨K,hl⟩:=wY N;(have q:(eg (dA z)++ma k++(⟨#[32,120]⟩:BA)).size≤65536:=by rw [←ck,hb,dx,List.length_append];omega);(have u:cW (bytes (eg (dA z)++ma k++(⟨#[32,120]⟩:BA)))=true:=by have h1:=uu hg;unfold cW at h1 K ⊢;rw [hb,dx,List.all_append,h1,K];rfl);have ga:aI false (z++lL k) []:=aI.app (by rw [List.append_nil];exact U.1) (by rw [U.2];exact E9 N);have D:=CL hb q u ga;have I:∀ p,((dc (cJ 0 (z++lL k)) p).find? dh).map (·.pos)=some ((dA z).length:Int):=by
  intro p;(have gb:(cJ 0 z).find? dh=none:=List.find?_eq_none.2 fun t ht=>by rw [(oZ 0 hg t ht).1];decide);(have key:∀ L,((cJ 0 (z++lL k)++L).find? dh).map (·.pos)=some ((dA z).length:Int):=by intro L;rw [o0,List.append_assoc,List.find?_append,gb,Option.none_or,Bj N,Nat.zero_add]);unfold dc;split
  ·exact key _
  ·have:=key []
   rwa [List.append_nil] at this
 have J:∀ p,lS (dc (cJ 0 (z++lL k)) p)=some (((dA z).length:Int),(16:Int)):=by
  intro p;have h:=I p;unfold lS;cases hq:(dc (cJ 0 (z++lL k)) p).find? dh with
  | none=>rw [hq] at h;cases h
  | some t=>rw [hq] at h;injection h with h;show some (t.pos,(16:Int))=_;rw [show t.pos=_ from h]
 refine ⟨?_,fun L O M=>?_⟩
 ·unfold bV;rw [D];simp only;rw [J];rfl
 ·rw [D] at O;injection O with O;obtain ⟨p,K⟩:∃ p,L=dc (cJ 0 (z++lL k)) p:=⟨_,O.symm⟩;have h:=I p;rw [←K,M] at h;cases h
end
section
open Go.RowKit Go.Lib Go.Proofs
def tx (l:List It):ByteArray:=eg (dA l)
theorem mq (l:List It):bytes (tx l)=dA l:=bN _
theorem wZ:tx []=(⟨#[]⟩:BA):=rfl
theorem aQ (l m:List It):tx (l++m)=tx l++tx m:=by apply cj;rw [cS,mq,mq,mq,dx]
theorem aj (a:It) (l:List It):tx (a::l)=tx [a]++tx l:=aQ [a] l
theorem pU (k:Int) (x:ByteArray):tx [.tok k (bytes x)]=x:=by apply cj;rw [mq];exact List.append_nil _
theorem lH (x:ByteArray):tx [ik x]=x:=pU _ x
theorem Dk (x:ByteArray):tx [nK x]=x:=pU _ x
theorem ux (x:ByteArray):tx [fB x]=x:=pU _ x
theorem y6 (b:UInt8):tx [cF b]=⟨#[b]⟩:=rfl
theorem pV:tx [aY]=(⟨#[32]⟩:BA):=rfl
theorem oe:tx bo=(⟨#[44,32]⟩:BA):=rfl
theorem y7 (x:ByteArray) (h:x≠(⟨#[]⟩:BA)):tx (fC x)=x++(⟨#[32]⟩:BA):=by unfold fC;rw [if_neg h,aj,lH,pV]
theorem uy:tx (fC (⟨#[]⟩:BA))=(⟨#[]⟩:BA):=rfl
theorem G0 {x:ByteArray} (h:x=(⟨#[]⟩:BA)∨x=(⟨#[126]⟩:BA)):tx (lY x)=x:=by
 rcases h with rfl | rfl
 ·rfl
 ·rfl
theorem uz (s:List It):∀ (l:List (List It)) (x:List It),l≠[]→bH s (l++[x])=bH s l++(s++x)
 | [],_,h=>absurd rfl h
 | [y],x,_=>rfl
 | y::z::l,x,_=>by have ih:=uz s (z::l) x (by simp);show y++(s++bH s (z::(l++[x])))=(y++(s++bH s (z::l)))++(s++x);rw [show z::(l++[x])=(z::l)++[x] from rfl,ih];simp only [List.append_assoc]
def Bl (s:List It) (i:Nat):List It:=if i=0 then [] else s
theorem mX (s:List It) {i:Nat} (h:i=0):tx (Bl s i)=(⟨#[]⟩:BA):=by unfold Bl;rw [if_pos h];rfl
theorem mY (s:List It) {i:Nat} (h:0<i):tx (Bl s i)=tx s:=by unfold Bl;rw [if_neg (by omega)]
theorem og {α:Type} (s:List It) (f:α→List It) (l:List α) (i:Nat) (h:i<l.length) :
  tx (bH s ((l.take (i+1)).map f))=tx (bH s ((l.take i).map f))++(tx (Bl s i)++tx (f l[i])):=by
 rw [List.take_succ_eq_append_getElem h,List.map_append];unfold Bl;by_cases I:i=0
 ·subst I;rfl
 ·rw [if_neg I,List.map_cons,List.map_nil,uz _ _ _ (by
   intro D;rw [List.map_eq_nil_iff,List.take_eq_nil_iff] at D;rcases D with D | D
   ·exact I D
   ·rw [D] at h;exact absurd h (by simp)),aQ,aQ]
theorem ah (x y z:ByteArray):x++y++z=x++(y++z):=ByteArray.append_assoc
theorem lB (x:ByteArray):x++(⟨#[]⟩:BA)=x:=ByteArray.append_empty
theorem fu (x:ByteArray):(⟨#[]⟩:BA)++x=x:=ByteArray.empty_append
theorem Dl {α:Type} (s:List It) (f:α→List It) (l:List α) (i:Nat):∀ j,i≤j→j≤l.length→(tx (bH s ((l.take i).map f))).size≤(tx (bH s ((l.take j).map f))).size
 | 0,D,_=>by (obtain rfl:i=0:=by omega);exact Nat.le_refl _
 | j+1,D,I=>by
  rcases Nat.lt_or_eq_of_le D with h | rfl
  ·have:=Dl s f l i j (by omega) (by omega);rw [og s f l j (by omega),ByteArray.size_append];omega
  ·exact Nat.le_refl _
theorem fv {α:Type} (s:List It) (f:α→List It) (l:List α) (i:Nat) (h:i≤l.length):(tx (bH s ((l.take i).map f))).size≤(tx (bH s (l.map f))).size:=by
 have:=Dl s f l i l.length h (Nat.le_refl _)
 rwa [List.take_length] at this
theorem sW {α:Type} (f:α→List It) (l:List α) (i:Nat) (h:i<l.length):tx ((l.take (i+1)).flatMap f)=tx ((l.take i).flatMap f)++tx (f l[i]):=by rw [List.take_succ_eq_append_getElem h,List.flatMap_append,aQ,List.flatMap_cons,List.flatMap_nil,List.append_nil]
theorem mr {α:Type} (f:α→List It) (l:List α) (i:Nat):(tx ((l.take i).flatMap f)).size≤(tx (l.flatMap f)).size:=by (conv=>rhs;rw [←List.take_append_drop i l,List.flatMap_append,aQ,ByteArray.size_append]);exact Nat.le_add_right _ _
theorem ms {α:Type} (s:List It) (hs:1≤(tx s).size) (f:α→List It):∀ l:List α,l.length≤(tx (bH s (l.map f))).size+1
 | []=>Nat.zero_le _
 | [x]=>Nat.le_add_left _ _
 | x::y::l=>by have ih:=ms s hs f (y::l);show l.length+1+1≤(tx (f x++(s++bH s ((y::l).map f)))).size+1;rw [aQ,aQ,ByteArray.size_append,ByteArray.size_append];rw [List.length_cons] at ih;omega
theorem o9 {α:Type} (f:α→List It) (D:∀ x,1≤(tx (f x)).size):∀ l:List α,l.length≤(tx (l.flatMap f)).size
 | []=>Nat.zero_le _
 | x::l=>by have ih:=o9 f D l;have:=D x;rw [List.flatMap_cons,aQ,ByteArray.size_append,List.length_cons];omega
def K4 (w:World) (b o:Nat) (x:Nd) (A:Option Addr) (c:Nat):Prop:=
 w.cell? ⟨b,o,none⟩=some (.int .i64 x.kind)∧w.cell? ⟨b,o+1,none⟩=some (.string x.text)∧w.cell? ⟨b,o+2,none⟩=some (.slice A x.kids.length c)∧w.cell? ⟨b,o+3,none⟩=some (.int .i64 x.pos) ∧
  ax w (.agg #[.int .i64 x.kind,.string x.text,.slice A x.kids.length c,.int .i64 x.pos]) x
theorem K4.below {w w':World} {b o:Nat} {x:Nd} {A:Option Addr} {c:Nat} (h:K4 w b o x A c) (hb:Below w.heap.size w w'):K4 w' b o x A c:=by obtain ⟨K,J,I,D,M⟩:=h;exact ⟨(hb.cell (World.block_lt_of_cell? w _ K)).trans K,(hb.cell (World.block_lt_of_cell? w _ J)).trans J,(hb.cell (World.block_lt_of_cell? w _ I)).trans I,(hb.cell (World.block_lt_of_cell? w _ D)).trans D,ai.below M hb⟩
theorem cH {w:World} {A:Option Addr} {k p:Int} {t:ByteArray} {m cp:Nat} {n:Nd} (h:ax w (.agg #[.int .i64 k,.string t,.slice A m cp,.int .i64 p]) n) (i:Nat) (J:i<n.kids.length) :
  ∃ b off I D,A=some ⟨b,off,none⟩∧K4 w b (off+i * 4) n.kids[i] I D:=by obtain ⟨b,off,I,D,e,_,_,U,O,N,M,K⟩:=(ai.kidsV h).kid i J;exact ⟨b,off,I,D,e,U,O,N,M,K⟩
theorem IA {w:World} {A:Option Addr} {x y z:Nd} {k:Int} {t:ByteArray} {p:Int} {cp:Nat} (h:ax w (.agg #[.int .i64 k,.string t,.slice A 3 cp,.int .i64 p]) (.mk k t [x,y,z] p)) :
  ∃ b o N c1 M c2 K c3,A=some ⟨b,o,none⟩∧K4 w b o x N c1∧K4 w b (o+4) y M c2∧K4 w b (o+8) z K c3:=by obtain ⟨bp,op,N,c1,rfl,J⟩:=cH h 0 (by simp);obtain ⟨_,_,M,c2,e,I⟩:=cH h 1 (by simp);injection e with e;injection e with e1 e2;subst e1 e2;obtain ⟨_,_,K,c3,e,D⟩:=cH h 2 (by simp);injection e with e;injection e with e1 e2;subst e1 e2;simp only [Nd.kids_mk,List.getElem_cons_zero,List.getElem_cons_succ,Nat.zero_mul,Nat.add_zero,Nat.one_mul,Nat.reduceMul] at J I D;exact ⟨_,_,_,_,_,_,_,_,rfl,J,I,D⟩
theorem ya {w:World} {A:Option Addr} {x y:Nd} {k:Int} {t:ByteArray} {p:Int} {cp:Nat} (h:ax w (.agg #[.int .i64 k,.string t,.slice A 2 cp,.int .i64 p]) (.mk k t [x,y] p)) :
  ∃ b o K c1 J c2,A=some ⟨b,o,none⟩∧K4 w b o x K c1∧K4 w b (o+4) y J c2:=by obtain ⟨bp,op,K,c1,rfl,I⟩:=cH h 0 (by simp);obtain ⟨_,_,J,c2,e,D⟩:=cH h 1 (by simp);injection e with e;injection e with e1 e2;subst e1 e2;simp only [Nd.kids_mk,List.getElem_cons_zero,List.getElem_cons_succ,Nat.zero_mul,Nat.add_zero,Nat.one_mul] at I D;exact ⟨_,_,_,_,_,_,rfl,I,D⟩
def Fb (f:FuncId) (P:Nd→Bool) (I:Nd→List It):Prop:=
 ∀ (v:Value) (n:Nd) (w:World),ax w v n→P n=true→(tx (I n)).size≤10000000000000000→Calls Tryz.prog f #[v] w fun e w'=>e=.returned (.string (tx (I n)))∧Below w.heap.size w w'
theorem G1 {F:bj} {so:ByteArray→Bool} {n:Nd} (h:dI F so n=true):∃ t x p,n=.mk 8 t [x] p∧so t=true∧F.typ x=true:=by obtain ⟨t,l,a,rfl,hs,I⟩:=aM (by decide) h;obtain ⟨x,rfl,D⟩:=ec I;exact ⟨t,x,a,rfl,hs,D⟩
end
section
open Go.RowKit Go.Lib Go.Proofs
attribute [local go_sem ↓] Go.wp_at_zero Go.wp_at_succ
def oO (f:Nd→List It) (p:Nd):List It:=fC p.text++f (aJ p 0)
theorem G2 (f:Nd→List It) (l:List Nd) (b:Nd) (q p:Int):tx (fK f (.mk 12 (⟨#[]⟩:BA) [.mk 6 (⟨#[]⟩:BA) l q,b] p))=(⟨#[40]⟩:BA)++tx (bH bo (l.map (oO f)))++(⟨#[41]⟩:BA)++(if b.kind=0 then (⟨#[]⟩:BA) else (⟨#[32]⟩:BA)++tx (f b)):=by
 show tx (cF 40::(bH bo (l.map (oO f))++(cF 41::(if b.kind=0 then [] else aY::f b))))=_;rw [aj,aQ,aj (cF 41),y6,y6,ah,ah];split
 ·rfl
 ·rw [aj,pV]
theorem pW (d:Nat) (HT:Fb 37 (aa d).typ (az d)) {so:ByteArray→Bool} : Fb 38 (ep (aa d) so) (fK (az d)):=by
 intro v n w hv hn hM;obtain ⟨l,q,b,p,rfl,hl,hb⟩:=wA hn;have gj:=hid HT;have HL:=hid (List.all_eq_true.1 hl);have HB:=hid hb;have HR:=hid (G2 (az d) l b q p);rw [HR.out,ByteArray.size_append,ByteArray.size_append,ByteArray.size_append] at hM;obtain ⟨A,cp,rfl,hC⟩:=hv.toC;have gh:=ms bo (by decide) (oO (az d)) l;clear hn hl hb HT hC;have hB:=(ae w #[.int .i64 12,.string (⟨#[]⟩:BA),.slice A 2 cp,.int .i64 p]).1;have ga:ax w (.agg #[.int .i64 12,.string (⟨#[]⟩:BA),.slice A 2 cp,.int .i64 p]) (.mk 12 (⟨#[]⟩:BA) [.mk 6 (⟨#[]⟩:BA) l q,b] p):=hv;have gp:=(ae w #[.int .i64 12,.string (⟨#[]⟩:BA),.slice A 2 cp,.int .i64 p]).2;obtain ⟨bk,off,A0,c0,rfl,ha⟩:=cH ga 0 (by simp);obtain ⟨bk',off',A1,c1,e,hb⟩:=cH ga 1 (by simp);injection e with e;injection e with e1 e2;subst e1 e2;simp only [Nd.kids_mk,List.getElem_cons_zero,List.getElem_cons_succ,Nat.zero_mul,Nat.add_zero,Nat.one_mul] at ha hb;have ha:=ha.below hB;have hb:=hb.below hB;have gs:=hid (show ax _ (.agg #[.int .i64 6,.string (⟨#[]⟩:BA),.slice A0 l.length c0,.int .i64 q]) (.mk 6 (⟨#[]⟩:BA) l q) from ha.2.2.2.2);have gt:=hid hb;obtain ⟨a0,a1,a2,a3,-⟩:=ha;simp only [Nd.kind_mk,Nd.text_mk,Nd.kids_mk,Nd.pos_mk] at a0 a1 a2 a3;clear hv ga hb;(go_enter Tryz.func38,Tryz.ntmps38);(go_wp2_with fail);generalize w.alloc (.cells #[.int .i64 12,.string (⟨#[]⟩:BA),.slice (some ⟨bk,off,none⟩) 2 cp,.int .i64 p] 24)=w0 at *;go_loopg [3,5] l.length (fun k u3 u5 wr=>∃ i:Nat,i≤l.length∧l.length-i≤k∧u5=.int .i64 (i:Int)∧u3=.string ((⟨#[40]⟩:BA)++tx (bH bo ((l.take i).map (oO (az d)))))∧Below w0.heap.size w0 wr)
 case atStart=>exact ⟨0,Nat.zero_le _,by omega,rfl,rfl,Below.refl _ _⟩
 case round=>
  obtain ⟨i,hi,hk,rfl,rfl,M⟩:=hrel;have gm:=fv bo (oO (az d)) l i hi;by_cases N:i<l.length
  ·(have gg:(i:Int)<(l.length:Int):=by omega);(have h0:(0:Int)≤(i:Int):=by omega);obtain ⟨bp,op,A2,c2,gr,hp⟩:=cH (ai.below gs.out M) i N;simp only [Nd.kids_mk] at hp;subst gr;have D:=hid (og bo (oO (az d)) l i N);have I:=fv bo (oO (az d)) l (i+1) N;rw [D.out,ByteArray.size_append,ByteArray.size_append] at I;have yk:=hid (G1 (HL.out _ (List.getElem_mem N)));generalize l[i]=q1 at *;obtain ⟨t,x,pp,rfl,gl,hx⟩:=yk.out;have HX:=hid hx;have gd:=hid (show oO (az d) (.mk 8 t [x] pp)=fC t++az d x from rfl);rw [gd.out] at D;rw [gd.out,aQ,ByteArray.size_append] at I;obtain ⟨bx,ox,A3,c3,rfl,U⟩:=cH hp.2.2.2.2 0 (by simp);simp only [Nd.kids_mk,List.getElem_cons_zero,Nat.zero_mul,Nat.add_zero] at U;have gb:=hid (gj.out _ x wr U.2.2.2.2 HX.out (by omega));obtain ⟨p0,p1,p2,p3,-⟩:=hp;obtain ⟨x0,x1,x2,x3,-⟩:=U;simp only [Nd.kind_mk,Nd.text_mk,Nd.kids_mk,Nd.pos_mk] at p0 p1 p2 p3;rw [aQ] at D;generalize tx (bH bo ((l.take i).map (oO (az d))))=S at *;generalize tx (az d x)=X at *;clear yk hx gl gd;by_cases O:t=(⟨#[]⟩:BA) <;> rcases Nat.eq_zero_or_pos i with J | J;subst O;(have j:¬ (0:Int)<(i:Int):=by omega);rw [mX bo J,uy] at D I;simp only [fu] at D
   rotate_left
   subst O;(have j:(0:Int)<(i:Int):=by omega);rw [mY bo J,uy,oe] at D I;simp only [fu] at D
   rotate_left
   (have ge:t.toList.isEmpty=false:=by rw [af];simpa using O);(have j:¬ (0:Int)<(i:Int):=by omega);rw [mX bo J,y7 t O] at D I;rw [ByteArray.size_append] at I;simp only [fu] at D;clear O
   rotate_left
   (have ge:t.toList.isEmpty=false:=by rw [af];simpa using O);(have j:(0:Int)<(i:Int):=by omega);rw [mY bo J,y7 t O,oe] at D I;rw [ByteArray.size_append] at I;clear O
   rotate_left
   (all_goals clear J);all_goals
    (go_wp2_with fail);refine gb.out.mono ?_;rintro e w3 ⟨rfl,u⟩;clear p0 p1 p2 p3 x0 x1 x2 x3;(go_wp2_with fail);go_roundg (l.length-(i+1))
    case measure=>omega
    case rel=>exact ⟨i+1,by omega,Nat.le_refl _,by go_num,by rw [D.out];simp only [ah],am M u⟩
  ·(have gg:¬ (i:Int)<(l.length:Int):=by omega);have D:=hid (show tx (bH bo ((l.take i).map (oO (az d))))=tx (bH bo (l.map (oO (az d)))) by rw [List.take_of_length_le (by omega)]);rw [←D.out] at HR hM gm gh;generalize tx (bH bo ((l.take i).map (oO (az d))))=S at *;obtain ⟨n0,n1,n2,n3,-,-,-,-⟩:=ac (gp.bl M);have gi:=gt.out.below M;have gn:=gi.2.2.2.2;obtain ⟨b0,b1,b2,b3,-⟩:=gi;by_cases K:b.kind=0
   ·rw [if_pos K] at HR hM;rw [K] at b0;(go_wp2_with fail);go_ret;exact ⟨by rw [HR.out,lB];rfl,am hB M⟩
   ·rw [if_neg K] at HR hM;rw [ByteArray.size_append] at hM;(have ge:(b.kind != 0)=true:=by simpa using K);have gb:=hid (gj.out _ b wr gn (HB.out.resolve_left (fun h=>by obtain ⟨a,rfl⟩:=ce h;exact K rfl)) (by omega));generalize tx (az d b)=X at *;clear K;(go_wp2_with fail);refine gb.out.mono ?_;rintro e w3 ⟨rfl,u⟩;clear n0 n1 n2 n3 b0 b1 b2 b3;(go_wp2_with fail);go_ret;have gq:=am M u;exact ⟨by rw [HR.out];simp only [ah];rfl,am hB gq⟩
end
end Go.Proofs.YtiebcdeafofgdaaGreatDoor
