/-
  Parts of the proof: Pqb Pqc Pqd Pqe Psa Psb Psd. By an AI agent.
-/
import Derived.Test.YtiebcdeafofgdaaGreatDoorJ42
import Derived.Test.YtiebcdeafofgdaaGreatDoorJ35
import Derived.Test.YtiebcdeafofgdaaGreatDoorJ41
import Derived.Test.YtiebcdeafofgdaaGreatDoorJ34
open Go.Proofs.Tryz
namespace Go.Proofs.YtiebcdeafofgdaaGreatDoor
section
open Go.Lib
def mP:It->Bool
 | .tok k x=>fC x&&(!(li ⟨k,d7 x,0⟩) && !(iD ⟨k,d7 x,0⟩))
 | .gap b=>decide (0<b.toNat)&&decide (b.toNat<128)
 | .nl=>true
def Gd(l:List It):Prop:=l.all mP=true
theorem Gd.app{a b:List It}(D:Gd a)(hb:Gd b):Gd (a++b):=by unfold Gd at *;rw[qQ,D,hb];rfl
theorem Gd.cons{a:It}{b:List It}(D:mP a=true)(hb:Gd b):Gd (a::b):=by unfold Gd at *;rw[kz,D,hb];rfl
theorem Gd.nil:Gd []:=rfl
theorem Gd.flat{α:Type}{f:α->List It}:∀{l:List α},(∀x∈l,Gd (f x))->Gd (l.flatMap f)
 |[],_=>rfl
 |x::l,h=>by rw[jH];exact(h x (by simp)).app (Gd.flat fun y hy=>h y (by simp[hy]))
theorem Gd.sep{s:List It}(hs:Gd s):∀{L:List (List It)},(∀l∈L,Gd l)->Gd (dk s L)
 |[],_=>rfl
 |[x],h=>h x (by simp)
 |x::y::L,h=>(h x (by simp)).app (hs.app (Gd.sep hs fun l hl=>h l (by simp[hl])))
theorem Gd.opt{p:Prop}[Decidable p]{a b:List It}(D:p->Gd a)(hb:¬ p->Gd b):Gd (if p then a else b):=by
 split
 ·exact D ‹_›
 ·exact hb ‹_›
theorem wE{l:List UInt8}(h:l.all (fun c=>lr c||eF c)=true):fC l=true:=by(have key:∀b:Fin 256,(lr (UInt8.ofNat b.val)||eF (UInt8.ofNat b.val))=true->(decide (0<(UInt8.ofNat b.val).toNat)&&decide ((UInt8.ofNat b.val).toNat<128))=true:=by decide +kernel);unfold fC;rw[qI]at h |-;intro b hb;have:=key ⟨b.toNat,b.toNat_lt⟩;simpa using this (by simpa using h b hb)
theorem ou{l:List UInt8}(D:aE ⟨l.toArray⟩=true):mP (.tok 1 l)=true:=by
 (have h:cI l=true:=by unfold aE dP at D;rw[gB,gB]at D;exact D.2.1);have I:fC l=true:=by
  refine wE ?_;cases l with
  |nil=>rfl
  |cons a l=>unfold cI at h;rw[gB]at h;rw[kz,h.1,h.2];rfl
 show(fC l&&(!(li ⟨1,d7 l,0⟩) && !(iD ⟨1,d7 l,0⟩)))=true;rw[I];rfl
theorem lm{x:ByteArray}(D:aE x=true):mP (mK x)=true:=ou D
theorem M9{x:ByteArray}(D:dt x=true):mP (.tok 4 (bytes x))=true:=by
 have I:=yV D;unfold dt at D;rw[gB,gI,gE]at D;have M:fC (bytes x)=true:=wE (by have:=List.all_eq_true.1 D.1;exact List.all_eq_true.2 fun b hb=>by rw[this b hb,jE]);show(fC (bytes x)&&(!(li ⟨4,d7 (bytes x),0⟩) && !(iD ⟨4,d7 (bytes x),0⟩)))=true;rw[M,dZ];have N:iD ⟨4,x,0⟩=false:=by
  cases J:lp x with
  |some y=>show(true&&(lp x).isNone||_)=false;rw[J];rfl
  |none=>
   unfold mT at I;rw[J]at I;have I:(⟨#[]⟩:BA)=x:=I;subst I;rcases D.2 with h|h
   ·exact absurd h (by decide)
   ·exact absurd h (by decide)
 rw[N];rfl
theorem De{x:ByteArray}(h:x.size<=1000):dT (d7 (bW (bytes x)))=some x:=by
 have J:=yW (bytes x);rw[cm]at J;(have D:(d7 (bW (bytes x))).size=(bW (bytes x)).length:=by rw[<-cm,bH]);have hb:(d7 (bW (bytes x))).data.toList=bW (bytes x):=bH _;have I:lq (d7 (bW (bytes x)))=none:=mL _ _ 0 fun j _ hj=>uW (by rw[bH];exact pb _) j hj;unfold dT;rw[d5 (by omega),hb,d5,d5 (fun h=>h I),gF (by rfl)]
 ·(have e:(bW (bytes x)).extract 1 ((d7 (bW (bytes x))).size-1)=(bytes x).flatMap ce:=by rw[D];unfold bW;rw[qG];simp);rw[e,pa _ _ (by rw[cm];omega)];exact jM some (cg (bH _))
 ·rintro(h|h)
  ·omega
  ·refine h ?_;unfold bW;rw[List.getLast?_append];rfl
theorem Ie{x:ByteArray}(h:x.size<=1000):mP (.tok 5 (bW (bytes x)))=true:=by show(fC (bW (bytes x))&&(!(li ⟨5,d7 (bW (bytes x)),0⟩) && !(iD ⟨5,d7 (bW (bytes x)),0⟩)))=true;rw[pb];(have D:iD ⟨5,d7 (bW (bytes x)),0⟩=false:=by show(false||(true&&tV (dT (d7 (bW (bytes x))))))=false;rw[De h];have I:decide (1000<x.size)=false:=gM (by omega);exact I);rw[D];rfl
theorem Na{F:cQ}{f:Nd->List It}{so:ByteArray->Bool}(J:so=aE\/so=dV)(O:∀n,F.typ n=true->Gd (f n)){n:Nd}(hn:io F so n=true):Gd (fm f n):=by
 obtain⟨ps,a1,res,a,rfl,M,D⟩:=sS hn;unfold fm;refine Gd.cons (by decide +kernel) ((Gd.sep (by unfold Gd;decide +kernel) fun l hl=>?_).app (Gd.cons (by decide +kernel) (Gd.opt (fun _=>rfl) fun h=>Gd.cons (by decide) ?_)))
 ·obtain⟨p,U,rfl⟩:=List.mem_map.1 hl;obtain⟨x,l,a,rfl,I,h0⟩:=aN (by decide) (List.all_eq_true.1 M p U);obtain⟨k,rfl,hk⟩:=d8 h0;show Gd (dx x++f k);refine Gd.app ?_ (O k hk);unfold dx;refine Gd.opt (fun _=>rfl) fun N=>?_;rcases J with rfl|rfl
  ·exact Gd.cons (lm I) (by unfold Gd;decide +kernel)
  ·unfold dV at I;rw[gE]at I;exact absurd I N
 ·rcases D with D|D
  ·obtain⟨a',rfl⟩:=bI D;exact absurd rfl h
  ·exact O res D
theorem wF:∀(d:Nat){n:Nd},(aa d).typ n=true->Gd (am d n)
 |0,_,h=>by cases h
 |d+1,n,h=>by
  have D:=typ_kind h;have h:dA (aa d) n=true:=h;have J:∀n,(aa d).typ n=true->Gd (am d n):=fun n h=>wF d h;unfold dA at h;unfold am;rcases D with D|D|D
  ·rw[d5 (by omega),d5 (by omega),d5 (by omega)];rw[gF D,gB]at h;refine Gd.cons (lm h.1) ?_;unfold nY;refine Gd.opt (fun _=>rfl) fun _=>Gd.cons (by decide +kernel) ((Gd.sep (by unfold Gd;decide +kernel) fun l hl=>?_).app (by unfold Gd;decide +kernel));obtain⟨x,M,rfl⟩:=List.mem_map.1 hl;exact J x (List.all_eq_true.1 h.2 x M)
  ·rw[gF D];rw[d5 (by omega),gF D]at h;obtain⟨l,a,rfl,N⟩:=bV h;obtain⟨k,rfl,I⟩:=d8 N;exact Gd.cons (by decide +kernel) (Gd.cons (by decide +kernel) (J k I))
  ·rw[d5 (by omega),gF D];rw[d5 (by omega),d5 (by omega),gF D]at h;exact Gd.cons (by decide +kernel) (Na (.inr rfl) J h)
def TN(d:Nat):Prop:=∀n deep head,(aa d).expr n=true->Gd ((ao d).expr n deep head)
def TO(d:Nat):Prop:=∀n deep,(aa d).block n=true->Gd ((ao d).block n deep)
def TP(d:Nat):Prop:=∀n deep,(aa d).stmt n=true->Gd ((ao d).stmt n deep false)
def TQ(d:Nat):Prop:=∀n deep,(aa d).ifS n=true->Gd ((ao d).stmt n deep false)
theorem Gd.c1{a:It}(h:mP a=true):Gd [a]:=Gd.cons h rfl
theorem EC:∀k,Gd (mz k)
 |0=>rfl
 |k+1=>Gd.cons (by decide) (EC k)
section
variable {d:Nat} (hE:TN d)
include hE
theorem nI{n:Nd}(yes:Bool)(deep:Nat)(head:Bool)(D:(aa d).expr n=true):Gd (aK (ao d) yes n deep head):=by unfold aK;exact Gd.opt (fun _=>Gd.cons (by decide +kernel) ((hE n deep false D).app (Gd.c1 (by decide +kernel)))) fun _=>hE n deep head D
theorem PL{x:Nd}(deep:Nat)(D:dB (aa d) x=true):Gd (dy (ao d) deep x):=by
 unfold dB at D;rw[gI,gB,gE]at D;unfold dy;rcases D with D|⟨I,D⟩
 ·have:=FK d x D;rw[d5 (by omega)];exact hE x deep false D
 ·have:=typ_kind D;rw[gF (by omega),l7];exact wF d D
theorem wG(deep:Nat){l:List Nd}(I:l.all (dB (aa d))=true)(a:UInt8)(J:mP (bS a)=true):Gd (dk cG (l.map (dy (ao d) deep))++[bS a]):=by refine Gd.app (Gd.sep (by unfold Gd;decide +kernel) fun y hy=>?_) (Gd.c1 J);obtain⟨x,D,rfl⟩:=List.mem_map.1 hy;exact PL hE deep (List.all_eq_true.1 I x D)
theorem SA(hB:TO d){n:Nd}(deep:Nat)(head:Bool)(D:aA (aa d) n=true):Gd (mA (ao d) n deep head):=by
 have hF:(ao d).typ=am d:=funext l7;(have ga:∀l:List Nd,l.all (aa d).expr=true->l.all (dB (aa d))=true:=by intro l U;rw[qI]at U |-;intro x J;unfold dB;rw[U x J];rfl);unfold aA at D;unfold mA;split at D
 ·rename_i h;rw[gF h];obtain⟨x,l,a,rfl,J,I⟩:=aN (by decide) D;exact Gd.c1 (M9 J)
 ·split at D
  ·rename_i I h;rw[d5 I,gF h];obtain⟨x,l,a,rfl,J,_⟩:=aN (by decide) D;unfold dX at J;rw[gE]at J;exact Gd.c1 (Ie J)
  ·split at D
   ·rename_i I h1 h;rw[d5 I,d5 h1,gF h];obtain⟨x,l,a,rfl,J,_⟩:=aN (by decide) D;exact Gd.c1 (lm J)
   ·split at D
    ·rename_i I h1 h2 h;rw[d5 I,d5 h1,d5 h2,gF h];obtain⟨x,l,a,rfl,J,M⟩:=aN (by decide) D;obtain⟨y,rfl,hy⟩:=d8 M;unfold dW at J;rw[gI,gE,gE]at J;exact Gd.cons (by show mP (iV x)=true;rcases J with rfl|rfl<;>decide +kernel) (nI hE _ deep head hy)
    ·split at D
     ·rename_i I h1 h2 M h;rw[d5 I,d5 h1,d5 h2,d5 M,gF h];obtain⟨x,l,a,rfl,J,N⟩:=aN (by decide) D;obtain⟨y,z,rfl,hy,hz⟩:=ll N;have ge:mP (iV x)=true:=fO J (fun y=>mP (iV y)=true) (by decide +kernel);exact(nI hE _ deep head hy).app (Gd.cons (by decide) (Gd.cons ge (Gd.cons (by decide) (nI hE _ deep head hz))))
     ·split at D
      ·rename_i I h1 h2 M N h;rw[d5 I,d5 h1,d5 h2,d5 M,d5 N,gF h];obtain⟨k,t,l,a⟩:=n;rw[gB,gB,gE,gE]at D;obtain⟨ht,U,O⟩:=D;cases l with
       |nil=>exact absurd U (by show ¬ 0<0;omega)
       |cons f args=>have O:((f::args).all (aa d).expr)=true:=O;rw[kz,gB]at O;exact(nI hE _ deep head O.1).app (Gd.cons (by decide +kernel) (wG hE deep (ga args O.2) 41 (by decide +kernel)))
      ·split at D
       ·rename_i I h1 h2 M N h5 h;rw[d5 I,d5 h1,d5 h2,d5 M,d5 N,d5 h5,gF h];obtain⟨k,t,l,a⟩:=n;rw[gB,gB,gB,gE,gE]at D;obtain⟨ht,U,hf,O⟩:=D;cases l with
        |nil=>exact absurd U (by show ¬ 1<0;omega)
        |cons f args=>exact(nI hE _ deep head hf).app (Gd.cons (by decide +kernel) (wG hE deep O 93 (by decide +kernel)))
       ·split at D
        ·rename_i I h1 h2 M N h5 h6 h;rw[d5 I,d5 h1,d5 h2,d5 M,d5 N,d5 h5,d5 h6,gF h];obtain⟨x,l,a,rfl,J,h7⟩:=aN (by decide) D;obtain⟨f,rfl,hf⟩:=d8 h7;exact(nI hE _ deep head hf).app (Gd.cons (by decide +kernel) (Gd.c1 (lm J)))
        ·split at D
         ·rename_i I h1 h2 M N h5 h6 h7 h;rw[d5 I,d5 h1,d5 h2,d5 M,d5 N,d5 h5,d5 h6,d5 h7,gF h];obtain⟨k,t,l,a⟩:=n;rw[gB,gB,gB,gB,gE,gE,gE]at D;obtain⟨ht,U,gg,hT,O⟩:=D;cases l with
          |nil=>exact absurd U (by show ¬ 0<0;omega)
          |cons T args=>have hT:(aa d).typ T=true:=hT;(have gb:Gd (nZ (ao d) (.mk k t (T::args) a) deep):=by unfold nZ;rw[hF];exact(wF d hT).app (Gd.cons (by decide +kernel) (wG hE deep (ga args O) 125 (by decide +kernel))));exact Gd.opt (fun _=>Gd.cons (by decide +kernel) (gb.app (Gd.c1 (by decide +kernel)))) fun _=>gb
         ·rename_i I h1 h2 M N h5 h6 h7 h8;rw[d5 I,d5 h1,d5 h2,d5 M,d5 N,d5 h5,d5 h6,d5 h7,d5 h8];obtain⟨l,a,rfl,h9⟩:=bV D;obtain⟨sg,b,rfl,gd,hb⟩:=ll h9;rw[hF];exact Gd.cons (by decide +kernel) ((Na (.inl rfl) (fun n h=>wF d h) gd).app (Gd.cons (by decide) (hB b deep hb)))
end
section
variable {d:Nat} (hE:TN d) (hB:TO d)
include hE
theorem SB{n:Nd}(deep:Nat)(J:iK (aa d) n=true):Gd (sU (ao d) n deep):=by
 unfold iK at J;rw[gB]at J;obtain⟨x,l,a,rfl,M,N⟩:=aN (by decide) J.1;obtain⟨t,v,rfl,I,D⟩:=ll N;unfold cB at I D;rw[gI]at I D;refine Gd.cons (by decide +kernel) (Gd.cons (by decide) (Gd.cons (lm M) (Gd.app (Gd.opt (fun _=>rfl) fun h=>Gd.cons (by decide) ?_) (Gd.opt (fun _=>rfl) fun h=>Gd.cons (by decide) (Gd.cons (by decide +kernel) (Gd.cons (by decide) ?_))))))
 ·rw[l7];rcases I with I|I
  ·obtain⟨a',rfl⟩:=bI I;exact absurd rfl h
  ·exact wF d I
 ·rcases D with D|D
  ·obtain⟨a',rfl⟩:=bI D;exact absurd rfl h
  ·exact hE v deep false D
theorem wH{n:Nd}(deep:Nat)(head:Bool)(D:dm (aa d) n=true):Gd (ch (ao d) n deep head):=by
 unfold dm at D;rw[gI,gI,gI]at D;rcases D with D|D|D|D
 ·obtain⟨x,l,a,rfl,J,M⟩:=aN (by decide) D;obtain⟨v,rfl,N⟩:=d8 M;unfold bY at J;rw[gB]at J;exact Gd.cons (lm J.1) (Gd.cons (by decide) (Gd.cons (by decide +kernel) (Gd.cons (by decide) (hE v deep head N))))
 ·obtain⟨l,a,rfl,M⟩:=bV D;obtain⟨y,v,rfl,I,N⟩:=ll M;exact(hE y deep head I).app (Gd.cons (by decide) (Gd.cons (by decide +kernel) (Gd.cons (by decide) (hE v deep head N))))
 ·obtain⟨x,l,a,rfl,J,M⟩:=aN (by decide) D;obtain⟨y,rfl,I⟩:=d8 M;unfold f8 at J;rw[gI,gE,gE]at J;exact(hE y deep head I).app (Gd.c1 (by show mP (iV x)=true;rcases J with rfl|rfl<;>decide +kernel))
 ·obtain⟨l,a,rfl,M⟩:=bV D;obtain⟨y,rfl,I⟩:=d8 M;unfold iw at I;rw[gB]at I;exact hE y deep head I.2
theorem PM{i e p b:Nd}{a:Int}(deep:Nat)(D:ah i=true\/dm (aa d) i=true)(M:ah e=true\/(aa d).expr e=true)(J:ah p=true\/dm (aa d) p=true):Gd (sc (ao d) (.mk 31 ⟨#[]⟩ [i,e,p,b] a) deep):=by
 have hs:∀i:Nd,(ah i=true\/dm (aa d) i=true)->i.kind≠0->Gd (ep (ao d) i deep true):=fun i D h=>by
  rcases D with D|D
  ·obtain⟨a',rfl⟩:=bI D;exact absurd rfl h
  ·rw[<-n7 _ (fE D)];exact wH hE deep true D
 have I:e.kind≠0->Gd ((ao d).expr e deep true):=fun h=>by
  rcases M with D|D
  ·obtain⟨a',rfl⟩:=bI D;exact absurd rfl h
  ·exact hE e deep true D
 unfold sc;refine Gd.opt (fun _=>?_) fun _=>Gd.opt (fun h=>(I h).app (Gd.c1 (by decide))) fun _=>rfl;exact(Gd.opt (hs i D) fun _=>Gd.nil).app (Gd.cons (by decide +kernel) (Gd.cons (by decide) ((Gd.opt I fun _=>Gd.nil).app (Gd.cons (by decide +kernel) (Gd.cons (by decide) (Gd.opt (fun h=>(hs p J h).app (Gd.c1 (by decide))) fun _=>rfl))))))
omit hE in
theorem Nb{x:ByteArray}(J:bL x=true):Gd (fB x):=by
 unfold fB;refine Gd.opt (fun _=>rfl) fun M=>?_;unfold bL at J;rw[gM M,vi,gI,gB,gB,gB]at J;unfold bY at J;refine Gd.app ?_ (by unfold Gd;decide +kernel);rcases J with⟨N,D,I⟩|⟨N,D⟩
 ·rw[gB]at I;rw[gF N];exact Gd.cons (ou D) (Gd.cons (by decide +kernel) (Gd.cons (by decide) (Gd.c1 (ou I.1))))
 ·rw[gB]at D;rw[d5 (by simpa using N)];exact Gd.c1 (ou D.1)
include hB
theorem Rz(M:TQ d){n:Nd}(deep:Nat)(J:Am (aa d) n=true):Gd (ch (ao d) n deep false):=by
 obtain⟨l,a,rfl,N⟩:=bV J;obtain⟨x,b,o,rfl,I,hb,D⟩:=Ph N;unfold cB at D;rw[gI,gI]at D;refine Gd.cons (by decide +kernel) (Gd.cons (by decide) ((hE x deep true I).app (Gd.cons (by decide) ((hB b deep hb).app (Gd.opt (fun _=>rfl) fun h=>Gd.cons (by decide) (Gd.cons (by decide +kernel) (Gd.cons (by decide) ?_)))))));show Gd ((ao d).stmt o deep false);rcases D with(D|D)|D
 ·obtain⟨a',rfl⟩:=bI D;exact absurd rfl h
 ·rw[wD d o deep D];exact hB o deep D
 ·exact M o deep D
omit hE hB in
theorem Nc(I:TP d){n:Nd}(deep:Nat)(D:n.kids.all (aa d).stmt=true):Gd (oE (ao d) n deep):=by unfold oE;refine Gd.cons (by decide +kernel) (Gd.cons (by decide) (Gd.app (Gd.flat fun x hx=>(EC _).app ((I x (deep+1) (List.all_eq_true.1 D x hx)).app (Gd.c1 rfl))) ((EC _).app (Gd.c1 (by decide +kernel)))))
theorem SC (hI:TQ d)(hS:TP d){n:Nd}(deep:Nat)(D:aB (aa d) n=true):Gd (ch (ao d) n deep false):=by
 unfold aB at D;split at D
 ·rename_i h;unfold ch;rw[gF h];exact SB hE deep D
 ·split at D
  ·exact wH hE deep false (by unfold dm;rw[D];rfl)
  ·split at D
   ·exact wH hE deep false (by unfold dm;rw[D,kP,jE])
   ·split at D
    ·exact wH hE deep false (by unfold dm;rw[D,kP,jE,jE])
    ·split at D
     ·exact wH hE deep false (by unfold dm;rw[D,jE,jE,jE])
     ·split at D
      ·exact Rz hE hB hI deep D
      ·split at D
       ·obtain⟨l,a,rfl,M⟩:=bV D;obtain⟨i,e,p,b,rfl,I,O,U,hb⟩:=Pi M;unfold cB at I O U;rw[gI,gI,gI]at I U;rw[gI]at O;refine Gd.cons (by decide +kernel) (Gd.cons (by decide) ((PM hE deep ?_ O ?_).app (hB b deep hb)))
        ·rcases I with(I|I)|(I|I)
         ·exact .inl I
         ·exact .inr (by unfold dm;rw[I];rfl)
         ·exact .inr (by unfold dm;rw[I,kP,jE])
         ·exact .inr (by unfold dm;rw[I,kP,jE,jE])
        ·rcases U with(I|I)|(I|I)
         ·exact .inl I
         ·exact .inr (by unfold dm;rw[I,kP,jE])
         ·exact .inr (by unfold dm;rw[I,kP,jE,jE])
         ·exact .inr (by unfold dm;rw[I,jE,jE,jE])
       ·split at D
        ·obtain⟨x,l,a,rfl,J,M⟩:=aN (by decide) D;obtain⟨e,b,rfl,O,hb⟩:=ll M;exact Gd.cons (by decide +kernel) (Gd.cons (by decide) ((Nb J).app (Gd.cons (by decide +kernel) (Gd.cons (by decide) ((hE e deep true O).app (Gd.cons (by decide) (hB b deep hb)))))))
        ·split at D
         ·obtain⟨l,a,rfl,M⟩:=bV D;obtain⟨x,rfl,J⟩:=d8 M;unfold cB at J;rw[gI]at J;refine Gd.cons (by decide +kernel) (Gd.opt (fun _=>rfl) fun h=>Gd.cons (by decide) ?_);show Gd ((ao d).expr x deep false);rcases J with J|J
          ·obtain⟨a',rfl⟩:=bI J;exact absurd rfl h
          ·exact hE x deep false J
         ·split at D
          ·rename_i N;rcases N with N|N
           ·rw[N]at D;obtain⟨l,a,rfl,M⟩:=bV D;exact Gd.c1 (by decide +kernel)
           ·rw[N]at D;obtain⟨l,a,rfl,M⟩:=bV D;exact Gd.c1 (by decide +kernel)
          ·unfold bD at D;rw[gB,gB,gE]at D;have N:n.kind=36:=D.1;unfold ch;rw[d5 (by omega),d5 (by omega),d5 (by omega),d5 (by omega),d5 (by omega),d5 (by omega),d5 (by omega),d5 (by omega),d5 (by omega),d5 (by omega),d5 (by omega)];exact Nc hS deep D.2.2
end
theorem Nf:∀d,TN d/\TO d/\TP d/\TQ d
 |0=>⟨fun _ _ _ h=>(by cases h),fun _ _ h=>(by cases h),fun _ _ h=>(by cases h),fun _ _ h=>(by cases h)⟩
 |d+1=>by obtain⟨hE,hB,I,J⟩:=Nf d;refine⟨fun n deep head D=>SA hE hB deep head D,fun n deep D=>?_,fun n deep D=>SC hE hB J I deep D,fun n deep D=>Rz hE hB J deep D⟩;have D:bD (aa d) n=true:=D;unfold bD at D;rw[gB,gB]at D;exact Nc I deep D.2.2
section
variable {d:Nat}
end
theorem Df:∀{z:List It},Gd z->fC (fX z)=true
 |[],_=>rfl
 |a::z,h=>by
  unfold Gd at h;rw[kz,gB]at h;have ih:=Df (z:=z) h.2;unfold fC at ih |-;rw[cD,qQ,ih,vk];cases a with
  |tok k x=>have D:(fC x&&_)=true:=h.1;rw[gB]at D;exact D.1
  |gap b=>have D:(decide (0<b.toNat)&&decide (b.toNat<128))=true:=h.1;show((decide (0<b.toNat)&&decide (b.toNat<128))&&true)=true;rw[D];rfl
  |nl=>rfl
theorem ub:∀{z:List It}(i:Nat),Gd z->∀t∈ir i z,li t=false/\iD t=false
 |[],_,_,t,D=>by simp[ir]at D
 | a::z,i,h,t,D=>by
  unfold Gd at h;rw[kz,gB]at h;cases a with
  |tok k x=>
   have D:t∈(⟨k,d7 x,(i:Int)⟩:cO)::ir (i+x.length) z:=D;rcases List.mem_cons.1 D with rfl|D
   ·have I:(fC x&&(!(li ⟨k,d7 x,0⟩) && !(iD ⟨k,d7 x,0⟩)))=true:=h.1;rw[gB,gB,qv,qv]at I;exact I.2
   ·exact ub _ h.2 t D
  |gap b=>exact ub _ h.2 t D
  |nl=>
   have D:t∈(⟨6,⟨#[10]⟩,(i:Int)⟩:cO)::ir (i+1) z:=D;rcases List.mem_cons.1 D with rfl|D
   ·exact⟨by show(decide ((6:Int)=3)||_)=false;(have:Lib.contains pC.data.toList ((⟨#[32]⟩++(⟨#[10]⟩:BA)++⟨#[32]⟩:ByteArray)).data.toList=false:=by decide +kernel);show(false||((true&&Lib.contains pC.data.toList ((⟨#[32]⟩++(⟨#[10]⟩:BA)++⟨#[32]⟩:ByteArray)).data.toList)||false))=false;rw[this];rfl,rfl⟩
   ·exact ub _ h.2 t D
theorem If{l:List cO}(h:∀t∈l,li t=false/\iD t=false):oB l=none:=by unfold oB;rw[List.find?_eq_none.2 fun t ht=>by rw[(h t ht).1];decide,List.find?_eq_none.2 fun t ht=>by rw[(h t ht).2];decide];rfl
end
section
theorem Ng:fD false (et []):=im (by decide +kernel) (by decide +kernel) (by decide +kernel) (by decide +kernel) (by decide +kernel) (by decide +kernel)
theorem Ig(i:Nat){z:List It}(I:Gd z)(p:Int):oB (dY (ir i z) p)=none:=by
 refine If fun t D=>?_;have key:∀t∈ir i z,li t=false/\iD t=false:=ub i I;unfold dY at D;split at D
 ·rcases List.mem_append.1 D with D|D
  ·exact key t D
  ·obtain rfl:=List.mem_singleton.1 D;have k:∀q:Int,li ⟨6,⟨#[10]⟩,q⟩=li ⟨6,⟨#[10]⟩,0⟩/\iD ⟨6,⟨#[10]⟩,q⟩=iD ⟨6,⟨#[10]⟩,0⟩:=fun _=>⟨rfl,rfl⟩;rw[(k p).1,(k p).2];decide +kernel
 ·exact key t D
theorem Nh{c:Cx}{s:St}(h:At c s []):s.at_=c.toks.length:=by simpa using h.len
theorem ED{z:List It}{n:Nd}(hz:bj false z [])(hg:Gd z)(hL:∀c,Lv c false (aH z) n false)(hr:bG n=true)(M:(d7 (fX z)).size<=65536):
  ∃L m J,cV (d7 (fX z))=.toks L/\fe fG.expr ⟨L,((d7 (fX z)).size:Int)⟩ ⟨0,false,-1⟩=.ok m J/\J.at_=L.length/\bG m=true/\co m n:=by
 obtain⟨t,hT⟩:∃t,d7 (fX z)=t:=⟨_,rfl⟩;rw[hT]at M |-;(have hb:bytes t=fX z:=by rw[<-hT];exact bH _);have D:=Mn hb M (by rw[hb];exact Df hg) hz;have I:=Ig 0 hg (t.size:Int);obtain⟨L,hM⟩:∃L,dY (ir 0 z) (t.size:Int)=L:=⟨_,rfl⟩;have h:∃r,L.map Mo=aH z++r/\fD false (et r)/\(r=[]\/r=[Ps]):=by
  rw[<-hM];unfold dY;split
  ·refine⟨[Ps],?_,t8 false,.inr rfl⟩;rw[kT,ph];rfl
  ·refine⟨[],?_,Ng,.inl rfl⟩;rw[kG,ph]
 rw[hM]at D I;obtain⟨r,h1,h2,h3⟩:=h;have ga:=(Mb D).2.1;(have hA:At ⟨L,(t.size:Int)⟩ ⟨0,false,-1⟩ (aH z++r):=by refine⟨gP _,?_⟩;show(L.drop 0).map Mo=_;rw[qb,h1]);obtain⟨m,J,e1,O,U,-,-⟩:=(hL ⟨L,(t.size:Int)⟩).exp 200000 ⟨0,false,-1⟩ r hA rfl (o6.no rfl) (by show 3*(L.length-0)+2<=200000;omega) h2;(have ht:cV t=.toks L:=by unfold cV;rw[D];simp only;rw[I]);have O:co m n:=O;(have N:bG m=true:=by rw[O.rightX];exact hr);rcases h3 with rfl|rfl
 ·refine⟨L,m,J,ht,?_,Nh U,N,O⟩;unfold fe;show((di 200000).expr _ _).bind _=_;rw[e1,cC.bind_ok,d5];rw[U.is];decide
 ·refine⟨L,m,adv J,ht,?_,Nh U.adv,N,O⟩;unfold fe;show((di 200000).expr _ _).bind _=_;rw[e1,cC.bind_ok,gF];rw[U.is];decide
mutual
theorem Br:∀n:Nd,mn (m8 n)=mn n
 | .mk k t l a=>by rw[eB,mn,mn,FL l]
theorem FL:∀l:List Nd,m7 (nK l)=m7 l
 |[]=>by rw[nK]
 |n::l=>by rw[nK,m7,m7,Br n,FL l]
end
theorem co.tot{n m:Nd}(h:co n m):mn n=mn m:=by rw[<-Br n,show m8 n=m8 m from h,Br]
theorem Ni{z:List It}{n:Nd}(hz:bj false z [])(hg:Gd z)(hL:∀c,Lv c false (aH z) n false)(hr:bG n=true)(I:(d7 (fX z)).size<=65536)(hb:mn n<=1048576)(w:World)(hT:lF w):
  Calls prog 16 #[.string (d7 (fX z))] w fun e w'=>∃m,co m n/\nx w (.tree m) e w':=by obtain⟨L,m,J,h1,U,O,N,M⟩:=ED hz hg hL hr I;(have ho:pV fG (d7 (fX z))=.tree m:=by unfold pV;rw[h1];show tW _ _=_;rw[U];show(if J.at_<L.length then _ else if bG m=true then _ else _)=_;rw[d5 (by rw[O];exact Nat.lt_irrefl _),gF N]);(have H:=CE (d7 (fX z)) w hT (by omega) fun L' D=>by rw[h1]at D;injection D with D;subst D;exact⟨m,J,U,O,N,by rw[M.tot];omega⟩);rw[ho]at H;exact H.mono fun e w' h=>⟨m,M,h⟩
def my(z:List It):List It:=bS 40::(z++[bS 41])
def y5(L:List (List It)):List It:=L.flatMap fun x=>x++[bS 44,.gap 10]
def bh:Nat->Nd->List It
 |0,_=>[]
 |d+1,n=>
  if n.kind=19 then iV n.text::my (bh d (bc n 0))
  else if n.kind=20 then my (bh d (bc n 0))++(iV n.text::.gap 10::my (bh d (bc n 1)))
  else if n.kind=21 then my (bh d (bc n 0))++(bS 40::(y5 ((n.kids.drop 1).map (bh d))++[bS 41]))
  else if n.kind=23 then my (bh d (bc n 0))++[bS 46,mK n.text]
  else(ao (d+1)).expr n 0 false
theorem wI(z:List It):aH (my z)=(6,(⟨#[40]⟩:BA))::(aH z++[(6,(⟨#[41]⟩:BA))]):=by unfold my;rw[it,aR];rfl
def IF(L:List (List TK)):List TK:=L.flatMap fun x=>x++[cX]
theorem Nj:∀L:List (List It),aH (y5 L)=IF (L.map aH)
 |[]=>rfl
 |x::L=>by show aH ((x++[bS 44,.gap 10])++y5 L)=(aH x++[cX])++IF (L.map aH);rw[aR,aR,Nj L];rfl
section
variable {c:Cx}
theorem Dg{part:R Nd}{en:ByteArray}{P:St->Prop}(J:cW cX en=false)(D:cW (6,en) en=true)(p:Int)
  (hP:∀s,P s->∀s',s.at_<=s'.at_->s'.head=s.head->P s'):
  ∀ (L:List (List TK×Nd))(g:Nat)(acc acc':List Nd)(s:St)(r:List TK),
    At c s (IF (L.map (·.1))++((6,en)::r))->s.part=p->c.toks.length-s.at_<g->P s->iW co acc' acc ->
    (∀x∈L,cW (et x.1) en=false/\x.1≠[]/\∀s r,At c s (x.1++r)->P s->s.part=p->et r=cX->AU c s r (fun n'=>co n' x.2) p (part c s)) ->
    Sf c s r (fun l'=>iW co l' (acc++L.map (·.2))) p (a6 part en g acc' c s)
 |_,0,_,_,_,_,_,_,hg,_,_,_=>absurd hg (by omega)
 |[],g+1,acc,acc',s,r,h,U,_,_,ha,_=>by have h:At c s ((6,en)::r):=h;unfold a6;rw[gF (by rw[h.is];exact D)];exact⟨acc',adv s,rfl,by simpa using ha,h.adv,rfl,U⟩
 | x::L,g+1,acc,acc',s,r,h,U,hg,N,ha,hL=>by
  obtain⟨x1,x2,x3⟩:=hL x (by simp);have h:At c s (x.1++(cX::(IF (L.map (·.1))++((6,en)::r)))):=by
   have e:IF ((x::L).map (·.1))++((6,en)::r)=x.1++(cX::(IF (L.map (·.1))++((6,en)::r))):=by show((x.1++[cX])++IF (L.map (·.1)))++_=_;simp
   rwa [e]at h
  unfold a6;have ga:aS c s en=false:=by
   rw[h.is];cases hx:x.1 with
   |nil=>exact absurd hx x2
   |cons t q=>rw[hx]at x1;exact x1
  rw[d5 (by rw[ga];decide)];obtain⟨n',I,g1,g2,O,g4,g5⟩:=x3 s _ h N U rfl;rw[g1];simp only[cC.bind_ok];(have gb:s.at_+1<=I.at_:=by have l1:=h.len;have l2:=O.len;rw[gL]at l1;have:0<x.1.length:=List.length_pos_iff.2 x2;omega);have M:iW co (acc'++[n']) (acc++[x.2]):=iW.app (iW.one g2) ha;rw[d5 (by rw[O.is];show ¬ cW cX en=true;rw[J];decide),fN O ⟨#[44]⟩ (by decide)];simp only[cC.bind_ok];(have hb:c.toks.length-(adv I).at_<g:=by show c.toks.length-(I.at_+1)<g;have:=O.len;simp at this;omega);have:=Dg J D p hP L g (acc++[x.2]) (acc'++[n']) (adv I) r O.adv g5 hb (hP s N _ (by show s.at_<=I.at_+1;omega) g4) M fun y hy=>hL y (by simp[hy]);obtain⟨l',s',f1,f2,f3,f4,f5⟩:=this;exact⟨l',s',f1,by simpa using f2,f3,by rw[f4];exact g4,f5⟩
variable {m:Bool} {head:Bool}
theorem Ih{G:Nat}{L:List (List TK×Nd)}(D:Bc c ⟨#[41]⟩ L){s:St}{r:List TK}(h:At c s (IF (L.map (·.1))++((6,(⟨#[41]⟩:BA))::r)))(M:s.part = -1)(I:Fu c 2 G s):
  ∃l' s',ct (a6 (di G).expr ⟨#[41]⟩ (di G).g []) c s=.ok l' s'/\bF l' (L.map (·.2))/\At c s' r/\s'.head=s.head/\s'.part = -1:=by
 obtain⟨l',s1,e,U,O,h3,N⟩:=Dg (c:=c) (part:=(di G).expr) (en:=(⟨#[41]⟩:BA)) (P:=fun s=>Fu c 2 G s/\s.head=false) (by decide) (by decide) (-1) (fun s J s' hle hh=>⟨J.1.le hle,by rw[hh];exact J.2⟩) L G [] [] { s with head:=false } r h M (by unfold Fu at I;show c.toks.length-s.at_<G;omega) ⟨I,rfl⟩ .nil
  (fun x hx=>⟨(D x hx).1,(D x hx).2.1,fun s r a b d e=>(D x hx).2.2 G s r a b.2 (o6.no d) b.1 (o8 (.inl e) (we false))⟩)
 rw[sk];exact⟨l',_,t7 e,by simpa using U.eqv,O,rfl,N⟩
theorem Ii{lf:List TK}{f:Nd}{L:List (List TK×Nd)}(a:Int)(hF:sX c m lf (fun n _=>co n f) head)(hL:Bc c ⟨#[41]⟩ L):
  sX c m (lf++((6,(⟨#[40]⟩:BA))::(IF (L.map (·.1))++[(6,(⟨#[41]⟩:BA))]))) (fun n _=>co n (.mk 21 ⟨#[]⟩ (f::L.map (·.2)) a)) head:=by intro G s r g ha hh hp N hb;(have e:lf++((6,(⟨#[40]⟩:BA))::(IF (L.map (·.1))++[(6,(⟨#[41]⟩:BA))]))++r=lf++((6,(⟨#[40]⟩:BA))::(IF (L.map (·.1))++((6,(⟨#[41]⟩:BA))::r))):=by simp);rw[e]at ha;obtain⟨U,b0,s0,M,b1,I,O,e1,e2,q1,D,q3,q4,q5⟩:=hF G s _ g ha hh hp N hb;obtain⟨J,rfl⟩:∃J,O=J+1:=⟨O-1,by omega⟩;have ga:=iY ha D;obtain⟨f1,f2⟩:=(N.le (s':=I) (by omega)).adv D;obtain⟨l',h,e3,p1,p2,p3,p4⟩:=Ih (G:=G) hL D.adv q4 (f2.more (by omega));refine⟨U,b0,s0,.mk 21 ⟨#[]⟩ (M::l') M.pos,false,h,J,e1,e2.trans (Fj (D.yes (by decide)) e3),co.mk (bF.cons q1 p1) _ _,p2,p3.trans q3,p4,?_⟩;have h1:=D.adv.len;have h2:=p2.len;have h3:(adv I).at_=I.at_+1:=rfl;simp at h1;omega
def SD(c:Cx)(d:Nat):Prop:=∀n,(aa d).expr n=true->Lv c false (aH (bh d n)) n false
theorem Nk{d:Nat}(hE:tQ c (d+1))(N:SD c d):SD c (d+1):=by
 intro n hn0;have D:aA (aa d) n=true:=hn0;have gh:=hE n 0 false false hn0;obtain⟨k,t,l,a⟩:=n;unfold bh;by_cases ge:k=19
 ·subst ge;rw[gF (show(Nd.mk 19 t l a).kind=19 from rfl)];have D:cA 19 [(aa d).expr] (au dW (.mk 19 t l a))=true:=D;obtain⟨x,l',a',e,I,h0⟩:=aN (by decide) D;injection e with _ M e2 _;subst M e2;obtain⟨y,rfl,O⟩:=d8 h0;unfold dW at I;rw[gI,gE,gE]at I;rw[show(Nd.mk 19 t [y] a).text=t from rfl,show bc (Nd.mk 19 t [y] a) 0=y from rfl,o5,wI];exact Lv.of_una (tK.sign (by show(6:Int)≠1;decide) (by rcases I with rfl|rfl<;>decide +kernel)) ⟨_,_,rfl,by rcases I with rfl|rfl<;>decide⟩ rfl (CP a I (mf (N y O)))
 rw[d5 (show ¬ (Nd.mk k t l a).kind=19 from ge)];by_cases gd:k=20
 ·subst gd;rw[gF (show(Nd.mk 20 t l a).kind=20 from rfl)];have D:cA 20 [(aa d).expr,(aa d).expr] (au cU (.mk 20 t l a))=true:=D;obtain⟨x,l',a',e,I,h0⟩:=aN (by decide) D;injection e with _ M e2 _;subst M e2;obtain⟨y,z,rfl,O,hz⟩:=ll h0;obtain⟨o1,o2,o3⟩:=MF I false;(have e:aH (my (bh d y)++(iV t::.gap 10::my (bh d z)))=aH (my (bh d y))++((6,t)::aH (my (bh d z))):=by rw[aR,o5];rfl);show Lv c false (aH (my (bh d y)++(iV t::.gap 10::my (bh d z)))) _ false;rw[e,wI,wI];have gg:Be t=true:=fO I (fun x=>Be x=true) (by decide +kernel);refine Lv.of_cha ((tK.sign (by decide)).app (by simp) gg _) ⟨_,_,rfl,by decide⟩ rfl (CQ a o1 o2 o3 ?_ ?_)
  ·exact ms (og (gP _) (eu (mf (N y O))))
  ·exact og (gP _) (eu (mf (N z hz)))
 rw[d5 (show ¬ (Nd.mk k t l a).kind=20 from gd)];by_cases gb:k=21
 ·subst gb;rw[gF (show(Nd.mk 21 t l a).kind=21 from rfl)];have D:(decide (t=(⟨#[]⟩:BA))&&(decide (0<l.length)&&l.all (aa d).expr))=true:=D;rw[gB,gB,gE,gE]at D;obtain⟨ht,hl,J⟩:=D;subst ht;cases l with
  |nil=>exact absurd hl (by show ¬ 0<0;omega)
  |cons f args=>rw[kz,gB]at J;(have e:aH (my (bh d f)++(bS 40::(y5 (args.map (bh d))++[bS 41])))=aH (my (bh d f))++((6,(⟨#[40]⟩:BA))::(IF ((args.map fun x=>(aH (bh d x),x)).map (·.1))++[(6,(⟨#[41]⟩:BA))])):=by rw[aR,it,aR,Nj,si,vq];rfl);show Lv c false (aH (my (bh d f)++(bS 40::(y5 (args.map (bh d))++[bS 41])))) _ false;rw[e,wI];(have hA:Bc c ⟨#[41]⟩ (args.map fun x=>(aH (bh d x),x)):=by intro p hp;obtain⟨x,I,rfl⟩:=List.mem_map.1 hp;have h:=N x (List.all_eq_true.1 J.2 x I);obtain⟨t,q,M,hb⟩:=h.beg;show cW (et (aH (bh d x))) ⟨#[41]⟩=false/\aH (bh d x)≠[]/\_;rw[M];refine⟨cr hb _ (by decide) (by decide) (by decide) (by decide) (by decide),by simp,?_⟩;rw[<-M];exact h.exp);have U:=Ii (m:=false) (head:=false) a (nE (N f J.1)) hA;rw[mN]at U;exact Lv.of_pri ((tK.sign (by decide)).app (by simp) (by decide +kernel) _) ⟨_,_,rfl,by decide,by decide,by decide⟩ (by show ¬ (21:Int)=20;decide) U
 rw[d5 (show ¬ (Nd.mk k t l a).kind=21 from gb)];by_cases ga:k=23
 ·subst ga;rw[gF (show(Nd.mk 23 t l a).kind=23 from rfl)];have D:cA 23 [(aa d).expr] (au aE (.mk 23 t l a))=true:=D;obtain⟨x,l',a',e,I,h0⟩:=aN (by decide) D;injection e with _ M e2 _;subst M e2;obtain⟨y,rfl,O⟩:=d8 h0;(have e:aH (my (bh d y)++[bS 46,mK t])=aH (my (bh d y))++[(6,(⟨#[46]⟩:BA)),(1,t)]:=by rw[aR,it,Mp];rfl);show Lv c false (aH (my (bh d y)++[bS 46,mK t])) _ false;rw[e,wI];exact Lv.of_pri ((tK.sign (by decide)).app (by simp) (by decide +kernel) _) ⟨_,_,rfl,by decide,by decide,by decide⟩ (by show ¬ (23:Int)=20;decide) (yT a (nE (N y O)))
 rw[d5 (show ¬ (Nd.mk k t l a).kind=23 from ga)];exact gh
theorem FM(c:Cx):∀d,SD c d
 |0=>fun _ h=>by cases h
 |d+1=>Nk (C6 c (d+1)).1 (FM c d)
end
theorem Dt(z:List It):sz (my z)=sz z+2:=by unfold my;rw[iU,dI,iU,fF];omega
theorem Om:∀(d:Nat),d<=1000->∀n,(aa d).expr n=true->sz (bh d n)+100<=oG n
 |0,_,_,h=>by cases h
 | d+1,hd,n,gd=>by
  have D:aA (aa d) n=true:=gd;have gb:=(FZ (d+1) 0 (by omega)).1 n false;have J:=Om d (by omega);obtain⟨k,t,l,a⟩:=n;have hw:=fW (.mk k t l a);unfold bh;by_cases ga:k=19
  ·subst ga;rw[gF (show(Nd.mk 19 t l a).kind=19 from rfl)];have D:cA 19 [(aa d).expr] (au dW (.mk 19 t l a))=true:=D;obtain⟨x,l',a',e,hx,h0⟩:=aN (by decide) D;injection e with _ e1 e2 _;subst e1 e2;obtain⟨y,rfl,M⟩:=d8 h0;have h1:=J y M;show sz (iV t::my (bh d y))+100<=_;rw[Ds,Dt];simp only[Nd.kids_mk,Nd.text_mk,sG]at hw;omega
  rw[d5 (show ¬ (Nd.mk k t l a).kind=19 from ga)];by_cases U:k=20
  ·subst U;rw[gF (show(Nd.mk 20 t l a).kind=20 from rfl)];have D:cA 20 [(aa d).expr,(aa d).expr] (au cU (.mk 20 t l a))=true:=D;obtain⟨x,l',a',e,hx,h0⟩:=aN (by decide) D;injection e with _ e1 e2 _;subst e1 e2;obtain⟨y,z,rfl,M,hz⟩:=ll h0;have h1:=J y M;have h2:=J z hz;show sz (my (bh d y)++(iV t::.gap 10::my (bh d z)))+100<=_;rw[dI,Ds,By,Dt,Dt];simp only[Nd.kids_mk,Nd.text_mk,sG]at hw;omega
  rw[d5 (show ¬ (Nd.mk k t l a).kind=20 from U)];by_cases O:k=21
  ·subst O;rw[gF (show(Nd.mk 21 t l a).kind=21 from rfl)];have D:(decide (t=(⟨#[]⟩:BA))&&(decide (0<l.length)&&l.all (aa d).expr))=true:=D;rw[gB,gB,gE,gE]at D;obtain⟨ht,hl,I⟩:=D;cases l with
   |nil=>exact absurd hl (by show ¬ 0<0;omega)
   |cons f args=>rw[kz,gB]at I;have h1:=J f I.1;(have h2:=Bz (fun x=>bh d x++[bS 44,.gap 10]) args fun x hx=>by have:=J x (List.all_eq_true.1 I.2 x hx);rw[dI,iU,By,fF];omega);show sz (my (bh d f)++(bS 40::(y5 (args.map (bh d))++[bS 41])))+100<=_;rw[dI,iU,dI,iU,Dt,fF,show y5 (args.map (bh d))=args.flatMap fun x=>bh d x++[bS 44,.gap 10]by unfold y5;rw[List.flatMap_map]];simp only[Nd.kids_mk,Nd.text_mk,sG]at hw;omega
  rw[d5 (show ¬ (Nd.mk k t l a).kind=21 from O)];by_cases N:k=23
  ·subst N;rw[gF (show(Nd.mk 23 t l a).kind=23 from rfl)];have D:cA 23 [(aa d).expr] (au aE (.mk 23 t l a))=true:=D;obtain⟨x,l',a',e,hx,h0⟩:=aN (by decide) D;injection e with _ e1 e2 _;subst e1 e2;obtain⟨y,rfl,M⟩:=d8 h0;have h1:=J y M;show sz (my (bh d y)++[bS 46,mK t])+100<=_;rw[dI,iU,Ak,Dt,fF];simp only[Nd.kids_mk,Nd.text_mk,sG]at hw;omega
  rw[d5 (show ¬ (Nd.mk k t l a).kind=23 from N)];exact gb
mutual
theorem On:∀n:Nd,oG n<=10000*mn n
 | .mk k t l a=>by have:=F1 l;rw[oG,mn];omega
theorem F1:∀l:List Nd,sG l<=10000*m7 l
 |[]=>gP _
 |n::l=>by have:=On n;have:=F1 l;rw[sG,m7];omega
end
end
end Go.Proofs.YtiebcdeafofgdaaGreatDoor
