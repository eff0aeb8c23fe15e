/-
  Parts of the proof: Ppz Pqa Pqb Pqc Pqd Pqe Pqf Pwd Pwe Pwf Pwa Pwb. By an AI agent.
-/
import Derived.Test.YtiebcdeafofgdaaGreatDoorJ21
import Derived.Test.YtiebcdeafofgdaaGreatDoorJ18
import Derived.Test.YtiebcdeafofgdaaGreatDoorJ00
import Derived.Test.YtiebcdeafofgdaaGreatDoorJ17
import Derived.Test.YtiebcdeafofgdaaGreatDoorJ06
import Derived.BigQuiet
set_option maxRecDepth 100000
set_option maxHeartbeats 8000000
namespace Go.Proofs.YtiebcdeafofgdaaGreatDoor
section
open Go.Lib
theorem NK{p:Prop}[Decidable p]{l:List It}(h:p->Pc l)(e:Bool)(r:List UInt8)(D:lz r):bB e (if p then l else[]) r:=by
 split
 ·exact(h ‹_›).ok e r D
 ·trivial
theorem NL{x:ByteArray}(D:ny (bytes x)=true/\bZ (d8 (bytes x))=1/\pC 2 (bytes x)=true):Pc [iy x]:=by
 refine⟨fun e r hr=>BJ ⟨D.1,D.2.1⟩ hr trivial,fun e=>D.2.2,?_⟩;rw[dB];show ∃b q,bytes x++_=b::q;cases I:bytes x with
 |nil=>rw[I]at D;cases D.1
 |cons b q=>exact⟨b,_,rfl⟩
theorem GA{x:ByteArray}(D:ny (bytes x)=true/\bZ (d8 (bytes x))=1){l z:List It}(M:∀e r,bB e l r)(I:Pc z):Pc (iy x::bc::(l++z)):=by
 refine⟨fun e r hr=>BJ D (lz.sp _) (fH (bB.app (M _ _) (I.ok _ r hr))),fun e=>?_,?_⟩
 ·show lR (pC 2 (bytes x)) (l++z)=true;rw[dC,I.fin]
 ·rw[dB];show ∃b q,bytes x++_=b::q;cases J:bytes x with
  |nil=>rw[J]at D;cases D.1
  |cons b q=>exact⟨b,_,rfl⟩
theorem Pc.sp{l:List It}(h:Pc l)(e:Bool)(r:List UInt8):bB e (l++[bc]) r:=bB.app (h.ok _ _ (lz.sp _)) (fH trivial)
section
variable {d:Nat} (hE:∀n deep head,(aj d).expr n=true->Pc ((ac d).expr n deep head)/\PU n ((ac d).expr n deep head)) (hB:∀n deep,(aj d).block n=true->Pc ((ac d).block n deep))
include hE
theorem GB{n:Nd}(deep:Nat)(D:dK (aj d) n=true):Pc (eS (ac d) n deep true):=by rw[<-pe _ (im D)];exact yX hE deep true D
theorem PX{i e p b:Nd}{a:Int}(deep:Nat)(D:aE i=true\/dK (aj d) i=true)(O:aE e=true\/(aj d).expr e=true)(N:aE p=true\/dK (aj d) p=true)(f:Bool)(r:List UInt8):bB f (si (ac d) (.mk 31 ⟨#[]⟩ [i,e,p,b] a) deep) r:=by
 have M:i.kind≠0->Pc (eS (ac d) i deep true):=fun h=>by
  rcases D with D|D
  ·obtain⟨a',rfl⟩:=bP D;exact absurd rfl h
  ·exact GB hE deep D
 have J:p.kind≠0->Pc (eS (ac d) p deep true):=fun h=>by
  rcases N with D|D
  ·obtain⟨a',rfl⟩:=bP D;exact absurd rfl h
  ·exact GB hE deep D
 have I:e.kind≠0->Pc ((ac d).expr e deep true):=fun h=>by
  rcases O with D|D
  ·obtain⟨a',rfl⟩:=bP D;exact absurd rfl h
  ·exact(hE e deep true D).1
 unfold si;show bB f (if i.kind≠0\/p.kind≠0 then(if i.kind≠0 then eS (ac d) i deep true else[])++(cX 59::bc::((if e.kind≠0 then(ac d).expr e deep true else[])++(cX 59::bc::(if p.kind≠0 then eS (ac d) p deep true++[bc]else[]))))else if e.kind≠0 then(ac d).expr e deep true++[bc]else[]) r;split
 ·refine bB.app (NK M _ _ (lz.sg (a:=59) (by decide) _)) (nE (by decide) (by rw[dB];show(32::_)++r≠[];simp) (fH ?_));refine bB.app (NK I _ _ (lz.sg (a:=59) (by decide) _)) (nE (by decide) (by rw[dB];show(32::_)++r≠[];simp) (fH ?_));split
  ·rename_i h;exact(J h).sp _ _
  ·trivial
 ·split
  ·rename_i h;exact(I h).sp _ _
  ·trivial
theorem NM{x:ByteArray}(N:ew x=true)(e:Bool)(r:List UInt8):bB e (ij x) r:=by
 have _:=hE;unfold ij;split
 ·trivial
 ·rename_i O;unfold ew at N;rw[jD O,vw,gH,gB,gB,gB]at N;(have J:∀{l:List UInt8},aO ⟨l.toArray⟩=true->∀{e z r},lz (ls z++r)->bB true z r->bB e (.tok 1 l::z) r:=by intro l hl e z r h1 h2;have:=yV (e:=e) hl h1 h2;unfold iN at this;rw[show bytes ⟨l.toArray⟩=l from bO l]at this;exact this);have D:∀e r,bB e [bc,pb ⟨#[58,61]⟩,bc] r:=fun e r=>fH ⟨Gz _,fH trivial⟩;unfold ev at N;rcases N with⟨hc,I,M⟩|⟨hc,I⟩
  ·rw[gB]at M;rw[gE hc];exact J I (lz.sg (a:=44) (by decide) _) (nE (by decide) (by show(32::_)++r≠[];simp) (fH (J M.1 (lz.sp _) (D _ _))))
  ·rw[gB]at I;rw[gA (by simpa using hc)];exact J I.1 (lz.sp _) (D _ _)
include hB
theorem RP(N:∀n deep,(aj d).ifS n=true->Pc ((ac d).stmt n deep false))(I:∀n deep,(aj d).block n=true->(ac d).stmt n deep false=(ac d).block n deep){n:Nd}(deep:Nat)(M:GQ (aj d) n=true):Pc (cr (ac d) n deep false):=by
 obtain⟨l,a,rfl,O⟩:=ch M;obtain⟨x,b,o,rfl,J,hb,D⟩:=DW O;unfold dv at D;rw[gH,gH]at D;show Pc (iy ⟨#[105,102]⟩::bc::((ac d).expr x deep true++(bc::((ac d).block b deep++(if o.kind=0 then[]else bc::iy ⟨#[101,108,115,101]⟩::bc::(ac d).stmt o deep false)))));refine oO ⟨by decide +kernel,by decide +kernel⟩ ((hE x deep true J).1.app (BL (Pc.opt (hB b deep hb) fun h=>?_)) fun r _=>lz.sp _);refine oO ⟨by decide +kernel,by decide +kernel⟩ ?_;rcases D with(D|D)|D
 ·obtain⟨a',rfl⟩:=bP D;exact absurd rfl h
 ·rw[I o deep D];exact hB o deep D
 ·exact N o deep D
theorem SK(hI:∀n deep,(aj d).ifS n=true->Pc ((ac d).stmt n deep false))(ga:∀n deep,(aj d).block n=true->(ac d).stmt n deep false=(ac d).block n deep)(hS:∀n deep,(aj d).stmt n=true->Pc ((ac d).stmt n deep false)){n:Nd}(deep:Nat)(D:eY (aj d) n=true):Pc (cr (ac d) n deep false):=by
 unfold eY at D;split at D
 ·rename_i h;unfold cr;rw[gE h];exact NJ hE deep D
 ·split at D
  ·exact yX hE deep false (by unfold dK;rw[D];rfl)
  ·split at D
   ·exact yX hE deep false (by unfold dK;rw[D,kP,gY])
   ·split at D
    ·exact yX hE deep false (by unfold dK;rw[D,kP,gY,gY])
    ·split at D
     ·exact yX hE deep false (by unfold dK;rw[D,gY,gY,gY])
     ·split at D
      ·exact RP hE hB hI ga deep D
      ·split at D
       ·obtain⟨l,a,rfl,M⟩:=ch D;obtain⟨i,e,p,b,rfl,I,O,U,hb⟩:=Pz M;unfold dv at I O U;rw[gH,gH,gH]at I U;rw[gH]at O;refine GA (l:=si (ac d) (.mk 31 ⟨#[]⟩ [i,e,p,b] a) deep) ⟨by decide +kernel,by decide +kernel⟩ (PX hE deep ?_ O ?_) (hB b deep hb)
        ·rcases I with(I|I)|(I|I)
         ·exact .inl I
         ·exact .inr (by unfold dK;rw[I];rfl)
         ·exact .inr (by unfold dK;rw[I,kP,gY])
         ·exact .inr (by unfold dK;rw[I,kP,gY,gY])
        ·rcases U with(I|I)|(I|I)
         ·exact .inl I
         ·exact .inr (by unfold dK;rw[I,kP,gY])
         ·exact .inr (by unfold dK;rw[I,kP,gY,gY])
         ·exact .inr (by unfold dK;rw[I,gY,gY,gY])
       ·split at D
        ·obtain⟨x,l,a,rfl,J,M⟩:=aJ (by decide) D;obtain⟨e,b,rfl,O,hb⟩:=li M;refine GA (l:=ij x) ⟨by decide +kernel,by decide +kernel⟩ (NM hE J) ?_;exact oO ⟨by decide +kernel,by decide +kernel⟩ ((hE e deep true O).1.app (BL (hB b deep hb)) fun r _=>lz.sp _)
        ·split at D
         ·obtain⟨l,a,rfl,M⟩:=ch D;obtain⟨x,rfl,J⟩:=ep M;unfold dv at J;rw[gH]at J;show Pc ([iy ⟨#[114,101,116,117,114,110]⟩]++(if x.kind=0 then[]else bc::(ac d).expr x deep false));refine Pc.opt (NL ⟨by decide +kernel,by decide +kernel,by decide +kernel⟩) fun h=>?_;rcases J with J|J
          ·obtain⟨a',rfl⟩:=bP J;exact absurd rfl h
          ·exact(hE x deep false J).1
         ·split at D
          ·rename_i N;rcases N with N|N
           ·rw[N]at D;obtain⟨l,a,rfl,M⟩:=ch D;exact NL ⟨by decide +kernel,by decide +kernel,by decide +kernel⟩
           ·rw[N]at D;obtain⟨l,a,rfl,M⟩:=ch D;exact NL ⟨by decide +kernel,by decide +kernel,by decide +kernel⟩
          ·unfold dj at D;rw[gB,gB,gC]at D;have N:n.kind=36:=D.1;unfold cr;rw[gA (by omega),gA (by omega),gA (by omega),gA (by omega),gA (by omega),gA (by omega),gA (by omega),gA (by omega),gA (by omega),gA (by omega),gA (by omega)];exact NI deep fun x J=>hS x (deep+1) (List.all_eq_true.1 D.2.2 x J)
end
def T7(d:Nat):Prop:=∀n deep head,(aj d).expr n=true->Pc ((ac d).expr n deep head)/\PU n ((ac d).expr n deep head)
def T8(d:Nat):Prop:=∀n deep,(aj d).block n=true->Pc ((ac d).block n deep)
def T9(d:Nat):Prop:=∀n deep,(aj d).stmt n=true->Pc ((ac d).stmt n deep false)
def Ua(d:Nat):Prop:=∀n deep,(aj d).ifS n=true->Pc ((ac d).stmt n deep false)
theorem yY(d:Nat):∀n deep,(aj d).block n=true->(ac d).stmt n deep false=(ac d).block n deep:=by
 intro n deep D;cases d with
 |zero=>cases D
 |succ d=>have hb:dj (aj d) n=true:=D;(have I:n.kind=36:=by unfold dj at hb;rw[gB,gC]at hb;exact hb.1);show cr (ac d) n deep false=_;unfold cr;rw[gA (by omega),gA (by omega),gA (by omega),gA (by omega),gA (by omega),gA (by omega),gA (by omega),gA (by omega),gA (by omega),gA (by omega),gA (by omega)];rfl
theorem GC:∀(d:Nat)n,(aj d).expr n=true->16<=n.kind
 |0,_,h=>by cases h
 |_+1,_,h=>(yO h).1
theorem FI:∀d,T7 d/\T8 d/\T9 d/\Ua d
 |0=>⟨fun _ _ _ h=>(by cases h),fun _ _ h=>(by cases h),fun _ _ h=>(by cases h),fun _ _ h=>(by cases h)⟩
 |d+1=>by obtain⟨hE,hB,I,J⟩:=FI d;refine⟨fun n deep head D=>SJ hE (GC d) hB deep head D,fun n deep D=>?_,fun n deep D=>SK hE hB J (yY d) I deep D,fun n deep D=>RP hE hB J (yY d) deep D⟩;have D:dj (aj d) n=true:=D;unfold dj at D;rw[gB,gB]at D;exact NI deep fun x hx=>I x (deep+1) (List.all_eq_true.1 D.2.2 x hx)
section
variable {d:Nat}
theorem PY{t:Nd}(I:oz (aj d) t=true):Pc (iE t.text++af d (aV t 0)):=by
 obtain⟨x,l,a,rfl,N,M⟩:=aJ (by decide) I;obtain⟨k,rfl,J⟩:=ep M;have D:=(om d J).1;show Pc (iE x++af d k);unfold iE;split
 ·exact D
 ·exact⟨fun e r hr=>nE (by decide) (stp_ne hr) (D.ok _ r hr),fun e=>D.fin _,⟨126,_,rfl⟩⟩
theorem SL(e:Bool)(r:List UInt8):bB e [bc,cX 124,bc] r:=
 fH ⟨.one (by decide +kernel) (by decide +kernel) fun h=>absurd h (by decide),fH trivial⟩
theorem NN{n:Nd}(I:ct (aj d) n=true):Pc (lN (af d) n):=by
 unfold ct at I;rw[gB,gB,gB]at I;have D:=List.all_eq_true.1 I.2.2.2;unfold lN;have J:ny (bytes ⟨#[105,110,116,101,114,102,97,99,101]⟩)=true/\bZ (d8 (bytes ⟨#[105,110,116,101,114,102,97,99,101]⟩))=1:=⟨by decide +kernel,by decide +kernel⟩;refine⟨fun e r hr=>BJ J (lz.sg (a:=123) (by decide) _) (nE (by decide) (by show(32::_)++r≠[];simp) (fH (bB.app (FF _ SL (fun z=>lz.sp _) _ (fun l hl=>?_) _ _ (lz.sp _)) (fH (nE (by decide) (stp_ne hr) trivial))))),fun e=>?_,⟨105,_,rfl⟩⟩
 ·obtain⟨t,M,rfl⟩:=List.mem_map.1 hl;exact PY (D t M)
 ·show lR (pC 6 [123]) (cv _ _++[bc,cX 125])=true;rw[dC];exact yW (.inr (.inr rfl))
theorem FJ{n:Nd}(D:(aj d).typ n=true\/ct (aj d) n=true):Pc (fL (ac d) n):=by
 unfold fL;rw[show(ac d).typ=af d from funext dY];rcases D with D|D
 ·have:=cR D;rw[gA (by omega)];exact(om d D).1
 ·(have I:n.kind=14:=by unfold ct at D;rw[gB,gC]at D;exact D.1);rw[gE I];exact NN D
theorem FK{n:Nd}(M:cC (aj d) n=true)(r:List UInt8)(J:lz r):bB true (fA (ac d) n) r/\lR true (fA (ac d) n)=true/\lz (ls (fA (ac d) n)++r):=by obtain⟨l,a,rfl,N⟩:=tr M;refine NF (f:=dS (ac d)) (l:=l) (fun p hp=>?_) r J;obtain⟨x,q,a',rfl,I,O⟩:=aJ (by decide) (List.all_eq_true.1 N p hp);obtain⟨k,rfl,D⟩:=ep O;refine pm I (FJ ?_);unfold dv fQ at D;rw[gH,gB]at D;exact D.imp (·.2) id
theorem SM{n:Nd}(M:cK (aj d) n=true):Pc (pd (ac d) n):=by
 unfold cK at M;rw[gB,gB]at M;have I:=List.all_eq_true.1 M.2.2;have D:∀l:List Nd,(∀x∈l,nZ (aj d) x=true)->∀r,bB false (l.flatMap (cS (ac d))) r/\lR false (l.flatMap (cS (ac d)))=false:=by
  intro l;induction l with
  |nil=>exact fun _ _=>⟨trivial,rfl⟩
  |cons x l ih=>
   intro h r;have ih:=ih (fun y J=>h y (by simp[J]));have N:∀r,bB false (cS (ac d) x) r/\lR false (cS (ac d) x)=false:=by
    intro r;obtain⟨y,q,a,rfl,J,h0⟩:=aJ (by decide) (h x (by simp));obtain⟨k,rfl,U⟩:=ep h0;have O:=pm J (om d U).1;(have e:cS (ac d) (.mk 9 y [k] a)=.gap 9::((iN y::bc::af d k)++[.nl]):=by show .gap 9::iN y::bc::((ac d).typ k++[.nl])=_;rw[dY];rfl);rw[e];refine⟨⟨.inr (.inl rfl),bB.app (O.ok _ _ (CE _)) ?_⟩,?_⟩
    ·rw[O.fin];exact⟨rfl,trivial⟩
    ·show lR false (_++[.nl])=false;rw[dC];rfl
   rw[jA];refine⟨bB.app (N _).1 ?_,?_⟩
   ·rw[(N r).2];exact(ih r).1
   ·rw[dC,(N r).2,(ih r).2]
 unfold pd;refine oO ⟨by decide +kernel,by decide +kernel⟩ ⟨fun e r hr=>nE (by decide) (by show(10::_)++r≠[];simp) ⟨.inr (.inr ⟨rfl,tI⟩),?_⟩,fun e=>?_,⟨123,_,rfl⟩⟩
 ·rw[tI];refine bB.app (D _ I _).1 (nE (by decide) (stp_ne hr) trivial)
 ·show lR (pC 6 [123]) (_++[cX 125])=true;rw[dC];exact yW (.inr (.inr rfl))
theorem CF{x y:ByteArray}(N:ny (bytes x)=true/\bZ (d8 (bytes x))=1)(J:aO y=true){l z:List It}(M:∀r,lz r->bB true l r/\lR true l=true/\lz (ls l++r))(I:Pc z)(D:∀r,lz (ls z++r)):Pc (iy x::bc::iN y::(l++z)):=by
 refine oO N ⟨fun e r hr=>yV J ?_ (bB.app (M _ (D r)).1 (I.ok _ r hr)),fun e=>?_,?_⟩
 ·rw[i8,gL];exact(M _ (D r)).2.2
 ·show lR true (l++z)=true;rw[dC,I.fin]
 ·obtain⟨b,q,e,_⟩:=rz J (l++z);exact⟨b,q,e⟩
theorem SN{n:Nd}(J:f8 (aj d) n=true):Pc (eN (ac d) n):=by
 have hF:(ac d).typ=af d:=funext dY;unfold f8 at J;unfold eN;split at J
 ·rename_i h;rw[gE h];obtain⟨x,l,a,rfl,N,M⟩:=aJ (by decide) J;obtain⟨ps,sg,b,rfl,I,U,hb⟩:=DW M;rw[hF];refine CF ⟨by decide +kernel,by decide +kernel⟩ N (FK I) ((CC (.inl rfl) (fun n h=>(om d h).1) U).app (BL ((FI d).2.1 b 0 hb)) fun r _=>lz.sp _) fun r=>?_;rw[i8,gL];exact FG _ _ _
 ·split at J
  ·rename_i M h;rw[gA M,gE h];obtain⟨x,l,a,rfl,N,O⟩:=aJ (by decide) J;obtain⟨ps,t,rfl,I,D⟩:=li O;refine CF ⟨by decide +kernel,by decide +kernel⟩ N (FK I) (BL ?_) fun r=>lz.sp _;show Pc (if t.kind=13 then pd (ac d) t else fL (ac d) t);unfold dv at D;rw[gH,gH]at D;rcases D with(D|D)|D
   ·have:=cR D;rw[gA (by omega)];exact FJ (.inl D)
   ·(have hk:t.kind=13:=by unfold cK at D;rw[gB,gC]at D;exact D.1);rw[gE hk];exact SM D
   ·(have hk:t.kind=14:=by unfold ct at D;rw[gB,gC]at D;exact D.1);rw[gA (by omega)];exact FJ (.inr D)
  ·split at J
   ·rename_i M O h;rw[gA M,gA O,gE h];obtain⟨x,l,a,rfl,N,h2⟩:=aJ (by decide) J;obtain⟨ps,t,rfl,I,D⟩:=li h2;rw[hF];have hp:=(om d D).1;exact CF ⟨by decide +kernel,by decide +kernel⟩ N (FK I) (BL ⟨fun e r hr=>⟨FH _,fH (hp.ok _ r hr)⟩,fun e=>hp.fin _,⟨61,_,rfl⟩⟩) fun r=>lz.sp _
   ·rename_i M O h2;rw[gA M,gA O,gA h2];exact NJ (FI d).1 0 J
theorem NO{n:Nd}(I:iT (aj d) n=true)(r:List UInt8):bB false (lO (ac d) n) r/\lR false (lO (ac d) n)=false:=by
 unfold iT at I;rw[gB,gB]at I;have D:=List.all_eq_true.1 I.2.2;have hd:∀l:List Nd,(∀x∈l,f8 (aj d) x=true)->∀r,bB false (l.flatMap fun x=>.gap 10::(eN (ac d) x++[.nl])) r/\lR false (l.flatMap fun x=>.gap 10::(eN (ac d) x++[.nl]))=false:=by
  intro l;induction l with
  |nil=>exact fun _ _=>⟨trivial,rfl⟩
  |cons x l ih=>
   intro h r;have ih:=ih (fun y hy=>h y (by simp[hy]));have M:=SN (h x (by simp));have J:∀r,bB false (.gap 10::(eN (ac d) x++[.nl])) r/\lR false (.gap 10::(eN (ac d) x++[.nl]))=false:=by
    intro r;refine⟨⟨.inr (.inr ⟨rfl,rfl⟩),bB.app (M.ok _ _ (CE _)) ?_⟩,?_⟩
    ·rw[M.fin];exact⟨rfl,trivial⟩
    ·show lR false (_++[.nl])=false;rw[dC];rfl
   rw[jA];refine⟨bB.app (J _).1 ?_,?_⟩
   ·rw[(J r).2];exact(ih r).1
   ·rw[dC,(J r).2,(ih r).2]
 have h:=hd _ D r;unfold lO;exact⟨BJ ⟨by decide +kernel,by decide +kernel⟩ (lz.sp _) (fH (yV I.2.1 (CE _) ⟨rfl,h.1⟩)),h.2⟩
theorem PZ{n:Nd}(D:iT (aj d) n=true):bB false (lO (ac d) n) []:=(NO D []).1
end
theorem tJ:∀(z:List It)(i:Nat),(dT i z).map OK=aF z
 |[],_=>rfl
 | .tok k x::z,i=>by show OK _::(dT _ z).map OK=_;rw[tJ z];rfl
 | .gap _::z,i=>tJ z _
 | .nl::z,i=>by show OK _::(dT _ z).map OK=_;rw[tJ z];rfl
def pw:It->Bool
 | .tok k x=>ik x&&(!(mV ⟨k,d8 x,0⟩) && !(l9 ⟨k,d8 x,0⟩))
 | .gap b=>decide (0<b.toNat)&&decide (b.toNat<128)
 | .nl=>true
def Gd(l:List It):Prop:=l.all pw=true
theorem Gd.app{a b:List It}(D:Gd a)(hb:Gd b):Gd (a++b):=by unfold Gd at *;rw[List.all_append,D,hb];rfl
theorem Gd.cons{a:It}{b:List It}(D:pw a=true)(hb:Gd b):Gd (a::b):=by unfold Gd at *;rw[kC,D,hb];rfl
theorem Gd.nil:Gd []:=rfl
theorem Gd.flat{α:Type}{f:α->List It}:∀{l:List α},(∀x∈l,Gd (f x))->Gd (l.flatMap f)
 |[],_=>rfl
 |x::l,h=>by rw[jA];exact(h x (by simp)).app (Gd.flat fun y hy=>h y (by simp[hy]))
theorem Gd.sep{s:List It}(hs:Gd s):∀{L:List (List It)},(∀l∈L,Gd l)->Gd (cv s L)
 |[],_=>rfl
 |[x],h=>h x (by simp)
 |x::y::L,h=>(h x (by simp)).app (hs.app (Gd.sep hs fun l hl=>h l (by simp[hl])))
theorem Gd.opt{p:Prop}[Decidable p]{a b:List It}(D:p->Gd a)(hb:¬ p->Gd b):Gd (if p then a else b):=by
 split
 ·exact D ‹_›
 ·exact hb ‹_›
theorem yZ{l:List UInt8}(h:l.all (fun c=>mh c||fk c)=true):ik l=true:=by(have key:∀b:Fin 256,(mh (UInt8.ofNat b.val)||fk (UInt8.ofNat b.val))=true->(decide (0<(UInt8.ofNat b.val).toNat)&&decide ((UInt8.ofNat b.val).toNat<128))=true:=by decide +kernel);unfold ik;rw[qC]at h |-;intro b hb;have:=key ⟨b.toNat,b.toNat_lt⟩;simpa using this (by simpa using h b hb)
theorem pn{l:List UInt8}(D:aO ⟨l.toArray⟩=true):pw (.tok 1 l)=true:=by
 (have h:eT l=true:=by unfold aO mi at D;rw[gB,gB]at D;exact D.2.1);have I:ik l=true:=by
  refine yZ ?_;cases l with
  |nil=>rfl
  |cons a l=>unfold eT at h;rw[gB]at h;rw[kC,h.1,h.2];rfl
 show(ik l&&(!(mV ⟨1,d8 l,0⟩) && !(l9 ⟨1,d8 l,0⟩)))=true;rw[I];rfl
theorem eV{x:ByteArray}(D:aO x=true):pw (iN x)=true:=pn D
theorem NP{x:ByteArray}(D:iI x=true):pw (.tok 4 (bytes x))=true:=by
 have I:=BB D;unfold iI at D;rw[gB,gH,gC]at D;have M:ik (bytes x)=true:=yZ (by have:=List.all_eq_true.1 D.1;exact List.all_eq_true.2 fun b hb=>by rw[this b hb,gY]);show(ik (bytes x)&&(!(mV ⟨4,d8 (bytes x),0⟩) && !(l9 ⟨4,d8 (bytes x),0⟩)))=true;rw[M,cT];have N:l9 ⟨4,x,0⟩=false:=by
  cases J:lA x with
  |some y=>show(true&&(lA x).isNone||_)=false;rw[J];rfl
  |none=>
   unfold lY at I;rw[J]at I;have I:(⟨#[]⟩:BA)=x:=I;subst I;rcases D.2 with h|h
   ·exact absurd h (by decide)
   ·exact absurd h (by decide)
 rw[N];rfl
theorem Eo{x:ByteArray}(h:x.size<=1000):ec (d8 (cj (bytes x)))=some x:=by
 have J:=BC (bytes x);rw[bN]at J;(have D:(d8 (cj (bytes x))).size=(cj (bytes x)).length:=by rw[<-bN,bO]);have hb:(d8 (cj (bytes x))).data.toList=cj (bytes x):=bO _;have I:mf (d8 (cj (bytes x)))=none:=nW _ _ 0 fun j _ hj=>yD (by rw[bO];exact rc _) j hj;unfold ec;rw[gA (by omega),hb,gA,gA (fun h=>h I),gE (by rfl)]
 ·(have e:(cj (bytes x)).extract 1 ((d8 (cj (bytes x))).size-1)=(bytes x).flatMap cu:=by rw[D];unfold cj;rw[qg];simp);rw[e,rb _ _ (by rw[bN];omega)];exact jH some (cm (bO _))
 ·rintro(h|h)
  ·omega
  ·refine h ?_;unfold cj;rw[List.getLast?_append];rfl
theorem I1{x:ByteArray}(h:x.size<=1000):pw (.tok 5 (cj (bytes x)))=true:=by show(ik (cj (bytes x))&&(!(mV ⟨5,d8 (cj (bytes x)),0⟩) && !(l9 ⟨5,d8 (cj (bytes x)),0⟩)))=true;rw[rc];(have D:l9 ⟨5,d8 (cj (bytes x)),0⟩=false:=by show(false||(true&&Qz0 (ec (d8 (cj (bytes x))))))=false;rw[Eo h];have I:decide (1000<x.size)=false:=jD (by omega);exact I);rw[D];rfl
theorem FL{F:dM}{f:Nd->List It}{so:ByteArray->Bool}(J:so=aO\/so=fK)(O:∀n,F.typ n=true->Gd (f n)){n:Nd}(hn:wK F so n=true):Gd (ez f n):=by
 obtain⟨ps,a1,res,a,rfl,M,D⟩:=sc hn;unfold ez;refine Gd.cons (by decide +kernel) ((Gd.sep (by unfold Gd;decide +kernel) fun l hl=>?_).app (Gd.cons (by decide +kernel) (Gd.opt (fun _=>rfl) fun h=>Gd.cons (by decide) ?_)))
 ·obtain⟨p,U,rfl⟩:=List.mem_map.1 hl;obtain⟨x,l,a,rfl,I,h0⟩:=aJ (by decide) (List.all_eq_true.1 M p U);obtain⟨k,rfl,hk⟩:=ep h0;show Gd (dR x++f k);refine Gd.app ?_ (O k hk);unfold dR;refine Gd.opt (fun _=>rfl) fun N=>?_;rcases J with rfl|rfl
  ·exact Gd.cons (eV I) (by unfold Gd;decide +kernel)
  ·unfold fK at I;rw[gC]at I;exact absurd I N
 ·rcases D with D|D
  ·obtain⟨a',rfl⟩:=bP D;exact absurd rfl h
  ·exact O res D
theorem oo:∀(d:Nat){n:Nd},(aj d).typ n=true->Gd (af d n)
 |0,_,h=>by cases h
 |d+1,n,h=>by
  have D:=cR h;have h:l5 (aj d) n=true:=h;have J:∀n,(aj d).typ n=true->Gd (af d n):=fun n h=>oo d h;unfold l5 at h;unfold af;rcases D with D|D|D
  ·rw[gA (by omega),gA (by omega),gA (by omega)];rw[gE D,gB]at h;refine Gd.cons (eV h.1) ?_;unfold nu;refine Gd.opt (fun _=>rfl) fun _=>Gd.cons (by decide +kernel) ((Gd.sep (by unfold Gd;decide +kernel) fun l hl=>?_).app (by unfold Gd;decide +kernel));obtain⟨x,M,rfl⟩:=List.mem_map.1 hl;exact J x (List.all_eq_true.1 h.2 x M)
  ·rw[gE D];rw[gA (by omega),gE D]at h;obtain⟨l,a,rfl,N⟩:=ch h;obtain⟨k,rfl,I⟩:=ep N;exact Gd.cons (by decide +kernel) (Gd.cons (by decide +kernel) (J k I))
  ·rw[gA (by omega),gE D];rw[gA (by omega),gA (by omega),gE D]at h;exact Gd.cons (by decide +kernel) (FL (.inr rfl) J h)
def TR(d:Nat):Prop:=∀n deep head,(aj d).expr n=true->Gd ((ac d).expr n deep head)
def TS(d:Nat):Prop:=∀n deep,(aj d).block n=true->Gd ((ac d).block n deep)
def TT(d:Nat):Prop:=∀n deep,(aj d).stmt n=true->Gd ((ac d).stmt n deep false)
def TU(d:Nat):Prop:=∀n deep,(aj d).ifS n=true->Gd ((ac d).stmt n deep false)
theorem Gd.c1{a:It}(h:pw a=true):Gd [a]:=Gd.cons h rfl
theorem FM:∀k,Gd (nI k)
 |0=>rfl
 |k+1=>Gd.cons (by decide) (FM k)
section
variable {d:Nat} (hE:TR d)
include hE
theorem oP{n:Nd}(yes:Bool)(deep:Nat)(head:Bool)(D:(aj d).expr n=true):Gd (aM (ac d) yes n deep head):=by unfold aM;exact Gd.opt (fun _=>Gd.cons (by decide +kernel) ((hE n deep false D).app (Gd.c1 (by decide +kernel)))) fun _=>hE n deep head D
theorem P0{x:Nd}(deep:Nat)(D:f9 (aj d) x=true):Gd (dy (ac d) deep x):=by
 unfold f9 at D;rw[gH,gB,gC]at D;unfold dy;rcases D with D|⟨I,D⟩
 ·have:=GC d x D;rw[gA (by omega)];exact hE x deep false D
 ·have:=cR D;rw[gE (by omega),dY];exact oo d D
theorem y5(deep:Nat){l:List Nd}(I:l.all (f9 (aj d))=true)(a:UInt8)(J:pw (cX a)=true):Gd (cv ci (l.map (dy (ac d) deep))++[cX a]):=by refine Gd.app (Gd.sep (by unfold Gd;decide +kernel) fun y hy=>?_) (Gd.c1 J);obtain⟨x,D,rfl⟩:=List.mem_map.1 hy;exact P0 hE deep (List.all_eq_true.1 I x D)
theorem SO(hB:TS d){n:Nd}(deep:Nat)(head:Bool)(D:dc (aj d) n=true):Gd (mI (ac d) n deep head):=by
 have hF:(ac d).typ=af d:=funext dY;(have ga:∀l:List Nd,l.all (aj d).expr=true->l.all (f9 (aj d))=true:=by intro l U;rw[qC]at U |-;intro x J;unfold f9;rw[U x J];rfl);unfold dc at D;unfold mI;split at D
 ·rename_i h;rw[gE h];obtain⟨x,l,a,rfl,J,I⟩:=aJ (by decide) D;exact Gd.c1 (NP J)
 ·split at D
  ·rename_i I h;rw[gA I,gE h];obtain⟨x,l,a,rfl,J,_⟩:=aJ (by decide) D;unfold iS at J;rw[gC]at J;exact Gd.c1 (I1 J)
  ·split at D
   ·rename_i I h1 h;rw[gA I,gA h1,gE h];obtain⟨x,l,a,rfl,J,_⟩:=aJ (by decide) D;exact Gd.c1 (eV J)
   ·split at D
    ·rename_i I h1 h2 h;rw[gA I,gA h1,gA h2,gE h];obtain⟨x,l,a,rfl,J,M⟩:=aJ (by decide) D;obtain⟨y,rfl,hy⟩:=ep M;unfold ng at J;rw[gH,gC,gC]at J;exact Gd.cons (by show pw (pb x)=true;rcases J with rfl|rfl<;>decide +kernel) (oP hE _ deep head hy)
    ·split at D
     ·rename_i I h1 h2 M h;rw[gA I,gA h1,gA h2,gA M,gE h];obtain⟨x,l,a,rfl,J,N⟩:=aJ (by decide) D;obtain⟨y,z,rfl,hy,hz⟩:=li N;have ge:pw (pb x)=true:=ry J (fun y=>pw (pb y)=true) (by decide +kernel);exact(oP hE _ deep head hy).app (Gd.cons (by decide) (Gd.cons ge (Gd.cons (by decide) (oP hE _ deep head hz))))
     ·split at D
      ·rename_i I h1 h2 M N h;rw[gA I,gA h1,gA h2,gA M,gA N,gE h];obtain⟨k,t,l,a⟩:=n;rw[gB,gB,gC,gC]at D;obtain⟨ht,U,O⟩:=D;cases l with
       |nil=>exact absurd U (by show ¬ 0<0;omega)
       |cons f args=>have O:((f::args).all (aj d).expr)=true:=O;rw[kC,gB]at O;exact(oP hE _ deep head O.1).app (Gd.cons (by decide +kernel) (y5 hE deep (ga args O.2) 41 (by decide +kernel)))
      ·split at D
       ·rename_i I h1 h2 M N h5 h;rw[gA I,gA h1,gA h2,gA M,gA N,gA h5,gE h];obtain⟨k,t,l,a⟩:=n;rw[gB,gB,gB,gC,gC]at D;obtain⟨ht,U,hf,O⟩:=D;cases l with
        |nil=>exact absurd U (by show ¬ 1<0;omega)
        |cons f args=>exact(oP hE _ deep head hf).app (Gd.cons (by decide +kernel) (y5 hE deep O 93 (by decide +kernel)))
       ·split at D
        ·rename_i I h1 h2 M N h5 h6 h;rw[gA I,gA h1,gA h2,gA M,gA N,gA h5,gA h6,gE h];obtain⟨x,l,a,rfl,J,h7⟩:=aJ (by decide) D;obtain⟨f,rfl,hf⟩:=ep h7;exact(oP hE _ deep head hf).app (Gd.cons (by decide +kernel) (Gd.c1 (eV J)))
        ·split at D
         ·rename_i I h1 h2 M N h5 h6 h7 h;rw[gA I,gA h1,gA h2,gA M,gA N,gA h5,gA h6,gA h7,gE h];obtain⟨k,t,l,a⟩:=n;rw[gB,gB,gB,gB,gC,gC,gC]at D;obtain⟨ht,U,gg,hT,O⟩:=D;cases l with
          |nil=>exact absurd U (by show ¬ 0<0;omega)
          |cons T args=>have hT:(aj d).typ T=true:=hT;(have gb:Gd (oJ (ac d) (.mk k t (T::args) a) deep):=by unfold oJ;rw[hF];exact(oo d hT).app (Gd.cons (by decide +kernel) (y5 hE deep (ga args O) 125 (by decide +kernel))));exact Gd.opt (fun _=>Gd.cons (by decide +kernel) (gb.app (Gd.c1 (by decide +kernel)))) fun _=>gb
         ·rename_i I h1 h2 M N h5 h6 h7 h8;rw[gA I,gA h1,gA h2,gA M,gA N,gA h5,gA h6,gA h7,gA h8];obtain⟨l,a,rfl,h9⟩:=ch D;obtain⟨sg,b,rfl,gd,hb⟩:=li h9;rw[hF];exact Gd.cons (by decide +kernel) ((FL (.inl rfl) (fun n h=>oo d h) gd).app (Gd.cons (by decide) (hB b deep hb)))
end
section
variable {d:Nat} (hE:TR d) (hB:TS d)
include hE
theorem NQ{n:Nd}(deep:Nat)(J:oU (aj d) n=true):Gd (pc (ac d) n deep):=by
 unfold oU at J;rw[gB]at J;obtain⟨x,l,a,rfl,M,N⟩:=aJ (by decide) J.1;obtain⟨t,v,rfl,I,D⟩:=li N;unfold dv at I D;rw[gH]at I D;refine Gd.cons (by decide +kernel) (Gd.cons (by decide) (Gd.cons (eV M) (Gd.app (Gd.opt (fun _=>rfl) fun h=>Gd.cons (by decide) ?_) (Gd.opt (fun _=>rfl) fun h=>Gd.cons (by decide) (Gd.cons (by decide +kernel) (Gd.cons (by decide) ?_))))))
 ·rw[dY];rcases I with I|I
  ·obtain⟨a',rfl⟩:=bP I;exact absurd rfl h
  ·exact oo d I
 ·rcases D with D|D
  ·obtain⟨a',rfl⟩:=bP D;exact absurd rfl h
  ·exact hE v deep false D
theorem y6{n:Nd}(deep:Nat)(head:Bool)(D:dK (aj d) n=true):Gd (cr (ac d) n deep head):=by
 unfold dK at D;rw[gH,gH,gH]at D;rcases D with D|D|D|D
 ·obtain⟨x,l,a,rfl,J,M⟩:=aJ (by decide) D;obtain⟨v,rfl,N⟩:=ep M;unfold ev at J;rw[gB]at J;exact Gd.cons (eV J.1) (Gd.cons (by decide) (Gd.cons (by decide +kernel) (Gd.cons (by decide) (hE v deep head N))))
 ·obtain⟨l,a,rfl,M⟩:=ch D;obtain⟨y,v,rfl,I,N⟩:=li M;exact(hE y deep head I).app (Gd.cons (by decide) (Gd.cons (by decide +kernel) (Gd.cons (by decide) (hE v deep head N))))
 ·obtain⟨x,l,a,rfl,J,M⟩:=aJ (by decide) D;obtain⟨y,rfl,I⟩:=ep M;unfold pu at J;rw[gH,gC,gC]at J;exact(hE y deep head I).app (Gd.c1 (by show pw (pb x)=true;rcases J with rfl|rfl<;>decide +kernel))
 ·obtain⟨l,a,rfl,M⟩:=ch D;obtain⟨y,rfl,I⟩:=ep M;unfold oA at I;rw[gB]at I;exact hE y deep head I.2
theorem P1{i e p b:Nd}{a:Int}(deep:Nat)(D:aE i=true\/dK (aj d) i=true)(M:aE e=true\/(aj d).expr e=true)(J:aE p=true\/dK (aj d) p=true):Gd (si (ac d) (.mk 31 ⟨#[]⟩ [i,e,p,b] a) deep):=by
 have hs:∀i:Nd,(aE i=true\/dK (aj d) i=true)->i.kind≠0->Gd (eS (ac d) i deep true):=fun i D h=>by
  rcases D with D|D
  ·obtain⟨a',rfl⟩:=bP D;exact absurd rfl h
  ·rw[<-pe _ (im D)];exact y6 hE deep true D
 have I:e.kind≠0->Gd ((ac d).expr e deep true):=fun h=>by
  rcases M with D|D
  ·obtain⟨a',rfl⟩:=bP D;exact absurd rfl h
  ·exact hE e deep true D
 unfold si;refine Gd.opt (fun _=>?_) fun _=>Gd.opt (fun h=>(I h).app (Gd.c1 (by decide))) fun _=>rfl;exact(Gd.opt (hs i D) fun _=>Gd.nil).app (Gd.cons (by decide +kernel) (Gd.cons (by decide) ((Gd.opt I fun _=>Gd.nil).app (Gd.cons (by decide +kernel) (Gd.cons (by decide) (Gd.opt (fun h=>(hs p J h).app (Gd.c1 (by decide))) fun _=>rfl))))))
omit hE in
theorem NR{x:ByteArray}(J:ew x=true):Gd (ij x):=by
 unfold ij;refine Gd.opt (fun _=>rfl) fun M=>?_;unfold ew at J;rw[jD M,vw,gH,gB,gB,gB]at J;unfold ev at J;refine Gd.app ?_ (by unfold Gd;decide +kernel);rcases J with⟨hc,D,I⟩|⟨hc,D⟩
 ·rw[gB]at I;rw[gE hc];exact Gd.cons (pn D) (Gd.cons (by decide +kernel) (Gd.cons (by decide) (Gd.c1 (pn I.1))))
 ·rw[gB]at D;rw[gA (by simpa using hc)];exact Gd.c1 (pn D.1)
include hB
theorem RQ(M:TU d){n:Nd}(deep:Nat)(J:GQ (aj d) n=true):Gd (cr (ac d) n deep false):=by
 obtain⟨l,a,rfl,N⟩:=ch J;obtain⟨x,b,o,rfl,I,hb,D⟩:=DW N;unfold dv at D;rw[gH,gH]at D;refine Gd.cons (by decide +kernel) (Gd.cons (by decide) ((hE x deep true I).app (Gd.cons (by decide) ((hB b deep hb).app (Gd.opt (fun _=>rfl) fun h=>Gd.cons (by decide) (Gd.cons (by decide +kernel) (Gd.cons (by decide) ?_)))))));show Gd ((ac d).stmt o deep false);rcases D with(D|D)|D
 ·obtain⟨a',rfl⟩:=bP D;exact absurd rfl h
 ·rw[yY d o deep D];exact hB o deep D
 ·exact M o deep D
omit hE hB in
theorem NS(I:TT d){n:Nd}(deep:Nat)(D:n.kids.all (aj d).stmt=true):Gd (og (ac d) n deep):=by unfold og;refine Gd.cons (by decide +kernel) (Gd.cons (by decide) (Gd.app (Gd.flat fun x hx=>(FM _).app ((I x (deep+1) (List.all_eq_true.1 D x hx)).app (Gd.c1 rfl))) ((FM _).app (Gd.c1 (by decide +kernel)))))
theorem SP(hI:TU d)(hS:TT d){n:Nd}(deep:Nat)(D:eY (aj d) n=true):Gd (cr (ac d) n deep false):=by
 unfold eY at D;split at D
 ·rename_i h;unfold cr;rw[gE h];exact NQ hE deep D
 ·split at D
  ·exact y6 hE deep false (by unfold dK;rw[D];rfl)
  ·split at D
   ·exact y6 hE deep false (by unfold dK;rw[D,kP,gY])
   ·split at D
    ·exact y6 hE deep false (by unfold dK;rw[D,kP,gY,gY])
    ·split at D
     ·exact y6 hE deep false (by unfold dK;rw[D,gY,gY,gY])
     ·split at D
      ·exact RQ hE hB hI deep D
      ·split at D
       ·obtain⟨l,a,rfl,M⟩:=ch D;obtain⟨i,e,p,b,rfl,I,O,U,hb⟩:=Pz M;unfold dv at I O U;rw[gH,gH,gH]at I U;rw[gH]at O;refine Gd.cons (by decide +kernel) (Gd.cons (by decide) ((P1 hE deep ?_ O ?_).app (hB b deep hb)))
        ·rcases I with(I|I)|(I|I)
         ·exact .inl I
         ·exact .inr (by unfold dK;rw[I];rfl)
         ·exact .inr (by unfold dK;rw[I,kP,gY])
         ·exact .inr (by unfold dK;rw[I,kP,gY,gY])
        ·rcases U with(I|I)|(I|I)
         ·exact .inl I
         ·exact .inr (by unfold dK;rw[I,kP,gY])
         ·exact .inr (by unfold dK;rw[I,kP,gY,gY])
         ·exact .inr (by unfold dK;rw[I,gY,gY,gY])
       ·split at D
        ·obtain⟨x,l,a,rfl,J,M⟩:=aJ (by decide) D;obtain⟨e,b,rfl,O,hb⟩:=li M;exact Gd.cons (by decide +kernel) (Gd.cons (by decide) ((NR J).app (Gd.cons (by decide +kernel) (Gd.cons (by decide) ((hE e deep true O).app (Gd.cons (by decide) (hB b deep hb)))))))
        ·split at D
         ·obtain⟨l,a,rfl,M⟩:=ch D;obtain⟨x,rfl,J⟩:=ep M;unfold dv at J;rw[gH]at J;refine Gd.cons (by decide +kernel) (Gd.opt (fun _=>rfl) fun h=>Gd.cons (by decide) ?_);show Gd ((ac d).expr x deep false);rcases J with J|J
          ·obtain⟨a',rfl⟩:=bP J;exact absurd rfl h
          ·exact hE x deep false J
         ·split at D
          ·rename_i N;rcases N with N|N
           ·rw[N]at D;obtain⟨l,a,rfl,M⟩:=ch D;exact Gd.c1 (by decide +kernel)
           ·rw[N]at D;obtain⟨l,a,rfl,M⟩:=ch D;exact Gd.c1 (by decide +kernel)
          ·unfold dj at D;rw[gB,gB,gC]at D;have N:n.kind=36:=D.1;unfold cr;rw[gA (by omega),gA (by omega),gA (by omega),gA (by omega),gA (by omega),gA (by omega),gA (by omega),gA (by omega),gA (by omega),gA (by omega),gA (by omega)];exact NS hS deep D.2.2
end
theorem FN:∀d,TR d/\TS d/\TT d/\TU d
 |0=>⟨fun _ _ _ h=>(by cases h),fun _ _ h=>(by cases h),fun _ _ h=>(by cases h),fun _ _ h=>(by cases h)⟩
 |d+1=>by obtain⟨hE,hB,I,J⟩:=FN d;refine⟨fun n deep head D=>SO hE hB deep head D,fun n deep D=>?_,fun n deep D=>SP hE hB J I deep D,fun n deep D=>RQ hE hB J deep D⟩;have D:dj (aj d) n=true:=D;unfold dj at D;rw[gB,gB]at D;exact NS I deep D.2.2
section
variable {d:Nat}
theorem FO{n:Nd}(D:(aj d).typ n=true\/ct (aj d) n=true):Gd (fL (ac d) n):=by
 unfold fL;rw[show(ac d).typ=af d from funext dY];rcases D with D|D
 ·have:=cR D;rw[gA (by omega)];exact oo d D
 ·unfold ct at D;rw[gB,gB,gB,gC]at D;rw[gE D.1];unfold lN;refine Gd.cons (by decide +kernel) (Gd.cons (by decide +kernel) (Gd.cons (by decide) ((Gd.sep (by unfold Gd;decide +kernel) fun l hl=>?_).app (by unfold Gd;decide +kernel))));obtain⟨t,I,rfl⟩:=List.mem_map.1 hl;obtain⟨x,l,a,rfl,N,M⟩:=aJ (by decide) (List.all_eq_true.1 D.2.2.2 t I);obtain⟨k,rfl,J⟩:=ep M;refine Gd.app ?_ (oo d J);unfold iE;exact Gd.opt (fun _=>rfl) fun _=>by unfold Gd;decide +kernel
theorem FP{n:Nd}(M:cC (aj d) n=true):Gd (fA (ac d) n):=by obtain⟨l,a,rfl,N⟩:=tr M;unfold fA nu;refine Gd.opt (fun _=>rfl) fun _=>Gd.cons (by decide +kernel) ((Gd.sep (by unfold Gd;decide +kernel) fun y hy=>?_).app (by unfold Gd;decide +kernel));obtain⟨p,J,rfl⟩:=List.mem_map.1 hy;obtain⟨x,q,a',rfl,I,O⟩:=aJ (by decide) (List.all_eq_true.1 N p J);obtain⟨k,rfl,D⟩:=ep O;refine Gd.cons (eV I) (Gd.cons (by decide) (FO ?_));unfold dv fQ at D;rw[gH,gB]at D;exact D.imp (·.2) id
theorem SQ{n:Nd}(D:cK (aj d) n=true):Gd (pd (ac d) n):=by unfold cK at D;rw[gB,gB]at D;refine Gd.cons (by decide +kernel) (Gd.cons (by decide) (Gd.cons (by decide +kernel) (Gd.cons (by decide) (Gd.app (Gd.flat fun x hx=>?_) (by unfold Gd;decide +kernel)))));obtain⟨y,q,a,rfl,I,M⟩:=aJ (by decide) (List.all_eq_true.1 D.2.2 x hx);obtain⟨k,rfl,J⟩:=ep M;unfold cS;rw[dY];exact Gd.cons (by decide) (Gd.cons (eV I) (Gd.cons (by decide) ((oo d J).app (Gd.c1 rfl))))
theorem SR{n:Nd}(J:f8 (aj d) n=true):Gd (eN (ac d) n):=by
 have hF:(ac d).typ=af d:=funext dY;unfold f8 at J;unfold eN;split at J
 ·rename_i h;rw[gE h];obtain⟨x,l,a,rfl,N,M⟩:=aJ (by decide) J;obtain⟨ps,sg,b,rfl,I,U,hb⟩:=DW M;rw[hF];exact Gd.cons (by decide +kernel) (Gd.cons (by decide) (Gd.cons (eV N) ((FP I).app ((FL (.inl rfl) (fun n h=>oo d h) U).app (Gd.cons (by decide) ((FN d).2.1 b 0 hb))))))
 ·split at J
  ·rename_i M h;rw[gA M,gE h];obtain⟨x,l,a,rfl,N,O⟩:=aJ (by decide) J;obtain⟨ps,t,rfl,I,D⟩:=li O;refine Gd.cons (by decide +kernel) (Gd.cons (by decide) (Gd.cons (eV N) ((FP I).app (Gd.cons (by decide) ?_))));show Gd (if t.kind=13 then pd (ac d) t else fL (ac d) t);unfold dv at D;rw[gH,gH]at D;rcases D with(D|D)|D
   ·have:=cR D;rw[gA (by omega)];exact FO (.inl D)
   ·(have hk:t.kind=13:=by unfold cK at D;rw[gB,gC]at D;exact D.1);rw[gE hk];exact SQ D
   ·(have hk:t.kind=14:=by unfold ct at D;rw[gB,gC]at D;exact D.1);rw[gA (by omega)];exact FO (.inr D)
  ·split at J
   ·rename_i M O h;rw[gA M,gA O,gE h];obtain⟨x,l,a,rfl,N,h2⟩:=aJ (by decide) J;obtain⟨ps,t,rfl,I,D⟩:=li h2;rw[hF];exact Gd.cons (by decide +kernel) (Gd.cons (by decide) (Gd.cons (eV N) ((FP I).app (Gd.cons (by decide) (Gd.cons (by decide +kernel) (Gd.cons (by decide) (oo d D)))))))
   ·rename_i M O h2;rw[gA M,gA O,gA h2];exact NQ (FN d).1 0 J
theorem P2{n:Nd}(D:iT (aj d) n=true):Gd (lO (ac d) n):=by unfold iT at D;rw[gB,gB]at D;exact Gd.cons (by decide +kernel) (Gd.cons (by decide) (Gd.cons (eV D.2.1) (Gd.cons rfl (Gd.flat fun x hx=>Gd.cons (by decide) ((SR (List.all_eq_true.1 D.2.2 x hx)).app (Gd.c1 rfl))))))
end
theorem Ep:∀{z:List It},Gd z->ik (ls z)=true
 |[],_=>rfl
 |a::z,h=>by
  unfold Gd at h;rw[kC,gB]at h;have ih:=Ep (z:=z) h.2;unfold ik at ih |-;rw[dB,List.all_append,ih,Bool.and_true];cases a with
  |tok k x=>have D:(ik x&&_)=true:=h.1;rw[gB]at D;exact D.1
  |gap b=>have D:(decide (0<b.toNat)&&decide (b.toNat<128))=true:=h.1;show((decide (0<b.toNat)&&decide (b.toNat<128))&&true)=true;rw[D];rfl
  |nl=>rfl
theorem wt:∀{z:List It}(i:Nat),Gd z->∀t∈dT i z,mV t=false/\l9 t=false
 |[],_,_,t,D=>by simp[dT]at D
 |a::z,i,h,t,D=>by
  unfold Gd at h;rw[kC,gB]at h;cases a with
  |tok k x=>
   have D:t∈(⟨k,d8 x,(i:Int)⟩:cY)::dT (i+x.length) z:=D;rcases List.mem_cons.1 D with rfl|D
   ·have I:(ik x&&(!(mV ⟨k,d8 x,0⟩) && !(l9 ⟨k,d8 x,0⟩)))=true:=h.1;rw[gB,gB,qr,qr]at I;exact I.2
   ·exact wt _ h.2 t D
  |gap b=>exact wt _ h.2 t D
  |nl=>
   have D:t∈(⟨6,⟨#[10]⟩,(i:Int)⟩:cY)::dT (i+1) z:=D;rcases List.mem_cons.1 D with rfl|D
   ·exact⟨by show(decide ((6:Int)=3)||_)=false;(have:Lib.contains rq.data.toList ((⟨#[32]⟩++(⟨#[10]⟩:BA)++⟨#[32]⟩:ByteArray)).data.toList=false:=by decide +kernel);show(false||((true&&Lib.contains rq.data.toList ((⟨#[32]⟩++(⟨#[10]⟩:BA)++⟨#[32]⟩:ByteArray)).data.toList)||false))=false;rw[this];rfl,rfl⟩
   ·exact wt _ h.2 t D
theorem I2{l:List cY}(h:∀t∈l,mV t=false/\l9 t=false):pS l=none:=by unfold pS;rw[List.find?_eq_none.2 fun t ht=>by rw[(h t ht).1];decide,List.find?_eq_none.2 fun t ht=>by rw[(h t ht).2];decide];rfl
theorem wu:∀(z y:List It)(i:Nat),dT i (z++y)=dT i z++dT (i+(ls z).length) y
 |[],y,i=>rfl
 |a::z,y,i=>by
  rw[dB,gJ,<-Nat.add_assoc];cases a with
  |tok k x=>show _::dT (i+x.length) (z++y)=_;rw[wu z y];rfl
  |gap b=>show dT (i+1) (z++y)=_;rw[wu z y];rfl
  |nl=>show _::dT (i+1) (z++y)=_;rw[wu z y];rfl
theorem NT(F:uR)(n:Nd):∃z,lO F n=z++[.nl]:=by
 unfold lO;rcases List.eq_nil_or_concat n.kids with h|⟨l,x,h⟩
 ·rw[h];exact⟨[iy ⟨#[112,97,99,107,97,103,101]⟩,bc,iN n.text],rfl⟩
 ·rw[h,List.concat_eq_append,kO];refine⟨iy ⟨#[112,97,99,107,97,103,101]⟩::bc::iN n.text::.nl::((l.flatMap fun d=>.gap 10::(eN F d++[.nl]))++(.gap 10::eN F x)),?_⟩;simp
theorem I3{n:Nd}(M:de n=true)(I:(d8 (ls (lO (ac 100) n))).size<=65536):∃m,iW fG (d8 (ls (lO (ac 100) n)))=.tree m/\cA m n:=by(have N:iT (aj 100) n=true:=by unfold de at M;rw[gB,gB]at M;exact M.2.2);have h:=PZ N;have U:=P2 N;obtain⟨z',e⟩:=NT (ac 100) n;obtain⟨z,hZ⟩:∃z,lO (ac 100) n=z:=⟨_,rfl⟩;rw[hZ]at h U I e |-;obtain⟨t,hT⟩:∃t,d8 (ls z)=t:=⟨_,rfl⟩;rw[hT]at I |-;(have hb:bytes t=ls z:=by rw[<-hT];exact bO _);have D:=M2 hb I (by rw[hb];exact Ep U) h;(have O:ed (dT 0 z)=false:=by rw[e,wu];show ed (_++[⟨6,⟨#[10]⟩,_⟩])=false;rw[ol];exact Bu _);rw[D6 O]at D;have J:=I2 (wt 0 U);have ga:=(nr D).2.1;(have hA:At ⟨dT 0 z,(t.size:Int)⟩ ⟨0,false,-1⟩ (aF (lO (ac 100) n)):=by refine⟨gP _,?_⟩;show((dT 0 z).drop 0).map OK=_;rw[kW,tJ,hZ]);obtain⟨m,s',h1,h2,h3⟩:=NA N (G:=200000) hA rfl rfl (by show 3*((dT 0 z).length-0)+3<=200000;omega);refine⟨m,?_,h2⟩;(have ht:cN t=.toks (dT 0 z):=by unfold cN;rw[D];simp only;rw[J]);unfold iW;rw[ht];show mo ⟨dT 0 z,(t.size:Int)⟩ (fY (cF 200000) ⟨dT 0 z,(t.size:Int)⟩ ⟨0,false,-1⟩)=_;rw[h1];show(if s'.at_<(dT 0 z).length then _ else if de m=true then _ else _)=_;rw[gA (by rw[h3];exact Nat.lt_irrefl _),gE (by rw[h2.right];exact M)]
end
section
theorem CG(n:Nd)(i:Nat):aV (mN n) i=mN (aV n i):=by
 unfold aV;rw[eB,gN,gN,vh];cases n.kids[i]? with
 |none=>rfl
 |some x=>rfl
theorem GD:∀(d:Nat)(n:Nd),af d (mN n)=af d n
 |0,_=>rfl
 |d+1,n=>by have ih:=GD d;unfold af lN ez nu;simp only[dO,fB,CG,eB,ih,ql,Function.comp_def,List.map_eq_nil_iff]
theorem NU:∀(d:Nat),(∀n,(ac d).typ (mN n)=(ac d).typ n)/\(∀n deep head,(ac d).expr (mN n) deep head=(ac d).expr n deep head)/\(∀n deep,(ac d).block (mN n) deep=(ac d).block n deep)/\∀n deep head,(ac d).stmt (mN n) deep head=(ac d).stmt n deep head
 |0=>⟨fun _=>rfl,fun _ _ _=>rfl,fun _ _=>rfl,fun _ _ _=>rfl⟩
 |d+1=>by
  obtain⟨hT,hE,hB,I⟩:=NU d;(have M:∀deep x,dy (ac d) deep (mN x)=dy (ac d) deep x:=by intro deep x;unfold dy;rw[dO,hT,hE]);(have N:∀n deep,di (ac d) (mN n) deep=di (ac d) n deep:=by intro n deep;unfold di;rw[eB,<-List.map_drop,ql];simp only[Function.comp_def,M]);(have J:∀yes n deep head,aM (ac d) yes (mN n) deep head=aM (ac d) yes n deep head:=by intro yes n deep head;unfold aM;rw[hE,hE]);(have D:∀n deep,og (ac d) (mN n) deep=og (ac d) n deep:=by intro n deep;unfold og;simp only[eB,vt,I]);refine⟨GD (d+1),fun n deep head=>?_,D,fun n deep head=>?_⟩
  ·show mI (ac d) (mN n) deep head=mI (ac d) n deep head;unfold mI oJ ez fa fb eM dr;simp only[dO,fB,CG,eB,hT,hB,N,J,ql,Function.comp_def]
  ·show cr (ac d) (mN n) deep head=cr (ac d) n deep head;unfold cr pc si eS;simp only[dO,fB,CG,hT,hE,hB,I,D]
theorem P3(d:Nat)(n:Nd):eN (ac d) (mN n)=eN (ac d) n:=by obtain⟨hT,hE,hB,D⟩:=NU d;unfold eN fA nu dS fL lN pd cS ez pc;simp only[dO,fB,CG,eB,hT,hE,hB,ql,Function.comp_def,List.map_eq_nil_iff,vt]
theorem GE(d:Nat)(n:Nd):lO (ac d) (mN n)=lO (ac d) n:=by unfold lO;simp only[fB,eB,vt,P3]
theorem cA.fil{n m:Nd}(h:cA n m)(d:Nat):lO (ac d) n=lO (ac d) m:=by rw[<-GE d n,<-GE d m,show mN n=mN m from h]
end
section
open Go.RowKit Go.Lib Go.Proofs
attribute [local go_sem ↓] Go.wp_at_zero Go.wp_at_succ
def uU(f:Nd->List It)(p:Nd):List It:=dR p.text++f (aV p 0)
theorem S1(f:Nd->List It)(l:List Nd)(b:Nd)(q p:Int):tx (ez f (.mk 12 ⟨#[]⟩ [.mk 6 ⟨#[]⟩ l q,b] p))=(⟨#[40]⟩:BA)++tx (cv ci (l.map (uU f)))++(⟨#[41]⟩:BA)++(if b.kind=0 then(⟨#[]⟩:BA)else(⟨#[32]⟩:BA)++tx (f b)):=by
 show tx (cX 40::(cv ci (l.map (uU f))++(cX 41::(if b.kind=0 then[]else bc::f b))))=_;rw[aC,bG,aC (cX 41),GH,GH,aA,aA];split
 ·rfl
 ·rw[aC,Ae]
theorem Af(d:Nat)(HT:P5 37 (aj d).typ (af d)){so:ByteArray->Bool}:P5 38 (wK (aj d) so) (ez (af d)):=by
 intro v n w hv hn hM;obtain⟨l,q,b,p,rfl,hl,hb⟩:=sc hn;have gm:=hid HT;have HL:=hid (List.all_eq_true.1 hl);have HB:=hid hb;have HR:=hid (S1 (af d) l b q p);rw[HR.out,gD,gD,gD]at hM;obtain⟨A,cp,rfl,hC⟩:=hv.toC;have yk:=rC ci (by decide) (uU (af d)) l;clear hn hl hb HT hC;have hB:=(aH w #[.int .i64 12,.string ⟨#[]⟩,.slice A 2 cp,.int .i64 p]).1;have ge:bR w (.agg #[.int .i64 12,.string ⟨#[]⟩,.slice A 2 cp,.int .i64 p]) (.mk 12 ⟨#[]⟩ [.mk 6 ⟨#[]⟩ l q,b] p):=hv;have gs:=(aH w #[.int .i64 12,.string ⟨#[]⟩,.slice A 2 cp,.int .i64 p]).2;obtain⟨bk,off,A0,c0,rfl,ha⟩:=eR ge 0 (by simp);obtain⟨bk',off',A1,c1,e,hb⟩:=eR ge 1 (by simp);injection e with e;injection e with e1 e2;subst e1 e2;simp only[Nd.kids_mk,jM,vc,kE,jP,vB]at ha hb;have ha:=ha.below hB;have hb:=hb.below hB;have gv:=hid (show bR _ (.agg #[.int .i64 6,.string ⟨#[]⟩,.slice A0 l.length c0,.int .i64 q]) (.mk 6 ⟨#[]⟩ l q)from ha.2.2.2.2);have gw:=hid hb;obtain⟨a0,a1,a2,a3,-⟩:=ha;simp only[Nd.kind_mk,Nd.text_mk,Nd.kids_mk,Nd.pos_mk]at a0 a1 a2 a3;clear hv ge hb;(go_enter Tryz.func38,Tryz.ntmps38);(go_wp2_with fail);generalize w.alloc (.cells #[.int .i64 12,.string ⟨#[]⟩,.slice (some ⟨bk,off,none⟩) 2 cp,.int .i64 p] 24)=w0 at *;go_loopg [3,5] l.length (fun k u3 u5 wr=>∃i:Nat,i<=l.length/\l.length-i<=k/\u5=.int .i64 (i:Int)/\u3=.string ((⟨#[40]⟩:BA)++tx (cv ci ((l.take i).map (uU (af d)))))/\Below w0 w0 wr)
 case atStart=>exact⟨0,gP _,by omega,rfl,rfl,gG _ _⟩
 case round=>
  obtain⟨i,hi,hk,rfl,rfl,N⟩:=hrel;have gq:=mu ci (uU (af d)) l i hi;by_cases O:i<l.length
  ·(have gj:(i:Int)<(l.length:Int):=by omega);(have h0:(0:Int)<=(i:Int):=by omega);obtain⟨bp,op,A2,c2,gu,hp⟩:=eR (aq.below gv.out N) i O;simp only[Nd.kids_mk]at hp;subst gu;have D:=hid (uo ci (uU (af d)) l i O);have I:=mu ci (uU (af d)) l (i+1) O;rw[D.out,gD,gD]at I;have gn:=hid (S0 (HL.out _ (jC O)));generalize l[i]=q1 at *;obtain⟨t,x,pp,rfl,gp,hx⟩:=gn.out;have HX:=hid hx;have gh:Hid (uU (af d) (.mk 8 t [x] pp)=dR t++af d x):=hid rfl;rw[gh.out]at D;rw[gh.out,bG,gD]at I;obtain⟨bx,ox,A3,c3,rfl,ga⟩:=eR hp.2.2.2.2 0 (by simp);simp only[Nd.kids_mk,jM,kE,jP]at ga;have gg:=hid (gm.out _ x wr ga.2.2.2.2 HX.out (by omega));obtain⟨p0,p1,p2,p3,-⟩:=hp;obtain⟨x0,x1,x2,x3,-⟩:=ga;simp only[Nd.kind_mk,Nd.text_mk,Nd.kids_mk,Nd.pos_mk]at p0 p1 p2 p3;rw[bG]at D;generalize tx (cv ci ((l.take i).map (uU (af d))))=S at *;generalize tx (af d x)=X at *;clear gn hx gp gh;by_cases U:t=(⟨#[]⟩:BA)<;>rcases kQ i with J|J;subst U;(have gb:¬ (0:Int)<(i:Int):=by omega);rw[sw ci J,Et]at D I;simp only[ms]at D
   rotate_left
   subst U;(have gb:(0:Int)<(i:Int):=by omega);rw[sx ci J,Et,un]at D I;simp only[ms]at D
   rotate_left
   (have gi:t.toList.isEmpty=false:=by rw[aK];simpa using U);(have gb:¬ (0:Int)<(i:Int):=by omega);rw[sw ci J,GI t U]at D I;rw[gD]at I;simp only[ms]at D;clear U
   rotate_left
   (have gi:t.toList.isEmpty=false:=by rw[aK];simpa using U);(have gb:(0:Int)<(i:Int):=by omega);rw[sx ci J,GI t U,un]at D I;rw[gD]at I;clear U
   rotate_left
   (all_goals clear J);all_goals
    (go_wp2_with fail);refine gg.out.mono ?_;rintro e w3⟨rfl,gd⟩;clear p0 p1 p2 p3 x0 x1 x2 x3;(go_wp2_with fail);go_roundg (l.length-(i+1))
    case measure=>omega
    case rel=>exact⟨i+1,by omega,d5 _,by go_num,by rw[D.out];simp only[aA],a8 N gd⟩
  ·(have gj:¬ (i:Int)<(l.length:Int):=by omega);have D:=hid (show tx (cv ci ((l.take i).map (uU (af d))))=tx (cv ci (l.map (uU (af d))))by rw[jK (by omega)]);rw[<-D.out]at HR hM gq yk;generalize tx (cv ci ((l.take i).map (uU (af d))))=S at *;obtain⟨n0,n1,n2,n3,-,-,-,-⟩:=ag (gs.bl N);have gl:=gw.out.below N;have gr:=gl.2.2.2.2;obtain⟨b0,b1,b2,b3,-⟩:=gl;by_cases M:b.kind=0
   ·rw[gE M]at HR hM;rw[M]at b0;(go_wp2_with fail);go_ret;exact⟨by rw[HR.out,pq];rfl,a8 hB N⟩
   ·rw[gA M]at HR hM;rw[gD]at hM;(have gi:(b.kind != 0)=true:=by simpa using M);have gg:=hid (gm.out _ b wr gr (HB.out.resolve_left (fun h=>by obtain⟨a,rfl⟩:=bP h;exact M rfl)) (by omega));generalize tx (af d b)=X at *;clear M;(go_wp2_with fail);refine gg.out.mono ?_;rintro e w3⟨rfl,gd⟩;clear n0 n1 n2 n3 b0 b1 b2 b3;(go_wp2_with fail);go_ret;have gt:=a8 N gd;exact⟨by rw[HR.out];simp only[aA];rfl,a8 hB gt⟩
theorem Ob{x:ByteArray}(h:x≠(⟨#[]⟩:BA)):0<x.size:=by
 rcases kQ x.size with D|D
 ·exact absurd (ByteArray.size_eq_zero_iff.1 D) h
 ·exact D
theorem Ah{d:Nat}{n:Nd}(h:(aj (d+1)).typ n=true):
  (∃t l p,n=.mk 10 t l p/\aO t=true/\l.all (aj d).typ=true)\/(∃x p,n=.mk 11 ⟨#[]⟩ [x] p/\(aj d).typ x=true)\/(n.kind=12/\wK (aj d) fK n=true):=by
 have h:l5 (aj d) n=true:=h;unfold l5 at h;split at h
 ·rename_i I;rw[gB]at h;exact .inl ⟨n.text,n.kids,n.pos,by rw[<-I];exact n.eta,h⟩
 ·split at h
  ·rename_i O I;unfold fc at h;rw[gB,gB,gC,gC]at h;obtain⟨-,D,N⟩:=h;obtain⟨x,J,M⟩:=ep N;exact .inr (.inl ⟨x,n.pos,by rw[<-I,<-D,<-J];exact n.eta,M⟩)
  ·split at h
   ·rename_i D;exact .inr (.inr ⟨D,h⟩)
   ·cases h
theorem BM(g:Nat)(t:ByteArray)(l:List Nd)(p:Int):tx (af (g+1) (.mk 10 t l p))=t++tx (nu (af g) l):=by show tx (iN t::nu (af g) l)=_;rw[aC,py]
theorem Oc(f:Nd->List It)(l:List Nd):tx (nu f l)=if l=[]then(⟨#[]⟩:BA)else(⟨#[91]⟩:BA)++(tx (cv ci (l.map f))++(⟨#[93]⟩:BA)):=by
 unfold nu;split
 ·rfl
 ·rw[aC,bG,GH,GH]
theorem BN(g:Nat)(x:Nd)(p:Int):tx (af (g+1) (.mk 11 ⟨#[]⟩ [x] p))=(⟨#[91,93]⟩:BA)++tx (af g x):=by show tx (cX 91::cX 93::af g x)=_;rw[aC,aC (cX 93),<-aA];rfl
theorem BO(g:Nat){n:Nd}(h:n.kind=12):tx (af (g+1) n)=(⟨#[102,117,110,99]⟩:BA)++tx (ez (af g) n):=by(have e:af (g+1) n=iy ⟨#[102,117,110,99]⟩::ez (af g) n:=by unfold af;rw[gA (by omega),gE h]);rw[e,aC,Es]
theorem GJ{d:Nat}{n:Nd}(h:(aj d).typ n=true):0<(tx (af d n)).size:=by
 cases d with
 |zero=>cases h
 |succ d=>
  rcases Ah h with⟨t,l,p,rfl,D,-⟩|⟨x,p,rfl,-⟩|⟨I,-⟩
  ·(have:t≠(⟨#[]⟩:BA):=by unfold aO mi at D;simp only[gB,gC]at D;exact D.2.2.1);have:=Ob this;rw[BM,gD];omega
  ·rw[BN,gD];show 0<2+_;omega
  ·rw[BO d I,gD];show 0<4+_;omega
theorem P6{d:Nat}:∀{l:List Nd},l.all (aj d).typ=true->l≠[]->0<(tx (cv ci (l.map (af d)))).size
 |[],_,h=>absurd rfl h
 |[x],h,_=>GJ (d:=d) (List.all_eq_true.1 h x (by simp))
 |x::y::l,h,_=>by have:=GJ (d:=d) (List.all_eq_true.1 h x (by simp));show 0<(tx (af d x++_)).size;rw[bG,gD];omega
theorem lS:∀d,P5 37 (aj d).typ (af d):=by
 intro d;induction d with
 |zero=>exact fun _ _ _ _ h=>by cases h
 |succ d ih=>
  intro v n w hv hn hM;have gl:=hid ih;rcases Ah hn with⟨t,l,p,rfl,ht,hl⟩|⟨x,p,rfl,hx⟩|⟨hk,hs⟩
  ·have HL:=hid (List.all_eq_true.1 hl);have gd:=hid (P6 (d:=d) hl);have N:=hid (BM d t l p);have I:=hid (Oc (af d) l);rw[N.out,gD]at hM;obtain⟨A,cp,rfl,hC⟩:=hv.toC;have gj:=rC ci (by decide) (af d) l;have hS:(tx (cv ci (l.map (af d)))).size<=10000000000000000:=by
    rw[I.out]at hM;split at hM
    ·rename_i h;subst h;exact gP _
    ·rw[gD,gD]at hM;omega
   have gr:Hid (bR w (.agg #[.int .i64 10,.string t,.slice A l.length cp,.int .i64 p]) (.mk 10 t l p)):=hid hv;have hB:=(aH w #[.int .i64 10,.string t,.slice A l.length cp,.int .i64 p]).1;have gg:=(aH w #[.int .i64 10,.string t,.slice A l.length cp,.int .i64 p]).2;clear hn hl hC hv ih ht;simp only[Nd.kind_mk,Nd.text_mk,Nd.kids_mk,Nd.pos_mk];(go_enter Tryz.func37,Tryz.ntmps37);(go_wp2_with fail);generalize w.alloc (.cells #[.int .i64 10,.string t,.slice A l.length cp,.int .i64 p] 24)=w0 at *;go_loopg [3,5] l.length (fun k u3 u5 wr=>∃i:Nat,i<=l.length/\l.length-i<=k/\u5=.int .i64 (i:Int)/\u3=.string (tx (cv ci ((l.take i).map (af d))))/\Below w0 w0 wr)
   case atStart=>exact⟨0,gP _,by omega,rfl,rfl,gG _ _⟩
   case round=>
    obtain⟨i,hi,hk,rfl,rfl,M⟩:=hrel;have gn:=mu ci (af d) l i hi;obtain⟨n0,n1,n2,n3,-,-,-,-⟩:=ag (gg.bl M);by_cases U:i<l.length
    ·(have gi:(i:Int)<(l.length:Int):=by omega);(have h0:(0:Int)<=(i:Int):=by omega);obtain⟨bp,op,A2,c2,gq,O⟩:=eR (aq.below gr.out (a8 hB M)) i U;simp only[Nd.kids_mk]at O;subst gq;have D:=hid (uo ci (af d) l i U);have ge:=mu ci (af d) l (i+1) U;rw[D.out,gD,gD]at ge;have HX:=hid (HL.out _ (jC U));generalize l[i]=x at *;have gh:=hid (gl.out _ x wr O.2.2.2.2 HX.out (by omega));obtain⟨p0,p1,p2,p3,-⟩:=O;generalize tx (cv ci ((l.take i).map (af d)))=S at *;generalize tx (af d x)=X at *;rcases kQ i with gb|gb;(have gp:¬ (0:Int)<(i:Int):=by omega);rw[sw ci gb]at D ge;simp only[ms]at D
     rotate_left
     (have gp:(0:Int)<(i:Int):=by omega);rw[sx ci gb,un]at D ge
     rotate_left
     all_goals
      clear gb;(go_wp2_with fail);refine gh.out.mono ?_;rintro e w3⟨rfl,J⟩;clear p0 p1 p2 p3 n0 n1 n2 n3;(go_wp2_with fail);go_roundg (l.length-(i+1))
      case measure=>omega
      case rel=>exact⟨i+1,by omega,d5 _,by go_num,by first|exact jH Value.string D.out.symm|(rw[D.out];simp only[aA]),a8 M J⟩
    ·(have gi:¬ (i:Int)<(l.length:Int):=by omega);have D:=hid (show tx (cv ci ((l.take i).map (af d)))=tx (cv ci (l.map (af d)))by rw[jK (by omega)]);rw[<-D.out]at I hS gn gj gd;generalize tx (cv ci ((l.take i).map (af d)))=S at *;by_cases ga:l=[]
     ·subst ga;rw[gE rfl]at I;rw[I.out]at N;have gs:S=(⟨#[]⟩:BA):=D.out;subst gs;(go_wp2_with fail);go_ret;exact⟨by rw[N.out];rfl,a8 hB M⟩
     ·have O:=gd.out ga;(have gt:S.toList.isEmpty=false:=by rw[aK,gK];rintro rfl;exact absurd O (by decide));rw[gA ga]at I;rw[I.out]at N hM;rw[gD,gD]at hM;clear ga;(go_wp2_with fail);go_ret;exact⟨by rw[N.out];simp only[aA];rfl,a8 hB M⟩
  ·have N:=hid (BN d x p);rw[N.out,gD]at hM;have HX:=hid hx;obtain⟨A,cp,rfl,hC⟩:=hv.toC;have yk:bR w (.agg #[.int .i64 11,.string ⟨#[]⟩,.slice A 1 cp,.int .i64 p]) (.mk 11 ⟨#[]⟩ [x] p):=hv;have hB:=(aH w #[.int .i64 11,.string ⟨#[]⟩,.slice A 1 cp,.int .i64 p]).1;obtain⟨bp,op,A2,c2,rfl,O⟩:=eR (aq.below yk hB) 0 (by simp);simp only[Nd.kids_mk,jM,kE,jP]at O;have gh:=hid (gl.out _ x _ O.2.2.2.2 HX.out (by omega));obtain⟨p0,p1,p2,p3,-⟩:=O;clear hn hC hv yk ih hx;generalize tx (af d x)=X at *;(go_enter Tryz.func37,Tryz.ntmps37);(go_wp2_with fail);refine gh.out.mono ?_;rintro e w3⟨rfl,J⟩;(go_wp2_with fail);go_ret;exact⟨by rw[N.out];rfl,a8 hB J⟩
  ·have N:=hid (BO d hk);rw[N.out,gD]at hM;obtain⟨A,cp,rfl,hC⟩:=hv.toC;have hB:=(aH w #[.int .i64 n.kind,.string n.text,.slice A n.kids.length cp,.int .i64 n.pos]).1;have gg:=(aH w #[.int .i64 n.kind,.string n.text,.slice A n.kids.length cp,.int .i64 n.pos]).2;have gm:=hid (Af d ih _ n _ (aq.below hv hB) hs (by omega));obtain⟨x0,x1,x2,x3,-,-,-,-⟩:=ag gg;generalize tx (ez (af d) n)=X at *;clear hn hC hv ih hs;rw[hk]at gm x0 hB |-;(go_enter Tryz.func37,Tryz.ntmps37);(go_wp2_with fail);refine gm.out.mono ?_;rintro e w3⟨rfl,J⟩;(go_wp2_with fail);go_ret;exact⟨by rw[N.out];rfl,a8 hB J⟩
def tK:List It:=[bc,cX 124,bc]
def pz(f:Nd->List It)(t:Nd):List It:=iE t.text++f (aV t 0)
theorem Od(f:Nd->List It)(n:Nd):tx (lN f n)=(⟨#[105,110,116,101,114,102,97,99,101,123,32]⟩:BA)++(tx (cv tK (n.kids.map (pz f)))++(⟨#[32,125]⟩:BA)):=by show tx (iy ⟨#[105,110,116,101,114,102,97,99,101]⟩::cX 123::bc::(cv tK (n.kids.map (pz f))++[bc,cX 125]))=_;rw[aC,aC (cX 123),aC bc,bG,Es,<-aA,<-aA];rfl
theorem Ai{F:dM}{n:Nd}(h:ct F n=true):∃l p,n=.mk 14 ⟨#[]⟩ l p/\l.all (oz F)=true:=by obtain⟨k,t,l,p⟩:=n;unfold ct at h;rw[gB,gB,gB,gC,gC]at h;obtain⟨rfl,rfl,-,h⟩:=h;exact⟨l,p,rfl,h⟩
theorem P7{F:dM}{n:Nd}(h:oz F n=true):∃t x p,n=.mk 15 t [x] p/\(t=(⟨#[]⟩:BA)\/t=(⟨#[126]⟩:BA))/\F.typ x=true:=by obtain⟨t,l,a,rfl,hs,I⟩:=aJ (by decide) h;obtain⟨x,rfl,D⟩:=ep I;unfold nY at hs;rw[gH,gC,gC]at hs;exact⟨t,x,a,rfl,hs,D⟩
theorem FS(d:Nat):P5 37 (ct (aj d)) (lN (af d)):=by
 intro v n w hv hn hM;have gn:=hid (lS d);obtain⟨l,p,rfl,hl⟩:=Ai hn;have HL:=hid (List.all_eq_true.1 hl);have HR:=hid (Od (af d) (.mk 14 ⟨#[]⟩ l p));rw[HR.out,gD,gD]at hM;simp only[Nd.kids_mk]at hM HR;obtain⟨A,cp,rfl,hC⟩:=hv.toC;have gb:=rC tK (by decide) (pz (af d)) l;have gm:Hid (bR w (.agg #[.int .i64 14,.string ⟨#[]⟩,.slice A l.length cp,.int .i64 p]) (.mk 14 ⟨#[]⟩ l p)):=hid hv;have hB:=(aH w #[.int .i64 14,.string ⟨#[]⟩,.slice A l.length cp,.int .i64 p]).1;have gd:=(aH w #[.int .i64 14,.string ⟨#[]⟩,.slice A l.length cp,.int .i64 p]).2;clear hn hl hC hv;simp only[Nd.kind_mk,Nd.text_mk,Nd.kids_mk,Nd.pos_mk];(go_enter Tryz.func37,Tryz.ntmps37);(go_wp2_with fail);generalize w.alloc (.cells #[.int .i64 14,.string ⟨#[]⟩,.slice A l.length cp,.int .i64 p] 24)=w0 at *;go_loopg [3,4] l.length (fun k u3 u4 wr=>∃i:Nat,i<=l.length/\l.length-i<=k/\u4=.int .i64 (i:Int)/\u3=.string (tx (cv tK ((l.take i).map (pz (af d)))))/\Below w0 w0 wr)
 case atStart=>exact⟨0,gP _,by omega,rfl,rfl,gG _ _⟩
 case round=>
  obtain⟨i,hi,hk,rfl,rfl,M⟩:=hrel;have gi:=mu tK (pz (af d)) l i hi;by_cases N:i<l.length
  ·(have ga:(i:Int)<(l.length:Int):=by omega);(have h0:(0:Int)<=(i:Int):=by omega);obtain⟨n0,n1,n2,n3,-,-,-,-⟩:=ag (gd.bl M);obtain⟨bp,op,A2,c2,gl,U⟩:=eR (aq.below gm.out (a8 hB M)) i N;simp only[Nd.kids_mk]at U;subst gl;have D:=hid (uo tK (pz (af d)) l i N);have J:=mu tK (pz (af d)) l (i+1) N;rw[D.out,gD,gD]at J;have gh:=hid (P7 (HL.out _ (jC N)));generalize l[i]=q1 at *;obtain⟨t,x,pp,rfl,h,hx⟩:=gh.out;have HX:=hid hx;have gg:=hid (show tx (pz (af d) (.mk 15 t [x] pp))=t++tx (af d x)by show tx (iE t++af d x)=_;rw[bG,SZ h]);rw[gg.out]at D J;rw[gD]at J;obtain⟨bx,ox,A3,c3,rfl,I⟩:=eR U.2.2.2.2 0 (by simp);simp only[Nd.kids_mk,jM,kE,jP]at I;have ge:=hid (fun m:Wd (Below wr wr)=>gn.out _ x m.wd (I.below m.ok).2.2.2.2 HX.out (by omega));have k0:=fun m:Wd (Below wr wr)=>(U.below m.ok).1;have k1:=fun m:Wd (Below wr wr)=>(U.below m.ok).2.1;have k2:=fun m:Wd (Below wr wr)=>(U.below m.ok).2.2.1;have k3:=fun m:Wd (Below wr wr)=>(U.below m.ok).2.2.2.1;have m0:=fun m:Wd (Below wr wr)=>(I.below m.ok).1;have m1:=fun m:Wd (Below wr wr)=>(I.below m.ok).2.1;have m2:=fun m:Wd (Below wr wr)=>(I.below m.ok).2.2.1;have m3:=fun m:Wd (Below wr wr)=>(I.below m.ok).2.2.2.1;have kx:∀m:Wd (Below wr wr),m.wd.cell? ⟨w,2,none⟩=some (.slice (some ⟨bp,op,none⟩) l.length cp):=fun m=>(m.ok.cell (gX wr _ n2)).trans n2;simp only[Nd.kind_mk,Nd.text_mk,Nd.kids_mk,Nd.pos_mk]at k0 k1 k2 k3;clear gh hx h gg U I;generalize tx (cv tK ((l.take i).map (pz (af d))))=S at *;generalize tx (af d x)=X at *;rcases kQ i with O|O;(have gj:¬ (0:Int)<(i:Int):=by omega);rw[sw tK O]at D J;simp only[ms]at D
   rotate_left
   (have gj:(0:Int)<(i:Int):=by omega);rw[sx tK O,show tx tK=(⟨#[32,124,32]⟩:BA)from rfl]at D J
   rotate_left
   all_goals
    clear O;(go_wp2_with fail);refine cQ wr ?_;(repeat(go_big_quiet_step ((go_at_call 37;rename_i m;refine(ge.out m).mono ?_;rintro e w'⟨rfl,hb⟩;exact⟨rfl,⟨w',a8 m.ok hb⟩,rfl⟩))));refine jS ?_;intro m;have yk:=m.ok;clear k0 k1 k2 k3 m0 m1 m2 m3 kx n0 n1 n2 n3 ge;(go_wp2_with fail);go_roundg (l.length-(i+1))
    case measure=>omega
    case rel=>exact⟨i+1,by omega,d5 _,by go_num,by first|exact jH Value.string D.out.symm|(rw[D.out];simp only[aA]),a8 M yk⟩
  ·(have ga:¬ (i:Int)<(l.length:Int):=by omega);obtain⟨n0,n1,n2,n3,-,-,-,-⟩:=ag (gd.bl M);have D:=hid (show tx (cv tK ((l.take i).map (pz (af d))))=tx (cv tK (l.map (pz (af d))))by rw[jK (by omega)]);rw[<-D.out]at HR hM gi gb;generalize tx (cv tK ((l.take i).map (pz (af d))))=S at *;(go_wp2_with fail);go_ret;exact⟨by rw[HR.out];simp only[aA];rfl,a8 hB M⟩
theorem Ev(d:Nat):P5 37 (fun n=>(aj d).typ n||ct (aj d) n) (fL (ac d)):=by
 intro v n w hv D hM;rw[gH]at D;rcases D with D|D
 ·have I:=cR D;(have e:fL (ac d) n=af d n:=by unfold fL;rw[gA (by omega),show(ac d).typ n=af d n by cases d<;>rfl]);rw[e]at hM |-;exact lS d v n w hv D hM
 ·obtain⟨l,p,rfl,-⟩:=Ai D;(have e:fL (ac d) (.mk 14 ⟨#[]⟩ l p)=lN (af d) (.mk 14 ⟨#[]⟩ l p):=by unfold fL;rw[gE (show(Nd.mk 14 ⟨#[]⟩ l p).kind=14 from rfl),show(ac d).typ=af d by cases d<;>rfl]);rw[e]at hM |-;exact FS d v _ w hv D hM
theorem uq(s:ByteArray)(w:World):Calls Tryz.prog 35 #[.string s] w fun e w'=>e=.returned (.int .i64 (bY s:Int))/\w=w':=by
 (have key:∀x∈([(⟨#[124,124]⟩:BA),(⟨#[38,38]⟩:BA),(⟨#[43]⟩:BA),(⟨#[45]⟩:BA),(⟨#[42]⟩:BA),(⟨#[47]⟩:BA),(⟨#[37]⟩:BA)]:List ByteArray),Calls Tryz.prog 35 #[.string x] w fun e w'=>e=.returned (.int .i64 (bY x:Int))/\w=w':=by intro x hx;simp only[vd,qM,or_false]at hx;rcases hx with rfl|rfl|rfl|rfl|rfl|rfl|rfl;all_goals(go_enter Tryz.func35,Tryz.ntmps35);(go_wp2_with fail);go_ret;exact⟨rfl,rfl⟩);by_cases h:s∈([(⟨#[124,124]⟩:BA),(⟨#[38,38]⟩:BA),(⟨#[43]⟩:BA),(⟨#[45]⟩:BA),(⟨#[42]⟩:BA),(⟨#[47]⟩:BA),(⟨#[37]⟩:BA)]:List ByteArray)
 ·exact key s h
 ·simp only[vd,qM,or_false,not_or]at h;obtain⟨U,O,N,M,J,I,D⟩:=h;(have hL:bY s=3:=by unfold bY;rw[gA U,gA O,gA (by simp[N,M]),gA (by simp[J,I,D])]);(have k1:(s.toList==[124,124])=false:=by rw[<-dz s [124,124]];exact jD U);(have k2:(s.toList==[38,38])=false:=by rw[<-dz s [38,38]];exact jD O);(have k3:(s.toList==[43])=false:=by rw[<-dz s [43]];exact jD N);(have k4:(s.toList==[45])=false:=by rw[<-dz s [45]];exact jD M);(have k5:(s.toList==[42])=false:=by rw[<-dz s [42]];exact jD J);(have k6:(s.toList==[47])=false:=by rw[<-dz s [47]];exact jD I);(have k7:(s.toList==[37])=false:=by rw[<-dz s [37]];exact jD D);clear U O N M J I D key;rw[hL];(go_enter Tryz.func35,Tryz.ntmps35);(go_wp2_with fail);go_ret;exact⟨rfl,rfl⟩
def Aj(k:Nat):ByteArray:=d8 (ls (nI k))
theorem ur(k:Nat):(Aj k).size=k:=by
 rw[<-bN];unfold Aj;rw[bO];induction k with
 |zero=>rfl
 |succ k ih=>show([9]++ls (nI k)).length=k+1;rw[gJ,ih];simp[Nat.add_comm]
theorem I5(k:Nat):Aj k++(⟨#[9]⟩:BA)=Aj (k+1):=by
 apply cm;rw[aY];unfold Aj;rw[bO,bO];induction k with
 |zero=>rfl
 |succ k ih=>show([9]++ls (nI k))++_=[9]++ls (nI (k+1));rw[gL,ih]
theorem Ew(k:Nat)(J:k<=1000)(w:World):Calls Tryz.prog 68 #[.int .i64 (k:Int)] w fun e w'=>e=.returned (.string (Aj k))/\Below w w w':=by
 (go_enter Tryz.func68,Tryz.ntmps68);(go_wp2_with fail);go_loopg [3,4] k (fun g u3 u4 wr=>∃i:Nat,i<=k/\k-i<=g/\u4=.int .i64 (i:Int)/\u3=.string (Aj i)/\Below w w wr)
 case atStart=>exact⟨0,gP _,by omega,rfl,rfl,gG _ _⟩
 case round=>
  obtain⟨i,M,N,rfl,rfl,hB⟩:=hrel;by_cases I:i<k
  ·(have D:(i:Int)<(k:Int):=by omega);(have O:(0:Int)<=(i:Int):=by omega);have hs:=ur i;(go_wp2_with fail);go_roundg (k-(i+1))
   case measure=>omega
   case rel=>exact⟨i+1,by omega,by omega,by go_num,by rw[<-I5],hB⟩
  ·(have D:¬ (i:Int)<(k:Int):=by omega);(obtain rfl:i=k:=by omega);(go_wp2_with fail);go_ret;exact⟨rfl,hB⟩
end
end Go.Proofs.YtiebcdeafofgdaaGreatDoor
