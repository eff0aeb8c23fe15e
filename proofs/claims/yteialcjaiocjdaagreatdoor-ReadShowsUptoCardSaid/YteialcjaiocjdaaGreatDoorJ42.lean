/-
  Parts of the proof: Ppx Ppy Ppz Pqa. By an AI agent.
-/
import Derived.Test.YteialcjaiocjdaaGreatDoorJ41
namespace Go.Proofs.YteialcjaiocjdaaGreatDoor
section
open Go.Lib
def P4(n:Nd)(l:List It):Prop:=∃b q,fl l=b::q/\b≠61/\b≠62/\(n.kind≠20->b=45->n.kind=19/\n.text=(⟨#[45]⟩:BA))
theorem Hd.e{l:List It}(h:Hd l)(n:Nd):P4 n l:=by obtain⟨b,q,e,J,I,D⟩:=h;exact⟨b,q,e,J,I,fun _ h=>absurd h D⟩
theorem Nk(b:UInt8)(h:b≠61/\b≠62/\b≠45):I7 45 b=true:=by(have key:∀b:Fin 256,b.val≠61->b.val≠62->b.val≠45->I7 45 (UInt8.ofNat b.val)=true:=by decide +kernel);have:=key ⟨b.toNat,b.toNat_lt⟩ (nN (n:=61) (by decide) h.1) (nN (n:=62) (by decide) h.2.1) (nN (n:=45) (by decide) h.2.2);simpa using this
theorem SY(b:UInt8)(h:b≠61):I7 33 b=true:=by(have key:∀b:Fin 256,b.val≠61->I7 33 (UInt8.ofNat b.val)=true:=by decide +kernel);have:=key ⟨b.toNat,b.toNat_lt⟩ (nN (n:=61) (by decide) h);simpa using this
theorem SZ(b:UInt8)(h:a7 (b.toNat:Int)=true):I7 46 b=true:=by(have key:∀b:Fin 256,a7 (((UInt8.ofNat b.val).toNat:Nat):Int)=true->I7 46 (UInt8.ofNat b.val)=true:=by decide +kernel);have:=key ⟨b.toNat,b.toNat_lt⟩;simpa using this (by simpa using h)
theorem tm{b:UInt8}(O:b≠34)(N:b≠92)(M:b≠10)(r:List UInt8)(k:Nat):dj (b::r) false k=dj r false (k+1):=by have J:b.toNat≠34:=nN (n:=34) (by decide) O;have I:b.toNat≠92:=nN (n:=92) (by decide) N;have D:b.toNat≠10:=nN (n:=10) (by decide) M;rw[dj,gB I,gB J,gB D]
theorem Nl(b:UInt8)(r:List UInt8)(k:Nat):dj (cu b++r) false k=dj r false (k+(cu b).length):=by
 unfold cu;split
 ·rfl
 ·split
  ·rfl
  ·split
   ·rfl
   ·split
    ·rfl
    ·split
     ·rename_i J h2 h3 h4 h5;exact tm J h2 h3 r k
     ·(have key:∀n:Fin 16,yG n.val≠34/\yG n.val≠92/\yG n.val≠10:=by decide +kernel);have I:=key ⟨b.toNat/16,by have:=b.toNat_lt;omega⟩;have D:=key ⟨b.toNat%16,by omega⟩;show dj (yG (b.toNat/16)::yG (b.toNat%16)::r) false (k+1+1)=_;rw[tm I.1 I.2.1 I.2.2,tm D.1 D.2.1 D.2.2];rfl
theorem Az:∀(l:List UInt8)(r:List UInt8)(k:Nat),dj (l.flatMap cu++34::r) false k=some (k+(l.flatMap cu).length)
 |[],r,k=>by show dj (34::r) false k=_;simp[dj]
 |b::l,r,k=>by rw[jE,gL,Nl,Az l r,gM,Nat.add_assoc]
def P5:List UInt8->Bool
 |[a]=>I7 a 32&&(po [a])
 |[a,b]=>TZ a b&&(po [a]&&a != 47)
 |_=>false
theorem S0{x:List UInt8}(h:P5 x=true)(r:List UInt8):ii (32::r) 6 x:=by
 unfold P5 at h;split at h
 ·rw[gA]at h;exact .one h.1 h.2 fun _=>⟨by decide,by decide⟩
 ·rw[gA,gA]at h;exact .two h.1 h.2.1 (by simpa using h.2.2)
 ·cases h
theorem Dz{l:List It}(D:Pc l):Pc (cK 40::(l++[cK 41]))/\Hd (cK 40::(l++[cK 41])):=by have:=BN (o:=40) (a:=41) (L:=[l]) (z:=[]) (by decide) (.inl rfl) (fun y hy=>by obtain rfl:y=l:=(by simpa using hy);exact D) (fun _ _=>trivial) rfl (fun r hr=>stp_ne hr);exact⟨this,⟨40,_,rfl,by decide,by decide,by decide⟩⟩
theorem S1{x:ByteArray}(I:cW x=true):Pc [.tok 4 (bytes x)]/\Hd [.tok 4 (bytes x)]:=by
 unfold cW at I;rw[gA,gI,gD]at I;obtain⟨D,h⟩:=I;have J:bytes x≠[]:=by
  rcases h with rfl|h
  ·decide
  ·rw[gA,gD]at h;exact fun e=>h.1 (cQ e)
 cases M:bytes x with
 |nil=>exact absurd M J
 |cons a q=>(have D:(a::q).all dY=true:=by rw[<-M];exact D);rw[jX,gA]at D;(have O:a7 (a.toNat:Int)=true:=by unfold a7;rw[<-fj,D.1,jG]);(have N:SG (a::q)=true:=by show(aC (a.toNat:Int)&&q.all fun c=>a7 (c.toNat:Int))=true;rw[<-fj,D.1,jP,qo];intro b hb;unfold a7;rw[<-fj,List.all_eq_true.1 D.2 b hb,jG]);exact⟨⟨fun e r hr=>⟨.num N hr.stop,trivial⟩,fun e=>rfl,⟨a,_,rfl⟩⟩,⟨a,_,rfl,Ga O⟩⟩
section
variable {d:Nat} (hE:∀n deep head,(aa d).expr n=true->Pc ((ac d).expr n deep head)/\P4 n ((ac d).expr n deep head))
include hE
theorem sG{n:Nd}(yes:Bool)(deep:Nat)(head:Bool)(D:(aa d).expr n=true):Pc (aN (ac d) yes n deep head)/\(yes=true/\Hd (aN (ac d) yes n deep head)\/yes=false/\P4 n (aN (ac d) yes n deep head)):=by
 unfold aN;cases yes with
 |true=>rw[gG rfl];have:=Dz (hE n deep false D).1;exact⟨this.1,.inl ⟨rfl,this.2⟩⟩
 |false=>rw[gB (by decide)];exact⟨(hE n deep head D).1,.inr ⟨rfl,(hE n deep head D).2⟩⟩
theorem P6{x:Nd}(deep:Nat)(D:dJ (aa d) x=true)(I:(aa d).expr x=true->16<=x.kind):Pc (dE (ac d) deep x):=by
 unfold dJ at D;rw[gI,gA,gD]at D;unfold dE;rcases D with D|⟨J,D⟩
 ·have:=I D;rw[gB (by omega)];exact(hE x deep false D).1
 ·have:=typ_kind D;rw[gG (by omega),dM];exact(nm d D).1
theorem tq{n f:Nd}(deep:Nat)(head:Bool)(N:(aa d).expr f=true){z:List It}(M:Pc z)(I:∀r,iZ (fl z++r)):Pc (aN (ac d) (da f) f deep head++z)/\P4 n (aN (ac d) (da f) f deep head++z):=by
 obtain⟨O,J⟩:=sG hE (da f) deep head N;refine⟨O.app M fun r _=>I r,?_⟩;rcases J with⟨_,J⟩|⟨D,b,q,e,b1,b2,U⟩
 ·exact(J.app z).e n
 ·unfold da at D;rw[kZ,gK,gK]at D;exact⟨b,q++fl z,by rw[iF,e];rfl,b1,b2,fun _ h=>absurd (U D.2 h).1 D.1⟩
theorem S2 (hk:∀n,(aa d).expr n=true->16<=n.kind)(hB:∀n deep,(aa d).block n=true->Pc ((ac d).block n deep)){n:Nd}(deep:Nat)(head:Bool)(D:aH (aa d) n=true):Pc (mQ (ac d) n deep head)/\P4 n (mQ (ac d) n deep head):=by
 have hF:(ac d).typ=ag d:=funext dM;(have O:∀(o a:UInt8)(l:List Nd),wO o=true->(a=41\/a=93\/a=125)->l.all (dJ (aa d))=true->Pc (cK o::(cr ch (l.map (dE (ac d) deep))++[cK a])):=by intro o a l ho ha hl;refine BN ho ha (fun y hy=>?_) (fun _ _=>trivial) rfl fun r J=>stp_ne J;obtain⟨x,I,rfl⟩:=List.mem_map.1 hy;exact P6 hE deep (List.all_eq_true.1 hl x I) (hk x));(have ga:∀l:List Nd,l.all (aa d).expr=true->l.all (dJ (aa d))=true:=by intro l hl;rw[qo]at hl |-;intro x I;unfold dJ;rw[hl x I];rfl);unfold aH at D;unfold mQ;split at D
 ·rename_i h;rw[gG h];obtain⟨x,l,a,rfl,I,M⟩:=aJ (by decide) D;have:=S1 I;exact⟨this.1,this.2.e _⟩
 ·split at D
  ·rename_i M h;rw[gB M,gG h];obtain⟨x,l,a,rfl,I,_⟩:=aJ (by decide) D;exact⟨⟨fun e r J=>⟨.text (y:=(bytes x).flatMap cu) fun r=>by rw[Az,kR],trivial⟩,fun e=>rfl,⟨34,_,rfl⟩⟩,⟨34,_,rfl,by decide,by decide,fun _ h=>absurd h (by decide)⟩⟩
  ·split at D
   ·rename_i M h1 h;rw[gB M,gB h1,gG h];obtain⟨x,l,a,rfl,I,_⟩:=aJ (by decide) D;exact⟨Gb I,(pR I []).e _⟩
   ·split at D
    ·rename_i M h1 h2 h;rw[gB M,gB h1,gB h2,gG h];obtain⟨x,l,a,rfl,I,N⟩:=aJ (by decide) D;obtain⟨y,rfl,hy⟩:=dW N;show Pc (ow x::aN (ac d) (eT (Nd.mk 19 x [y] a) y) y deep head)/\P4 _ (ow x::aN (ac d) (eT (Nd.mk 19 x [y] a) y) y deep head);obtain⟨p1,p2⟩:=sG hE (eT (Nd.mk 19 x [y] a) y) deep head hy;unfold fw at I;rw[gI,gD,gD]at I;have hb:∃b q,fl (aN (ac d) (eT (Nd.mk 19 x [y] a) y) y deep head)=b::q/\b≠61/\(x=(⟨#[45]⟩:BA)->b≠62/\b≠45):=by
      rcases p2 with⟨_,b,q,e,b1,b2,b3⟩|⟨J,b,q,e,b1,b2,b3⟩
      ·exact⟨b,q,e,b1,fun _=>⟨b2,b3⟩⟩
      ·refine⟨b,q,e,b1,fun hm=>⟨b2,fun gh=>?_⟩⟩;unfold eT at J;rw[kZ,gK]at J;obtain⟨k1,k2⟩:=b3 J.1 gh;have:=J.2;rw[k1,k2]at this;subst hm;exact absurd (show true=false from this) (by decide)
     obtain⟨b,q,eb,b1,b2⟩:=hb;rcases I with rfl|rfl
     ·refine⟨⟨fun e r J=>⟨?_,p1.ok _ r J⟩,fun e=>p1.fin _,⟨45,_,rfl⟩⟩,⟨45,_,rfl,by decide,by decide,fun _ _=>⟨rfl,rfl⟩⟩⟩;rw[eb];exact .one (a:=45) (Nk b ⟨b1,(b2 rfl).1,(b2 rfl).2⟩) (by decide +kernel) fun h=>absurd h (by decide)
     ·refine⟨⟨fun e r J=>⟨?_,p1.ok _ r J⟩,fun e=>p1.fin _,⟨33,_,rfl⟩⟩,⟨33,_,rfl,by decide,by decide,fun _ h=>absurd h (by decide)⟩⟩;rw[eb];exact .one (a:=33) (SY b b1) (by decide +kernel) fun h=>absurd h (by decide)
    ·split at D
     ·rename_i M h1 h2 N h;rw[gB M,gB h1,gB h2,gB N,gG h];obtain⟨x,l,a,rfl,I,h4⟩:=aJ (by decide) D;obtain⟨y,z,rfl,hy,hz⟩:=iO h4;obtain⟨p1,p2⟩:=sG hE (eU (Nd.mk 20 x [y,z] a) y) deep head hy;obtain⟨q1,q2⟩:=sG hE (eG (Nd.mk 20 x [y,z] a) z) deep head hz;have gb:P5 (bytes x)=true:=pP I (fun y=>P5 (bytes y)=true) (by decide +kernel);have J:Pc (ow x::aY::aN (ac d) (eG (Nd.mk 20 x [y,z] a) z) z deep head):=by
       refine⟨fun e r J=>⟨S0 gb _,ft (q1.ok _ r J)⟩,fun e=>q1.fin _,?_⟩;rw[dg];show ∃b q,bytes x++_=b::q;cases hq:bytes x with
       |nil=>rw[hq]at gb;cases gb
       |cons b q=>exact⟨b,_,rfl⟩
      have ge:Pc (aY::ow x::aY::aN (ac d) (eG (Nd.mk 20 x [y,z] a) z) z deep head):=⟨fun e r h=>ft (J.ok e r h),fun e=>J.fin e,⟨32,_,rfl⟩⟩
      refine⟨p1.app ge fun r _=>iZ.sp _,?_⟩;rcases p2 with⟨_,b,q,e,b1,b2,b3⟩|⟨_,b,q,e,b1,b2,b3⟩
      ·exact⟨b,_,by rw[iF];erw[e];rfl,b1,b2,fun h=>absurd rfl h⟩
      ·exact⟨b,_,by rw[iF];erw[e];rfl,b1,b2,fun h=>absurd rfl h⟩
     ·split at D
      ·rename_i M h1 h2 N h4 h;rw[gB M,gB h1,gB h2,gB N,gB h4,gG h];obtain⟨k,t,l,a⟩:=n;rw[gA,gA,gD,gD]at D;obtain⟨ht,hl,hA⟩:=D;cases l with
       |nil=>exact absurd hl (by show ¬ 0<0;omega)
       |cons f args=>have hA:((f::args).all (aa d).expr)=true:=hA;rw[jX,gA]at hA;exact tq hE deep head hA.1 (O 40 41 args (by decide) (.inl rfl) (ga _ hA.2)) fun r=>iZ.sg (a:=40) (by decide) _
      ·split at D
       ·rename_i M h1 h2 N h4 h5 h;rw[gB M,gB h1,gB h2,gB N,gB h4,gB h5,gG h];obtain⟨k,t,l,a⟩:=n;rw[gA,gA,gA,gD,gD]at D;obtain⟨ht,hl,hf,hA⟩:=D;cases l with
        |nil=>exact absurd hl (by show ¬ 1<0;omega)
        |cons f args=>exact tq hE deep head hf (O 91 93 args (by decide) (.inr (.inl rfl)) hA) fun r=>iZ.sg (a:=91) (by decide) _
       ·split at D
        ·rename_i M h1 h2 N h4 h5 h6 h;rw[gB M,gB h1,gB h2,gB N,gB h4,gB h5,gB h6,gG h];obtain⟨x,l,a,rfl,I,h7⟩:=aJ (by decide) D;obtain⟨f,rfl,hf⟩:=dW h7;refine tq hE deep head hf (z:=[cK 46,iq x]) ⟨fun e r J=>⟨?_,wP I J trivial⟩,fun e=>rfl,⟨46,_,rfl⟩⟩ fun r=>⟨46,_,rfl,by decide +kernel⟩;have hw:=(rQ I).1;cases hq:bytes x with
         |nil=>rw[hq]at hw;cases hw
         |cons b q=>rw[hq]at hw;unfold mE at hw;rw[gA]at hw;show ii (fl [iq x]++r) 6 [46];rw[show fl [iq x]++r=b::(q++r)by show(bytes x++[])++r=_;rw[kE,hq];rfl];exact .one (SZ b (by unfold a7;rw[hw.1];rfl)) (by decide +kernel) fun h=>absurd h (by decide)
        ·split at D
         ·rename_i M h1 h2 N h4 h5 h6 h7 h;rw[gB M,gB h1,gB h2,gB N,gB h4,gB h5,gB h6,gB h7,gG h];obtain⟨k,t,l,a⟩:=n;rw[gA,gA,gA,gA,gD,gD,gD]at D;obtain⟨ht,hl,gi,hT,hA⟩:=D;cases l with
          |nil=>exact absurd hl (by show ¬ 0<0;omega)
          |cons T args=>
           have hT:(aa d).typ T=true:=hT;(have U:Pc (oy (ac d) (.mk k t (T::args) a) deep)/\Hd (oy (ac d) (.mk k t (T::args) a) deep):=by unfold oy;rw[hF];obtain⟨t1,t2⟩:=nm d hT;exact⟨t1.app (O 123 125 args (by decide) (.inr (.inr rfl)) (ga _ hA)) fun r _=>iZ.sg (a:=123) (by decide) _,t2.app _⟩);split
           ·have:=Dz U.1;exact⟨this.1,this.2.e _⟩
           ·exact⟨U.1,U.2.e _⟩
         ·rename_i M h1 h2 N h4 h5 h6 h7 h8;rw[gB M,gB h1,gB h2,gB N,gB h4,gB h5,gB h6,gB h7,gB h8];obtain⟨l,a,rfl,h9⟩:=cg D;obtain⟨sg,b,rfl,gd,hb⟩:=iO h9;rw[hF];have hs:=BO (.inl rfl) (fun n h=>(nm d h).1) gd;have hb:=hB b deep hb;have gg:Pc (aY::(ac d).block b deep):=⟨fun e r h=>ft (hb.ok e r h),fun e=>hb.fin e,⟨32,_,rfl⟩⟩
          (have:=Gc (hs.app gg fun r _=>iZ.sp _) fun r=>by rw[iF,gL];exact EU _ _ _);exact⟨this.1,this.2.e _⟩
end
theorem BP:∀(k:Nat)(e:Bool)(r:List UInt8),bg e (mP k) r/\ls e (mP k)=e
 |0,_,_=>⟨trivial,rfl⟩
 |k+1,e,r=>⟨⟨.inr (.inl rfl),(BP k e r).1⟩,(BP k e r).2⟩
theorem wR(q:List UInt8):iZ (10::q):=⟨10,q,rfl,by decide +kernel⟩
theorem Ge{f:Nd->List It}(k:Nat):∀(l:List Nd),(∀x∈l,Pc (f x))->∀r,bg false (l.flatMap fun x=>mP k++(f x++[.nl])) r/\ls false (l.flatMap fun x=>mP k++(f x++[.nl]))=false
 |[],_,_=>⟨trivial,rfl⟩
 | x::l,h,r=>by
  have I:=h x (by simp);have ih:=Ge k l (fun y hy=>h y (by simp[hy])) r;have D:∀r,bg false (mP k++(f x++[.nl])) r/\ls false (mP k++(f x++[.nl]))=false:=by
   intro r;refine⟨bg.app (BP _ _ _).1 (bg.app (I.ok _ _ (wR _)) ?_),?_⟩
   ·rw[I.fin];exact⟨rfl,trivial⟩
   ·rw[dh,dh];rfl
  rw[jE];refine⟨bg.app (D _).1 ?_,?_⟩
  ·rw[(D r).2];exact ih.1
  ·rw[dh,(D r).2,ih.2]
theorem sH:oV 6 [123]=false:=by decide +kernel
theorem Nm{F:tZ}{n:Nd}(deep:Nat)(h:∀x∈n.kids,Pc (F.stmt x (deep+1) false)):Pc (oT F n deep):=by
 unfold oT;have hb:=Ge (f:=fun x=>F.stmt x (deep+1) false) (deep+1) n.kids h;refine⟨fun e r hr=>mL (by decide) (by rw[dg];show(10::_)++r≠[];simp) ⟨.inr (.inr ⟨rfl,sH⟩),?_⟩,fun e=>?_,⟨123,_,rfl⟩⟩
 ·rw[sH];refine bg.app (hb _).1 (bg.app (BP _ _ _).1 (mL (by decide) (stp_ne hr) trivial))
 ·show ls (oV 6 [123]) (_++(mP deep++[cK 125]))=true;rw[dh,dh];exact wQ (.inr (.inr rfl))
theorem AA{l:List It}(h:Pc l):Pc (aY::l):=⟨fun e r hr=>ft (h.ok e r hr),fun e=>h.fin e,⟨32,_,rfl⟩⟩
theorem nS{x:ByteArray}(D:mE (bytes x)=true/\bW (dx (bytes x))=1){l:List It}(h:Pc l):Pc (f8 x::aY::l):=by
 refine⟨fun e r hr=>Ay D (iZ.sp _) (ft (h.ok _ r hr)),fun e=>h.fin _,?_⟩;rw[dg];show ∃b q,bytes x++_=b::q;cases I:bytes x with
 |nil=>rw[I]at D;cases D.1
 |cons b q=>exact⟨b,_,rfl⟩
theorem EV(r:List UInt8):ii (32::r) 6 [61]:=.one (by decide +kernel) (by decide +kernel) fun h=>absurd h (by decide)
theorem Gf(r:List UInt8):ii r 6 (bytes ⟨#[58,61]⟩):=ii.two (a:=58) (b:=61) (by decide +kernel) (by decide +kernel) (by decide)
theorem Pc.opt{l z:List It}(D:Pc l){p:Prop}[Decidable p](I:¬ p->Pc z):Pc (l++(if p then[]else aY::z)):=by
 split
 ·rw[kE];exact D
 ·rename_i h;exact D.app (AA (I h)) fun r _=>iZ.sp _
section
variable {d:Nat} (hE:∀n deep head,(aa d).expr n=true->Pc ((ac d).expr n deep head)/\P4 n ((ac d).expr n deep head))
include hE
theorem Nn{n:Nd}(deep:Nat)(J:iL (aa d) n=true):Pc (pl (ac d) n deep):=by
 unfold iL at J;rw[gA]at J;obtain⟨x,l,a,rfl,M,N⟩:=aJ (by decide) J.1;obtain⟨t,v,rfl,I,D⟩:=iO N;unfold ck at I D;rw[gI]at I D;show Pc (f8 ⟨#[118,97,114]⟩::aY::([iq x]++((if t.kind=0 then[]else aY::(ac d).typ t)++(if v.kind=0 then[]else aY::cK 61::aY::(ac d).expr v deep false))));rw[<-gL];refine nS ⟨by decide +kernel,by decide +kernel⟩ (Pc.opt (Pc.opt (Gb M) fun h=>?_) fun h=>?_)
 ·rw[dM];rcases I with I|I
  ·obtain⟨a',rfl⟩:=bN I;exact absurd rfl h
  ·exact(nm d I).1
 ·rcases D with D|D
  ·obtain⟨a',rfl⟩:=bN D;exact absurd rfl h
  ·have:=(hE v deep false D).1;exact⟨fun e r hr=>⟨EV _,ft (this.ok _ r hr)⟩,fun e=>this.fin _,⟨61,_,rfl⟩⟩
theorem wS{n:Nd}(deep:Nat)(head:Bool)(D:dr (aa d) n=true):Pc (cv (ac d) n deep head):=by
 unfold dr at D;rw[gI,gI,gI]at D;rcases D with D|D|D|D
 ·obtain⟨x,l,a,rfl,J,M⟩:=aJ (by decide) D;obtain⟨v,rfl,N⟩:=dW M;unfold cj at J;rw[gA]at J;have:=(hE v deep head N).1;show Pc (iq x::aY::ow ⟨#[58,61]⟩::aY::(ac d).expr v deep head);exact oH J.1 ⟨fun e r hr=>⟨Gf _,ft (this.ok _ r hr)⟩,fun e=>this.fin _,⟨58,_,rfl⟩⟩
 ·obtain⟨l,a,rfl,M⟩:=cg D;obtain⟨y,v,rfl,I,N⟩:=iO M;have:=(hE v deep head N).1;show Pc ((ac d).expr y deep head++(aY::cK 61::aY::(ac d).expr v deep head));exact(hE y deep head I).1.app ⟨fun e r hr=>ft ⟨EV _,ft (this.ok _ r hr)⟩,fun e=>this.fin _,⟨32,_,rfl⟩⟩ fun r _=>iZ.sp _
 ·obtain⟨x,l,a,rfl,J,M⟩:=aJ (by decide) D;obtain⟨y,rfl,I⟩:=dW M;unfold ix at J;rw[gI,gD,gD]at J;show Pc ((ac d).expr y deep head++[ow x]);rcases J with rfl|rfl
  ·exact(hE y deep head I).1.app ⟨fun e r hr=>⟨.two (a:=43) (b:=43) (by decide +kernel) (by decide +kernel) (by decide),trivial⟩,fun e=>by show oV 6 (bytes ⟨#[43,43]⟩)=true;decide +kernel,⟨43,_,rfl⟩⟩ fun r _=>⟨43,_,rfl,by decide +kernel⟩
  ·exact(hE y deep head I).1.app ⟨fun e r hr=>⟨.two (a:=45) (b:=45) (by decide +kernel) (by decide +kernel) (by decide),trivial⟩,fun e=>by show oV 6 (bytes ⟨#[45,45]⟩)=true;decide +kernel,⟨45,_,rfl⟩⟩ fun r _=>⟨45,_,rfl,by decide +kernel⟩
 ·obtain⟨l,a,rfl,M⟩:=cg D;obtain⟨y,rfl,I⟩:=dW M;unfold iS at I;rw[gA]at I;exact(hE y deep head I.2).1
end
theorem No{p:Prop}[Decidable p]{l:List It}(h:p->Pc l)(e:Bool)(r:List UInt8)(D:iZ r):bg e (if p then l else[]) r:=by
 split
 ·exact(h ‹_›).ok e r D
 ·trivial
theorem Np{x:ByteArray}(D:mE (bytes x)=true/\bW (dx (bytes x))=1/\oV 2 (bytes x)=true):Pc [f8 x]:=by
 refine⟨fun e r hr=>Ay ⟨D.1,D.2.1⟩ hr trivial,fun e=>D.2.2,?_⟩;rw[dg];show ∃b q,bytes x++_=b::q;cases I:bytes x with
 |nil=>rw[I]at D;cases D.1
 |cons b q=>exact⟨b,_,rfl⟩
theorem Gg{x:ByteArray}(D:mE (bytes x)=true/\bW (dx (bytes x))=1){l z:List It}(M:∀e r,bg e l r)(I:Pc z):Pc (f8 x::aY::(l++z)):=by
 refine⟨fun e r hr=>Ay D (iZ.sp _) (ft (bg.app (M _ _) (I.ok _ r hr))),fun e=>?_,?_⟩
 ·show ls (oV 2 (bytes x)) (l++z)=true;rw[dh,I.fin]
 ·rw[dg];show ∃b q,bytes x++_=b::q;cases J:bytes x with
  |nil=>rw[J]at D;cases D.1
  |cons b q=>exact⟨b,_,rfl⟩
theorem Pc.sp{l:List It}(h:Pc l)(e:Bool)(r:List UInt8):bg e (l++[aY]) r:=bg.app (h.ok _ _ (iZ.sp _)) (ft trivial)
section
variable {d:Nat} (hE:∀n deep head,(aa d).expr n=true->Pc ((ac d).expr n deep head)/\P4 n ((ac d).expr n deep head)) (hB:∀n deep,(aa d).block n=true->Pc ((ac d).block n deep))
include hE
theorem Gh{n:Nd}(deep:Nat)(D:dr (aa d) n=true):Pc (eH (ac d) n deep true):=by rw[<-oz _ (fU D)];exact wS hE deep true D
theorem P7{i e p b:Nd}{a:Int}(deep:Nat)(D:an i=true\/dr (aa d) i=true)(O:an e=true\/(aa d).expr e=true)(N:an p=true\/dr (aa d) p=true)(f:Bool)(r:List UInt8):bg f (sr (ac d) (.mk 31 ⟨#[]⟩ [i,e,p,b] a) deep) r:=by
 have M:i.kind≠0->Pc (eH (ac d) i deep true):=fun h=>by
  rcases D with D|D
  ·obtain⟨a',rfl⟩:=bN D;exact absurd rfl h
  ·exact Gh hE deep D
 have J:p.kind≠0->Pc (eH (ac d) p deep true):=fun h=>by
  rcases N with D|D
  ·obtain⟨a',rfl⟩:=bN D;exact absurd rfl h
  ·exact Gh hE deep D
 have I:e.kind≠0->Pc ((ac d).expr e deep true):=fun h=>by
  rcases O with D|D
  ·obtain⟨a',rfl⟩:=bN D;exact absurd rfl h
  ·exact(hE e deep true D).1
 unfold sr;show bg f (if i.kind≠0\/p.kind≠0 then(if i.kind≠0 then eH (ac d) i deep true else[])++(cK 59::aY::((if e.kind≠0 then(ac d).expr e deep true else[])++(cK 59::aY::(if p.kind≠0 then eH (ac d) p deep true++[aY]else[]))))else if e.kind≠0 then(ac d).expr e deep true++[aY]else[]) r;split
 ·refine bg.app (No M _ _ (iZ.sg (a:=59) (by decide) _)) (mL (by decide) (by rw[dg];show(32::_)++r≠[];simp) (ft ?_));refine bg.app (No I _ _ (iZ.sg (a:=59) (by decide) _)) (mL (by decide) (by rw[dg];show(32::_)++r≠[];simp) (ft ?_));split
  ·rename_i h;exact(J h).sp _ _
  ·trivial
 ·split
  ·rename_i h;exact(I h).sp _ _
  ·trivial
theorem Nq{x:ByteArray}(N:bR x=true)(e:Bool)(r:List UInt8):bg e (fR x) r:=by
 have _:=hE;unfold fR;split
 ·trivial
 ·rename_i O;unfold bR at N;rw[gP O,ve,gI,gA,gA,gA]at N;(have J:∀{l:List UInt8},aB ⟨l.toArray⟩=true->∀{e z r},iZ (fl z++r)->bg true z r->bg e (.tok 1 l::z) r:=by intro l hl e z r h1 h2;have:=wP (e:=e) hl h1 h2;unfold iq at this;rw[show bytes ⟨l.toArray⟩=l from bX l]at this;exact this);have D:∀e r,bg e [aY,ow ⟨#[58,61]⟩,aY] r:=fun e r=>ft ⟨Gf _,ft trivial⟩;unfold cj at N;rcases N with⟨U,I,M⟩|⟨U,I⟩
  ·rw[gA]at M;rw[gG U];exact J I (iZ.sg (a:=44) (by decide) _) (mL (by decide) (by show(32::_)++r≠[];simp) (ft (J M.1 (iZ.sp _) (D _ _))))
  ·rw[gA]at I;rw[gB (by simpa using U)];exact J I.1 (iZ.sp _) (D _ _)
include hB
theorem R7(N:∀n deep,(aa d).ifS n=true->Pc ((ac d).stmt n deep false))(I:∀n deep,(aa d).block n=true->(ac d).stmt n deep false=(ac d).block n deep){n:Nd}(deep:Nat)(M:AQ (aa d) n=true):Pc (cv (ac d) n deep false):=by
 obtain⟨l,a,rfl,O⟩:=cg M;obtain⟨x,b,o,rfl,J,hb,D⟩:=CY O;unfold ck at D;rw[gI,gI]at D;show Pc (f8 ⟨#[105,102]⟩::aY::((ac d).expr x deep true++(aY::((ac d).block b deep++(if o.kind=0 then[]else aY::f8 ⟨#[101,108,115,101]⟩::aY::(ac d).stmt o deep false)))));refine nS ⟨by decide +kernel,by decide +kernel⟩ ((hE x deep true J).1.app (AA (Pc.opt (hB b deep hb) fun h=>?_)) fun r _=>iZ.sp _);refine nS ⟨by decide +kernel,by decide +kernel⟩ ?_;rcases D with(D|D)|D
 ·obtain⟨a',rfl⟩:=bN D;exact absurd rfl h
 ·rw[I o deep D];exact hB o deep D
 ·exact N o deep D
theorem S3 (hI:∀n deep,(aa d).ifS n=true->Pc ((ac d).stmt n deep false))(ga:∀n deep,(aa d).block n=true->(ac d).stmt n deep false=(ac d).block n deep)(hS:∀n deep,(aa d).stmt n=true->Pc ((ac d).stmt n deep false)){n:Nd}(deep:Nat)(D:aE (aa d) n=true):Pc (cv (ac d) n deep false):=by
 unfold aE at D;split at D
 ·rename_i h;unfold cv;rw[gG h];exact Nn hE deep D
 ·split at D
  ·exact wS hE deep false (by unfold dr;rw[D];rfl)
  ·split at D
   ·exact wS hE deep false (by unfold dr;rw[D,kQ,jG])
   ·split at D
    ·exact wS hE deep false (by unfold dr;rw[D,kQ,jG,jG])
    ·split at D
     ·exact wS hE deep false (by unfold dr;rw[D,jG,jG,jG])
     ·split at D
      ·exact R7 hE hB hI ga deep D
      ·split at D
       ·obtain⟨l,a,rfl,M⟩:=cg D;obtain⟨i,e,p,b,rfl,I,O,U,hb⟩:=PE M;unfold ck at I O U;rw[gI,gI,gI]at I U;rw[gI]at O;refine Gg (l:=sr (ac d) (.mk 31 ⟨#[]⟩ [i,e,p,b] a) deep) ⟨by decide +kernel,by decide +kernel⟩ (P7 hE deep ?_ O ?_) (hB b deep hb)
        ·rcases I with(I|I)|(I|I)
         ·exact .inl I
         ·exact .inr (by unfold dr;rw[I];rfl)
         ·exact .inr (by unfold dr;rw[I,kQ,jG])
         ·exact .inr (by unfold dr;rw[I,kQ,jG,jG])
        ·rcases U with(I|I)|(I|I)
         ·exact .inl I
         ·exact .inr (by unfold dr;rw[I,kQ,jG])
         ·exact .inr (by unfold dr;rw[I,kQ,jG,jG])
         ·exact .inr (by unfold dr;rw[I,jG,jG,jG])
       ·split at D
        ·obtain⟨x,l,a,rfl,J,M⟩:=aJ (by decide) D;obtain⟨e,b,rfl,O,hb⟩:=iO M;refine Gg (l:=fR x) ⟨by decide +kernel,by decide +kernel⟩ (Nq hE J) ?_;exact nS ⟨by decide +kernel,by decide +kernel⟩ ((hE e deep true O).1.app (AA (hB b deep hb)) fun r _=>iZ.sp _)
        ·split at D
         ·obtain⟨l,a,rfl,M⟩:=cg D;obtain⟨x,rfl,J⟩:=dW M;unfold ck at J;rw[gI]at J;show Pc ([f8 ⟨#[114,101,116,117,114,110]⟩]++(if x.kind=0 then[]else aY::(ac d).expr x deep false));refine Pc.opt (Np ⟨by decide +kernel,by decide +kernel,by decide +kernel⟩) fun h=>?_;rcases J with J|J
          ·obtain⟨a',rfl⟩:=bN J;exact absurd rfl h
          ·exact(hE x deep false J).1
         ·split at D
          ·rename_i N;rcases N with N|N
           ·rw[N]at D;obtain⟨l,a,rfl,M⟩:=cg D;exact Np ⟨by decide +kernel,by decide +kernel,by decide +kernel⟩
           ·rw[N]at D;obtain⟨l,a,rfl,M⟩:=cg D;exact Np ⟨by decide +kernel,by decide +kernel,by decide +kernel⟩
          ·unfold bI at D;rw[gA,gA,gD]at D;have N:n.kind=36:=D.1;unfold cv;rw[gB (by omega),gB (by omega),gB (by omega),gB (by omega),gB (by omega),gB (by omega),gB (by omega),gB (by omega),gB (by omega),gB (by omega),gB (by omega)];exact Nm deep fun x J=>hS x (deep+1) (List.all_eq_true.1 D.2.2 x J)
end
def Uh(d:Nat):Prop:=∀n deep head,(aa d).expr n=true->Pc ((ac d).expr n deep head)/\P4 n ((ac d).expr n deep head)
def Ui(d:Nat):Prop:=∀n deep,(aa d).block n=true->Pc ((ac d).block n deep)
def Uj(d:Nat):Prop:=∀n deep,(aa d).stmt n=true->Pc ((ac d).stmt n deep false)
def Uk(d:Nat):Prop:=∀n deep,(aa d).ifS n=true->Pc ((ac d).stmt n deep false)
theorem wT(d:Nat):∀n deep,(aa d).block n=true->(ac d).stmt n deep false=(ac d).block n deep:=by
 intro n deep D;cases d with
 |zero=>cases D
 |succ d=>have hb:bI (aa d) n=true:=D;(have I:n.kind=36:=by unfold bI at hb;rw[gA,gD]at hb;exact hb.1);show cv (ac d) n deep false=_;unfold cv;rw[gB (by omega),gB (by omega),gB (by omega),gB (by omega),gB (by omega),gB (by omega),gB (by omega),gB (by omega),gB (by omega),gB (by omega),gB (by omega)];rfl
theorem Gi:∀(d:Nat)n,(aa d).expr n=true->16<=n.kind
 |0,_,h=>by cases h
 |_+1,_,h=>(wF h).1
theorem BQ:∀d,Uh d/\Ui d/\Uj d/\Uk d
 |0=>⟨fun _ _ _ h=>(by cases h),fun _ _ h=>(by cases h),fun _ _ h=>(by cases h),fun _ _ h=>(by cases h)⟩
 |d+1=>by obtain⟨hE,hB,I,J⟩:=BQ d;refine⟨fun n deep head D=>S2 hE (Gi d) hB deep head D,fun n deep D=>?_,fun n deep D=>S3 hE hB J (wT d) I deep D,fun n deep D=>R7 hE hB J (wT d) deep D⟩;have D:bI (aa d) n=true:=D;unfold bI at D;rw[gA,gA]at D;exact Nm deep fun x hx=>I x (deep+1) (List.all_eq_true.1 D.2.2 x hx)
section
variable {d:Nat}
theorem P8{t:Nd}(I:lh (aa d) t=true):Pc (ig t.text++ag d (aW t 0)):=by
 obtain⟨x,l,a,rfl,N,M⟩:=aJ (by decide) I;obtain⟨k,rfl,J⟩:=dW M;have D:=(nm d J).1;show Pc (ig x++ag d k);unfold ig;split
 ·exact D
 ·exact⟨fun e r hr=>mL (by decide) (stp_ne hr) (D.ok _ r hr),fun e=>D.fin _,⟨126,_,rfl⟩⟩
theorem S4(e:Bool)(r:List UInt8):bg e [aY,cK 124,aY] r:=
 ft ⟨.one (by decide +kernel) (by decide +kernel) fun h=>absurd h (by decide),ft trivial⟩
theorem Nr{n:Nd}(I:bo (aa d) n=true):Pc (l7 (ag d) n):=by
 unfold bo at I;rw[gA,gA,gA]at I;have D:=List.all_eq_true.1 I.2.2.2;unfold l7;have J:mE (bytes ⟨#[105,110,116,101,114,102,97,99,101]⟩)=true/\bW (dx (bytes ⟨#[105,110,116,101,114,102,97,99,101]⟩))=1:=⟨by decide +kernel,by decide +kernel⟩;refine⟨fun e r hr=>Ay J (iZ.sg (a:=123) (by decide) _) (mL (by decide) (by show(32::_)++r≠[];simp) (ft (bg.app (ET _ S4 (fun z=>iZ.sp _) _ (fun l hl=>?_) _ _ (iZ.sp _)) (ft (mL (by decide) (stp_ne hr) trivial))))),fun e=>?_,⟨105,_,rfl⟩⟩
 ·obtain⟨t,M,rfl⟩:=List.mem_map.1 hl;exact P8 (D t M)
 ·show ls (oV 6 [123]) (cr _ _++[aY,cK 125])=true;rw[dh];exact wQ (.inr (.inr rfl))
theorem EW{n:Nd}(D:(aa d).typ n=true\/bo (aa d) n=true):Pc (fJ (ac d) n):=by
 unfold fJ;rw[show(ac d).typ=ag d from funext dM];rcases D with D|D
 ·have:=typ_kind D;rw[gB (by omega)];exact(nm d D).1
 ·(have I:n.kind=14:=by unfold bo at D;rw[gA,gD]at D;exact D.1);rw[gG I];exact Nr D
theorem EX{n:Nd}(M:bj (aa d) n=true)(r:List UInt8)(J:iZ r):bg true (fq (ac d) n) r/\ls true (fq (ac d) n)=true/\iZ (fl (fq (ac d) n)++r):=by obtain⟨l,a,rfl,N⟩:=sq M;refine Nj (f:=dP (ac d)) (l:=l) (fun p hp=>?_) r J;obtain⟨x,q,a',rfl,I,O⟩:=aJ (by decide) (List.all_eq_true.1 N p hp);obtain⟨k,rfl,D⟩:=dW O;refine oH I (EW ?_);unfold ck eS at D;rw[gI,gA]at D;exact D.imp (·.2) id
theorem S5{n:Nd}(M:bE (aa d) n=true):Pc (oU (ac d) n):=by
 unfold bE at M;rw[gA,gA]at M;have I:=List.all_eq_true.1 M.2.2;have D:∀l:List Nd,(∀x∈l,io (aa d) x=true)->∀r,bg false (l.flatMap (cM (ac d))) r/\ls false (l.flatMap (cM (ac d)))=false:=by
  intro l;induction l with
  |nil=>exact fun _ _=>⟨trivial,rfl⟩
  | cons x l ih=>
   intro h r;have ih:=ih (fun y J=>h y (by simp[J]));have N:∀r,bg false (cM (ac d) x) r/\ls false (cM (ac d) x)=false:=by
    intro r;obtain⟨y,q,a,rfl,J,h0⟩:=aJ (by decide) (h x (by simp));obtain⟨k,rfl,U⟩:=dW h0;have O:=oH J (nm d U).1;(have e:cM (ac d) (.mk 9 y [k] a)=.gap 9::((iq y::aY::ag d k)++[.nl]):=by show .gap 9::iq y::aY::((ac d).typ k++[.nl])=_;rw[dM];rfl);rw[e];refine⟨⟨.inr (.inl rfl),bg.app (O.ok _ _ (wR _)) ?_⟩,?_⟩
    ·rw[O.fin];exact⟨rfl,trivial⟩
    ·show ls false (_++[.nl])=false;rw[dh];rfl
   rw[jE];refine⟨bg.app (N _).1 ?_,?_⟩
   ·rw[(N r).2];exact(ih r).1
   ·rw[dh,(N r).2,(ih r).2]
 unfold oU;refine nS ⟨by decide +kernel,by decide +kernel⟩ ⟨fun e r hr=>mL (by decide) (by show(10::_)++r≠[];simp) ⟨.inr (.inr ⟨rfl,sH⟩),?_⟩,fun e=>?_,⟨123,_,rfl⟩⟩
 ·rw[sH];refine bg.app (D _ I _).1 (mL (by decide) (stp_ne hr) trivial)
 ·show ls (oV 6 [123]) (_++[cK 125])=true;rw[dh];exact wQ (.inr (.inr rfl))
theorem BR{x y:ByteArray}(N:mE (bytes x)=true/\bW (dx (bytes x))=1)(J:aB y=true){l z:List It}(M:∀r,iZ r->bg true l r/\ls true l=true/\iZ (fl l++r))(I:Pc z)(D:∀r,iZ (fl z++r)):Pc (f8 x::aY::iq y::(l++z)):=by
 refine nS N ⟨fun e r hr=>wP J ?_ (bg.app (M _ (D r)).1 (I.ok _ r hr)),fun e=>?_,?_⟩
 ·rw[iF,gL];exact(M _ (D r)).2.2
 ·show ls true (l++z)=true;rw[dh,I.fin]
 ·obtain⟨b,q,e,_⟩:=pR J (l++z);exact⟨b,q,e⟩
theorem S6{n:Nd}(J:bM (aa d) n=true):Pc (eN (ac d) n):=by
 have hF:(ac d).typ=ag d:=funext dM;unfold bM at J;unfold eN;split at J
 ·rename_i h;rw[gG h];obtain⟨x,l,a,rfl,N,M⟩:=aJ (by decide) J;obtain⟨ps,sg,b,rfl,I,U,hb⟩:=CY M;rw[hF];refine BR ⟨by decide +kernel,by decide +kernel⟩ N (EX I) ((BO (.inl rfl) (fun n h=>(nm d h).1) U).app (AA ((BQ d).2.1 b 0 hb)) fun r _=>iZ.sp _) fun r=>?_;rw[iF,gL];exact EU _ _ _
 ·split at J
  ·rename_i M h;rw[gB M,gG h];obtain⟨x,l,a,rfl,N,O⟩:=aJ (by decide) J;obtain⟨ps,t,rfl,I,D⟩:=iO O;refine BR ⟨by decide +kernel,by decide +kernel⟩ N (EX I) (AA ?_) fun r=>iZ.sp _;show Pc (if t.kind=13 then oU (ac d) t else fJ (ac d) t);unfold ck at D;rw[gI,gI]at D;rcases D with(D|D)|D
   ·have:=typ_kind D;rw[gB (by omega)];exact EW (.inl D)
   ·(have hk:t.kind=13:=by unfold bE at D;rw[gA,gD]at D;exact D.1);rw[gG hk];exact S5 D
   ·(have hk:t.kind=14:=by unfold bo at D;rw[gA,gD]at D;exact D.1);rw[gB (by omega)];exact EW (.inr D)
  ·split at J
   ·rename_i M O h;rw[gB M,gB O,gG h];obtain⟨x,l,a,rfl,N,h2⟩:=aJ (by decide) J;obtain⟨ps,t,rfl,I,D⟩:=iO h2;rw[hF];have hp:=(nm d D).1;exact BR ⟨by decide +kernel,by decide +kernel⟩ N (EX I) (AA ⟨fun e r hr=>⟨EV _,ft (hp.ok _ r hr)⟩,fun e=>hp.fin _,⟨61,_,rfl⟩⟩) fun r=>iZ.sp _
   ·rename_i M O h2;rw[gB M,gB O,gB h2];exact Nn (BQ d).1 0 J
theorem Ns{n:Nd}(I:fF (aa d) n=true)(r:List UInt8):bg false (iB (ac d) n) r/\ls false (iB (ac d) n)=false:=by
 unfold fF at I;rw[gA,gA]at I;have D:=List.all_eq_true.1 I.2.2;have hd:∀l:List Nd,(∀x∈l,bM (aa d) x=true)->∀r,bg false (l.flatMap fun x=>.gap 10::(eN (ac d) x++[.nl])) r/\ls false (l.flatMap fun x=>.gap 10::(eN (ac d) x++[.nl]))=false:=by
  intro l;induction l with
  |nil=>exact fun _ _=>⟨trivial,rfl⟩
  | cons x l ih=>
   intro h r;have ih:=ih (fun y hy=>h y (by simp[hy]));have M:=S6 (h x (by simp));have J:∀r,bg false (.gap 10::(eN (ac d) x++[.nl])) r/\ls false (.gap 10::(eN (ac d) x++[.nl]))=false:=by
    intro r;refine⟨⟨.inr (.inr ⟨rfl,rfl⟩),bg.app (M.ok _ _ (wR _)) ?_⟩,?_⟩
    ·rw[M.fin];exact⟨rfl,trivial⟩
    ·show ls false (_++[.nl])=false;rw[dh];rfl
   rw[jE];refine⟨bg.app (J _).1 ?_,?_⟩
   ·rw[(J r).2];exact(ih r).1
   ·rw[dh,(J r).2,(ih r).2]
 have h:=hd _ D r;unfold iB;exact⟨Ay ⟨by decide +kernel,by decide +kernel⟩ (iZ.sp _) (ft (wP I.2.1 (wR _) ⟨rfl,h.1⟩)),h.2⟩
theorem P9{n:Nd}(D:fF (aa d) n=true):bg false (iB (ac d) n) []:=(Ns D []).1
end
theorem nT:∀(z:List It)(i:Nat),(dQ i z).map I5=aG z
 |[],_=>rfl
 | .tok k x::z,i=>by show I5 _::(dQ _ z).map I5=_;rw[nT z];rfl
 | .gap _::z,i=>nT z _
 | .nl::z,i=>by show I5 _::(dQ _ z).map I5=_;rw[nT z];rfl
end
end Go.Proofs.YteialcjaiocjdaaGreatDoor
