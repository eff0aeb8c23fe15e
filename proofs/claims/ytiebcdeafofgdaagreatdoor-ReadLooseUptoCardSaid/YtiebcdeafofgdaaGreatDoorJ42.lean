/-
  Parts of the proof: Ppw Ppx Ppy Ppz Pqa. By an AI agent.
-/
import Derived.Test.YtiebcdeafofgdaaGreatDoorJ41
namespace Go.Proofs.YtiebcdeafofgdaaGreatDoor
section
open Go.Lib
def Hd(l:List It):Prop:=∃b q,fX l=b::q/\(b≠61/\b≠62/\b≠45)
theorem FD{b:UInt8}(h:aL (b.toNat:Int)=true):b≠61/\b≠62/\b≠45:=by refine⟨?_,?_,?_⟩<;>(rintro rfl;revert h;decide)
theorem su{x:ByteArray}(I:aE x=true)(z:List It):Hd (mK x::z):=by
 have h:=(ot I).1;cases D:bytes x with
 |nil=>rw[D]at h;cases h
 |cons b q=>rw[D]at h;unfold mM at h;rw[gB]at h;refine⟨b,q++fX z,?_,FD (by unfold aL;rw[h.1];rfl)⟩;rw[cD];show bytes x++_=_;rw[D];rfl
theorem Hd.app{a:List It}(h:Hd a)(b:List It):Hd (a++b):=by obtain⟨c,q,e,h⟩:=h;exact⟨c,q++fX b,by rw[iR,e];rfl,h⟩
theorem Bp{x:ByteArray}(D:aE x=true):Pc [mK x]:=
 ⟨fun e r hr=>Db D hr trivial,fun e=>by show nB 1 (bytes x)=true;rfl,by obtain⟨b,q,e,_⟩:=su D [];exact⟨b,q,e⟩⟩
theorem wA{x:ByteArray}(D:aE x=true){p:List It}(I:Pc p):Pc (mK x::bu::p):=
 ⟨fun e r hr=>Db D (lK.sp _) (iT (I.ok _ r hr)),fun e=>I.fin _,by obtain⟨b,q,e,_⟩:=su D (bu::p);exact⟨b,q,e⟩⟩
theorem Pc.stp_ne{l:List It}(_:Pc l){r:List UInt8}(D:lK r):fX l++r≠[]:=Go.Proofs.YtiebcdeafofgdaaGreatDoor.stp_ne D
theorem Ss{f:Nd->List It}{n:Nd}(J:∀p∈(bc n 0).kids,Pc (dx p.text++f (bc p 0)))(D:(bc n 1).kind≠0->Pc (f (bc n 1))):Pc (fm f n):=by
 unfold fm;refine Bo (by decide) (.inl rfl) (fun l hl=>?_) (fun r hr=>?_) ?_ fun r hr=>stp_ne hr
 ·obtain⟨p,I,rfl⟩:=List.mem_map.1 hl;exact J p I
 ·split
  ·trivial
  ·rename_i h;exact iT ((D h).ok _ r hr)
 ·split
  ·rfl
  ·rename_i h;exact(D h).fin _
theorem MW(f:Nd->List It)(n:Nd)(r:List UInt8):lK (fX (fm f n)++r):=by unfold fm;rw[cD];exact lK.sg (a:=40) (by decide) _
theorem PG:mM (bytes ⟨#[102,117,110,99]⟩)=true/\bM (d7 (bytes ⟨#[102,117,110,99]⟩))=1:=⟨by decide +kernel,by decide +kernel⟩
theorem FE{l:List It}(D:Pc l)(hs:∀r,lK (fX l++r)):Pc (lJ ⟨#[102,117,110,99]⟩::l)/\Hd (lJ ⟨#[102,117,110,99]⟩::l):=
 ⟨⟨fun e r hr=>FC PG (hs r) (D.ok _ r hr),fun e=>D.fin _,⟨102,_,rfl⟩⟩,⟨102,_,rfl,by decide,by decide,by decide⟩⟩
theorem MX{F:cQ}{f:Nd->List It}{so:ByteArray->Bool}(I:so=aE\/so=dV)(N:∀n,F.typ n=true->Pc (f n)){p:Nd}(O:dQ F so p=true):Pc (dx p.text++f (bc p 0)):=by
 obtain⟨x,l,a,rfl,D,U⟩:=aN (by decide) O;obtain⟨k,rfl,M⟩:=d8 U;show Pc (dx x++f k);unfold dx;split
 ·exact N k M
 ·rename_i J;rcases I with rfl|rfl
  ·exact wA D (N k M)
  ·unfold dV at D;rw[gE]at D;exact absurd D J
theorem FF{F:cQ}{f:Nd->List It}{so:ByteArray->Bool}(I:so=aE\/so=dV)(M:∀n,F.typ n=true->Pc (f n)){n:Nd}(N:io F so n=true):Pc (fm f n):=by
 obtain⟨ps,a1,res,a,rfl,J,D⟩:=sS N;refine Ss (fun p hp=>MX I M (List.all_eq_true.1 J p hp)) fun h=>?_;rcases D with D|D
 ·obtain⟨a',rfl⟩:=bI D;exact absurd rfl h
 ·exact M res D
theorem Su{f:Nd->List It}{l:List Nd}(J:∀x∈l,Pc (f x))(r:List UInt8)(D:lK r):bj true (nY f l) r/\oF true (nY f l)=true/\lK (fX (nY f l)++r):=by
 unfold nY;split
 ·exact⟨trivial,rfl,D⟩
 ·have:=Bo (o:=91) (a:=93) (L:=l.map f) (z:=[]) (by decide) (.inr (.inl rfl)) (fun y hy=>by obtain⟨x,I,rfl⟩:=List.mem_map.1 hy;exact J x I) (fun _ _=>trivial) rfl (fun r D=>stp_ne D);refine⟨this.ok _ r D,this.fin _,?_⟩;rw[cD];exact lK.sg (a:=91) (by decide) _
theorem wB:∀(d:Nat){n:Nd},(aa d).typ n=true->Pc (am d n)/\Hd (am d n)
 |0,_,h=>by cases h
 |d+1,n,h=>by
  have I:=typ_kind h;have h:dA (aa d) n=true:=h;have M:∀n,(aa d).typ n=true->Pc (am d n):=fun n h=>(wB d h).1;unfold dA at h;unfold am;rcases I with I|I|I
  ·rw[d5 (by omega),d5 (by omega),d5 (by omega)];rw[gF I,gB]at h;have D:=Su (f:=am d) (l:=n.kids) fun x hx=>M x (List.all_eq_true.1 h.2 x hx);refine⟨⟨fun e r hr=>Db h.1 (D r hr).2.2 (D r hr).1,fun e=>(D [32] (lK.sp [])).2.1,?_⟩,su h.1 _⟩;obtain⟨b,q,e,_⟩:=su h.1 (nY (am d) n.kids);exact⟨b,q,e⟩
  ·rw[gF I];rw[d5 (by omega),gF I]at h;obtain⟨l,a,rfl,O⟩:=bV h;obtain⟨k,rfl,J⟩:=d8 O;have N:=M k J;refine⟨⟨fun e r hr=>nH (by decide) (by rw[cD];show(93::_)++r≠[];simp) (nH (by decide) (stp_ne hr) (N.ok _ r hr)),fun e=>N.fin _,⟨91,_,rfl⟩⟩,⟨91,_,rfl,by decide,by decide,by decide⟩⟩
  ·rw[d5 (by omega),gF I];rw[d5 (by omega),d5 (by omega),gF I]at h;exact FE (FF (.inr rfl) M h) (MW _ _)
def PH(n:Nd)(l:List It):Prop:=∃b q,fX l=b::q/\b≠61/\b≠62/\(n.kind≠20->b=45->n.kind=19/\n.text=(⟨#[45]⟩:BA))
theorem Hd.e{l:List It}(h:Hd l)(n:Nd):PH n l:=by obtain⟨b,q,e,J,I,D⟩:=h;exact⟨b,q,e,J,I,fun _ h=>absurd h D⟩
theorem Dc(b:UInt8)(h:b≠61/\b≠62/\b≠45):Ib 45 b=true:=by(have key:∀b:Fin 256,b.val≠61->b.val≠62->b.val≠45->Ib 45 (UInt8.ofNat b.val)=true:=by decide +kernel);have:=key ⟨b.toNat,b.toNat_lt⟩ (nC (n:=61) (by decide) h.1) (nC (n:=62) (by decide) h.2.1) (nC (n:=45) (by decide) h.2.2);simpa using this
theorem MY(b:UInt8)(h:b≠61):Ib 33 b=true:=by(have key:∀b:Fin 256,b.val≠61->Ib 33 (UInt8.ofNat b.val)=true:=by decide +kernel);have:=key ⟨b.toNat,b.toNat_lt⟩ (nC (n:=61) (by decide) h);simpa using this
theorem MZ(b:UInt8)(h:aL (b.toNat:Int)=true):Ib 46 b=true:=by(have key:∀b:Fin 256,aL (((UInt8.ofNat b.val).toNat:Nat):Int)=true->Ib 46 (UInt8.ofNat b.val)=true:=by decide +kernel);have:=key ⟨b.toNat,b.toNat_lt⟩;simpa using this (by simpa using h)
theorem td{b:UInt8}(O:b≠34)(N:b≠92)(M:b≠10)(r:List UInt8)(k:Nat):bi 34 (b::r) false k=bi 34 r false (k+1):=by have J:b.toNat≠34:=nC (n:=34) (by decide) O;have I:b.toNat≠92:=nC (n:=92) (by decide) N;have D:b.toNat≠10:=nC (n:=10) (by decide) M;rw[bi,d5 (fun h=>I h.1),d5 J,d5 (fun h=>D h.1)]
theorem M0(b:UInt8)(r:List UInt8)(k:Nat):bi 34 (ce b++r) false k=bi 34 r false (k+(ce b).length):=by
 unfold ce;split
 ·rfl
 ·split
  ·rfl
  ·split
   ·rfl
   ·split
    ·rfl
    ·split
     ·rename_i J h2 h3 h4 h5;exact td J h2 h3 r k
     ·(have key:∀n:Fin 16,yk n.val≠34/\yk n.val≠92/\yk n.val≠10:=by decide +kernel);have I:=key ⟨b.toNat/16,by have:=b.toNat_lt;omega⟩;have D:=key ⟨b.toNat%16,by omega⟩;show bi 34 (yk (b.toNat/16)::yk (b.toNat%16)::r) false (k+1+1)=_;rw[td I.1 I.2.1 I.2.2,td D.1 D.2.1 D.2.2];rfl
theorem yZ:∀(l:List UInt8)(r:List UInt8)(k:Nat),bi 34 (l.flatMap ce++34::r) false k=some (k+(l.flatMap ce).length)
 |[],r,k=>by show bi 34 (34::r) false k=_;simp[bi]
 |b::l,r,k=>by rw[jH,gO,M0,yZ l r,gL,Nat.add_assoc]
def PI:List UInt8->Bool
 |[a]=>Ib a 32&&(nd [a])
 |[a,b]=>Tu a b&&(nd [a]&&a != 47)
 |_=>false
theorem Sv{x:List UInt8}(h:PI x=true)(r:List UInt8):ft (32::r) 6 x:=by
 unfold PI at h;split at h
 ·rw[gB]at h;exact .one h.1 h.2 fun _=>⟨by decide,by decide⟩
 ·rw[gB,gB]at h;exact .two h.1 h.2.1 (by simpa using h.2.2)
 ·cases h
theorem mx{l:List It}(D:Pc l):Pc (bS 40::(l++[bS 41]))/\Hd (bS 40::(l++[bS 41])):=by have:=Bo (o:=40) (a:=41) (L:=[l]) (z:=[]) (by decide) (.inl rfl) (fun y hy=>by obtain rfl:y=l:=(by simpa using hy);exact D) (fun _ _=>trivial) rfl (fun r hr=>stp_ne hr);exact⟨this,⟨40,_,rfl,by decide,by decide,by decide⟩⟩
theorem Sw{x:ByteArray}(I:dt x=true):Pc [.tok 4 (bytes x)]/\Hd [.tok 4 (bytes x)]:=by
 unfold dt at I;rw[gB,gI,gE]at I;obtain⟨D,h⟩:=I;have J:bytes x≠[]:=by
  rcases h with rfl|h
  ·decide
  ·rw[gB,gE]at h;exact fun e=>h.1 (cg e)
 cases M:bytes x with
 |nil=>exact absurd M J
 |cons a q=>(have D:(a::q).all eF=true:=by rw[<-M];exact D);rw[kz,gB]at D;(have O:aL (a.toNat:Int)=true:=by unfold aL;rw[<-eY,D.1,jE]);(have N:Se (a::q)=true:=by show(av (a.toNat:Int)&&q.all fun c=>aL (c.toNat:Int))=true;rw[<-eY,D.1,kK,qI];intro b hb;unfold aL;rw[<-eY,List.all_eq_true.1 D.2 b hb,jE]);exact⟨⟨fun e r hr=>⟨.num N hr.stop,trivial⟩,fun e=>rfl,⟨a,_,rfl⟩⟩,⟨a,_,rfl,FD O⟩⟩
section
variable {d:Nat} (hE:∀n deep head,(aa d).expr n=true->Pc ((ao d).expr n deep head)/\PH n ((ao d).expr n deep head))
include hE
theorem sv{n:Nd}(yes:Bool)(deep:Nat)(head:Bool)(D:(aa d).expr n=true):Pc (aK (ao d) yes n deep head)/\(yes=true/\Hd (aK (ao d) yes n deep head)\/yes=false/\PH n (aK (ao d) yes n deep head)):=by
 unfold aK;cases yes with
 |true=>rw[gF rfl];have:=mx (hE n deep false D).1;exact⟨this.1,.inl ⟨rfl,this.2⟩⟩
 |false=>rw[d5 (by decide)];exact⟨(hE n deep head D).1,.inr ⟨rfl,(hE n deep head D).2⟩⟩
theorem PJ{x:Nd}(deep:Nat)(D:dB (aa d) x=true)(I:(aa d).expr x=true->16<=x.kind):Pc (dy (ao d) deep x):=by
 unfold dB at D;rw[gI,gB,gE]at D;unfold dy;rcases D with D|⟨J,D⟩
 ·have:=I D;rw[d5 (by omega)];exact(hE x deep false D).1
 ·have:=typ_kind D;rw[gF (by omega),l7];exact(wB d D).1
theorem te{n f:Nd}(deep:Nat)(head:Bool)(N:(aa d).expr f=true){z:List It}(M:Pc z)(I:∀r,lK (fX z++r)):Pc (aK (ao d) (da f) f deep head++z)/\PH n (aK (ao d) (da f) f deep head++z):=by
 obtain⟨O,J⟩:=sv hE (da f) deep head N;refine⟨O.app M fun r _=>I r,?_⟩;rcases J with⟨_,J⟩|⟨D,b,q,e,b1,b2,U⟩
 ·exact(J.app z).e n
 ·unfold da at D;rw[qe,gJ,gJ]at D;exact⟨b,q++fX z,by rw[iR,e];rfl,b1,b2,fun _ h=>absurd (U D.2 h).1 D.1⟩
theorem Sx (hk:∀n,(aa d).expr n=true->16<=n.kind)(hB:∀n deep,(aa d).block n=true->Pc ((ao d).block n deep)){n:Nd}(deep:Nat)(head:Bool)(D:aA (aa d) n=true):Pc (mA (ao d) n deep head)/\PH n (mA (ao d) n deep head):=by
 have hF:(ao d).typ=am d:=funext l7;(have O:∀(o a:UInt8)(l:List Nd),wz o=true->(a=41\/a=93\/a=125)->l.all (dB (aa d))=true->Pc (bS o::(dk cG (l.map (dy (ao d) deep))++[bS a])):=by intro o a l ho ha hl;refine Bo ho ha (fun y hy=>?_) (fun _ _=>trivial) rfl fun r J=>stp_ne J;obtain⟨x,I,rfl⟩:=List.mem_map.1 hy;exact PJ hE deep (List.all_eq_true.1 hl x I) (hk x));(have ga:∀l:List Nd,l.all (aa d).expr=true->l.all (dB (aa d))=true:=by intro l hl;rw[qI]at hl |-;intro x I;unfold dB;rw[hl x I];rfl);unfold aA at D;unfold mA;split at D
 ·rename_i h;rw[gF h];obtain⟨x,l,a,rfl,I,M⟩:=aN (by decide) D;have:=Sw I;exact⟨this.1,this.2.e _⟩
 ·split at D
  ·rename_i M h;rw[d5 M,gF h];obtain⟨x,l,a,rfl,I,_⟩:=aN (by decide) D;exact⟨⟨fun e r J=>⟨.text (y:=(bytes x).flatMap ce) fun r=>by rw[yZ,kS],trivial⟩,fun e=>rfl,⟨34,_,rfl⟩⟩,⟨34,_,rfl,by decide,by decide,fun _ h=>absurd h (by decide)⟩⟩
  ·split at D
   ·rename_i M h1 h;rw[d5 M,d5 h1,gF h];obtain⟨x,l,a,rfl,I,_⟩:=aN (by decide) D;exact⟨Bp I,(su I []).e _⟩
   ·split at D
    ·rename_i M h1 h2 h;rw[d5 M,d5 h1,d5 h2,gF h];obtain⟨x,l,a,rfl,I,N⟩:=aN (by decide) D;obtain⟨y,rfl,hy⟩:=d8 N;show Pc (iV x::aK (ao d) (eG (Nd.mk 19 x [y] a) y) y deep head)/\PH _ (iV x::aK (ao d) (eG (Nd.mk 19 x [y] a) y) y deep head);obtain⟨p1,p2⟩:=sv hE (eG (Nd.mk 19 x [y] a) y) deep head hy;unfold dW at I;rw[gI,gE,gE]at I;have hb:∃b q,fX (aK (ao d) (eG (Nd.mk 19 x [y] a) y) y deep head)=b::q/\b≠61/\(x=(⟨#[45]⟩:BA)->b≠62/\b≠45):=by
      rcases p2 with⟨_,b,q,e,b1,b2,b3⟩|⟨J,b,q,e,b1,b2,b3⟩
      ·exact⟨b,q,e,b1,fun _=>⟨b2,b3⟩⟩
      ·refine⟨b,q,e,b1,fun hm=>⟨b2,fun gh=>?_⟩⟩;unfold eG at J;rw[qe,gJ]at J;obtain⟨k1,k2⟩:=b3 J.1 gh;have:=J.2;rw[k1,k2]at this;subst hm;exact absurd (show true=false from this) (by decide)
     obtain⟨b,q,eb,b1,b2⟩:=hb;rcases I with rfl|rfl
     ·refine⟨⟨fun e r J=>⟨?_,p1.ok _ r J⟩,fun e=>p1.fin _,⟨45,_,rfl⟩⟩,⟨45,_,rfl,by decide,by decide,fun _ _=>⟨rfl,rfl⟩⟩⟩;rw[eb];exact .one (a:=45) (Dc b ⟨b1,(b2 rfl).1,(b2 rfl).2⟩) (by decide +kernel) fun h=>absurd h (by decide)
     ·refine⟨⟨fun e r J=>⟨?_,p1.ok _ r J⟩,fun e=>p1.fin _,⟨33,_,rfl⟩⟩,⟨33,_,rfl,by decide,by decide,fun _ h=>absurd h (by decide)⟩⟩;rw[eb];exact .one (a:=33) (MY b b1) (by decide +kernel) fun h=>absurd h (by decide)
    ·split at D
     ·rename_i M h1 h2 N h;rw[d5 M,d5 h1,d5 h2,d5 N,gF h];obtain⟨x,l,a,rfl,I,h4⟩:=aN (by decide) D;obtain⟨y,z,rfl,hy,hz⟩:=ll h4;obtain⟨p1,p2⟩:=sv hE (eH (Nd.mk 20 x [y,z] a) y) deep head hy;obtain⟨q1,q2⟩:=sv hE (ei (Nd.mk 20 x [y,z] a) z) deep head hz;have gb:PI (bytes x)=true:=fO I (fun y=>PI (bytes y)=true) (by decide +kernel);have J:Pc (iV x::bu::aK (ao d) (ei (Nd.mk 20 x [y,z] a) z) z deep head):=by
       refine⟨fun e r J=>⟨Sv gb _,iT (q1.ok _ r J)⟩,fun e=>q1.fin _,?_⟩;rw[cD];show ∃b q,bytes x++_=b::q;cases hq:bytes x with
       |nil=>rw[hq]at gb;cases gb
       |cons b q=>exact⟨b,_,rfl⟩
      have ge:Pc (bu::iV x::bu::aK (ao d) (ei (Nd.mk 20 x [y,z] a) z) z deep head):=⟨fun e r h=>iT (J.ok e r h),fun e=>J.fin e,⟨32,_,rfl⟩⟩
      refine⟨p1.app ge fun r _=>lK.sp _,?_⟩;rcases p2 with⟨_,b,q,e,b1,b2,b3⟩|⟨_,b,q,e,b1,b2,b3⟩
      ·exact⟨b,_,by rw[iR];erw[e];rfl,b1,b2,fun h=>absurd rfl h⟩
      ·exact⟨b,_,by rw[iR];erw[e];rfl,b1,b2,fun h=>absurd rfl h⟩
     ·split at D
      ·rename_i M h1 h2 N h4 h;rw[d5 M,d5 h1,d5 h2,d5 N,d5 h4,gF h];obtain⟨k,t,l,a⟩:=n;rw[gB,gB,gE,gE]at D;obtain⟨ht,hl,hA⟩:=D;cases l with
       |nil=>exact absurd hl (by show ¬ 0<0;omega)
       |cons f args=>have hA:((f::args).all (aa d).expr)=true:=hA;rw[kz,gB]at hA;exact te hE deep head hA.1 (O 40 41 args (by decide) (.inl rfl) (ga _ hA.2)) fun r=>lK.sg (a:=40) (by decide) _
      ·split at D
       ·rename_i M h1 h2 N h4 h5 h;rw[d5 M,d5 h1,d5 h2,d5 N,d5 h4,d5 h5,gF h];obtain⟨k,t,l,a⟩:=n;rw[gB,gB,gB,gE,gE]at D;obtain⟨ht,hl,hf,hA⟩:=D;cases l with
        |nil=>exact absurd hl (by show ¬ 1<0;omega)
        |cons f args=>exact te hE deep head hf (O 91 93 args (by decide) (.inr (.inl rfl)) hA) fun r=>lK.sg (a:=91) (by decide) _
       ·split at D
        ·rename_i M h1 h2 N h4 h5 h6 h;rw[d5 M,d5 h1,d5 h2,d5 N,d5 h4,d5 h5,d5 h6,gF h];obtain⟨x,l,a,rfl,I,h7⟩:=aN (by decide) D;obtain⟨f,rfl,hf⟩:=d8 h7;refine te hE deep head hf (z:=[bS 46,mK x]) ⟨fun e r J=>⟨?_,Db I J trivial⟩,fun e=>rfl,⟨46,_,rfl⟩⟩ fun r=>⟨46,_,rfl,by decide +kernel⟩;have hw:=(ot I).1;cases hq:bytes x with
         |nil=>rw[hq]at hw;cases hw
         |cons b q=>rw[hq]at hw;unfold mM at hw;rw[gB]at hw;show ft (fX [mK x]++r) 6 [46];rw[show fX [mK x]++r=b::(q++r)by show(bytes x++[])++r=_;rw[kG,hq];rfl];exact .one (MZ b (by unfold aL;rw[hw.1];rfl)) (by decide +kernel) fun h=>absurd h (by decide)
        ·split at D
         ·rename_i M h1 h2 N h4 h5 h6 h7 h;rw[d5 M,d5 h1,d5 h2,d5 N,d5 h4,d5 h5,d5 h6,d5 h7,gF h];obtain⟨k,t,l,a⟩:=n;rw[gB,gB,gB,gB,gE,gE,gE]at D;obtain⟨ht,hl,gi,hT,hA⟩:=D;cases l with
          |nil=>exact absurd hl (by show ¬ 0<0;omega)
          |cons T args=>
           have hT:(aa d).typ T=true:=hT;(have U:Pc (nZ (ao d) (.mk k t (T::args) a) deep)/\Hd (nZ (ao d) (.mk k t (T::args) a) deep):=by unfold nZ;rw[hF];obtain⟨t1,t2⟩:=wB d hT;exact⟨t1.app (O 123 125 args (by decide) (.inr (.inr rfl)) (ga _ hA)) fun r _=>lK.sg (a:=123) (by decide) _,t2.app _⟩);split
           ·have:=mx U.1;exact⟨this.1,this.2.e _⟩
           ·exact⟨U.1,U.2.e _⟩
         ·rename_i M h1 h2 N h4 h5 h6 h7 h8;rw[d5 M,d5 h1,d5 h2,d5 N,d5 h4,d5 h5,d5 h6,d5 h7,d5 h8];obtain⟨l,a,rfl,h9⟩:=bV D;obtain⟨sg,b,rfl,gd,hb⟩:=ll h9;rw[hF];have hs:=FF (.inl rfl) (fun n h=>(wB d h).1) gd;have hb:=hB b deep hb;have gg:Pc (bu::(ao d).block b deep):=⟨fun e r h=>iT (hb.ok e r h),fun e=>hb.fin e,⟨32,_,rfl⟩⟩
          (have:=FE (hs.app gg fun r _=>lK.sp _) fun r=>by rw[iR,gO];exact MW _ _ _);exact⟨this.1,this.2.e _⟩
end
theorem Bq:∀(k:Nat)(e:Bool)(r:List UInt8),bj e (mz k) r/\oF e (mz k)=e
 |0,_,_=>⟨trivial,rfl⟩
 |k+1,e,r=>⟨⟨.inr (.inl rfl),(Bq k e r).1⟩,(Bq k e r).2⟩
theorem M1(q:List UInt8):lK (10::q):=⟨10,q,rfl,by decide +kernel⟩
theorem FG{f:Nd->List It}(k:Nat):∀(l:List Nd),(∀x∈l,Pc (f x))->∀r,bj false (l.flatMap fun x=>mz k++(f x++[.nl])) r/\oF false (l.flatMap fun x=>mz k++(f x++[.nl]))=false
 |[],_,_=>⟨trivial,rfl⟩
 | x::l,h,r=>by
  have I:=h x (by simp);have ih:=FG k l (fun y hy=>h y (by simp[hy])) r;have D:∀r,bj false (mz k++(f x++[.nl])) r/\oF false (mz k++(f x++[.nl]))=false:=by
   intro r;refine⟨bj.app (Bq _ _ _).1 (bj.app (I.ok _ _ (M1 _)) ?_),?_⟩
   ·rw[I.fin];exact⟨rfl,trivial⟩
   ·rw[fh,fh];rfl
  rw[jH];refine⟨bj.app (D _).1 ?_,?_⟩
  ·rw[(D r).2];exact ih.1
  ·rw[fh,(D r).2,ih.2]
theorem Dd:nB 6 [123]=false:=by decide +kernel
theorem M2{F:CI}{n:Nd}(deep:Nat)(h:∀x∈n.kids,Pc (F.stmt x (deep+1) false)):Pc (oE F n deep):=by
 unfold oE;have hb:=FG (f:=fun x=>F.stmt x (deep+1) false) (deep+1) n.kids h;refine⟨fun e r hr=>nH (by decide) (by rw[cD];show(10::_)++r≠[];simp) ⟨.inr (.inr ⟨rfl,Dd⟩),?_⟩,fun e=>?_,⟨123,_,rfl⟩⟩
 ·rw[Dd];refine bj.app (hb _).1 (bj.app (Bq _ _ _).1 (nH (by decide) (stp_ne hr) trivial))
 ·show oF (nB 6 [123]) (_++(mz deep++[bS 125]))=true;rw[fh,fh];exact Bn (.inr (.inr rfl))
theorem M3{l:List It}(h:Pc l):Pc (bu::l):=⟨fun e r hr=>iT (h.ok e r hr),fun e=>h.fin e,⟨32,_,rfl⟩⟩
theorem sw{x:ByteArray}(D:mM (bytes x)=true/\bM (d7 (bytes x))=1){l:List It}(h:Pc l):Pc (lJ x::bu::l):=by
 refine⟨fun e r hr=>FC D (lK.sp _) (iT (h.ok _ r hr)),fun e=>h.fin _,?_⟩;rw[cD];show ∃b q,bytes x++_=b::q;cases I:bytes x with
 |nil=>rw[I]at D;cases D.1
 |cons b q=>exact⟨b,_,rfl⟩
theorem M4(r:List UInt8):ft (32::r) 6 [61]:=.one (by decide +kernel) (by decide +kernel) fun h=>absurd h (by decide)
theorem FH(r:List UInt8):ft r 6 (bytes ⟨#[58,61]⟩):=ft.two (a:=58) (b:=61) (by decide +kernel) (by decide +kernel) (by decide)
theorem Pc.opt{l z:List It}(D:Pc l){p:Prop}[Decidable p](I:¬ p->Pc z):Pc (l++(if p then[]else bu::z)):=by
 split
 ·rw[kG];exact D
 ·rename_i h;exact D.app (M3 (I h)) fun r _=>lK.sp _
section
variable {d:Nat} (hE:∀n deep head,(aa d).expr n=true->Pc ((ao d).expr n deep head)/\PH n ((ao d).expr n deep head))
include hE
theorem Sy{n:Nd}(deep:Nat)(J:iK (aa d) n=true):Pc (sU (ao d) n deep):=by
 unfold iK at J;rw[gB]at J;obtain⟨x,l,a,rfl,M,N⟩:=aN (by decide) J.1;obtain⟨t,v,rfl,I,D⟩:=ll N;unfold cB at I D;rw[gI]at I D;show Pc (lJ ⟨#[118,97,114]⟩::bu::([mK x]++((if t.kind=0 then[]else bu::(ao d).typ t)++(if v.kind=0 then[]else bu::bS 61::bu::(ao d).expr v deep false))));rw[<-gO];refine sw ⟨by decide +kernel,by decide +kernel⟩ (Pc.opt (Pc.opt (Bp M) fun h=>?_) fun h=>?_)
 ·rw[l7];rcases I with I|I
  ·obtain⟨a',rfl⟩:=bI I;exact absurd rfl h
  ·exact(wB d I).1
 ·rcases D with D|D
  ·obtain⟨a',rfl⟩:=bI D;exact absurd rfl h
  ·have:=(hE v deep false D).1;exact⟨fun e r hr=>⟨M4 _,iT (this.ok _ r hr)⟩,fun e=>this.fin _,⟨61,_,rfl⟩⟩
theorem wC{n:Nd}(deep:Nat)(head:Bool)(D:dm (aa d) n=true):Pc (ch (ao d) n deep head):=by
 unfold dm at D;rw[gI,gI,gI]at D;rcases D with D|D|D|D
 ·obtain⟨x,l,a,rfl,J,M⟩:=aN (by decide) D;obtain⟨v,rfl,N⟩:=d8 M;unfold bY at J;rw[gB]at J;have:=(hE v deep head N).1;show Pc (mK x::bu::iV ⟨#[58,61]⟩::bu::(ao d).expr v deep head);exact wA J.1 ⟨fun e r hr=>⟨FH _,iT (this.ok _ r hr)⟩,fun e=>this.fin _,⟨58,_,rfl⟩⟩
 ·obtain⟨l,a,rfl,M⟩:=bV D;obtain⟨y,v,rfl,I,N⟩:=ll M;have:=(hE v deep head N).1;show Pc ((ao d).expr y deep head++(bu::bS 61::bu::(ao d).expr v deep head));exact(hE y deep head I).1.app ⟨fun e r hr=>iT ⟨M4 _,iT (this.ok _ r hr)⟩,fun e=>this.fin _,⟨32,_,rfl⟩⟩ fun r _=>lK.sp _
 ·obtain⟨x,l,a,rfl,J,M⟩:=aN (by decide) D;obtain⟨y,rfl,I⟩:=d8 M;unfold f8 at J;rw[gI,gE,gE]at J;show Pc ((ao d).expr y deep head++[iV x]);rcases J with rfl|rfl
  ·exact(hE y deep head I).1.app ⟨fun e r hr=>⟨.two (a:=43) (b:=43) (by decide +kernel) (by decide +kernel) (by decide),trivial⟩,fun e=>by show nB 6 (bytes ⟨#[43,43]⟩)=true;decide +kernel,⟨43,_,rfl⟩⟩ fun r _=>⟨43,_,rfl,by decide +kernel⟩
  ·exact(hE y deep head I).1.app ⟨fun e r hr=>⟨.two (a:=45) (b:=45) (by decide +kernel) (by decide +kernel) (by decide),trivial⟩,fun e=>by show nB 6 (bytes ⟨#[45,45]⟩)=true;decide +kernel,⟨45,_,rfl⟩⟩ fun r _=>⟨45,_,rfl,by decide +kernel⟩
 ·obtain⟨l,a,rfl,M⟩:=bV D;obtain⟨y,rfl,I⟩:=d8 M;unfold iw at I;rw[gB]at I;exact(hE y deep head I.2).1
end
theorem M5{p:Prop}[Decidable p]{l:List It}(h:p->Pc l)(e:Bool)(r:List UInt8)(D:lK r):bj e (if p then l else[]) r:=by
 split
 ·exact(h ‹_›).ok e r D
 ·trivial
theorem M6{x:ByteArray}(D:mM (bytes x)=true/\bM (d7 (bytes x))=1/\nB 2 (bytes x)=true):Pc [lJ x]:=by
 refine⟨fun e r hr=>FC ⟨D.1,D.2.1⟩ hr trivial,fun e=>D.2.2,?_⟩;rw[cD];show ∃b q,bytes x++_=b::q;cases I:bytes x with
 |nil=>rw[I]at D;cases D.1
 |cons b q=>exact⟨b,_,rfl⟩
theorem FI{x:ByteArray}(D:mM (bytes x)=true/\bM (d7 (bytes x))=1){l z:List It}(M:∀e r,bj e l r)(I:Pc z):Pc (lJ x::bu::(l++z)):=by
 refine⟨fun e r hr=>FC D (lK.sp _) (iT (bj.app (M _ _) (I.ok _ r hr))),fun e=>?_,?_⟩
 ·show oF (nB 2 (bytes x)) (l++z)=true;rw[fh,I.fin]
 ·rw[cD];show ∃b q,bytes x++_=b::q;cases J:bytes x with
  |nil=>rw[J]at D;cases D.1
  |cons b q=>exact⟨b,_,rfl⟩
theorem Pc.sp{l:List It}(h:Pc l)(e:Bool)(r:List UInt8):bj e (l++[bu]) r:=bj.app (h.ok _ _ (lK.sp _)) (iT trivial)
section
variable {d:Nat} (hE:∀n deep head,(aa d).expr n=true->Pc ((ao d).expr n deep head)/\PH n ((ao d).expr n deep head)) (hB:∀n deep,(aa d).block n=true->Pc ((ao d).block n deep))
include hE
theorem FJ{n:Nd}(deep:Nat)(D:dm (aa d) n=true):Pc (ep (ao d) n deep true):=by rw[<-n7 _ (fE D)];exact wC hE deep true D
theorem PK{i e p b:Nd}{a:Int}(deep:Nat)(D:ah i=true\/dm (aa d) i=true)(O:ah e=true\/(aa d).expr e=true)(N:ah p=true\/dm (aa d) p=true)(f:Bool)(r:List UInt8):bj f (sc (ao d) (.mk 31 ⟨#[]⟩ [i,e,p,b] a) deep) r:=by
 have M:i.kind≠0->Pc (ep (ao d) i deep true):=fun h=>by
  rcases D with D|D
  ·obtain⟨a',rfl⟩:=bI D;exact absurd rfl h
  ·exact FJ hE deep D
 have J:p.kind≠0->Pc (ep (ao d) p deep true):=fun h=>by
  rcases N with D|D
  ·obtain⟨a',rfl⟩:=bI D;exact absurd rfl h
  ·exact FJ hE deep D
 have I:e.kind≠0->Pc ((ao d).expr e deep true):=fun h=>by
  rcases O with D|D
  ·obtain⟨a',rfl⟩:=bI D;exact absurd rfl h
  ·exact(hE e deep true D).1
 unfold sc;show bj f (if i.kind≠0\/p.kind≠0 then(if i.kind≠0 then ep (ao d) i deep true else[])++(bS 59::bu::((if e.kind≠0 then(ao d).expr e deep true else[])++(bS 59::bu::(if p.kind≠0 then ep (ao d) p deep true++[bu]else[]))))else if e.kind≠0 then(ao d).expr e deep true++[bu]else[]) r;split
 ·refine bj.app (M5 M _ _ (lK.sg (a:=59) (by decide) _)) (nH (by decide) (by rw[cD];show(32::_)++r≠[];simp) (iT ?_));refine bj.app (M5 I _ _ (lK.sg (a:=59) (by decide) _)) (nH (by decide) (by rw[cD];show(32::_)++r≠[];simp) (iT ?_));split
  ·rename_i h;exact(J h).sp _ _
  ·trivial
 ·split
  ·rename_i h;exact(I h).sp _ _
  ·trivial
theorem M7{x:ByteArray}(N:bL x=true)(e:Bool)(r:List UInt8):bj e (fB x) r:=by
 have _:=hE;unfold fB;split
 ·trivial
 ·rename_i O;unfold bL at N;rw[gM O,vi,gI,gB,gB,gB]at N;(have J:∀{l:List UInt8},aE ⟨l.toArray⟩=true->∀{e z r},lK (fX z++r)->bj true z r->bj e (.tok 1 l::z) r:=by intro l hl e z r h1 h2;have:=Db (e:=e) hl h1 h2;unfold mK at this;rw[show bytes ⟨l.toArray⟩=l from bH l]at this;exact this);have D:∀e r,bj e [bu,iV ⟨#[58,61]⟩,bu] r:=fun e r=>iT ⟨FH _,iT trivial⟩;unfold bY at N;rcases N with⟨U,I,M⟩|⟨U,I⟩
  ·rw[gB]at M;rw[gF U];exact J I (lK.sg (a:=44) (by decide) _) (nH (by decide) (by show(32::_)++r≠[];simp) (iT (J M.1 (lK.sp _) (D _ _))))
  ·rw[gB]at I;rw[d5 (by simpa using U)];exact J I.1 (lK.sp _) (D _ _)
include hB
theorem Ry(N:∀n deep,(aa d).ifS n=true->Pc ((ao d).stmt n deep false))(I:∀n deep,(aa d).block n=true->(ao d).stmt n deep false=(ao d).block n deep){n:Nd}(deep:Nat)(M:Am (aa d) n=true):Pc (ch (ao d) n deep false):=by
 obtain⟨l,a,rfl,O⟩:=bV M;obtain⟨x,b,o,rfl,J,hb,D⟩:=Ph O;unfold cB at D;rw[gI,gI]at D;show Pc (lJ ⟨#[105,102]⟩::bu::((ao d).expr x deep true++(bu::((ao d).block b deep++(if o.kind=0 then[]else bu::lJ ⟨#[101,108,115,101]⟩::bu::(ao d).stmt o deep false)))));refine sw ⟨by decide +kernel,by decide +kernel⟩ ((hE x deep true J).1.app (M3 (Pc.opt (hB b deep hb) fun h=>?_)) fun r _=>lK.sp _);refine sw ⟨by decide +kernel,by decide +kernel⟩ ?_;rcases D with(D|D)|D
 ·obtain⟨a',rfl⟩:=bI D;exact absurd rfl h
 ·rw[I o deep D];exact hB o deep D
 ·exact N o deep D
theorem Sz (hI:∀n deep,(aa d).ifS n=true->Pc ((ao d).stmt n deep false))(ga:∀n deep,(aa d).block n=true->(ao d).stmt n deep false=(ao d).block n deep)(hS:∀n deep,(aa d).stmt n=true->Pc ((ao d).stmt n deep false)){n:Nd}(deep:Nat)(D:aB (aa d) n=true):Pc (ch (ao d) n deep false):=by
 unfold aB at D;split at D
 ·rename_i h;unfold ch;rw[gF h];exact Sy hE deep D
 ·split at D
  ·exact wC hE deep false (by unfold dm;rw[D];rfl)
  ·split at D
   ·exact wC hE deep false (by unfold dm;rw[D,kP,jE])
   ·split at D
    ·exact wC hE deep false (by unfold dm;rw[D,kP,jE,jE])
    ·split at D
     ·exact wC hE deep false (by unfold dm;rw[D,jE,jE,jE])
     ·split at D
      ·exact Ry hE hB hI ga deep D
      ·split at D
       ·obtain⟨l,a,rfl,M⟩:=bV D;obtain⟨i,e,p,b,rfl,I,O,U,hb⟩:=Pi M;unfold cB at I O U;rw[gI,gI,gI]at I U;rw[gI]at O;refine FI (l:=sc (ao d) (.mk 31 ⟨#[]⟩ [i,e,p,b] a) deep) ⟨by decide +kernel,by decide +kernel⟩ (PK hE deep ?_ O ?_) (hB b deep hb)
        ·rcases I with(I|I)|(I|I)
         ·exact .inl I
         ·exact .inr (by unfold dm;rw[I];rfl)
         ·exact .inr (by unfold dm;rw[I,kP,jE])
         ·exact .inr (by unfold dm;rw[I,kP,jE,jE])
        ·rcases U with(I|I)|(I|I)
         ·exact .inl I
         ·exact .inr (by unfold dm;rw[I,kP,jE])
         ·exact .inr (by unfold dm;rw[I,kP,jE,jE])
         ·exact .inr (by unfold dm;rw[I,jE,jE,jE])
       ·split at D
        ·obtain⟨x,l,a,rfl,J,M⟩:=aN (by decide) D;obtain⟨e,b,rfl,O,hb⟩:=ll M;refine FI (l:=fB x) ⟨by decide +kernel,by decide +kernel⟩ (M7 hE J) ?_;exact sw ⟨by decide +kernel,by decide +kernel⟩ ((hE e deep true O).1.app (M3 (hB b deep hb)) fun r _=>lK.sp _)
        ·split at D
         ·obtain⟨l,a,rfl,M⟩:=bV D;obtain⟨x,rfl,J⟩:=d8 M;unfold cB at J;rw[gI]at J;show Pc ([lJ ⟨#[114,101,116,117,114,110]⟩]++(if x.kind=0 then[]else bu::(ao d).expr x deep false));refine Pc.opt (M6 ⟨by decide +kernel,by decide +kernel,by decide +kernel⟩) fun h=>?_;rcases J with J|J
          ·obtain⟨a',rfl⟩:=bI J;exact absurd rfl h
          ·exact(hE x deep false J).1
         ·split at D
          ·rename_i N;rcases N with N|N
           ·rw[N]at D;obtain⟨l,a,rfl,M⟩:=bV D;exact M6 ⟨by decide +kernel,by decide +kernel,by decide +kernel⟩
           ·rw[N]at D;obtain⟨l,a,rfl,M⟩:=bV D;exact M6 ⟨by decide +kernel,by decide +kernel,by decide +kernel⟩
          ·unfold bD at D;rw[gB,gB,gE]at D;have N:n.kind=36:=D.1;unfold ch;rw[d5 (by omega),d5 (by omega),d5 (by omega),d5 (by omega),d5 (by omega),d5 (by omega),d5 (by omega),d5 (by omega),d5 (by omega),d5 (by omega),d5 (by omega)];exact M2 deep fun x J=>hS x (deep+1) (List.all_eq_true.1 D.2.2 x J)
end
def T0(d:Nat):Prop:=∀n deep head,(aa d).expr n=true->Pc ((ao d).expr n deep head)/\PH n ((ao d).expr n deep head)
def T1(d:Nat):Prop:=∀n deep,(aa d).block n=true->Pc ((ao d).block n deep)
def T2(d:Nat):Prop:=∀n deep,(aa d).stmt n=true->Pc ((ao d).stmt n deep false)
def T4(d:Nat):Prop:=∀n deep,(aa d).ifS n=true->Pc ((ao d).stmt n deep false)
theorem wD(d:Nat):∀n deep,(aa d).block n=true->(ao d).stmt n deep false=(ao d).block n deep:=by
 intro n deep D;cases d with
 |zero=>cases D
 |succ d=>have hb:bD (aa d) n=true:=D;(have I:n.kind=36:=by unfold bD at hb;rw[gB,gE]at hb;exact hb.1);show ch (ao d) n deep false=_;unfold ch;rw[d5 (by omega),d5 (by omega),d5 (by omega),d5 (by omega),d5 (by omega),d5 (by omega),d5 (by omega),d5 (by omega),d5 (by omega),d5 (by omega),d5 (by omega)];rfl
theorem FK:∀(d:Nat)n,(aa d).expr n=true->16<=n.kind
 |0,_,h=>by cases h
 |_+1,_,h=>(wq h).1
theorem M8:∀d,T0 d/\T1 d/\T2 d/\T4 d
 |0=>⟨fun _ _ _ h=>(by cases h),fun _ _ h=>(by cases h),fun _ _ h=>(by cases h),fun _ _ h=>(by cases h)⟩
 |d+1=>by obtain⟨hE,hB,I,J⟩:=M8 d;refine⟨fun n deep head D=>Sx hE (FK d) hB deep head D,fun n deep D=>?_,fun n deep D=>Sz hE hB J (wD d) I deep D,fun n deep D=>Ry hE hB J (wD d) deep D⟩;have D:bD (aa d) n=true:=D;unfold bD at D;rw[gB,gB]at D;exact M2 deep fun x hx=>I x (deep+1) (List.all_eq_true.1 D.2.2 x hx)
section
variable {d:Nat}
end
theorem ph:∀(z:List It)(i:Nat),(ir i z).map Mo=aH z
 |[],_=>rfl
 | .tok k x::z,i=>by show Mo _::(ir _ z).map Mo=_;rw[ph z];rfl
 | .gap _::z,i=>ph z _
 | .nl::z,i=>by show Mo _::(ir _ z).map Mo=_;rw[ph z];rfl
end
end Go.Proofs.YtiebcdeafofgdaaGreatDoor
