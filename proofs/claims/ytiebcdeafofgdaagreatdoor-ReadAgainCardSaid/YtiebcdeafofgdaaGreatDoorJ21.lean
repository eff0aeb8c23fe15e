/-
  Parts of the proof: Ppn Ppo Pps Ppu Gord Ppl Pval Ppv Ppw Ppx Ppy. By an AI agent.
-/
import Derived.Test.YtiebcdeafofgdaaGreatDoorJ20
import Derived.Test.YtiebcdeafofgdaaGreatDoorJ02
import Derived.Test.YtiebcdeafofgdaaGreatDoorJ18
import Derived.Test.YtiebcdeafofgdaaGreatDoorJ17
import Derived.Test.YtiebcdeafofgdaaGreatDoorJ07
import Derived.Sort.Walk0
import Derived.Shelf.SlSortCmp.Insertion
import Derived.Lib.SlicesCompact
import Derived.Laws.StructEq
namespace Go.Proofs.YtiebcdeafofgdaaGreatDoor
section
open Go.Lib
instance(t:TK):Decidable (IS t):=by unfold IS;infer_instance
theorem PM{t:TK}(h:dJ t=true):cO t ⟨#[118,97,114]⟩=false/\cO t ⟨#[105,102]⟩=false/\cO t ⟨#[102,111,114]⟩=false/\cO t ⟨#[123]⟩=false/\cO t ⟨#[114,101,116,117,114,110]⟩=false/\cO t ⟨#[98,114,101,97,107]⟩=false/\cO t ⟨#[99,111,110,116,105,110,117,101]⟩=false:=
 ⟨bS h _ (by decide) (by decide) (by decide) (by decide) (by decide),bS h _ (by decide) (by decide) (by decide) (by decide) (by decide),bS h _ (by decide) (by decide) (by decide) (by decide) (by decide),bS h _ (by decide) (by decide) (by decide) (by decide) (by decide),bS h _ (by decide) (by decide) (by decide) (by decide) (by decide),bS h _ (by decide) (by decide) (by decide) (by decide) (by decide),bS h _ (by decide) (by decide) (by decide) (by decide) (by decide)⟩
section
variable {c:Cx} {d:Nat}
theorem lQ{t:TK}{q:List TK}{n:Nd}{f:Nat->R Nd}(I:∀G s r,At c s (t::(q++r))->f G c s=iC (cF G) c s)(h:EC c f 2 (t::q) n):EC c (fun G=>(cF G).stmt) 3 (t::q) n:=by
 intro G s r ha hh hp D hr;cases G with
 |zero=>exact absurd D (by unfold Fu;omega)
 |succ G=>show oL c s r n (-1) (iC (cF G) c s);rw[<-I G s r ha];exact h G s r ha hh hp (D.more (by omega)) hr
theorem Sy(hE:yP c d){n:Nd}(deep:Nat)(M:dK (aj d) n=true):EC c (fun G=>fO (cF G)) 2 (aF (cr (ac d) n deep false)) n:=by intro G s r h hh hp hf hr;obtain⟨x,U,O,_,N⟩:=Ct hE deep false M G s r h hh hp hf (by rw[hr];exact yS (Cs false) (by decide) (by decide) (by decide));obtain⟨n',D,J,p2,p3,p4,I⟩:=N (av c s);refine⟨n',D,?_,p2,p3,p4,I⟩;show fO (cF G) c s=_;unfold fO;rw[O,bH.bind_ok,J]
theorem PN(hE:yP c d){n:Nd}(deep:Nat)(U:fc 33 [dv aE (aj d).expr] n=true):∃q,aF (cr (ac d) n deep false)=(2,(⟨#[114,101,116,117,114,110]⟩:BA))::q/\EC c (fun G=>iC (cF G)) 2 ((2,(⟨#[114,101,116,117,114,110]⟩:BA))::q) n:=by
 obtain⟨l,a,rfl,h0⟩:=ch U;obtain⟨x,rfl,I⟩:=ep h0;(have e:aF (cr (ac d) (.mk 33 ⟨#[]⟩ [x] a) deep false)=(2,(⟨#[114,101,116,117,114,110]⟩:BA))::aF (if x.kind=0 then[]else bc::(ac d).expr x deep false):=by show(2,d8 (bytes ⟨#[114,101,116,117,114,110]⟩))::_=_;rw[cT];rfl);refine⟨_,e,fun G s r h hh M hf J=>?_⟩;have h:At c s ((2,(⟨#[114,101,116,117,114,110]⟩:BA))::(aF (if x.kind=0 then[]else bc::(ac d).expr x deep false)++r)):=h;show oL c s r _ (-1) (iC (cF G) c s);unfold iC;rw[gA (h.no (by decide)),gA (h.no (by decide)),gA (h.no (by decide)),gA (h.no (by decide)),gE (h.yes (by decide))];obtain⟨f1,f2⟩:=hf.adv h;unfold dv at I;rw[gH]at I;have D:=h.adv;rcases I with I|I
 ·obtain⟨ax,rfl⟩:=bP I;have D:At c (adv s) r:=D;rw[gE]
  ·exact⟨_,_,rfl,cA.mk (bm.one (fu ax)) _ _,D,rfl,M⟩
  ·unfold dV;rw[D.is,D.is,D.is,J];decide
 ·rw[gA (nD hE I)]at D;have D:At c (adv s) (aF ((ac d).expr x deep false)++r):=D;obtain⟨t,q,e2,O⟩:=(hE x deep false false I).beg;rw[gA]
  ·obtain⟨x',N,g1,g2,g3,g4,g5⟩:=pk hE deep I (G:=G) D hh M (f2.more (by omega)) (by rw[J];exact Cs false);rw[g1,bH.bind_ok];exact⟨_,N,rfl,cA.mk (bm.one g2) _ _,g3,g4,g5⟩
  ·unfold dV;have hb:=RN O;rw[D.is,D.is,D.is,e2];show ¬ ((cO t ⟨#[59]⟩||cO t ⟨#[10]⟩)||cO t ⟨#[125]⟩)=true;rw[hb.1,hb.2.1,hb.2.2];decide
theorem Nw(hE:yP c d)(hB:Ee c d)(hS:IT c d)(hI:Tx c d)(U:∀n deep,(aj d).block n=true->aF ((ac d).stmt n deep false)=aF ((ac d).block n deep)):IT c (d+1):=by
 intro n deep D;show(∃t q,aF (cr (ac d) n deep false)=t::q/\IS t)/\EC c (fun G=>(cF G).stmt) 3 (aF (cr (ac d) n deep false)) n;have D:eY (aj d) n=true:=D;(have J:dK (aj d) n=true->(∃t q,aF (cr (ac d) n deep false)=t::q/\IS t)/\EC c (fun G=>(cF G).stmt) 3 (aF (cr (ac d) n deep false)) n:=by intro hs;obtain⟨t,q,e,ht⟩:=Cz hE deep false hs;refine⟨⟨t,q,e,RN ht⟩,?_⟩;have I:=Sy hE deep hs;rw[e]at I |-;obtain⟨b1,b2,b3,b4,b5,b6,b7⟩:=PM ht;refine lQ (fun G s r h=>?_) I;unfold iC;rw[gA (h.no b1),gA (h.no b2),gA (h.no b3),gA (h.no b4),gA (h.no b5),gA (h.no b6),gA (h.no b7)]);unfold eY at D;split at D
 ·rename_i N;have I:=Gm hE deep D;(have e:∃q,aF (cr (ac d) n deep false)=(2,(⟨#[118,97,114]⟩:BA))::q/\aF (pc (ac d) n deep)=(2,(⟨#[118,97,114]⟩:BA))::q:=by unfold cr;rw[gE N];exact⟨_,rfl,rfl⟩);obtain⟨q,M,e2⟩:=e;rw[e2]at I;rw[M];refine⟨⟨_,_,rfl,by decide⟩,lQ (fun G s r h=>?_) I⟩;unfold iC;rw[gE (h.yes (by decide))]
 ·split at D
  ·exact J (by unfold dK;rw[D];rfl)
  ·split at D
   ·exact J (by unfold dK;rw[D,kP,gY])
   ·split at D
    ·exact J (by unfold dK;rw[D,kP,gY,gY])
    ·split at D
     ·exact J (by unfold dK;rw[D,gY,gY,gY])
     ·split at D
      ·have I:=Nr hE hB hI U deep D;(have e:∃q,aF (cr (ac d) n deep false)=(2,(⟨#[105,102]⟩:BA))::q:=by obtain⟨l,a,rfl,_⟩:=ch D;exact⟨_,rfl⟩);obtain⟨q,M⟩:=e;rw[M]at I |-;refine⟨⟨_,_,rfl,by decide⟩,lQ (fun G s r h=>?_) I⟩;unfold iC;rw[gA (h.no (by decide)),gE (h.yes (by decide))]
      ·split at D
       ·have I:=PL hE hB deep D;(have e:∃q,aF (cr (ac d) n deep false)=(2,(⟨#[102,111,114]⟩:BA))::q:=by obtain⟨l,a,rfl,_⟩:=ch D;exact⟨_,rfl⟩);obtain⟨q,M⟩:=e;rw[M]at I |-;refine⟨⟨_,_,rfl,by decide⟩,lQ (fun G s r h=>?_) I⟩;unfold iC;rw[gA (h.no (by decide)),gA (h.no (by decide)),gE (h.yes (by decide))]
       ·split at D
        ·have I:=IV hE hB deep D;(have e:∃q,aF (cr (ac d) n deep false)=(2,(⟨#[102,111,114]⟩:BA))::q:=by obtain⟨x,l,a,rfl,_⟩:=aJ (by decide) D;exact⟨_,rfl⟩);obtain⟨q,M⟩:=e;rw[M]at I |-;refine⟨⟨_,_,rfl,by decide⟩,lQ (fun G s r h=>?_) I⟩;unfold iC;rw[gA (h.no (by decide)),gA (h.no (by decide)),gE (h.yes (by decide))]
        ·split at D
         ·obtain⟨q,M,I⟩:=PN hE deep D;rw[M];exact⟨⟨_,_,rfl,by decide⟩,lQ (fun G s r h=>rfl) I⟩
         ·split at D
          ·rename_i N;rcases N with N|N
           ·rw[N]at D;obtain⟨l,a,rfl,h0⟩:=ch D;cases l with
            |cons y l=>cases h0
            |nil=>refine⟨⟨_,_,rfl,by decide⟩,lQ (t:=(2,(⟨#[98,114,101,97,107]⟩:BA))) (q:=[]) (f:=fun G=>iC (cF G)) (fun G s r h=>rfl) fun G s r h hh O hf hr=>?_⟩;have h:At c s ((2,(⟨#[98,114,101,97,107]⟩:BA))::r):=h;show oL c s r _ (-1) (iC (cF G) c s);unfold iC;rw[gA (h.no (by decide)),gA (h.no (by decide)),gA (h.no (by decide)),gA (h.no (by decide)),gA (h.no (by decide)),gE (h.yes (by decide))];exact⟨_,_,rfl,cA.mk bm.nil _ _,h.adv,rfl,O⟩
           ·rw[N]at D;obtain⟨l,a,rfl,h0⟩:=ch D;cases l with
            |cons y l=>cases h0
            |nil=>refine⟨⟨_,_,rfl,by decide⟩,lQ (t:=(2,(⟨#[99,111,110,116,105,110,117,101]⟩:BA))) (q:=[]) (f:=fun G=>iC (cF G)) (fun G s r h=>rfl) fun G s r h hh O hf hr=>?_⟩;have h:At c s ((2,(⟨#[99,111,110,116,105,110,117,101]⟩:BA))::r):=h;show oL c s r _ (-1) (iC (cF G) c s);unfold iC;rw[gA (h.no (by decide)),gA (h.no (by decide)),gA (h.no (by decide)),gA (h.no (by decide)),gA (h.no (by decide)),gA (h.no (by decide)),gE (h.yes (by decide))];exact⟨_,_,rfl,cA.mk bm.nil _ _,h.adv,rfl,O⟩
          ·have hb:dj (aj d) n=true:=D;(have N:n.kind=36:=by unfold dj at hb;rw[gB,gC]at hb;exact hb.1);(have e0:cr (ac d) n deep false=og (ac d) n deep:=by unfold cr;rw[gA (by omega),gA (by omega),gA (by omega),gA (by omega),gA (by omega),gA (by omega),gA (by omega),gA (by omega),gA (by omega),gA (by omega),gA (by omega)]);have I:=Gn hS deep hb;rw[yQ]at I;rw[e0,yQ];refine⟨⟨_,_,rfl,by decide⟩,lQ (f:=fun G=>bE (cF G)) (fun G s r h=>?_) fun G s r h hh O hf hr=>I G s r h O (by unfold Fu at *;omega)⟩;show bE (cF G) c s=_;unfold iC;rw[gA (h.no (by decide)),gA (h.no (by decide)),gA (h.no (by decide)),gE (h.yes (by decide))]
theorem Gq(d:Nat):∀n deep,(aj d).block n=true->aF ((ac d).stmt n deep false)=aF ((ac d).block n deep):=by
 intro n deep D;cases d with
 |zero=>cases D
 |succ d=>have hb:dj (aj d) n=true:=D;(have I:n.kind=36:=by unfold dj at hb;rw[gB,gC]at hb;exact hb.1);show aF (cr (ac d) n deep false)=_;unfold cr;rw[gA (by omega),gA (by omega),gA (by omega),gA (by omega),gA (by omega),gA (by omega),gA (by omega),gA (by omega),gA (by omega),gA (by omega),gA (by omega)];rfl
theorem PO(hE:yP c d)(hB:Ee c d)(J:Tx c d):Tx c (d+1):=by
 intro n deep I;have I:GQ (aj d) n=true:=I;refine⟨by obtain⟨l,a,rfl,_⟩:=ch I;rfl,?_⟩;intro G s r ha hh hp D hr;cases G with
 |zero=>exact absurd D (by unfold Fu;omega)
 |succ G=>exact Nr hE hB J (Gq d) deep I G s r ha hh hp (D.more (by omega)) hr
end
theorem yT(c:Cx):∀d,yP c d/\Ee c d/\IT c d/\Tx c d
 |0=>⟨fun _ _ _ _ h=>(by cases h),fun _ _ h=>(by cases h),fun _ _ h=>(by cases h),fun _ _ h=>(by cases h)⟩
 |d+1=>by obtain⟨I,D,M,J⟩:=yT c d;exact⟨Nm I D,Nq M,Nw I D M J (Gq d),PO I D J⟩
theorem uk(t:TK):∀(l:List (List TK))(x:List TK),eO t (x::l)=x++l.flatMap fun y=>t::y
 |[],x=>by show x=x++[];rw[kG]
 |y::l,x=>by show x++(t::eO t (y::l))=_;rw[uk t l y,jA];rfl
section
variable {c:Cx} {d:Nat}
theorem Eh{t:Nd}(ht:oz (aj d) t=true){G:Nat}{s:St}{r:List TK}(h:At c s (aF (iE t.text++af d (aV t 0))++r))(hb:dJ (et r)=false)(hf:Fu c 1 G s):oL c s r t s.part (lU (cF G) c s):=by
 obtain⟨x,l,a,rfl,I,h0⟩:=aJ (by decide) ht;obtain⟨k,rfl,J⟩:=ep h0;unfold nY at I;rw[gH,gC,gC]at I;unfold lU;rcases I with rfl|rfl
 ·have h:At c s (aF (af d k)++r):=h;obtain⟨u,q,e,hu⟩:=iA J;rw[gA]
  ·obtain⟨n',D,g1,U,O,N,M⟩:=iB d G k J s r h hb hf;rw[g1,bH.bind_ok];exact⟨_,D,rfl,cA.mk (bm.one U) _ _,O,N,M⟩
  ·rw[h.is,e];show ¬ cO u ⟨#[126]⟩=true;rw[bS hu _ (by decide) (by decide) (by decide) (by decide) (by decide)];decide
 ·have h:At c s ((6,(⟨#[126]⟩:BA))::(aF (af d k)++r)):=h;rw[gE (h.yes (by decide))];obtain⟨n',D,g1,U,O,N,M⟩:=iB d G k J (adv s) r h.adv hb (hf.le (jE _));rw[g1,bH.bind_ok];exact⟨_,D,rfl,cA.mk (bm.one U) _ _,O,N,M⟩
theorem Ei(p:Int){G:Nat}:∀(l:List Nd)(g:Nat)(acc acc':List Nd)(s:St)(r:List TK),l.all (oz (aj d))=true ->
  At c s (l.flatMap (fun t=>(6,(⟨#[124]⟩:BA))::aF (iE t.text++af d (aV t 0)))++r)->dJ (et r)=false->cO (et r) ⟨#[124]⟩=false->Fu c 1 G s->c.toks.length-s.at_<g->bm acc' acc ->
  yE c s r (fun n'=>∃l',n'=.mk 14 ⟨#[]⟩ l' p/\bm l' (acc++l)) s.part (eH (cF G) p g acc' c s)
 |_,0,_,_,_,_,_,_,_,_,_,N,_=>absurd N (by omega)
 |[],g+1,acc,acc',s,r,_,h,_,I,_,_,U=>by have h:At c s r:=h;unfold eH;rw[gA (by rw[h.is,I];decide)];exact⟨_,s,rfl,⟨acc',rfl,by rwa [kG]⟩,h,rfl,rfl⟩
 |x::l,g+1,acc,acc',s,r,J,h,hb,I,O,N,U=>by
  rw[kC,gB]at J;rw[jA,gL]at h;have h:At c s ((6,(⟨#[124]⟩:BA))::(aF (iE x.text++af d (aV x 0))++(l.flatMap (fun t=>(6,(⟨#[124]⟩:BA))::aF (iE t.text++af d (aV t 0)))++r))):=h;unfold eH;rw[gE (h.yes (by decide))];have M:dJ (et (l.flatMap (fun t=>(6,(⟨#[124]⟩:BA))::aF (iE t.text++af d (aV t 0)))++r))=false:=by
   cases l with
   |nil=>exact hb
   |cons y l=>show dJ (6,(⟨#[124]⟩:BA))=false;decide
  obtain⟨n',s1,g1,g2,g3,g4,g5⟩:=Eh J.1 (G:=G) h.adv M (O.le (jE _));rw[g1,bH.bind_ok];have ga:=fT h.adv g3;have D:=h.len;have e1:(adv s).at_=s.at_+1:=rfl;obtain⟨n2,s2,k1,⟨l',k2,k3⟩,k4,k5,k6⟩:=Ei p l g (acc++[x]) (acc'++[n']) s1 r J.2 g3 hb I (O.le (by omega)) (by simp only[gM]at D;omega) (U.app (bm.one g2));exact⟨n2,s2,k1,⟨l',k2,by simpa using k3⟩,k4,k5.trans g4,k6.trans g5⟩
theorem IW(p:Int){G:Nat}{x:Nd}{l:List Nd}{s:St}{r:List TK}(D:(x::l).all (oz (aj d))=true)(h:At c s (eO (6,(⟨#[124]⟩:BA)) ((x::l).map fun t=>aF (iE t.text++af d (aV t 0)))++r))(hb:dJ (et r)=false)(hr:cO (et r) ⟨#[124]⟩=false)(I:Fu c 1 G s):
  yE c s r (fun n'=>∃l',n'=.mk 14 ⟨#[]⟩ l' p/\bm l' (x::l)) s.part (eD (cF G) p c s):=by
 rw[jW,uk,gL,vt]at h;rw[kC,gB]at D;have J:dJ (et (l.flatMap (fun t=>(6,(⟨#[124]⟩:BA))::aF (iE t.text++af d (aV t 0)))++r))=false:=by
  cases l with
  |nil=>exact hb
  |cons y l=>show dJ (6,(⟨#[124]⟩:BA))=false;decide
 unfold eD;obtain⟨n',O,g1,g2,M,g4,g5⟩:=Eh D.1 (G:=G) h J I;rw[g1,bH.bind_ok,oM];have ga:=fT h M;obtain⟨U,N,k1,⟨l',k2,k3⟩,k4,k5,k6⟩:=Ei p (G:=G) l G [x] [n'] O r D.2 M hb hr (I.le (by omega)) (by unfold Fu at I;omega) (bm.one g2);exact⟨U,N,k1,⟨l',k2,k3⟩,k4,k5.trans g4,k6.trans g5⟩
theorem Ej(f:Nd->List It)(n:Nd):aF (lN f n)=(2,(⟨#[105,110,116,101,114,102,97,99,101]⟩:BA))::(6,(⟨#[123]⟩:BA))::(eO (6,(⟨#[124]⟩:BA)) (n.kids.map fun t=>aF (iE t.text++f (aV t 0)))++[(6,(⟨#[125]⟩:BA))]):=by unfold lN;show(2,d8 (bytes ⟨#[105,110,116,101,114,102,97,99,101]⟩))::(6,d8 [123])::aF (cv [bc,cX 124,bc] _++[bc,cX 125])=_;rw[cT,aZ,Ci _ (6,(⟨#[124]⟩:BA)) rfl,ql];rfl
theorem BF(p:Int){G:Nat}{n:Nd}(I:ct (aj d) n=true){s:St}{r:List TK}(h:At c s ((6,(⟨#[123]⟩:BA))::(eO (6,(⟨#[124]⟩:BA)) (n.kids.map fun t=>aF (iE t.text++af d (aV t 0)))++((6,(⟨#[125]⟩:BA))::r))))(hf:Fu c 1 G s):oL c s r n s.part (fV (cF G) p c s):=by
 obtain⟨k,t,l,a⟩:=n;unfold ct at I;rw[gB,gB,gB,gC,gC,gC]at I;obtain⟨hk,ht,J,hl⟩:=I;obtain rfl:k=14:=hk;obtain rfl:t=(⟨#[]⟩:BA):=ht;cases l with
 |nil=>exact absurd J (by show ¬ 0<0;omega)
 |cons x l=>unfold fV;rw[fl h ⟨#[123]⟩ (by decide),bH.bind_ok];obtain⟨n2,M,k1,⟨l',rfl,U⟩,D,O,N⟩:=IW p (G:=G) hl h.adv (show dJ (6,(⟨#[125]⟩:BA))=false by decide) (show cO (6,(⟨#[125]⟩:BA)) ⟨#[124]⟩=false by decide) (hf.le (jE _));rw[k1,bH.bind_ok];(have hs:eP c M=M:=by unfold eP;rw[gA];unfold dV;rw[D.is,D.is];show ¬ (cO (6,(⟨#[125]⟩:BA)) ⟨#[59]⟩||cO (6,(⟨#[125]⟩:BA)) ⟨#[10]⟩)=true;decide);rw[hs,fl D ⟨#[125]⟩ (by decide),bH.bind_ok];exact⟨_,_,rfl,cA.mk U _ _,D.adv,O,N⟩
theorem PP{G:Nat}{n:Nd}(D:dv (fQ (aj d)) (ct (aj d)) n=true){s:St}{r:List TK}(h:At c s (aF (fL (ac d) n)++r))(hb:dJ (et r)=false)(hr:cO (et r) ⟨#[124]⟩=false)(M:Fu c 1 G s):oL c s r n s.part (dP (cF G) c s):=by
 unfold dv at D;rw[gH]at D;have hF:(ac d).typ=af d:=funext dY;unfold fL at h;unfold dP;rcases D with D|D
 ·unfold fQ at D;rw[gB,gC]at D;obtain⟨O,D⟩:=D;rw[gA (by omega),hF]at h;obtain⟨u,q,e,U⟩:=iA D;(have J:aP c s ⟨#[105,110,116,101,114,102,97,99,101]⟩=false:=by rw[h.is,e];exact bS U _ (by decide) (by decide) (by decide) (by decide) (by decide));rw[gA (by rw[J];decide)];(have I:aP c s ⟨#[126]⟩=false:=by rw[h.is,e];exact bS U _ (by decide) (by decide) (by decide) (by decide) (by decide));obtain⟨y,s1,g1,g2,g3,g4,g5⟩:=iB d G n D s r h hb M;cases G with
  |zero=>exact absurd M (by unfold Fu;omega)
  |succ G=>unfold eD lU;rw[gA (by rw[I];decide),g1,bH.bind_ok,bH.bind_ok,oM];unfold eH;rw[gA (by rw[g3.is,hr];decide),bH.bind_ok];refine⟨y,s1,?_,g2,g3,g4,g5⟩;(have hy:∀p q,rK (.mk 14 ⟨#[]⟩ [.mk 15 ⟨#[]⟩ [y] q] p)=some y:=by intro p q;show(if(⟨#[]⟩:BA)=(⟨#[]⟩:BA)/\y.kind=10 then some y else none)=some y;rw[gE ⟨rfl,by rw[g2.kind];exact O⟩]);rw[hy];rfl
 ·(have N:n.kind=14:=by unfold ct at D;rw[gB,gC]at D;exact D.1);rw[gE N,hF,Ej]at h;have h:At c s ((2,(⟨#[105,110,116,101,114,102,97,99,101]⟩:BA))::((6,(⟨#[123]⟩:BA))::(eO (6,(⟨#[124]⟩:BA)) (n.kids.map fun t=>aF (iE t.text++af d (aV t 0)))++[(6,(⟨#[125]⟩:BA))]))++r):=h;rw[gV,gV,gL]at h;rw[gE (h.yes (by decide))];exact BF (av c s) D h.adv (M.le (jE _))
end
section
variable {c:Cx} {d:Nat}
theorem PQ{p:Nd}(J:nM (aj d) p=true){G:Nat}{s:St}{r:List TK}(h:At c s (aF (dS (ac d) p)++r))(hb:dJ (et r)=false)(I:cO (et r) ⟨#[124]⟩=false)(N:Fu c 1 G s):oL c s r p s.part (dt (cF G) c s):=by obtain⟨x,l,a,rfl,hx,O⟩:=aJ (by decide) J;obtain⟨k,rfl,M⟩:=ep O;(have e:aF (dS (ac d) (.mk 7 x [k] a))=(1,x)::aF (fL (ac d) k):=by show aF (iN x::bc::fL (ac d) k)=_;rw[lj];rfl);rw[e]at h;have h:At c s ((1,x)::(aF (fL (ac d) k)++r)):=h;unfold dt;rw[mr h,bH.bind_ok];obtain⟨n',D,g1,g2,g3,g4,U⟩:=PP M (G:=G) h.adv hb I (N.le (jE _));rw[g1,bH.bind_ok];exact⟨_,D,rfl,cA.mk (bm.one g2) _ _,g3,g4,U⟩
theorem Nx{p:Nd}(D:nM (aj d) p=true):∃x q,aF (dS (ac d) p)=(1,x)::q:=by obtain⟨x,l,a,rfl,I,J⟩:=aJ (by decide) D;exact⟨d8 (bytes x),_,rfl⟩
theorem rf{n:Nd}(hn:cC (aj d) n=true){G:Nat}{s:St}{r:List TK}(h:At c s (aF (fA (ac d) n)++r))(D:n.kids=[]->cO (et r) ⟨#[91]⟩=false\/dp c s=true)(hf:Fu c 1 G s):oL c s r n s.part (eI (cF G) c s):=by
 obtain⟨l,a,rfl,hl⟩:=tr hn;unfold eI;cases l with
 |nil=>
  have h:At c s r:=h;rw[gA]
  ·exact⟨_,s,rfl,cA.mk bm.nil _ _,h,rfl,rfl⟩
  ·rcases D rfl with D|D
   ·rw[h.is,D];simp
   ·rw[D];simp
 |cons x l=>
  (have e:aF (fA (ac d) (.mk 6 ⟨#[]⟩ (x::l) a))++r=(6,(⟨#[91]⟩:BA))::(eO dU (((x::l).map fun y=>(aF (dS (ac d) y),y)).map (·.1))++((6,(⟨#[93]⟩:BA))::r)):=by show aF (cX 91::(cv ci ((x::l).map (dS (ac d)))++[cX 93]))++r=_;rw[mc,aZ,rv,tw,ql];show(6,d8 [91])::((_++[(6,d8 [93])])++r)=_;rw[gL];rfl);rw[e]at h;(have M:dp c s=false:=by rw[h.slice];obtain⟨y,q,ey⟩:=Nx (List.all_eq_true.1 hl x (by simp));rw[jW,jW,ey,uk];show(_&&((1:Int)==6&&_))=false;rw[show((1:Int)==6)=false by decide,vC,vk]);rw[gE (by rw[h.yes (x:=(⟨#[91]⟩:BA)) (by decide),M];rfl),oM];have I:=h.len;obtain⟨l',s2,f1,O,f3,f4,f5⟩:=Cj (c:=c) (part:=dt (cF G)) (en:=(⟨#[93]⟩:BA)) (P:=fun s _=>Fu c 1 G s) (by decide) (by decide) s.part (fun s l hP s' l' _ hle _ _=>hP.le hle) ((x::l).map fun y=>(aF (dS (ac d) y),y)) G (adv s) r h.adv rfl (by unfold Fu at hf;show c.toks.length-(s.at_+1)<G;simp only[gM]at I;omega) (hf.le (jE _)) (by
   intro z hz;obtain⟨y,J,rfl⟩:=List.mem_map.1 hz;have J:=List.all_eq_true.1 hl y J;obtain⟨u,q,eu⟩:=Nx J;refine⟨?_,?_,fun s r hs hF hp D=>?_⟩
   ·simp only[eu];rfl
   ·simp only[eu];simp
   ·have U:dJ (et r)=false/\cO (et r) ⟨#[124]⟩=false:=by
     rcases D with D|D
     ·rw[D];exact⟨by decide,by decide⟩
     ·rw[D];exact⟨by decide,by decide⟩
    have:=PQ J (G:=G) hs U.1 U.2 hF
    rwa [hp]at this)
  rw[nX]at O;(have N:l'≠[]:=by rintro rfl;have:=O.len;simp at this);rw[f1,bH.bind_ok,gA (by intro h0;exact N (List.length_eq_zero_iff.1 h0))];exact⟨_,s2,rfl,cA.mk O _ _,f3,f4,f5⟩
theorem Sz{f:Nd}:aF (cS (ac d) f)=(1,f.text)::(aF (af d (aV f 0))++[Ef]):=by unfold cS;rw[dY];show aF (iN f.text::bc::(af d (aV f 0)++[.nl]))=_;rw[lj];show _::aF (af d (aV f 0)++[.nl])=_;rw[aZ];rfl
theorem BG(p:Int){G:Nat}:∀(l:List Nd)(g:Nat)(acc acc':List Nd)(s:St)(r:List TK),l.all (nZ (aj d))=true ->
  At c s (l.flatMap (fun x=>aF (cS (ac d) x))++((6,(⟨#[125]⟩:BA))::r))->Fu c 1 G s->c.toks.length-s.at_<g->bm acc' acc ->
  yE c s r (fun n'=>∃l',n'=.mk 13 ⟨#[]⟩ l' p/\bm l' (acc++l)) s.part (cP (cF G) p g acc' c s)
 |_,0,_,_,_,_,_,_,_,N,_=>absurd N (by omega)
 |[],g+1,acc,acc',s,r,_,h,_,_,U=>by have h:At c s ((6,(⟨#[125]⟩:BA))::r):=h;unfold cP;rw[gE (h.yes (by decide))];exact⟨_,_,rfl,⟨acc',rfl,by rwa [kG]⟩,h.adv,rfl,rfl⟩
 |x::l,g+1,acc,acc',s,r,J,h,O,N,U=>by rw[kC,gB]at J;obtain⟨y,q,a,rfl,hy,h0⟩:=aJ (by decide) J.1;obtain⟨k,rfl,hk⟩:=ep h0;rw[jA,Sz,gL,gV,gL]at h;have h:At c s ((1,y)::(aF (af d k)++(Ef::(l.flatMap (fun x=>aF (cS (ac d) x))++((6,(⟨#[125]⟩:BA))::r))))):=h;unfold cP;rw[gA (h.no (by rfl)),mr h,bH.bind_ok];have e1:(adv s).at_=s.at_+1:=rfl;obtain⟨t',I,g1,g2,M,g4,g5⟩:=iB d G k hk (adv s) _ h.adv (show dJ Ef=false by decide) (O.le (jE _));have ga:=fT h.adv M;have D:=h.len;rw[g1,bH.bind_ok,gE (wq M)];have e2:(adv I).at_=I.at_+1:=rfl;obtain⟨n2,s3,k1,⟨l',k2,k3⟩,k4,k5,k6⟩:=BG p l g (acc++[.mk 9 y [k] a]) (acc'++[.mk 9 y [t'] (av c s)]) (adv I) r J.2 M.adv (O.le (by omega)) (by simp only[gM]at D;omega) (U.app (bm.one (cA.mk (bm.one g2) _ _)));exact⟨n2,s3,k1,⟨l',k2,by simpa using k3⟩,k4,k5.trans g4,k6.trans g5⟩
theorem SA(n:Nd):aF (pd (ac d) n)=(2,(⟨#[115,116,114,117,99,116]⟩:BA))::(6,(⟨#[123]⟩:BA))::(n.kids.flatMap (fun x=>aF (cS (ac d) x))++[(6,(⟨#[125]⟩:BA))]):=by unfold pd;show(2,d8 (bytes ⟨#[115,116,114,117,99,116]⟩))::(6,d8 [123])::aF (n.kids.flatMap (cS (ac d))++[cX 125])=_;rw[cT,aZ,tG];rfl
theorem PR(p:Int){n:Nd}(I:cK (aj d) n=true){G:Nat}{s:St}{r:List TK}(h:At c s ((6,(⟨#[123]⟩:BA))::(n.kids.flatMap (fun x=>aF (cS (ac d) x))++((6,(⟨#[125]⟩:BA))::r))))(J:Fu c 1 G s):oL c s r n s.part (ip (cF G) p c s):=by obtain⟨k,t,l,a⟩:=n;unfold cK at I;rw[gB,gB,gC,gC]at I;obtain⟨hk,ht,hl⟩:=I;obtain rfl:k=13:=hk;obtain rfl:t=(⟨#[]⟩:BA):=ht;unfold ip;rw[fl h ⟨#[123]⟩ (by decide),bH.bind_ok,oM];have D:=h.len;have e1:(adv s).at_=s.at_+1:=rfl;obtain⟨n2,s3,k1,⟨l',rfl,U⟩,O,N,M⟩:=BG p (G:=G) l G [] [] (adv s) r hl h.adv (J.le (jE _)) (by unfold Fu at J;simp only[gM]at D;omega) bm.nil;rw[k1];exact⟨_,_,rfl,cA.mk U _ _,O,N,M⟩
end
section
variable {c:Cx} {d:Nat}
theorem IX{n:Nd}(h:(aj d).typ n=true)(r:List TK){s:St}(hs:At c s (aF (af d n)++r)):cO (et (aF (af d n)++r)) ⟨#[91]⟩=false\/dp c s=true:=by
 obtain⟨t,l,e,hc⟩:=rx h;rw[e]at hs |-;rcases hc with hc|rfl|⟨rfl,q,rfl⟩
 ·exact .inl (nA (.inl hc) _)
 ·exact .inl (by show cO (2,(⟨#[102,117,110,99]⟩:BA)) ⟨#[91]⟩=false;decide)
 ·refine .inr ?_;rw[hs.slice];rfl
theorem Ny{n:Nd}(hn:fc 2 [cC (aj d),ld (aj d),(aj d).block] (aG aO n)=true):EC c (fun G=>fN (cF G)) 3 (aF (eN (ac d) n)) n:=by intro G s r h hh hp hf hr;obtain⟨x,l,a,rfl,hx,h0⟩:=aJ (by decide) hn;obtain⟨ps,sg,b,rfl,O,M,hb⟩:=DW h0;obtain⟨qs,a1,res,a2,rfl,N,J⟩:=sc M;obtain⟨lb,eb,U⟩:=(yT c d).2.1 b 0 hb;(have e:aF (eN (ac d) (.mk 2 x [ps,.mk 12 ⟨#[]⟩ [.mk 6 ⟨#[]⟩ qs a1,res] a2,b] a))++r=(2,(⟨#[102,117,110,99]⟩:BA))::(1,x)::(aF (fA (ac d) ps)++(aF (ez (af d) (.mk 12 ⟨#[]⟩ [.mk 6 ⟨#[]⟩ qs a1,res] a2))++((6,(⟨#[123]⟩:BA))::(lb++r)))):=by show aF (iy ⟨#[102,117,110,99]⟩::bc::iN x::(fA (ac d) ps++(ez (ac d).typ (.mk 12 ⟨#[]⟩ [.mk 6 ⟨#[]⟩ qs a1,res] a2)++(bc::(ac d).block b 0))))++r=_;rw[show(ac d).typ=af d from funext dY];show(2,d8 (bytes ⟨#[102,117,110,99]⟩))::(aF (iN x::(fA (ac d) ps++(ez (af d) (.mk 12 ⟨#[]⟩ [.mk 6 ⟨#[]⟩ qs a1,res] a2)++(bc::(ac d).block b 0))))++r)=_;rw[cT,lj,aZ,aZ];show _::(_::(_++(_++aF ((ac d).block b 0)))++r)=_;rw[eb,gV,gL,gL];rfl);rw[e]at h;obtain⟨f1,f2⟩:=hf.adv h;have D:=h.len;show oL c s r _ (-1) (fN (cF G) c s);unfold fN;rw[gE (h.yes (by decide)),mr h.adv,bH.bind_ok];(have I:∀r,cO (et (aF (ez (af d) (.mk 12 ⟨#[]⟩ [.mk 6 ⟨#[]⟩ qs a1,res] a2))++r)) ⟨#[91]⟩=false:=fun r=>by rw[wn];show cO (6,(⟨#[40]⟩:BA)) ⟨#[91]⟩=false;decide);obtain⟨ps',s2,g1,g2,g3,g4,g5⟩:=rf O (G:=G) h.adv.adv (fun _=>.inl (I _)) (by unfold Fu at *;show 3*(c.toks.length-(s.at_+1+1))+1<=G;omega);rw[g1,bH.bind_ok];have l2:=g3.len;obtain⟨sg',s3,k1,k2,k3,k4,k5⟩:=D7 (iB d G) N J (av c s) g3 (show dJ (6,(⟨#[123]⟩:BA))=false by decide) (by simp only[gM,gJ]at D l2;unfold Fu at *;omega);rw[k1,bH.bind_ok];have l3:=k3.len;obtain⟨b',s4,q1,q2,q3,q4,q5⟩:=U G s3 r k3 (k5.trans (g5.trans hp)) (by simp only[gM,gJ]at D l3;unfold Fu at *;omega);rw[q1,bH.bind_ok];exact⟨_,s4,rfl,cA.mk (bm.cons g2 (bm.cons k2 (bm.one q2))) _ _,q3,q4.trans (k4.trans g4),q5⟩
theorem IY{n:Nd}(hn:fc 4 [cC (aj d),(aj d).typ] (aG aO n)=true):EC c (fun G=>fN (cF G)) 3 (aF (eN (ac d) n)) n:=by intro G s r h hh hp hf hr;obtain⟨x,l,a,rfl,hx,h0⟩:=aJ (by decide) hn;obtain⟨ps,t,rfl,J,ht⟩:=li h0;(have e:aF (eN (ac d) (.mk 4 x [ps,t] a))++r=(2,(⟨#[116,121,112,101]⟩:BA))::(1,x)::(aF (fA (ac d) ps)++((6,(⟨#[61]⟩:BA))::(aF (af d t)++r))):=by show aF (iy ⟨#[116,121,112,101]⟩::bc::iN x::(fA (ac d) ps++(bc::cX 61::bc::(ac d).typ t)))++r=_;rw[dY];show(2,d8 (bytes ⟨#[116,121,112,101]⟩))::(aF (iN x::(fA (ac d) ps++(bc::cX 61::bc::af d t)))++r)=_;rw[cT,lj,aZ,gV,gL];rfl);rw[e]at h;have D:=h.len;obtain⟨f1,f2⟩:=hf.adv h;show oL c s r _ (-1) (fN (cF G) c s);unfold fN iq;rw[gA (h.no (by decide)),gE (h.yes (by decide)),mr h.adv,bH.bind_ok];obtain⟨ps',I,g1,g2,M,g4,g5⟩:=rf J (G:=G) h.adv.adv (fun _=>.inl (show cO (6,(⟨#[61]⟩:BA)) ⟨#[91]⟩=false by decide)) (by unfold Fu at *;show 3*(c.toks.length-(s.at_+1+1))+1<=G;omega);rw[g1,bH.bind_ok,gE (M.yes (by decide))];have O:=M.len;obtain⟨t',N,k1,k2,k3,k4,U⟩:=iB d G t ht (adv I) r M.adv (by rw[hr];decide) (by simp only[gM,gJ]at D O;have:(adv I).at_=I.at_+1:=rfl;unfold Fu at *;omega);rw[k1,bH.bind_ok];exact⟨_,N,rfl,cA.mk (bm.cons g2 (bm.one k2)) _ _,k3,k4.trans g4,U.trans (g5.trans hp)⟩
theorem Nz{n:Nd}(hn:fc 3 [cC (aj d),dv (dv (aj d).typ (cK (aj d))) (ct (aj d))] (aG aO n)=true):EC c (fun G=>fN (cF G)) 3 (aF (eN (ac d) n)) n:=by
 intro G s r h hh hp hf hr;obtain⟨x,l,a,rfl,hx,h0⟩:=aJ (by decide) hn;obtain⟨ps,t,rfl,O,D⟩:=li h0;(have e:aF (eN (ac d) (.mk 3 x [ps,t] a))++r=(2,(⟨#[116,121,112,101]⟩:BA))::(1,x)::(aF (fA (ac d) ps)++(aF (if t.kind=13 then pd (ac d) t else fL (ac d) t)++r)):=by show aF (iy ⟨#[116,121,112,101]⟩::bc::iN x::(fA (ac d) ps++(bc::(if t.kind=13 then pd (ac d) t else fL (ac d) t))))++r=_;show(2,d8 (bytes ⟨#[116,121,112,101]⟩))::(aF (iN x::(fA (ac d) ps++(bc::(if t.kind=13 then pd (ac d) t else fL (ac d) t))))++r)=_;rw[cT,lj,aZ,gV,gL];rfl);rw[e]at h;have gd:=h.len;obtain⟨f1,f2⟩:=hf.adv h;have hF:(ac d).typ=af d:=funext dY;show oL c s r _ (-1) (fN (cF G) c s);unfold fN iq;rw[gA (h.no (by decide)),gE (h.yes (by decide)),mr h.adv,bH.bind_ok];(have ga:Fu c 1 G (adv (adv s)):=by unfold Fu at *;show 3*(c.toks.length-(s.at_+1+1))+1<=G;omega);unfold dv at D;rw[gH,gH]at D;have fin:∀(ps' t':Nd)(N:St)(p:Int),cA ps' ps->cA t' t->At c N r->N.head=s.head->N.part = -1->oL c s r (.mk 3 x [ps,t] a) (-1) (.ok (.mk 3 x [ps',t'] p) N):=fun ps' t' N p h1 M h3 h4 h5=>⟨_,N,rfl,cA.mk (bm.cons h1 (bm.one M)) _ _,h3,h4,h5⟩;(have gb:∀J:St,s.at_<=J.at_->Fu c 1 G J:=fun J h=>by unfold Fu at *;omega);rcases D with(D|D)|D
 ·have hk:=cR D;rw[gA (by omega)]at h;unfold fL at h;rw[gA (by omega),hF]at h;have M:=h.adv.adv;obtain⟨u,q,eu,hu⟩:=iA D;(have hg:oL c (adv (adv s)) (aF (af d t)++r) ps (adv (adv s)).part (eI (cF G) c (adv (adv s))):=by refine rf O M (fun h0=>?_) ga;obtain⟨l,a',rfl,hl⟩:=tr O;obtain rfl:l=[]:=h0;exact IX D r (show At c (adv (adv s)) (aF (af d t)++r)from M));obtain⟨ps',J,g1,g2,I,g4,g5⟩:=hg;have l2:=fT M I;have ea:(adv (adv s)).at_=s.at_+1+1:=rfl;have U:∀x,x=(⟨#[61]⟩:BA)\/x=(⟨#[115,116,114,117,99,116]⟩:BA)\/x=(⟨#[105,110,116,101,114,102,97,99,101]⟩:BA)->aP c J x=false:=by
   rintro x(rfl|rfl|rfl)
   ·rw[I.is,eu];exact bS hu _ (by decide) (by decide) (by decide) (by decide) (by decide)
   ·rw[I.is,eu];exact bS hu _ (by decide) (by decide) (by decide) (by decide) (by decide)
   ·rw[I.is,eu];exact bS hu _ (by decide) (by decide) (by decide) (by decide) (by decide)
  rw[g1,bH.bind_ok,gA (by rw[U _ (.inl rfl)];decide),gA (by rw[U _ (.inr (.inl rfl))];decide),gA (by rw[U _ (.inr (.inr rfl))];decide)];obtain⟨t',N,k1,k2,k3,k4,k5⟩:=iB d G t D J r I (by rw[hr];decide) (gb J (by omega));rw[k1,bH.bind_ok];exact fin _ _ _ _ g2 k2 k3 (k4.trans g4) (k5.trans (g5.trans hp))
 ·(have hk:t.kind=13:=by unfold cK at D;rw[gB,gC]at D;exact D.1);rw[gE hk,SA]at h;have M:At c (adv (adv s)) (aF (fA (ac d) ps)++((2,(⟨#[115,116,114,117,99,116]⟩:BA))::((6,(⟨#[123]⟩:BA))::(t.kids.flatMap (fun x=>aF (cS (ac d) x))++[(6,(⟨#[125]⟩:BA))]))++r)):=h.adv.adv;rw[gV,gV,gL]at M;obtain⟨ps',J,g1,g2,I,g4,g5⟩:=rf O (G:=G) M (fun _=>.inl (show cO (2,(⟨#[115,116,114,117,99,116]⟩:BA)) ⟨#[91]⟩=false by decide)) ga;have l2:=fT M I;have ea:(adv (adv s)).at_=s.at_+1+1:=rfl;rw[g1,bH.bind_ok,gA (I.no (by decide)),gE (I.yes (by decide))];obtain⟨t',N,k1,k2,k3,k4,k5⟩:=PR (av c J) D (G:=G) I.adv (gb _ (by have:(adv J).at_=J.at_+1:=rfl;omega));rw[k1,bH.bind_ok];exact fin _ _ _ _ g2 k2 k3 (k4.trans g4) (k5.trans (g5.trans hp))
 ·(have hk:t.kind=14:=by unfold ct at D;rw[gB,gC]at D;exact D.1);rw[gA (by omega)]at h;unfold fL at h;rw[gE hk,hF,Ej]at h;have M:At c (adv (adv s)) (aF (fA (ac d) ps)++((2,(⟨#[105,110,116,101,114,102,97,99,101]⟩:BA))::((6,(⟨#[123]⟩:BA))::(eO (6,(⟨#[124]⟩:BA)) (t.kids.map fun t=>aF (iE t.text++af d (aV t 0)))++[(6,(⟨#[125]⟩:BA))]))++r)):=h.adv.adv;rw[gV,gV,gL]at M;obtain⟨ps',J,g1,g2,I,g4,g5⟩:=rf O (G:=G) M (fun _=>.inl (show cO (2,(⟨#[105,110,116,101,114,102,97,99,101]⟩:BA)) ⟨#[91]⟩=false by decide)) ga;have l2:=fT M I;have ea:(adv (adv s)).at_=s.at_+1+1:=rfl;rw[g1,bH.bind_ok,gA (I.no (by decide)),gA (I.no (by decide)),gE (I.yes (by decide))];obtain⟨t',N,k1,k2,k3,k4,k5⟩:=BF (av c J) D (G:=G) I.adv (gb _ (by have:(adv J).at_=J.at_+1:=rfl;omega));rw[k1,bH.bind_ok];exact fin _ _ _ _ g2 k2 k3 (k4.trans g4) (k5.trans (g5.trans hp))
theorem PS{n:Nd}(I:f8 (aj d) n=true):EC c (fun G=>fN (cF G)) 3 (aF (eN (ac d) n)) n/\∃t q,aF (eN (ac d) n)=t::q/\(cO t ⟨#[102,117,110,99]⟩||(cO t ⟨#[116,121,112,101]⟩||cO t ⟨#[118,97,114]⟩))=true:=by
 unfold f8 at I;split at I
 ·rename_i J;refine⟨Ny I,?_⟩;unfold eN;rw[gE J];exact⟨_,_,rfl,by decide⟩
 ·split at I
  ·rename_i D J;refine⟨Nz I,?_⟩;unfold eN;rw[gA D,gE J];exact⟨_,_,rfl,by decide⟩
  ·split at I
   ·rename_i D hk3 J;refine⟨IY I,?_⟩;unfold eN;rw[gA D,gA hk3,gE J];exact⟨_,_,rfl,by decide⟩
   ·rename_i D hk3 hk4;(have e:eN (ac d) n=pc (ac d) n 0:=by unfold eN;rw[gA D,gA hk3,gA hk4]);rw[e];refine⟨fun G s r h hh hp N hr=>?_,⟨(2,d8 (bytes ⟨#[118,97,114]⟩)),_,rfl,by decide⟩⟩;have M:=Gm (yT c d).1 0 I G s r h hh hp (N.more (by omega)) hr;have h:At c s ((2,d8 (bytes ⟨#[118,97,114]⟩))::_):=h;show oL c s r n (-1) (fN (cF G) c s);unfold fN;rw[gA (h.no (by decide)),gA (h.no (by decide))];exact M
theorem Gr(p:Int)(x:ByteArray){G:Nat}:∀(l:List Nd)(g:Nat)(acc acc':List Nd)(s:St),l.all (f8 (aj d))=true ->
  At c s (Ef::l.flatMap (fun x=>aF (eN (ac d) x)++[Ef]))->s.head=false->s.part = -1->Fu c 3 G s->c.toks.length-s.at_<g->bm acc' acc ->
  ∃l' s',fX (cF G) p x g acc' c s=.ok (.mk 1 x l' p) s'/\bm l' (acc++l)/\s'.at_=c.toks.length
 |_,0,_,_,_,_,_,_,_,_,O,_=>absurd O (by omega)
 |[],g+1,acc,acc',s,_,h,_,_,_,_,ha=>by have h:At c s [Ef]:=h;have D:s.at_+1=c.toks.length:=h.len;unfold fX;rw[gE (wq h),gE D];exact⟨acc',_,rfl,by rwa [kG],D⟩
 |y::l,g+1,acc,acc',s,J,h,N,hp,U,O,ha=>by rw[kC,gB]at J;obtain⟨hG,t,q,e,ht⟩:=PS (c:=c) J.1;rw[jA,gL]at h;have I:At c (adv s) (aF (eN (ac d) y)++(Ef::l.flatMap (fun x=>aF (eN (ac d) x)++[Ef]))):=h.adv;have D:=h.len;have e1:(adv s).at_=s.at_+1:=rfl;unfold fX;rw[gE (wq h),gA (by simp only[gM,gJ]at D;omega),gE (by rw[I.is,I.is,I.is,e];exact ht)];obtain⟨n',M,g1,g2,g3,g4,g5⟩:=hG G (adv s) _ I N hp (U.le (jE _)) rfl;rw[show fN (cF G) c (adv s)=.ok n' M from g1,bH.bind_ok];have ga:=fT I g3;obtain⟨l',s',k1,k2,k3⟩:=Gr p x l g (acc++[y]) (acc'++[n']) M J.2 g3 (g4.trans N) g5 (U.le (by omega)) (by simp only[gM,gJ]at D;omega) (ha.app (bm.one g2));exact⟨l',s',k1,by simpa using k2,k3⟩
theorem NA{n:Nd}(I:iT (aj d) n=true){G:Nat}{s:St}(h:At c s (aF (lO (ac d) n)))(hh:s.head=false)(U:s.part = -1)(J:Fu c 3 G s):∃n' s',fY (cF G) c s=.ok n' s'/\cA n' n/\s'.at_=c.toks.length:=by obtain⟨k,x,l,a⟩:=n;unfold iT at I;rw[gB,gB,gC]at I;obtain⟨hk,hx,hl⟩:=I;obtain rfl:k=1:=hk;(have e:aF (lO (ac d) (.mk 1 x l a))=(2,(⟨#[112,97,99,107,97,103,101]⟩:BA))::(1,x)::Ef::l.flatMap (fun x=>aF (eN (ac d) x)++[Ef]):=by show(2,d8 (bytes ⟨#[112,97,99,107,97,103,101]⟩))::aF (iN x::.nl::l.flatMap fun d'=>.gap 10::(eN (ac d) d'++[.nl]))=_;rw[cT,lj];show _::_::(6,_)::aF (l.flatMap fun d'=>.gap 10::(eN (ac d) d'++[.nl]))=_;rw[tG];congr 3;refine jH (fun f=>l.flatMap f) (funext fun y=>?_);show aF (eN (ac d) y++[.nl])=_;rw[aZ];rfl);rw[e]at h;have D:=h.len;unfold fY;rw[fl h ⟨#[112,97,99,107,97,103,101]⟩ (by decide),bH.bind_ok,mr h.adv,bH.bind_ok,oM];obtain⟨l',s',O,N,M⟩:=Gr (av c s) x (G:=G) l G [] [] (adv (adv s)) hl h.adv.adv hh U (J.le (by show s.at_<=s.at_+1+1;omega)) (by simp only[gM]at D;have:(adv (adv s)).at_=s.at_+1+1:=rfl;unfold Fu at J;omega) bm.nil;exact⟨_,s',O,cA.mk N _ _,M⟩
end
end
section
open Go.Sort Go.Lib
abbrev TQ:=Int×Int
def TZ(x y:TQ):Prop:=x.2<y.2\/(x.2=y.2/\x.1<y.1)
end
section
theorem FE{s:ByteArray}{n:Nd}(h:iW fG s=.tree n):∃L,cN s=.toks L/\∃D,fY fG ⟨L,(s.size:Int)⟩ ⟨0,false,-1⟩=.ok n D/\D.at_=L.length/\cE ⟨L,(s.size:Int)⟩ 0 0 0 n L.length/\de n=true:=by
 unfold iW at h;cases J:cN s with
 |err p e=>rw[J]at h;cases h
 |toks L=>
  rw[J]at h;have h:mo ⟨L,(s.size:Int)⟩ (fY fG ⟨L,(s.size:Int)⟩ ⟨0,false,-1⟩)=.tree n:=h;cases I:fY fG ⟨L,(s.size:Int)⟩ ⟨0,false,-1⟩with
  |out=>rw[I]at h;cases h
  |fail p=>rw[I]at h;cases h
  |ok m D=>
   rw[I]at h;unfold mo at h;simp only at h;split at h
   ·cases h
   ·rename_i U;split at h
    ·rename_i M;injection h with h;subst h;have N:=wh (ua J) I;have ga:D.at_<=L.length:=N.le;(have O:D.at_=L.length:=by omega);rw[O]at N;exact⟨L,rfl,D,I,O,N,M⟩
    ·cases h
theorem SB{s:ByteArray}{p k:Int}(h:iW fG s=.bad p k):k≠0:=by
 unfold iW at h;cases D:cN s with
 |err p e=>rw[D]at h;injection h with _ h;subst h;exact pT D
 |toks L=>
  rw[D]at h;have h:mo ⟨L,(s.size:Int)⟩ (fY fG ⟨L,(s.size:Int)⟩ ⟨0,false,-1⟩)=.bad p k:=h;unfold mo at h;split at h
  ·cases h
  ·injection h with _ h;subst h;decide
  ·split at h
   ·injection h with _ h;subst h;decide
   ·split at h
    ·cases h
    ·injection h with _ h;subst h;decide
end
section
open Go.Lib
def Gs:List UInt8:=32::bytes pJ++[32]
def RO:List UInt8:=32::bytes rE++[32]
def Tz:List UInt8:=32::bytes uO++[32]
def Gt(a b:UInt8):Bool:=(a==60&&b==60)||((a==62&&b==62)||((a==38&&b==94)||(a==46&&b==46)))
theorem El{a b c:UInt8}(h:Gt a b=false):contains Gs (32::[a,b,c]++[32])=false:=by
 cases hc:contains Gs (32::[a,b,c]++[32])with
 |false=>rfl
 |true=>exfalso;obtain⟨k,D,M⟩:=sd hc;have J:=oe M;(have D:k<18:=by rw[yv.1]at D;omega);(have key:(List.range 18).all (fun k=>let w:=(Gs.drop k).take 5;!(decide (w.length=5)&&(w.getD 0 0==32&&w.getD 4 0==32))||Gt (w.getD 1 0) (w.getD 2 0))=true:=by decide +kernel);have I:=List.all_eq_true.1 key k (List.mem_range.2 D);rw[show(Gs.drop k).take 5=[32,a,b,c,32]from J]at I;simp[h]at I
def Lh(a b:UInt8):Bool :=!(Gt a b)&&(!(contains RO [32,a,b,32])&&contains Tz [32,a,32])
def TF(a b:UInt8):Bool :=!(Gt a b)&&contains RO [32,a,b,32]
theorem IZ{a b:UInt8}(h:Lh a b=true)(r:List UInt8):yA (a::b::r)=1:=by
 unfold Lh at h;simp only[gB,qr]at h;obtain⟨M,J,I⟩:=h;unfold yA;rw[gA,gA,gE]
 ·exact⟨by simp,I⟩
 ·rintro⟨-,h⟩;rw[show contains (32::bytes rE++[32]) (32::(a::b::r).take 2++[32])=false from J]at h;cases h
 ·rintro⟨D,h⟩;cases r with
  |nil=>simp at D
  |cons c r=>rw[show contains (32::bytes pJ++[32]) (32::(a::b::c::r).take 3++[32])=false from El M]at h;cases h
theorem I0{a b:UInt8}(h:TF a b=true)(r:List UInt8):yA (a::b::r)=2:=by
 unfold TF at h;simp only[gB,qr]at h;obtain⟨J,I⟩:=h;unfold yA;rw[gA,gE]
 ·exact⟨by simp,I⟩
 ·rintro⟨D,h⟩;cases r with
  |nil=>simp at D
  |cons c r=>rw[show contains (32::bytes pJ++[32]) (32::(a::b::c::r).take 3++[32])=false from El J]at h;cases h
theorem lX.one{a b:UInt8}{r:List UInt8}(h:Lh a b=true)(J:p8 [a]=true)(I:a=47->b≠47/\b≠42):lX (b::r) 6 [a]:=by
 refine .sign J (IZ h r) ?_ ?_
 ·show([47,47]:List UInt8).isPrefixOf (a::b::r)=false;by_cases D:a=47
  ·simp[List.isPrefixOf,Ne.symm (I D).1]
  ·simp[List.isPrefixOf,Ne.symm D]
 ·show([47,42]:List UInt8).isPrefixOf (a::b::r)=false;by_cases D:a=47
  ·simp[List.isPrefixOf,Ne.symm (I D).2]
  ·simp[List.isPrefixOf,Ne.symm D]
theorem lX.two{a b:UInt8}{r:List UInt8}(h:TF a b=true)(I:p8 [a]=true)(D:a≠47):lX r 6 [a,b]:=by
 refine .sign I (I0 h r) ?_ ?_
 ·exact iz (fun e=>D (UInt8.toNat_inj.1 e))
 ·exact iz (fun e=>D (UInt8.toNat_inj.1 e))
theorem lX.wordK{k:Int}{x r:List UInt8}(I:k=bZ (d8 x)+1)(h:ny x=true)(D:Bw r=true):lX r k x:=by subst I;exact .word h D
def lR:Bool->List It->Bool
 |e,[]=>e
 |_,.tok k x::z=>lR (pC k x) z
 |e,.gap _::z=>lR e z
 |_,.nl::z=>lR false z
theorem bB.app:∀{a b:List It}{e:Bool}{r:List UInt8},bB e a (ls b++r)->bB (lR e a) b r->bB e (a++b) r
 |[],_,_,_,_,h=>h
 | .tok k x::a,b,e,r,D,I=>by refine⟨?_,bB.app D.2 I⟩;show lX (ls (a++b)++r) k x;rw[i8,gL];exact D.1
 | .gap c::a,b,e,r,D,I=>⟨D.1,bB.app D.2 I⟩
 | .nl::a,b,e,r,D,I=>⟨D.1,bB.app D.2 I⟩
theorem dC:∀(a b:List It)(e:Bool),lR e (a++b)=lR (lR e a) b
 |[],_,_=>rfl
 | .tok k x::a,b,_=>dC a b (pC k x)
 | .gap _::a,b,e=>dC a b e
 | .nl::a,b,_=>dC a b false
def lz(r:List UInt8):Prop:=∃b q,r=b::q/\a6 (b.toNat:Int)=false
theorem lz.stop{r:List UInt8}(h:lz r):Bw r=true:=by obtain⟨b,q,rfl,h⟩:=h;show(!a6 (b.toNat:Int))=true;rw[h];rfl
def yU(a:UInt8):Bool:=a==40||(a==41||(a==91||(a==93||(a==123||(a==125||(a==44||(a==59||a==126)))))))
theorem Gu{a:UInt8}(h:yU a=true)(b:UInt8):Lh a b=true/\p8 [a]=true/\a≠47/\a6 (a.toNat:Int)=false:=by(have key:∀b:Fin 256,∀a∈([40,41,91,93,123,125,44,59,126]:List UInt8),Lh a (UInt8.ofNat b.val)=true:=by decide +kernel);(have D:∀a∈([40,41,91,93,123,125,44,59,126]:List UInt8),p8 [a]=true/\a≠47/\a6 (a.toNat:Int)=false:=by decide +kernel);(have I:a∈([40,41,91,93,123,125,44,59,126]:List UInt8):=by unfold yU at h;simpa[Bool.or_eq_true,beq_iff_eq]using h);have:=key ⟨b.toNat,b.toNat_lt⟩ a I;exact⟨by simpa using this,D a I⟩
theorem lz.sg{a:UInt8}(h:yU a=true)(q:List UInt8):lz (a::q):=⟨a,q,rfl,(Gu h 0).2.2.2⟩
theorem lz.sp(q:List UInt8):lz (32::q):=⟨32,q,rfl,by decide +kernel⟩
section
variable {e:Bool} {z:List It} {r:List UInt8}
theorem nE{a:UInt8}(M:yU a=true)(D:ls z++r≠[])(I:bB (pC 6 [a]) z r):bB e (cX a::z) r:=by
 refine⟨?_,I⟩;cases J:ls z++r with
 |nil=>exact absurd J D
 |cons b q=>obtain⟨U,O,N,_⟩:=Gu M b;exact .one U O fun h=>absurd h N
theorem fH(D:bB e z r):bB e (bc::z) r:=⟨.inl rfl,D⟩
theorem Em{l:List UInt8}(h:eT l=true)(J:l≠[]):ny l=true:=by
 cases l with
 |nil=>exact absurd rfl J
 |cons a l=>unfold eT at h;rw[gB]at h;unfold ny;(have I:∀b:Fin 256,mh (UInt8.ofNat b.val)=true->bo (((UInt8.ofNat b.val).toNat:Nat):Int)=true:=by decide +kernel);(have D:∀b:Fin 256,(mh (UInt8.ofNat b.val)||fk (UInt8.ofNat b.val))=true->a6 (((UInt8.ofNat b.val).toNat:Nat):Int)=true:=by decide +kernel);rw[gB];refine⟨by have:=I ⟨a.toNat,a.toNat_lt⟩;simpa using this (by simpa using h.1),List.all_eq_true.2 fun b hb=>?_⟩;have hb:=List.all_eq_true.1 h.2 b hb;have:=D ⟨b.toNat,b.toNat_lt⟩;simpa using this (by simpa using hb)
theorem sv{x:ByteArray}(D:aO x=true):ny (bytes x)=true/\bZ (d8 (bytes x))=0:=by unfold aO mi at D;rw[gB,gB,gB,gC,gC,gC]at D;obtain⟨_,M,J,I⟩:=D;rw[cT];refine⟨?_,I⟩;exact Em M fun h=>J (cm h)
theorem yV{x:ByteArray}(I:aO x=true)(hs:lz (ls z++r))(D:bB true z r):bB e (iN x::z) r:=by obtain⟨M,J⟩:=sv I;exact⟨.wordK (by rw[J];rfl) M hs.stop,D⟩
theorem BJ{x:ByteArray}(D:ny (bytes x)=true/\bZ (d8 (bytes x))=1)(hs:lz (ls z++r))(I:bB (pC 2 (bytes x)) z r):bB e (iy x::z) r:=
 ⟨.wordK (by rw[D.2];rfl) D.1 hs.stop,I⟩
end
structure Pc(l:List It):Prop where
 ok:∀e r,lz r->bB e l r
 fin:∀e,lR e l=true
 hd:∃b q,ls l=b::q
theorem Pc.app{a b:List It}(D:Pc a)(hb:Pc b)(h:∀r,lz r->lz (ls b++r)):Pc (a++b):=by refine⟨fun e r hr=>bB.app (D.ok e _ (h r hr)) (hb.ok _ r hr),fun e=>by rw[dC,hb.fin],?_⟩;obtain⟨b',q,I⟩:=D.hd;exact⟨b',q++ls b,by rw[i8,I];rfl⟩
theorem FF(s:List It)(hs:∀e r,bB e s r)(D:∀z,lz (ls s++z)):∀(L:List (List It)),(∀l∈L,Pc l)->∀e r,lz r->bB e (cv s L) r
 |[],_,_,_,_=>trivial
 |[x],h,e,r,I=>(h x (by simp)).ok e r I
 |x::y::L,h,e,r,I=>by show bB e (x++(s++cv s (y::L))) r;refine bB.app ((h x (by simp)).ok e _ ?_) (bB.app (hs _ _) (FF s hs D (y::L) (fun l hl=>h l (by simp[hl])) _ r I));rw[i8,gL];exact D _
theorem SC(e:Bool)(r:List UInt8):bB e ci r:=nE (by decide) (by simp[ls];exact fun h=>by cases h) (fH trivial)
theorem SD(z:List UInt8):lz (ls ci++z):=lz.sg (a:=44) (by decide) _
theorem yW{a:UInt8}(D:a=41\/a=93\/a=125):pC 6 [a]=true:=by rcases D with rfl|rfl|rfl<;>decide +kernel
theorem CA{o a:UInt8}(N:yU o=true)(J:a=41\/a=93\/a=125){L:List (List It)}(O:∀l∈L,Pc l){z:List It}(M:∀r,lz r->bB true z r)(I:lR true z=true)(D:∀r,lz r->ls z++r≠[]):Pc (cX o::(cv ci L++(cX a::z))):=by
 (have hs:yU a=true:=by rcases J with rfl|rfl|rfl<;>decide);refine⟨fun e r hr=>?_,fun e=>?_,⟨o,_,rfl⟩⟩
 ·refine nE N ?_ (bB.app (FF ci SC SD L O _ _ (lz.sg hs _)) (nE hs (D r hr) ?_))
  ·rw[i8,dB];show(_++(a::_))++_≠[];simp
  ·rw[yW J];exact M r hr
 ·show lR (pC 6 [o]) (cv ci L++(cX a::z))=true;rw[dC];show lR (pC 6 [a]) z=true;rw[yW J];exact I
theorem stp_ne{z:List It}{r:List UInt8}(D:lz r):ls z++r≠[]:=by obtain⟨b,q,rfl,_⟩:=D;simp
def Hd(l:List It):Prop:=∃b q,ls l=b::q/\(b≠61/\b≠62/\b≠45)
theorem Gv{b:UInt8}(h:a6 (b.toNat:Int)=true):b≠61/\b≠62/\b≠45:=by refine⟨?_,?_,?_⟩<;>(rintro rfl;revert h;decide)
theorem rz{x:ByteArray}(I:aO x=true)(z:List It):Hd (iN x::z):=by
 have h:=(sv I).1;cases D:bytes x with
 |nil=>rw[D]at h;cases h
 |cons b q=>rw[D]at h;unfold ny at h;rw[gB]at h;refine⟨b,q++ls z,?_,Gv (by unfold a6;rw[h.1];rfl)⟩;rw[dB];show bytes x++_=_;rw[D];rfl
theorem Hd.app{a:List It}(h:Hd a)(b:List It):Hd (a++b):=by obtain⟨c,q,e,h⟩:=h;exact⟨c,q++ls b,by rw[i8,e];rfl,h⟩
theorem Gw{x:ByteArray}(D:aO x=true):Pc [iN x]:=
 ⟨fun e r hr=>yV D hr trivial,fun e=>by show pC 1 (bytes x)=true;rfl,by obtain⟨b,q,e,_⟩:=rz D [];exact⟨b,q,e⟩⟩
theorem pm{x:ByteArray}(D:aO x=true){p:List It}(I:Pc p):Pc (iN x::bc::p):=
 ⟨fun e r hr=>yV D (lz.sp _) (fH (I.ok _ r hr)),fun e=>I.fin _,by obtain⟨b,q,e,_⟩:=rz D (bc::p);exact⟨b,q,e⟩⟩
theorem Pc.stp_ne{l:List It}(_:Pc l){r:List UInt8}(D:lz r):ls l++r≠[]:=Go.Proofs.YtiebcdeafofgdaaGreatDoor.stp_ne D
theorem SE{f:Nd->List It}{n:Nd}(J:∀p∈(aV n 0).kids,Pc (dR p.text++f (aV p 0)))(D:(aV n 1).kind≠0->Pc (f (aV n 1))):Pc (ez f n):=by
 unfold ez;refine CA (by decide) (.inl rfl) (fun l hl=>?_) (fun r hr=>?_) ?_ fun r hr=>stp_ne hr
 ·obtain⟨p,I,rfl⟩:=List.mem_map.1 hl;exact J p I
 ·split
  ·trivial
  ·rename_i h;exact fH ((D h).ok _ r hr)
 ·split
  ·rfl
  ·rename_i h;exact(D h).fin _
theorem FG(f:Nd->List It)(n:Nd)(r:List UInt8):lz (ls (ez f n)++r):=by unfold ez;rw[dB];exact lz.sg (a:=40) (by decide) _
theorem PT:ny (bytes ⟨#[102,117,110,99]⟩)=true/\bZ (d8 (bytes ⟨#[102,117,110,99]⟩))=1:=⟨by decide +kernel,by decide +kernel⟩
theorem Gx{l:List It}(D:Pc l)(hs:∀r,lz (ls l++r)):Pc (iy ⟨#[102,117,110,99]⟩::l)/\Hd (iy ⟨#[102,117,110,99]⟩::l):=
 ⟨⟨fun e r hr=>BJ PT (hs r) (D.ok _ r hr),fun e=>D.fin _,⟨102,_,rfl⟩⟩,⟨102,_,rfl,by decide,by decide,by decide⟩⟩
theorem NE{F:dM}{f:Nd->List It}{so:ByteArray->Bool}(I:so=aO\/so=fK)(N:∀n,F.typ n=true->Pc (f n)){p:Nd}(O:lG F so p=true):Pc (dR p.text++f (aV p 0)):=by
 obtain⟨x,l,a,rfl,D,U⟩:=aJ (by decide) O;obtain⟨k,rfl,M⟩:=ep U;show Pc (dR x++f k);unfold dR;split
 ·exact N k M
 ·rename_i J;rcases I with rfl|rfl
  ·exact pm D (N k M)
  ·unfold fK at D;rw[gC]at D;exact absurd D J
theorem CC{F:dM}{f:Nd->List It}{so:ByteArray->Bool}(I:so=aO\/so=fK)(M:∀n,F.typ n=true->Pc (f n)){n:Nd}(N:wK F so n=true):Pc (ez f n):=by
 obtain⟨ps,a1,res,a,rfl,J,D⟩:=sc N;refine SE (fun p hp=>NE I M (List.all_eq_true.1 J p hp)) fun h=>?_;rcases D with D|D
 ·obtain⟨a',rfl⟩:=bP D;exact absurd rfl h
 ·exact M res D
theorem NF{f:Nd->List It}{l:List Nd}(J:∀x∈l,Pc (f x))(r:List UInt8)(D:lz r):bB true (nu f l) r/\lR true (nu f l)=true/\lz (ls (nu f l)++r):=by
 unfold nu;split
 ·exact⟨trivial,rfl,D⟩
 ·have:=CA (o:=91) (a:=93) (L:=l.map f) (z:=[]) (by decide) (.inr (.inl rfl)) (fun y hy=>by obtain⟨x,I,rfl⟩:=List.mem_map.1 hy;exact J x I) (fun _ _=>trivial) rfl (fun r D=>stp_ne D);refine⟨this.ok _ r D,this.fin _,?_⟩;rw[dB];exact lz.sg (a:=91) (by decide) _
theorem om:∀(d:Nat){n:Nd},(aj d).typ n=true->Pc (af d n)/\Hd (af d n)
 |0,_,h=>by cases h
 |d+1,n,h=>by
  have I:=cR h;have h:l5 (aj d) n=true:=h;have M:∀n,(aj d).typ n=true->Pc (af d n):=fun n h=>(om d h).1;unfold l5 at h;unfold af;rcases I with I|I|I
  ·rw[gA (by omega),gA (by omega),gA (by omega)];rw[gE I,gB]at h;have D:=NF (f:=af d) (l:=n.kids) fun x hx=>M x (List.all_eq_true.1 h.2 x hx);refine⟨⟨fun e r hr=>yV h.1 (D r hr).2.2 (D r hr).1,fun e=>(D [32] (lz.sp [])).2.1,?_⟩,rz h.1 _⟩;obtain⟨b,q,e,_⟩:=rz h.1 (nu (af d) n.kids);exact⟨b,q,e⟩
  ·rw[gE I];rw[gA (by omega),gE I]at h;obtain⟨l,a,rfl,O⟩:=ch h;obtain⟨k,rfl,J⟩:=ep O;have N:=M k J;refine⟨⟨fun e r hr=>nE (by decide) (by rw[dB];show(93::_)++r≠[];simp) (nE (by decide) (stp_ne hr) (N.ok _ r hr)),fun e=>N.fin _,⟨91,_,rfl⟩⟩,⟨91,_,rfl,by decide,by decide,by decide⟩⟩
  ·rw[gA (by omega),gE I];rw[gA (by omega),gA (by omega),gE I]at h;exact Gx (CC (.inr rfl) M h) (FG _ _)
def PU(n:Nd)(l:List It):Prop:=∃b q,ls l=b::q/\b≠61/\b≠62/\(n.kind≠20->b=45->n.kind=19/\n.text=(⟨#[45]⟩:BA))
theorem Hd.e{l:List It}(h:Hd l)(n:Nd):PU n l:=by obtain⟨b,q,e,J,I,D⟩:=h;exact⟨b,q,e,J,I,fun _ h=>absurd h D⟩
theorem NG(b:UInt8)(h:b≠61/\b≠62/\b≠45):Lh 45 b=true:=by(have key:∀b:Fin 256,b.val≠61->b.val≠62->b.val≠45->Lh 45 (UInt8.ofNat b.val)=true:=by decide +kernel);have:=key ⟨b.toNat,b.toNat_lt⟩ (oK (n:=61) (by decide) h.1) (oK (n:=62) (by decide) h.2.1) (oK (n:=45) (by decide) h.2.2);simpa using this
theorem SF(b:UInt8)(h:b≠61):Lh 33 b=true:=by(have key:∀b:Fin 256,b.val≠61->Lh 33 (UInt8.ofNat b.val)=true:=by decide +kernel);have:=key ⟨b.toNat,b.toNat_lt⟩ (oK (n:=61) (by decide) h);simpa using this
theorem SG(b:UInt8)(h:a6 (b.toNat:Int)=true):Lh 46 b=true:=by(have key:∀b:Fin 256,a6 (((UInt8.ofNat b.val).toNat:Nat):Int)=true->Lh 46 (UInt8.ofNat b.val)=true:=by decide +kernel);have:=key ⟨b.toNat,b.toNat_lt⟩;simpa using this (by simpa using h)
theorem ul{b:UInt8}(O:b≠34)(N:b≠92)(M:b≠10)(r:List UInt8)(k:Nat):bF 34 (b::r) false k=bF 34 r false (k+1):=by have J:b.toNat≠34:=oK (n:=34) (by decide) O;have I:b.toNat≠92:=oK (n:=92) (by decide) N;have D:b.toNat≠10:=oK (n:=10) (by decide) M;rw[bF,gA (fun h=>I h.1),gA J,gA (fun h=>D h.1)]
theorem NH(b:UInt8)(r:List UInt8)(k:Nat):bF 34 (cu b++r) false k=bF 34 r false (k+(cu b).length):=by
 unfold cu;split
 ·rfl
 ·split
  ·rfl
  ·split
   ·rfl
   ·split
    ·rfl
    ·split
     ·rename_i J h2 h3 h4 h5;exact ul J h2 h3 r k
     ·(have key:∀n:Fin 16,AI n.val≠34/\AI n.val≠92/\AI n.val≠10:=by decide +kernel);have I:=key ⟨b.toNat/16,by have:=b.toNat_lt;omega⟩;have D:=key ⟨b.toNat%16,by omega⟩;show bF 34 (AI (b.toNat/16)::AI (b.toNat%16)::r) false (k+1+1)=_;rw[ul I.1 I.2.1 I.2.2,ul D.1 D.2.1 D.2.2];rfl
theorem BK:∀(l:List UInt8)(r:List UInt8)(k:Nat),bF 34 (l.flatMap cu++34::r) false k=some (k+(l.flatMap cu).length)
 |[],r,k=>by show bF 34 (34::r) false k=_;simp[bF]
 |b::l,r,k=>by rw[jA,gL,NH,BK l r,gJ,Nat.add_assoc]
def PV:List UInt8->Bool
 |[a]=>Lh a 32&&(p8 [a])
 |[a,b]=>TF a b&&(p8 [a]&&a != 47)
 |_=>false
theorem SH{x:List UInt8}(h:PV x=true)(r:List UInt8):lX (32::r) 6 x:=by
 unfold PV at h;split at h
 ·rw[gB]at h;exact .one h.1 h.2 fun _=>⟨by decide,by decide⟩
 ·rw[gB,gB]at h;exact .two h.1 h.2.1 (by simpa using h.2.2)
 ·cases h
theorem En{l:List It}(D:Pc l):Pc (cX 40::(l++[cX 41]))/\Hd (cX 40::(l++[cX 41])):=by have:=CA (o:=40) (a:=41) (L:=[l]) (z:=[]) (by decide) (.inl rfl) (fun y hy=>by obtain rfl:y=l:=(by simpa using hy);exact D) (fun _ _=>trivial) rfl (fun r hr=>stp_ne hr);exact⟨this,⟨40,_,rfl,by decide,by decide,by decide⟩⟩
theorem SI{x:ByteArray}(I:iI x=true):Pc [.tok 4 (bytes x)]/\Hd [.tok 4 (bytes x)]:=by
 unfold iI at I;rw[gB,gH,gC]at I;obtain⟨D,h⟩:=I;have J:bytes x≠[]:=by
  rcases h with rfl|h
  ·decide
  ·rw[gB,gC]at h;exact fun e=>h.1 (cm e)
 cases M:bytes x with
 |nil=>exact absurd M J
 |cons a q=>(have D:(a::q).all fk=true:=by rw[<-M];exact D);rw[kC,gB]at D;(have O:a6 (a.toNat:Int)=true:=by unfold a6;rw[<-fv,D.1,gY]);(have N:Sp (a::q)=true:=by show(aW (a.toNat:Int)&&q.all fun c=>a6 (c.toNat:Int))=true;rw[<-fv,D.1,vx,qC];intro b hb;unfold a6;rw[<-fv,List.all_eq_true.1 D.2 b hb,gY]);exact⟨⟨fun e r hr=>⟨.num N hr.stop,trivial⟩,fun e=>rfl,⟨a,_,rfl⟩⟩,⟨a,_,rfl,Gv O⟩⟩
section
variable {d:Nat} (hE:∀n deep head,(aj d).expr n=true->Pc ((ac d).expr n deep head)/\PU n ((ac d).expr n deep head))
include hE
theorem tH{n:Nd}(yes:Bool)(deep:Nat)(head:Bool)(D:(aj d).expr n=true):Pc (aM (ac d) yes n deep head)/\(yes=true/\Hd (aM (ac d) yes n deep head)\/yes=false/\PU n (aM (ac d) yes n deep head)):=by
 unfold aM;cases yes with
 |true=>rw[gE rfl];have:=En (hE n deep false D).1;exact⟨this.1,.inl ⟨rfl,this.2⟩⟩
 |false=>rw[gA (by decide)];exact⟨(hE n deep head D).1,.inr ⟨rfl,(hE n deep head D).2⟩⟩
theorem PW{x:Nd}(deep:Nat)(D:f9 (aj d) x=true)(I:(aj d).expr x=true->16<=x.kind):Pc (dy (ac d) deep x):=by
 unfold f9 at D;rw[gH,gB,gC]at D;unfold dy;rcases D with D|⟨J,D⟩
 ·have:=I D;rw[gA (by omega)];exact(hE x deep false D).1
 ·have:=cR D;rw[gE (by omega),dY];exact(om d D).1
theorem um{n f:Nd}(deep:Nat)(head:Bool)(N:(aj d).expr f=true){z:List It}(M:Pc z)(I:∀r,lz (ls z++r)):Pc (aM (ac d) (dr f) f deep head++z)/\PU n (aM (ac d) (dr f) f deep head++z):=by
 obtain⟨O,J⟩:=tH hE (dr f) deep head N;refine⟨O.app M fun r _=>I r,?_⟩;rcases J with⟨_,J⟩|⟨D,b,q,e,b1,b2,U⟩
 ·exact(J.app z).e n
 ·unfold dr at D;rw[kZ,gK,gK]at D;exact⟨b,q++ls z,by rw[i8,e];rfl,b1,b2,fun _ h=>absurd (U D.2 h).1 D.1⟩
theorem SJ(hk:∀n,(aj d).expr n=true->16<=n.kind)(hB:∀n deep,(aj d).block n=true->Pc ((ac d).block n deep)){n:Nd}(deep:Nat)(head:Bool)(D:dc (aj d) n=true):Pc (mI (ac d) n deep head)/\PU n (mI (ac d) n deep head):=by
 have hF:(ac d).typ=af d:=funext dY;(have O:∀(o a:UInt8)(l:List Nd),yU o=true->(a=41\/a=93\/a=125)->l.all (f9 (aj d))=true->Pc (cX o::(cv ci (l.map (dy (ac d) deep))++[cX a])):=by intro o a l ho ha hl;refine CA ho ha (fun y hy=>?_) (fun _ _=>trivial) rfl fun r J=>stp_ne J;obtain⟨x,I,rfl⟩:=List.mem_map.1 hy;exact PW hE deep (List.all_eq_true.1 hl x I) (hk x));(have ga:∀l:List Nd,l.all (aj d).expr=true->l.all (f9 (aj d))=true:=by intro l hl;rw[qC]at hl |-;intro x I;unfold f9;rw[hl x I];rfl);unfold dc at D;unfold mI;split at D
 ·rename_i h;rw[gE h];obtain⟨x,l,a,rfl,I,M⟩:=aJ (by decide) D;have:=SI I;exact⟨this.1,this.2.e _⟩
 ·split at D
  ·rename_i M h;rw[gA M,gE h];obtain⟨x,l,a,rfl,I,_⟩:=aJ (by decide) D;exact⟨⟨fun e r J=>⟨.text (y:=(bytes x).flatMap cu) fun r=>by rw[BK,kR],trivial⟩,fun e=>rfl,⟨34,_,rfl⟩⟩,⟨34,_,rfl,by decide,by decide,fun _ h=>absurd h (by decide)⟩⟩
  ·split at D
   ·rename_i M h1 h;rw[gA M,gA h1,gE h];obtain⟨x,l,a,rfl,I,_⟩:=aJ (by decide) D;exact⟨Gw I,(rz I []).e _⟩
   ·split at D
    ·rename_i M h1 h2 h;rw[gA M,gA h1,gA h2,gE h];obtain⟨x,l,a,rfl,I,N⟩:=aJ (by decide) D;obtain⟨y,rfl,hy⟩:=ep N;show Pc (pb x::aM (ac d) (fa (Nd.mk 19 x [y] a) y) y deep head)/\PU _ (pb x::aM (ac d) (fa (Nd.mk 19 x [y] a) y) y deep head);obtain⟨p1,p2⟩:=tH hE (fa (Nd.mk 19 x [y] a) y) deep head hy;unfold ng at I;rw[gH,gC,gC]at I;have hb:∃b q,ls (aM (ac d) (fa (Nd.mk 19 x [y] a) y) y deep head)=b::q/\b≠61/\(x=(⟨#[45]⟩:BA)->b≠62/\b≠45):=by
      rcases p2 with⟨_,b,q,e,b1,b2,b3⟩|⟨J,b,q,e,b1,b2,b3⟩
      ·exact⟨b,q,e,b1,fun _=>⟨b2,b3⟩⟩
      ·refine⟨b,q,e,b1,fun hm=>⟨b2,fun gh=>?_⟩⟩;unfold fa at J;rw[kZ,gK]at J;obtain⟨k1,k2⟩:=b3 J.1 gh;have:=J.2;rw[k1,k2]at this;subst hm;exact absurd (show true=false from this) (by decide)
     obtain⟨b,q,eb,b1,b2⟩:=hb;rcases I with rfl|rfl
     ·refine⟨⟨fun e r J=>⟨?_,p1.ok _ r J⟩,fun e=>p1.fin _,⟨45,_,rfl⟩⟩,⟨45,_,rfl,by decide,by decide,fun _ _=>⟨rfl,rfl⟩⟩⟩;rw[eb];exact .one (a:=45) (NG b ⟨b1,(b2 rfl).1,(b2 rfl).2⟩) (by decide +kernel) fun h=>absurd h (by decide)
     ·refine⟨⟨fun e r J=>⟨?_,p1.ok _ r J⟩,fun e=>p1.fin _,⟨33,_,rfl⟩⟩,⟨33,_,rfl,by decide,by decide,fun _ h=>absurd h (by decide)⟩⟩;rw[eb];exact .one (a:=33) (SF b b1) (by decide +kernel) fun h=>absurd h (by decide)
    ·split at D
     ·rename_i M h1 h2 N h;rw[gA M,gA h1,gA h2,gA N,gE h];obtain⟨x,l,a,rfl,I,h4⟩:=aJ (by decide) D;obtain⟨y,z,rfl,hy,hz⟩:=li h4;obtain⟨p1,p2⟩:=tH hE (fb (Nd.mk 20 x [y,z] a) y) deep head hy;obtain⟨q1,q2⟩:=tH hE (eM (Nd.mk 20 x [y,z] a) z) deep head hz;have gb:PV (bytes x)=true:=ry I (fun y=>PV (bytes y)=true) (by decide +kernel);have J:Pc (pb x::bc::aM (ac d) (eM (Nd.mk 20 x [y,z] a) z) z deep head):=by
       refine⟨fun e r J=>⟨SH gb _,fH (q1.ok _ r J)⟩,fun e=>q1.fin _,?_⟩;rw[dB];show ∃b q,bytes x++_=b::q;cases hq:bytes x with
       |nil=>rw[hq]at gb;cases gb
       |cons b q=>exact⟨b,_,rfl⟩
      have ge:Pc (bc::pb x::bc::aM (ac d) (eM (Nd.mk 20 x [y,z] a) z) z deep head):=⟨fun e r h=>fH (J.ok e r h),fun e=>J.fin e,⟨32,_,rfl⟩⟩
      refine⟨p1.app ge fun r _=>lz.sp _,?_⟩;rcases p2 with⟨_,b,q,e,b1,b2,b3⟩|⟨_,b,q,e,b1,b2,b3⟩
      ·exact⟨b,_,by rw[i8];erw[e];rfl,b1,b2,fun h=>absurd rfl h⟩
      ·exact⟨b,_,by rw[i8];erw[e];rfl,b1,b2,fun h=>absurd rfl h⟩
     ·split at D
      ·rename_i M h1 h2 N h4 h;rw[gA M,gA h1,gA h2,gA N,gA h4,gE h];obtain⟨k,t,l,a⟩:=n;rw[gB,gB,gC,gC]at D;obtain⟨ht,hl,hA⟩:=D;cases l with
       |nil=>exact absurd hl (by show ¬ 0<0;omega)
       |cons f args=>have hA:((f::args).all (aj d).expr)=true:=hA;rw[kC,gB]at hA;exact um hE deep head hA.1 (O 40 41 args (by decide) (.inl rfl) (ga _ hA.2)) fun r=>lz.sg (a:=40) (by decide) _
      ·split at D
       ·rename_i M h1 h2 N h4 h5 h;rw[gA M,gA h1,gA h2,gA N,gA h4,gA h5,gE h];obtain⟨k,t,l,a⟩:=n;rw[gB,gB,gB,gC,gC]at D;obtain⟨ht,hl,hf,hA⟩:=D;cases l with
        |nil=>exact absurd hl (by show ¬ 1<0;omega)
        |cons f args=>exact um hE deep head hf (O 91 93 args (by decide) (.inr (.inl rfl)) hA) fun r=>lz.sg (a:=91) (by decide) _
       ·split at D
        ·rename_i M h1 h2 N h4 h5 h6 h;rw[gA M,gA h1,gA h2,gA N,gA h4,gA h5,gA h6,gE h];obtain⟨x,l,a,rfl,I,h7⟩:=aJ (by decide) D;obtain⟨f,rfl,hf⟩:=ep h7;refine um hE deep head hf (z:=[cX 46,iN x]) ⟨fun e r J=>⟨?_,yV I J trivial⟩,fun e=>rfl,⟨46,_,rfl⟩⟩ fun r=>⟨46,_,rfl,by decide +kernel⟩;have hw:=(sv I).1;cases hq:bytes x with
         |nil=>rw[hq]at hw;cases hw
         |cons b q=>rw[hq]at hw;unfold ny at hw;rw[gB]at hw;show lX (ls [iN x]++r) 6 [46];rw[show ls [iN x]++r=b::(q++r)by show(bytes x++[])++r=_;rw[kG,hq];rfl];exact .one (SG b (by unfold a6;rw[hw.1];rfl)) (by decide +kernel) fun h=>absurd h (by decide)
        ·split at D
         ·rename_i M h1 h2 N h4 h5 h6 h7 h;rw[gA M,gA h1,gA h2,gA N,gA h4,gA h5,gA h6,gA h7,gE h];obtain⟨k,t,l,a⟩:=n;rw[gB,gB,gB,gB,gC,gC,gC]at D;obtain⟨ht,hl,gi,hT,hA⟩:=D;cases l with
          |nil=>exact absurd hl (by show ¬ 0<0;omega)
          |cons T args=>
           have hT:(aj d).typ T=true:=hT;(have U:Pc (oJ (ac d) (.mk k t (T::args) a) deep)/\Hd (oJ (ac d) (.mk k t (T::args) a) deep):=by unfold oJ;rw[hF];obtain⟨t1,t2⟩:=om d hT;exact⟨t1.app (O 123 125 args (by decide) (.inr (.inr rfl)) (ga _ hA)) fun r _=>lz.sg (a:=123) (by decide) _,t2.app _⟩);split
           ·have:=En U.1;exact⟨this.1,this.2.e _⟩
           ·exact⟨U.1,U.2.e _⟩
         ·rename_i M h1 h2 N h4 h5 h6 h7 h8;rw[gA M,gA h1,gA h2,gA N,gA h4,gA h5,gA h6,gA h7,gA h8];obtain⟨l,a,rfl,h9⟩:=ch D;obtain⟨sg,b,rfl,gd,hb⟩:=li h9;rw[hF];have hs:=CC (.inl rfl) (fun n h=>(om d h).1) gd;have hb:=hB b deep hb;have gg:Pc (bc::(ac d).block b deep):=⟨fun e r h=>fH (hb.ok e r h),fun e=>hb.fin e,⟨32,_,rfl⟩⟩
          (have:=Gx (hs.app gg fun r _=>lz.sp _) fun r=>by rw[i8,gL];exact FG _ _ _);exact⟨this.1,this.2.e _⟩
end
theorem CD:∀(k:Nat)(e:Bool)(r:List UInt8),bB e (nI k) r/\lR e (nI k)=e
 |0,_,_=>⟨trivial,rfl⟩
 |k+1,e,r=>⟨⟨.inr (.inl rfl),(CD k e r).1⟩,(CD k e r).2⟩
theorem CE(q:List UInt8):lz (10::q):=⟨10,q,rfl,by decide +kernel⟩
theorem Gy{f:Nd->List It}(k:Nat):∀(l:List Nd),(∀x∈l,Pc (f x))->∀r,bB false (l.flatMap fun x=>nI k++(f x++[.nl])) r/\lR false (l.flatMap fun x=>nI k++(f x++[.nl]))=false
 |[],_,_=>⟨trivial,rfl⟩
 |x::l,h,r=>by
  have I:=h x (by simp);have ih:=Gy k l (fun y hy=>h y (by simp[hy])) r;have D:∀r,bB false (nI k++(f x++[.nl])) r/\lR false (nI k++(f x++[.nl]))=false:=by
   intro r;refine⟨bB.app (CD _ _ _).1 (bB.app (I.ok _ _ (CE _)) ?_),?_⟩
   ·rw[I.fin];exact⟨rfl,trivial⟩
   ·rw[dC,dC];rfl
  rw[jA];refine⟨bB.app (D _).1 ?_,?_⟩
  ·rw[(D r).2];exact ih.1
  ·rw[dC,(D r).2,ih.2]
theorem tI:pC 6 [123]=false:=by decide +kernel
theorem NI{F:uR}{n:Nd}(deep:Nat)(h:∀x∈n.kids,Pc (F.stmt x (deep+1) false)):Pc (og F n deep):=by
 unfold og;have hb:=Gy (f:=fun x=>F.stmt x (deep+1) false) (deep+1) n.kids h;refine⟨fun e r hr=>nE (by decide) (by rw[dB];show(10::_)++r≠[];simp) ⟨.inr (.inr ⟨rfl,tI⟩),?_⟩,fun e=>?_,⟨123,_,rfl⟩⟩
 ·rw[tI];refine bB.app (hb _).1 (bB.app (CD _ _ _).1 (nE (by decide) (stp_ne hr) trivial))
 ·show lR (pC 6 [123]) (_++(nI deep++[cX 125]))=true;rw[dC,dC];exact yW (.inr (.inr rfl))
theorem BL{l:List It}(h:Pc l):Pc (bc::l):=⟨fun e r hr=>fH (h.ok e r hr),fun e=>h.fin e,⟨32,_,rfl⟩⟩
theorem oO{x:ByteArray}(D:ny (bytes x)=true/\bZ (d8 (bytes x))=1){l:List It}(h:Pc l):Pc (iy x::bc::l):=by
 refine⟨fun e r hr=>BJ D (lz.sp _) (fH (h.ok _ r hr)),fun e=>h.fin _,?_⟩;rw[dB];show ∃b q,bytes x++_=b::q;cases I:bytes x with
 |nil=>rw[I]at D;cases D.1
 |cons b q=>exact⟨b,_,rfl⟩
theorem FH(r:List UInt8):lX (32::r) 6 [61]:=.one (by decide +kernel) (by decide +kernel) fun h=>absurd h (by decide)
theorem Gz(r:List UInt8):lX r 6 (bytes ⟨#[58,61]⟩):=lX.two (a:=58) (b:=61) (by decide +kernel) (by decide +kernel) (by decide)
theorem Pc.opt{l z:List It}(D:Pc l){p:Prop}[Decidable p](I:¬ p->Pc z):Pc (l++(if p then[]else bc::z)):=by
 split
 ·rw[kG];exact D
 ·rename_i h;exact D.app (BL (I h)) fun r _=>lz.sp _
section
variable {d:Nat} (hE:∀n deep head,(aj d).expr n=true->Pc ((ac d).expr n deep head)/\PU n ((ac d).expr n deep head))
include hE
theorem NJ{n:Nd}(deep:Nat)(J:oU (aj d) n=true):Pc (pc (ac d) n deep):=by
 unfold oU at J;rw[gB]at J;obtain⟨x,l,a,rfl,M,N⟩:=aJ (by decide) J.1;obtain⟨t,v,rfl,I,D⟩:=li N;unfold dv at I D;rw[gH]at I D;show Pc (iy ⟨#[118,97,114]⟩::bc::([iN x]++((if t.kind=0 then[]else bc::(ac d).typ t)++(if v.kind=0 then[]else bc::cX 61::bc::(ac d).expr v deep false))));rw[<-gL];refine oO ⟨by decide +kernel,by decide +kernel⟩ (Pc.opt (Pc.opt (Gw M) fun h=>?_) fun h=>?_)
 ·rw[dY];rcases I with I|I
  ·obtain⟨a',rfl⟩:=bP I;exact absurd rfl h
  ·exact(om d I).1
 ·rcases D with D|D
  ·obtain⟨a',rfl⟩:=bP D;exact absurd rfl h
  ·have:=(hE v deep false D).1;exact⟨fun e r hr=>⟨FH _,fH (this.ok _ r hr)⟩,fun e=>this.fin _,⟨61,_,rfl⟩⟩
theorem yX{n:Nd}(deep:Nat)(head:Bool)(D:dK (aj d) n=true):Pc (cr (ac d) n deep head):=by
 unfold dK at D;rw[gH,gH,gH]at D;rcases D with D|D|D|D
 ·obtain⟨x,l,a,rfl,J,M⟩:=aJ (by decide) D;obtain⟨v,rfl,N⟩:=ep M;unfold ev at J;rw[gB]at J;have:=(hE v deep head N).1;show Pc (iN x::bc::pb ⟨#[58,61]⟩::bc::(ac d).expr v deep head);exact pm J.1 ⟨fun e r hr=>⟨Gz _,fH (this.ok _ r hr)⟩,fun e=>this.fin _,⟨58,_,rfl⟩⟩
 ·obtain⟨l,a,rfl,M⟩:=ch D;obtain⟨y,v,rfl,I,N⟩:=li M;have:=(hE v deep head N).1;show Pc ((ac d).expr y deep head++(bc::cX 61::bc::(ac d).expr v deep head));exact(hE y deep head I).1.app ⟨fun e r hr=>fH ⟨FH _,fH (this.ok _ r hr)⟩,fun e=>this.fin _,⟨32,_,rfl⟩⟩ fun r _=>lz.sp _
 ·obtain⟨x,l,a,rfl,J,M⟩:=aJ (by decide) D;obtain⟨y,rfl,I⟩:=ep M;unfold pu at J;rw[gH,gC,gC]at J;show Pc ((ac d).expr y deep head++[pb x]);rcases J with rfl|rfl
  ·exact(hE y deep head I).1.app ⟨fun e r hr=>⟨.two (a:=43) (b:=43) (by decide +kernel) (by decide +kernel) (by decide),trivial⟩,fun e=>by show pC 6 (bytes ⟨#[43,43]⟩)=true;decide +kernel,⟨43,_,rfl⟩⟩ fun r _=>⟨43,_,rfl,by decide +kernel⟩
  ·exact(hE y deep head I).1.app ⟨fun e r hr=>⟨.two (a:=45) (b:=45) (by decide +kernel) (by decide +kernel) (by decide),trivial⟩,fun e=>by show pC 6 (bytes ⟨#[45,45]⟩)=true;decide +kernel,⟨45,_,rfl⟩⟩ fun r _=>⟨45,_,rfl,by decide +kernel⟩
 ·obtain⟨l,a,rfl,M⟩:=ch D;obtain⟨y,rfl,I⟩:=ep M;unfold oA at I;rw[gB]at I;exact(hE y deep head I.2).1
end
end
end Go.Proofs.YtiebcdeafofgdaaGreatDoor
