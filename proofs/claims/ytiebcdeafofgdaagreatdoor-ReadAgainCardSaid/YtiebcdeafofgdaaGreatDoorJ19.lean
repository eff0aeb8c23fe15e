/-
  Parts of the proof: Ppt Ppe Ppf Ppg Pph. By an AI agent.
-/
import Derived.Test.YtiebcdeafofgdaaGreatDoorJ18
import Derived.Test.YtiebcdeafofgdaaGreatDoorJ17
namespace Go.Proofs.YtiebcdeafofgdaaGreatDoor
section
theorem fu(a:Int):cA bU (.mk 0 ⟨#[]⟩ [] a):=cA.mk bm.nil _ _
theorem iA{d:Nat}{n:Nd}(h:(aj d).typ n=true):∃t l,aF (af d n)=t::l/\dJ t=true:=by
 have D:=cR h;cases d with
 |zero=>cases h
 |succ d=>
  unfold af;rcases D with D|D|D
  ·rw[gA (by rw[D];decide),gA (by rw[D];decide),gA (by rw[D];decide)];exact⟨_,_,rfl,rfl⟩
  ·rw[gE D];exact⟨_,_,rfl,by decide⟩
  ·rw[gA (by rw[D];decide),gE D];exact⟨_,_,rfl,by decide⟩
theorem rx{d:Nat}{n:Nd}(h:(aj d).typ n=true):∃t l,aF (af d n)=t::l/\(t.1=1\/t=(2,(⟨#[102,117,110,99]⟩:BA))\/(t=(6,(⟨#[91]⟩:BA))/\∃q,l=(6,(⟨#[93]⟩:BA))::q)):=by
 have D:=cR h;cases d with
 |zero=>cases h
 |succ d=>
  unfold af;rcases D with D|D|D
  ·rw[gA (by rw[D];decide),gA (by rw[D];decide),gA (by rw[D];decide)];exact⟨_,_,rfl,.inl rfl⟩
  ·rw[gE D];exact⟨_,_,rfl,.inr (.inr ⟨rfl,_,rfl⟩)⟩
  ·rw[gA (by rw[D];decide),gE D];exact⟨_,_,rfl,.inr (.inl rfl)⟩
theorem cT(x:ByteArray):d8 (bytes x)=x:=cm (bO _)
theorem RM(x:ByteArray):aF [iN x]=[(1,x)]:=by show[((1:Int),d8 (bytes x))]=_;rw[cT]
theorem lj(x:ByteArray)(l:List It):aF (iN x::l)=(1,x)::aF l:=by show((1:Int),d8 (bytes x))::aF l=_;rw[cT]
theorem ud(x:ByteArray)(l:List It):aF (pb x::l)=(6,x)::aF l:=by show((6:Int),d8 (bytes x))::aF l=_;rw[cT]
def Fu(c:Cx)(k G:Nat)(s:St):Prop:=3*(c.toks.length-s.at_)+k<=G
theorem Fu.le{c:Cx}{k G:Nat}{s s':St}(h:Fu c k G s)(hs:s.at_<=s'.at_):Fu c k G s':=by unfold Fu at *;omega
def Fo(c:Cx)(G:Nat)(d:Nat):Prop:=∀n,(aj d).typ n=true->∀s r,At c s (aF (af d n)++r)->dJ (et r)=false->Fu c 1 G s->oL c s r n s.part ((cF G).typ c s)
section
variable {c:Cx} {d:Nat}
theorem oM:∀G,(cF G).g=G
 |0=>rfl
 |_+1=>rfl
theorem M3{s:St}{l:List TK}(h:At c s l)(hb:dJ (et l)=false):pD c s=false:=by unfold dJ at hb;simp only[kZ]at hb;obtain⟨M,-,-,J,I,D,-,-⟩:=hb;unfold pD;rw[h.is,h.is,h.is,h.kind,M,J,I,D];rfl
theorem IJ{s:St}{l:List TK}(h:At c s l)(I:(et l).1=1\/cO (et l) ⟨#[102,117,110,99]⟩=true\/cO (et l) ⟨#[91]⟩=true):pD c s=true:=by
 unfold pD;rw[h.is,h.is,h.is,h.kind];rcases I with D|D|D
 ·rw[D];rfl
 ·rw[D];simp
 ·rw[D];simp
theorem Fp{G:Nat}(hT:Fo c G d){res:Nd}(D:aE res=true\/(aj d).typ res=true){s:St}{r:List TK}(h:At c s (aF (if res.kind=0 then[]else bc::af d res)++r))(hb:dJ (et r)=false)(J:Fu c 1 G s):
  oL c s r res s.part (dg (cF G) c s):=by
 rcases D with D|D
 ·obtain⟨a,rfl⟩:=bP D;have h:At c s r:=h;unfold dg;rw[gA (by rw[M3 h hb];decide)];exact⟨bU,s,rfl,fu a,h,rfl,rfl⟩
 ·have M:=cR D;rw[gA (by omega)]at h;have h:At c s (aF (af d res)++r):=h;unfold dg;rw[gE]
  ·exact hT res D s r h hb J
  ·refine IJ h ?_;obtain⟨t,l,e,I⟩:=rx D;rw[e];rcases I with I|rfl|⟨rfl,-⟩
   ·exact .inl I
   ·exact .inr (.inl (show cO (2,(⟨#[102,117,110,99]⟩:BA)) ⟨#[102,117,110,99]⟩=true by decide))
   ·exact .inr (.inr (show cO (6,(⟨#[91]⟩:BA)) ⟨#[91]⟩=true by decide))
theorem Gg:dJ dU=false:=by decide +kernel
theorem Gh:dJ (6,(⟨#[41]⟩:BA))=false:=by decide +kernel
theorem Ck:dJ (6,(⟨#[93]⟩:BA))=false:=by decide +kernel
theorem Cl{r:List TK}{en:ByteArray}(h:et r=dU\/et r=(6,en))(D:dJ (6,en)=false):dJ (et r)=false:=by
 rcases h with h|h<;>rw[h]
 ·exact Gg
 ·exact D
theorem wn(f:Nd->List It)(ps:List Nd)(a1:Int)(res:Nd)(a:Int)(r:List TK):aF (ez f (.mk 12 ⟨#[]⟩ [.mk 6 ⟨#[]⟩ ps a1,res] a))++r=(6,(⟨#[40]⟩:BA))::(eO dU (ps.map fun x=>aF (dR x.text++f (aV x 0)))++((6,(⟨#[41]⟩:BA))::(aF (if res.kind=0 then[]else bc::f res)++r))):=by show aF (cX 40::(cv ci (ps.map fun p=>dR p.text++f (aV p 0))++(cX 41::(if res.kind=0 then[]else bc::f res))))++r=_;rw[mc,aZ,rv,mc,ql,gV,gL,gV];rfl
theorem Bx(x:List TK)(L:List (List TK))(r:List TK):∃r',eO dU (x::L)++r=x++r'/\(r'=r\/∃q,r'=dU::q):=by
 cases L with
 |nil=>exact⟨r,rfl,.inl rfl⟩
 |cons y L=>exact⟨_,by rw[eO,gL];rfl,.inr ⟨_,rfl⟩⟩
theorem Cm{G:Nat}(hT:Fo c G d){so:ByteArray->Bool}{part:R Nd}{ps:List Nd}{a1 a:Int}{res:Nd}(ga:ps.all (lG (aj d) so)=true)(M:aE res=true\/(aj d).typ res=true)
  (D:∀x t a,so t=true->(aj d).typ x=true->∀s r,At c s (aF (dR t++af d x)++r)->Fu c 1 G s->dJ (et r)=false->(aF (dR t++af d x)≠[]/\dJ (et (aF (dR t++af d x)))=true)/\oL c s r (.mk 8 t [x] a) s.part (part c s))
  (N:∀x t,so t=true->(aj d).typ x=true->aF (dR t++af d x)≠[]/\dJ (et (aF (dR t++af d x)))=true)
  {s:St}{r:List TK}(p:Int)(h:At c s (aF (ez (af d) (.mk 12 ⟨#[]⟩ [.mk 6 ⟨#[]⟩ ps a1,res] a))++r))(hb:dJ (et r)=false)(hf:Fu c 1 G s):
  oL c s r (.mk 12 ⟨#[]⟩ [.mk 6 ⟨#[]⟩ ps a1,res] a) s.part ((need ⟨#[40]⟩ c s).bind fun _ s1=>(aX part ⟨#[41]⟩ (cF G).g [] c s1).bind fun l U=>(dg (cF G) c U).bind fun q O=>.ok (.mk 12 ⟨#[]⟩ [.mk 6 ⟨#[]⟩ l (av c s),q] p) O):=by
 rw[wn,<-tw (fun x=>aF (dR x.text++af d (aV x 0))) ps]at h;rw[fl h ⟨#[40]⟩ (by decide),bH.bind_ok,oM];have J:=Cj (c:=c) (part:=part) (en:=(⟨#[41]⟩:BA)) (P:=fun s _=>Fu c 1 G s) (by decide) (by decide) s.part (fun s l hP s' l' _ hle _ _=>hP.le hle) (ps.map fun x=>(aF (dR x.text++af d (aV x 0)),x)) G (adv s) _ h.adv rfl (by unfold Fu at hf;show c.toks.length-(s.at_+1)<G;have:=h.len;simp at this;omega) (hf.le (jE _)) (by
  intro x hx;obtain⟨y,hy,rfl⟩:=List.mem_map.1 hx;obtain⟨t,l,a2,rfl,I,ht⟩:=aJ (by decide) (List.all_eq_true.1 ga y hy);obtain⟨z,rfl,hz⟩:=ep ht;obtain⟨b1,b2⟩:=N z t I hz;refine⟨bS b2 _ (by decide) (by decide) (by decide) (by decide) (by decide),b1,fun s r hs hF hp hr=>?_⟩;have:=(D z t a2 I hz s r hs hF (Cl hr Gh)).2
  rwa [hp]at this)
 obtain⟨l',U,f1,f2,f3,f4,f5⟩:=J;rw[f1,bH.bind_ok];have gb:Fu c 1 G U:=hf.le (by have h1:=h.len;have h2:=f3.len;simp at h1 h2;omega);obtain⟨q,O,g1,g2,g3,g4,g5⟩:=Fp hT M f3 hb gb;rw[g1,bH.bind_ok];rw[nX]at f2;exact⟨_,O,rfl,cA.mk (bm.cons (cA.mk f2 _ _) (bm.one g2)) _ _,g3,g4.trans f4,g5.trans f5⟩
theorem yG:∀x t,fK t=true->(aj d).typ x=true->aF (dR t++af d x)≠[]/\dJ (et (aF (dR t++af d x)))=true:=by intro x t ht hx;unfold fK at ht;rw[gC]at ht;subst ht;obtain⟨u,q,e,D⟩:=iA hx;show aF (af d x)≠[]/\dJ (et (aF (af d x)))=true;rw[e];exact⟨by simp,D⟩
theorem tA{G:Nat}(hT:Fo c G d){ps:List Nd}{a1 a:Int}{res:Nd}(I:ps.all (lG (aj d) fK)=true)(D:aE res=true\/(aj d).typ res=true)
  {s:St}{r:List TK}(p:Int)(h:At c s (aF (ez (af d) (.mk 12 ⟨#[]⟩ [.mk 6 ⟨#[]⟩ ps a1,res] a))++r))(hb:dJ (et r)=false)(N:Fu c 1 G s):
  oL c s r (.mk 12 ⟨#[]⟩ [.mk 6 ⟨#[]⟩ ps a1,res] a) s.part (dD (cF G) p c s):=by refine Cm (part:=lB (cF G)) hT I D (fun x t a ht hx s2 r2 J hf2 hb2=>⟨yG x t ht hx,?_⟩) yG p h hb N;unfold fK at ht;rw[gC]at ht;subst ht;have J:At c s2 (aF (af d x)++r2):=J;obtain⟨n',M,f1,f2,f3,U,O⟩:=hT x hx s2 r2 J hb2 hf2;unfold lB;rw[f1,bH.bind_ok];exact⟨_,M,rfl,cA.mk (bm.one f2) _ _,f3,U,O⟩
theorem yH{x:ByteArray}(D:aO x=true)(l:List It):aF (dR x++l)=(1,x)::aF l:=by unfold dR;rw[gA (fun h=>by rw[h]at D;exact absurd D (by decide +kernel)),aZ];show aF (iN x::[bc])++aF l=_;rw[lj];rfl
theorem D7{G:Nat}(hT:Fo c G d){ps:List Nd}{a1 a:Int}{res:Nd}(M:ps.all (lG (aj d) aO)=true)(I:aE res=true\/(aj d).typ res=true)
  {s:St}{r:List TK}(p:Int)(h:At c s (aF (ez (af d) (.mk 12 ⟨#[]⟩ [.mk 6 ⟨#[]⟩ ps a1,res] a))++r))(hb:dJ (et r)=false)(U:Fu c 1 G s):
  oL c s r (.mk 12 ⟨#[]⟩ [.mk 6 ⟨#[]⟩ ps a1,res] a) s.part (oR (cF G) p c s):=by(have D:∀x t,aO t=true->(aj d).typ x=true->aF (dR t++af d x)≠[]/\dJ (et (aF (dR t++af d x)))=true:=by intro x t ht _;rw[yH ht];exact⟨by simp,rfl⟩);refine Cm (part:=eG (cF G)) hT M I (fun x t a ht hx s2 r2 J N hb2=>⟨D x t ht hx,?_⟩) D p h hb U;rw[yH ht]at J;have J:At c s2 ((1,t)::(aF (af d x)++r2)):=J;obtain⟨n',O,f1,f2,f3,f4,f5⟩:=hT x hx (adv s2) r2 J.adv hb2 (N.le (jE _));unfold eG;rw[mr J,bH.bind_ok,f1,bH.bind_ok];exact⟨_,O,rfl,cA.mk (bm.one f2) _ _,f3,f4,f5⟩
end
theorem iB{c:Cx}:∀(d G:Nat),Fo c G d
 |0,_=>fun n h=>by cases h
 |d+1,G=>by
  intro n D s r h hb hf;obtain⟨G',rfl⟩:∃G',G=G'+1:=⟨G-1,by unfold Fu at hf;omega⟩;have hT:=iB (c:=c) d G';have D:l5 (aj d) n=true:=D;show oL c s r n s.part (wG (cF G') c s);unfold af at h;unfold l5 at D;unfold wG;split at D
  ·rename_i M;rw[gA (by rw[M];decide),gA (by rw[M];decide),gA (by rw[M];decide)]at h;obtain⟨k,x,l,a⟩:=n;have M:k=10:=M;subst M;rw[gB]at D;obtain⟨hx,N⟩:=D;have N:l.all (aj d).typ=true:=N;have h:At c s (aF (iN x::nu (af d) l)++r):=h;rw[lj,gV]at h;(have hi:∀y,aP c s y=false:=fun y=>by rw[h.is];exact nA (.inl rfl) y);rw[gA (by rw[hi];decide),gA (by rw[hi];decide),gA (by rw[hi];decide),mr h,bH.bind_ok];have J:=h.adv;unfold nu at J;cases I:l with
   |nil=>rw[I,gE rfl]at J;have J:At c (adv s) r:=J;unfold dJ at hb;simp only[kZ]at hb;rw[gA (by rw[J.is,hb.2.2.2.2.2.1];simp)];exact⟨_,_,rfl,cA.mk bm.nil _ _,J,rfl,rfl⟩
   |cons y l'=>
    rw[gA (by rw[I];simp)]at J;rw[<-I];(have e:aF (cX 91::(cv ci (l.map (af d))++[cX 93]))++r=(6,(⟨#[91]⟩:BA))::(eO dU ((l.map fun x=>(aF (af d x),x)).map (·.1))++((6,(⟨#[93]⟩:BA))::r)):=by rw[mc,aZ,rv,tw,ql,gV,gL];rfl);rw[e]at J;have gb:dp c (adv s)=false:=by
     rw[J.slice];have hy:∃t q,aF (af d y)=t::q/\dJ t=true:=iA (List.all_eq_true.1 N y (by rw[I];simp));obtain⟨t,q,e1,ht⟩:=hy;have e2:∃q',(eO dU ((l.map fun x=>(aF (af d x),x)).map (·.1))++((6,(⟨#[93]⟩:BA))::r))=t::q':=by
      rw[I];cases l' with
      |nil=>exact⟨_,by rw[jW,jW];show aF (af d y)++_=_;rw[e1];rfl⟩
      |cons z l'=>exact⟨_,by rw[jW,jW,jW,jW];show(aF (af d y)++_)++_=_;rw[e1];rfl⟩
     obtain⟨q',e2⟩:=e2;rw[e2];show(true&&(t.1==6&&decide (t.2=(⟨#[93]⟩:BA))))=false;have:=bS ht ⟨#[93]⟩ (by decide) (by decide) (by decide) (by decide) (by decide);unfold cO at this;cases h6:t.1==6 with
     |false=>rfl
     |true=>rw[h6]at this;simpa using this
    rw[gE (by rw[J.is,gb];rfl),oM];have U:=Cj (c:=c) (part:=(cF G').typ) (en:=(⟨#[93]⟩:BA)) (P:=fun s _=>Fu c 1 G' s) (by decide) (by decide) s.part (fun s l hP s' l' _ hle _ _=>hP.le hle) (l.map fun x=>(aF (af d x),x)) G' (adv (adv s)) _ J.adv rfl (by unfold Fu at hf;show c.toks.length-(s.at_+1+1)<G';have:=J.len;simp at this;have:(adv s).at_=s.at_+1:=rfl;omega) (by unfold Fu at hf |-;show 3*(c.toks.length-(s.at_+1+1))+1<=G';have:=J.len;simp at this;have:(adv s).at_=s.at_+1:=rfl;omega) (by
     intro x hx;obtain⟨z,hz,rfl⟩:=List.mem_map.1 hx;have O:=List.all_eq_true.1 N z hz;obtain⟨t,q,e1,ht⟩:=iA O;refine⟨by show cO (et (aF (af d z))) ⟨#[93]⟩=false;rw[e1];exact bS ht _ (by decide) (by decide) (by decide) (by decide) (by decide),by show aF (af d z)≠[];rw[e1];simp,fun s2 r2 hs hF hp hr=>?_⟩;have:=hT z O s2 r2 hs (Cl hr Ck) hF
     rwa [hp]at this)
    obtain⟨l2,s2,f1,f2,f3,f4,f5⟩:=U;rw[f1,bH.bind_ok,gA]
    ·rw[nX]at f2;exact⟨_,s2,rfl,cA.mk f2 _ _,f3,f4,f5⟩
    ·have:=f2.len;rw[I]at this;simp at this;omega
  ·split at D
   ·rename_i ge M;rw[gE M]at h;obtain⟨l,a,rfl,D⟩:=ch D;obtain⟨x,rfl,hx⟩:=ep D;have h:At c s ((6,(⟨#[91]⟩:BA))::(6,(⟨#[93]⟩:BA))::(aF (af d x)++r)):=h;rw[gA (h.no (by decide)),gE (h.yes (by decide)),fl h.adv ⟨#[93]⟩ (by decide),bH.bind_ok];have N:=h.len;obtain⟨n',s1,f1,f2,f3,f4,f5⟩:=hT x hx _ r h.adv.adv hb (by unfold Fu at hf |-;simp at N;show 3*(c.toks.length-(s.at_+1+1))+1<=G';omega);rw[f1,bH.bind_ok];exact⟨_,s1,rfl,cA.mk (bm.one f2) _ _,f3,f4,f5⟩
   ·split at D
    ·rename_i ge hk1 M;rw[gA hk1,gE M]at h;obtain⟨ps,a1,res,a,rfl,gd,ga⟩:=sc D;have h:At c s ((2,(⟨#[102,117,110,99]⟩:BA))::(aF (ez (af d) (.mk 12 ⟨#[]⟩ [.mk 6 ⟨#[]⟩ ps a1,res] a))++r)):=h;rw[gA (h.no (by decide)),gA (h.no (by decide)),gE (h.yes (by decide))];have N:=h.len;exact tA hT gd ga (av c s) h.adv hb (by unfold Fu at hf |-;simp at N;show 3*(c.toks.length-(s.at_+1))+1<=G';omega)
    ·cases D
def uS(head:Bool)(t:TK):Bool:=cO t ⟨#[40]⟩||(cO t ⟨#[91]⟩||(cO t ⟨#[46]⟩||(cO t ⟨#[123]⟩ && !head)))
def CN(k:Nat)(t:TK):Bool:=t.1==6&&(EA k).any fun x=>decide (t.2=x)
def iY(head:Bool)(t:TK):Prop:=uS head t=false/\∀j,1<=j->j<=5->CN j t=false
theorem lP{head:Bool}{t:TK}(h:uS head t=false)(N:CN 1 t=false)(M:CN 2 t=false)(J:CN 3 t=false)(I:CN 4 t=false)(D:CN 5 t=false):iY head t:=by
 refine⟨h,fun j a b=>?_⟩;obtain rfl|rfl|rfl|rfl|rfl:j=1\/j=2\/j=3\/j=4\/j=5:=by omega
 ·exact N
 ·exact M
 ·exact J
 ·exact I
 ·exact D
def sm(m:Bool)(s:St):Prop:=s.part<=(s.at_:Int)/\(m=true->s.part=(s.at_:Int))
section
variable (c:Cx)
def uT(m:Bool)(l:List TK)(Q:Nd->Bool->Prop)(head:Bool):Prop:=∀G s r g,At c s (l++r)->s.head=head->sm m s->Fu c 1 G s->c.toks.length-s.at_<g ->
 ∃x0 b0 s0 n' b' s' g',cx (cF G) c s=.ok (x0,b0) s0/\aI (cF G) g x0 b0 c s0=aI (cF G) g' n' b' c s'/\Q n' b'/\At c s' r/\s'.head=head/\s'.part = -1/\c.toks.length-s'.at_<g'
def Sq(m:Bool)(l:List TK)(Q:Nd->Prop)(head:Bool):Prop:=∀G s r,At c s (l++r)->s.head=head->sm m s->Fu c 1 G s->uS head (et r)=false->yE c s r Q (-1) (iG (cF G) c s)
def Lg(k:Nat)(m:Bool)(l:List TK)(Q:Nd->Prop)(head:Bool):Prop:=∀G s r,At c s (l++r)->s.head=head->sm m s->Fu c 1 G s->uS head (et r)=false->(∀j,1<=j->j<=k->CN j (et r)=false)->yE c s r Q (-1) (i9 (cF G) k c s)
def Sr(k:Nat)(m:Bool)(l:List TK)(Q:Nd->Prop)(head:Bool):Prop:=∀G s r g,At c s (l++r)->s.head=head->sm m s->Fu c 1 G s->uS head (et r)=false->(∀j,1<=j->j<=k->CN j (et r)=false)->c.toks.length-s.at_<g ->
 ∃x0 s0 n' s' g',i9 (cF G) k c s=.ok x0 s0/\lV (k+1) (i9 (cF G) k) g x0 c s0=lV (k+1) (i9 (cF G) k) g' n' c s'/\Q n'/\At c s' r/\s'.head=head/\s'.part = -1/\c.toks.length-s'.at_<g'
def Co(m:Bool)(l:List TK)(Q:Nd->Prop)(head:Bool):Prop:=∀G s r,At c s (l++r)->s.head=head->sm m s->Fu c 2 G s->iY head (et r)->yE c s r Q (-1) ((cF G).expr c s)
end
section
variable {c:Cx} {m:Bool} {l:List TK} {Q:Nd->Prop} {head:Bool}
theorem Ft{s:St}{l:List TK}(h:At c s l)(k:Nat):RB k (ar c s.at_)=CN k (et l):=by unfold RB CN;rw[h.kind,h.text]
theorem fT{s s':St}{a b:List TK}(h:At c s (a++b))(h':At c s' b):s.at_+a.length=s'.at_:=by have D:=h.len;have I:=h'.len;rw[gJ]at D;omega
theorem p9{G g:Nat}{n:Nd}{b:Bool}{s:St}{r:List TK}(h:At c s r)(hs:uS s.head (et r)=false):aI (cF G) (g+1) n b c s=.ok n s:=by
 unfold uS at hs;simp only[kZ]at hs;obtain⟨N,M,J,D⟩:=hs;unfold aI;rw[gA (by rw[h.is,N];decide),gA (by rw[h.is,M];decide),gA (by rw[h.is,J];decide),gA];rw[h.is];cases I:cO (et r) ⟨#[123]⟩with
 |false=>simp
 |true=>rw[I]at D;simp at D;simp[D]
theorem sn(h:uT c m l (fun n _=>Q n) head)(hb:cO (et l) ⟨#[45]⟩=false/\cO (et l) ⟨#[33]⟩=false)(M:l≠[]):Sq c m l Q head:=by intro G s r D hh hp hf hg;(have hd:et (l++r)=et l:=by cases l with|nil=>exact absurd rfl M|cons t q=>rfl);unfold iG;rw[gA (by rw[D.is,D.is,hd,hb.1,hb.2];decide)];unfold fE;obtain⟨x0,b0,s0,n',b',s',g',e1,U,O,J,I,N,h7⟩:=h G s r G D hh hp hf (by unfold Fu at hf;omega);rw[e1,bH.bind_ok,oM,U];obtain⟨g,rfl⟩:∃g,g'=g+1:=⟨g'-1,by omega⟩;rw[p9 J (by rw[I];exact hg)];exact⟨n',s',rfl,O,J,I.trans hh.symm,N⟩
theorem il(h:Sq c m l Q head):Lg c 0 m l Q head:=fun G s r ha hh hp hf hg _=>h G s r ha hh hp hf hg
theorem pg{k:Nat}(h:Lg c k m l Q head):Sr c k m l Q head:=by intro G s r g ha hh hp hf hg ho hb;obtain⟨n',s',e,M,D,J,I⟩:=h G s r ha hh hp hf hg ho;exact⟨n',s',n',s',g,e,rfl,M,D,J.trans hh,I,by have:=fT ha D;omega⟩
theorem ph{k:Nat}(h:Sr c k m l Q head):Lg c (k+1) m l Q head:=by intro G s r ha hh hp hf hg D;obtain⟨x0,s0,n',s',g',U,O,N,I,M,J,h7⟩:=h G s r G ha hh hp hf hg (fun j a b=>D j a (by omega)) (by unfold Fu at hf;omega);unfold i9;rw[U,bH.bind_ok,oM,O];obtain⟨g,rfl⟩:∃g,g'=g+1:=⟨g'-1,by omega⟩;unfold lV;rw[gA (by rw[Ft I,D (k+1) (by omega) (d5 _)];decide)];exact⟨n',s',rfl,N,I,M.trans hh.symm,J⟩
theorem yI{k:Nat}(h:Lg c k m l Q head):∀j,Lg c (k+j) m l Q head
 |0=>h
 |j+1=>ph (pg (yI h j))
theorem sq(h:Lg c 5 m l Q head):Co c m l Q head:=by intro G s r ha hh hp hf hg;obtain⟨G',rfl⟩:∃G',G=G'+1:=⟨G-1,by unfold Fu at hf;omega⟩;exact h G' s r ha hh hp (by unfold Fu at hf |-;omega) hg.1 hg.2
theorem sm.no{s:St}(h:s.part = -1):sm false s:=⟨by rw[h];omega,fun h=>by cases h⟩
theorem sm.adv{s:St}(h:sm m s):sm false (adv s):=⟨by have:=h.1;show s.part<=((s.at_+1:Nat):Int);omega,fun h=>by cases h⟩
theorem Fu.adv{k G:Nat}{s:St}{t:TK}{q:List TK}(D:At c s (t::q))(I:Fu c k G s):3<=G/\Fu c k (G-3) (adv s):=by have:=D.len;unfold Fu at *;simp at this;have e:(Go.Proofs.YtiebcdeafofgdaaGreatDoor.adv s).at_=s.at_+1:=rfl;constructor<;>omega
theorem Fu.more{k k' G G':Nat}{s:St}(h:Fu c k G s)(D:k'+G<=k+G'):Fu c k' G' s:=by unfold Fu at *;omega
theorem M4{x:ByteArray}{n0:Nd}(a:Int)(I:x=(⟨#[45]⟩:BA)\/x=(⟨#[33]⟩:BA))(h:Sq c false l (fun n'=>cA n' n0) head):Sq c m ((6,x)::l) (fun n'=>cA n' (.mk 19 x [n0] a)) head:=by intro G s r D hh hp hf hg;have D:At c s ((6,x)::(l++r)):=D;obtain⟨f1,U⟩:=hf.adv D;unfold iG;rw[gE (by rw[D.is,D.is];rcases I with rfl|rfl<;>(show(cO (6,_) _||cO (6,_) _)=true;decide))];obtain⟨G',rfl⟩:∃G',G=G'+1:=⟨G-1,by omega⟩;obtain⟨n',s',e,O,N,M,J⟩:=h G' (adv s) r D.adv hh hp.adv (U.more (by omega)) hg;rw[show(cF (G'+1)).unary c (adv s)=.ok n' s' from e,bH.bind_ok,D.text];exact⟨_,s',rfl,cA.mk (bm.one O) _ _,N,M,J⟩
theorem IK{k g:Nat}{below:R Nd}{out y:Nd}{s s1:St}(h:RB k (ar c s.at_)=true)(e:below c (adv s)=.ok y s1):lV k below (g+1) out c s=lV k below g (.mk 20 (ar c s.at_).text [out,y] out.pos) c s1:=by have D:lV k below (g+1) out c s=if RB k (ar c s.at_)then(below c (adv s)).bind fun y s1=>lV k below g (.mk 20 (ar c s.at_).text [out,y] out.pos) c s1 else .ok out s:=rfl;rw[D,gE h,e];rfl
theorem M5{k:Nat}{x:ByteArray}{la lb:List TK}{na nb:Nd}(a:Int)(h1:CN (k+1) (6,x)=true)(h2:∀j,1<=j->j<=k->CN j (6,x)=false)(h3:uS head (6,x)=false)
  (hA:Sr c k m la (fun n'=>cA n' na) head)(hB:Lg c k false lb (fun n'=>cA n' nb) head):Sr c k m (la++((6,x)::lb)) (fun n'=>cA n' (.mk 20 x [na,nb] a)) head:=by
 intro G s r g I hh hp U hg ho hb;rw[gL]at I;have I:At c s (la++((6,x)::(lb++r))):=I;obtain⟨x0,s0,O,J,h,e1,e2,q1,D,N,q4,q5⟩:=hA G s _ g I hh hp U h3 h2 hb;obtain⟨M,rfl⟩:∃M,h=M+1:=⟨h-1,by omega⟩;have ga:=fT I D;obtain⟨n2,s2,e3,p1,p2,p3,p4⟩:=hB G (adv J) r D.adv N (sm.no q4) (U.le (by show s.at_<=J.at_+1;omega)) hg ho;refine⟨x0,s0,.mk 20 x [O,n2] O.pos,s2,M,e1,?_,cA.mk (bm.cons q1 (bm.one p1)) _ _,p2,p3.trans N,p4,?_⟩
 ·rw[e2];rw[IK (by rw[Ft D];exact h1) e3,D.text];rfl
 ·have:=fT D.adv p2;have h4:(adv J).at_=J.at_+1:=rfl;have:=D.len;simp at this;omega
end
theorem M6(h:Bool):iY h dU:=by cases h<;>exact lP (by decide +kernel) (by decide +kernel) (by decide +kernel) (by decide +kernel) (by decide +kernel) (by decide +kernel)
theorem D8(h:Bool):iY h (6,(⟨#[41]⟩:BA)):=by cases h<;>exact lP (by decide +kernel) (by decide +kernel) (by decide +kernel) (by decide +kernel) (by decide +kernel) (by decide +kernel)
theorem yJ(h:Bool):iY h (6,(⟨#[93]⟩:BA)):=by cases h<;>exact lP (by decide +kernel) (by decide +kernel) (by decide +kernel) (by decide +kernel) (by decide +kernel) (by decide +kernel)
theorem M7(h:Bool):iY h (6,(⟨#[125]⟩:BA)):=by cases h<;>exact lP (by decide +kernel) (by decide +kernel) (by decide +kernel) (by decide +kernel) (by decide +kernel) (by decide +kernel)
theorem tC{h:Bool}{t:TK}{en:ByteArray}(D:t=dU\/t=(6,en))(I:iY h (6,en)):iY h t:=by
 rcases D with rfl|rfl
 ·exact M6 h
 ·exact I
section
variable {c:Cx} {m:Bool} {head:Bool}
theorem uT.mono{l:List TK}{Q Q':Nd->Bool->Prop}(h:uT c m l Q head)(J:∀n b,Q n b->Q' n b):uT c m l Q' head:=by intro G s r g ha hh hp hf hb;obtain⟨D,b0,I,n',b',s',g',U,O,N,M⟩:=h G s r g ha hh hp hf hb;exact⟨D,b0,I,n',b',s',g',U,O,J _ _ N,M⟩
theorem Co.mono{l:List TK}{Q Q':Nd->Prop}(h:Co c m l Q head)(D:∀n,Q n->Q' n):Co c m l Q' head:=by intro G s r ha hh hp hf hb;obtain⟨n',s',M,J,I⟩:=h G s r ha hh hp hf hb;exact⟨n',s',M,D _ J,I⟩
theorem Cp{k:Int}{x:ByteArray}{n:Nd}{b:Bool}(h:∀F s,(ar c s.at_).kind=k->(ar c s.at_).text=x->∃n',cx F c s=.ok (n',b) (adv { s with part :=-1 })/\cA n' n):uT c m [(k,x)] (fun n' b'=>cA n' n/\b'=b) head:=by intro G s r g D J hp hf hb;have D:At c s ((k,x)::r):=D;obtain⟨n',e,M⟩:=h (cF G) s D.kind D.text;have I:At c (adv { s with part :=-1 }) r:=(D.pt (-1)).adv;exact⟨n',b,_,n',b,_,g,e,rfl,⟨M,rfl⟩,I,J,rfl,by have:=fT (a:=[(k,x)]) D I;omega⟩
theorem tD(x:ByteArray)(a:Int):uT c m [(1,x)] (fun n b=>cA n (.mk 18 x [] a)/\b=true) head:=
 Cp fun F s hk ht=>⟨_,by unfold cx;simp only;rw[gE hk],by rw[ht];exact cA.mk bm.nil _ _⟩
theorem PF{x:ByteArray}(D:lY x=x)(a:Int):uT c m [(4,x)] (fun n b=>cA n (.mk 16 x [] a)/\b=false) head:=
 Cp fun F s hk ht=>⟨_,by unfold cx;simp only;rw[gA (by rw[hk];decide),gE hk],by rw[ht,D];exact cA.mk bm.nil _ _⟩
theorem M8{q x:ByteArray}(D:i6 q=x)(a:Int):uT c m [(5,q)] (fun n b=>cA n (.mk 17 x [] a)/\b=false) head:=
 Cp fun F s hk ht=>⟨_,by unfold cx;simp only;rw[gA (by rw[hk];decide),gA (by rw[hk];decide),gE hk],by rw[ht,D];exact cA.mk bm.nil _ _⟩
theorem Cq{α:Type}{p:R α}{s s1:St}{a:α}(h:p c { s with head:=false }=.ok a s1):ce p c s=.ok a { s1 with head:=s.head } :=by unfold ce;rw[h];rfl
theorem nC{F:fJ}{s:St}{k:Int}{x:ByteArray}{q:List TK}(I:At c s ((k,x)::q))(D:k≠1/\k≠4/\k≠5):
  cx F c s=(if aP c { s with part :=-1 } (⟨#[40]⟩:BA)then(ce F.expr c (adv { s with part :=-1 })).bind fun y s1=>(need ⟨#[41]⟩ c s1).bind fun _ s2=>.ok (y,false) s2
   else if aP c { s with part :=-1 } (⟨#[102,117,110,99]⟩:BA)then(du F (av c s) (decide (s.part=(s.at_:Int))) c (adv { s with part :=-1 })).bind fun y s1=>.ok (y,false) s1
   else if dp c { s with part :=-1 }then(ir F (decide (s.part=(s.at_:Int))) c { s with part :=-1 }).bind fun y s1=>.ok (y,false) s1
   else .fail (av c s)):=by unfold cx;simp only;rw[gA (by rw[I.kind];exact D.1),gA (by rw[I.kind];exact D.2.1),gA (by rw[I.kind];exact D.2.2)];rfl
theorem IL{l:List TK}{Q:Nd->Prop}(h:Co c false l Q false):uT c m ((6,(⟨#[40]⟩:BA))::(l++[(6,(⟨#[41]⟩:BA))])) (fun n _=>Q n) head:=by
 intro G s r g D U hp hf hb;have D:At c s ((6,(⟨#[40]⟩:BA))::((l++[(6,(⟨#[41]⟩:BA))])++r)):=D;obtain⟨f1,N⟩:=hf.adv D;have J:=(D.pt (-1)).adv;rw[gL]at J;have J:At c { adv { s with part :=-1 }with head:=false } (l++((6,(⟨#[41]⟩:BA))::r)):=J;obtain⟨n',I,e1,g1,O,g3,g4⟩:=h G _ _ J rfl (sm.no rfl) (by have N:Fu c 1 (G-3) (adv { s with part :=-1 }):=N;exact N.more (by omega)) (D8 false);have M:At c { I with head:=s.head } ((6,(⟨#[41]⟩:BA))::r):=O;refine⟨n',false,adv { I with head:=s.head },n',false,_,g,?_,rfl,g1,M.adv,U,g4,?_⟩
 ·rw[nC D (by decide),gE ((D.pt (-1)).yes (by decide)),Cq e1];simp only[bH.bind_ok];show((need ⟨#[41]⟩ c { I with head:=s.head }).bind fun _ s2=>bH.ok (n',false) s2)=_;rw[fl M ⟨#[41]⟩ (by decide)];rfl
 ·have h1:c.toks.length-(adv { I with head:=s.head }).at_=c.toks.length-(I.at_+1):=rfl;have:=fT J O;have h3:(adv { s with part :=-1 }).at_=s.at_+1:=rfl;have h4:({ adv { s with part :=-1 }with head:=false }:St).at_=s.at_+1:=rfl;omega
theorem Ea{G:Nat}{part:R Nd}{en:ByteArray}(Q:Nd->Nd->Prop)(I:cO dU en=false)(D:cO (6,en) en=true)(L:List (List TK×Nd)){s:St}{r:List TK}
  (h:At c s (eO dU (L.map (·.1))++((6,en)::r)))(O:s.part = -1)(M:Fu c 2 G s)
  (J:∀x∈L,cO (et x.1) en=false/\x.1≠[]/\∀s r,At c s (x.1++r)->s.head=false->s.part = -1->Fu c 2 G s->(et r=dU\/et r=(6,en))->yE c s r (fun n'=>Q n' x.2) (-1) (part c s)):
  ∃l' s',ce (aX part en (cF G).g []) c s=.ok l' s'/\nz Q l' (L.map (·.2))/\At c s' r/\s'.head=s.head/\s'.part = -1:=by
 obtain⟨l',s1,e,h1,h2,h3,U⟩:=yF (c:=c) (part:=part) (en:=en) Q (P:=fun s _=>Fu c 2 G s/\s.head=false) I D (-1) (fun s l N s' l' _ hle hh _=>⟨N.1.le hle,by rw[hh];exact N.2⟩) L G [] [] { s with head:=false } r h O (by unfold Fu at M;show c.toks.length-s.at_<G;omega) ⟨M,rfl⟩ .nil
  (fun x hx=>⟨(J x hx).1,(J x hx).2.1,fun s r a b d e=>(J x hx).2.2 s r a b.2 d b.1 e⟩)
 rw[oM];exact⟨l',_,Cq e,h1,h2,rfl,U⟩
def IM(c:Cx)(en:ByteArray)(L:List (List TK×Nd)):Prop:=∀x∈L,cO (et x.1) en=false/\x.1≠[]/\Co c false x.1 (fun n'=>cA n' x.2) false
theorem Eb{G:Nat}{en:ByteArray}(J:cO dU en=false)(D:cO (6,en) en=true)(I:iY false (6,en)){L:List (List TK×Nd)}(M:IM c en L){s:St}{r:List TK}
  (h:At c s (eO dU (L.map (·.1))++((6,en)::r)))(N:s.part = -1)(O:Fu c 2 G s):
  ∃l' s',ce (aX (cF G).expr en (cF G).g []) c s=.ok l' s'/\bm l' (L.map (·.2))/\At c s' r/\s'.head=s.head/\s'.part = -1:=by obtain⟨l',s',e,h1,U⟩:=Ea (part:=(cF G).expr) cA J D L h N O (fun x hx=>⟨(M x hx).1,(M x hx).2.1,fun s r a b d e f=>(M x hx).2.2 G s r a b (sm.no d) e (tC f I)⟩);exact⟨l',s',e,h1.eqv,U⟩
theorem PG{F:fJ}{g:Nat}{out:Nd}{b:Bool}{s s1:St}{l:List Nd}(h:aP c s ⟨#[40]⟩=true)(e:ce (aX F.expr ⟨#[41]⟩ F.g []) c (adv s)=.ok l s1):aI F (g+1) out b c s=aI F g (.mk 21 ⟨#[]⟩ (out::l) out.pos) false c s1:=by(conv=>lhs;unfold aI);rw[gE h,e];rfl
theorem M9{F:fJ}{g:Nat}{out:Nd}{b:Bool}{s s1:St}{l:List Nd}(I:aP c s ⟨#[40]⟩=false)(h:aP c s ⟨#[91]⟩=true)(e:ce (aX (db F) ⟨#[93]⟩ F.g []) c (adv s)=.ok l s1)(D:l≠[]):aI F (g+1) out b c s=aI F g (.mk 22 ⟨#[]⟩ (out::l) out.pos) b c s1:=by(conv=>lhs;unfold aI);rw[gA (by rw[I];decide),gE h,e];simp only[bH.bind_ok];rw[gA (fun h=>D (jR h))]
theorem Na{F:fJ}{g:Nat}{out:Nd}{b:Bool}{s s1:St}{x:ByteArray}(I:aP c s ⟨#[40]⟩=false)(D:aP c s ⟨#[91]⟩=false)(h:aP c s ⟨#[46]⟩=true)(e:cG c (adv s)=.ok x s1):aI F (g+1) out b c s=aI F g (.mk 23 x [out] out.pos) false c s1:=by(conv=>lhs;unfold aI);rw[gA (by rw[I];decide),gA (by rw[D];decide),gE h,e];rfl
theorem Ss{F:fJ}{g:Nat}{out t n:Nd}{s s1:St}(N:aP c s ⟨#[40]⟩=false)(M:aP c s ⟨#[91]⟩=false)(J:aP c s ⟨#[46]⟩=false)(h:aP c s ⟨#[123]⟩=true)(I:s.head=false)(D:bJ out=some t)(e:da F t c s=.ok n s1):aI F (g+1) out true c s=aI F g n false c s1:=by(conv=>lhs;unfold aI);rw[gA (by rw[N];decide),gA (by rw[M];decide),gA (by rw[J];decide),gE (by rw[h,I];rfl),D];simp only;rw[e];rfl
theorem Nb{lf:List TK}{f:Nd}{L:List (List TK×Nd)}(a:Int)(hF:uT c m lf (fun n _=>cA n f) head)(hL:IM c ⟨#[41]⟩ L):
  uT c m (lf++((6,(⟨#[40]⟩:BA))::(eO dU (L.map (·.1))++[(6,(⟨#[41]⟩:BA))]))) (fun n _=>cA n (.mk 21 ⟨#[]⟩ (f::L.map (·.2)) a)) head:=by intro G s r g ha hh hp N hb;(have e:lf++((6,(⟨#[40]⟩:BA))::(eO dU (L.map (·.1))++[(6,(⟨#[41]⟩:BA))]))++r=lf++((6,(⟨#[40]⟩:BA))::(eO dU (L.map (·.1))++((6,(⟨#[41]⟩:BA))::r))):=by simp);rw[e]at ha;obtain⟨U,b0,s0,M,b1,I,O,e1,e2,q1,D,q3,q4,q5⟩:=hF G s _ g ha hh hp N hb;obtain⟨J,rfl⟩:∃J,O=J+1:=⟨O-1,by omega⟩;have ga:=fT ha D;obtain⟨f1,f2⟩:=(N.le (s':=I) (by omega)).adv D;obtain⟨l',h,e3,p1,p2,p3,p4⟩:=Eb (G:=G) (by decide) (by decide) (D8 false) hL D.adv q4 (f2.more (by omega));refine⟨U,b0,s0,.mk 21 ⟨#[]⟩ (M::l') M.pos,false,h,J,e1,e2.trans (PG (D.yes (by decide)) e3),cA.mk (bm.cons q1 p1) _ _,p2,p3.trans q3,p4,?_⟩;have h1:=D.adv.len;have h2:=p2.len;have h3:(adv I).at_=I.at_+1:=rfl;simp at h1;omega
def IN(c:Cx)(l:List TK)(Q:Nd->Prop):Prop:=∀G s r,At c s (l++r)->s.head=false->s.part=(s.at_:Int)->Fu c 2 G s->(et r=dU\/et r=(6,(⟨#[93]⟩:BA)))->yE c s r Q (-1) ((cF G).expr c s)
theorem Co.br{l:List TK}{Q:Nd->Prop}(h:Co c true l Q false):IN c l Q:=fun G s r a b p d e=>h G s r a b ⟨Int.le_of_eq p,fun _=>p⟩ d (tC e (yJ false))
def Fw(c:Cx)(Q:Nd->Nd->Prop)(L:List (List TK×Nd)):Prop:=∀x∈L,cO (et x.1) ⟨#[93]⟩=false/\x.1≠[]/\IN c x.1 (fun n'=>Q n' x.2)
theorem Cr{G:Nat}{Q:Nd->Nd->Prop}{L:List (List TK×Nd)}(D:Fw c Q L){s:St}{r:List TK}
  (h:At c s (eO dU (L.map (·.1))++((6,(⟨#[93]⟩:BA))::r)))(I:s.part = -1)(J:Fu c 2 G s):
  ∃l' s',ce (aX (db (cF G)) ⟨#[93]⟩ (cF G).g []) c s=.ok l' s'/\nz Q l' (L.map (·.2))/\At c s' r/\s'.head=s.head/\s'.part = -1:=
 Ea (part:=db (cF G)) Q (by decide) (by decide) L h I J fun x hx=>⟨(D x hx).1,(D x hx).2.1,fun s r a b d e f=>(D x hx).2.2 G { s with part:=(s.at_:Int) } r a b rfl e f⟩
theorem By{lf:List TK}{P:Nd->Bool->Prop}{Q:Nd->Nd->Prop}{Q':Nd->Bool->Prop}{L:List (List TK×Nd)}(M:L≠[])(hF:uT c m lf P head)(hL:Fw c Q L)
  (hQ:∀n b l p,P n b->nz Q l (L.map (·.2))->Q' (.mk 22 ⟨#[]⟩ (n::l) p) b):
  uT c m (lf++((6,(⟨#[91]⟩:BA))::(eO dU (L.map (·.1))++[(6,(⟨#[93]⟩:BA))]))) Q' head:=by
 intro G s r g ha hh hp h hb;(have e:lf++((6,(⟨#[91]⟩:BA))::(eO dU (L.map (·.1))++[(6,(⟨#[93]⟩:BA))]))++r=lf++((6,(⟨#[91]⟩:BA))::(eO dU (L.map (·.1))++((6,(⟨#[93]⟩:BA))::r))):=by simp);rw[e]at ha;obtain⟨x0,b0,s0,U,b1,I,g1,e1,e2,q1,D,q3,q4,q5⟩:=hF G s _ g ha hh hp h hb;obtain⟨O,rfl⟩:∃O,g1=O+1:=⟨g1-1,by omega⟩;have ga:=fT ha D;obtain⟨f1,f2⟩:=(h.le (s':=I) (by omega)).adv D;obtain⟨l',s2,e3,J,p2,p3,p4⟩:=Cr (G:=G) hL D.adv q4 (f2.more (by omega));have N:l'≠[]:=by
  rintro rfl;cases L with
  |nil=>exact M rfl
  |cons y L=>rw[jW]at J;cases J
 refine⟨x0,b0,s0,.mk 22 ⟨#[]⟩ (U::l') U.pos,b1,s2,O,e1,e2.trans (M9 (Bool.eq_false_iff.2 (D.no (by decide))) (D.yes (by decide)) e3 N),hQ _ _ _ _ q1 J,p2,p3.trans q3,p4,?_⟩;have h1:=D.adv.len;have h2:=p2.len;have h3:(adv I).at_=I.at_+1:=rfl;simp at h1;omega
theorem IP{lf:List TK}{f:Nd}{x:ByteArray}(a:Int)(hF:uT c m lf (fun n _=>cA n f) head):uT c m (lf++[(6,(⟨#[46]⟩:BA)),(1,x)]) (fun n _=>cA n (.mk 23 x [f] a)) head:=by intro G s r g ha hh hp hf hb;(have e:lf++[((6:Int),(⟨#[46]⟩:BA)),(1,x)]++r=lf++((6,(⟨#[46]⟩:BA))::(1,x)::r):=by simp);rw[e]at ha;obtain⟨O,b0,U,M,b1,I,N,e1,e2,q1,D,q3,h,q5⟩:=hF G s _ g ha hh hp hf hb;obtain⟨J,rfl⟩:∃J,N=J+1:=⟨N-1,by omega⟩;refine⟨O,b0,U,.mk 23 x [M] M.pos,false,adv (adv I),J,e1,e2.trans (Na (Bool.eq_false_iff.2 (D.no (by decide))) (Bool.eq_false_iff.2 (D.no (by decide))) (D.yes (by decide)) (mr D.adv)),cA.mk (bm.one q1) _ _,D.adv.adv,q3,h,?_⟩;have h1:=D.len;have h3:(adv (adv I)).at_=I.at_+1+1:=rfl;simp at h1;omega
theorem Gi{G:Nat}{t D:Nd}{L:List (List TK×Nd)}(a:Int)(M:cA t D)(U:IM c ⟨#[125]⟩ L){s:St}{r:List TK}(h:At c s ((6,(⟨#[123]⟩:BA))::(eO dU (L.map (·.1))++((6,(⟨#[125]⟩:BA))::r))))(N:s.part = -1)(O:Fu c 1 G s):
  yE c s r (fun n'=>cA n' (.mk 24 ⟨#[]⟩ (D::L.map (·.2)) a)) (-1) (da (cF G) t c s):=by obtain⟨f1,f2⟩:=O.adv h;obtain⟨l',I,e3,J,p2,p3,p4⟩:=Eb (G:=G) (by decide) (by decide) (M7 false) U h.adv N (f2.more (by omega));unfold da;rw[fl h ⟨#[123]⟩ (by decide),bH.bind_ok,e3,bH.bind_ok];exact⟨_,I,rfl,cA.mk (bm.cons M J) _ _,p2,p3,p4⟩
end
def Fx(n T:Nd):Prop:=∃t,bJ n=some t/\cA t T
section
variable {c:Cx} {m:Bool} {head:Bool}
theorem ra{G:Nat}{s s0:St}{I:Nd}{b0:Bool}{l r:List TK}(J:At c s l)(hb:cO (et l) ⟨#[45]⟩=false/\cO (et l) ⟨#[33]⟩=false)(h:cx (cF G) c s=.ok (I,b0) s0)(M:At c s0 r)(D:iY s0.head (et r))(O:1<=G):(cF (G+1)).expr c s=.ok I s0:=by
 have key:∀k,k<=5->i9 (cF G) k c s=.ok I s0:=by
  intro k;induction k with
  |zero=>intro _;show iG (cF G) c s=_;unfold iG;rw[gA (by rw[J.is,J.is,hb.1,hb.2];decide)];unfold fE;rw[h,bH.bind_ok,oM];obtain⟨g,rfl⟩:∃g,G=g+1:=⟨G-1,by omega⟩;exact p9 M D.1
  |succ k ih=>intro N;unfold i9;rw[ih (by omega),bH.bind_ok,oM];obtain⟨g,rfl⟩:∃g,G=g+1:=⟨G-1,by omega⟩;unfold lV;rw[gA (by rw[Ft M,D.2 (k+1) (by omega) N];decide)]
 exact key 5 (d5 _)
theorem yK{s:St}{l:List TK}(h:At c s l):ll c s=(cO (et l) ⟨#[44]⟩||cO (et l) ⟨#[93]⟩):=by unfold ll;rw[h.is,h.is]
theorem yL{s:St}{l:List TK}(h:At c s l)(D:et l=dU\/et l=(6,(⟨#[93]⟩:BA))):ll c s=true:=by rw[yK h];rcases D with e|e<;>rw[e]<;>decide
theorem yM{s:St}{t:TK}{l:List TK}(h:At c s (t::l)):((ar c (s.at_+1)).kind,(ar c (s.at_+1)).text)=et l:=h.adv.tok
theorem Bz{s:St}{t t1 t2:TK}{l:List TK}(h:At c s (t::t1::t2::l)):lC c s=(t1.1==1&&(t2.1==1||(cO t2 ⟨#[102,117,110,99]⟩||(cO t2 ⟨#[40]⟩||(cO t2 ⟨#[91]⟩&&((et l).1==6&&decide ((et l).2=(⟨#[93]⟩:BA)))))))):=by have I:=h.adv;have D:=I.adv;have J:=h.len;simp at J;unfold lC;rw[kN (show s.at_+2<c.toks.length by omega),vx];rw[show(ar c (s.at_+1)).kind=t1.1 from I.kind,show(ar c (s.at_+2)).kind=t2.1 from D.kind];rw[show aP c { s with at_:=s.at_+2 } (⟨#[102,117,110,99]⟩:BA)=cO t2 ⟨#[102,117,110,99]⟩from D.is _,show aP c { s with at_:=s.at_+2 } (⟨#[40]⟩:BA)=cO t2 ⟨#[40]⟩from D.is _,show dp c { s with at_:=s.at_+2 }=_ from D.slice];rfl
theorem Fy{d:Nat}{T:Nd}(hT:(aj d).typ T=true){r:List TK}(J:dJ (et r)=false):
  ∃t1 q,aF (af d T)++r=t1::q/\t1.2≠(⟨#[41]⟩:BA)/\(t1.1==1&&((et q).1==1||(cO (et q) ⟨#[102,117,110,99]⟩||(cO (et q) ⟨#[40]⟩||(cO (et q) ⟨#[91]⟩&&((et q.tail).1==6&&decide ((et q.tail).2=(⟨#[93]⟩:BA))))))))=false:=by
 obtain⟨t,l,e,ht⟩:=iA hT;refine⟨t,l++r,by rw[e];rfl,?_⟩;have D:=cR hT;cases d with
 |zero=>cases hT
 |succ d=>
  have M:l5 (aj d) T=true:=hT;unfold af at e;rcases D with D|D|D
  ·rw[gA (by rw[D];decide),gA (by rw[D];decide),gA (by rw[D];decide),lj]at e;injection e with e1 I;subst e1;unfold l5 at M;rw[gE D,gB]at M;refine⟨fun h=>?_,?_⟩
   ·have h:T.text=(⟨#[41]⟩:BA):=h;rw[h]at M;exact absurd M.1 (by decide +kernel)
   show(true&&_)=false;rw[vx];unfold nu at I;cases N:T.kids with
   |nil=>rw[N,gE rfl]at I;have I:[]=l:=I;subst I;unfold dJ at J;simp only[kZ]at J;show(_||(_||(_||(_&&_))))=false;rw[show(([]++r:List TK))=r from rfl,J.1,J.2.2.2.1,J.2.2.2.2.1,J.2.2.2.2.2.1];rfl
   |cons y ks=>
    rw[gA (by rw[N];simp),mc,aZ,rv,N]at I;subst I;obtain⟨u,q,e3,hu⟩:=iA (List.all_eq_true.1 M.2 y (by rw[N];simp));have U:∃q',eO dU (((y::ks).map (af d)).map aF)=u::q':=by
     cases ks with
     |nil=>exact⟨_,by show aF (af d y)=_;rw[e3]⟩
     |cons z ks=>exact⟨_,by rw[jW,jW,jW,jW,eO,e3];rfl⟩
    obtain⟨q',U⟩:=U;rw[U];show(false||(cO (6,d8 [91]) ⟨#[102,117,110,99]⟩||(cO (6,d8 [91]) ⟨#[40]⟩||(cO (6,d8 [91]) ⟨#[91]⟩&&(u.1==6&&decide (u.2=(⟨#[93]⟩:BA)))))))=false;have O:=bS hu ⟨#[93]⟩ (by decide) (by decide) (by decide) (by decide) (by decide);unfold cO at O;rw[show cO (6,d8 [91]) ⟨#[102,117,110,99]⟩=false by decide,show cO (6,d8 [91]) ⟨#[40]⟩=false by decide,show cO (6,d8 [91]) ⟨#[91]⟩=true by decide];cases h6:u.1==6 with
    |false=>rfl
    |true=>rw[h6]at O;simpa using O
  ·rw[gE D]at e;injection e with e1 _;subst e1;exact⟨by decide,rfl⟩
  ·rw[gA (by rw[D];decide),gE D]at e;injection e with e1 _;subst e1;exact⟨by decide,rfl⟩
theorem Ec{n:Nd}(h:n.kind=10\/n.kind=11\/n.kind=12):bJ n=some n:=by obtain⟨k,t,l,a⟩:=n;have h:k=10\/k=11\/k=12:=h;unfold bJ;rw[gE h]
theorem Fx.self{n T:Nd}(h:cA n T)(D:T.kind=10\/T.kind=11\/T.kind=12):Fx n T:=⟨n,Ec (by rw[h.kind];exact D),h⟩
theorem uJ:∀{l L:List Nd},nz Fx l L->∃l',cJ l=some l'/\bm l' L
 |_,_,.nil=>⟨[],by unfold cJ;rfl,bm.nil⟩
 |_,_,.cons ⟨t,J,I⟩ hs=>by obtain⟨l',e,D⟩:=uJ hs;refine⟨t::l',?_,bm.cons I D⟩;unfold cJ;rw[J,e];rfl
theorem Nc{n x:Nd}{k:Int}{t:ByteArray}{l:List Nd}{a:Int}(h:cA n (.mk k t (x::l) a)):cA (n.kids.headD bU) x:=by
 have D:=h.kids;cases I:n.kids with
 |nil=>rw[I]at D;exact absurd D.len (by simp)
 |cons y q=>rw[I]at D;have D:pB (y::q)=pB (x::l):=D;rw[pB,pB]at D;injection D
theorem IQ{d G:Nat}{ps:List Nd}{a1 a:Int}{res:Nd}(hT:Fo c G d)(N:ps.all (lG (aj d) fK)=true)(I:aE res=true\/(aj d).typ res=true)(p:Int)
  {s:St}{r:List TK}(h:At c s (aF (ez (af d) (.mk 12 ⟨#[]⟩ [.mk 6 ⟨#[]⟩ ps a1,res] a))++r))(hr:et r=dU\/et r=(6,(⟨#[93]⟩:BA)))(hf:Fu c 1 G s):
  oL c s r (.mk 12 ⟨#[]⟩ [.mk 6 ⟨#[]⟩ ps a1,res] a) s.part (du (cF G) p true c s):=by
 have hb:=Cl hr Ck;unfold du;cases ps with
 |nil=>have h':At c s ((6,(⟨#[40]⟩:BA))::(6,(⟨#[41]⟩:BA))::(aF (if res.kind=0 then[]else bc::af d res)++r)):=h;rw[gA (fun hh=>hh.2.2.2 (jH Prod.snd (yM h')))];obtain⟨n',s1,U,g1,O,g3,g4⟩:=Cm (so:=fun _=>false) (part:=eG (cF G)) (ps:=[]) (a1:=a1) (a:=a) hT rfl I (fun x t a M=>by cases M) (fun x t M=>by cases M) p h hb hf;have hz:(n'.kids.headD bU).kids.length=0:=(cA.kids (Nc g1)).len;rw[show oR (cF G) p c s=.ok n' s1 from U,bH.bind_ok,gE ⟨rfl,hz,yL O hr⟩];exact⟨n',s1,rfl,g1,O,g3,g4⟩
 |cons y ps=>
  obtain⟨t,l,a2,rfl,J,M⟩:=aJ (by decide) (List.all_eq_true.1 N y (by simp));obtain⟨z,rfl,hz⟩:=ep M;unfold fK at J;rw[gC]at J;subst J;have e:∃r',aF (ez (af d) (.mk 12 ⟨#[]⟩ [.mk 6 ⟨#[]⟩ (.mk 8 ⟨#[]⟩ [z] a2::ps) a1,res] a))++r=(6,(⟨#[40]⟩:BA))::(aF (af d z)++r')/\dJ (et r')=false/\r'≠[]:=by
   rw[wn,jW];obtain⟨r',U,D⟩:=Bx (aF (af d z)) (ps.map fun x=>aF (dR x.text++af d (aV x 0))) ((6,(⟨#[41]⟩:BA))::(aF (if res.kind=0 then[]else bc::af d res)++r));refine⟨r',jH _ U,?_⟩;rcases D with rfl|⟨q,rfl⟩
   ·exact⟨Gh,by simp⟩
   ·exact⟨Gg,by simp⟩
  obtain⟨r',e,gb,ga⟩:=e;have h':=h;rw[e]at h';obtain⟨t1,q,D,h1,h2⟩:=Fy hz gb;have hq:∃t2 q2,q=t2::q2:=by
   obtain⟨t0,l0,e3,_⟩:=iA hz;rw[e3]at D;have D:t0::(l0++r')=t1::q:=D;injection D with _ D;cases r' with
   |nil=>exact absurd rfl ga
   |cons u r'=>cases l0 with
     |nil=>exact⟨u,r',D.symm⟩
     |cons v l0=>exact⟨v,_,D.symm⟩
  obtain⟨t2,q2,rfl⟩:=hq;rw[D]at h';have hl:=h'.len;simp at hl;rw[gE ⟨rfl,by rw[Bz h'];exact h2,by omega,by rw[show(ar c (s.at_+1)).text=t1.2 from jH Prod.snd (yM h')];exact h1⟩];obtain⟨n',s1,U,g1,O,g3,g4⟩:=tA hT N I p h hb hf;rw[U,bH.bind_ok,gE (yL O hr)];exact⟨n',s1,rfl,g1,O,g3,g4⟩
def PH(c:Cx)(l:List TK)(n:Nd):Prop:=∀G s r,At c s (l++r)->s.part = -1->Fu c 1 G s->oL c s r n (-1) (bE (cF G) c s)
theorem Nf{d G:Nat}{ps:List Nd}{a1 a2:Int}(a:Int){res b:Nd}{lb:List TK}(hT:Fo c G d)(I:ps.all (lG (aj d) aO)=true)(D:aE res=true\/(aj d).typ res=true)(p:Int)(types:Bool)
  (hB:PH c ((6,(⟨#[123]⟩:BA))::lb) b){s:St}{r:List TK}(h:At c s (aF (ez (af d) (.mk 12 ⟨#[]⟩ [.mk 6 ⟨#[]⟩ ps a1,res] a2))++((6,(⟨#[123]⟩:BA))::(lb++r))))(hp:s.part = -1)(hf:Fu c 1 G s):
  oL c s r (.mk 25 ⟨#[]⟩ [.mk 12 ⟨#[]⟩ [.mk 6 ⟨#[]⟩ ps a1,res] a2,b] a) (-1) (du (cF G) p types c s):=by
 (have hb:dJ (et ((6,(⟨#[123]⟩:BA))::(lb++r)))=false:=by show dJ (6,(⟨#[123]⟩:BA))=false;decide +kernel);unfold du;rw[gA]
 ·obtain⟨n',s1,U,g1,O,g3,g4⟩:=D7 hT I D p h hb hf;rw[U,bH.bind_ok,gA]
  ·obtain⟨n2,s2,e3,p1,p2,p3,p4⟩:=hB G s1 r O (g4.trans hp) (hf.le (by have:=fT h O;omega));rw[e3,bH.bind_ok];exact⟨_,s2,rfl,cA.mk (bm.cons g1 (bm.one p1)) _ _,p2,p3.trans g3,p4⟩
  ·rintro⟨-,-,h3⟩;rw[yK O]at h3;exact absurd h3 (by show ¬ (cO (6,(⟨#[123]⟩:BA)) ⟨#[44]⟩||cO (6,(⟨#[123]⟩:BA)) ⟨#[93]⟩)=true;decide)
 ·rintro⟨-,J,-,hx⟩;cases ps with
  |nil=>have h':At c s ((6,(⟨#[40]⟩:BA))::(6,(⟨#[41]⟩:BA))::(aF (if res.kind=0 then[]else bc::af d res)++((6,(⟨#[123]⟩:BA))::(lb++r)))):=h;exact hx (jH Prod.snd (yM h'))
  |cons y ps=>
   obtain⟨t,l,a3,rfl,M,ht⟩:=aJ (by decide) (List.all_eq_true.1 I y (by simp));obtain⟨z,rfl,hz⟩:=ep ht;(have e:∃r',aF (ez (af d) (.mk 12 ⟨#[]⟩ [.mk 6 ⟨#[]⟩ (.mk 8 t [z] a3::ps) a1,res] a2))++((6,(⟨#[123]⟩:BA))::(lb++r))=(6,(⟨#[40]⟩:BA))::(1,t)::(aF (af d z)++r'):=by rw[wn,jW];obtain⟨r',U,-⟩:=Bx (aF (dR t++af d z)) (ps.map fun x=>aF (dR x.text++af d (aV x 0))) ((6,(⟨#[41]⟩:BA))::(aF (if res.kind=0 then[]else bc::af d res)++((6,(⟨#[123]⟩:BA))::(lb++r))));refine⟨r',(jH _ U).trans ?_⟩;rw[yH M];rfl);obtain⟨r',e⟩:=e;rw[e]at h;obtain⟨t0,l0,e2,N⟩:=rx hz;rw[e2]at h;have h:At c s ((6,(⟨#[40]⟩:BA))::(1,t)::t0::(l0++r')):=h;rw[Bz h]at J;rcases N with N|rfl|⟨rfl,q,rfl⟩
   ·rw[N]at J;cases J
   ·cases J
   ·cases J
end
section
variable {c:Cx} {m:Bool} {head:Bool}
theorem Gj{n:Nd}{x:ByteArray}{a:Int}(h:cA n (.mk 18 x [] a)):Fx n (.mk 10 x [] a):=by
 (have e:bJ (.mk 18 x [] a)=some (.mk 10 x [] a):=by unfold bJ;rw[gA (by decide),gE rfl]);rcases Fi h with⟨-,D⟩|⟨t,t',J,D,I⟩
 ·rw[e]at D;cases D
 ·rw[e]at D;injection D with D;subst D;exact⟨t,J,I⟩
theorem Ng{n:Nd}{x:ByteArray}{l l':List Nd}{a p:Int}(h:Fx n (.mk 10 x [] a))(N:nz Fx l' l):Fx (.mk 22 ⟨#[]⟩ (n::l') p) (.mk 10 x l a):=by obtain⟨t,h1,D⟩:=h;obtain⟨r',U,O⟩:=uJ N;obtain⟨M,I,J,a2⟩:=t;have e1:M=10:=D.kind;have e2:I=x:=D.text;have e3:J.length=0:=(cA.kids D).len;subst e1 e2;refine⟨.mk 10 I r' a2,?_,cA.mk O _ _⟩;unfold bJ;rw[gA (by decide),gA (by decide),gE rfl];simp only[h1];rw[gE ⟨trivial,e3⟩,U];rfl
theorem yN{l:List TK}{Q:Nd->Prop}(h:uT c m l (fun n _=>Q n) head)(hb:cO (et l) ⟨#[45]⟩=false/\cO (et l) ⟨#[33]⟩=false)(D:l≠[]):Lg c 5 m l Q head:=yI (il (sn h hb D)) 5
theorem IN.mono{l:List TK}{Q Q':Nd->Prop}(h:IN c l Q)(D:∀n,Q n->Q' n):IN c l Q':=by intro G s r ha hh hp hf hb;obtain⟨n',s',M,J,I⟩:=h G s r ha hh hp hf hb;exact⟨n',s',M,D _ J,I⟩
theorem Su:∀d,(∀T m head,(aj d).typ T=true->T.kind=10->uT c m (aF (af d T)) (fun n b=>Fx n T/\b=true) head)/\(∀T,(aj d).typ T=true->IN c (aF (af d T)) (fun n=>Fx n T/\(T.kind≠10->cA n T)))
 |0=>⟨fun T _ _ h=>(by cases h),fun T h=>(by cases h)⟩
 |d+1=>by
  obtain⟨-,ihB⟩:=Su d;have hP:∀T m head,(aj (d+1)).typ T=true->T.kind=10->uT c m (aF (af (d+1) T)) (fun n b=>Fx n T/\b=true) head:=by
   intro T m head hT I;obtain⟨k,x,l,a⟩:=T;have I:k=10:=I;subst I;have N:l5 (aj d) (.mk 10 x l a)=true:=hT;unfold l5 at N;rw[gE (show(Nd.mk 10 x l a).kind=10 from rfl),gB]at N;have hl:l.all (aj d).typ=true:=N.2;(have e:aF (af (d+1) (.mk 10 x l a))=(1,x)::aF (nu (af d) l):=by have O:(Nd.mk 10 x l a).kind=10:=rfl;unfold af;rw[gA (by rw[O];decide),gA (by rw[O];decide),gA (by rw[O];decide),lj];rfl);rw[e];unfold nu;by_cases O:l=[]
   ·subst O;rw[gE rfl];exact(tD x a).mono fun n b h=>⟨Gj h.1,h.2⟩
   ·rw[gA O,mc,aZ,rv,ql];(have e2:l.map (aF∘af d)=(l.map fun z=>(aF (af d z),z)).map (·.1):=by rw[tw];rfl);rw[e2];refine By (lf:=[(1,x)]) (P:=fun n b=>Fx n (.mk 10 x [] a)/\b=true) (Q:=Fx) (by simpa using O) ((tD x a).mono fun n b h=>⟨Gj h.1,h.2⟩) (fun z hz=>?_) (fun n b l' p h1 h2=>?_)
    ·obtain⟨y,hy,rfl⟩:=List.mem_map.1 hz;have ga:=List.all_eq_true.1 hl y hy;obtain⟨t,q,e3,ht⟩:=iA ga;exact⟨by show cO (et (aF (af d y))) ⟨#[93]⟩=false;rw[e3];exact bS ht _ (by decide) (by decide) (by decide) (by decide) (by decide),by show aF (af d y)≠[];rw[e3];simp,(ihB y ga).mono fun _ h=>h.1⟩
    ·rw[nX]at h2;exact⟨Ng h1.1 h2,h1.2⟩
  refine⟨hP,fun T hT=>?_⟩;rcases cR hT with I|I|I
  ·(have e:∃x l,aF (af (d+1) T)=(1,x)::l:=by unfold af;rw[gA (by rw[I];decide),gA (by rw[I];decide),gA (by rw[I];decide),lj];exact⟨_,_,rfl⟩);obtain⟨x,l,e⟩:=e;exact(sq (yN ((hP T true false hT I).mono fun n b h=>(⟨h.1,fun h'=>absurd I h'⟩:Fx n T/\(T.kind≠10->cA n T))) (by rw[e];exact⟨rfl,rfl⟩) (by rw[e];simp))).br
  ·intro G s r ha hh hp hf hr;obtain⟨G',rfl⟩:∃G',G=G'+1:=⟨G-1,by unfold Fu at hf;omega⟩;have J:Fu c 1 G' s:=hf.more (by omega);obtain⟨n',s1,e1,g1,U,g3,g4⟩:=iB (d+1) G' T hT { s with part :=-1 } r ha (Cl hr Ck) J;(have e2:∃q,aF (af (d+1) T)++r=(6,(⟨#[91]⟩:BA))::(6,(⟨#[93]⟩:BA))::q:=by unfold af;rw[gE I];exact⟨_,rfl⟩);obtain⟨q,e2⟩:=e2;have D:=ha;rw[e2]at D;(have M:cx (cF G') c s=.ok (n',false) s1:=by rw[nC D (by decide),gA ((D.pt (-1)).no (by decide)),gA ((D.pt (-1)).no (by decide)),gE (by rw[(D.pt (-1)).slice];show(cO (6,(⟨#[91]⟩:BA)) ⟨#[91]⟩&&((6:Int)==6&&decide ((⟨#[93]⟩:BA)=(⟨#[93]⟩:BA))))=true;decide)];unfold ir;rw[e1,bH.bind_ok,gE (by rw[yL U hr,kN hp];rfl)];rfl);refine⟨n',s1,?_,⟨Fx.self g1 (.inr (.inl I)),fun _=>g1⟩,U,g3,g4⟩;exact ra D ⟨show cO (6,(⟨#[91]⟩:BA)) ⟨#[45]⟩=false by decide,show cO (6,(⟨#[91]⟩:BA)) ⟨#[33]⟩=false by decide⟩ M U (tC hr (yJ _)) (by unfold Fu at J;omega)
  ·intro G s r ha hh hp hf hr;obtain⟨G',rfl⟩:∃G',G=G'+1:=⟨G-1,by unfold Fu at hf;omega⟩;have J:Fu c 1 G' s:=hf.more (by omega);have N:l5 (aj d) T=true:=hT;unfold l5 at N;rw[gA (by rw[I];decide),gA (by rw[I];decide),gE I]at N;obtain⟨ps,a1,res,a,rfl,gd,gb⟩:=sc N;have D:At c s ((2,(⟨#[102,117,110,99]⟩:BA))::(aF (ez (af d) (.mk 12 ⟨#[]⟩ [.mk 6 ⟨#[]⟩ ps a1,res] a))++r)):=ha;have hl:=D.len;simp at hl;obtain⟨n',s1,e1,g1,U,g3,g4⟩:=IQ (iB d G') gd gb (av c s) (s:=adv { s with part :=-1 }) (r:=r) (D.pt (-1)).adv hr (by unfold Fu at J |-;show 3*(c.toks.length-(s.at_+1))+1<=G';omega);(have M:cx (cF G') c s=.ok (n',false) s1:=by rw[nC D (by decide),gA ((D.pt (-1)).no (by decide)),gE ((D.pt (-1)).yes (by decide)),kN hp,e1];rfl);refine⟨n',s1,?_,⟨Fx.self g1 (.inr (.inr rfl)),fun _=>g1⟩,U,g3,g4⟩;exact ra D ⟨show cO (2,(⟨#[102,117,110,99]⟩:BA)) ⟨#[45]⟩=false by decide,show cO (2,(⟨#[102,117,110,99]⟩:BA)) ⟨#[33]⟩=false by decide⟩ M U (tC hr (yJ _)) (by unfold Fu at J;omega)
theorem Nh{d:Nat}{T:Nd}(hT:(aj d).typ T=true)(hk:T.kind=10){L:List (List TK×Nd)}(a:Int)(hL:IM c ⟨#[125]⟩ L):
  uT c m (aF (af d T)++((6,(⟨#[123]⟩:BA))::(eO dU (L.map (·.1))++[(6,(⟨#[125]⟩:BA))]))) (fun n _=>cA n (.mk 24 ⟨#[]⟩ (T::L.map (·.2)) a)) false:=by intro G s r g ha hh hp M hb;(have e:aF (af d T)++((6,(⟨#[123]⟩:BA))::(eO dU (L.map (·.1))++[(6,(⟨#[125]⟩:BA))]))++r=aF (af d T)++((6,(⟨#[123]⟩:BA))::(eO dU (L.map (·.1))++((6,(⟨#[125]⟩:BA))::r))):=by simp);rw[e]at ha;obtain⟨O,b0,h,n1,b1,s1,N,e1,e2,⟨⟨t,q0,q1⟩,rfl⟩,D,J,q4,q5⟩:=(Su d).1 T m false hT hk G s _ g ha hh hp M hb;obtain⟨I,rfl⟩:∃I,N=I+1:=⟨N-1,by omega⟩;have ga:=fT ha D;obtain⟨n2,U,e3,p1,p2,p3,p4⟩:=Gi a q1 hL D q4 (M.le (by omega));refine⟨O,b0,h,n2,false,U,I,e1,e2.trans (Ss (Bool.eq_false_iff.2 (D.no (by decide))) (Bool.eq_false_iff.2 (D.no (by decide))) (Bool.eq_false_iff.2 (D.no (by decide))) (D.yes (by decide)) J q0 e3),p1,p2,p3.trans J,p4,?_⟩;have h1:=D.len;have h2:=p2.len;simp at h1;omega
theorem Ni{d:Nat}{T:Nd}(hT:(aj d).typ T=true)(hk:T.kind=11){L:List (List TK×Nd)}(a:Int)(hL:IM c ⟨#[125]⟩ L):
  uT c m (aF (af d T)++((6,(⟨#[123]⟩:BA))::(eO dU (L.map (·.1))++[(6,(⟨#[125]⟩:BA))]))) (fun n _=>cA n (.mk 24 ⟨#[]⟩ (T::L.map (·.2)) a)) head:=by
 intro G s r g ha hh hp U hb;(have e:aF (af d T)++((6,(⟨#[123]⟩:BA))::(eO dU (L.map (·.1))++[(6,(⟨#[125]⟩:BA))]))++r=aF (af d T)++((6,(⟨#[123]⟩:BA))::(eO dU (L.map (·.1))++((6,(⟨#[125]⟩:BA))::r))):=by simp);rw[e]at ha;obtain⟨n',h,e1,g1,J,g3,g4⟩:=iB d G T hT { s with part :=-1 } _ ha (by show dJ (6,(⟨#[123]⟩:BA))=false;decide +kernel) U;have M:∃q,aF (af d T)++((6,(⟨#[123]⟩:BA))::(eO dU (L.map (·.1))++((6,(⟨#[125]⟩:BA))::r)))=(6,(⟨#[91]⟩:BA))::(6,(⟨#[93]⟩:BA))::q:=by
  cases d with
  |zero=>cases hT
  |succ d=>unfold af;rw[gE hk];exact⟨_,rfl⟩
 obtain⟨q,M⟩:=M;have D:=ha;rw[M]at D;have I:=fT (s:={ s with part :=-1 }) ha J;have I:s.at_+(aF (af d T)).length=h.at_:=I;obtain⟨O,N,e3,p1,p2,p3,p4⟩:=Gi a g1 hL J g4 (U.le (by omega));refine⟨O,false,N,O,false,N,g,?_,rfl,p1,p2,(p3.trans g3).trans hh,p4,?_⟩
 ·rw[nC D (by decide),gA ((D.pt (-1)).no (by decide)),gA ((D.pt (-1)).no (by decide)),gE (by rw[(D.pt (-1)).slice];show(cO (6,(⟨#[91]⟩:BA)) ⟨#[91]⟩&&((6:Int)==6&&decide ((⟨#[93]⟩:BA)=(⟨#[93]⟩:BA))))=true;decide)];unfold ir;rw[e1,bH.bind_ok,gA,e3]
  ·rfl
  ·rw[yK J];simp only[gB,not_and];intro _;show ¬ (cO (6,(⟨#[123]⟩:BA)) ⟨#[44]⟩||cO (6,(⟨#[123]⟩:BA)) ⟨#[93]⟩)=true;decide
 ·have h1:=J.len;have h2:=p2.len;simp at h1;omega
theorem Nj{d:Nat}{ps:List Nd}{a1 a2:Int}(a:Int){res b:Nd}{lb:List TK}(J:ps.all (lG (aj d) aO)=true)(I:aE res=true\/(aj d).typ res=true)(hB:PH c ((6,(⟨#[123]⟩:BA))::lb) b):
  uT c m ((2,(⟨#[102,117,110,99]⟩:BA))::(aF (ez (af d) (.mk 12 ⟨#[]⟩ [.mk 6 ⟨#[]⟩ ps a1,res] a2))++((6,(⟨#[123]⟩:BA))::lb))) (fun n _=>cA n (.mk 25 ⟨#[]⟩ [.mk 12 ⟨#[]⟩ [.mk 6 ⟨#[]⟩ ps a1,res] a2,b] a)) head:=by
 intro G s r g D hh hp hf hb;(have e:(2,(⟨#[102,117,110,99]⟩:BA))::(aF (ez (af d) (.mk 12 ⟨#[]⟩ [.mk 6 ⟨#[]⟩ ps a1,res] a2))++((6,(⟨#[123]⟩:BA))::lb))++r=(2,(⟨#[102,117,110,99]⟩:BA))::(aF (ez (af d) (.mk 12 ⟨#[]⟩ [.mk 6 ⟨#[]⟩ ps a1,res] a2))++((6,(⟨#[123]⟩:BA))::(lb++r))):=by simp);rw[e]at D;have O:=D.len;simp at O;obtain⟨n',M,e1,g1,N,h,U⟩:=Nf a (iB d G) J I (av c s) (decide (s.part=(s.at_:Int))) hB (s:=adv { s with part :=-1 }) (r:=r) (D.pt (-1)).adv rfl (by unfold Fu at hf |-;show 3*(c.toks.length-(s.at_+1))+1<=G;omega);refine⟨n',false,M,n',false,M,g,?_,rfl,g1,N,h.trans hh,U,?_⟩
 ·rw[nC D (by decide),gA ((D.pt (-1)).no (by decide)),gE ((D.pt (-1)).yes (by decide)),e1];rfl
 ·have h2:=N.len;omega
end
end
end Go.Proofs.YtiebcdeafofgdaaGreatDoor
