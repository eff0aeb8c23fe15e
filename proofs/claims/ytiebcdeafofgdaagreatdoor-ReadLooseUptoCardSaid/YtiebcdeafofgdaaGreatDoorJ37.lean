/-
  Parts of the proof: Ppt Ppe Ppf. By an AI agent.
-/
import Derived.Test.YtiebcdeafofgdaaGreatDoorJ36
import Derived.Test.YtiebcdeafofgdaaGreatDoorJ34
namespace Go.Proofs.YtiebcdeafofgdaaGreatDoor
section
theorem eR(a:Int):co bX (.mk 0 ⟨#[]⟩ [] a):=co.mk bF.nil _ _
theorem lC{d:Nat}{n:Nd}(h:(aa d).typ n=true):∃t l,aH (am d n)=t::l/\eD t=true:=by
 have D:=typ_kind h;cases d with
 |zero=>cases h
 |succ d=>
  unfold am;rcases D with D|D|D
  ·rw[d5 (by rw[D];decide),d5 (by rw[D];decide),d5 (by rw[D];decide)];exact⟨_,_,rfl,rfl⟩
  ·rw[gF D];exact⟨_,_,rfl,by decide⟩
  ·rw[d5 (by rw[D];decide),gF D];exact⟨_,_,rfl,by decide⟩
theorem sW{d:Nat}{n:Nd}(h:(aa d).typ n=true):∃t l,aH (am d n)=t::l/\(t.1=1\/t=(2,(⟨#[102,117,110,99]⟩:BA))\/(t=(6,(⟨#[91]⟩:BA))/\∃q,l=(6,(⟨#[93]⟩:BA))::q)):=by
 have D:=typ_kind h;cases d with
 |zero=>cases h
 |succ d=>
  unfold am;rcases D with D|D|D
  ·rw[d5 (by rw[D];decide),d5 (by rw[D];decide),d5 (by rw[D];decide)];exact⟨_,_,rfl,.inl rfl⟩
  ·rw[gF D];exact⟨_,_,rfl,.inr (.inr ⟨rfl,_,rfl⟩)⟩
  ·rw[d5 (by rw[D];decide),gF D];exact⟨_,_,rfl,.inr (.inl rfl)⟩
theorem dZ(x:ByteArray):d7 (bytes x)=x:=cg (bH _)
theorem Mp(x:ByteArray):aH [mK x]=[(1,x)]:=by show[((1:Int),d7 (bytes x))]=_;rw[dZ]
theorem ob(x:ByteArray)(l:List It):aH (mK x::l)=(1,x)::aH l:=by show((1:Int),d7 (bytes x))::aH l=_;rw[dZ]
theorem o5(x:ByteArray)(l:List It):aH (iV x::l)=(6,x)::aH l:=by show((6:Int),d7 (bytes x))::aH l=_;rw[dZ]
def Fu(c:Cx)(k G:Nat)(s:St):Prop:=3*(c.toks.length-s.at_)+k<=G
theorem Fu.le{c:Cx}{k G:Nat}{s s':St}(h:Fu c k G s)(hs:s.at_<=s'.at_):Fu c k G s':=by unfold Fu at *;omega
def Ej(c:Cx)(G:Nat)(d:Nat):Prop:=∀n,(aa d).typ n=true->∀s r,At c s (aH (am d n)++r)->eD (et r)=false->Fu c 1 G s->sf c s r n s.part ((di G).typ c s)
section
variable {c:Cx} {d:Nat}
theorem sk:∀G,(di G).g=G
 |0=>rfl
 |_+1=>rfl
theorem Mq{s:St}{l:List TK}(h:At c s l)(hb:eD (et l)=false):oJ c s=false:=by unfold eD at hb;simp only[qe]at hb;obtain⟨M,-,-,J,I,D,-,-⟩:=hb;unfold oJ;rw[h.is,h.is,h.is,h.kind,M,J,I,D];rfl
theorem GW{s:St}{l:List TK}(h:At c s l)(I:(et l).1=1\/cW (et l) ⟨#[102,117,110,99]⟩=true\/cW (et l) ⟨#[91]⟩=true):oJ c s=true:=by
 unfold oJ;rw[h.is,h.is,h.is,h.kind];rcases I with D|D|D
 ·rw[D];rfl
 ·rw[D];simp
 ·rw[D];simp
theorem Ek{G:Nat}(M:Ej c G d){res:Nd}(D:ah res=true\/(aa d).typ res=true){s:St}{r:List TK}(h:At c s (aH (if res.kind=0 then[]else bu::am d res)++r))(hb:eD (et r)=false)(J:Fu c 1 G s):
  sf c s r res s.part (dp (di G) c s):=by
 rcases D with D|D
 ·obtain⟨a,rfl⟩:=bI D;have h:At c s r:=h;unfold dp;rw[d5 (by rw[Mq h hb];decide)];exact⟨bX,s,rfl,eR a,h,rfl,rfl⟩
 ·have N:=typ_kind D;rw[d5 (by omega)]at h;have h:At c s (aH (am d res)++r):=h;unfold dp;rw[gF]
  ·exact M res D s r h hb J
  ·refine GW h ?_;obtain⟨t,l,e,I⟩:=sW D;rw[e];rcases I with I|rfl|⟨rfl,-⟩
   ·exact .inl I
   ·exact .inr (.inl (show cW (2,(⟨#[102,117,110,99]⟩:BA)) ⟨#[102,117,110,99]⟩=true by decide))
   ·exact .inr (.inr (show cW (6,(⟨#[91]⟩:BA)) ⟨#[91]⟩=true by decide))
theorem Fh:eD cX=false:=by decide +kernel
theorem Fi:eD (6,(⟨#[41]⟩:BA))=false:=by decide +kernel
theorem AV:eD (6,(⟨#[93]⟩:BA))=false:=by decide +kernel
theorem AW{r:List TK}{en:ByteArray}(h:et r=cX\/et r=(6,en))(D:eD (6,en)=false):eD (et r)=false:=by
 rcases h with h|h<;>rw[h]
 ·exact Fh
 ·exact D
theorem AX(f:Nd->List It)(ps:List Nd)(a1:Int)(res:Nd)(a:Int)(r:List TK):aH (fm f (.mk 12 ⟨#[]⟩ [.mk 6 ⟨#[]⟩ ps a1,res] a))++r=(6,(⟨#[40]⟩:BA))::(fg cX (ps.map fun x=>aH (dx x.text++f (bc x 0)))++((6,(⟨#[41]⟩:BA))::(aH (if res.kind=0 then[]else bu::f res)++r))):=by show aH (bS 40::(dk cG (ps.map fun p=>dx p.text++f (bc p 0))++(bS 41::(if res.kind=0 then[]else bu::f res))))++r=_;rw[it,aR,sh,it,vq,jP,gO,jP];rfl
theorem yR(x:List TK)(L:List (List TK))(r:List TK):∃r',fg cX (x::L)++r=x++r'/\(r'=r\/∃q,r'=cX::q):=by
 cases L with
 |nil=>exact⟨r,rfl,.inl rfl⟩
 |cons y L=>exact⟨_,by rw[fg,gO];rfl,.inr ⟨_,rfl⟩⟩
theorem AY{G:Nat}(hT:Ej c G d){so:ByteArray->Bool}{part:R Nd}{ps:List Nd}{a1 a:Int}{res:Nd}(ga:ps.all (dQ (aa d) so)=true)(M:ah res=true\/(aa d).typ res=true)
  (D:∀x t a,so t=true->(aa d).typ x=true->∀s r,At c s (aH (dx t++am d x)++r)->Fu c 1 G s->eD (et r)=false->(aH (dx t++am d x)≠[]/\eD (et (aH (dx t++am d x)))=true)/\sf c s r (.mk 8 t [x] a) s.part (part c s))
  (N:∀x t,so t=true->(aa d).typ x=true->aH (dx t++am d x)≠[]/\eD (et (aH (dx t++am d x)))=true)
  {s:St}{r:List TK}(p:Int)(h:At c s (aH (fm (am d) (.mk 12 ⟨#[]⟩ [.mk 6 ⟨#[]⟩ ps a1,res] a))++r))(hb:eD (et r)=false)(hf:Fu c 1 G s):
  sf c s r (.mk 12 ⟨#[]⟩ [.mk 6 ⟨#[]⟩ ps a1,res] a) s.part ((ci ⟨#[40]⟩ c s).bind fun _ s1=>(a6 part ⟨#[41]⟩ (di G).g [] c s1).bind fun l U=>(dp (di G) c U).bind fun q O=>.ok (.mk 12 ⟨#[]⟩ [.mk 6 ⟨#[]⟩ l (aM c s),q] p) O):=by
 rw[AX,<-si (fun x=>aH (dx x.text++am d (bc x 0))) ps]at h;rw[fN h ⟨#[40]⟩ (by decide),cC.bind_ok,sk];have J:=Fg (c:=c) (part:=part) (en:=(⟨#[41]⟩:BA)) (P:=fun s _=>Fu c 1 G s) (by decide) (by decide) s.part (fun s l hP s' l' _ hle _ _=>hP.le hle) (ps.map fun x=>(aH (dx x.text++am d (bc x 0)),x)) G (adv s) _ h.adv rfl (by unfold Fu at hf;show c.toks.length-(s.at_+1)<G;have:=h.len;simp at this;omega) (hf.le (jZ _)) (by
  intro x hx;obtain⟨y,hy,rfl⟩:=List.mem_map.1 hx;obtain⟨t,l,a2,rfl,I,ht⟩:=aN (by decide) (List.all_eq_true.1 ga y hy);obtain⟨z,rfl,hz⟩:=d8 ht;obtain⟨b1,b2⟩:=N z t I hz;refine⟨cr b2 _ (by decide) (by decide) (by decide) (by decide) (by decide),b1,fun s r hs hF hp hr=>?_⟩;have:=(D z t a2 I hz s r hs hF (AW hr Fi)).2
  rwa [hp]at this)
 obtain⟨l',U,f1,f2,f3,f4,f5⟩:=J;rw[f1,cC.bind_ok];have gb:Fu c 1 G U:=hf.le (by have h1:=h.len;have h2:=f3.len;simp at h1 h2;omega);obtain⟨q,O,g1,g2,g3,g4,g5⟩:=Ek hT M f3 hb gb;rw[g1,cC.bind_ok];rw[mN]at f2;exact⟨_,O,rfl,co.mk (bF.cons (co.mk f2 _ _) (bF.one g2)) _ _,g3,g4.trans f4,g5.trans f5⟩
theorem uY:∀x t,dV t=true->(aa d).typ x=true->aH (dx t++am d x)≠[]/\eD (et (aH (dx t++am d x)))=true:=by intro x t ht hx;unfold dV at ht;rw[gE]at ht;subst ht;obtain⟨u,q,e,D⟩:=lC hx;show aH (am d x)≠[]/\eD (et (aH (am d x)))=true;rw[e];exact⟨by simp,D⟩
theorem sm{G:Nat}(M:Ej c G d){ps:List Nd}{a1 a:Int}{res:Nd}(I:ps.all (dQ (aa d) dV)=true)(D:ah res=true\/(aa d).typ res=true)
  {s:St}{r:List TK}(p:Int)(h:At c s (aH (fm (am d) (.mk 12 ⟨#[]⟩ [.mk 6 ⟨#[]⟩ ps a1,res] a))++r))(hb:eD (et r)=false)(O:Fu c 1 G s):
  sf c s r (.mk 12 ⟨#[]⟩ [.mk 6 ⟨#[]⟩ ps a1,res] a) s.part (df (di G) p c s):=by refine AY (part:=mS (di G)) M I D (fun x t a ht hx s2 r2 J hf2 hb2=>⟨uY x t ht hx,?_⟩) uY p h hb O;unfold dV at ht;rw[gE]at ht;subst ht;have J:At c s2 (aH (am d x)++r2):=J;obtain⟨n',N,f1,f2,f3,f4,U⟩:=M x hx s2 r2 J hb2 hf2;unfold mS;rw[f1,cC.bind_ok];exact⟨_,N,rfl,co.mk (bF.one f2) _ _,f3,f4,U⟩
theorem uZ{x:ByteArray}(D:aE x=true)(l:List It):aH (dx x++l)=(1,x)::aH l:=by unfold dx;rw[d5 (fun h=>by rw[h]at D;exact absurd D (by decide +kernel)),aR];show aH (mK x::[bu])++aH l=_;rw[ob];rfl
theorem Mr{G:Nat}(O:Ej c G d){ps:List Nd}{a1 a:Int}{res:Nd}(M:ps.all (dQ (aa d) aE)=true)(I:ah res=true\/(aa d).typ res=true)
  {s:St}{r:List TK}(p:Int)(h:At c s (aH (fm (am d) (.mk 12 ⟨#[]⟩ [.mk 6 ⟨#[]⟩ ps a1,res] a))++r))(hb:eD (et r)=false)(hf:Fu c 1 G s):
  sf c s r (.mk 12 ⟨#[]⟩ [.mk 6 ⟨#[]⟩ ps a1,res] a) s.part (nN (di G) p c s):=by(have D:∀x t,aE t=true->(aa d).typ x=true->aH (dx t++am d x)≠[]/\eD (et (aH (dx t++am d x)))=true:=by intro x t ht _;rw[uZ ht];exact⟨by simp,rfl⟩);refine AY (part:=fp (di G)) O M I (fun x t a ht hx s2 r2 J N hb2=>⟨D x t ht hx,?_⟩) D p h hb hf;rw[uZ ht]at J;have J:At c s2 ((1,t)::(aH (am d x)++r2)):=J;obtain⟨n',U,f1,f2,f3,f4,f5⟩:=O x hx (adv s2) r2 J.adv hb2 (N.le (jZ _));unfold fp;rw[t6 J,cC.bind_ok,f1,cC.bind_ok];exact⟨_,U,rfl,co.mk (bF.one f2) _ _,f3,f4,f5⟩
end
theorem pF{c:Cx}:∀(d G:Nat),Ej c G d
 |0,_=>fun n h=>by cases h
 | d+1,G=>by
  intro n D s r h hb hf;obtain⟨G',rfl⟩:∃G',G=G'+1:=⟨G-1,by unfold Fu at hf;omega⟩;have hT:=pF (c:=c) d G';have D:dA (aa d) n=true:=D;show sf c s r n s.part (uk (di G') c s);unfold am at h;unfold dA at D;unfold uk;split at D
  ·rename_i M;rw[d5 (by rw[M];decide),d5 (by rw[M];decide),d5 (by rw[M];decide)]at h;obtain⟨k,x,l,a⟩:=n;have M:k=10:=M;subst M;rw[gB]at D;obtain⟨hx,N⟩:=D;have N:l.all (aa d).typ=true:=N;have h:At c s (aH (mK x::nY (am d) l)++r):=h;rw[ob,jP]at h;(have hi:∀y,aS c s y=false:=fun y=>by rw[h.is];exact nD (.inl rfl) y);rw[d5 (by rw[hi];decide),d5 (by rw[hi];decide),d5 (by rw[hi];decide),t6 h,cC.bind_ok];have J:=h.adv;unfold nY at J;cases I:l with
   |nil=>rw[I,gF rfl]at J;have J:At c (adv s) r:=J;unfold eD at hb;simp only[qe]at hb;rw[d5 (by rw[J.is,hb.2.2.2.2.2.1];simp)];exact⟨_,_,rfl,co.mk bF.nil _ _,J,rfl,rfl⟩
   | cons y l'=>
    rw[d5 (by rw[I];simp)]at J;rw[<-I];(have e:aH (bS 91::(dk cG (l.map (am d))++[bS 93]))++r=(6,(⟨#[91]⟩:BA))::(fg cX ((l.map fun x=>(aH (am d x),x)).map (·.1))++((6,(⟨#[93]⟩:BA))::r)):=by rw[it,aR,sh,si,vq,jP,gO];rfl);rw[e]at J;have gb:dE c (adv s)=false:=by
     rw[J.slice];have hy:∃t q,aH (am d y)=t::q/\eD t=true:=lC (List.all_eq_true.1 N y (by rw[I];simp));obtain⟨t,q,e1,ht⟩:=hy;have e2:∃q',(fg cX ((l.map fun x=>(aH (am d x),x)).map (·.1))++((6,(⟨#[93]⟩:BA))::r))=t::q':=by
      rw[I];cases l' with
      |nil=>exact⟨_,by rw[kE,kE];show aH (am d y)++_=_;rw[e1];rfl⟩
      |cons z l'=>exact⟨_,by rw[kE,kE,kE,kE];show(aH (am d y)++_)++_=_;rw[e1];rfl⟩
     obtain⟨q',e2⟩:=e2;rw[e2];show(true&&(t.1==6&&decide (t.2=(⟨#[93]⟩:BA))))=false;have:=cr ht ⟨#[93]⟩ (by decide) (by decide) (by decide) (by decide) (by decide);unfold cW at this;cases h6:t.1==6 with
     |false=>rfl
     |true=>rw[h6]at this;simpa using this
    rw[gF (by rw[J.is,gb];rfl),sk];have U:=Fg (c:=c) (part:=(di G').typ) (en:=(⟨#[93]⟩:BA)) (P:=fun s _=>Fu c 1 G' s) (by decide) (by decide) s.part (fun s l hP s' l' _ hle _ _=>hP.le hle) (l.map fun x=>(aH (am d x),x)) G' (adv (adv s)) _ J.adv rfl (by unfold Fu at hf;show c.toks.length-(s.at_+1+1)<G';have:=J.len;simp at this;have:(adv s).at_=s.at_+1:=rfl;omega) (by unfold Fu at hf |-;show 3*(c.toks.length-(s.at_+1+1))+1<=G';have:=J.len;simp at this;have:(adv s).at_=s.at_+1:=rfl;omega) (by
     intro x hx;obtain⟨z,hz,rfl⟩:=List.mem_map.1 hx;have O:=List.all_eq_true.1 N z hz;obtain⟨t,q,e1,ht⟩:=lC O;refine⟨by show cW (et (aH (am d z))) ⟨#[93]⟩=false;rw[e1];exact cr ht _ (by decide) (by decide) (by decide) (by decide) (by decide),by show aH (am d z)≠[];rw[e1];simp,fun s2 r2 hs hF hp hr=>?_⟩;have:=hT z O s2 r2 hs (AW hr AV) hF
     rwa [hp]at this)
    obtain⟨l2,s2,f1,f2,f3,f4,f5⟩:=U;rw[f1,cC.bind_ok,d5]
    ·rw[mN]at f2;exact⟨_,s2,rfl,co.mk f2 _ _,f3,f4,f5⟩
    ·have:=f2.len;rw[I]at this;simp at this;omega
  ·split at D
   ·rename_i ge M;rw[gF M]at h;obtain⟨l,a,rfl,D⟩:=bV D;obtain⟨x,rfl,hx⟩:=d8 D;have h:At c s ((6,(⟨#[91]⟩:BA))::(6,(⟨#[93]⟩:BA))::(aH (am d x)++r)):=h;rw[d5 (h.no (by decide)),gF (h.yes (by decide)),fN h.adv ⟨#[93]⟩ (by decide),cC.bind_ok];have N:=h.len;obtain⟨n',s1,f1,f2,f3,f4,f5⟩:=hT x hx _ r h.adv.adv hb (by unfold Fu at hf |-;simp at N;show 3*(c.toks.length-(s.at_+1+1))+1<=G';omega);rw[f1,cC.bind_ok];exact⟨_,s1,rfl,co.mk (bF.one f2) _ _,f3,f4,f5⟩
   ·split at D
    ·rename_i ge hk1 M;rw[d5 hk1,gF M]at h;obtain⟨ps,a1,res,a,rfl,gd,ga⟩:=sS D;have h:At c s ((2,(⟨#[102,117,110,99]⟩:BA))::(aH (fm (am d) (.mk 12 ⟨#[]⟩ [.mk 6 ⟨#[]⟩ ps a1,res] a))++r)):=h;rw[d5 (h.no (by decide)),d5 (h.no (by decide)),gF (h.yes (by decide))];have N:=h.len;exact sm hT gd ga (aM c s) h.adv hb (by unfold Fu at hf |-;simp at N;show 3*(c.toks.length-(s.at_+1))+1<=G';omega)
    ·cases D
def tP(head:Bool)(t:TK):Bool:=cW t ⟨#[40]⟩||(cW t ⟨#[91]⟩||(cW t ⟨#[46]⟩||(cW t ⟨#[123]⟩ && !head)))
def BD(k:Nat)(t:TK):Bool:=t.1==6&&(Du k).any fun x=>decide (t.2=x)
def fD(head:Bool)(t:TK):Prop:=tP head t=false/\∀j,1<=j->j<=5->BD j t=false
theorem im{head:Bool}{t:TK}(h:tP head t=false)(N:BD 1 t=false)(M:BD 2 t=false)(J:BD 3 t=false)(I:BD 4 t=false)(D:BD 5 t=false):fD head t:=by
 refine⟨h,fun j a b=>?_⟩;obtain rfl|rfl|rfl|rfl|rfl:j=1\/j=2\/j=3\/j=4\/j=5:=by omega
 ·exact N
 ·exact M
 ·exact J
 ·exact I
 ·exact D
def o6(m:Bool)(s:St):Prop:=s.part<=(s.at_:Int)/\(m=true->s.part=(s.at_:Int))
section
variable (c:Cx)
def sX(m:Bool)(l:List TK)(Q:Nd->Bool->Prop)(head:Bool):Prop:=∀G s r g,At c s (l++r)->s.head=head->o6 m s->Fu c 1 G s->c.toks.length-s.at_<g ->
 ∃x0 b0 s0 n' b' s' g',cH (di G) c s=.ok (x0,b0) s0/\aG (di G) g x0 b0 c s0=aG (di G) g' n' b' c s'/\Q n' b'/\At c s' r/\s'.head=head/\s'.part = -1/\c.toks.length-s'.at_<g'
def Sg(m:Bool)(l:List TK)(Q:Nd->Prop)(head:Bool):Prop:=∀G s r,At c s (l++r)->s.head=head->o6 m s->Fu c 1 G s->tP head (et r)=false->AU c s r Q (-1) (iZ (di G) c s)
def ID(k:Nat)(m:Bool)(l:List TK)(Q:Nd->Prop)(head:Bool):Prop:=∀G s r,At c s (l++r)->s.head=head->o6 m s->Fu c 1 G s->tP head (et r)=false->(∀j,1<=j->j<=k->BD j (et r)=false)->AU c s r Q (-1) (i6 (di G) k c s)
def Sh(k:Nat)(m:Bool)(l:List TK)(Q:Nd->Prop)(head:Bool):Prop:=∀G s r g,At c s (l++r)->s.head=head->o6 m s->Fu c 1 G s->tP head (et r)=false->(∀j,1<=j->j<=k->BD j (et r)=false)->c.toks.length-s.at_<g ->
 ∃x0 s0 n' s' g',i6 (di G) k c s=.ok x0 s0/\iX (k+1) (i6 (di G) k) g x0 c s0=iX (k+1) (i6 (di G) k) g' n' c s'/\Q n'/\At c s' r/\s'.head=head/\s'.part = -1/\c.toks.length-s'.at_<g'
def Ba(m:Bool)(l:List TK)(Q:Nd->Prop)(head:Bool):Prop:=∀G s r,At c s (l++r)->s.head=head->o6 m s->Fu c 2 G s->fD head (et r)->AU c s r Q (-1) ((di G).expr c s)
end
section
variable {c:Cx} {m:Bool} {l:List TK} {Q:Nd->Prop} {head:Bool}
theorem En{s:St}{l:List TK}(h:At c s l)(k:Nat):RG k (ay c s.at_)=BD k (et l):=by unfold RG BD;rw[h.kind,h.text]
theorem iY{s s':St}{a b:List TK}(h:At c s (a++b))(h':At c s' b):s.at_+a.length=s'.at_:=by have D:=h.len;have I:=h'.len;rw[gL]at D;omega
theorem o7{G g:Nat}{n:Nd}{b:Bool}{s:St}{r:List TK}(h:At c s r)(hs:tP s.head (et r)=false):aG (di G) (g+1) n b c s=.ok n s:=by
 unfold tP at hs;simp only[qe]at hs;obtain⟨N,M,J,D⟩:=hs;unfold aG;rw[d5 (by rw[h.is,N];decide),d5 (by rw[h.is,M];decide),d5 (by rw[h.is,J];decide),d5];rw[h.is];cases I:cW (et r) ⟨#[123]⟩with
 |false=>simp
 |true=>rw[I]at D;simp at D;simp[D]
theorem ru(h:sX c m l (fun n _=>Q n) head)(hb:cW (et l) ⟨#[45]⟩=false/\cW (et l) ⟨#[33]⟩=false)(M:l≠[]):Sg c m l Q head:=by intro G s r D hh hp hf hg;(have hd:et (l++r)=et l:=by cases l with|nil=>exact absurd rfl M|cons t q=>rfl);unfold iZ;rw[d5 (by rw[D.is,D.is,hd,hb.1,hb.2];decide)];unfold lD;obtain⟨x0,b0,s0,n',b',s',g',e1,U,O,J,I,N,h7⟩:=h G s r G D hh hp hf (by unfold Fu at hf;omega);rw[e1,cC.bind_ok,sk,U];obtain⟨g,rfl⟩:∃g,g'=g+1:=⟨g'-1,by omega⟩;rw[o7 J (by rw[I];exact hg)];exact⟨n',s',rfl,O,J,I.trans hh.symm,N⟩
theorem eu(h:Sg c m l Q head):ID c 0 m l Q head:=fun G s r ha hh hp hf hg _=>h G s r ha hh hp hf hg
theorem ms{k:Nat}(h:ID c k m l Q head):Sh c k m l Q head:=by intro G s r g ha hh hp hf hg ho hb;obtain⟨n',s',e,M,D,J,I⟩:=h G s r ha hh hp hf hg ho;exact⟨n',s',n',s',g,e,rfl,M,D,J.trans hh,I,by have:=iY ha D;omega⟩
theorem od{k:Nat}(h:Sh c k m l Q head):ID c (k+1) m l Q head:=by intro G s r ha hh hp hf hg D;obtain⟨x0,s0,n',s',g',U,O,N,I,M,J,h7⟩:=h G s r G ha hh hp hf hg (fun j a b=>D j a (by omega)) (by unfold Fu at hf;omega);unfold i6;rw[U,cC.bind_ok,sk,O];obtain⟨g,rfl⟩:∃g,g'=g+1:=⟨g'-1,by omega⟩;unfold iX;rw[d5 (by rw[En I,D (k+1) (by omega) (gA _)];decide)];exact⟨n',s',rfl,N,I,M.trans hh.symm,J⟩
theorem Qz0{k:Nat}(h:ID c k m l Q head):∀j,ID c (k+j) m l Q head
 |0=>h
 |j+1=>od (ms (Qz0 h j))
theorem rv(h:ID c 5 m l Q head):Ba c m l Q head:=by intro G s r ha hh hp hf hg;obtain⟨G',rfl⟩:∃G',G=G'+1:=⟨G-1,by unfold Fu at hf;omega⟩;exact h G' s r ha hh hp (by unfold Fu at hf |-;omega) hg.1 hg.2
theorem o6.no{s:St}(h:s.part = -1):o6 false s:=⟨by rw[h];omega,fun h=>by cases h⟩
theorem o6.adv{s:St}(h:o6 m s):o6 false (adv s):=⟨by have:=h.1;show s.part<=((s.at_+1:Nat):Int);omega,fun h=>by cases h⟩
theorem Fu.adv{k G:Nat}{s:St}{t:TK}{q:List TK}(D:At c s (t::q))(I:Fu c k G s):3<=G/\Fu c k (G-3) (adv s):=by have:=D.len;unfold Fu at *;simp at this;have e:(Go.Proofs.YtiebcdeafofgdaaGreatDoor.adv s).at_=s.at_+1:=rfl;constructor<;>omega
theorem Fu.more{k k' G G':Nat}{s:St}(h:Fu c k G s)(D:k'+G<=k+G'):Fu c k' G' s:=by unfold Fu at *;omega
theorem CP{x:ByteArray}{n0:Nd}(a:Int)(I:x=(⟨#[45]⟩:BA)\/x=(⟨#[33]⟩:BA))(h:Sg c false l (fun n'=>co n' n0) head):Sg c m ((6,x)::l) (fun n'=>co n' (.mk 19 x [n0] a)) head:=by intro G s r D hh hp hf hg;have D:At c s ((6,x)::(l++r)):=D;obtain⟨f1,U⟩:=hf.adv D;unfold iZ;rw[gF (by rw[D.is,D.is];rcases I with rfl|rfl<;>(show(cW (6,_) _||cW (6,_) _)=true;decide))];obtain⟨G',rfl⟩:∃G',G=G'+1:=⟨G-1,by omega⟩;obtain⟨n',s',e,O,N,M,J⟩:=h G' (adv s) r D.adv hh hp.adv (U.more (by omega)) hg;rw[show(di (G'+1)).unary c (adv s)=.ok n' s' from e,cC.bind_ok,D.text];exact⟨_,s',rfl,co.mk (bF.one O) _ _,N,M,J⟩
theorem GX{k g:Nat}{below:R Nd}{out y:Nd}{s s1:St}(h:RG k (ay c s.at_)=true)(e:below c (adv s)=.ok y s1):iX k below (g+1) out c s=iX k below g (.mk 20 (ay c s.at_).text [out,y] out.pos) c s1:=by have D:iX k below (g+1) out c s=if RG k (ay c s.at_)then(below c (adv s)).bind fun y s1=>iX k below g (.mk 20 (ay c s.at_).text [out,y] out.pos) c s1 else .ok out s:=rfl;rw[D,gF h,e];rfl
theorem CQ{k:Nat}{x:ByteArray}{la lb:List TK}{na nb:Nd}(a:Int)(h1:BD (k+1) (6,x)=true)(h2:∀j,1<=j->j<=k->BD j (6,x)=false)(h3:tP head (6,x)=false)
  (hA:Sh c k m la (fun n'=>co n' na) head)(hB:ID c k false lb (fun n'=>co n' nb) head):Sh c k m (la++((6,x)::lb)) (fun n'=>co n' (.mk 20 x [na,nb] a)) head:=by
 intro G s r g I hh hp U hg ho hb;rw[gO]at I;have I:At c s (la++((6,x)::(lb++r))):=I;obtain⟨x0,s0,O,J,h,e1,e2,q1,D,N,q4,q5⟩:=hA G s _ g I hh hp U h3 h2 hb;obtain⟨M,rfl⟩:∃M,h=M+1:=⟨h-1,by omega⟩;have ga:=iY I D;obtain⟨n2,s2,e3,p1,p2,p3,p4⟩:=hB G (adv J) r D.adv N (o6.no q4) (U.le (by show s.at_<=J.at_+1;omega)) hg ho;refine⟨x0,s0,.mk 20 x [O,n2] O.pos,s2,M,e1,?_,co.mk (bF.cons q1 (bF.one p1)) _ _,p2,p3.trans N,p4,?_⟩
 ·rw[e2];rw[GX (by rw[En D];exact h1) e3,D.text];rfl
 ·have:=iY D.adv p2;have h4:(adv J).at_=J.at_+1:=rfl;have:=D.len;simp at this;omega
end
theorem Ms(h:Bool):fD h cX:=by cases h<;>exact im (by decide +kernel) (by decide +kernel) (by decide +kernel) (by decide +kernel) (by decide +kernel) (by decide +kernel)
theorem we(h:Bool):fD h (6,(⟨#[41]⟩:BA)):=by cases h<;>exact im (by decide +kernel) (by decide +kernel) (by decide +kernel) (by decide +kernel) (by decide +kernel) (by decide +kernel)
theorem wg(h:Bool):fD h (6,(⟨#[93]⟩:BA)):=by cases h<;>exact im (by decide +kernel) (by decide +kernel) (by decide +kernel) (by decide +kernel) (by decide +kernel) (by decide +kernel)
theorem Mt(h:Bool):fD h (6,(⟨#[125]⟩:BA)):=by cases h<;>exact im (by decide +kernel) (by decide +kernel) (by decide +kernel) (by decide +kernel) (by decide +kernel) (by decide +kernel)
theorem o8{h:Bool}{t:TK}{en:ByteArray}(D:t=cX\/t=(6,en))(I:fD h (6,en)):fD h t:=by
 rcases D with rfl|rfl
 ·exact Ms h
 ·exact I
section
variable {c:Cx} {m:Bool} {head:Bool}
theorem sX.mono{l:List TK}{Q Q':Nd->Bool->Prop}(h:sX c m l Q head)(J:∀n b,Q n b->Q' n b):sX c m l Q' head:=by intro G s r g ha hh hp hf hb;obtain⟨D,b0,I,n',b',s',g',U,O,N,M⟩:=h G s r g ha hh hp hf hb;exact⟨D,b0,I,n',b',s',g',U,O,J _ _ N,M⟩
theorem Ba.mono{l:List TK}{Q Q':Nd->Prop}(h:Ba c m l Q head)(D:∀n,Q n->Q' n):Ba c m l Q' head:=by intro G s r ha hh hp hf hb;obtain⟨n',s',M,J,I⟩:=h G s r ha hh hp hf hb;exact⟨n',s',M,D _ J,I⟩
theorem Bb{k:Int}{x:ByteArray}{n:Nd}{b:Bool}(h:∀F s,(ay c s.at_).kind=k->(ay c s.at_).text=x->∃n',cH F c s=.ok (n',b) (adv { s with part :=-1 })/\co n' n):sX c m [(k,x)] (fun n' b'=>co n' n/\b'=b) head:=by intro G s r g D J hp hf hb;have D:At c s ((k,x)::r):=D;obtain⟨n',e,M⟩:=h (di G) s D.kind D.text;have I:At c (adv { s with part :=-1 }) r:=(D.pt (-1)).adv;exact⟨n',b,_,n',b,_,g,e,rfl,⟨M,rfl⟩,I,J,rfl,by have:=iY (a:=[(k,x)]) D I;omega⟩
theorem sn(x:ByteArray)(a:Int):sX c m [(1,x)] (fun n b=>co n (.mk 18 x [] a)/\b=true) head:=
 Bb fun F s hk ht=>⟨_,by unfold cH;simp only;rw[gF hk],by rw[ht];exact co.mk bF.nil _ _⟩
theorem Pp{x:ByteArray}(D:mT x=x)(a:Int):sX c m [(4,x)] (fun n b=>co n (.mk 16 x [] a)/\b=false) head:=
 Bb fun F s hk ht=>⟨_,by unfold cH;simp only;rw[d5 (by rw[hk];decide),gF hk],by rw[ht,D];exact co.mk bF.nil _ _⟩
theorem Mu{q x:ByteArray}(D:lT q=x)(a:Int):sX c m [(5,q)] (fun n b=>co n (.mk 17 x [] a)/\b=false) head:=
 Bb fun F s hk ht=>⟨_,by unfold cH;simp only;rw[d5 (by rw[hk];decide),d5 (by rw[hk];decide),gF hk],by rw[ht,D];exact co.mk bF.nil _ _⟩
theorem t7{α:Type}{p:R α}{s s1:St}{a:α}(h:p c { s with head:=false }=.ok a s1):ct p c s=.ok a { s1 with head:=s.head } :=by unfold ct;rw[h];rfl
theorem mu{F:iE}{s:St}{k:Int}{x:ByteArray}{q:List TK}(I:At c s ((k,x)::q))(D:k≠1/\k≠4/\k≠5):
  cH F c s=(if aS c { s with part :=-1 } (⟨#[40]⟩:BA)then(ct F.expr c (adv { s with part :=-1 })).bind fun y s1=>(ci ⟨#[41]⟩ c s1).bind fun _ s2=>.ok (y,false) s2
   else if aS c { s with part :=-1 } (⟨#[102,117,110,99]⟩:BA)then(dh F (aM c s) (decide (s.part=(s.at_:Int))) c (adv { s with part :=-1 })).bind fun y s1=>.ok (y,false) s1
   else if dE c { s with part :=-1 }then(ij F (decide (s.part=(s.at_:Int))) c { s with part :=-1 }).bind fun y s1=>.ok (y,false) s1
   else .out):=by unfold cH;simp only;rw[d5 (by rw[I.kind];exact D.1),d5 (by rw[I.kind];exact D.2.1),d5 (by rw[I.kind];exact D.2.2)];rfl
theorem GY{l:List TK}{Q:Nd->Prop}(h:Ba c false l Q false):sX c m ((6,(⟨#[40]⟩:BA))::(l++[(6,(⟨#[41]⟩:BA))])) (fun n _=>Q n) head:=by
 intro G s r g D U hp hf hb;have D:At c s ((6,(⟨#[40]⟩:BA))::((l++[(6,(⟨#[41]⟩:BA))])++r)):=D;obtain⟨f1,N⟩:=hf.adv D;have J:=(D.pt (-1)).adv;rw[gO]at J;have J:At c { adv { s with part :=-1 }with head:=false } (l++((6,(⟨#[41]⟩:BA))::r)):=J;obtain⟨n',I,e1,g1,O,g3,g4⟩:=h G _ _ J rfl (o6.no rfl) (by have N:Fu c 1 (G-3) (adv { s with part :=-1 }):=N;exact N.more (by omega)) (we false);have M:At c { I with head:=s.head } ((6,(⟨#[41]⟩:BA))::r):=O;refine⟨n',false,adv { I with head:=s.head },n',false,_,g,?_,rfl,g1,M.adv,U,g4,?_⟩
 ·rw[mu D (by decide),gF ((D.pt (-1)).yes (by decide)),t7 e1];simp only[cC.bind_ok];show((ci ⟨#[41]⟩ c { I with head:=s.head }).bind fun _ s2=>cC.ok (n',false) s2)=_;rw[fN M ⟨#[41]⟩ (by decide)];rfl
 ·have h1:c.toks.length-(adv { I with head:=s.head }).at_=c.toks.length-(I.at_+1):=rfl;have:=iY J O;have h3:(adv { s with part :=-1 }).at_=s.at_+1:=rfl;have h4:({ adv { s with part :=-1 }with head:=false }:St).at_=s.at_+1:=rfl;omega
theorem CR{G:Nat}{part:R Nd}{en:ByteArray}(Q:Nd->Nd->Prop)(I:cW cX en=false)(D:cW (6,en) en=true)(L:List (List TK×Nd)){s:St}{r:List TK}
  (h:At c s (fg cX (L.map (·.1))++((6,en)::r)))(O:s.part = -1)(M:Fu c 2 G s)
  (J:∀x∈L,cW (et x.1) en=false/\x.1≠[]/\∀s r,At c s (x.1++r)->s.head=false->s.part = -1->Fu c 2 G s->(et r=cX\/et r=(6,en))->AU c s r (fun n'=>Q n' x.2) (-1) (part c s)):
  ∃l' s',ct (a6 part en (di G).g []) c s=.ok l' s'/\iW Q l' (L.map (·.2))/\At c s' r/\s'.head=s.head/\s'.part = -1:=by
 obtain⟨l',s1,e,h1,h2,h3,U⟩:=uX (c:=c) (part:=part) (en:=en) Q (P:=fun s _=>Fu c 2 G s/\s.head=false) I D (-1) (fun s l N s' l' _ hle hh _=>⟨N.1.le hle,by rw[hh];exact N.2⟩) L G [] [] { s with head:=false } r h O (by unfold Fu at M;show c.toks.length-s.at_<G;omega) ⟨M,rfl⟩ .nil
  (fun x hx=>⟨(J x hx).1,(J x hx).2.1,fun s r a b d e=>(J x hx).2.2 s r a b.2 d b.1 e⟩)
 rw[sk];exact⟨l',_,t7 e,h1,h2,rfl,U⟩
def Bc(c:Cx)(en:ByteArray)(L:List (List TK×Nd)):Prop:=∀x∈L,cW (et x.1) en=false/\x.1≠[]/\Ba c false x.1 (fun n'=>co n' x.2) false
theorem CS{G:Nat}{en:ByteArray}(J:cW cX en=false)(D:cW (6,en) en=true)(I:fD false (6,en)){L:List (List TK×Nd)}(M:Bc c en L){s:St}{r:List TK}
  (h:At c s (fg cX (L.map (·.1))++((6,en)::r)))(N:s.part = -1)(O:Fu c 2 G s):
  ∃l' s',ct (a6 (di G).expr en (di G).g []) c s=.ok l' s'/\bF l' (L.map (·.2))/\At c s' r/\s'.head=s.head/\s'.part = -1:=by obtain⟨l',s',e,h1,U⟩:=CR (part:=(di G).expr) co J D L h N O (fun x hx=>⟨(M x hx).1,(M x hx).2.1,fun s r a b d e f=>(M x hx).2.2 G s r a b (o6.no d) e (o8 f I)⟩);exact⟨l',s',e,h1.eqv,U⟩
theorem Fj{F:iE}{g:Nat}{out:Nd}{b:Bool}{s s1:St}{l:List Nd}(h:aS c s ⟨#[40]⟩=true)(e:ct (a6 F.expr ⟨#[41]⟩ F.g []) c (adv s)=.ok l s1):aG F (g+1) out b c s=aG F g (.mk 21 ⟨#[]⟩ (out::l) out.pos) false c s1:=by(conv=>lhs;unfold aG);rw[gF h,e];rfl
theorem Mv{F:iE}{g:Nat}{out:Nd}{b:Bool}{s s1:St}{l:List Nd}(I:aS c s ⟨#[40]⟩=false)(h:aS c s ⟨#[91]⟩=true)(e:ct (a6 (cY F) ⟨#[93]⟩ F.g []) c (adv s)=.ok l s1)(D:l≠[]):aG F (g+1) out b c s=aG F g (.mk 22 ⟨#[]⟩ (out::l) out.pos) b c s1:=by(conv=>lhs;unfold aG);rw[d5 (by rw[I];decide),gF h,e];simp only[cC.bind_ok];rw[d5 (fun h=>D (jQ h))]
theorem Mw{F:iE}{g:Nat}{out:Nd}{b:Bool}{s s1:St}{x:ByteArray}(I:aS c s ⟨#[40]⟩=false)(D:aS c s ⟨#[91]⟩=false)(h:aS c s ⟨#[46]⟩=true)(e:eK c (adv s)=.ok x s1):aG F (g+1) out b c s=aG F g (.mk 23 x [out] out.pos) false c s1:=by(conv=>lhs;unfold aG);rw[d5 (by rw[I];decide),d5 (by rw[D];decide),gF h,e];rfl
theorem Si{F:iE}{g:Nat}{out t n:Nd}{s s1:St}(N:aS c s ⟨#[40]⟩=false)(M:aS c s ⟨#[91]⟩=false)(J:aS c s ⟨#[46]⟩=false)(h:aS c s ⟨#[123]⟩=true)(I:s.head=false)(D:bK out=some t)(e:dc F t c s=.ok n s1):aG F (g+1) out true c s=aG F g n false c s1:=by(conv=>lhs;unfold aG);rw[d5 (by rw[N];decide),d5 (by rw[M];decide),d5 (by rw[J];decide),gF (by rw[h,I];rfl),D];simp only;rw[e];rfl
theorem Mx{lf:List TK}{f:Nd}{L:List (List TK×Nd)}(a:Int)(hF:sX c m lf (fun n _=>co n f) head)(hL:Bc c ⟨#[41]⟩ L):
  sX c m (lf++((6,(⟨#[40]⟩:BA))::(fg cX (L.map (·.1))++[(6,(⟨#[41]⟩:BA))]))) (fun n _=>co n (.mk 21 ⟨#[]⟩ (f::L.map (·.2)) a)) head:=by intro G s r g ha hh hp N hb;(have e:lf++((6,(⟨#[40]⟩:BA))::(fg cX (L.map (·.1))++[(6,(⟨#[41]⟩:BA))]))++r=lf++((6,(⟨#[40]⟩:BA))::(fg cX (L.map (·.1))++((6,(⟨#[41]⟩:BA))::r))):=by simp);rw[e]at ha;obtain⟨U,b0,s0,M,b1,I,O,e1,e2,q1,D,q3,q4,q5⟩:=hF G s _ g ha hh hp N hb;obtain⟨J,rfl⟩:∃J,O=J+1:=⟨O-1,by omega⟩;have ga:=iY ha D;obtain⟨f1,f2⟩:=(N.le (s':=I) (by omega)).adv D;obtain⟨l',h,e3,p1,p2,p3,p4⟩:=CS (G:=G) (by decide) (by decide) (we false) hL D.adv q4 (f2.more (by omega));refine⟨U,b0,s0,.mk 21 ⟨#[]⟩ (M::l') M.pos,false,h,J,e1,e2.trans (Fj (D.yes (by decide)) e3),co.mk (bF.cons q1 p1) _ _,p2,p3.trans q3,p4,?_⟩;have h1:=D.adv.len;have h2:=p2.len;have h3:(adv I).at_=I.at_+1:=rfl;simp at h1;omega
def GZ(c:Cx)(l:List TK)(Q:Nd->Prop):Prop:=∀G s r,At c s (l++r)->s.head=false->s.part=(s.at_:Int)->Fu c 2 G s->(et r=cX\/et r=(6,(⟨#[93]⟩:BA)))->AU c s r Q (-1) ((di G).expr c s)
theorem Ba.br{l:List TK}{Q:Nd->Prop}(h:Ba c true l Q false):GZ c l Q:=fun G s r a b p d e=>h G s r a b ⟨Int.le_of_eq p,fun _=>p⟩ d (o8 e (wg false))
def Eo(c:Cx)(Q:Nd->Nd->Prop)(L:List (List TK×Nd)):Prop:=∀x∈L,cW (et x.1) ⟨#[93]⟩=false/\x.1≠[]/\GZ c x.1 (fun n'=>Q n' x.2)
theorem Bd{G:Nat}{Q:Nd->Nd->Prop}{L:List (List TK×Nd)}(D:Eo c Q L){s:St}{r:List TK}
  (h:At c s (fg cX (L.map (·.1))++((6,(⟨#[93]⟩:BA))::r)))(I:s.part = -1)(J:Fu c 2 G s):
  ∃l' s',ct (a6 (cY (di G)) ⟨#[93]⟩ (di G).g []) c s=.ok l' s'/\iW Q l' (L.map (·.2))/\At c s' r/\s'.head=s.head/\s'.part = -1:=
 CR (part:=cY (di G)) Q (by decide) (by decide) L h I J fun x hx=>⟨(D x hx).1,(D x hx).2.1,fun s r a b d e f=>(D x hx).2.2 G { s with part:=(s.at_:Int) } r a b rfl e f⟩
theorem yS{lf:List TK}{P:Nd->Bool->Prop}{Q:Nd->Nd->Prop}{Q':Nd->Bool->Prop}{L:List (List TK×Nd)}(M:L≠[])(hF:sX c m lf P head)(hL:Eo c Q L)
  (hQ:∀n b l p,P n b->iW Q l (L.map (·.2))->Q' (.mk 22 ⟨#[]⟩ (n::l) p) b):
  sX c m (lf++((6,(⟨#[91]⟩:BA))::(fg cX (L.map (·.1))++[(6,(⟨#[93]⟩:BA))]))) Q' head:=by
 intro G s r g ha hh hp h hb;(have e:lf++((6,(⟨#[91]⟩:BA))::(fg cX (L.map (·.1))++[(6,(⟨#[93]⟩:BA))]))++r=lf++((6,(⟨#[91]⟩:BA))::(fg cX (L.map (·.1))++((6,(⟨#[93]⟩:BA))::r))):=by simp);rw[e]at ha;obtain⟨x0,b0,s0,U,b1,I,g1,e1,e2,q1,D,q3,q4,q5⟩:=hF G s _ g ha hh hp h hb;obtain⟨O,rfl⟩:∃O,g1=O+1:=⟨g1-1,by omega⟩;have ga:=iY ha D;obtain⟨f1,f2⟩:=(h.le (s':=I) (by omega)).adv D;obtain⟨l',s2,e3,J,p2,p3,p4⟩:=Bd (G:=G) hL D.adv q4 (f2.more (by omega));have N:l'≠[]:=by
  rintro rfl;cases L with
  |nil=>exact M rfl
  |cons y L=>rw[kE]at J;cases J
 refine⟨x0,b0,s0,.mk 22 ⟨#[]⟩ (U::l') U.pos,b1,s2,O,e1,e2.trans (Mv (Bool.eq_false_iff.2 (D.no (by decide))) (D.yes (by decide)) e3 N),hQ _ _ _ _ q1 J,p2,p3.trans q3,p4,?_⟩;have h1:=D.adv.len;have h2:=p2.len;have h3:(adv I).at_=I.at_+1:=rfl;simp at h1;omega
theorem yT{lf:List TK}{f:Nd}{x:ByteArray}(a:Int)(hF:sX c m lf (fun n _=>co n f) head):sX c m (lf++[(6,(⟨#[46]⟩:BA)),(1,x)]) (fun n _=>co n (.mk 23 x [f] a)) head:=by intro G s r g ha hh hp hf hb;(have e:lf++[((6:Int),(⟨#[46]⟩:BA)),(1,x)]++r=lf++((6,(⟨#[46]⟩:BA))::(1,x)::r):=by simp);rw[e]at ha;obtain⟨O,b0,U,M,b1,I,N,e1,e2,q1,D,q3,h,q5⟩:=hF G s _ g ha hh hp hf hb;obtain⟨J,rfl⟩:∃J,N=J+1:=⟨N-1,by omega⟩;refine⟨O,b0,U,.mk 23 x [M] M.pos,false,adv (adv I),J,e1,e2.trans (Mw (Bool.eq_false_iff.2 (D.no (by decide))) (Bool.eq_false_iff.2 (D.no (by decide))) (D.yes (by decide)) (t6 D.adv)),co.mk (bF.one q1) _ _,D.adv.adv,q3,h,?_⟩;have h1:=D.len;have h3:(adv (adv I)).at_=I.at_+1+1:=rfl;simp at h1;omega
theorem Fk{G:Nat}{t D:Nd}{L:List (List TK×Nd)}(a:Int)(M:co t D)(U:Bc c ⟨#[125]⟩ L){s:St}{r:List TK}(h:At c s ((6,(⟨#[123]⟩:BA))::(fg cX (L.map (·.1))++((6,(⟨#[125]⟩:BA))::r))))(N:s.part = -1)(O:Fu c 1 G s):
  AU c s r (fun n'=>co n' (.mk 24 ⟨#[]⟩ (D::L.map (·.2)) a)) (-1) (dc (di G) t c s):=by obtain⟨f1,f2⟩:=O.adv h;obtain⟨l',I,e3,J,p2,p3,p4⟩:=CS (G:=G) (by decide) (by decide) (Mt false) U h.adv N (f2.more (by omega));unfold dc;rw[fN h ⟨#[123]⟩ (by decide),cC.bind_ok,e3,cC.bind_ok];exact⟨_,I,rfl,co.mk (bF.cons M J) _ _,p2,p3,p4⟩
end
end
end Go.Proofs.YtiebcdeafofgdaaGreatDoor
