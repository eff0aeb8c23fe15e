/-
  Parts of the proof: Ppj Ppk. By an AI agent.
-/
import Derived.Test.YteialcjaiocjdaaGreatDoorJ38
import Derived.Test.YteialcjaiocjdaaGreatDoorJ34
import Derived.Test.YteialcjaiocjdaaGreatDoorJ33
namespace Go.Proofs.YteialcjaiocjdaaGreatDoor
section
def BF:TK:=(6,(⟨#[10]⟩:BA))
theorem un(h:Bool):fS h BF:=by cases h<;>exact iH (by decide +kernel) (by decide +kernel) (by decide +kernel) (by decide +kernel) (by decide +kernel) (by decide +kernel)
theorem PO(h:Bool):fS h (6,(⟨#[61]⟩:BA)):=by cases h<;>exact iH (by decide +kernel) (by decide +kernel) (by decide +kernel) (by decide +kernel) (by decide +kernel) (by decide +kernel)
theorem MZ(h:Bool):fS h (6,(⟨#[58,61]⟩:BA)):=by cases h<;>exact iH (by decide +kernel) (by decide +kernel) (by decide +kernel) (by decide +kernel) (by decide +kernel) (by decide +kernel)
theorem M0(h:Bool):fS h (6,(⟨#[43,43]⟩:BA)):=by cases h<;>exact iH (by decide +kernel) (by decide +kernel) (by decide +kernel) (by decide +kernel) (by decide +kernel) (by decide +kernel)
theorem M1(h:Bool):fS h (6,(⟨#[45,45]⟩:BA)):=by cases h<;>exact iH (by decide +kernel) (by decide +kernel) (by decide +kernel) (by decide +kernel) (by decide +kernel) (by decide +kernel)
theorem Au(h:Bool):fS h (6,(⟨#[59]⟩:BA)):=by cases h<;>exact iH (by decide +kernel) (by decide +kernel) (by decide +kernel) (by decide +kernel) (by decide +kernel) (by decide +kernel)
theorem oD:fS true (6,(⟨#[123]⟩:BA)):=iH (by decide +kernel) (by decide +kernel) (by decide +kernel) (by decide +kernel) (by decide +kernel) (by decide +kernel)
def DP(c:Cx)(f:Nat->R Nd)(k:Nat)(l:List TK)(n:Nd):Prop:=∀G s r,At c s (l++r)->s.head=false->s.part = -1->Fu c k G s->dS r=BF->nO c s r n (-1) (f G c s)
section
variable {c:Cx} {d:Nat} (hE:wG c d)
include hE
theorem mJ{n:Nd}(h:(aa d).expr n=true):n.kind≠0:=by have:=sC hE h;omega
omit hE in
theorem SN{n:Nd}(h:(aa d).typ n=true):n.kind≠0:=by have:=typ_kind h;omega
theorem oE{n:Nd}(deep:Nat){head:Bool}(I:(aa d).expr n=true){G:Nat}{s:St}{r:List TK}(h:At c s (aG ((ac d).expr n deep head)++r))(J:s.head=head)(D:s.part = -1)(M:Fu c 2 G s)(hs:fS head (dS r)):nO c s r n (-1) ((cI G).expr c s):=
 (hE n deep head false I).exp G s r h J (p6.no D) M hs
theorem FW{n:Nd}(deep:Nat)(hn:iL (aa d) n=true):DP c (fun G=>d7 (cI G)) 2 (aG (pl (ac d) n deep)) n:=by
 intro G s r h hh hp hf hr;unfold iL at hn;rw[gA]at hn;obtain⟨x,l,a,rfl,hx,h0⟩:=aJ (by decide) hn.1;obtain⟨t,v,rfl,M,N⟩:=iO h0;(have gg:an t=true->an v=true->False:=fun h1 h2=>by have J:=hn.2;show False;rw[show(Nd.mk 5 x [t,v] a).kids.getD 0 cc=t from rfl,show(Nd.mk 5 x [t,v] a).kids.getD 1 cc=v from rfl,h1,h2]at J;cases J);unfold ck at M N;rw[gI]at M N;(have e:aG (pl (ac d) (.mk 5 x [t,v] a) deep)++r=(2,(⟨#[118,97,114]⟩:BA))::(1,x)::(aG (if t.kind=0 then[]else aY::ag d t)++(aG (if v.kind=0 then[]else aY::cK 61::aY::(ac d).expr v deep false)++r)):=by show aG (f8 ⟨#[118,97,114]⟩::aY::iq x::((if t.kind=0 then[]else aY::(ac d).typ t)++(if v.kind=0 then[]else aY::cK 61::aY::(ac d).expr v deep false)))++r=_;rw[dM];show(2,dx (bytes ⟨#[118,97,114]⟩))::(aG (iq x::_)++r)=_;rw[iP,aX,cH,jJ,gL]);rw[e]at h;obtain⟨f1,f2⟩:=hf.adv h;have D:=h.adv.adv;have f3:Fu c 2 G (adv (adv s)):=hf.le (by show s.at_<=s.at_+1+1;omega);show nO c s r _ (-1) (d7 (cI G) c s);unfold d7;rw[eX h ⟨#[118,97,114]⟩ (by decide),bQ.bind_ok,lQ h.adv,bQ.bind_ok];have O:∀(t':Nd)(I:St),ci t' t->At c I (aG (if v.kind=0 then[]else aY::cK 61::aY::(ac d).expr v deep false)++r)->I.head=s.head->I.part = -1->Fu c 2 G I->(an v=true->(t'=t'/\True)) ->
   nO c s r (.mk 5 x [t,v] a) (-1) (if aP c I ⟨#[61]⟩then((cI G).expr c (adv I)).bind fun v s4=>.ok (.mk 5 x [t',v] (aD c s)) s4 else .ok (.mk 5 x [t',cc] (aD c s)) I):=by
  intro t' I ht' J U gb gh _;rcases N with N|N
  ·obtain⟨a',rfl⟩:=bN N;have J:At c I r:=J;rw[gB (by rw[J.is,hr];decide)];exact⟨_,I,rfl,ci.mk (bi.cons ht' (bi.one (fc a'))) _ _,J,U,gb⟩
  ·rw[gB (mJ hE N)]at J;have J:At c I ((6,(⟨#[61]⟩:BA))::(aG ((ac d).expr v deep false)++r)):=J;obtain⟨v',s4,g1,g2,g3,g4,g5⟩:=oE hE deep N J.adv (U.trans hh) gb (gh.le (jN _)) (by rw[hr];exact un _);rw[gG (J.yes (by decide)),g1,bQ.bind_ok];exact⟨_,s4,rfl,ci.mk (bi.cons ht' (bi.one g2)) _ _,g3,g4.trans U,g5⟩
 rcases M with M|M
 ·obtain⟨a',rfl⟩:=bN M;have gd:(aa d).expr v=true:=N.resolve_left fun h=>gg M h;have h2:At c (adv (adv s)) (aG (if v.kind=0 then[]else aY::cK 61::aY::(ac d).expr v deep false)++r):=D;have ga:=O cc _ (fc a') h2 rfl hp f3 (fun _=>⟨rfl,trivial⟩);rw[gB (mJ hE gd)]at h2;have h2:At c (adv (adv s)) ((6,(⟨#[61]⟩:BA))::(aG ((ac d).expr v deep false)++r)):=h2;rw[gG (h2.yes (by decide))]at ga |-;exact ga
 ·rw[gB (SN M)]at D;have D:At c (adv (adv s)) (aG (ag d t)++(aG (if v.kind=0 then[]else aY::cK 61::aY::(ac d).expr v deep false)++r)):=D;obtain⟨t0,q0,e0,gi⟩:=f9 M;(have ge:aP c (adv (adv s)) ⟨#[61]⟩=false:=by rw[D.is,e0];exact bU gi _ (by decide) (by decide) (by decide) (by decide) (by decide));rw[gB (by rw[ge];decide)];have hb:dq (dS (aG (if v.kind=0 then[]else aY::cK 61::aY::(ac d).expr v deep false)++r))=false:=by
   split
   ·show dq (dS r)=false;rw[hr];decide +kernel
   ·show dq (6,(⟨#[61]⟩:BA))=false;decide +kernel
  obtain⟨t',I,g1,g2,g3,g4,g5⟩:=ia d G t M _ _ D hb (by have:=f3;unfold Fu at *;omega);rw[g1,bQ.bind_ok];exact O t' I g2 g3 g4 (g5.trans hp) (f3.le (by have:=fI D g3;omega)) (fun _=>⟨rfl,trivial⟩)
def Av(head:Bool)(t:TK):Prop:=fS head t/\cD t ⟨#[61]⟩=false/\cD t ⟨#[43,43]⟩=false/\cD t ⟨#[45,45]⟩=false
def T6(c:Cx)(l:List TK)(n:Nd)(head:Bool):Prop:=∀G s r,At c s (l++r)->s.head=head->s.part = -1->Fu c 2 G s->Av head (dS r) ->
 ∃x s1,(cI G).expr c s=.ok x s1/\(n.kind≠29->aP c s1 ⟨#[123]⟩=false)/\∀p,nO c s r n (-1) (ic (cI G) p x c s1)
def dr(F:cm)(n:Nd):Bool:=dz F n||(fz F n||(fy F n||fd F n))
theorem BG{n:Nd}(deep:Nat)(head:Bool)(I:dr (aa d) n=true):T6 c (aG (cv (ac d) n deep head)) n head:=by
 intro G s r h hh hp hf hr;unfold dr at I;rw[gI,gI,gI]at I;(have gb:1<=G:=by unfold Fu at hf;omega);rcases I with I|I|I|I
 ·obtain⟨x,l,a,rfl,O,h0⟩:=aJ (by decide) I;obtain⟨v,rfl,hv⟩:=dW h0;unfold cj at O;rw[gA,gD]at O;(have e:aG (cv (ac d) (.mk 26 x [v] a) deep head)++r=(1,x)::(6,(⟨#[58,61]⟩:BA))::(aG ((ac d).expr v deep head)++r):=by show aG (iq x::aY::ow ⟨#[58,61]⟩::aY::(ac d).expr v deep head)++r=_;rw[iP];show(1,x)::(aG (ow ⟨#[58,61]⟩::aY::(ac d).expr v deep head)++r)=_;rw[ta];rfl);rw[e]at h;have ga:=rM (wE (c:=c) (m:=false) (head:=head) (Q:=fun n=>ci n (.mk 18 x [] 0)) ((sB x 0).mono fun n b h=>h.1) ⟨rfl,rfl⟩ (by simp)) G s _ (show At c s ([(1,x)]++_)from h) hh (p6.no hp) hf (MZ head);obtain⟨y,M,g1,J,D,N,g5⟩:=ga;refine⟨y,M,g1,fun _=>Bool.eq_false_iff.2 (D.no (by decide)),fun p=>?_⟩;obtain⟨v',s2,p1,p2,p3,p4,p5⟩:=oE hE deep hv D.adv (N.trans hh) g5 (hf.le (by have:=fI (a:=[(1,x)]) h D;show s.at_<=M.at_+1;omega)) hr.1;unfold ic;rw[gG ⟨J.kind,by rw[J.text];exact O.2,D.yes (by decide)⟩,p1,bQ.bind_ok,J.text];exact⟨_,s2,rfl,ci.mk (bi.one p2) _ _,p3,p4.trans N,p5⟩
 ·obtain⟨l,a,rfl,h0⟩:=cg I;obtain⟨y,v,rfl,U,hv⟩:=iO h0;(have e:aG (cv (ac d) (.mk 27 ⟨#[]⟩ [y,v] a) deep head)++r=aG ((ac d).expr y deep head)++((6,(⟨#[61]⟩:BA))::(aG ((ac d).expr v deep head)++r)):=by show aG ((ac d).expr y deep head++(aY::cK 61::aY::(ac d).expr v deep head))++r=_;rw[aX,gL];rfl);rw[e]at h;obtain⟨y',M,g1,J,D,N,g5⟩:=oE hE deep U h hh hp hf (PO head);refine⟨y',M,g1,fun _=>Bool.eq_false_iff.2 (D.no (by decide)),fun p=>?_⟩;obtain⟨v',s2,p1,p2,p3,p4,p5⟩:=oE hE deep hv D.adv (N.trans hh) g5 (hf.le (by have:=fI h D;show s.at_<=M.at_+1;omega)) hr.1;unfold ic;rw[gB (fun h=>D.no (by decide) h.2.2),gG (D.yes (by decide)),p1,bQ.bind_ok];exact⟨_,s2,rfl,ci.mk (bi.cons J (bi.one p2)) _ _,p3,p4.trans N,p5⟩
 ·obtain⟨x,l,a,rfl,O,h0⟩:=aJ (by decide) I;obtain⟨y,rfl,U⟩:=dW h0;unfold ix at O;rw[gI,gD,gD]at O;(have e:aG (cv (ac d) (.mk 28 x [y] a) deep head)++r=aG ((ac d).expr y deep head)++((6,x)::r):=by show aG ((ac d).expr y deep head++[ow x])++r=_;rw[aX,ta,gL];rfl);rw[e]at h;obtain⟨y',M,g1,J,D,N,g5⟩:=oE hE deep U h hh hp hf (by rcases O with rfl|rfl;exact M0 _;exact M1 _);refine⟨y',M,g1,fun _=>Bool.eq_false_iff.2 (D.no (by rcases O with rfl|rfl<;>decide)),fun p=>?_⟩;unfold ic;rcases O with rfl|rfl
  ·rw[gB (fun h=>D.no (by decide) h.2.2),gB (D.no (by decide)),gG (D.yes (by decide))];exact⟨_,_,rfl,ci.mk (bi.one J) _ _,D.adv,N,g5⟩
  ·rw[gB (fun h=>D.no (by decide) h.2.2),gB (D.no (by decide)),gB (D.no (by decide)),gG (D.yes (by decide))];exact⟨_,_,rfl,ci.mk (bi.one J) _ _,D.adv,N,g5⟩
 ·obtain⟨l,a,rfl,h0⟩:=cg I;obtain⟨y,rfl,U⟩:=dW h0;unfold iS at U;rw[gA,gD]at U;have h:At c s (aG ((ac d).expr y deep head)++r):=h;obtain⟨y',M,g1,J,D,N,g5⟩:=oE hE deep U.2 h hh hp hf hr.1;refine⟨y',M,g1,fun h=>absurd rfl h,fun p=>?_⟩;have hk:y'.kind=21:=J.kind.trans U.1;unfold ic;rw[gB (fun h=>by rw[hk]at h;exact absurd h.1 (by decide)),gB (by rw[D.is,hr.2.1];decide),gB (by rw[D.is,hr.2.2.1];decide),gB (by rw[D.is,hr.2.2.2];decide),gG hk];exact⟨_,M,rfl,ci.mk (bi.one J) _ _,D,N,g5⟩
end
def Ir(t:TK):Prop:=cD t ⟨#[125]⟩=false/\cD t ⟨#[59]⟩=false/\cD t ⟨#[10]⟩=false
theorem R4{t:TK}(h:dq t=true):Ir t:=⟨bU h _ (by decide) (by decide) (by decide) (by decide) (by decide),bU h _ (by decide) (by decide) (by decide) (by decide) (by decide),bU h _ (by decide) (by decide) (by decide) (by decide) (by decide)⟩
def Is(c:Cx)(d:Nat):Prop:=∀n deep,(aa d).stmt n=true->(∃t q,aG ((ac d).stmt n deep false)=t::q/\Ir t)/\DP c (fun G=>(cI G).stmt) 3 (aG ((ac d).stmt n deep false)) n
section
variable {c:Cx} {d:Nat}
theorem uo{s:St}{r:List TK}(h:At c s (BF::r)):d6 c s=true:=by unfold d6;rw[h.yes (x:=(⟨#[10]⟩:BA)) (by decide)];simp
theorem tW(hS:Is c d)(deep:Nat)(p:Int){G:Nat}:∀(l:List Nd)(g:Nat)(acc acc':List Nd)(s:St)(r:List TK),l.all (aa d).stmt=true ->
  At c s (l.flatMap (fun x=>aG ((ac d).stmt x deep false)++[BF])++((6,(⟨#[125]⟩:BA))::r))->s.head=false->s.part = -1->Fu c 3 G s->c.toks.length-s.at_<g->bi acc' acc ->
  wt c s r (fun n'=>∃l',n'=.mk 36 ⟨#[]⟩ l' p/\bi l' (acc++l)) (-1) (cS (cI G) p g acc' c s)
 |_,0,_,_,_,_,_,_,_,_,_,U,_=>absurd U (by omega)
 |[],g+1,acc,acc',s,r,_,h,O,M,_,_,ha=>by have h:At c s ((6,(⟨#[125]⟩:BA))::r):=h;unfold cS;rw[gG (h.yes (by decide))];exact⟨_,_,rfl,⟨acc',rfl,by rwa [kE]⟩,h.adv,rfl,M⟩
 |x::l,g+1,acc,acc',s,r,N,h,O,M,hf,U,ha=>by
  rw[jX,gA]at N;obtain⟨⟨t,q,e1,b1,b2,b3⟩,hx⟩:=hS x deep N.1;rw[jE,gL,gL]at h;have I:=h;rw[e1]at I;unfold cS;rw[gB (by rw[I.is];show ¬ cD t ⟨#[125]⟩=true;rw[b1];decide),gB]
  ·obtain⟨n',D,g1,g2,J,g4,g5⟩:=hx G s _ h O M hf rfl;have ga:=fI h J;rw[show(cI G).stmt c s=.ok n' D from g1,bQ.bind_ok,gG (uo J)];(have hb:c.toks.length-(adv D).at_<g:=by have:=J.len;simp at this;show c.toks.length-(D.at_+1)<g;omega);obtain⟨n2,s2,k1,⟨l',k2,k3⟩,k4,k5,k6⟩:=tW hS deep p l g (acc++[x]) (acc'++[n']) (adv D) r N.2 J.adv (g4.trans O) g5 (hf.le (by show s.at_<=D.at_+1;omega)) hb (ha.app (bi.one g2));exact⟨n2,s2,k1,⟨l',k2,by simpa using k3⟩,k4,k5.trans g4,k6⟩
  ·unfold d6;rw[I.is,I.is];show ¬ (cD t ⟨#[59]⟩||cD t ⟨#[10]⟩)=true;rw[b2,b3];decide
theorem BH:∀n,aG (mP n)=[]
 |0=>rfl
 |n+1=>BH n
theorem sD{α:Type}(f:α->List It):∀l:List α,aG (l.flatMap f)=l.flatMap fun x=>aG (f x)
 |[]=>rfl
 |x::l=>by rw[jE,jE,aX,sD f l]
theorem wH(n:Nd)(deep:Nat):aG (oT (ac d) n deep)=(6,(⟨#[123]⟩:BA))::(n.kids.flatMap (fun x=>aG ((ac d).stmt x (deep+1) false)++[BF])++[(6,(⟨#[125]⟩:BA))]):=by unfold oT;rw[lF];show _::aG (n.kids.flatMap _++(mP deep++[cK 125]))=_;rw[aX,aX,BH,sD];congr 2;refine jM (fun f=>n.kids.flatMap f) (funext fun x=>?_);rw[aX,aX,BH];rfl
theorem FX(hS:Is c d){n:Nd}(deep:Nat)(D:bI (aa d) n=true):PM c (aG (oT (ac d) n deep)) n:=by intro G s r h hp hf;obtain⟨k,t,l,a⟩:=n;unfold bI at D;rw[gA,gA,gD,gD]at D;obtain⟨hk,ht,hl⟩:=D;obtain rfl:k=36:=hk;obtain rfl:t=(⟨#[]⟩:BA):=ht;rw[wH]at h;have h:At c s ((6,(⟨#[123]⟩:BA))::(l.flatMap (fun x=>aG ((ac d).stmt x (deep+1) false)++[BF])++[(6,(⟨#[125]⟩:BA))]++r)):=h;rw[gL]at h;obtain⟨f1,f2⟩:=hf.adv h;have I:At c { s with head:=false } ((6,(⟨#[123]⟩:BA))::(l.flatMap (fun x=>aG ((ac d).stmt x (deep+1) false)++[BF])++([(6,(⟨#[125]⟩:BA))]++r))):=h;obtain⟨M,J,k1,⟨l',k2,U⟩,O,k5,N⟩:=tW hS (deep+1) (aD c { s with head:=false }) (G:=G) l G [] [] (adv { s with head:=false }) r hl I.adv rfl hp (f2.more (by omega)) (by have:=I.len;simp at this;unfold Fu at hf;show c.toks.length-(s.at_+1)<G;omega) bi.nil;(have e:bH (cI G) c s=.ok M { J with head:=s.head } :=by refine BD ?_;unfold mR;rw[eX I ⟨#[123]⟩ (by decide),bQ.bind_ok,nP];exact k1);subst k2;exact⟨_,_,e,ci.mk U _ _,O,rfl,N⟩
theorem M2(D:Is c d):Dm c (d+1):=fun n deep hn=>⟨_,wH n deep,by rw[<-wH];exact FX D deep hn⟩
theorem up{α:Type}{p:R α}{s s1:St}{a:α}(h:p c { s with head:=true }=.ok a s1):db p c s=.ok a { s1 with head:=s.head } :=by unfold db;rw[h];rfl
theorem wI(hE:wG c d){n:Nd}(deep:Nat)(I:(aa d).expr n=true){G:Nat}{s:St}{r:List TK}(h:At c s (aG ((ac d).expr n deep true)++r))(D:s.part = -1)(J:Fu c 2 G s)(hs:fS true (dS r)):nO c s r n (-1) (db (cI G).expr c s):=by obtain⟨n',U,e,O,N,g4,M⟩:=oE hE deep I (s:={ s with head:=true }) h rfl D J hs;exact⟨n',_,up e,O,N,rfl,M⟩
def TT(c:Cx)(d:Nat):Prop:=∀n deep,(aa d).ifS n=true->n.kind=30/\DP c (fun G=>(cI G).ifS) 3 (aG ((ac d).stmt n deep false)) n
theorem M3(hE:wG c d)(hB:Dm c d)(hI:TT c d)(ge:∀n deep,(aa d).block n=true->aG ((ac d).stmt n deep false)=aG ((ac d).block n deep)){n:Nd}(deep:Nat)(hn:AQ (aa d) n=true):DP c (fun G=>I3 (cI G)) 2 (aG (cv (ac d) n deep false)) n:=by
 intro G s r h hh hp hf hr;obtain⟨l,a,rfl,h0⟩:=cg hn;obtain⟨x,b,o,rfl,hx,hb,I⟩:=CY h0;obtain⟨lb,eb,gd⟩:=hB b deep hb;(have e:aG (cv (ac d) (.mk 30 ⟨#[]⟩ [x,b,o] a) deep false)++r=(2,(⟨#[105,102]⟩:BA))::(aG ((ac d).expr x deep true)++((6,(⟨#[123]⟩:BA))::(lb++(aG (if o.kind=0 then[]else aY::f8 ⟨#[101,108,115,101]⟩::aY::(ac d).stmt o deep false)++r)))):=by show aG (f8 ⟨#[105,102]⟩::aY::((ac d).expr x deep true++(aY::((ac d).block b deep++(if o.kind=0 then[]else aY::f8 ⟨#[101,108,115,101]⟩::aY::(ac d).stmt o deep false)))))++r=_;show(2,dx (bytes ⟨#[105,102]⟩))::(aG ((ac d).expr x deep true++(aY::((ac d).block b deep++(if o.kind=0 then[]else aY::f8 ⟨#[101,108,115,101]⟩::aY::(ac d).stmt o deep false))))++r)=_;rw[cH,aX];show _::(_++aG ((ac d).block b deep++_)++r)=_;rw[aX,eb,gL,jJ,jJ,gL]);rw[e]at h;obtain⟨f1,f2⟩:=hf.adv h;show nO c s r _ (-1) (I3 (cI G) c s);unfold I3;rw[eX h ⟨#[105,102]⟩ (by decide),bQ.bind_ok];obtain⟨x',s1,g1,g2,g3,g4,g5⟩:=wI hE deep hx (G:=G) h.adv hp (f2.more (by omega)) oD;rw[g1,bQ.bind_ok];have l1:=fI h.adv g3;obtain⟨b',J,k1,k2,D,k4,k5⟩:=gd G s1 _ g3 g5 (by have:(adv s).at_=s.at_+1:=rfl;unfold Fu at *;omega);rw[k1,bQ.bind_ok];have l2:=fI (a:=(6,(⟨#[123]⟩:BA))::lb) g3 D;have ea:(adv s).at_=s.at_+1:=rfl;unfold ck at I;rw[gI,gI]at I;rcases I with(I|I)|I
 ·obtain⟨a',rfl⟩:=bN I;have D:At c J r:=D;rw[gB (by rw[D.is,hr];decide)];exact⟨_,J,rfl,ci.mk (bi.cons g2 (bi.cons k2 (bi.one (fc a')))) _ _,D,k4.trans g4,k5⟩
 ·have M:o.kind=36:=by
   cases d with
   |zero=>cases I
   |succ d=>have I:bI (aa d) o=true:=I;unfold bI at I;rw[gA,gD]at I;exact I.1
  obtain⟨lo,eo,N⟩:=hB o deep I;rw[gB (by rw[M];decide)]at D;have D:At c J ((2,dx (bytes ⟨#[101,108,115,101]⟩))::(aG ((ac d).stmt o deep false)++r)):=D;rw[cH,ge o deep I,eo]at D;have U:At c (adv J) ((6,(⟨#[123]⟩:BA))::(lo++r)):=D.adv;rw[gG (D.yes (by decide)),gB (U.no (by decide))];obtain⟨o',s3,q1,q2,q3,q4,q5⟩:=N G (adv J) r U k5 (by have:(adv J).at_=J.at_+1:=rfl;unfold Fu at *;omega);rw[q1,bQ.bind_ok];exact⟨_,s3,rfl,ci.mk (bi.cons g2 (bi.cons k2 (bi.one q2))) _ _,q3,q4.trans (k4.trans g4),q5⟩
 ·obtain⟨M,N⟩:=hI o deep I;rw[gB (by rw[M];decide)]at D;have D:At c J ((2,dx (bytes ⟨#[101,108,115,101]⟩))::(aG ((ac d).stmt o deep false)++r)):=D;rw[cH]at D;have gb:∃q,aG ((ac d).stmt o deep false)=(2,(⟨#[105,102]⟩:BA))::q:=by
   cases d with
   |zero=>cases I
   |succ d=>show ∃q,aG (cv (ac d) o deep false)=_;unfold cv;rw[gB (by rw[M];decide),gB (by rw[M];decide),gB (by rw[M];decide),gB (by rw[M];decide),gB (by rw[M];decide),gG M];exact⟨_,rfl⟩
  obtain⟨q,eq⟩:=gb;have O:=D.adv;rw[eq]at O;rw[gG (D.yes (by decide)),gG (O.yes (by decide))];have ga:=D.len;obtain⟨o',s3,q1,q2,q3,q4,q5⟩:=N G (adv J) r D.adv (k4.trans (g4.trans hh)) k5 (by have:(adv J).at_=J.at_+1:=rfl;simp at ga;unfold Fu at *;omega) hr;rw[show(cI G).ifS c (adv J)=.ok o' s3 from q1,bQ.bind_ok];exact⟨_,s3,rfl,ci.mk (bi.cons g2 (bi.cons k2 (bi.one q2))) _ _,q3,q4.trans (k4.trans g4),q5⟩
end
end
section
open Go.Lib
theorem rO(t:ef)(r:List ef):bytes (r.foldl (fun a u=>a++(⟨#[32]⟩:BA)++u.text) t.text)=bytes t.text++r.flatMap fun u=>32::bytes u.text:=by
 suffices h:∀(r:List ef)(x:ByteArray),bytes (r.foldl (fun a u=>a++(⟨#[32]⟩:BA)++u.text) x)=bytes x++r.flatMap (fun u=>32::bytes u.text)from h r _;intro r;induction r with
 |nil=>intro x;simp
 |cons u r ih=>intro x;rw[vd,ih,jE,aV,aV,gL,gL];rfl
theorem oG{a b:ef}{r:List ef}{Z:ByteArray}{u:UInt8}{y:List UInt8}(M:u≠32)(I:bytes Z=bytes a.text++32::u::y)(h:dl (a::b::r)=Z):
  (bytes b.text).head? = some u/\(a::b::r).any (fun t=>t.kind==5)=false/\(b::r).flatMap (fun u=>32::bytes u.text)=32::u::y:=by
 unfold dl at h;split at h
 ·rw[<-h]at I;exact absurd (jM List.length I) (by simp[bytes])
 ·rename_i N;have h:((b::r).foldl (fun a u=>a++(⟨#[32]⟩:BA)++u.text) a.text)=Z:=h;have J:=jM bytes h;rw[rO,I]at J;have D:=List.append_cancel_left J;refine⟨?_,by simpa using N,D⟩;rw[jE,jJ]at D;injection D with _ D;cases hb:bytes b.text with
  |nil=>
   rw[hb]at D;cases r with
   |nil=>cases D
   |cons v r=>rw[jE]at D;injection D with D _;exact absurd D.symm M
  |cons v l=>rw[hb]at D;injection D with D _;rw[D];rfl
theorem At.two{c:Cx}{s:St}{a b:TK}{r:List TK}(h:At c s (a::b::r)):∃a' b' r',c.toks.drop s.at_=a'::b'::r'/\I5 a'=a/\I5 b'=b/\r'.map I5=r:=by
 have D:=h.2;cases I:c.toks.drop s.at_ with
 |nil=>rw[I]at D;cases D
 |cons a' l=>
  rw[I]at D;cases l with
  |nil=>cases D
  |cons b' l=>injection D with e1 D;injection D with e2 D;exact⟨a',b',l,rfl,e1,e2,D⟩
theorem F3{t:TK}(h:MW t=true):cD t ⟨#[114,97,110,103,101]⟩=false:=by
 unfold MW at h;unfold cD;rw[gI]at h;rcases h with h|h
 ·(have:t.1=5:=by simpa using h);rw[this];rfl
 ·(have:t.2≠(⟨#[114,97,110,103,101]⟩:BA):=by simpa using h);rw[gP this,jL]
section
variable {c:Cx} {s:St}
theorem mj{a:TK}{r:List TK}(h:At c s (a::r))(I:cD a ⟨#[114,97,110,103,101]⟩=false)(J:a.1≠1):bS c s=none:=by
 (have I:aP c s ⟨#[114,97,110,103,101]⟩=false:=by rw[h.is];exact I);unfold bS;rw[I];simp only[gW,jW];split
 ·rename_i a' b' d' r' hl;have D:=h.2;rw[hl]at D;injection D with D _;(have D:a'.kind≠1:=by rw[<-D]at J;exact J);rw[gB (fun h=>D h.1),gB (fun h=>D h.1)]
 ·rfl
theorem BK{a b:TK}{r:List TK}(h:At c s (a::b::r))(N:MW a=true)(hb:a.1=1->EK b.2=true):bS c s=none:=by
 by_cases M:a.1=1
 ·(have O:aP c s ⟨#[114,97,110,103,101]⟩=false:=by rw[h.is];exact F3 N);obtain⟨a',b',r',U,e1,e2,e3⟩:=h.two;have hb:=hb M;unfold bS;rw[O,U];simp only[gW,jW];(have D:b'.text=b.2:=by rw[<-e2];rfl);have no:∀{q Z u y},u=58\/u=44->bytes Z=bytes a'.text++32::u::y->¬ dl (a'::b'::q)=Z:=by
   intro q Z u y J hZ hc;have:=(oG (by rcases J with rfl|rfl<;>decide) hZ hc).1;rw[D]at this;unfold EK at hb;unfold bytes at this;rw[this]at hb;rcases J with rfl|rfl
   ·exact absurd hb (by decide)
   ·exact absurd hb (by decide)
  cases r' with
  |nil=>rfl
  |cons d' r'=>
   show(if _ then _ else _)=_;rw[gB,gB]
   ·rintro⟨-,-,-,I⟩;exact no (q:=d'::r'.take 2) (u:=44) (y:=32::bytes d'.text++bytes ⟨#[32,58,61,32,114,97,110,103,101]⟩) (.inr rfl) (by rw[aV,aV,aV,gL,gL]<;>rfl) I
   ·rintro⟨-,-,I⟩;exact no (q:=[d']) (u:=58) (y:=bytes ⟨#[61,32,114,97,110,103,101]⟩) (.inl rfl) (by rw[aV]<;>rfl) I
 ·exact mj h (F3 N) M
theorem BL{x:ByteArray}{t:TK}{r:List TK}(h:At c s ((1,x)::(6,(⟨#[58,61]⟩:BA))::t::r))(I:MW t=true):bS c s=none:=by
 (have hr:aP c s ⟨#[114,97,110,103,101]⟩=false:=by rw[h.is];rfl);obtain⟨a',b',r',hl,e1,e2,M⟩:=h.two;cases r' with
 |nil=>cases M
 | cons d' r'=>
  injection M with M _;unfold bS;rw[hr,hl];simp only[gW,jW];have J:b'.text=(⟨#[58,61]⟩:BA):=jM Prod.snd e2;have N:d'.text=t.2:=jM Prod.snd M;have O:d'.kind=t.1:=jM Prod.fst M;rw[gB,gB]
  ·rintro⟨-,-,-,U⟩;have:=(oG (b:=b') (r:=d'::r'.take 2) (u:=44) (y:=32::bytes d'.text++bytes ⟨#[32,58,61,32,114,97,110,103,101]⟩) (by decide) (by rw[aV,aV,aV,gL,gL]<;>rfl) U).1;rw[J]at this;exact absurd this (by decide +kernel)
  ·rintro⟨-,-,U⟩;obtain⟨-,h5,D⟩:=oG (b:=b') (r:=[d']) (u:=58) (y:=bytes ⟨#[61,32,114,97,110,103,101]⟩) (by decide) (by rw[aV]<;>rfl) U;rw[jE,J]at D;have D:32::58::61::32::(bytes d'.text++[])=32::58::bytes ⟨#[61,32,114,97,110,103,101]⟩:=D;(have h7:bytes d'.text=bytes ⟨#[114,97,110,103,101]⟩:=by rw[kE]at D;injection D with _ D;injection D with _ D;(have e:bytes ⟨#[61,32,114,97,110,103,101]⟩=61::32::bytes ⟨#[114,97,110,103,101]⟩:=by decide +kernel);rw[e]at D;injection D with _ D;injection D with _ D);have h8:=cQ h7;unfold MW at I;rw[gI]at I;rcases I with I|I
   ·rw[<-O]at I;rw[List.any_eq_false]at h5;exact absurd I (by simpa using h5 d' (by simp))
   ·rw[<-N,h8]at I;exact absurd I (by decide)
theorem ER{x:ByteArray}{r:List TK}(h:At c s ((1,x)::(6,(⟨#[58,61]⟩:BA))::(2,(⟨#[114,97,110,103,101]⟩:BA))::r))(O:x≠(⟨#[95]⟩:BA)):bS c s=some (x,{ s with at_:=s.at_+3 }):=by
 (have U:aP c s ⟨#[114,97,110,103,101]⟩=false:=by rw[h.is];rfl);obtain⟨a',b',r',hl,N,M,D⟩:=h.two;cases r' with
 |nil=>cases D
 |cons d' r'=>injection D with D _;unfold bS;rw[U,hl];simp only[gW,jW];have J:a'.kind=1:=jM Prod.fst N;have I:a'.text=x:=jM Prod.snd N;have h3:b'.kind=6:=jM Prod.fst M;have h4:b'.text=(⟨#[58,61]⟩:BA):=jM Prod.snd M;have h5:d'.kind=2:=jM Prod.fst D;have h6:d'.text=(⟨#[114,97,110,103,101]⟩:BA):=jM Prod.snd D;(have key:dl [a',b',d']=a'.text++(⟨#[32,58,61,32,114,97,110,103,101]⟩:BA):=by unfold dl;rw[gB (by simp[J,h3,h5])];refine cQ ?_;show bytes ([b',d'].foldl (fun a u=>a++(⟨#[32]⟩:BA)++u.text) a'.text)=_;rw[rO,aV];refine jM (bytes a'.text ++ ·) ?_;show(32::bytes b'.text)++((32::bytes d'.text)++[])=_;rw[h4,h6];decide +kernel);rw[gG ⟨J,by rw[I];exact O,key⟩,I]
theorem ES{x y:ByteArray}{r:List TK}(h:At c s ((1,x)::(6,(⟨#[44]⟩:BA))::(1,y)::(6,(⟨#[58,61]⟩:BA))::(2,(⟨#[114,97,110,103,101]⟩:BA))::r))(hy:y≠(⟨#[95]⟩:BA)):bS c s=some (x++(⟨#[44]⟩:BA)++y,{ s with at_:=s.at_+5 }):=by
 (have hr:aP c s ⟨#[114,97,110,103,101]⟩=false:=by rw[h.is];rfl);obtain⟨a',b',r',hl,e1,e2,J⟩:=h.two;cases r' with
 |nil=>cases J
 | cons d' r'=>
  injection J with J I;cases r' with
  |nil=>cases I
  |cons f' r'=>
   injection I with I D;cases r' with
   |nil=>cases D
   |cons g' r'=>injection D with D _;unfold bS;rw[hr,hl];simp only[gW,jW];have h1:a'.kind=1:=jM Prod.fst e1;have h2:a'.text=x:=jM Prod.snd e1;have h3:b'.kind=6:=jM Prod.fst e2;have h4:b'.text=(⟨#[44]⟩:BA):=jM Prod.snd e2;have U:d'.kind=1:=jM Prod.fst J;have O:d'.text=y:=jM Prod.snd J;have h7:f'.kind=6:=jM Prod.fst I;have h8:f'.text=(⟨#[58,61]⟩:BA):=jM Prod.snd I;have h9:g'.kind=2:=jM Prod.fst D;have N:g'.text=(⟨#[114,97,110,103,101]⟩:BA):=jM Prod.snd D;(have key:dl [a',b',d',f',g']=a'.text++(⟨#[32,44,32]⟩:BA)++d'.text++(⟨#[32,58,61,32,114,97,110,103,101]⟩:BA):=by unfold dl;rw[gB (by simp[h1,h3,U,h7,h9])];refine cQ ?_;show bytes ([b',d',f',g'].foldl (fun a u=>a++(⟨#[32]⟩:BA)++u.text) a'.text)=_;rw[rO,aV,aV,aV,gL,gL];refine jM (bytes a'.text ++ ·) ?_;show(32::bytes b'.text)++((32::bytes d'.text)++((32::bytes f'.text)++((32::bytes g'.text)++[])))=_;rw[h4,h8,N];show 32::44::32::(bytes d'.text++(32::bytes ⟨#[58,61]⟩++(32::bytes ⟨#[114,97,110,103,101]⟩++[])))=32::44::32::(bytes d'.text++bytes ⟨#[32,58,61,32,114,97,110,103,101]⟩);refine jM (fun l=>(32:UInt8)::44::32::(bytes d'.text++l)) ?_;decide +kernel);rw[gB,gG ⟨h1,U,by rw[O];exact hy,key⟩,h2,O];rintro⟨-,-,M⟩;have:=(oG (b:=b') (r:=[d']) (u:=58) (y:=bytes ⟨#[61,32,114,97,110,103,101]⟩) (by decide) (by rw[aV]<;>rfl) M).1;rw[h4]at this;exact absurd this (by decide +kernel)
end
end
end Go.Proofs.YteialcjaiocjdaaGreatDoor
