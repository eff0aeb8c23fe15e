/-
  Parts of the proof: Ppj Ppk. By an AI agent.
-/
import Derived.Test.YtiebcdeafofgdaaGreatDoorJ39
import Derived.Test.YtiebcdeafofgdaaGreatDoorJ34
import Derived.Test.YtiebcdeafofgdaaGreatDoorJ33
namespace Go.Proofs.YtiebcdeafofgdaaGreatDoor
section
def Ps:TK:=(6,(⟨#[10]⟩:BA))
theorem t8(h:Bool):fD h Ps:=by cases h<;>exact im (by decide +kernel) (by decide +kernel) (by decide +kernel) (by decide +kernel) (by decide +kernel) (by decide +kernel)
theorem Pt(h:Bool):fD h (6,(⟨#[61]⟩:BA)):=by cases h<;>exact im (by decide +kernel) (by decide +kernel) (by decide +kernel) (by decide +kernel) (by decide +kernel) (by decide +kernel)
theorem MI(h:Bool):fD h (6,(⟨#[58,61]⟩:BA)):=by cases h<;>exact im (by decide +kernel) (by decide +kernel) (by decide +kernel) (by decide +kernel) (by decide +kernel) (by decide +kernel)
theorem MJ(h:Bool):fD h (6,(⟨#[43,43]⟩:BA)):=by cases h<;>exact im (by decide +kernel) (by decide +kernel) (by decide +kernel) (by decide +kernel) (by decide +kernel) (by decide +kernel)
theorem MK(h:Bool):fD h (6,(⟨#[45,45]⟩:BA)):=by cases h<;>exact im (by decide +kernel) (by decide +kernel) (by decide +kernel) (by decide +kernel) (by decide +kernel) (by decide +kernel)
theorem yX(h:Bool):fD h (6,(⟨#[59]⟩:BA)):=by cases h<;>exact im (by decide +kernel) (by decide +kernel) (by decide +kernel) (by decide +kernel) (by decide +kernel) (by decide +kernel)
theorem oh:fD true (6,(⟨#[123]⟩:BA)):=im (by decide +kernel) (by decide +kernel) (by decide +kernel) (by decide +kernel) (by decide +kernel) (by decide +kernel)
def IE(c:Cx)(f:Nat->R Nd)(k:Nat)(l:List TK)(n:Nd):Prop:=∀G s r,At c s (l++r)->s.head=false->s.part = -1->Fu c k G s->et r=Ps->sf c s r n (-1) (f G c s)
section
variable {c:Cx} {d:Nat} (hE:tQ c d)
include hE
theorem mv{n:Nd}(h:(aa d).expr n=true):n.kind≠0:=by have:=sr hE h;omega
omit hE in
theorem Sl{n:Nd}(h:(aa d).typ n=true):n.kind≠0:=by have:=typ_kind h;omega
theorem ol{n:Nd}(deep:Nat){head:Bool}(I:(aa d).expr n=true){G:Nat}{s:St}{r:List TK}(h:At c s (aH ((ao d).expr n deep head)++r))(J:s.head=head)(D:s.part = -1)(M:Fu c 2 G s)(hs:fD head (et r)):sf c s r n (-1) ((di G).expr c s):=
 (hE n deep head false I).exp G s r h J (o6.no D) M hs
theorem Pu{n:Nd}(deep:Nat)(hn:iK (aa d) n=true):IE c (fun G=>eM (di G)) 2 (aH (sU (ao d) n deep)) n:=by
 intro G s r h hh hp hf hr;unfold iK at hn;rw[gB]at hn;obtain⟨x,l,a,rfl,hx,h0⟩:=aN (by decide) hn.1;obtain⟨t,v,rfl,M,N⟩:=ll h0;(have gg:ah t=true->ah v=true->False:=fun h1 h2=>by have J:=hn.2;show False;rw[show(Nd.mk 5 x [t,v] a).kids.getD 0 bX=t from rfl,show(Nd.mk 5 x [t,v] a).kids.getD 1 bX=v from rfl,h1,h2]at J;cases J);unfold cB at M N;rw[gI]at M N;(have e:aH (sU (ao d) (.mk 5 x [t,v] a) deep)++r=(2,(⟨#[118,97,114]⟩:BA))::(1,x)::(aH (if t.kind=0 then[]else bu::am d t)++(aH (if v.kind=0 then[]else bu::bS 61::bu::(ao d).expr v deep false)++r)):=by show aH (lJ ⟨#[118,97,114]⟩::bu::mK x::((if t.kind=0 then[]else bu::(ao d).typ t)++(if v.kind=0 then[]else bu::bS 61::bu::(ao d).expr v deep false)))++r=_;rw[l7];show(2,d7 (bytes ⟨#[118,97,114]⟩))::(aH (mK x::_)++r)=_;rw[ob,aR,dZ,jP,gO]);rw[e]at h;obtain⟨f1,f2⟩:=hf.adv h;have D:=h.adv.adv;have f3:Fu c 2 G (adv (adv s)):=hf.le (by show s.at_<=s.at_+1+1;omega);show sf c s r _ (-1) (eM (di G) c s);unfold eM;rw[fN h ⟨#[118,97,114]⟩ (by decide),cC.bind_ok,t6 h.adv,cC.bind_ok];have O:∀(t':Nd)(I:St),co t' t->At c I (aH (if v.kind=0 then[]else bu::bS 61::bu::(ao d).expr v deep false)++r)->I.head=s.head->I.part = -1->Fu c 2 G I->(ah v=true->(t'=t'/\True)) ->
   sf c s r (.mk 5 x [t,v] a) (-1) (if aS c I ⟨#[61]⟩then((di G).expr c (adv I)).bind fun v s4=>.ok (.mk 5 x [t',v] (aM c s)) s4 else .ok (.mk 5 x [t',bX] (aM c s)) I):=by
  intro t' I ht' J U gb gh _;rcases N with N|N
  ·obtain⟨a',rfl⟩:=bI N;have J:At c I r:=J;rw[d5 (by rw[J.is,hr];decide)];exact⟨_,I,rfl,co.mk (bF.cons ht' (bF.one (eR a'))) _ _,J,U,gb⟩
  ·rw[d5 (mv hE N)]at J;have J:At c I ((6,(⟨#[61]⟩:BA))::(aH ((ao d).expr v deep false)++r)):=J;obtain⟨v',s4,g1,g2,g3,g4,g5⟩:=ol hE deep N J.adv (U.trans hh) gb (gh.le (jZ _)) (by rw[hr];exact t8 _);rw[gF (J.yes (by decide)),g1,cC.bind_ok];exact⟨_,s4,rfl,co.mk (bF.cons ht' (bF.one g2)) _ _,g3,g4.trans U,g5⟩
 rcases M with M|M
 ·obtain⟨a',rfl⟩:=bI M;have gd:(aa d).expr v=true:=N.resolve_left fun h=>gg M h;have h2:At c (adv (adv s)) (aH (if v.kind=0 then[]else bu::bS 61::bu::(ao d).expr v deep false)++r):=D;have ga:=O bX _ (eR a') h2 rfl hp f3 (fun _=>⟨rfl,trivial⟩);rw[d5 (mv hE gd)]at h2;have h2:At c (adv (adv s)) ((6,(⟨#[61]⟩:BA))::(aH ((ao d).expr v deep false)++r)):=h2;rw[gF (h2.yes (by decide))]at ga |-;exact ga
 ·rw[d5 (Sl M)]at D;have D:At c (adv (adv s)) (aH (am d t)++(aH (if v.kind=0 then[]else bu::bS 61::bu::(ao d).expr v deep false)++r)):=D;obtain⟨t0,q0,e0,gi⟩:=lC M;(have ge:aS c (adv (adv s)) ⟨#[61]⟩=false:=by rw[D.is,e0];exact cr gi _ (by decide) (by decide) (by decide) (by decide) (by decide));rw[d5 (by rw[ge];decide)];have hb:eD (et (aH (if v.kind=0 then[]else bu::bS 61::bu::(ao d).expr v deep false)++r))=false:=by
   split
   ·show eD (et r)=false;rw[hr];decide +kernel
   ·show eD (6,(⟨#[61]⟩:BA))=false;decide +kernel
  obtain⟨t',I,g1,g2,g3,g4,g5⟩:=pF d G t M _ _ D hb (by have:=f3;unfold Fu at *;omega);rw[g1,cC.bind_ok];exact O t' I g2 g3 g4 (g5.trans hp) (f3.le (by have:=iY D g3;omega)) (fun _=>⟨rfl,trivial⟩)
def yY(head:Bool)(t:TK):Prop:=fD head t/\cW t ⟨#[61]⟩=false/\cW t ⟨#[43,43]⟩=false/\cW t ⟨#[45,45]⟩=false
def TM(c:Cx)(l:List TK)(n:Nd)(head:Bool):Prop:=∀G s r,At c s (l++r)->s.head=head->s.part = -1->Fu c 2 G s->yY head (et r) ->
 ∃x s1,(di G).expr c s=.ok x s1/\(n.kind≠29->aS c s1 ⟨#[123]⟩=false)/\∀p,sf c s r n (-1) (fQ (di G) p x c s1)
def dm(F:cQ)(n:Nd):Bool:=du F n||(fl F n||(fk F n||eU F n))
theorem Bf{n:Nd}(deep:Nat)(head:Bool)(I:dm (aa d) n=true):TM c (aH (ch (ao d) n deep head)) n head:=by
 intro G s r h hh hp hf hr;unfold dm at I;rw[gI,gI,gI]at I;(have gb:1<=G:=by unfold Fu at hf;omega);rcases I with I|I|I|I
 ·obtain⟨x,l,a,rfl,O,h0⟩:=aN (by decide) I;obtain⟨v,rfl,hv⟩:=d8 h0;unfold bY at O;rw[gB,gE]at O;(have e:aH (ch (ao d) (.mk 26 x [v] a) deep head)++r=(1,x)::(6,(⟨#[58,61]⟩:BA))::(aH ((ao d).expr v deep head)++r):=by show aH (mK x::bu::iV ⟨#[58,61]⟩::bu::(ao d).expr v deep head)++r=_;rw[ob];show(1,x)::(aH (iV ⟨#[58,61]⟩::bu::(ao d).expr v deep head)++r)=_;rw[o5];rfl);rw[e]at h;have ga:=rv (wn (c:=c) (m:=false) (head:=head) (Q:=fun n=>co n (.mk 18 x [] 0)) ((sn x 0).mono fun n b h=>h.1) ⟨rfl,rfl⟩ (by simp)) G s _ (show At c s ([(1,x)]++_)from h) hh (o6.no hp) hf (MI head);obtain⟨y,M,g1,J,D,N,g5⟩:=ga;refine⟨y,M,g1,fun _=>Bool.eq_false_iff.2 (D.no (by decide)),fun p=>?_⟩;obtain⟨v',s2,p1,p2,p3,p4,p5⟩:=ol hE deep hv D.adv (N.trans hh) g5 (hf.le (by have:=iY (a:=[(1,x)]) h D;show s.at_<=M.at_+1;omega)) hr.1;unfold fQ;rw[gF ⟨J.kind,by rw[J.text];exact O.2,D.yes (by decide)⟩,p1,cC.bind_ok,J.text];exact⟨_,s2,rfl,co.mk (bF.one p2) _ _,p3,p4.trans N,p5⟩
 ·obtain⟨l,a,rfl,h0⟩:=bV I;obtain⟨y,v,rfl,U,hv⟩:=ll h0;(have e:aH (ch (ao d) (.mk 27 ⟨#[]⟩ [y,v] a) deep head)++r=aH ((ao d).expr y deep head)++((6,(⟨#[61]⟩:BA))::(aH ((ao d).expr v deep head)++r)):=by show aH ((ao d).expr y deep head++(bu::bS 61::bu::(ao d).expr v deep head))++r=_;rw[aR,gO];rfl);rw[e]at h;obtain⟨y',M,g1,J,D,N,g5⟩:=ol hE deep U h hh hp hf (Pt head);refine⟨y',M,g1,fun _=>Bool.eq_false_iff.2 (D.no (by decide)),fun p=>?_⟩;obtain⟨v',s2,p1,p2,p3,p4,p5⟩:=ol hE deep hv D.adv (N.trans hh) g5 (hf.le (by have:=iY h D;show s.at_<=M.at_+1;omega)) hr.1;unfold fQ;rw[d5 (fun h=>D.no (by decide) h.2.2),gF (D.yes (by decide)),p1,cC.bind_ok];exact⟨_,s2,rfl,co.mk (bF.cons J (bF.one p2)) _ _,p3,p4.trans N,p5⟩
 ·obtain⟨x,l,a,rfl,O,h0⟩:=aN (by decide) I;obtain⟨y,rfl,U⟩:=d8 h0;unfold f8 at O;rw[gI,gE,gE]at O;(have e:aH (ch (ao d) (.mk 28 x [y] a) deep head)++r=aH ((ao d).expr y deep head)++((6,x)::r):=by show aH ((ao d).expr y deep head++[iV x])++r=_;rw[aR,o5,gO];rfl);rw[e]at h;obtain⟨y',M,g1,J,D,N,g5⟩:=ol hE deep U h hh hp hf (by rcases O with rfl|rfl;exact MJ _;exact MK _);refine⟨y',M,g1,fun _=>Bool.eq_false_iff.2 (D.no (by rcases O with rfl|rfl<;>decide)),fun p=>?_⟩;unfold fQ;rcases O with rfl|rfl
  ·rw[d5 (fun h=>D.no (by decide) h.2.2),d5 (D.no (by decide)),gF (D.yes (by decide))];exact⟨_,_,rfl,co.mk (bF.one J) _ _,D.adv,N,g5⟩
  ·rw[d5 (fun h=>D.no (by decide) h.2.2),d5 (D.no (by decide)),d5 (D.no (by decide)),gF (D.yes (by decide))];exact⟨_,_,rfl,co.mk (bF.one J) _ _,D.adv,N,g5⟩
 ·obtain⟨l,a,rfl,h0⟩:=bV I;obtain⟨y,rfl,U⟩:=d8 h0;unfold iw at U;rw[gB,gE]at U;have h:At c s (aH ((ao d).expr y deep head)++r):=h;obtain⟨y',M,g1,J,D,N,g5⟩:=ol hE deep U.2 h hh hp hf hr.1;refine⟨y',M,g1,fun h=>absurd rfl h,fun p=>?_⟩;have hk:y'.kind=21:=J.kind.trans U.1;unfold fQ;rw[d5 (fun h=>by rw[hk]at h;exact absurd h.1 (by decide)),d5 (by rw[D.is,hr.2.1];decide),d5 (by rw[D.is,hr.2.2.1];decide),d5 (by rw[D.is,hr.2.2.2];decide),gF hk];exact⟨_,M,rfl,co.mk (bF.one J) _ _,D,N,g5⟩
end
def G2(t:TK):Prop:=cW t ⟨#[125]⟩=false/\cW t ⟨#[59]⟩=false/\cW t ⟨#[10]⟩=false
theorem Rv{t:TK}(h:eD t=true):G2 t:=⟨cr h _ (by decide) (by decide) (by decide) (by decide) (by decide),cr h _ (by decide) (by decide) (by decide) (by decide) (by decide),cr h _ (by decide) (by decide) (by decide) (by decide) (by decide)⟩
def G3(c:Cx)(d:Nat):Prop:=∀n deep,(aa d).stmt n=true->(∃t q,aH ((ao d).stmt n deep false)=t::q/\G2 t)/\IE c (fun G=>(di G).stmt) 3 (aH ((ao d).stmt n deep false)) n
section
variable {c:Cx} {d:Nat}
theorem Pv{s:St}{r:List TK}(h:At c s (Ps::r)):eT c s=true:=by unfold eT;rw[h.yes (x:=(⟨#[10]⟩:BA)) (by decide)];simp
theorem tL(hS:G3 c d)(deep:Nat)(p:Int){G:Nat}:∀(l:List Nd)(g:Nat)(acc acc':List Nd)(s:St)(r:List TK),l.all (aa d).stmt=true ->
  At c s (l.flatMap (fun x=>aH ((ao d).stmt x deep false)++[Ps])++((6,(⟨#[125]⟩:BA))::r))->s.head=false->s.part = -1->Fu c 3 G s->c.toks.length-s.at_<g->bF acc' acc ->
  AU c s r (fun n'=>∃l',n'=.mk 36 ⟨#[]⟩ l' p/\bF l' (acc++l)) (-1) (cM (di G) p g acc' c s)
 |_,0,_,_,_,_,_,_,_,_,_,U,_=>absurd U (by omega)
 |[],g+1,acc,acc',s,r,_,h,O,M,_,_,ha=>by have h:At c s ((6,(⟨#[125]⟩:BA))::r):=h;unfold cM;rw[gF (h.yes (by decide))];exact⟨_,_,rfl,⟨acc',rfl,by rwa [kG]⟩,h.adv,rfl,M⟩
 |x::l,g+1,acc,acc',s,r,N,h,O,M,hf,U,ha=>by
  rw[kz,gB]at N;obtain⟨⟨t,q,e1,b1,b2,b3⟩,hx⟩:=hS x deep N.1;rw[jH,gO,gO]at h;have I:=h;rw[e1]at I;unfold cM;rw[d5 (by rw[I.is];show ¬ cW t ⟨#[125]⟩=true;rw[b1];decide),d5]
  ·obtain⟨n',D,g1,g2,J,g4,g5⟩:=hx G s _ h O M hf rfl;have ga:=iY h J;rw[show(di G).stmt c s=.ok n' D from g1,cC.bind_ok,gF (Pv J)];(have hb:c.toks.length-(adv D).at_<g:=by have:=J.len;simp at this;show c.toks.length-(D.at_+1)<g;omega);obtain⟨n2,s2,k1,⟨l',k2,k3⟩,k4,k5,k6⟩:=tL hS deep p l g (acc++[x]) (acc'++[n']) (adv D) r N.2 J.adv (g4.trans O) g5 (hf.le (by show s.at_<=D.at_+1;omega)) hb (ha.app (bF.one g2));exact⟨n2,s2,k1,⟨l',k2,by simpa using k3⟩,k4,k5.trans g4,k6⟩
  ·unfold eT;rw[I.is,I.is];show ¬ (cW t ⟨#[59]⟩||cW t ⟨#[10]⟩)=true;rw[b2,b3];decide
theorem Bg:∀n,aH (mz n)=[]
 |0=>rfl
 |n+1=>Bg n
theorem CW{α:Type}(f:α->List It):∀l:List α,aH (l.flatMap f)=l.flatMap fun x=>aH (f x)
 |[]=>rfl
 |x::l=>by rw[jH,jH,aR,CW f l]
theorem ws(n:Nd)(deep:Nat):aH (oE (ao d) n deep)=(6,(⟨#[123]⟩:BA))::(n.kids.flatMap (fun x=>aH ((ao d).stmt x (deep+1) false)++[Ps])++[(6,(⟨#[125]⟩:BA))]):=by unfold oE;rw[it];show _::aH (n.kids.flatMap _++(mz deep++[bS 125]))=_;rw[aR,aR,Bg,CW];congr 2;refine jM (fun f=>n.kids.flatMap f) (funext fun x=>?_);rw[aR,aR,Bg];rfl
theorem Fp(hS:G3 c d){n:Nd}(deep:Nat)(D:bD (aa d) n=true):Pq c (aH (oE (ao d) n deep)) n:=by intro G s r h hp hf;obtain⟨k,t,l,a⟩:=n;unfold bD at D;rw[gB,gB,gE,gE]at D;obtain⟨hk,ht,hl⟩:=D;obtain rfl:k=36:=hk;obtain rfl:t=(⟨#[]⟩:BA):=ht;rw[ws]at h;have h:At c s ((6,(⟨#[123]⟩:BA))::(l.flatMap (fun x=>aH ((ao d).stmt x (deep+1) false)++[Ps])++[(6,(⟨#[125]⟩:BA))]++r)):=h;rw[gO]at h;obtain⟨f1,f2⟩:=hf.adv h;have I:At c { s with head:=false } ((6,(⟨#[123]⟩:BA))::(l.flatMap (fun x=>aH ((ao d).stmt x (deep+1) false)++[Ps])++([(6,(⟨#[125]⟩:BA))]++r))):=h;obtain⟨M,J,k1,⟨l',k2,U⟩,O,k5,N⟩:=tL hS (deep+1) (aM c { s with head:=false }) (G:=G) l G [] [] (adv { s with head:=false }) r hl I.adv rfl hp (f2.more (by omega)) (by have:=I.len;simp at this;unfold Fu at hf;show c.toks.length-(s.at_+1)<G;omega) bF.nil;(have e:bC (di G) c s=.ok M { J with head:=s.head } :=by refine t7 ?_;unfold mC;rw[fN I ⟨#[123]⟩ (by decide),cC.bind_ok,sk];exact k1);subst k2;exact⟨_,_,e,co.mk U _ _,O,rfl,N⟩
theorem ML(D:G3 c d):CV c (d+1):=fun n deep hn=>⟨_,ws n deep,by rw[<-ws];exact Fp D deep hn⟩
theorem ua{α:Type}{p:R α}{s s1:St}{a:α}(h:p c { s with head:=true }=.ok a s1):db p c s=.ok a { s1 with head:=s.head } :=by unfold db;rw[h];rfl
theorem wt(hE:tQ c d){n:Nd}(deep:Nat)(I:(aa d).expr n=true){G:Nat}{s:St}{r:List TK}(h:At c s (aH ((ao d).expr n deep true)++r))(D:s.part = -1)(J:Fu c 2 G s)(hs:fD true (et r)):sf c s r n (-1) (db (di G).expr c s):=by obtain⟨n',U,e,O,N,g4,M⟩:=ol hE deep I (s:={ s with head:=true }) h rfl D J hs;exact⟨n',_,ua e,O,N,rfl,M⟩
def Ts(c:Cx)(d:Nat):Prop:=∀n deep,(aa d).ifS n=true->n.kind=30/\IE c (fun G=>(di G).ifS) 3 (aH ((ao d).stmt n deep false)) n
theorem MM(hE:tQ c d)(hB:CV c d)(hI:Ts c d)(ge:∀n deep,(aa d).block n=true->aH ((ao d).stmt n deep false)=aH ((ao d).block n deep)){n:Nd}(deep:Nat)(hn:Am (aa d) n=true):IE c (fun G=>IB (di G)) 2 (aH (ch (ao d) n deep false)) n:=by
 intro G s r h hh hp hf hr;obtain⟨l,a,rfl,h0⟩:=bV hn;obtain⟨x,b,o,rfl,hx,hb,I⟩:=Ph h0;obtain⟨lb,eb,gd⟩:=hB b deep hb;(have e:aH (ch (ao d) (.mk 30 ⟨#[]⟩ [x,b,o] a) deep false)++r=(2,(⟨#[105,102]⟩:BA))::(aH ((ao d).expr x deep true)++((6,(⟨#[123]⟩:BA))::(lb++(aH (if o.kind=0 then[]else bu::lJ ⟨#[101,108,115,101]⟩::bu::(ao d).stmt o deep false)++r)))):=by show aH (lJ ⟨#[105,102]⟩::bu::((ao d).expr x deep true++(bu::((ao d).block b deep++(if o.kind=0 then[]else bu::lJ ⟨#[101,108,115,101]⟩::bu::(ao d).stmt o deep false)))))++r=_;show(2,d7 (bytes ⟨#[105,102]⟩))::(aH ((ao d).expr x deep true++(bu::((ao d).block b deep++(if o.kind=0 then[]else bu::lJ ⟨#[101,108,115,101]⟩::bu::(ao d).stmt o deep false))))++r)=_;rw[dZ,aR];show _::(_++aH ((ao d).block b deep++_)++r)=_;rw[aR,eb,gO,jP,jP,gO]);rw[e]at h;obtain⟨f1,f2⟩:=hf.adv h;show sf c s r _ (-1) (IB (di G) c s);unfold IB;rw[fN h ⟨#[105,102]⟩ (by decide),cC.bind_ok];obtain⟨x',s1,g1,g2,g3,g4,g5⟩:=wt hE deep hx (G:=G) h.adv hp (f2.more (by omega)) oh;rw[g1,cC.bind_ok];have l1:=iY h.adv g3;obtain⟨b',J,k1,k2,D,k4,k5⟩:=gd G s1 _ g3 g5 (by have:(adv s).at_=s.at_+1:=rfl;unfold Fu at *;omega);rw[k1,cC.bind_ok];have l2:=iY (a:=(6,(⟨#[123]⟩:BA))::lb) g3 D;have ea:(adv s).at_=s.at_+1:=rfl;unfold cB at I;rw[gI,gI]at I;rcases I with(I|I)|I
 ·obtain⟨a',rfl⟩:=bI I;have D:At c J r:=D;rw[d5 (by rw[D.is,hr];decide)];exact⟨_,J,rfl,co.mk (bF.cons g2 (bF.cons k2 (bF.one (eR a')))) _ _,D,k4.trans g4,k5⟩
 ·have M:o.kind=36:=by
   cases d with
   |zero=>cases I
   |succ d=>have I:bD (aa d) o=true:=I;unfold bD at I;rw[gB,gE]at I;exact I.1
  obtain⟨lo,eo,N⟩:=hB o deep I;rw[d5 (by rw[M];decide)]at D;have D:At c J ((2,d7 (bytes ⟨#[101,108,115,101]⟩))::(aH ((ao d).stmt o deep false)++r)):=D;rw[dZ,ge o deep I,eo]at D;have U:At c (adv J) ((6,(⟨#[123]⟩:BA))::(lo++r)):=D.adv;rw[gF (D.yes (by decide)),d5 (U.no (by decide))];obtain⟨o',s3,q1,q2,q3,q4,q5⟩:=N G (adv J) r U k5 (by have:(adv J).at_=J.at_+1:=rfl;unfold Fu at *;omega);rw[q1,cC.bind_ok];exact⟨_,s3,rfl,co.mk (bF.cons g2 (bF.cons k2 (bF.one q2))) _ _,q3,q4.trans (k4.trans g4),q5⟩
 ·obtain⟨M,N⟩:=hI o deep I;rw[d5 (by rw[M];decide)]at D;have D:At c J ((2,d7 (bytes ⟨#[101,108,115,101]⟩))::(aH ((ao d).stmt o deep false)++r)):=D;rw[dZ]at D;have gb:∃q,aH ((ao d).stmt o deep false)=(2,(⟨#[105,102]⟩:BA))::q:=by
   cases d with
   |zero=>cases I
   |succ d=>show ∃q,aH (ch (ao d) o deep false)=_;unfold ch;rw[d5 (by rw[M];decide),d5 (by rw[M];decide),d5 (by rw[M];decide),d5 (by rw[M];decide),d5 (by rw[M];decide),gF M];exact⟨_,rfl⟩
  obtain⟨q,eq⟩:=gb;have O:=D.adv;rw[eq]at O;rw[gF (D.yes (by decide)),gF (O.yes (by decide))];have ga:=D.len;obtain⟨o',s3,q1,q2,q3,q4,q5⟩:=N G (adv J) r D.adv (k4.trans (g4.trans hh)) k5 (by have:(adv J).at_=J.at_+1:=rfl;simp at ga;unfold Fu at *;omega) hr;rw[show(di G).ifS c (adv J)=.ok o' s3 from q1,cC.bind_ok];exact⟨_,s3,rfl,co.mk (bF.cons g2 (bF.cons k2 (bF.one q2))) _ _,q3,q4.trans (k4.trans g4),q5⟩
end
end
section
open Go.Lib
theorem ry(t:cO)(r:List cO):bytes (r.foldl (fun a u=>a++(⟨#[32]⟩:BA)++u.text) t.text)=bytes t.text++r.flatMap fun u=>32::bytes u.text:=by
 suffices h:∀(r:List cO)(x:ByteArray),bytes (r.foldl (fun a u=>a++(⟨#[32]⟩:BA)++u.text) x)=bytes x++r.flatMap (fun u=>32::bytes u.text)from h r _;intro r;induction r with
 |nil=>intro x;simp
 |cons u r ih=>intro x;rw[vr,ih,jH,aO,aO,gO,gO];rfl
theorem oo{a b:cO}{r:List cO}{Z:ByteArray}{u:UInt8}{y:List UInt8}(M:u≠32)(I:bytes Z=bytes a.text++32::u::y)(h:dg (a::b::r)=Z):
  (bytes b.text).head? = some u/\(a::b::r).any (fun t=>t.kind==5)=false/\(b::r).flatMap (fun u=>32::bytes u.text)=32::u::y:=by
 unfold dg at h;split at h
 ·rw[<-h]at I;exact absurd (jM List.length I) (by simp[bytes])
 ·rename_i N;have h:((b::r).foldl (fun a u=>a++(⟨#[32]⟩:BA)++u.text) a.text)=Z:=h;have J:=jM bytes h;rw[ry,I]at J;have D:=List.append_cancel_left J;refine⟨?_,by simpa using N,D⟩;rw[jH,jP]at D;injection D with _ D;cases hb:bytes b.text with
  |nil=>
   rw[hb]at D;cases r with
   |nil=>cases D
   |cons v r=>rw[jH]at D;injection D with D _;exact absurd D.symm M
  |cons v l=>rw[hb]at D;injection D with D _;rw[D];rfl
theorem At.two{c:Cx}{s:St}{a b:TK}{r:List TK}(h:At c s (a::b::r)):∃a' b' r',c.toks.drop s.at_=a'::b'::r'/\Mo a'=a/\Mo b'=b/\r'.map Mo=r:=by
 have D:=h.2;cases I:c.toks.drop s.at_ with
 |nil=>rw[I]at D;cases D
 |cons a' l=>
  rw[I]at D;cases l with
  |nil=>cases D
  |cons b' l=>injection D with e1 D;injection D with e2 D;exact⟨a',b',l,rfl,e1,e2,D⟩
theorem Fw{t:TK}(h:ME t=true):cW t ⟨#[114,97,110,103,101]⟩=false:=by
 unfold ME at h;unfold cW;rw[gI]at h;rcases h with h|h
 ·(have:t.1=5:=by simpa using h);rw[this];rfl
 ·(have:t.2≠(⟨#[114,97,110,103,101]⟩:BA):=by simpa using h);rw[gM this,jU]
section
variable {c:Cx} {s:St}
theorem l8{a:TK}{r:List TK}(h:At c s (a::r))(I:cW a ⟨#[114,97,110,103,101]⟩=false)(J:a.1≠1):bN c s=none:=by
 (have I:aS c s ⟨#[114,97,110,103,101]⟩=false:=by rw[h.is];exact I);unfold bN;rw[I];simp only[jC,kI];split
 ·rename_i a' b' d' r' hl;have D:=h.2;rw[hl]at D;injection D with D _;(have D:a'.kind≠1:=by rw[<-D]at J;exact J);rw[d5 (fun h=>D h.1),d5 (fun h=>D h.1)]
 ·rfl
theorem Bk{a b:TK}{r:List TK}(h:At c s (a::b::r))(N:ME a=true)(hb:a.1=1->Be b.2=true):bN c s=none:=by
 by_cases M:a.1=1
 ·(have O:aS c s ⟨#[114,97,110,103,101]⟩=false:=by rw[h.is];exact Fw N);obtain⟨a',b',r',U,e1,e2,e3⟩:=h.two;have hb:=hb M;unfold bN;rw[O,U];simp only[jC,kI];(have D:b'.text=b.2:=by rw[<-e2];rfl);have no:∀{q Z u y},u=58\/u=44->bytes Z=bytes a'.text++32::u::y->¬ dg (a'::b'::q)=Z:=by
   intro q Z u y J hZ hc;have:=(oo (by rcases J with rfl|rfl<;>decide) hZ hc).1;rw[D]at this;unfold Be at hb;unfold bytes at this;rw[this]at hb;rcases J with rfl|rfl
   ·exact absurd hb (by decide)
   ·exact absurd hb (by decide)
  cases r' with
  |nil=>rfl
  |cons d' r'=>
   show(if _ then _ else _)=_;rw[d5,d5]
   ·rintro⟨-,-,-,I⟩;exact no (q:=d'::r'.take 2) (u:=44) (y:=32::bytes d'.text++bytes ⟨#[32,58,61,32,114,97,110,103,101]⟩) (.inr rfl) (by rw[aO,aO,aO,gO,gO]<;>rfl) I
   ·rintro⟨-,-,I⟩;exact no (q:=[d']) (u:=58) (y:=bytes ⟨#[61,32,114,97,110,103,101]⟩) (.inl rfl) (by rw[aO]<;>rfl) I
 ·exact l8 h (Fw N) M
theorem Bl{x:ByteArray}{t:TK}{r:List TK}(h:At c s ((1,x)::(6,(⟨#[58,61]⟩:BA))::t::r))(I:ME t=true):bN c s=none:=by
 (have hr:aS c s ⟨#[114,97,110,103,101]⟩=false:=by rw[h.is];rfl);obtain⟨a',b',r',hl,e1,e2,M⟩:=h.two;cases r' with
 |nil=>cases M
 | cons d' r'=>
  injection M with M _;unfold bN;rw[hr,hl];simp only[jC,kI];have J:b'.text=(⟨#[58,61]⟩:BA):=jM Prod.snd e2;have N:d'.text=t.2:=jM Prod.snd M;have O:d'.kind=t.1:=jM Prod.fst M;rw[d5,d5]
  ·rintro⟨-,-,-,U⟩;have:=(oo (b:=b') (r:=d'::r'.take 2) (u:=44) (y:=32::bytes d'.text++bytes ⟨#[32,58,61,32,114,97,110,103,101]⟩) (by decide) (by rw[aO,aO,aO,gO,gO]<;>rfl) U).1;rw[J]at this;exact absurd this (by decide +kernel)
  ·rintro⟨-,-,U⟩;obtain⟨-,h5,D⟩:=oo (b:=b') (r:=[d']) (u:=58) (y:=bytes ⟨#[61,32,114,97,110,103,101]⟩) (by decide) (by rw[aO]<;>rfl) U;rw[jH,J]at D;have D:32::58::61::32::(bytes d'.text++[])=32::58::bytes ⟨#[61,32,114,97,110,103,101]⟩:=D;(have h7:bytes d'.text=bytes ⟨#[114,97,110,103,101]⟩:=by rw[kG]at D;injection D with _ D;injection D with _ D;(have e:bytes ⟨#[61,32,114,97,110,103,101]⟩=61::32::bytes ⟨#[114,97,110,103,101]⟩:=by decide +kernel);rw[e]at D;injection D with _ D;injection D with _ D);have h8:=cg h7;unfold ME at I;rw[gI]at I;rcases I with I|I
   ·rw[<-O]at I;rw[List.any_eq_false]at h5;exact absurd I (by simpa using h5 d' (by simp))
   ·rw[<-N,h8]at I;exact absurd I (by decide)
theorem Ez{x:ByteArray}{r:List TK}(h:At c s ((1,x)::(6,(⟨#[58,61]⟩:BA))::(2,(⟨#[114,97,110,103,101]⟩:BA))::r))(O:x≠(⟨#[95]⟩:BA)):bN c s=some (x,{ s with at_:=s.at_+3 }):=by
 (have U:aS c s ⟨#[114,97,110,103,101]⟩=false:=by rw[h.is];rfl);obtain⟨a',b',r',hl,N,M,D⟩:=h.two;cases r' with
 |nil=>cases D
 |cons d' r'=>injection D with D _;unfold bN;rw[U,hl];simp only[jC,kI];have J:a'.kind=1:=jM Prod.fst N;have I:a'.text=x:=jM Prod.snd N;have h3:b'.kind=6:=jM Prod.fst M;have h4:b'.text=(⟨#[58,61]⟩:BA):=jM Prod.snd M;have h5:d'.kind=2:=jM Prod.fst D;have h6:d'.text=(⟨#[114,97,110,103,101]⟩:BA):=jM Prod.snd D;(have key:dg [a',b',d']=a'.text++(⟨#[32,58,61,32,114,97,110,103,101]⟩:BA):=by unfold dg;rw[d5 (by simp[J,h3,h5])];refine cg ?_;show bytes ([b',d'].foldl (fun a u=>a++(⟨#[32]⟩:BA)++u.text) a'.text)=_;rw[ry,aO];refine jM (bytes a'.text ++ ·) ?_;show(32::bytes b'.text)++((32::bytes d'.text)++[])=_;rw[h4,h6];decide +kernel);rw[gF ⟨J,by rw[I];exact O,key⟩,I]
theorem EA{x y:ByteArray}{r:List TK}(h:At c s ((1,x)::(6,(⟨#[44]⟩:BA))::(1,y)::(6,(⟨#[58,61]⟩:BA))::(2,(⟨#[114,97,110,103,101]⟩:BA))::r))(hy:y≠(⟨#[95]⟩:BA)):bN c s=some (x++(⟨#[44]⟩:BA)++y,{ s with at_:=s.at_+5 }):=by
 (have hr:aS c s ⟨#[114,97,110,103,101]⟩=false:=by rw[h.is];rfl);obtain⟨a',b',r',hl,e1,e2,J⟩:=h.two;cases r' with
 |nil=>cases J
 | cons d' r'=>
  injection J with J I;cases r' with
  |nil=>cases I
  |cons f' r'=>
   injection I with I D;cases r' with
   |nil=>cases D
   |cons g' r'=>injection D with D _;unfold bN;rw[hr,hl];simp only[jC,kI];have h1:a'.kind=1:=jM Prod.fst e1;have h2:a'.text=x:=jM Prod.snd e1;have h3:b'.kind=6:=jM Prod.fst e2;have h4:b'.text=(⟨#[44]⟩:BA):=jM Prod.snd e2;have U:d'.kind=1:=jM Prod.fst J;have O:d'.text=y:=jM Prod.snd J;have h7:f'.kind=6:=jM Prod.fst I;have h8:f'.text=(⟨#[58,61]⟩:BA):=jM Prod.snd I;have h9:g'.kind=2:=jM Prod.fst D;have N:g'.text=(⟨#[114,97,110,103,101]⟩:BA):=jM Prod.snd D;(have key:dg [a',b',d',f',g']=a'.text++(⟨#[32,44,32]⟩:BA)++d'.text++(⟨#[32,58,61,32,114,97,110,103,101]⟩:BA):=by unfold dg;rw[d5 (by simp[h1,h3,U,h7,h9])];refine cg ?_;show bytes ([b',d',f',g'].foldl (fun a u=>a++(⟨#[32]⟩:BA)++u.text) a'.text)=_;rw[ry,aO,aO,aO,gO,gO];refine jM (bytes a'.text ++ ·) ?_;show(32::bytes b'.text)++((32::bytes d'.text)++((32::bytes f'.text)++((32::bytes g'.text)++[])))=_;rw[h4,h8,N];show 32::44::32::(bytes d'.text++(32::bytes ⟨#[58,61]⟩++(32::bytes ⟨#[114,97,110,103,101]⟩++[])))=32::44::32::(bytes d'.text++bytes ⟨#[32,58,61,32,114,97,110,103,101]⟩);refine jM (fun l=>(32:UInt8)::44::32::(bytes d'.text++l)) ?_;decide +kernel);rw[d5,gF ⟨h1,U,by rw[O];exact hy,key⟩,h2,O];rintro⟨-,-,M⟩;have:=(oo (b:=b') (r:=[d']) (u:=58) (y:=bytes ⟨#[61,32,114,97,110,103,101]⟩) (by decide) (by rw[aO]<;>rfl) M).1;rw[h4]at this;exact absurd this (by decide +kernel)
end
end
end Go.Proofs.YtiebcdeafofgdaaGreatDoor
