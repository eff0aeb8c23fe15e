/-
  Parts of the proof: Ppm Ppn Ppo. By an AI agent.
-/
import Derived.Test.YteialcjaiocjdaaGreatDoorJ39
namespace Go.Proofs.YteialcjaiocjdaaGreatDoor
section
open Go.Lib
theorem jG:type_of% @Bool.or_true:=@Bool.or_true
theorem kQ:type_of% @Bool.true_or:=@Bool.true_or
theorem rP{c:Cx}{s:St}{L:List TK}(h:At c s L)(hS:yx L):bS c s=none:=by
 cases L with
 |nil=>(have I:aP c s ⟨#[114,97,110,103,101]⟩=false:=by rw[h.is];rfl);have M:=h.2;unfold bS;rw[I,List.map_eq_nil_iff.1 M];rfl
 | cons t q=>
  obtain⟨N,M⟩:=hS t q rfl;by_cases O:t.1=1
  ·rcases M O with rfl|⟨u,q',rfl,U⟩
   ·(have I:aP c s ⟨#[114,97,110,103,101]⟩=false:=by rw[h.is];exact F3 N);have D:=h.2;cases J:c.toks.drop s.at_ with
    |nil=>rw[J]at D;cases D
    |cons a l=>rw[J]at D;injection D with _ D;unfold bS;rw[I,J,List.map_eq_nil_iff.1 D];rfl
   ·exact BK h N fun _=>U
  ·exact mj h (F3 N) O
theorem fU{F:cm}{n:Nd}(h:dr F n=true):26<=n.kind/\n.kind<=29:=by
 unfold dr at h;rw[gI,gI,gI]at h;rcases h with h|h|h|h
 ·obtain⟨x,l,a,rfl,_⟩:=aJ (by decide) h;exact⟨by show(26:Int)<=26;omega,by show(26:Int)<=29;omega⟩
 ·obtain⟨l,a,rfl,_⟩:=cg h;exact⟨by show(26:Int)<=27;omega,by show(27:Int)<=29;omega⟩
 ·obtain⟨x,l,a,rfl,_⟩:=aJ (by decide) h;exact⟨by show(26:Int)<=28;omega,by show(28:Int)<=29;omega⟩
 ·obtain⟨l,a,rfl,_⟩:=cg h;exact⟨by show(26:Int)<=29;omega,by show(29:Int)<=29;omega⟩
theorem wK{head:Bool}{t:TK}(h:fS head t)(J:cD t ⟨#[61]⟩=false)(I:cD t ⟨#[43,43]⟩=false)(D:cD t ⟨#[45,45]⟩=false):Av head t:=⟨h,J,I,D⟩
section
variable {c:Cx} {d:Nat} (hE:wG c d)
include hE
theorem BM{n:Nd}(deep:Nat)(head:Bool)(D:dr (aa d) n=true):∃t q,aG (cv (ac d) n deep head)=t::q/\dq t=true:=by
 unfold dr at D;rw[gI,gI,gI]at D;rcases D with D|D|D|D
 ·obtain⟨x,l,a,rfl,N,J⟩:=aJ (by decide) D;exact⟨(1,dx (bytes x)),_,rfl,rfl⟩
 ·obtain⟨l,a,rfl,J⟩:=cg D;obtain⟨y,v,rfl,I,O⟩:=iO J;obtain⟨t,q,e,M⟩:=(hE y deep head false I).beg;refine⟨t,q++aG (aY::cK 61::aY::(ac d).expr v deep head),?_,M⟩;show aG ((ac d).expr y deep head++_)=_;rw[aX,e];rfl
 ·obtain⟨x,l,a,rfl,N,J⟩:=aJ (by decide) D;obtain⟨y,rfl,I⟩:=dW J;obtain⟨t,q,e,M⟩:=(hE y deep head false I).beg;refine⟨t,q++aG [ow x],?_,M⟩;show aG ((ac d).expr y deep head++_)=_;rw[aX,e];rfl
 ·obtain⟨l,a,rfl,J⟩:=cg D;obtain⟨y,rfl,I⟩:=dW J;unfold iS at I;rw[gA]at I;exact(hE y deep head false I.2).beg
theorem PU{n:Nd}(deep:Nat)(head:Bool)(D:dr (aa d) n=true)(hk:n.kind≠29){s:St}{r:List TK}(h:At c s (aG (cv (ac d) n deep head)++r)):bS c s=none:=by
 unfold dr at D;rw[gI,gI,gI]at D;rcases D with D|D|D|D
 ·obtain⟨x,l,a,rfl,N,J⟩:=aJ (by decide) D;obtain⟨v,rfl,O⟩:=dW J;obtain⟨t,q,e,U⟩:=(hE v deep head false O).beg;have hS:=(hE v deep head false O).sec;(have M:aG (cv (ac d) (.mk 26 x [v] a) deep head)++r=(1,x)::(6,(⟨#[58,61]⟩:BA))::(aG ((ac d).expr v deep head)++r):=by show aG (iq x::aY::ow ⟨#[58,61]⟩::aY::(ac d).expr v deep head)++r=_;rw[iP];show(1,x)::(aG (ow ⟨#[58,61]⟩::aY::(ac d).expr v deep head)++r)=_;rw[ta];rfl);rw[M,e]at h;exact BL (r:=q++r) h (hS t q e).1
 ·obtain⟨l,a,rfl,J⟩:=cg D;obtain⟨y,v,rfl,I,O⟩:=iO J;obtain⟨t,q,e,U⟩:=(hE y deep head false I).beg;(have M:aG (cv (ac d) (.mk 27 ⟨#[]⟩ [y,v] a) deep head)++r=aG ((ac d).expr y deep head)++((6,(⟨#[61]⟩:BA))::(aG ((ac d).expr v deep head)++r)):=by show aG ((ac d).expr y deep head++(aY::cK 61::aY::(ac d).expr v deep head))++r=_;rw[aX,gL];rfl);rw[M]at h;exact rP h ((hE y deep head false I).sec.app (by rw[e];simp) (by decide +kernel) _)
 ·obtain⟨x,l,a,rfl,N,J⟩:=aJ (by decide) D;obtain⟨y,rfl,I⟩:=dW J;unfold ix at N;rw[gI,gD,gD]at N;obtain⟨t,q,e,U⟩:=(hE y deep head false I).beg;(have M:aG (cv (ac d) (.mk 28 x [y] a) deep head)++r=aG ((ac d).expr y deep head)++((6,x)::r):=by show aG ((ac d).expr y deep head++[ow x])++r=_;rw[aX,ta,gL];rfl);rw[M]at h;exact rP h ((hE y deep head false I).sec.app (by rw[e];simp) (by rcases N with rfl|rfl<;>decide +kernel) _)
 ·obtain⟨l,a,rfl,_⟩:=cg D;exact absurd rfl hk
theorem M7{p:Nd}(deep:Nat)(I:dr (aa d) p=true)(D:p.kind≠26){G:Nat}{s:St}{r:List TK}(h:At c s (aG (eH (ac d) p deep true)++r))(O:s.part = -1)(U:Fu c 2 G s)(hs:Av true (dS r)):nO c s r p (-1) (db (nz (cI G)) c s):=by rw[<-oz _ (fU I)]at h;obtain⟨x,s1,g1,_,g3⟩:=BG hE deep true I G { s with head:=true } r h rfl O U hs;obtain⟨n',J,N,p2,p3,p4,M⟩:=g3 (aD c { s with head:=true });(have e:nz (cI G) c { s with head:=true }=.ok n' J:=by unfold nz iC;rw[g1,bQ.bind_ok,N,bQ.bind_ok,gB (by rw[p2.kind];exact D)]);exact⟨n',_,up e,p2,p3,rfl,M⟩
theorem IA{i:Nd}(deep:Nat)(I:dr (aa d) i=true)(D:i.kind≠29){G:Nat}{s:St}{r:List TK}(h:At c s (aG (eH (ac d) i deep true)++r))(O:s.part = -1)(U:Fu c 2 G s)(hs:Av true (dS r)):nO c s r i (-1) (db (fD (cI G)) c s):=by rw[<-oz _ (fU I)]at h;obtain⟨x,s1,g1,g2,g3⟩:=BG hE deep true I G { s with head:=true } r h rfl O U hs;obtain⟨n',J,N,p2,p3,p4,M⟩:=g3 (aD c { s with head:=true });(have e:fD (cI G) c { s with head:=true }=.ok n' J:=by unfold fD;rw[g1,bQ.bind_ok,gB (by rw[g2 D];decide),N]);exact⟨n',_,up e,p2,p3,rfl,M⟩
theorem M8{x:Nd}(deep:Nat)(M:(aa d).expr x=true){G:Nat}{s:St}{r:List TK}(h:At c s (aG ((ac d).expr x deep true)++((6,(⟨#[123]⟩:BA))::r)))(J:s.part = -1)(N:Fu c 2 G s):nO c s ((6,(⟨#[123]⟩:BA))::r) x (-1) (db (fD (cI G)) c s):=by obtain⟨n',I,e,U,D,g4,O⟩:=oE hE deep M (s:={ s with head:=true }) h rfl J N oD;(have e:fD (cI G) c { s with head:=true }=.ok n' I:=by unfold fD;rw[e,bQ.bind_ok,gG (D.yes (by decide))]);exact⟨n',_,up e,U,D,rfl,O⟩
theorem Ds{e p:Nd}(deep:Nat)(N:an e=true\/(aa d).expr e=true)(J:an p=true\/(dr (aa d) p=true/\p.kind≠26))(a':Nd){G:Nat}{s:St}{r:List TK}
  (h:At c s ((6,(⟨#[59]⟩:BA))::(aG (if e.kind≠0 then(ac d).expr e deep true else[])++((6,(⟨#[59]⟩:BA))::(aG (if p.kind≠0 then eH (ac d) p deep true++[aY]else[])++((6,(⟨#[123]⟩:BA))::r))))))(hp:s.part = -1)(hf:Fu c 2 G s):
  ∃e' p' s',re (cI G) a' c s=.ok (a',e',p') s'/\ci e' e/\ci p' p/\At c s' ((6,(⟨#[123]⟩:BA))::r)/\s'.head=s.head/\s'.part = -1:=by
 unfold re;rw[eX h ⟨#[59]⟩ (by decide),bQ.bind_ok];have U:∃e' D,(if aP c (adv s) ⟨#[59]⟩then .ok cc (adv s)else db (cI G).expr c (adv s))=bQ.ok e' D/\ci e' e/\At c D ((6,(⟨#[59]⟩:BA))::(aG (if p.kind≠0 then eH (ac d) p deep true++[aY]else[])++((6,(⟨#[123]⟩:BA))::r)))/\D.head=s.head/\D.part = -1:=by
  have O:=h.adv;rcases N with N|N
  ·obtain⟨a,rfl⟩:=bN N;have O:At c (adv s) ((6,(⟨#[59]⟩:BA))::(aG (if p.kind≠0 then eH (ac d) p deep true++[aY]else[])++((6,(⟨#[123]⟩:BA))::r))):=O;rw[gG (O.yes (by decide))];exact⟨_,_,rfl,fc a,O,rfl,hp⟩
  ·rw[gG (mJ hE N)]at O;obtain⟨t,q,e1,ht⟩:=(hE e deep true false N).beg;(have M:aP c (adv s) ⟨#[59]⟩=false:=by rw[O.is,e1];exact bU ht _ (by decide) (by decide) (by decide) (by decide) (by decide));rw[gB (by rw[M];decide)];obtain⟨e',D,g1,g2,g3,g4,g5⟩:=wI hE deep N (G:=G) O hp (hf.le (jN _)) (Au true);exact⟨e',D,g1,g2,g3,g4,g5⟩
 obtain⟨e',D,g1,g2,g3,g4,g5⟩:=U;rw[g1,bQ.bind_ok];unfold pd;rw[eX g3 ⟨#[59]⟩ (by decide),bQ.bind_ok];have ga:Fu c 2 G (adv D):=hf.le (by have l1:=h.len;have l2:=g3.adv.len;have l3:(adv D).at_=D.at_+1:=rfl;simp only[gO,gM]at l1 l2;omega);have I:=g3.adv;rcases J with J|⟨J,gb⟩
 ·obtain⟨a,rfl⟩:=bN J;have I:At c (adv D) ((6,(⟨#[123]⟩:BA))::r):=I;rw[gG (I.yes (by decide)),bQ.bind_ok];exact⟨_,_,_,rfl,g2,fc a,I,g4,g5⟩
 ·rw[gG (by have:=fU J;omega),aX,gL]at I;have I:At c (adv D) (aG (eH (ac d) p deep true)++((6,(⟨#[123]⟩:BA))::r)):=I;obtain⟨t,q,e1,ht⟩:=BM hE deep true J;(have M:aP c (adv D) ⟨#[123]⟩=false:=by rw[I.is,<-oz _ (fU J),e1];exact bU ht _ (by decide) (by decide) (by decide) (by decide) (by decide));rw[gB (by rw[M];decide)];obtain⟨p',s4,k1,k2,k3,k4,k5⟩:=M7 hE deep J gb I g5 ga (show Av true (6,(⟨#[123]⟩:BA))from wK oD (by decide) (by decide) (by decide));rw[k1,bQ.bind_ok];exact⟨_,_,_,rfl,g2,k2,k3,k4.trans g4,k5⟩
theorem PV(hB:Dm c d){n:Nd}(deep:Nat)(hn:cE 31 [ck (ck an (dz (aa d))) (ck (fz (aa d)) (fy (aa d))),ck an (aa d).expr,ck (ck an (fz (aa d))) (ck (fy (aa d)) (fd (aa d))),(aa d).block] n=true):DP c (fun G=>rj (cI G)) 2 (aG (cv (ac d) n deep false)) n:=by
 intro G s r h hh hp hf hr;obtain⟨l,a,rfl,h0⟩:=cg hn;obtain⟨i,e,p,b,rfl,D,J,hq,hb⟩:=PE h0;have D:an i=true\/(dr (aa d) i=true/\i.kind≠29):=by
  unfold ck at D;rw[gI,gI,gI]at D;rcases D with(D|D)|(D|D)
  ·exact .inl D
  ·exact .inr ⟨by unfold dr;rw[D];rfl,by obtain⟨x,l,a,rfl,_⟩:=aJ (by decide) D;show ¬ (26:Int)=29;omega⟩
  ·exact .inr ⟨by unfold dr;rw[D,kQ,jG],by obtain⟨l,a,rfl,_⟩:=cg D;show ¬ (27:Int)=29;omega⟩
  ·exact .inr ⟨by unfold dr;rw[D,kQ,jG,jG],by obtain⟨x,l,a,rfl,_⟩:=aJ (by decide) D;show ¬ (28:Int)=29;omega⟩
 have hq:an p=true\/(dr (aa d) p=true/\p.kind≠26):=by
  unfold ck at hq;rw[gI,gI,gI]at hq;rcases hq with(D|D)|(D|D)
  ·exact .inl D
  ·exact .inr ⟨by unfold dr;rw[D,kQ,jG],by obtain⟨l,a,rfl,_⟩:=cg D;show ¬ (27:Int)=26;omega⟩
  ·exact .inr ⟨by unfold dr;rw[D,kQ,jG,jG],by obtain⟨x,l,a,rfl,_⟩:=aJ (by decide) D;show ¬ (28:Int)=26;omega⟩
  ·exact .inr ⟨by unfold dr;rw[D,jG,jG,jG],by obtain⟨l,a,rfl,_⟩:=cg D;show ¬ (29:Int)=26;omega⟩
 have J:an e=true\/(aa d).expr e=true:=by
  unfold ck at J
  rwa [gI]at J
 obtain⟨lb,eb,gj⟩:=hB b deep hb;(have e1:aG (cv (ac d) (.mk 31 ⟨#[]⟩ [i,e,p,b] a) deep false)++r=(2,(⟨#[102,111,114]⟩:BA))::(aG (sr (ac d) (.mk 31 ⟨#[]⟩ [i,e,p,b] a) deep)++((6,(⟨#[123]⟩:BA))::(lb++r))):=by show aG (f8 ⟨#[102,111,114]⟩::aY::(sr (ac d) (.mk 31 ⟨#[]⟩ [i,e,p,b] a) deep++(ac d).block b deep))++r=_;show(2,dx (bytes ⟨#[102,111,114]⟩))::(aG (sr (ac d) (.mk 31 ⟨#[]⟩ [i,e,p,b] a) deep++(ac d).block b deep)++r)=_;rw[cH,aX,eb,gL,jJ]);rw[e1]at h;obtain⟨f1,f2⟩:=hf.adv h;show nO c s r _ (-1) (rj (cI G) c s);unfold rj;rw[eX h ⟨#[102,111,114]⟩ (by decide),bQ.bind_ok];have gb:=h.len;have I:=h.adv;have gk:(adv s).at_=s.at_+1:=rfl;have key:bS c (adv s)=none/\∃i' e' p' M,(if aP c (adv s) ⟨#[123]⟩then .ok (cc,cc,cc) (adv s)else nA (cI G) c (adv s))=bQ.ok (i',e',p') M/\ci i' i/\ci e' e/\ci p' p/\At c M ((6,(⟨#[123]⟩:BA))::(lb++r))/\M.head=s.head/\M.part = -1:=by
  unfold sr at I;have k0:aW (.mk 31 ⟨#[]⟩ [i,e,p,b] a) 0=i:=rfl;have k1:aW (.mk 31 ⟨#[]⟩ [i,e,p,b] a) 1=e:=rfl;have k2:aW (.mk 31 ⟨#[]⟩ [i,e,p,b] a) 2=p:=rfl;rw[k0,k1,k2]at I;split at I
  ·rename_i hc;have ee:aG ((if i.kind≠0 then eH (ac d) i deep true else[])++(cK 59::aY::((if e.kind≠0 then(ac d).expr e deep true else[])++(cK 59::aY::(if p.kind≠0 then eH (ac d) p deep true++[aY]else[])))))++((6,(⟨#[123]⟩:BA))::(lb++r)) =
     aG (if i.kind≠0 then eH (ac d) i deep true else[])++((6,(⟨#[59]⟩:BA))::(aG (if e.kind≠0 then(ac d).expr e deep true else[])++((6,(⟨#[59]⟩:BA))::(aG (if p.kind≠0 then eH (ac d) p deep true++[aY]else[])++((6,(⟨#[123]⟩:BA))::(lb++r)))))):=by rw[aX];show(_++((6,dx [59])::aG (_++_)))++_=_;rw[aX];show(_++((6,dx [59])::(_++((6,dx [59])::aG _))))++_=_;rw[gL,jJ,gL,jJ];rfl
   rw[ee]at I;rcases D with D|⟨D,ga⟩
   ·obtain⟨ai,rfl⟩:=bN D;have I:At c (adv s) ((6,(⟨#[59]⟩:BA))::(aG (if e.kind≠0 then(ac d).expr e deep true else[])++((6,(⟨#[59]⟩:BA))::(aG (if p.kind≠0 then eH (ac d) p deep true++[aY]else[])++((6,(⟨#[123]⟩:BA))::(lb++r)))))):=I;refine⟨mj I (by decide) (by decide),?_⟩;obtain⟨e',p',M,g1,O,g3,g4,g5,g6⟩:=Ds hE deep J hq cc (G:=G) I hp (f2.more (by omega));rw[gB (I.no (by decide)),se,gG (I.yes (by decide))];exact⟨cc,e',p',M,g1,fc ai,O,g3,g4,g5,g6⟩
   ·rw[gG (by have:=fU D;omega)]at I;have U:=I;rw[<-oz _ (fU D)]at U;refine⟨PU hE deep true D ga U,?_⟩;obtain⟨t,q,e2,ht⟩:=BM hE deep true D;have N:∀x,x=(⟨#[123]⟩:BA)\/x=(⟨#[59]⟩:BA)->aP c (adv s) x=false:=by
     rintro x(rfl|rfl)
     ·rw[U.is,e2];exact bU ht _ (by decide) (by decide) (by decide) (by decide) (by decide)
     ·rw[U.is,e2];exact bU ht _ (by decide) (by decide) (by decide) (by decide) (by decide)
    obtain⟨i',M,g1,O,g3,g4,g5⟩:=IA hE deep D ga (G:=G) I hp (f2.more (by omega)) (show Av true (6,(⟨#[59]⟩:BA))from wK (Au true) (by decide) (by decide) (by decide));have gi:Fu c 2 G M:=hf.le (by have l1:=fI I g3;omega);obtain⟨e',p',s3,k1,k2,k3,k4,k5,k6⟩:=Ds hE deep J hq i' (G:=G) g3 g5 gi;have gl:=fU D;rw[gB (by rw[N _ (.inl rfl)];decide),se,gB (by rw[N _ (.inr rfl)];decide),g1,bQ.bind_ok,gB (by rw[O.kind];exact ga),gB (by rw[O.kind];omega)];exact⟨i',e',p',s3,k1,O,k2,k3,k4,k5.trans g4,k6⟩
  ·rename_i hc;have gh:an i=true:=D.resolve_right fun h=>hc (.inl (by have:=fU h.1;omega));have ge:an p=true:=hq.resolve_right fun h=>hc (.inr (by have:=fU h.1;omega));obtain⟨ai,rfl⟩:=bN gh;obtain⟨ap,rfl⟩:=bN ge;rcases J with J|J
   ·obtain⟨ae,rfl⟩:=bN J;have I:At c (adv s) ((6,(⟨#[123]⟩:BA))::(lb++r)):=I;refine⟨mj I (by decide) (by decide),?_⟩;rw[gG (I.yes (by decide))];exact⟨_,_,_,_,rfl,fc ai,fc ae,fc ap,I,rfl,hp⟩
   ·rw[gG (mJ hE J),aX,gL]at I;have I:At c (adv s) (aG ((ac d).expr e deep true)++((6,(⟨#[123]⟩:BA))::(lb++r))):=I;obtain⟨t,q,e2,ht⟩:=(hE e deep true false J).beg;refine⟨rP I ((hE e deep true false J).sec.app (by rw[e2];simp) (by decide +kernel) _),?_⟩;have N:∀x,x=(⟨#[123]⟩:BA)\/x=(⟨#[59]⟩:BA)->aP c (adv s) x=false:=by
     rintro x(rfl|rfl)
     ·rw[I.is,e2];exact bU ht _ (by decide) (by decide) (by decide) (by decide) (by decide)
     ·rw[I.is,e2];exact bU ht _ (by decide) (by decide) (by decide) (by decide) (by decide)
    obtain⟨e',M,g1,O,g3,g4,g5⟩:=M8 hE deep J (G:=G) I hp (f2.more (by omega));have gm:=sC hE J;rw[gB (by rw[N _ (.inl rfl)];decide),se,gB (by rw[N _ (.inr rfl)];decide),g1,bQ.bind_ok,gB (by rw[O.kind];omega),gG (by rw[O.kind];omega)];exact⟨_,_,_,_,rfl,fc ai,O,fc ap,g3,g4,g5⟩
 obtain⟨gd,i',e',p',M,g1,O,g3,g4,g5,g6,g7⟩:=key;rw[gd];show nO c s r _ (-1) ((if aP c (adv s) ⟨#[123]⟩then .ok (cc,cc,cc) (adv s)else nA (cI G) c (adv s)).bind fun h M=>(bH (cI G) c M).bind fun b s3=>.ok (.mk 31 ⟨#[]⟩ [h.1,h.2.1,h.2.2,b] (aD c s)) s3);rw[g1,bQ.bind_ok];have gg:=g5.len;obtain⟨b',s3,q1,q2,q3,q4,q5⟩:=gj G M _ g5 g7 (by simp only[gO,gM]at gb gg;unfold Fu at *;omega);rw[q1,bQ.bind_ok];exact⟨_,s3,rfl,ci.mk (bi.cons O (bi.cons g3 (bi.cons g4 (bi.one q2)))) _ _,q3,q4.trans g6,q5⟩
theorem IB(hB:Dm c d){n:Nd}(deep:Nat)(hn:cE 32 [(aa d).expr,(aa d).block] (aw bR n)=true):DP c (fun G=>rj (cI G)) 2 (aG (cv (ac d) n deep false)) n:=by
 intro G s r h hh hp hf hr;obtain⟨x,l,a,rfl,hx,h0⟩:=aJ (by decide) hn;obtain⟨e,b,rfl,he,hb⟩:=iO h0;obtain⟨lb,eb,gg⟩:=hB b deep hb;(have e1:aG (cv (ac d) (.mk 32 x [e,b] a) deep false)++r=(2,(⟨#[102,111,114]⟩:BA))::(aG (fR x)++((2,(⟨#[114,97,110,103,101]⟩:BA))::(aG ((ac d).expr e deep true)++((6,(⟨#[123]⟩:BA))::(lb++r))))):=by show aG (f8 ⟨#[102,111,114]⟩::aY::(fR x++(f8 ⟨#[114,97,110,103,101]⟩::aY::((ac d).expr e deep true++(aY::(ac d).block b deep)))))++r=_;show(2,dx (bytes ⟨#[102,111,114]⟩))::(aG (fR x++(f8 ⟨#[114,97,110,103,101]⟩::aY::((ac d).expr e deep true++(aY::(ac d).block b deep))))++r)=_;rw[cH,aX,gL];show _::(_++((2,dx (bytes ⟨#[114,97,110,103,101]⟩))::(aG ((ac d).expr e deep true++(aY::(ac d).block b deep))++r)))=_;rw[cH,aX,gL];show _::(_++(_::(_++(aG ((ac d).block b deep)++r))))=_;rw[eb];rfl);rw[e1]at h;obtain⟨f1,f2⟩:=hf.adv h;show nO c s r _ (-1) (rj (cI G) c s);unfold rj;rw[eX h ⟨#[102,111,114]⟩ (by decide),bQ.bind_ok];have J:=h.len;have D:=h.adv;have key:∃s2,bS c (adv s)=some (x,s2)/\At c s2 (aG ((ac d).expr e deep true)++((6,(⟨#[123]⟩:BA))::(lb++r)))/\s2.head=s.head/\s2.part = -1:=by
  by_cases M:x=(⟨#[]⟩:BA)
  ·subst M;have D:At c (adv s) ((2,(⟨#[114,97,110,103,101]⟩:BA))::(aG ((ac d).expr e deep true)++((6,(⟨#[123]⟩:BA))::(lb++r)))):=D;refine⟨adv (adv s),?_,D.adv,rfl,hp⟩;unfold bS;rw[gG (D.yes (by decide))]
  ·unfold bR at hx;rw[gP M,ve,gI,gA,gA,gA]at hx;unfold fR at D;rw[gB M]at D;rcases hx with⟨O,I,N⟩|⟨O,I⟩
   ·rw[gG O]at D;have D:At c (adv s) ((1,dx (fx x).1)::(6,(⟨#[44]⟩:BA))::(1,dx (fx x).2.1)::(6,(⟨#[58,61]⟩:BA))::(2,(⟨#[114,97,110,103,101]⟩:BA))::(aG ((ac d).expr e deep true)++((6,(⟨#[123]⟩:BA))::(lb++r)))):=D;unfold cj at N;rw[gA,gD]at N;have U:=ES D N.2;(have ex:dx (fx x).1++(⟨#[44]⟩:BA)++dx (fx x).2.1=x:=by refine cQ ?_;rw[aV,aV,bX,bX,gL];exact(BI x.data.toList O).symm);rw[ex]at U;exact⟨_,U,D.adv.adv.adv.adv.adv,rfl,hp⟩
   ·(have O:(fx x).2.2=false:=by simpa using O);rw[gB (by rw[O];decide)]at D;have D:At c (adv s) ((1,dx (fx x).1)::(6,(⟨#[58,61]⟩:BA))::(2,(⟨#[114,97,110,103,101]⟩:BA))::(aG ((ac d).expr e deep true)++((6,(⟨#[123]⟩:BA))::(lb++r)))):=D;unfold cj at I;rw[gA,gD]at I;have U:=ER D I.2;(have ex:dx (fx x).1=x:=by refine cQ ?_;rw[bX];exact EL x.data.toList O);rw[ex]at U;exact⟨_,U,D.adv.adv.adv,rfl,hp⟩
 obtain⟨s2,U,h2,ge,ga⟩:=key;rw[U];show nO c s r _ (-1) ((db (cI G).expr c s2).bind fun e s3=>(bH (cI G) c s3).bind fun b s4=>.ok (.mk 32 x [e,b] (aD c s)) s4);have gd:=h2.len;obtain⟨e',s3,g1,g2,g3,g4,g5⟩:=wI hE deep he (G:=G) h2 ga (by simp only[gO,gM]at J gd;unfold Fu at *;omega) oD;rw[g1,bQ.bind_ok];have gb:=g3.len;obtain⟨b',s4,q1,q2,q3,q4,q5⟩:=gg G s3 _ g3 g5 (by simp only[gO,gM]at J gb;unfold Fu at *;omega);rw[q1,bQ.bind_ok];exact⟨_,s4,rfl,ci.mk (bi.cons g2 (bi.one q2)) _ _,q3,q4.trans (g4.trans ge),q5⟩
end
instance(t:TK):Decidable (Ir t):=by unfold Ir;infer_instance
theorem PW{t:TK}(h:dq t=true):cD t ⟨#[118,97,114]⟩=false/\cD t ⟨#[105,102]⟩=false/\cD t ⟨#[102,111,114]⟩=false/\cD t ⟨#[123]⟩=false/\cD t ⟨#[114,101,116,117,114,110]⟩=false/\cD t ⟨#[98,114,101,97,107]⟩=false/\cD t ⟨#[99,111,110,116,105,110,117,101]⟩=false:=
 ⟨bU h _ (by decide) (by decide) (by decide) (by decide) (by decide),bU h _ (by decide) (by decide) (by decide) (by decide) (by decide),bU h _ (by decide) (by decide) (by decide) (by decide) (by decide),bU h _ (by decide) (by decide) (by decide) (by decide) (by decide),bU h _ (by decide) (by decide) (by decide) (by decide) (by decide),bU h _ (by decide) (by decide) (by decide) (by decide) (by decide),bU h _ (by decide) (by decide) (by decide) (by decide) (by decide)⟩
section
variable {c:Cx} {d:Nat}
theorem lr{t:TK}{q:List TK}{n:Nd}{f:Nat->R Nd}(I:∀G s r,At c s (t::(q++r))->f G c s=iu (cI G) c s)(h:DP c f 2 (t::q) n):DP c (fun G=>(cI G).stmt) 3 (t::q) n:=by
 intro G s r ha hh hp D hr;cases G with
 |zero=>exact absurd D (by unfold Fu;omega)
 |succ G=>show nO c s r n (-1) (iu (cI G) c s);rw[<-I G s r ha];exact h G s r ha hh hp (D.more (by omega)) hr
theorem SR(hE:wG c d){n:Nd}(deep:Nat)(M:dr (aa d) n=true):DP c (fun G=>iC (cI G)) 2 (aG (cv (ac d) n deep false)) n:=by intro G s r h hh hp hf hr;obtain⟨x,U,O,_,N⟩:=BG hE deep false M G s r h hh hp hf (by rw[hr];exact wK (un false) (by decide) (by decide) (by decide));obtain⟨n',D,J,p2,p3,p4,I⟩:=N (aD c s);refine⟨n',D,?_,p2,p3,p4,I⟩;show iC (cI G) c s=_;unfold iC;rw[O,bQ.bind_ok,J]
theorem PX(hE:wG c d){n:Nd}(deep:Nat)(U:cE 33 [ck an (aa d).expr] n=true):∃q,aG (cv (ac d) n deep false)=(2,(⟨#[114,101,116,117,114,110]⟩:BA))::q/\DP c (fun G=>iu (cI G)) 2 ((2,(⟨#[114,101,116,117,114,110]⟩:BA))::q) n:=by
 obtain⟨l,a,rfl,h0⟩:=cg U;obtain⟨x,rfl,I⟩:=dW h0;(have e:aG (cv (ac d) (.mk 33 ⟨#[]⟩ [x] a) deep false)=(2,(⟨#[114,101,116,117,114,110]⟩:BA))::aG (if x.kind=0 then[]else aY::(ac d).expr x deep false):=by show(2,dx (bytes ⟨#[114,101,116,117,114,110]⟩))::_=_;rw[cH];rfl);refine⟨_,e,fun G s r h hh M hf J=>?_⟩;have h:At c s ((2,(⟨#[114,101,116,117,114,110]⟩:BA))::(aG (if x.kind=0 then[]else aY::(ac d).expr x deep false)++r)):=h;show nO c s r _ (-1) (iu (cI G) c s);unfold iu;rw[gB (h.no (by decide)),gB (h.no (by decide)),gB (h.no (by decide)),gB (h.no (by decide)),gG (h.yes (by decide))];obtain⟨f1,f2⟩:=hf.adv h;unfold ck at I;rw[gI]at I;have D:=h.adv;rcases I with I|I
 ·obtain⟨ax,rfl⟩:=bN I;have D:At c (adv s) r:=D;rw[gG]
  ·exact⟨_,_,rfl,ci.mk (bi.one (fc ax)) _ _,D,rfl,M⟩
  ·unfold d6;rw[D.is,D.is,D.is,J];decide
 ·rw[gB (mJ hE I)]at D;have D:At c (adv s) (aG ((ac d).expr x deep false)++r):=D;obtain⟨t,q,e2,O⟩:=(hE x deep false false I).beg;rw[gB]
  ·obtain⟨x',N,g1,g2,g3,g4,g5⟩:=oE hE deep I (G:=G) D hh M (f2.more (by omega)) (by rw[J];exact un false);rw[g1,bQ.bind_ok];exact⟨_,N,rfl,ci.mk (bi.one g2) _ _,g3,g4,g5⟩
  ·unfold d6;have hb:=R4 O;rw[D.is,D.is,D.is,e2];show ¬ ((cD t ⟨#[59]⟩||cD t ⟨#[10]⟩)||cD t ⟨#[125]⟩)=true;rw[hb.1,hb.2.1,hb.2.2];decide
theorem M9 (hE:wG c d)(hB:Dm c d)(hS:Is c d)(hI:TT c d)(U:∀n deep,(aa d).block n=true->aG ((ac d).stmt n deep false)=aG ((ac d).block n deep)):Is c (d+1):=by
 intro n deep D;show(∃t q,aG (cv (ac d) n deep false)=t::q/\Ir t)/\DP c (fun G=>(cI G).stmt) 3 (aG (cv (ac d) n deep false)) n;have D:aE (aa d) n=true:=D;(have J:dr (aa d) n=true->(∃t q,aG (cv (ac d) n deep false)=t::q/\Ir t)/\DP c (fun G=>(cI G).stmt) 3 (aG (cv (ac d) n deep false)) n:=by intro hs;obtain⟨t,q,e,ht⟩:=BM hE deep false hs;refine⟨⟨t,q,e,R4 ht⟩,?_⟩;have I:=SR hE deep hs;rw[e]at I |-;obtain⟨b1,b2,b3,b4,b5,b6,b7⟩:=PW ht;refine lr (fun G s r h=>?_) I;unfold iu;rw[gB (h.no b1),gB (h.no b2),gB (h.no b3),gB (h.no b4),gB (h.no b5),gB (h.no b6),gB (h.no b7)]);unfold aE at D;split at D
 ·rename_i N;have I:=FW hE deep D;(have e:∃q,aG (cv (ac d) n deep false)=(2,(⟨#[118,97,114]⟩:BA))::q/\aG (pl (ac d) n deep)=(2,(⟨#[118,97,114]⟩:BA))::q:=by unfold cv;rw[gG N];exact⟨_,rfl,rfl⟩);obtain⟨q,M,e2⟩:=e;rw[e2]at I;rw[M];refine⟨⟨_,_,rfl,by decide⟩,lr (fun G s r h=>?_) I⟩;unfold iu;rw[gG (h.yes (by decide))]
 ·split at D
  ·exact J (by unfold dr;rw[D];rfl)
  ·split at D
   ·exact J (by unfold dr;rw[D,kQ,jG])
   ·split at D
    ·exact J (by unfold dr;rw[D,kQ,jG,jG])
    ·split at D
     ·exact J (by unfold dr;rw[D,jG,jG,jG])
     ·split at D
      ·have I:=M3 hE hB hI U deep D;(have e:∃q,aG (cv (ac d) n deep false)=(2,(⟨#[105,102]⟩:BA))::q:=by obtain⟨l,a,rfl,_⟩:=cg D;exact⟨_,rfl⟩);obtain⟨q,M⟩:=e;rw[M]at I |-;refine⟨⟨_,_,rfl,by decide⟩,lr (fun G s r h=>?_) I⟩;unfold iu;rw[gB (h.no (by decide)),gG (h.yes (by decide))]
      ·split at D
       ·have I:=PV hE hB deep D;(have e:∃q,aG (cv (ac d) n deep false)=(2,(⟨#[102,111,114]⟩:BA))::q:=by obtain⟨l,a,rfl,_⟩:=cg D;exact⟨_,rfl⟩);obtain⟨q,M⟩:=e;rw[M]at I |-;refine⟨⟨_,_,rfl,by decide⟩,lr (fun G s r h=>?_) I⟩;unfold iu;rw[gB (h.no (by decide)),gB (h.no (by decide)),gG (h.yes (by decide))]
       ·split at D
        ·have I:=IB hE hB deep D;(have e:∃q,aG (cv (ac d) n deep false)=(2,(⟨#[102,111,114]⟩:BA))::q:=by obtain⟨x,l,a,rfl,_⟩:=aJ (by decide) D;exact⟨_,rfl⟩);obtain⟨q,M⟩:=e;rw[M]at I |-;refine⟨⟨_,_,rfl,by decide⟩,lr (fun G s r h=>?_) I⟩;unfold iu;rw[gB (h.no (by decide)),gB (h.no (by decide)),gG (h.yes (by decide))]
        ·split at D
         ·obtain⟨q,M,I⟩:=PX hE deep D;rw[M];exact⟨⟨_,_,rfl,by decide⟩,lr (fun G s r h=>rfl) I⟩
         ·split at D
          ·rename_i N;rcases N with N|N
           ·rw[N]at D;obtain⟨l,a,rfl,h0⟩:=cg D;cases l with
            |cons y l=>cases h0
            |nil=>refine⟨⟨_,_,rfl,by decide⟩,lr (t:=(2,(⟨#[98,114,101,97,107]⟩:BA))) (q:=[]) (f:=fun G=>iu (cI G)) (fun G s r h=>rfl) fun G s r h hh O hf hr=>?_⟩;have h:At c s ((2,(⟨#[98,114,101,97,107]⟩:BA))::r):=h;show nO c s r _ (-1) (iu (cI G) c s);unfold iu;rw[gB (h.no (by decide)),gB (h.no (by decide)),gB (h.no (by decide)),gB (h.no (by decide)),gB (h.no (by decide)),gG (h.yes (by decide))];exact⟨_,_,rfl,ci.mk bi.nil _ _,h.adv,rfl,O⟩
           ·rw[N]at D;obtain⟨l,a,rfl,h0⟩:=cg D;cases l with
            |cons y l=>cases h0
            |nil=>refine⟨⟨_,_,rfl,by decide⟩,lr (t:=(2,(⟨#[99,111,110,116,105,110,117,101]⟩:BA))) (q:=[]) (f:=fun G=>iu (cI G)) (fun G s r h=>rfl) fun G s r h hh O hf hr=>?_⟩;have h:At c s ((2,(⟨#[99,111,110,116,105,110,117,101]⟩:BA))::r):=h;show nO c s r _ (-1) (iu (cI G) c s);unfold iu;rw[gB (h.no (by decide)),gB (h.no (by decide)),gB (h.no (by decide)),gB (h.no (by decide)),gB (h.no (by decide)),gB (h.no (by decide)),gG (h.yes (by decide))];exact⟨_,_,rfl,ci.mk bi.nil _ _,h.adv,rfl,O⟩
          ·have hb:bI (aa d) n=true:=D;(have N:n.kind=36:=by unfold bI at hb;rw[gA,gD]at hb;exact hb.1);(have e0:cv (ac d) n deep false=oT (ac d) n deep:=by unfold cv;rw[gB (by omega),gB (by omega),gB (by omega),gB (by omega),gB (by omega),gB (by omega),gB (by omega),gB (by omega),gB (by omega),gB (by omega),gB (by omega)]);have I:=FX hS deep hb;rw[wH]at I;rw[e0,wH];refine⟨⟨_,_,rfl,by decide⟩,lr (f:=fun G=>bH (cI G)) (fun G s r h=>?_) fun G s r h hh O hf hr=>I G s r h O (by unfold Fu at *;omega)⟩;show bH (cI G) c s=_;unfold iu;rw[gB (h.no (by decide)),gB (h.no (by decide)),gB (h.no (by decide)),gG (h.yes (by decide))]
theorem F4(d:Nat):∀n deep,(aa d).block n=true->aG ((ac d).stmt n deep false)=aG ((ac d).block n deep):=by
 intro n deep D;cases d with
 |zero=>cases D
 |succ d=>have hb:bI (aa d) n=true:=D;(have I:n.kind=36:=by unfold bI at hb;rw[gA,gD]at hb;exact hb.1);show aG (cv (ac d) n deep false)=_;unfold cv;rw[gB (by omega),gB (by omega),gB (by omega),gB (by omega),gB (by omega),gB (by omega),gB (by omega),gB (by omega),gB (by omega),gB (by omega),gB (by omega)];rfl
theorem PY(hE:wG c d)(hB:Dm c d)(J:TT c d):TT c (d+1):=by
 intro n deep I;have I:AQ (aa d) n=true:=I;refine⟨by obtain⟨l,a,rfl,_⟩:=cg I;rfl,?_⟩;intro G s r ha hh hp D hr;cases G with
 |zero=>exact absurd D (by unfold Fu;omega)
 |succ G=>exact M3 hE hB J (F4 d) deep I G s r ha hh hp (D.more (by omega)) hr
end
theorem sE(c:Cx):∀d,wG c d/\Dm c d/\Is c d/\TT c d
 |0=>⟨fun _ _ _ _ h=>(by cases h),fun _ _ h=>(by cases h),fun _ _ h=>(by cases h),fun _ _ h=>(by cases h)⟩
 |d+1=>by obtain⟨I,D,M,J⟩:=sE c d;exact⟨MY I D,M2 M,M9 I D M J (F4 d),PY I D J⟩
theorem tj(t:TK):∀(l:List (List TK))(x:List TK),eh t (x::l)=x++l.flatMap fun y=>t::y
 |[],x=>by show x=x++[];rw[kE]
 |y::l,x=>by show x++(t::eh t (y::l))=_;rw[tj t l y,jE];rfl
section
variable {c:Cx} {d:Nat}
theorem Dt{t:Nd}(ht:lh (aa d) t=true){G:Nat}{s:St}{r:List TK}(h:At c s (aG (ig t.text++ag d (aW t 0))++r))(hb:dq (dS r)=false)(hf:Fu c 1 G s):nO c s r t s.part (ma (cI G) c s):=by
 obtain⟨x,l,a,rfl,I,h0⟩:=aJ (by decide) ht;obtain⟨k,rfl,J⟩:=dW h0;unfold im at I;rw[gI,gD,gD]at I;unfold ma;rcases I with rfl|rfl
 ·have h:At c s (aG (ag d k)++r):=h;obtain⟨u,q,e,hu⟩:=f9 J;rw[gB]
  ·obtain⟨n',D,g1,U,O,N,M⟩:=ia d G k J s r h hb hf;rw[g1,bQ.bind_ok];exact⟨_,D,rfl,ci.mk (bi.one U) _ _,O,N,M⟩
  ·rw[h.is,e];show ¬ cD u ⟨#[126]⟩=true;rw[bU hu _ (by decide) (by decide) (by decide) (by decide) (by decide)];decide
 ·have h:At c s ((6,(⟨#[126]⟩:BA))::(aG (ag d k)++r)):=h;rw[gG (h.yes (by decide))];obtain⟨n',D,g1,U,O,N,M⟩:=ia d G k J (adv s) r h.adv hb (hf.le (jN _));rw[g1,bQ.bind_ok];exact⟨_,D,rfl,ci.mk (bi.one U) _ _,O,N,M⟩
theorem Du(p:Int){G:Nat}:∀(l:List Nd)(g:Nat)(acc acc':List Nd)(s:St)(r:List TK),l.all (lh (aa d))=true ->
  At c s (l.flatMap (fun t=>(6,(⟨#[124]⟩:BA))::aG (ig t.text++ag d (aW t 0)))++r)->dq (dS r)=false->cD (dS r) ⟨#[124]⟩=false->Fu c 1 G s->c.toks.length-s.at_<g->bi acc' acc ->
  wt c s r (fun n'=>∃l',n'=.mk 14 ⟨#[]⟩ l' p/\bi l' (acc++l)) s.part (eQ (cI G) p g acc' c s)
 |_,0,_,_,_,_,_,_,_,_,_,N,_=>absurd N (by omega)
 |[],g+1,acc,acc',s,r,_,h,_,I,_,_,U=>by have h:At c s r:=h;unfold eQ;rw[gB (by rw[h.is,I];decide)];exact⟨_,s,rfl,⟨acc',rfl,by rwa [kE]⟩,h,rfl,rfl⟩
 | x::l,g+1,acc,acc',s,r,J,h,hb,I,O,N,U=>by
  rw[jX,gA]at J;rw[jE,gL]at h;have h:At c s ((6,(⟨#[124]⟩:BA))::(aG (ig x.text++ag d (aW x 0))++(l.flatMap (fun t=>(6,(⟨#[124]⟩:BA))::aG (ig t.text++ag d (aW t 0)))++r))):=h;unfold eQ;rw[gG (h.yes (by decide))];have M:dq (dS (l.flatMap (fun t=>(6,(⟨#[124]⟩:BA))::aG (ig t.text++ag d (aW t 0)))++r))=false:=by
   cases l with
   |nil=>exact hb
   |cons y l=>show dq (6,(⟨#[124]⟩:BA))=false;decide
  obtain⟨n',s1,g1,g2,g3,g4,g5⟩:=Dt J.1 (G:=G) h.adv M (O.le (jN _));rw[g1,bQ.bind_ok];have ga:=fI h.adv g3;have D:=h.len;have e1:(adv s).at_=s.at_+1:=rfl;obtain⟨n2,s2,k1,⟨l',k2,k3⟩,k4,k5,k6⟩:=Du p l g (acc++[x]) (acc'++[n']) s1 r J.2 g3 hb I (O.le (by omega)) (by simp only[gO]at D;omega) (U.app (bi.one g2));exact⟨n2,s2,k1,⟨l',k2,by simpa using k3⟩,k4,k5.trans g4,k6.trans g5⟩
theorem IC(p:Int){G:Nat}{x:Nd}{l:List Nd}{s:St}{r:List TK}(D:(x::l).all (lh (aa d))=true)(h:At c s (eh (6,(⟨#[124]⟩:BA)) ((x::l).map fun t=>aG (ig t.text++ag d (aW t 0)))++r))(hb:dq (dS r)=false)(hr:cD (dS r) ⟨#[124]⟩=false)(I:Fu c 1 G s):
  wt c s r (fun n'=>∃l',n'=.mk 14 ⟨#[]⟩ l' p/\bi l' (x::l)) s.part (fv (cI G) p c s):=by
 rw[jT,tj,gL,List.flatMap_map]at h;rw[jX,gA]at D;have J:dq (dS (l.flatMap (fun t=>(6,(⟨#[124]⟩:BA))::aG (ig t.text++ag d (aW t 0)))++r))=false:=by
  cases l with
  |nil=>exact hb
  |cons y l=>show dq (6,(⟨#[124]⟩:BA))=false;decide
 unfold fv;obtain⟨n',O,g1,g2,M,g4,g5⟩:=Dt D.1 (G:=G) h J I;rw[g1,bQ.bind_ok,nP];have ga:=fI h M;obtain⟨U,N,k1,⟨l',k2,k3⟩,k4,k5,k6⟩:=Du p (G:=G) l G [x] [n'] O r D.2 M hb hr (I.le (by omega)) (by unfold Fu at I;omega) (bi.one g2);exact⟨U,N,k1,⟨l',k2,k3⟩,k4,k5.trans g4,k6.trans g5⟩
theorem Dv(f:Nd->List It)(n:Nd):aG (l7 f n)=(2,(⟨#[105,110,116,101,114,102,97,99,101]⟩:BA))::(6,(⟨#[123]⟩:BA))::(eh (6,(⟨#[124]⟩:BA)) (n.kids.map fun t=>aG (ig t.text++f (aW t 0)))++[(6,(⟨#[125]⟩:BA))]):=by unfold l7;show(2,dx (bytes ⟨#[105,110,116,101,114,102,97,99,101]⟩))::(6,dx [123])::aG (cr [aY,cK 124,aY] _++[aY,cK 125])=_;rw[cH,aX,Bu _ (6,(⟨#[124]⟩:BA)) rfl,qV];rfl
theorem Aw(p:Int){G:Nat}{n:Nd}(I:bo (aa d) n=true){s:St}{r:List TK}(h:At c s ((6,(⟨#[123]⟩:BA))::(eh (6,(⟨#[124]⟩:BA)) (n.kids.map fun t=>aG (ig t.text++ag d (aW t 0)))++((6,(⟨#[125]⟩:BA))::r))))(hf:Fu c 1 G s):nO c s r n s.part (iJ (cI G) p c s):=by
 obtain⟨k,t,l,a⟩:=n;unfold bo at I;rw[gA,gA,gA,gD,gD,gD]at I;obtain⟨hk,ht,J,hl⟩:=I;obtain rfl:k=14:=hk;obtain rfl:t=(⟨#[]⟩:BA):=ht;cases l with
 |nil=>exact absurd J (by show ¬ 0<0;omega)
 |cons x l=>unfold iJ;rw[eX h ⟨#[123]⟩ (by decide),bQ.bind_ok];obtain⟨n2,M,k1,⟨l',rfl,U⟩,D,O,N⟩:=IC p (G:=G) hl h.adv (show dq (6,(⟨#[125]⟩:BA))=false by decide) (show cD (6,(⟨#[125]⟩:BA)) ⟨#[124]⟩=false by decide) (hf.le (jN _));rw[k1,bQ.bind_ok];(have hs:fB c M=M:=by unfold fB;rw[gB];unfold d6;rw[D.is,D.is];show ¬ (cD (6,(⟨#[125]⟩:BA)) ⟨#[59]⟩||cD (6,(⟨#[125]⟩:BA)) ⟨#[10]⟩)=true;decide);rw[hs,eX D ⟨#[125]⟩ (by decide),bQ.bind_ok];exact⟨_,_,rfl,ci.mk U _ _,D.adv,O,N⟩
theorem PZ{G:Nat}{n:Nd}(D:ck (eS (aa d)) (bo (aa d)) n=true){s:St}{r:List TK}(h:At c s (aG (fJ (ac d) n)++r))(hb:dq (dS r)=false)(hr:cD (dS r) ⟨#[124]⟩=false)(M:Fu c 1 G s):nO c s r n s.part (ez (cI G) c s):=by
 unfold ck at D;rw[gI]at D;have hF:(ac d).typ=ag d:=funext dM;unfold fJ at h;unfold ez;rcases D with D|D
 ·unfold eS at D;rw[gA,gD]at D;obtain⟨O,D⟩:=D;rw[gB (by omega),hF]at h;obtain⟨u,q,e,U⟩:=f9 D;(have J:aP c s ⟨#[105,110,116,101,114,102,97,99,101]⟩=false:=by rw[h.is,e];exact bU U _ (by decide) (by decide) (by decide) (by decide) (by decide));rw[gB (by rw[J];decide)];(have I:aP c s ⟨#[126]⟩=false:=by rw[h.is,e];exact bU U _ (by decide) (by decide) (by decide) (by decide) (by decide));obtain⟨y,s1,g1,g2,g3,g4,g5⟩:=ia d G n D s r h hb M;cases G with
  |zero=>exact absurd M (by unfold Fu;omega)
  |succ G=>unfold fv ma;rw[gB (by rw[I];decide),g1,bQ.bind_ok,bQ.bind_ok,nP];unfold eQ;rw[gB (by rw[g3.is,hr];decide),bQ.bind_ok];refine⟨y,s1,?_,g2,g3,g4,g5⟩;(have hy:∀p q,yN (.mk 14 ⟨#[]⟩ [.mk 15 ⟨#[]⟩ [y] q] p)=some y:=by intro p q;show(if(⟨#[]⟩:BA)=(⟨#[]⟩:BA)/\y.kind=10 then some y else none)=some y;rw[gG ⟨rfl,by rw[g2.kind];exact O⟩]);rw[hy];rfl
 ·(have N:n.kind=14:=by unfold bo at D;rw[gA,gD]at D;exact D.1);rw[gG N,hF,Dv]at h;have h:At c s ((2,(⟨#[105,110,116,101,114,102,97,99,101]⟩:BA))::((6,(⟨#[123]⟩:BA))::(eh (6,(⟨#[124]⟩:BA)) (n.kids.map fun t=>aG (ig t.text++ag d (aW t 0)))++[(6,(⟨#[125]⟩:BA))]))++r):=h;rw[jJ,jJ,gL]at h;rw[gG (h.yes (by decide))];exact Aw (aD c s) D h.adv (M.le (jN _))
end
end
end Go.Proofs.YteialcjaiocjdaaGreatDoor
