/-
  Parts of the proof: Ppm Ppn Ppv. By an AI agent.
-/
import Derived.Test.YtiebcdeafofgdaaGreatDoorJ40
import Derived.Test.YtiebcdeafofgdaaGreatDoorJ36
namespace Go.Proofs.YtiebcdeafofgdaaGreatDoor
section
open Go.Lib
theorem jE:type_of% @Bool.or_true:=@Bool.or_true
theorem rA{c:Cx}{s:St}{L:List TK}(h:At c s L)(hS:tK L):bN c s=none:=by
 cases L with
 |nil=>(have I:aS c s ⟨#[114,97,110,103,101]⟩=false:=by rw[h.is];rfl);have M:=h.2;unfold bN;rw[I,List.map_eq_nil_iff.1 M];rfl
 | cons t q=>
  obtain⟨N,M⟩:=hS t q rfl;by_cases O:t.1=1
  ·rcases M O with rfl|⟨u,q',rfl,U⟩
   ·(have I:aS c s ⟨#[114,97,110,103,101]⟩=false:=by rw[h.is];exact Fw N);have D:=h.2;cases J:c.toks.drop s.at_ with
    |nil=>rw[J]at D;cases D
    |cons a l=>rw[J]at D;injection D with _ D;unfold bN;rw[I,J,List.map_eq_nil_iff.1 D];rfl
   ·exact Bk h N fun _=>U
  ·exact l8 h (Fw N) O
theorem fE{F:cQ}{n:Nd}(h:dm F n=true):26<=n.kind/\n.kind<=29:=by
 unfold dm at h;rw[gI,gI,gI]at h;rcases h with h|h|h|h
 ·obtain⟨x,l,a,rfl,_⟩:=aN (by decide) h;exact⟨by show(26:Int)<=26;omega,by show(26:Int)<=29;omega⟩
 ·obtain⟨l,a,rfl,_⟩:=bV h;exact⟨by show(26:Int)<=27;omega,by show(27:Int)<=29;omega⟩
 ·obtain⟨x,l,a,rfl,_⟩:=aN (by decide) h;exact⟨by show(26:Int)<=28;omega,by show(28:Int)<=29;omega⟩
 ·obtain⟨l,a,rfl,_⟩:=bV h;exact⟨by show(26:Int)<=29;omega,by show(29:Int)<=29;omega⟩
theorem wu{head:Bool}{t:TK}(h:fD head t)(J:cW t ⟨#[61]⟩=false)(I:cW t ⟨#[43,43]⟩=false)(D:cW t ⟨#[45,45]⟩=false):yY head t:=⟨h,J,I,D⟩
section
variable {c:Cx} {d:Nat} (hE:tQ c d)
include hE
theorem Bm{n:Nd}(deep:Nat)(head:Bool)(D:dm (aa d) n=true):∃t q,aH (ch (ao d) n deep head)=t::q/\eD t=true:=by
 unfold dm at D;rw[gI,gI,gI]at D;rcases D with D|D|D|D
 ·obtain⟨x,l,a,rfl,N,J⟩:=aN (by decide) D;exact⟨(1,d7 (bytes x)),_,rfl,rfl⟩
 ·obtain⟨l,a,rfl,J⟩:=bV D;obtain⟨y,v,rfl,I,O⟩:=ll J;obtain⟨t,q,e,M⟩:=(hE y deep head false I).beg;refine⟨t,q++aH (bu::bS 61::bu::(ao d).expr v deep head),?_,M⟩;show aH ((ao d).expr y deep head++_)=_;rw[aR,e];rfl
 ·obtain⟨x,l,a,rfl,N,J⟩:=aN (by decide) D;obtain⟨y,rfl,I⟩:=d8 J;obtain⟨t,q,e,M⟩:=(hE y deep head false I).beg;refine⟨t,q++aH [iV x],?_,M⟩;show aH ((ao d).expr y deep head++_)=_;rw[aR,e];rfl
 ·obtain⟨l,a,rfl,J⟩:=bV D;obtain⟨y,rfl,I⟩:=d8 J;unfold iw at I;rw[gB]at I;exact(hE y deep head false I.2).beg
theorem PB{n:Nd}(deep:Nat)(head:Bool)(D:dm (aa d) n=true)(hk:n.kind≠29){s:St}{r:List TK}(h:At c s (aH (ch (ao d) n deep head)++r)):bN c s=none:=by
 unfold dm at D;rw[gI,gI,gI]at D;rcases D with D|D|D|D
 ·obtain⟨x,l,a,rfl,N,J⟩:=aN (by decide) D;obtain⟨v,rfl,O⟩:=d8 J;obtain⟨t,q,e,U⟩:=(hE v deep head false O).beg;have hS:=(hE v deep head false O).sec;(have M:aH (ch (ao d) (.mk 26 x [v] a) deep head)++r=(1,x)::(6,(⟨#[58,61]⟩:BA))::(aH ((ao d).expr v deep head)++r):=by show aH (mK x::bu::iV ⟨#[58,61]⟩::bu::(ao d).expr v deep head)++r=_;rw[ob];show(1,x)::(aH (iV ⟨#[58,61]⟩::bu::(ao d).expr v deep head)++r)=_;rw[o5];rfl);rw[M,e]at h;exact Bl (r:=q++r) h (hS t q e).1
 ·obtain⟨l,a,rfl,J⟩:=bV D;obtain⟨y,v,rfl,I,O⟩:=ll J;obtain⟨t,q,e,U⟩:=(hE y deep head false I).beg;(have M:aH (ch (ao d) (.mk 27 ⟨#[]⟩ [y,v] a) deep head)++r=aH ((ao d).expr y deep head)++((6,(⟨#[61]⟩:BA))::(aH ((ao d).expr v deep head)++r)):=by show aH ((ao d).expr y deep head++(bu::bS 61::bu::(ao d).expr v deep head))++r=_;rw[aR,gO];rfl);rw[M]at h;exact rA h ((hE y deep head false I).sec.app (by rw[e];simp) (by decide +kernel) _)
 ·obtain⟨x,l,a,rfl,N,J⟩:=aN (by decide) D;obtain⟨y,rfl,I⟩:=d8 J;unfold f8 at N;rw[gI,gE,gE]at N;obtain⟨t,q,e,U⟩:=(hE y deep head false I).beg;(have M:aH (ch (ao d) (.mk 28 x [y] a) deep head)++r=aH ((ao d).expr y deep head)++((6,x)::r):=by show aH ((ao d).expr y deep head++[iV x])++r=_;rw[aR,o5,gO];rfl);rw[M]at h;exact rA h ((hE y deep head false I).sec.app (by rw[e];simp) (by rcases N with rfl|rfl<;>decide +kernel) _)
 ·obtain⟨l,a,rfl,_⟩:=bV D;exact absurd rfl hk
theorem MQ{p:Nd}(deep:Nat)(I:dm (aa d) p=true)(D:p.kind≠26){G:Nat}{s:St}{r:List TK}(h:At c s (aH (ep (ao d) p deep true)++r))(O:s.part = -1)(U:Fu c 2 G s)(hs:yY true (et r)):sf c s r p (-1) (db (ne (di G)) c s):=by rw[<-n7 _ (fE I)]at h;obtain⟨x,s1,g1,_,g3⟩:=Bf hE deep true I G { s with head:=true } r h rfl O U hs;obtain⟨n',J,N,p2,p3,p4,M⟩:=g3 (aM c { s with head:=true });(have e:ne (di G) c { s with head:=true }=.ok n' J:=by unfold ne ii;rw[g1,cC.bind_ok,N,cC.bind_ok,d5 (by rw[p2.kind];exact D)]);exact⟨n',_,ua e,p2,p3,rfl,M⟩
theorem G9{i:Nd}(deep:Nat)(I:dm (aa d) i=true)(D:i.kind≠29){G:Nat}{s:St}{r:List TK}(h:At c s (aH (ep (ao d) i deep true)++r))(O:s.part = -1)(U:Fu c 2 G s)(hs:yY true (et r)):sf c s r i (-1) (db (fq (di G)) c s):=by rw[<-n7 _ (fE I)]at h;obtain⟨x,s1,g1,g2,g3⟩:=Bf hE deep true I G { s with head:=true } r h rfl O U hs;obtain⟨n',J,N,p2,p3,p4,M⟩:=g3 (aM c { s with head:=true });(have e:fq (di G) c { s with head:=true }=.ok n' J:=by unfold fq;rw[g1,cC.bind_ok,d5 (by rw[g2 D];decide),N]);exact⟨n',_,ua e,p2,p3,rfl,M⟩
theorem MR{x:Nd}(deep:Nat)(M:(aa d).expr x=true){G:Nat}{s:St}{r:List TK}(h:At c s (aH ((ao d).expr x deep true)++((6,(⟨#[123]⟩:BA))::r)))(J:s.part = -1)(N:Fu c 2 G s):sf c s ((6,(⟨#[123]⟩:BA))::r) x (-1) (db (fq (di G)) c s):=by obtain⟨n',I,e,U,D,g4,O⟩:=ol hE deep M (s:={ s with head:=true }) h rfl J N oh;(have e:fq (di G) c { s with head:=true }=.ok n' I:=by unfold fq;rw[e,cC.bind_ok,gF (D.yes (by decide))]);exact⟨n',_,ua e,U,D,rfl,O⟩
theorem C5{e p:Nd}(deep:Nat)(N:ah e=true\/(aa d).expr e=true)(J:ah p=true\/(dm (aa d) p=true/\p.kind≠26))(a':Nd){G:Nat}{s:St}{r:List TK}
  (h:At c s ((6,(⟨#[59]⟩:BA))::(aH (if e.kind≠0 then(ao d).expr e deep true else[])++((6,(⟨#[59]⟩:BA))::(aH (if p.kind≠0 then ep (ao d) p deep true++[bu]else[])++((6,(⟨#[123]⟩:BA))::r))))))(hp:s.part = -1)(hf:Fu c 2 G s):
  ∃e' p' s',pT (di G) a' c s=.ok (a',e',p') s'/\co e' e/\co p' p/\At c s' ((6,(⟨#[123]⟩:BA))::r)/\s'.head=s.head/\s'.part = -1:=by
 unfold pT;rw[fN h ⟨#[59]⟩ (by decide),cC.bind_ok];have U:∃e' D,(if aS c (adv s) ⟨#[59]⟩then .ok bX (adv s)else db (di G).expr c (adv s))=cC.ok e' D/\co e' e/\At c D ((6,(⟨#[59]⟩:BA))::(aH (if p.kind≠0 then ep (ao d) p deep true++[bu]else[])++((6,(⟨#[123]⟩:BA))::r)))/\D.head=s.head/\D.part = -1:=by
  have O:=h.adv;rcases N with N|N
  ·obtain⟨a,rfl⟩:=bI N;have O:At c (adv s) ((6,(⟨#[59]⟩:BA))::(aH (if p.kind≠0 then ep (ao d) p deep true++[bu]else[])++((6,(⟨#[123]⟩:BA))::r))):=O;rw[gF (O.yes (by decide))];exact⟨_,_,rfl,eR a,O,rfl,hp⟩
  ·rw[gF (mv hE N)]at O;obtain⟨t,q,e1,ht⟩:=(hE e deep true false N).beg;(have M:aS c (adv s) ⟨#[59]⟩=false:=by rw[O.is,e1];exact cr ht _ (by decide) (by decide) (by decide) (by decide) (by decide));rw[d5 (by rw[M];decide)];obtain⟨e',D,g1,g2,g3,g4,g5⟩:=wt hE deep N (G:=G) O hp (hf.le (jZ _)) (yX true);exact⟨e',D,g1,g2,g3,g4,g5⟩
 obtain⟨e',D,g1,g2,g3,g4,g5⟩:=U;rw[g1,cC.bind_ok];unfold oT;rw[fN g3 ⟨#[59]⟩ (by decide),cC.bind_ok];have ga:Fu c 2 G (adv D):=hf.le (by have l1:=h.len;have l2:=g3.adv.len;have l3:(adv D).at_=D.at_+1:=rfl;simp only[gS,gL]at l1 l2;omega);have I:=g3.adv;rcases J with J|⟨J,gb⟩
 ·obtain⟨a,rfl⟩:=bI J;have I:At c (adv D) ((6,(⟨#[123]⟩:BA))::r):=I;rw[gF (I.yes (by decide)),cC.bind_ok];exact⟨_,_,_,rfl,g2,eR a,I,g4,g5⟩
 ·rw[gF (by have:=fE J;omega),aR,gO]at I;have I:At c (adv D) (aH (ep (ao d) p deep true)++((6,(⟨#[123]⟩:BA))::r)):=I;obtain⟨t,q,e1,ht⟩:=Bm hE deep true J;(have M:aS c (adv D) ⟨#[123]⟩=false:=by rw[I.is,<-n7 _ (fE J),e1];exact cr ht _ (by decide) (by decide) (by decide) (by decide) (by decide));rw[d5 (by rw[M];decide)];obtain⟨p',s4,k1,k2,k3,k4,k5⟩:=MQ hE deep J gb I g5 ga (show yY true (6,(⟨#[123]⟩:BA))from wu oh (by decide) (by decide) (by decide));rw[k1,cC.bind_ok];exact⟨_,_,_,rfl,g2,k2,k3,k4.trans g4,k5⟩
theorem PC(hB:CV c d){n:Nd}(deep:Nat)(hn:cA 31 [cB (cB ah (du (aa d))) (cB (fl (aa d)) (fk (aa d))),cB ah (aa d).expr,cB (cB ah (fl (aa d))) (cB (fk (aa d)) (eU (aa d))),(aa d).block] n=true):IE c (fun G=>p9 (di G)) 2 (aH (ch (ao d) n deep false)) n:=by
 intro G s r h hh hp hf hr;obtain⟨l,a,rfl,h0⟩:=bV hn;obtain⟨i,e,p,b,rfl,D,J,hq,hb⟩:=Pi h0;have D:ah i=true\/(dm (aa d) i=true/\i.kind≠29):=by
  unfold cB at D;rw[gI,gI,gI]at D;rcases D with(D|D)|(D|D)
  ·exact .inl D
  ·exact .inr ⟨by unfold dm;rw[D];rfl,by obtain⟨x,l,a,rfl,_⟩:=aN (by decide) D;show ¬ (26:Int)=29;omega⟩
  ·exact .inr ⟨by unfold dm;rw[D,kP,jE],by obtain⟨l,a,rfl,_⟩:=bV D;show ¬ (27:Int)=29;omega⟩
  ·exact .inr ⟨by unfold dm;rw[D,kP,jE,jE],by obtain⟨x,l,a,rfl,_⟩:=aN (by decide) D;show ¬ (28:Int)=29;omega⟩
 have hq:ah p=true\/(dm (aa d) p=true/\p.kind≠26):=by
  unfold cB at hq;rw[gI,gI,gI]at hq;rcases hq with(D|D)|(D|D)
  ·exact .inl D
  ·exact .inr ⟨by unfold dm;rw[D,kP,jE],by obtain⟨l,a,rfl,_⟩:=bV D;show ¬ (27:Int)=26;omega⟩
  ·exact .inr ⟨by unfold dm;rw[D,kP,jE,jE],by obtain⟨x,l,a,rfl,_⟩:=aN (by decide) D;show ¬ (28:Int)=26;omega⟩
  ·exact .inr ⟨by unfold dm;rw[D,jE,jE,jE],by obtain⟨l,a,rfl,_⟩:=bV D;show ¬ (29:Int)=26;omega⟩
 have J:ah e=true\/(aa d).expr e=true:=by
  unfold cB at J
  rwa [gI]at J
 obtain⟨lb,eb,gj⟩:=hB b deep hb;(have e1:aH (ch (ao d) (.mk 31 ⟨#[]⟩ [i,e,p,b] a) deep false)++r=(2,(⟨#[102,111,114]⟩:BA))::(aH (sc (ao d) (.mk 31 ⟨#[]⟩ [i,e,p,b] a) deep)++((6,(⟨#[123]⟩:BA))::(lb++r))):=by show aH (lJ ⟨#[102,111,114]⟩::bu::(sc (ao d) (.mk 31 ⟨#[]⟩ [i,e,p,b] a) deep++(ao d).block b deep))++r=_;show(2,d7 (bytes ⟨#[102,111,114]⟩))::(aH (sc (ao d) (.mk 31 ⟨#[]⟩ [i,e,p,b] a) deep++(ao d).block b deep)++r)=_;rw[dZ,aR,eb,gO,jP]);rw[e1]at h;obtain⟨f1,f2⟩:=hf.adv h;show sf c s r _ (-1) (p9 (di G) c s);unfold p9;rw[fN h ⟨#[102,111,114]⟩ (by decide),cC.bind_ok];have gb:=h.len;have I:=h.adv;have gk:(adv s).at_=s.at_+1:=rfl;have key:bN c (adv s)=none/\∃i' e' p' M,(if aS c (adv s) ⟨#[123]⟩then .ok (bX,bX,bX) (adv s)else nf (di G) c (adv s))=cC.ok (i',e',p') M/\co i' i/\co e' e/\co p' p/\At c M ((6,(⟨#[123]⟩:BA))::(lb++r))/\M.head=s.head/\M.part = -1:=by
  unfold sc at I;have k0:bc (.mk 31 ⟨#[]⟩ [i,e,p,b] a) 0=i:=rfl;have k1:bc (.mk 31 ⟨#[]⟩ [i,e,p,b] a) 1=e:=rfl;have k2:bc (.mk 31 ⟨#[]⟩ [i,e,p,b] a) 2=p:=rfl;rw[k0,k1,k2]at I;split at I
  ·rename_i hc;have ee:aH ((if i.kind≠0 then ep (ao d) i deep true else[])++(bS 59::bu::((if e.kind≠0 then(ao d).expr e deep true else[])++(bS 59::bu::(if p.kind≠0 then ep (ao d) p deep true++[bu]else[])))))++((6,(⟨#[123]⟩:BA))::(lb++r)) =
     aH (if i.kind≠0 then ep (ao d) i deep true else[])++((6,(⟨#[59]⟩:BA))::(aH (if e.kind≠0 then(ao d).expr e deep true else[])++((6,(⟨#[59]⟩:BA))::(aH (if p.kind≠0 then ep (ao d) p deep true++[bu]else[])++((6,(⟨#[123]⟩:BA))::(lb++r)))))):=by rw[aR];show(_++((6,d7 [59])::aH (_++_)))++_=_;rw[aR];show(_++((6,d7 [59])::(_++((6,d7 [59])::aH _))))++_=_;rw[gO,jP,gO,jP];rfl
   rw[ee]at I;rcases D with D|⟨D,ga⟩
   ·obtain⟨ai,rfl⟩:=bI D;have I:At c (adv s) ((6,(⟨#[59]⟩:BA))::(aH (if e.kind≠0 then(ao d).expr e deep true else[])++((6,(⟨#[59]⟩:BA))::(aH (if p.kind≠0 then ep (ao d) p deep true++[bu]else[])++((6,(⟨#[123]⟩:BA))::(lb++r)))))):=I;refine⟨l8 I (by decide) (by decide),?_⟩;obtain⟨e',p',M,g1,O,g3,g4,g5,g6⟩:=C5 hE deep J hq bX (G:=G) I hp (f2.more (by omega));rw[d5 (I.no (by decide)),rV,gF (I.yes (by decide))];exact⟨bX,e',p',M,g1,eR ai,O,g3,g4,g5,g6⟩
   ·rw[gF (by have:=fE D;omega)]at I;have U:=I;rw[<-n7 _ (fE D)]at U;refine⟨PB hE deep true D ga U,?_⟩;obtain⟨t,q,e2,ht⟩:=Bm hE deep true D;have N:∀x,x=(⟨#[123]⟩:BA)\/x=(⟨#[59]⟩:BA)->aS c (adv s) x=false:=by
     rintro x(rfl|rfl)
     ·rw[U.is,e2];exact cr ht _ (by decide) (by decide) (by decide) (by decide) (by decide)
     ·rw[U.is,e2];exact cr ht _ (by decide) (by decide) (by decide) (by decide) (by decide)
    obtain⟨i',M,g1,O,g3,g4,g5⟩:=G9 hE deep D ga (G:=G) I hp (f2.more (by omega)) (show yY true (6,(⟨#[59]⟩:BA))from wu (yX true) (by decide) (by decide) (by decide));have gi:Fu c 2 G M:=hf.le (by have l1:=iY I g3;omega);obtain⟨e',p',s3,k1,k2,k3,k4,k5,k6⟩:=C5 hE deep J hq i' (G:=G) g3 g5 gi;have gl:=fE D;rw[d5 (by rw[N _ (.inl rfl)];decide),rV,d5 (by rw[N _ (.inr rfl)];decide),g1,cC.bind_ok,d5 (by rw[O.kind];exact ga),d5 (by rw[O.kind];omega)];exact⟨i',e',p',s3,k1,O,k2,k3,k4,k5.trans g4,k6⟩
  ·rename_i hc;have gh:ah i=true:=D.resolve_right fun h=>hc (.inl (by have:=fE h.1;omega));have ge:ah p=true:=hq.resolve_right fun h=>hc (.inr (by have:=fE h.1;omega));obtain⟨ai,rfl⟩:=bI gh;obtain⟨ap,rfl⟩:=bI ge;rcases J with J|J
   ·obtain⟨ae,rfl⟩:=bI J;have I:At c (adv s) ((6,(⟨#[123]⟩:BA))::(lb++r)):=I;refine⟨l8 I (by decide) (by decide),?_⟩;rw[gF (I.yes (by decide))];exact⟨_,_,_,_,rfl,eR ai,eR ae,eR ap,I,rfl,hp⟩
   ·rw[gF (mv hE J),aR,gO]at I;have I:At c (adv s) (aH ((ao d).expr e deep true)++((6,(⟨#[123]⟩:BA))::(lb++r))):=I;obtain⟨t,q,e2,ht⟩:=(hE e deep true false J).beg;refine⟨rA I ((hE e deep true false J).sec.app (by rw[e2];simp) (by decide +kernel) _),?_⟩;have N:∀x,x=(⟨#[123]⟩:BA)\/x=(⟨#[59]⟩:BA)->aS c (adv s) x=false:=by
     rintro x(rfl|rfl)
     ·rw[I.is,e2];exact cr ht _ (by decide) (by decide) (by decide) (by decide) (by decide)
     ·rw[I.is,e2];exact cr ht _ (by decide) (by decide) (by decide) (by decide) (by decide)
    obtain⟨e',M,g1,O,g3,g4,g5⟩:=MR hE deep J (G:=G) I hp (f2.more (by omega));have gm:=sr hE J;rw[d5 (by rw[N _ (.inl rfl)];decide),rV,d5 (by rw[N _ (.inr rfl)];decide),g1,cC.bind_ok,d5 (by rw[O.kind];omega),gF (by rw[O.kind];omega)];exact⟨_,_,_,_,rfl,eR ai,O,eR ap,g3,g4,g5⟩
 obtain⟨gd,i',e',p',M,g1,O,g3,g4,g5,g6,g7⟩:=key;rw[gd];show sf c s r _ (-1) ((if aS c (adv s) ⟨#[123]⟩then .ok (bX,bX,bX) (adv s)else nf (di G) c (adv s)).bind fun h M=>(bC (di G) c M).bind fun b s3=>.ok (.mk 31 ⟨#[]⟩ [h.1,h.2.1,h.2.2,b] (aM c s)) s3);rw[g1,cC.bind_ok];have gg:=g5.len;obtain⟨b',s3,q1,q2,q3,q4,q5⟩:=gj G M _ g5 g7 (by simp only[gS,gL]at gb gg;unfold Fu at *;omega);rw[q1,cC.bind_ok];exact⟨_,s3,rfl,co.mk (bF.cons O (bF.cons g3 (bF.cons g4 (bF.one q2)))) _ _,q3,q4.trans g6,q5⟩
theorem Ia(hB:CV c d){n:Nd}(deep:Nat)(hn:cA 32 [(aa d).expr,(aa d).block] (au bL n)=true):IE c (fun G=>p9 (di G)) 2 (aH (ch (ao d) n deep false)) n:=by
 intro G s r h hh hp hf hr;obtain⟨x,l,a,rfl,hx,h0⟩:=aN (by decide) hn;obtain⟨e,b,rfl,he,hb⟩:=ll h0;obtain⟨lb,eb,gg⟩:=hB b deep hb;(have e1:aH (ch (ao d) (.mk 32 x [e,b] a) deep false)++r=(2,(⟨#[102,111,114]⟩:BA))::(aH (fB x)++((2,(⟨#[114,97,110,103,101]⟩:BA))::(aH ((ao d).expr e deep true)++((6,(⟨#[123]⟩:BA))::(lb++r))))):=by show aH (lJ ⟨#[102,111,114]⟩::bu::(fB x++(lJ ⟨#[114,97,110,103,101]⟩::bu::((ao d).expr e deep true++(bu::(ao d).block b deep)))))++r=_;show(2,d7 (bytes ⟨#[102,111,114]⟩))::(aH (fB x++(lJ ⟨#[114,97,110,103,101]⟩::bu::((ao d).expr e deep true++(bu::(ao d).block b deep))))++r)=_;rw[dZ,aR,gO];show _::(_++((2,d7 (bytes ⟨#[114,97,110,103,101]⟩))::(aH ((ao d).expr e deep true++(bu::(ao d).block b deep))++r)))=_;rw[dZ,aR,gO];show _::(_++(_::(_++(aH ((ao d).block b deep)++r))))=_;rw[eb];rfl);rw[e1]at h;obtain⟨f1,f2⟩:=hf.adv h;show sf c s r _ (-1) (p9 (di G) c s);unfold p9;rw[fN h ⟨#[102,111,114]⟩ (by decide),cC.bind_ok];have J:=h.len;have D:=h.adv;have key:∃s2,bN c (adv s)=some (x,s2)/\At c s2 (aH ((ao d).expr e deep true)++((6,(⟨#[123]⟩:BA))::(lb++r)))/\s2.head=s.head/\s2.part = -1:=by
  by_cases M:x=(⟨#[]⟩:BA)
  ·subst M;have D:At c (adv s) ((2,(⟨#[114,97,110,103,101]⟩:BA))::(aH ((ao d).expr e deep true)++((6,(⟨#[123]⟩:BA))::(lb++r)))):=D;refine⟨adv (adv s),?_,D.adv,rfl,hp⟩;unfold bN;rw[gF (D.yes (by decide))]
  ·unfold bL at hx;rw[gM M,vi,gI,gB,gB,gB]at hx;unfold fB at D;rw[d5 M]at D;rcases hx with⟨O,I,N⟩|⟨O,I⟩
   ·rw[gF O]at D;have D:At c (adv s) ((1,d7 (fj x).1)::(6,(⟨#[44]⟩:BA))::(1,d7 (fj x).2.1)::(6,(⟨#[58,61]⟩:BA))::(2,(⟨#[114,97,110,103,101]⟩:BA))::(aH ((ao d).expr e deep true)++((6,(⟨#[123]⟩:BA))::(lb++r)))):=D;unfold bY at N;rw[gB,gE]at N;have U:=EA D N.2;(have ex:d7 (fj x).1++(⟨#[44]⟩:BA)++d7 (fj x).2.1=x:=by refine cg ?_;rw[aO,aO,bH,bH,gO];exact(Bh x.data.toList O).symm);rw[ex]at U;exact⟨_,U,D.adv.adv.adv.adv.adv,rfl,hp⟩
   ·(have O:(fj x).2.2=false:=by simpa using O);rw[d5 (by rw[O];decide)]at D;have D:At c (adv s) ((1,d7 (fj x).1)::(6,(⟨#[58,61]⟩:BA))::(2,(⟨#[114,97,110,103,101]⟩:BA))::(aH ((ao d).expr e deep true)++((6,(⟨#[123]⟩:BA))::(lb++r)))):=D;unfold bY at I;rw[gB,gE]at I;have U:=Ez D I.2;(have ex:d7 (fj x).1=x:=by refine cg ?_;rw[bH];exact Et x.data.toList O);rw[ex]at U;exact⟨_,U,D.adv.adv.adv,rfl,hp⟩
 obtain⟨s2,U,h2,ge,ga⟩:=key;rw[U];show sf c s r _ (-1) ((db (di G).expr c s2).bind fun e s3=>(bC (di G) c s3).bind fun b s4=>.ok (.mk 32 x [e,b] (aM c s)) s4);have gd:=h2.len;obtain⟨e',s3,g1,g2,g3,g4,g5⟩:=wt hE deep he (G:=G) h2 ga (by simp only[gS,gL]at J gd;unfold Fu at *;omega) oh;rw[g1,cC.bind_ok];have gb:=g3.len;obtain⟨b',s4,q1,q2,q3,q4,q5⟩:=gg G s3 _ g3 g5 (by simp only[gS,gL]at J gb;unfold Fu at *;omega);rw[q1,cC.bind_ok];exact⟨_,s4,rfl,co.mk (bF.cons g2 (bF.one q2)) _ _,q3,q4.trans (g4.trans ge),q5⟩
end
instance(t:TK):Decidable (G2 t):=by unfold G2;infer_instance
theorem PD{t:TK}(h:eD t=true):cW t ⟨#[118,97,114]⟩=false/\cW t ⟨#[105,102]⟩=false/\cW t ⟨#[102,111,114]⟩=false/\cW t ⟨#[123]⟩=false/\cW t ⟨#[114,101,116,117,114,110]⟩=false/\cW t ⟨#[98,114,101,97,107]⟩=false/\cW t ⟨#[99,111,110,116,105,110,117,101]⟩=false:=
 ⟨cr h _ (by decide) (by decide) (by decide) (by decide) (by decide),cr h _ (by decide) (by decide) (by decide) (by decide) (by decide),cr h _ (by decide) (by decide) (by decide) (by decide) (by decide),cr h _ (by decide) (by decide) (by decide) (by decide) (by decide),cr h _ (by decide) (by decide) (by decide) (by decide) (by decide),cr h _ (by decide) (by decide) (by decide) (by decide) (by decide),cr h _ (by decide) (by decide) (by decide) (by decide) (by decide)⟩
section
variable {c:Cx} {d:Nat}
theorem iS{t:TK}{q:List TK}{n:Nd}{f:Nat->R Nd}(I:∀G s r,At c s (t::(q++r))->f G c s=fY (di G) c s)(h:IE c f 2 (t::q) n):IE c (fun G=>(di G).stmt) 3 (t::q) n:=by
 intro G s r ha hh hp D hr;cases G with
 |zero=>exact absurd D (by unfold Fu;omega)
 |succ G=>show sf c s r n (-1) (fY (di G) c s);rw[<-I G s r ha];exact h G s r ha hh hp (D.more (by omega)) hr
theorem Sp(hE:tQ c d){n:Nd}(deep:Nat)(M:dm (aa d) n=true):IE c (fun G=>ii (di G)) 2 (aH (ch (ao d) n deep false)) n:=by intro G s r h hh hp hf hr;obtain⟨x,U,O,_,N⟩:=Bf hE deep false M G s r h hh hp hf (by rw[hr];exact wu (t8 false) (by decide) (by decide) (by decide));obtain⟨n',D,J,p2,p3,p4,I⟩:=N (aM c s);refine⟨n',D,?_,p2,p3,p4,I⟩;show ii (di G) c s=_;unfold ii;rw[O,cC.bind_ok,J]
theorem PE(hE:tQ c d){n:Nd}(deep:Nat)(U:cA 33 [cB ah (aa d).expr] n=true):∃q,aH (ch (ao d) n deep false)=(2,(⟨#[114,101,116,117,114,110]⟩:BA))::q/\IE c (fun G=>fY (di G)) 2 ((2,(⟨#[114,101,116,117,114,110]⟩:BA))::q) n:=by
 obtain⟨l,a,rfl,h0⟩:=bV U;obtain⟨x,rfl,I⟩:=d8 h0;(have e:aH (ch (ao d) (.mk 33 ⟨#[]⟩ [x] a) deep false)=(2,(⟨#[114,101,116,117,114,110]⟩:BA))::aH (if x.kind=0 then[]else bu::(ao d).expr x deep false):=by show(2,d7 (bytes ⟨#[114,101,116,117,114,110]⟩))::_=_;rw[dZ];rfl);refine⟨_,e,fun G s r h hh M hf J=>?_⟩;have h:At c s ((2,(⟨#[114,101,116,117,114,110]⟩:BA))::(aH (if x.kind=0 then[]else bu::(ao d).expr x deep false)++r)):=h;show sf c s r _ (-1) (fY (di G) c s);unfold fY;rw[d5 (h.no (by decide)),d5 (h.no (by decide)),d5 (h.no (by decide)),d5 (h.no (by decide)),gF (h.yes (by decide))];obtain⟨f1,f2⟩:=hf.adv h;unfold cB at I;rw[gI]at I;have D:=h.adv;rcases I with I|I
 ·obtain⟨ax,rfl⟩:=bI I;have D:At c (adv s) r:=D;rw[gF]
  ·exact⟨_,_,rfl,co.mk (bF.one (eR ax)) _ _,D,rfl,M⟩
  ·unfold eT;rw[D.is,D.is,D.is,J];decide
 ·rw[d5 (mv hE I)]at D;have D:At c (adv s) (aH ((ao d).expr x deep false)++r):=D;obtain⟨t,q,e2,O⟩:=(hE x deep false false I).beg;rw[d5]
  ·obtain⟨x',N,g1,g2,g3,g4,g5⟩:=ol hE deep I (G:=G) D hh M (f2.more (by omega)) (by rw[J];exact t8 false);rw[g1,cC.bind_ok];exact⟨_,N,rfl,co.mk (bF.one g2) _ _,g3,g4,g5⟩
  ·unfold eT;have hb:=Rv O;rw[D.is,D.is,D.is,e2];show ¬ ((cW t ⟨#[59]⟩||cW t ⟨#[10]⟩)||cW t ⟨#[125]⟩)=true;rw[hb.1,hb.2.1,hb.2.2];decide
theorem MS (hE:tQ c d)(hB:CV c d)(hS:G3 c d)(hI:Ts c d)(U:∀n deep,(aa d).block n=true->aH ((ao d).stmt n deep false)=aH ((ao d).block n deep)):G3 c (d+1):=by
 intro n deep D;show(∃t q,aH (ch (ao d) n deep false)=t::q/\G2 t)/\IE c (fun G=>(di G).stmt) 3 (aH (ch (ao d) n deep false)) n;have D:aB (aa d) n=true:=D;(have J:dm (aa d) n=true->(∃t q,aH (ch (ao d) n deep false)=t::q/\G2 t)/\IE c (fun G=>(di G).stmt) 3 (aH (ch (ao d) n deep false)) n:=by intro hs;obtain⟨t,q,e,ht⟩:=Bm hE deep false hs;refine⟨⟨t,q,e,Rv ht⟩,?_⟩;have I:=Sp hE deep hs;rw[e]at I |-;obtain⟨b1,b2,b3,b4,b5,b6,b7⟩:=PD ht;refine iS (fun G s r h=>?_) I;unfold fY;rw[d5 (h.no b1),d5 (h.no b2),d5 (h.no b3),d5 (h.no b4),d5 (h.no b5),d5 (h.no b6),d5 (h.no b7)]);unfold aB at D;split at D
 ·rename_i N;have I:=Pu hE deep D;(have e:∃q,aH (ch (ao d) n deep false)=(2,(⟨#[118,97,114]⟩:BA))::q/\aH (sU (ao d) n deep)=(2,(⟨#[118,97,114]⟩:BA))::q:=by unfold ch;rw[gF N];exact⟨_,rfl,rfl⟩);obtain⟨q,M,e2⟩:=e;rw[e2]at I;rw[M];refine⟨⟨_,_,rfl,by decide⟩,iS (fun G s r h=>?_) I⟩;unfold fY;rw[gF (h.yes (by decide))]
 ·split at D
  ·exact J (by unfold dm;rw[D];rfl)
  ·split at D
   ·exact J (by unfold dm;rw[D,kP,jE])
   ·split at D
    ·exact J (by unfold dm;rw[D,kP,jE,jE])
    ·split at D
     ·exact J (by unfold dm;rw[D,jE,jE,jE])
     ·split at D
      ·have I:=MM hE hB hI U deep D;(have e:∃q,aH (ch (ao d) n deep false)=(2,(⟨#[105,102]⟩:BA))::q:=by obtain⟨l,a,rfl,_⟩:=bV D;exact⟨_,rfl⟩);obtain⟨q,M⟩:=e;rw[M]at I |-;refine⟨⟨_,_,rfl,by decide⟩,iS (fun G s r h=>?_) I⟩;unfold fY;rw[d5 (h.no (by decide)),gF (h.yes (by decide))]
      ·split at D
       ·have I:=PC hE hB deep D;(have e:∃q,aH (ch (ao d) n deep false)=(2,(⟨#[102,111,114]⟩:BA))::q:=by obtain⟨l,a,rfl,_⟩:=bV D;exact⟨_,rfl⟩);obtain⟨q,M⟩:=e;rw[M]at I |-;refine⟨⟨_,_,rfl,by decide⟩,iS (fun G s r h=>?_) I⟩;unfold fY;rw[d5 (h.no (by decide)),d5 (h.no (by decide)),gF (h.yes (by decide))]
       ·split at D
        ·have I:=Ia hE hB deep D;(have e:∃q,aH (ch (ao d) n deep false)=(2,(⟨#[102,111,114]⟩:BA))::q:=by obtain⟨x,l,a,rfl,_⟩:=aN (by decide) D;exact⟨_,rfl⟩);obtain⟨q,M⟩:=e;rw[M]at I |-;refine⟨⟨_,_,rfl,by decide⟩,iS (fun G s r h=>?_) I⟩;unfold fY;rw[d5 (h.no (by decide)),d5 (h.no (by decide)),gF (h.yes (by decide))]
        ·split at D
         ·obtain⟨q,M,I⟩:=PE hE deep D;rw[M];exact⟨⟨_,_,rfl,by decide⟩,iS (fun G s r h=>rfl) I⟩
         ·split at D
          ·rename_i N;rcases N with N|N
           ·rw[N]at D;obtain⟨l,a,rfl,h0⟩:=bV D;cases l with
            |cons y l=>cases h0
            |nil=>refine⟨⟨_,_,rfl,by decide⟩,iS (t:=(2,(⟨#[98,114,101,97,107]⟩:BA))) (q:=[]) (f:=fun G=>fY (di G)) (fun G s r h=>rfl) fun G s r h hh O hf hr=>?_⟩;have h:At c s ((2,(⟨#[98,114,101,97,107]⟩:BA))::r):=h;show sf c s r _ (-1) (fY (di G) c s);unfold fY;rw[d5 (h.no (by decide)),d5 (h.no (by decide)),d5 (h.no (by decide)),d5 (h.no (by decide)),d5 (h.no (by decide)),gF (h.yes (by decide))];exact⟨_,_,rfl,co.mk bF.nil _ _,h.adv,rfl,O⟩
           ·rw[N]at D;obtain⟨l,a,rfl,h0⟩:=bV D;cases l with
            |cons y l=>cases h0
            |nil=>refine⟨⟨_,_,rfl,by decide⟩,iS (t:=(2,(⟨#[99,111,110,116,105,110,117,101]⟩:BA))) (q:=[]) (f:=fun G=>fY (di G)) (fun G s r h=>rfl) fun G s r h hh O hf hr=>?_⟩;have h:At c s ((2,(⟨#[99,111,110,116,105,110,117,101]⟩:BA))::r):=h;show sf c s r _ (-1) (fY (di G) c s);unfold fY;rw[d5 (h.no (by decide)),d5 (h.no (by decide)),d5 (h.no (by decide)),d5 (h.no (by decide)),d5 (h.no (by decide)),d5 (h.no (by decide)),gF (h.yes (by decide))];exact⟨_,_,rfl,co.mk bF.nil _ _,h.adv,rfl,O⟩
          ·have hb:bD (aa d) n=true:=D;(have N:n.kind=36:=by unfold bD at hb;rw[gB,gE]at hb;exact hb.1);(have e0:ch (ao d) n deep false=oE (ao d) n deep:=by unfold ch;rw[d5 (by omega),d5 (by omega),d5 (by omega),d5 (by omega),d5 (by omega),d5 (by omega),d5 (by omega),d5 (by omega),d5 (by omega),d5 (by omega),d5 (by omega)]);have I:=Fp hS deep hb;rw[ws]at I;rw[e0,ws];refine⟨⟨_,_,rfl,by decide⟩,iS (f:=fun G=>bC (di G)) (fun G s r h=>?_) fun G s r h hh O hf hr=>I G s r h O (by unfold Fu at *;omega)⟩;show bC (di G) c s=_;unfold fY;rw[d5 (h.no (by decide)),d5 (h.no (by decide)),d5 (h.no (by decide)),gF (h.yes (by decide))]
theorem Fx(d:Nat):∀n deep,(aa d).block n=true->aH ((ao d).stmt n deep false)=aH ((ao d).block n deep):=by
 intro n deep D;cases d with
 |zero=>cases D
 |succ d=>have hb:bD (aa d) n=true:=D;(have I:n.kind=36:=by unfold bD at hb;rw[gB,gE]at hb;exact hb.1);show aH (ch (ao d) n deep false)=_;unfold ch;rw[d5 (by omega),d5 (by omega),d5 (by omega),d5 (by omega),d5 (by omega),d5 (by omega),d5 (by omega),d5 (by omega),d5 (by omega),d5 (by omega),d5 (by omega)];rfl
theorem PF(hE:tQ c d)(hB:CV c d)(J:Ts c d):Ts c (d+1):=by
 intro n deep I;have I:Am (aa d) n=true:=I;refine⟨by obtain⟨l,a,rfl,_⟩:=bV I;rfl,?_⟩;intro G s r ha hh hp D hr;cases G with
 |zero=>exact absurd D (by unfold Fu;omega)
 |succ G=>exact MM hE hB J (Fx d) deep I G s r ha hh hp (D.more (by omega)) hr
end
theorem C6(c:Cx):∀d,tQ c d/\CV c d/\G3 c d/\Ts c d
 |0=>⟨fun _ _ _ _ h=>(by cases h),fun _ _ h=>(by cases h),fun _ _ h=>(by cases h),fun _ _ h=>(by cases h)⟩
 |d+1=>by obtain⟨I,D,M,J⟩:=C6 c d;exact⟨MH I D,ML M,MS I D M J (Fx d),PF I D J⟩
def oF:Bool->List It->Bool
 |e,[]=>e
 |_,.tok k x::z=>oF (nB k x) z
 |e,.gap _::z=>oF e z
 |_,.nl::z=>oF false z
theorem bj.app:∀{a b:List It}{e:Bool}{r:List UInt8},bj e a (fX b++r)->bj (oF e a) b r->bj e (a++b) r
 |[],_,_,_,_,h=>h
 | .tok k x::a,b,e,r,D,I=>by refine⟨?_,bj.app D.2 I⟩;show ft (fX (a++b)++r) k x;rw[iR,gO];exact D.1
 | .gap c::a,b,e,r,D,I=>⟨D.1,bj.app D.2 I⟩
 | .nl::a,b,e,r,D,I=>⟨D.1,bj.app D.2 I⟩
theorem fh:∀(a b:List It)(e:Bool),oF e (a++b)=oF (oF e a) b
 |[],_,_=>rfl
 | .tok k x::a,b,_=>fh a b (nB k x)
 | .gap _::a,b,e=>fh a b e
 | .nl::a,b,_=>fh a b false
def lK(r:List UInt8):Prop:=∃b q,r=b::q/\aL (b.toNat:Int)=false
theorem lK.stop{r:List UInt8}(h:lK r):tH r=true:=by obtain⟨b,q,rfl,h⟩:=h;show(!aL (b.toNat:Int))=true;rw[h];rfl
def wz(a:UInt8):Bool:=a==40||(a==41||(a==91||(a==93||(a==123||(a==125||(a==44||(a==59||a==126)))))))
theorem FB{a:UInt8}(h:wz a=true)(b:UInt8):Ib a b=true/\nd [a]=true/\a≠47/\aL (a.toNat:Int)=false:=by(have key:∀b:Fin 256,∀a∈([40,41,91,93,123,125,44,59,126]:List UInt8),Ib a (UInt8.ofNat b.val)=true:=by decide +kernel);(have D:∀a∈([40,41,91,93,123,125,44,59,126]:List UInt8),nd [a]=true/\a≠47/\aL (a.toNat:Int)=false:=by decide +kernel);(have I:a∈([40,41,91,93,123,125,44,59,126]:List UInt8):=by unfold wz at h;simpa[Bool.or_eq_true,beq_iff_eq]using h);have:=key ⟨b.toNat,b.toNat_lt⟩ a I;exact⟨by simpa using this,D a I⟩
theorem lK.sg{a:UInt8}(h:wz a=true)(q:List UInt8):lK (a::q):=⟨a,q,rfl,(FB h 0).2.2.2⟩
theorem lK.sp(q:List UInt8):lK (32::q):=⟨32,q,rfl,by decide +kernel⟩
section
variable {e:Bool} {z:List It} {r:List UInt8}
theorem nH{a:UInt8}(M:wz a=true)(D:fX z++r≠[])(I:bj (nB 6 [a]) z r):bj e (bS a::z) r:=by
 refine⟨?_,I⟩;cases J:fX z++r with
 |nil=>exact absurd J D
 |cons b q=>obtain⟨U,O,N,_⟩:=FB M b;exact .one U O fun h=>absurd h N
theorem iT(D:bj e z r):bj e (bu::z) r:=⟨.inl rfl,D⟩
theorem Da{l:List UInt8}(h:cI l=true)(J:l≠[]):mM l=true:=by
 cases l with
 |nil=>exact absurd rfl J
 |cons a l=>unfold cI at h;rw[gB]at h;unfold mM;(have I:∀b:Fin 256,lr (UInt8.ofNat b.val)=true->aJ (((UInt8.ofNat b.val).toNat:Nat):Int)=true:=by decide +kernel);(have D:∀b:Fin 256,(lr (UInt8.ofNat b.val)||eF (UInt8.ofNat b.val))=true->aL (((UInt8.ofNat b.val).toNat:Nat):Int)=true:=by decide +kernel);rw[gB];refine⟨by have:=I ⟨a.toNat,a.toNat_lt⟩;simpa using this (by simpa using h.1),List.all_eq_true.2 fun b hb=>?_⟩;have hb:=List.all_eq_true.1 h.2 b hb;have:=D ⟨b.toNat,b.toNat_lt⟩;simpa using this (by simpa using hb)
theorem ot{x:ByteArray}(D:aE x=true):mM (bytes x)=true/\bM (d7 (bytes x))=0:=by unfold aE dP at D;rw[gB,gB,gB,gE,gE,gE]at D;obtain⟨_,M,J,I⟩:=D;rw[dZ];refine⟨?_,I⟩;exact Da M fun h=>J (cg h)
theorem Db{x:ByteArray}(I:aE x=true)(hs:lK (fX z++r))(D:bj true z r):bj e (mK x::z) r:=by obtain⟨M,J⟩:=ot I;exact⟨.wordK (by rw[J];rfl) M hs.stop,D⟩
theorem FC{x:ByteArray}(D:mM (bytes x)=true/\bM (d7 (bytes x))=1)(hs:lK (fX z++r))(I:bj (nB 2 (bytes x)) z r):bj e (lJ x::z) r:=
 ⟨.wordK (by rw[D.2];rfl) D.1 hs.stop,I⟩
end
structure Pc(l:List It):Prop where
 ok:∀e r,lK r->bj e l r
 fin:∀e,oF e l=true
 hd:∃b q,fX l=b::q
theorem Pc.app{a b:List It}(D:Pc a)(hb:Pc b)(h:∀r,lK r->lK (fX b++r)):Pc (a++b):=by refine⟨fun e r hr=>bj.app (D.ok e _ (h r hr)) (hb.ok _ r hr),fun e=>by rw[fh,hb.fin],?_⟩;obtain⟨b',q,I⟩:=D.hd;exact⟨b',q++fX b,by rw[iR,I];rfl⟩
theorem MV(s:List It)(hs:∀e r,bj e s r)(D:∀z,lK (fX s++z)):∀(L:List (List It)),(∀l∈L,Pc l)->∀e r,lK r->bj e (dk s L) r
 |[],_,_,_,_=>trivial
 |[x],h,e,r,I=>(h x (by simp)).ok e r I
 |x::y::L,h,e,r,I=>by show bj e (x++(s++dk s (y::L))) r;refine bj.app ((h x (by simp)).ok e _ ?_) (bj.app (hs _ _) (MV s hs D (y::L) (fun l hl=>h l (by simp[hl])) _ r I));rw[iR,gO];exact D _
theorem Sq(e:Bool)(r:List UInt8):bj e cG r:=nH (by decide) (by simp[fX];exact fun h=>by cases h) (iT trivial)
theorem Sr(z:List UInt8):lK (fX cG++z):=lK.sg (a:=44) (by decide) _
theorem Bn{a:UInt8}(D:a=41\/a=93\/a=125):nB 6 [a]=true:=by rcases D with rfl|rfl|rfl<;>decide +kernel
theorem Bo{o a:UInt8}(N:wz o=true)(J:a=41\/a=93\/a=125){L:List (List It)}(O:∀l∈L,Pc l){z:List It}(M:∀r,lK r->bj true z r)(I:oF true z=true)(D:∀r,lK r->fX z++r≠[]):Pc (bS o::(dk cG L++(bS a::z))):=by
 (have hs:wz a=true:=by rcases J with rfl|rfl|rfl<;>decide);refine⟨fun e r hr=>?_,fun e=>?_,⟨o,_,rfl⟩⟩
 ·refine nH N ?_ (bj.app (MV cG Sq Sr L O _ _ (lK.sg hs _)) (nH hs (D r hr) ?_))
  ·rw[iR,cD];show(_++(a::_))++_≠[];simp
  ·rw[Bn J];exact M r hr
 ·show oF (nB 6 [o]) (dk cG L++(bS a::z))=true;rw[fh];show oF (nB 6 [a]) z=true;rw[Bn J];exact I
theorem stp_ne{z:List It}{r:List UInt8}(D:lK r):fX z++r≠[]:=by obtain⟨b,q,rfl,_⟩:=D;simp
end
end Go.Proofs.YtiebcdeafofgdaaGreatDoor
