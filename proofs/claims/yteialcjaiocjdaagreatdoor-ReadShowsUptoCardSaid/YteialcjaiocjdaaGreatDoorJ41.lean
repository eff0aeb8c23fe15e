/-
  Parts of the proof: Pps Ppu Ppv Ppw. By an AI agent.
-/
import Derived.Test.YteialcjaiocjdaaGreatDoorJ40
import Derived.Test.YteialcjaiocjdaaGreatDoorJ36
namespace Go.Proofs.YteialcjaiocjdaaGreatDoor
section
open Go.Lib
section
variable {c:Cx} {d:Nat}
theorem P0{p:Nd}(J:fE (aa d) p=true){G:Nat}{s:St}{r:List TK}(h:At c s (aG (dP (ac d) p)++r))(hb:dq (dS r)=false)(I:cD (dS r) ⟨#[124]⟩=false)(N:Fu c 1 G s):nO c s r p s.part (ev (cI G) c s):=by obtain⟨x,l,a,rfl,hx,O⟩:=aJ (by decide) J;obtain⟨k,rfl,M⟩:=dW O;(have e:aG (dP (ac d) (.mk 7 x [k] a))=(1,x)::aG (fJ (ac d) k):=by show aG (iq x::aY::fJ (ac d) k)=_;rw[iP];rfl);rw[e]at h;have h:At c s ((1,x)::(aG (fJ (ac d) k)++r)):=h;unfold ev;rw[lQ h,bQ.bind_ok];obtain⟨n',D,g1,g2,g3,g4,U⟩:=PZ M (G:=G) h.adv hb I (N.le (jN _));rw[g1,bQ.bind_ok];exact⟨_,D,rfl,ci.mk (bi.one g2) _ _,g3,g4,U⟩
theorem Na{p:Nd}(D:fE (aa d) p=true):∃x q,aG (dP (ac d) p)=(1,x)::q:=by obtain⟨x,l,a,rfl,I,J⟩:=aJ (by decide) D;exact⟨dx (bytes x),_,rfl⟩
theorem pA{n:Nd}(hn:bj (aa d) n=true){G:Nat}{s:St}{r:List TK}(h:At c s (aG (fq (ac d) n)++r))(D:n.kids=[]->cD (dS r) ⟨#[91]⟩=false\/cY c s=true)(hf:Fu c 1 G s):nO c s r n s.part (eR (cI G) c s):=by
 obtain⟨l,a,rfl,hl⟩:=sq hn;unfold eR;cases l with
 | nil=>
  have h:At c s r:=h;rw[gB]
  ·exact⟨_,s,rfl,ci.mk bi.nil _ _,h,rfl,rfl⟩
  ·rcases D rfl with D|D
   ·rw[h.is,D];simp
   ·rw[D];simp
 | cons x l=>
  (have e:aG (fq (ac d) (.mk 6 ⟨#[]⟩ (x::l) a))++r=(6,(⟨#[91]⟩:BA))::(eh dI (((x::l).map fun y=>(aG (dP (ac d) y),y)).map (·.1))++((6,(⟨#[93]⟩:BA))::r)):=by show aG (cK 91::(cr ch ((x::l).map (dP (ac d)))++[cK 93]))++r=_;rw[lF,aX,pN,sv,qV];show(6,dx [91])::((_++[(6,dx [93])])++r)=_;rw[gL];rfl);rw[e]at h;(have M:cY c s=false:=by rw[h.slice];obtain⟨y,q,ey⟩:=Na (List.all_eq_true.1 hl x (by simp));rw[jT,jT,ey,tj];show(_&&((1:Int)==6&&_))=false;rw[show((1:Int)==6)=false by decide,jA,jL]);rw[gG (by rw[h.yes (x:=(⟨#[91]⟩:BA)) (by decide),M];rfl),nP];have I:=h.len;obtain⟨l',s2,f1,O,f3,f4,f5⟩:=Bv (c:=c) (part:=ev (cI G)) (en:=(⟨#[93]⟩:BA)) (P:=fun s _=>Fu c 1 G s) (by decide) (by decide) s.part (fun s l hP s' l' _ hle _ _=>hP.le hle) ((x::l).map fun y=>(aG (dP (ac d) y),y)) G (adv s) r h.adv rfl (by unfold Fu at hf;show c.toks.length-(s.at_+1)<G;simp only[gO]at I;omega) (hf.le (jN _)) (by
   intro z hz;obtain⟨y,J,rfl⟩:=List.mem_map.1 hz;have J:=List.all_eq_true.1 hl y J;obtain⟨u,q,eu⟩:=Na J;refine⟨?_,?_,fun s r hs hF hp D=>?_⟩
   ·simp only[eu];rfl
   ·simp only[eu];simp
   ·have U:dq (dS r)=false/\cD (dS r) ⟨#[124]⟩=false:=by
     rcases D with D|D
     ·rw[D];exact⟨by decide,by decide⟩
     ·rw[D];exact⟨by decide,by decide⟩
    have:=P0 J (G:=G) hs U.1 U.2 hF
    rwa [hp]at this)
  rw[mY]at O;(have N:l'≠[]:=by rintro rfl;have:=O.len;simp at this);rw[f1,bQ.bind_ok,gB (by intro h0;exact N (List.length_eq_zero_iff.1 h0))];exact⟨_,s2,rfl,ci.mk O _ _,f3,f4,f5⟩
theorem ST{f:Nd}:aG (cM (ac d) f)=(1,f.text)::(aG (ag d (aW f 0))++[BF]):=by unfold cM;rw[dM];show aG (iq f.text::aY::(ag d (aW f 0)++[.nl]))=_;rw[iP];show _::aG (ag d (aW f 0)++[.nl])=_;rw[aX];rfl
theorem Ax(p:Int){G:Nat}:∀(l:List Nd)(g:Nat)(acc acc':List Nd)(s:St)(r:List TK),l.all (io (aa d))=true ->
  At c s (l.flatMap (fun x=>aG (cM (ac d) x))++((6,(⟨#[125]⟩:BA))::r))->Fu c 1 G s->c.toks.length-s.at_<g->bi acc' acc ->
  wt c s r (fun n'=>∃l',n'=.mk 13 ⟨#[]⟩ l' p/\bi l' (acc++l)) s.part (cU (cI G) p g acc' c s)
 |_,0,_,_,_,_,_,_,_,N,_=>absurd N (by omega)
 |[],g+1,acc,acc',s,r,_,h,_,_,U=>by have h:At c s ((6,(⟨#[125]⟩:BA))::r):=h;unfold cU;rw[gG (h.yes (by decide))];exact⟨_,_,rfl,⟨acc',rfl,by rwa [kE]⟩,h.adv,rfl,rfl⟩
 |x::l,g+1,acc,acc',s,r,J,h,O,N,U=>by rw[jX,gA]at J;obtain⟨y,q,a,rfl,hy,h0⟩:=aJ (by decide) J.1;obtain⟨k,rfl,hk⟩:=dW h0;rw[jE,ST,gL,jJ,gL]at h;have h:At c s ((1,y)::(aG (ag d k)++(BF::(l.flatMap (fun x=>aG (cM (ac d) x))++((6,(⟨#[125]⟩:BA))::r))))):=h;unfold cU;rw[gB (h.no (by rfl)),lQ h,bQ.bind_ok];have e1:(adv s).at_=s.at_+1:=rfl;obtain⟨t',I,g1,g2,M,g4,g5⟩:=ia d G k hk (adv s) _ h.adv (show dq BF=false by decide) (O.le (jN _));have ga:=fI h.adv M;have D:=h.len;rw[g1,bQ.bind_ok,gG (uo M)];have e2:(adv I).at_=I.at_+1:=rfl;obtain⟨n2,s3,k1,⟨l',k2,k3⟩,k4,k5,k6⟩:=Ax p l g (acc++[.mk 9 y [k] a]) (acc'++[.mk 9 y [t'] (aD c s)]) (adv I) r J.2 M.adv (O.le (by omega)) (by simp only[gO]at D;omega) (U.app (bi.one (ci.mk (bi.one g2) _ _)));exact⟨n2,s3,k1,⟨l',k2,by simpa using k3⟩,k4,k5.trans g4,k6.trans g5⟩
theorem SU(n:Nd):aG (oU (ac d) n)=(2,(⟨#[115,116,114,117,99,116]⟩:BA))::(6,(⟨#[123]⟩:BA))::(n.kids.flatMap (fun x=>aG (cM (ac d) x))++[(6,(⟨#[125]⟩:BA))]):=by unfold oU;show(2,dx (bytes ⟨#[115,116,114,117,99,116]⟩))::(6,dx [123])::aG (n.kids.flatMap (cM (ac d))++[cK 125])=_;rw[cH,aX,sD];rfl
theorem P1(p:Int){n:Nd}(I:bE (aa d) n=true){G:Nat}{s:St}{r:List TK}(h:At c s ((6,(⟨#[123]⟩:BA))::(n.kids.flatMap (fun x=>aG (cM (ac d) x))++((6,(⟨#[125]⟩:BA))::r))))(J:Fu c 1 G s):nO c s r n s.part (i8 (cI G) p c s):=by obtain⟨k,t,l,a⟩:=n;unfold bE at I;rw[gA,gA,gD,gD]at I;obtain⟨hk,ht,hl⟩:=I;obtain rfl:k=13:=hk;obtain rfl:t=(⟨#[]⟩:BA):=ht;unfold i8;rw[eX h ⟨#[123]⟩ (by decide),bQ.bind_ok,nP];have D:=h.len;have e1:(adv s).at_=s.at_+1:=rfl;obtain⟨n2,s3,k1,⟨l',rfl,U⟩,O,N,M⟩:=Ax p (G:=G) l G [] [] (adv s) r hl h.adv (J.le (jN _)) (by unfold Fu at J;simp only[gO]at D;omega) bi.nil;rw[k1];exact⟨_,_,rfl,ci.mk U _ _,O,N,M⟩
end
section
variable {c:Cx} {d:Nat}
theorem ID{n:Nd}(h:(aa d).typ n=true)(r:List TK){s:St}(hs:At c s (aG (ag d n)++r)):cD (dS (aG (ag d n)++r)) ⟨#[91]⟩=false\/cY c s=true:=by
 obtain⟨t,l,e,D⟩:=pO h;rw[e]at hs |-;rcases D with D|rfl|⟨rfl,q,rfl⟩
 ·exact .inl (mG (.inl D) _)
 ·exact .inl (by show cD (2,(⟨#[102,117,110,99]⟩:BA)) ⟨#[91]⟩=false;decide)
 ·refine .inr ?_;rw[hs.slice];rfl
theorem Nb{n:Nd}(hn:cE 2 [bj (aa d),er (aa d),(aa d).block] (aw aB n)=true):DP c (fun G=>ib (cI G)) 3 (aG (eN (ac d) n)) n:=by intro G s r h hh hp hf hr;obtain⟨x,l,a,rfl,hx,h0⟩:=aJ (by decide) hn;obtain⟨ps,sg,b,rfl,O,M,hb⟩:=CY h0;obtain⟨qs,a1,res,a2,rfl,N,J⟩:=rE M;obtain⟨lb,eb,U⟩:=(sE c d).2.1 b 0 hb;(have e:aG (eN (ac d) (.mk 2 x [ps,.mk 12 ⟨#[]⟩ [.mk 6 ⟨#[]⟩ qs a1,res] a2,b] a))++r=(2,(⟨#[102,117,110,99]⟩:BA))::(1,x)::(aG (fq (ac d) ps)++(aG (eg (ag d) (.mk 12 ⟨#[]⟩ [.mk 6 ⟨#[]⟩ qs a1,res] a2))++((6,(⟨#[123]⟩:BA))::(lb++r)))):=by show aG (f8 ⟨#[102,117,110,99]⟩::aY::iq x::(fq (ac d) ps++(eg (ac d).typ (.mk 12 ⟨#[]⟩ [.mk 6 ⟨#[]⟩ qs a1,res] a2)++(aY::(ac d).block b 0))))++r=_;rw[show(ac d).typ=ag d from funext dM];show(2,dx (bytes ⟨#[102,117,110,99]⟩))::(aG (iq x::(fq (ac d) ps++(eg (ag d) (.mk 12 ⟨#[]⟩ [.mk 6 ⟨#[]⟩ qs a1,res] a2)++(aY::(ac d).block b 0))))++r)=_;rw[cH,iP,aX,aX];show _::(_::(_++(_++aG ((ac d).block b 0)))++r)=_;rw[eb,jJ,gL,gL];rfl);rw[e]at h;obtain⟨f1,f2⟩:=hf.adv h;have D:=h.len;show nO c s r _ (-1) (ib (cI G) c s);unfold ib;rw[gG (h.yes (by decide)),lQ h.adv,bQ.bind_ok];(have I:∀r,cD (dS (aG (eg (ag d) (.mk 12 ⟨#[]⟩ [.mk 6 ⟨#[]⟩ qs a1,res] a2))++r)) ⟨#[91]⟩=false:=fun r=>by rw[um];show cD (6,(⟨#[40]⟩:BA)) ⟨#[91]⟩=false;decide);obtain⟨ps',s2,g1,g2,g3,g4,g5⟩:=pA O (G:=G) h.adv.adv (fun _=>.inl (I _)) (by unfold Fu at *;show 3*(c.toks.length-(s.at_+1+1))+1<=G;omega);rw[g1,bQ.bind_ok];have l2:=g3.len;obtain⟨sg',s3,k1,k2,k3,k4,k5⟩:=Dg (ia d G) N J (aD c s) g3 (show dq (6,(⟨#[123]⟩:BA))=false by decide) (by simp only[gO,gM]at D l2;unfold Fu at *;omega);rw[k1,bQ.bind_ok];have l3:=k3.len;obtain⟨b',s4,q1,q2,q3,q4,q5⟩:=U G s3 r k3 (k5.trans (g5.trans hp)) (by simp only[gO,gM]at D l3;unfold Fu at *;omega);rw[q1,bQ.bind_ok];exact⟨_,s4,rfl,ci.mk (bi.cons g2 (bi.cons k2 (bi.one q2))) _ _,q3,q4.trans (k4.trans g4),q5⟩
theorem IE{n:Nd}(hn:cE 4 [bj (aa d),(aa d).typ] (aw aB n)=true):DP c (fun G=>ib (cI G)) 3 (aG (eN (ac d) n)) n:=by intro G s r h hh hp hf hr;obtain⟨x,l,a,rfl,hx,h0⟩:=aJ (by decide) hn;obtain⟨ps,t,rfl,J,ht⟩:=iO h0;(have e:aG (eN (ac d) (.mk 4 x [ps,t] a))++r=(2,(⟨#[116,121,112,101]⟩:BA))::(1,x)::(aG (fq (ac d) ps)++((6,(⟨#[61]⟩:BA))::(aG (ag d t)++r))):=by show aG (f8 ⟨#[116,121,112,101]⟩::aY::iq x::(fq (ac d) ps++(aY::cK 61::aY::(ac d).typ t)))++r=_;rw[dM];show(2,dx (bytes ⟨#[116,121,112,101]⟩))::(aG (iq x::(fq (ac d) ps++(aY::cK 61::aY::ag d t)))++r)=_;rw[cH,iP,aX,jJ,gL];rfl);rw[e]at h;have D:=h.len;obtain⟨f1,f2⟩:=hf.adv h;show nO c s r _ (-1) (ib (cI G) c s);unfold ib lx;rw[gB (h.no (by decide)),gG (h.yes (by decide)),lQ h.adv,bQ.bind_ok];obtain⟨ps',I,g1,g2,M,g4,g5⟩:=pA J (G:=G) h.adv.adv (fun _=>.inl (show cD (6,(⟨#[61]⟩:BA)) ⟨#[91]⟩=false by decide)) (by unfold Fu at *;show 3*(c.toks.length-(s.at_+1+1))+1<=G;omega);rw[g1,bQ.bind_ok,gG (M.yes (by decide))];have O:=M.len;obtain⟨t',N,k1,k2,k3,k4,U⟩:=ia d G t ht (adv I) r M.adv (by rw[hr];decide) (by simp only[gO,gM]at D O;have:(adv I).at_=I.at_+1:=rfl;unfold Fu at *;omega);rw[k1,bQ.bind_ok];exact⟨_,N,rfl,ci.mk (bi.cons g2 (bi.one k2)) _ _,k3,k4.trans g4,U.trans (g5.trans hp)⟩
theorem Nc{n:Nd}(hn:cE 3 [bj (aa d),ck (ck (aa d).typ (bE (aa d))) (bo (aa d))] (aw aB n)=true):DP c (fun G=>ib (cI G)) 3 (aG (eN (ac d) n)) n:=by
 intro G s r h hh hp hf hr;obtain⟨x,l,a,rfl,hx,h0⟩:=aJ (by decide) hn;obtain⟨ps,t,rfl,O,D⟩:=iO h0;(have e:aG (eN (ac d) (.mk 3 x [ps,t] a))++r=(2,(⟨#[116,121,112,101]⟩:BA))::(1,x)::(aG (fq (ac d) ps)++(aG (if t.kind=13 then oU (ac d) t else fJ (ac d) t)++r)):=by show aG (f8 ⟨#[116,121,112,101]⟩::aY::iq x::(fq (ac d) ps++(aY::(if t.kind=13 then oU (ac d) t else fJ (ac d) t))))++r=_;show(2,dx (bytes ⟨#[116,121,112,101]⟩))::(aG (iq x::(fq (ac d) ps++(aY::(if t.kind=13 then oU (ac d) t else fJ (ac d) t))))++r)=_;rw[cH,iP,aX,jJ,gL];rfl);rw[e]at h;have gd:=h.len;obtain⟨f1,f2⟩:=hf.adv h;have hF:(ac d).typ=ag d:=funext dM;show nO c s r _ (-1) (ib (cI G) c s);unfold ib lx;rw[gB (h.no (by decide)),gG (h.yes (by decide)),lQ h.adv,bQ.bind_ok];(have ga:Fu c 1 G (adv (adv s)):=by unfold Fu at *;show 3*(c.toks.length-(s.at_+1+1))+1<=G;omega);unfold ck at D;rw[gI,gI]at D;have fin:∀(ps' t':Nd)(N:St)(p:Int),ci ps' ps->ci t' t->At c N r->N.head=s.head->N.part = -1->nO c s r (.mk 3 x [ps,t] a) (-1) (.ok (.mk 3 x [ps',t'] p) N):=fun ps' t' N p h1 M h3 h4 h5=>⟨_,N,rfl,ci.mk (bi.cons h1 (bi.one M)) _ _,h3,h4,h5⟩;(have gb:∀J:St,s.at_<=J.at_->Fu c 1 G J:=fun J h=>by unfold Fu at *;omega);rcases D with(D|D)|D
 ·have hk:=typ_kind D;rw[gB (by omega)]at h;unfold fJ at h;rw[gB (by omega),hF]at h;have M:=h.adv.adv;obtain⟨u,q,eu,hu⟩:=f9 D;(have hg:nO c (adv (adv s)) (aG (ag d t)++r) ps (adv (adv s)).part (eR (cI G) c (adv (adv s))):=by refine pA O M (fun h0=>?_) ga;obtain⟨l,a',rfl,hl⟩:=sq O;obtain rfl:l=[]:=h0;exact ID D r (show At c (adv (adv s)) (aG (ag d t)++r)from M));obtain⟨ps',J,g1,g2,I,g4,g5⟩:=hg;have l2:=fI M I;have ea:(adv (adv s)).at_=s.at_+1+1:=rfl;have U:∀x,x=(⟨#[61]⟩:BA)\/x=(⟨#[115,116,114,117,99,116]⟩:BA)\/x=(⟨#[105,110,116,101,114,102,97,99,101]⟩:BA)->aP c J x=false:=by
   rintro x(rfl|rfl|rfl)
   ·rw[I.is,eu];exact bU hu _ (by decide) (by decide) (by decide) (by decide) (by decide)
   ·rw[I.is,eu];exact bU hu _ (by decide) (by decide) (by decide) (by decide) (by decide)
   ·rw[I.is,eu];exact bU hu _ (by decide) (by decide) (by decide) (by decide) (by decide)
  rw[g1,bQ.bind_ok,gB (by rw[U _ (.inl rfl)];decide),gB (by rw[U _ (.inr (.inl rfl))];decide),gB (by rw[U _ (.inr (.inr rfl))];decide)];obtain⟨t',N,k1,k2,k3,k4,k5⟩:=ia d G t D J r I (by rw[hr];decide) (gb J (by omega));rw[k1,bQ.bind_ok];exact fin _ _ _ _ g2 k2 k3 (k4.trans g4) (k5.trans (g5.trans hp))
 ·(have hk:t.kind=13:=by unfold bE at D;rw[gA,gD]at D;exact D.1);rw[gG hk,SU]at h;have M:At c (adv (adv s)) (aG (fq (ac d) ps)++((2,(⟨#[115,116,114,117,99,116]⟩:BA))::((6,(⟨#[123]⟩:BA))::(t.kids.flatMap (fun x=>aG (cM (ac d) x))++[(6,(⟨#[125]⟩:BA))]))++r)):=h.adv.adv;rw[jJ,jJ,gL]at M;obtain⟨ps',J,g1,g2,I,g4,g5⟩:=pA O (G:=G) M (fun _=>.inl (show cD (2,(⟨#[115,116,114,117,99,116]⟩:BA)) ⟨#[91]⟩=false by decide)) ga;have l2:=fI M I;have ea:(adv (adv s)).at_=s.at_+1+1:=rfl;rw[g1,bQ.bind_ok,gB (I.no (by decide)),gG (I.yes (by decide))];obtain⟨t',N,k1,k2,k3,k4,k5⟩:=P1 (aD c J) D (G:=G) I.adv (gb _ (by have:(adv J).at_=J.at_+1:=rfl;omega));rw[k1,bQ.bind_ok];exact fin _ _ _ _ g2 k2 k3 (k4.trans g4) (k5.trans (g5.trans hp))
 ·(have hk:t.kind=14:=by unfold bo at D;rw[gA,gD]at D;exact D.1);rw[gB (by omega)]at h;unfold fJ at h;rw[gG hk,hF,Dv]at h;have M:At c (adv (adv s)) (aG (fq (ac d) ps)++((2,(⟨#[105,110,116,101,114,102,97,99,101]⟩:BA))::((6,(⟨#[123]⟩:BA))::(eh (6,(⟨#[124]⟩:BA)) (t.kids.map fun t=>aG (ig t.text++ag d (aW t 0)))++[(6,(⟨#[125]⟩:BA))]))++r)):=h.adv.adv;rw[jJ,jJ,gL]at M;obtain⟨ps',J,g1,g2,I,g4,g5⟩:=pA O (G:=G) M (fun _=>.inl (show cD (2,(⟨#[105,110,116,101,114,102,97,99,101]⟩:BA)) ⟨#[91]⟩=false by decide)) ga;have l2:=fI M I;have ea:(adv (adv s)).at_=s.at_+1+1:=rfl;rw[g1,bQ.bind_ok,gB (I.no (by decide)),gB (I.no (by decide)),gG (I.yes (by decide))];obtain⟨t',N,k1,k2,k3,k4,k5⟩:=Aw (aD c J) D (G:=G) I.adv (gb _ (by have:(adv J).at_=J.at_+1:=rfl;omega));rw[k1,bQ.bind_ok];exact fin _ _ _ _ g2 k2 k3 (k4.trans g4) (k5.trans (g5.trans hp))
theorem P2{n:Nd}(I:bM (aa d) n=true):DP c (fun G=>ib (cI G)) 3 (aG (eN (ac d) n)) n/\∃t q,aG (eN (ac d) n)=t::q/\(cD t ⟨#[102,117,110,99]⟩||(cD t ⟨#[116,121,112,101]⟩||cD t ⟨#[118,97,114]⟩))=true:=by
 unfold bM at I;split at I
 ·rename_i J;refine⟨Nb I,?_⟩;unfold eN;rw[gG J];exact⟨_,_,rfl,by decide⟩
 ·split at I
  ·rename_i D J;refine⟨Nc I,?_⟩;unfold eN;rw[gB D,gG J];exact⟨_,_,rfl,by decide⟩
  ·split at I
   ·rename_i D hk3 J;refine⟨IE I,?_⟩;unfold eN;rw[gB D,gB hk3,gG J];exact⟨_,_,rfl,by decide⟩
   ·rename_i D hk3 hk4;(have e:eN (ac d) n=pl (ac d) n 0:=by unfold eN;rw[gB D,gB hk3,gB hk4]);rw[e];refine⟨fun G s r h hh hp N hr=>?_,⟨(2,dx (bytes ⟨#[118,97,114]⟩)),_,rfl,by decide⟩⟩;have M:=FW (sE c d).1 0 I G s r h hh hp (N.more (by omega)) hr;have h:At c s ((2,dx (bytes ⟨#[118,97,114]⟩))::_):=h;show nO c s r n (-1) (ib (cI G) c s);unfold ib;rw[gB (h.no (by decide)),gB (h.no (by decide))];exact M
theorem F5(p:Int)(x:ByteArray){G:Nat}:∀(l:List Nd)(g:Nat)(acc acc':List Nd)(s:St),l.all (bM (aa d))=true ->
  At c s (BF::l.flatMap (fun x=>aG (eN (ac d) x)++[BF]))->s.head=false->s.part = -1->Fu c 3 G s->c.toks.length-s.at_<g->bi acc' acc ->
  ∃l' s',iK (cI G) p x g acc' c s=.ok (.mk 1 x l' p) s'/\bi l' (acc++l)/\s'.at_=c.toks.length
 |_,0,_,_,_,_,_,_,_,_,O,_=>absurd O (by omega)
 |[],g+1,acc,acc',s,_,h,_,_,_,_,ha=>by have h:At c s [BF]:=h;have D:s.at_+1=c.toks.length:=h.len;unfold iK;rw[gG (uo h),gG D];exact⟨acc',_,rfl,by rwa [kE],D⟩
 |y::l,g+1,acc,acc',s,J,h,N,hp,U,O,ha=>by rw[jX,gA]at J;obtain⟨hG,t,q,e,ht⟩:=P2 (c:=c) J.1;rw[jE,gL]at h;have I:At c (adv s) (aG (eN (ac d) y)++(BF::l.flatMap (fun x=>aG (eN (ac d) x)++[BF]))):=h.adv;have D:=h.len;have e1:(adv s).at_=s.at_+1:=rfl;unfold iK;rw[gG (uo h),gB (by simp only[gO,gM]at D;omega),gG (by rw[I.is,I.is,I.is,e];exact ht)];obtain⟨n',M,g1,g2,g3,g4,g5⟩:=hG G (adv s) _ I N hp (U.le (jN _)) rfl;rw[show ib (cI G) c (adv s)=.ok n' M from g1,bQ.bind_ok];have ga:=fI I g3;obtain⟨l',s',k1,k2,k3⟩:=F5 p x l g (acc++[y]) (acc'++[n']) M J.2 g3 (g4.trans N) g5 (U.le (by omega)) (by simp only[gO,gM]at D;omega) (ha.app (bi.one g2));exact⟨l',s',k1,by simpa using k2,k3⟩
theorem Nf{n:Nd}(I:fF (aa d) n=true){G:Nat}{s:St}(h:At c s (aG (iB (ac d) n)))(hh:s.head=false)(U:s.part = -1)(J:Fu c 3 G s):∃n' s',oN (cI G) c s=.ok n' s'/\ci n' n/\s'.at_=c.toks.length:=by obtain⟨k,x,l,a⟩:=n;unfold fF at I;rw[gA,gA,gD]at I;obtain⟨hk,hx,hl⟩:=I;obtain rfl:k=1:=hk;(have e:aG (iB (ac d) (.mk 1 x l a))=(2,(⟨#[112,97,99,107,97,103,101]⟩:BA))::(1,x)::BF::l.flatMap (fun x=>aG (eN (ac d) x)++[BF]):=by show(2,dx (bytes ⟨#[112,97,99,107,97,103,101]⟩))::aG (iq x::.nl::l.flatMap fun d'=>.gap 10::(eN (ac d) d'++[.nl]))=_;rw[cH,iP];show _::_::(6,_)::aG (l.flatMap fun d'=>.gap 10::(eN (ac d) d'++[.nl]))=_;rw[sD];congr 3;refine jM (fun f=>l.flatMap f) (funext fun y=>?_);show aG (eN (ac d) y++[.nl])=_;rw[aX];rfl);rw[e]at h;have D:=h.len;unfold oN;rw[eX h ⟨#[112,97,99,107,97,103,101]⟩ (by decide),bQ.bind_ok,lQ h.adv,bQ.bind_ok,nP];obtain⟨l',s',O,N,M⟩:=F5 (aD c s) x (G:=G) l G [] [] (adv (adv s)) hl h.adv.adv hh U (J.le (by show s.at_<=s.at_+1+1;omega)) (by simp only[gO]at D;have:(adv (adv s)).at_=s.at_+1+1:=rfl;unfold Fu at J;omega) bi.nil;exact⟨_,s',O,ci.mk N _ _,M⟩
end
def ls:Bool->List It->Bool
 |e,[]=>e
 |_,.tok k x::z=>ls (oV k x) z
 |e,.gap _::z=>ls e z
 |_,.nl::z=>ls false z
theorem bg.app:∀{a b:List It}{e:Bool}{r:List UInt8},bg e a (fl b++r)->bg (ls e a) b r->bg e (a++b) r
 |[],_,_,_,_,h=>h
 | .tok k x::a,b,e,r,D,I=>by refine⟨?_,bg.app D.2 I⟩;show ii (fl (a++b)++r) k x;rw[iF,gL];exact D.1
 | .gap c::a,b,e,r,D,I=>⟨D.1,bg.app D.2 I⟩
 | .nl::a,b,e,r,D,I=>⟨D.1,bg.app D.2 I⟩
theorem dh:∀(a b:List It)(e:Bool),ls e (a++b)=ls (ls e a) b
 |[],_,_=>rfl
 | .tok k x::a,b,_=>dh a b (oV k x)
 | .gap _::a,b,e=>dh a b e
 | .nl::a,b,_=>dh a b false
def iZ(r:List UInt8):Prop:=∃b q,r=b::q/\a7 (b.toNat:Int)=false
theorem iZ.stop{r:List UInt8}(h:iZ r):tR r=true:=by obtain⟨b,q,rfl,h⟩:=h;show(!a7 (b.toNat:Int))=true;rw[h];rfl
def wO(a:UInt8):Bool:=a==40||(a==41||(a==91||(a==93||(a==123||(a==125||(a==44||(a==59||a==126)))))))
theorem F9{a:UInt8}(h:wO a=true)(b:UInt8):I7 a b=true/\po [a]=true/\a≠47/\a7 (a.toNat:Int)=false:=by(have key:∀b:Fin 256,∀a∈([40,41,91,93,123,125,44,59,126]:List UInt8),I7 a (UInt8.ofNat b.val)=true:=by decide +kernel);(have D:∀a∈([40,41,91,93,123,125,44,59,126]:List UInt8),po [a]=true/\a≠47/\a7 (a.toNat:Int)=false:=by decide +kernel);(have I:a∈([40,41,91,93,123,125,44,59,126]:List UInt8):=by unfold wO at h;simpa[Bool.or_eq_true,beq_iff_eq]using h);have:=key ⟨b.toNat,b.toNat_lt⟩ a I;exact⟨by simpa using this,D a I⟩
theorem iZ.sg{a:UInt8}(h:wO a=true)(q:List UInt8):iZ (a::q):=⟨a,q,rfl,(F9 h 0).2.2.2⟩
theorem iZ.sp(q:List UInt8):iZ (32::q):=⟨32,q,rfl,by decide +kernel⟩
section
variable {e:Bool} {z:List It} {r:List UInt8}
theorem mL{a:UInt8}(M:wO a=true)(D:fl z++r≠[])(I:bg (oV 6 [a]) z r):bg e (cK a::z) r:=by
 refine⟨?_,I⟩;cases J:fl z++r with
 |nil=>exact absurd J D
 |cons b q=>obtain⟨U,O,N,_⟩:=F9 M b;exact .one U O fun h=>absurd h N
theorem ft(D:bg e z r):bg e (aY::z) r:=⟨.inl rfl,D⟩
theorem Dy{l:List UInt8}(h:cO l=true)(J:l≠[]):mE l=true:=by
 cases l with
 |nil=>exact absurd rfl J
 |cons a l=>unfold cO at h;rw[gA]at h;unfold mE;(have I:∀b:Fin 256,lI (UInt8.ofNat b.val)=true->aL (((UInt8.ofNat b.val).toNat:Nat):Int)=true:=by decide +kernel);(have D:∀b:Fin 256,(lI (UInt8.ofNat b.val)||dY (UInt8.ofNat b.val))=true->a7 (((UInt8.ofNat b.val).toNat:Nat):Int)=true:=by decide +kernel);rw[gA];refine⟨by have:=I ⟨a.toNat,a.toNat_lt⟩;simpa using this (by simpa using h.1),List.all_eq_true.2 fun b hb=>?_⟩;have hb:=List.all_eq_true.1 h.2 b hb;have:=D ⟨b.toNat,b.toNat_lt⟩;simpa using this (by simpa using hb)
theorem rQ{x:ByteArray}(D:aB x=true):mE (bytes x)=true/\bW (dx (bytes x))=0:=by unfold aB dZ at D;rw[gA,gA,gA,gD,gD,gD]at D;obtain⟨_,M,J,I⟩:=D;rw[cH];refine⟨?_,I⟩;exact Dy M fun h=>J (cQ h)
theorem wP{x:ByteArray}(I:aB x=true)(hs:iZ (fl z++r))(D:bg true z r):bg e (iq x::z) r:=by obtain⟨M,J⟩:=rQ I;exact⟨.wordK (by rw[J];rfl) M hs.stop,D⟩
theorem Ay{x:ByteArray}(D:mE (bytes x)=true/\bW (dx (bytes x))=1)(hs:iZ (fl z++r))(I:bg (oV 2 (bytes x)) z r):bg e (f8 x::z) r:=
 ⟨.wordK (by rw[D.2];rfl) D.1 hs.stop,I⟩
end
structure Pc(l:List It):Prop where
 ok:∀e r,iZ r->bg e l r
 fin:∀e,ls e l=true
 hd:∃b q,fl l=b::q
theorem Pc.app{a b:List It}(D:Pc a)(hb:Pc b)(h:∀r,iZ r->iZ (fl b++r)):Pc (a++b):=by refine⟨fun e r hr=>bg.app (D.ok e _ (h r hr)) (hb.ok _ r hr),fun e=>by rw[dh,hb.fin],?_⟩;obtain⟨b',q,I⟩:=D.hd;exact⟨b',q++fl b,by rw[iF,I];rfl⟩
theorem ET(s:List It)(hs:∀e r,bg e s r)(D:∀z,iZ (fl s++z)):∀(L:List (List It)),(∀l∈L,Pc l)->∀e r,iZ r->bg e (cr s L) r
 |[],_,_,_,_=>trivial
 |[x],h,e,r,I=>(h x (by simp)).ok e r I
 |x::y::L,h,e,r,I=>by show bg e (x++(s++cr s (y::L))) r;refine bg.app ((h x (by simp)).ok e _ ?_) (bg.app (hs _ _) (ET s hs D (y::L) (fun l hl=>h l (by simp[hl])) _ r I));rw[iF,gL];exact D _
theorem SV(e:Bool)(r:List UInt8):bg e ch r:=mL (by decide) (by simp[fl];exact fun h=>by cases h) (ft trivial)
theorem SW(z:List UInt8):iZ (fl ch++z):=iZ.sg (a:=44) (by decide) _
theorem wQ{a:UInt8}(D:a=41\/a=93\/a=125):oV 6 [a]=true:=by rcases D with rfl|rfl|rfl<;>decide +kernel
theorem BN{o a:UInt8}(N:wO o=true)(J:a=41\/a=93\/a=125){L:List (List It)}(O:∀l∈L,Pc l){z:List It}(M:∀r,iZ r->bg true z r)(I:ls true z=true)(D:∀r,iZ r->fl z++r≠[]):Pc (cK o::(cr ch L++(cK a::z))):=by
 (have hs:wO a=true:=by rcases J with rfl|rfl|rfl<;>decide);refine⟨fun e r hr=>?_,fun e=>?_,⟨o,_,rfl⟩⟩
 ·refine mL N ?_ (bg.app (ET ch SV SW L O _ _ (iZ.sg hs _)) (mL hs (D r hr) ?_))
  ·rw[iF,dg];show(_++(a::_))++_≠[];simp
  ·rw[wQ J];exact M r hr
 ·show ls (oV 6 [o]) (cr ch L++(cK a::z))=true;rw[dh];show ls (oV 6 [a]) z=true;rw[wQ J];exact I
theorem stp_ne{z:List It}{r:List UInt8}(D:iZ r):fl z++r≠[]:=by obtain⟨b,q,rfl,_⟩:=D;simp
def Hd(l:List It):Prop:=∃b q,fl l=b::q/\(b≠61/\b≠62/\b≠45)
theorem Ga{b:UInt8}(h:a7 (b.toNat:Int)=true):b≠61/\b≠62/\b≠45:=by refine⟨?_,?_,?_⟩<;>(rintro rfl;revert h;decide)
theorem pR{x:ByteArray}(I:aB x=true)(z:List It):Hd (iq x::z):=by
 have h:=(rQ I).1;cases D:bytes x with
 |nil=>rw[D]at h;cases h
 |cons b q=>rw[D]at h;unfold mE at h;rw[gA]at h;refine⟨b,q++fl z,?_,Ga (by unfold a7;rw[h.1];rfl)⟩;rw[dg];show bytes x++_=_;rw[D];rfl
theorem Hd.app{a:List It}(h:Hd a)(b:List It):Hd (a++b):=by obtain⟨c,q,e,h⟩:=h;exact⟨c,q++fl b,by rw[iF,e];rfl,h⟩
theorem Gb{x:ByteArray}(D:aB x=true):Pc [iq x]:=
 ⟨fun e r hr=>wP D hr trivial,fun e=>by show oV 1 (bytes x)=true;rfl,by obtain⟨b,q,e,_⟩:=pR D [];exact⟨b,q,e⟩⟩
theorem oH{x:ByteArray}(D:aB x=true){p:List It}(I:Pc p):Pc (iq x::aY::p):=
 ⟨fun e r hr=>wP D (iZ.sp _) (ft (I.ok _ r hr)),fun e=>I.fin _,by obtain⟨b,q,e,_⟩:=pR D (aY::p);exact⟨b,q,e⟩⟩
theorem Pc.stp_ne{l:List It}(_:Pc l){r:List UInt8}(D:iZ r):fl l++r≠[]:=Go.Proofs.YteialcjaiocjdaaGreatDoor.stp_ne D
theorem SX{f:Nd->List It}{n:Nd}(J:∀p∈(aW n 0).kids,Pc (dD p.text++f (aW p 0)))(D:(aW n 1).kind≠0->Pc (f (aW n 1))):Pc (eg f n):=by
 unfold eg;refine BN (by decide) (.inl rfl) (fun l hl=>?_) (fun r hr=>?_) ?_ fun r hr=>stp_ne hr
 ·obtain⟨p,I,rfl⟩:=List.mem_map.1 hl;exact J p I
 ·split
  ·trivial
  ·rename_i h;exact ft ((D h).ok _ r hr)
 ·split
  ·rfl
  ·rename_i h;exact(D h).fin _
theorem EU(f:Nd->List It)(n:Nd)(r:List UInt8):iZ (fl (eg f n)++r):=by unfold eg;rw[dg];exact iZ.sg (a:=40) (by decide) _
theorem P3:mE (bytes ⟨#[102,117,110,99]⟩)=true/\bW (dx (bytes ⟨#[102,117,110,99]⟩))=1:=⟨by decide +kernel,by decide +kernel⟩
theorem Gc{l:List It}(D:Pc l)(hs:∀r,iZ (fl l++r)):Pc (f8 ⟨#[102,117,110,99]⟩::l)/\Hd (f8 ⟨#[102,117,110,99]⟩::l):=
 ⟨⟨fun e r hr=>Ay P3 (hs r) (D.ok _ r hr),fun e=>D.fin _,⟨102,_,rfl⟩⟩,⟨102,_,rfl,by decide,by decide,by decide⟩⟩
theorem Ni{F:cm}{f:Nd->List It}{so:ByteArray->Bool}(I:so=aB\/so=ec)(N:∀n,F.typ n=true->Pc (f n)){p:Nd}(O:d4 F so p=true):Pc (dD p.text++f (aW p 0)):=by
 obtain⟨x,l,a,rfl,D,U⟩:=aJ (by decide) O;obtain⟨k,rfl,M⟩:=dW U;show Pc (dD x++f k);unfold dD;split
 ·exact N k M
 ·rename_i J;rcases I with rfl|rfl
  ·exact oH D (N k M)
  ·unfold ec at D;rw[gD]at D;exact absurd D J
theorem BO{F:cm}{f:Nd->List It}{so:ByteArray->Bool}(I:so=aB\/so=ec)(M:∀n,F.typ n=true->Pc (f n)){n:Nd}(N:il F so n=true):Pc (eg f n):=by
 obtain⟨ps,a1,res,a,rfl,J,D⟩:=rE N;refine SX (fun p hp=>Ni I M (List.all_eq_true.1 J p hp)) fun h=>?_;rcases D with D|D
 ·obtain⟨a',rfl⟩:=bN D;exact absurd rfl h
 ·exact M res D
theorem Nj{f:Nd->List It}{l:List Nd}(J:∀x∈l,Pc (f x))(r:List UInt8)(D:iZ r):bg true (nh f l) r/\ls true (nh f l)=true/\iZ (fl (nh f l)++r):=by
 unfold nh;split
 ·exact⟨trivial,rfl,D⟩
 ·have:=BN (o:=91) (a:=93) (L:=l.map f) (z:=[]) (by decide) (.inr (.inl rfl)) (fun y hy=>by obtain⟨x,I,rfl⟩:=List.mem_map.1 hy;exact J x I) (fun _ _=>trivial) rfl (fun r D=>stp_ne D);refine⟨this.ok _ r D,this.fin _,?_⟩;rw[dg];exact iZ.sg (a:=91) (by decide) _
theorem nm:∀(d:Nat){n:Nd},(aa d).typ n=true->Pc (ag d n)/\Hd (ag d n)
 |0,_,h=>by cases h
 |d+1,n,h=>by
  have I:=typ_kind h;have h:dH (aa d) n=true:=h;have M:∀n,(aa d).typ n=true->Pc (ag d n):=fun n h=>(nm d h).1;unfold dH at h;unfold ag;rcases I with I|I|I
  ·rw[gB (by omega),gB (by omega),gB (by omega)];rw[gG I,gA]at h;have D:=Nj (f:=ag d) (l:=n.kids) fun x hx=>M x (List.all_eq_true.1 h.2 x hx);refine⟨⟨fun e r hr=>wP h.1 (D r hr).2.2 (D r hr).1,fun e=>(D [32] (iZ.sp [])).2.1,?_⟩,pR h.1 _⟩;obtain⟨b,q,e,_⟩:=pR h.1 (nh (ag d) n.kids);exact⟨b,q,e⟩
  ·rw[gG I];rw[gB (by omega),gG I]at h;obtain⟨l,a,rfl,O⟩:=cg h;obtain⟨k,rfl,J⟩:=dW O;have N:=M k J;refine⟨⟨fun e r hr=>mL (by decide) (by rw[dg];show(93::_)++r≠[];simp) (mL (by decide) (stp_ne hr) (N.ok _ r hr)),fun e=>N.fin _,⟨91,_,rfl⟩⟩,⟨91,_,rfl,by decide,by decide,by decide⟩⟩
  ·rw[gB (by omega),gG I];rw[gB (by omega),gB (by omega),gG I]at h;exact Gc (BO (.inr rfl) M h) (EU _ _)
end
end Go.Proofs.YteialcjaiocjdaaGreatDoor
