/-
  Parts of the proof: Pxc Pxe Pxf Pxg Pagain. By an AI agent.
-/
import Derived.Test.YtiebcdeafofgdaaGreatDoorJ23
import Derived.Test.YtiebcdeafofgdaaGreatDoorJ18
import Derived.Test.YtiebcdeafofgdaaGreatDoorJ22
import Derived.Test.YtiebcdeafofgdaaGreatDoorJ07
set_option maxRecDepth 100000
set_option maxHeartbeats 8000000
namespace Go.Proofs.YtiebcdeafofgdaaGreatDoor
section
open Go.RowKit Go.Lib Go.Proofs
attribute [local go_sem ↓] Go.wp_at_zero Go.wp_at_succ
theorem Tg{d:Nat}{n:Nd}(h:fc 31 [dv (dv aE (ia (aj d))) (dv (mF (aj d)) (mE (aj d))),dv aE (aj d).expr,dv (dv aE (mF (aj d))) (dv (mE (aj d)) (mw (aj d))),(aj d).block] n=true):
  ∃a c u b p,n=.mk 31 ⟨#[]⟩ [a,c,u,b] p/\(aE a=true\/Ov d a)/\(aE c=true\/(aj d).expr c=true)/\(aE u=true\/Ov d u)/\(aj d).block b=true:=by
 obtain⟨l,p,rfl,J⟩:=ch h;obtain⟨a,c,u,b,rfl,I,hc,D,hb⟩:=Pz J;unfold dv at I hc D;simp only[gH]at I hc D;refine⟨a,c,u,b,p,rfl,?_,hc,?_,hb⟩<;>unfold Ov
 ·rcases I with(h|h)|h|h<;>simp[h]
 ·rcases D with(h|h)|h|h<;>simp[h]
theorem Rq(l:List It):tx (cX 59::bc::l)=(⟨#[59,32]⟩:BA)++tx l:=by rw[aC,aC bc,<-aA];rfl
theorem Th(F:uR)(a c u b:Nd)(p:Int)(deep:Nat)(head:Bool):tx (cr F (.mk 31 ⟨#[]⟩ [a,c,u,b] p) deep head) =
  (⟨#[102,111,114,32]⟩:BA)++(if a.kind=0/\u.kind=0 then(if c.kind=0 then(⟨#[]⟩:BA)else tx (F.expr c deep true)++(⟨#[32]⟩:BA))else(if a.kind=0 then(⟨#[]⟩:BA)else tx (eS F a deep true))++(⟨#[59,32]⟩:BA)++(if c.kind=0 then(⟨#[]⟩:BA)else tx (F.expr c deep true))++(⟨#[59,32]⟩:BA)++(if u.kind=0 then(⟨#[]⟩:BA)else tx (eS F u deep true)++(⟨#[32]⟩:BA)))++tx (F.block b deep):=by show tx (iy ⟨#[102,111,114]⟩::bc::(si F (.mk 31 ⟨#[]⟩ [a,c,u,b] p) deep++F.block b deep))=_;rw[aC,aC bc,bG,<-aA,<-aA];refine jH (· ++ tx (F.block b deep)) (jH ((⟨#[102,111,114,32]⟩:BA) ++ ·) ?_);unfold si;by_cases I:a.kind=0<;>by_cases hc:c.kind=0<;>by_cases D:u.kind=0<;>simp[I,hc,D,aV,bG,Rq,FQ,Ae,aA,ms]
theorem OC(d:Nat)(HE:io d)(ga:nG d):rT d (fun n=>fc 31 [dv (dv aE (ia (aj d))) (dv (mF (aj d)) (mE (aj d))),dv aE (aj d).expr,dv (dv aE (mF (aj d))) (dv (mE (aj d)) (mw (aj d))),(aj d).block] n=true) (cr (ac d)):=by
 intro v n w deep head hv hn hd hM;obtain⟨a,c,u,b,p,rfl,M,hc,J,hb⟩:=Tg hn;have HR:=hid (Th (ac d) a c u b p deep head);rw[HR.out]at hM;obtain⟨A,cp,rfl,hC⟩:=hv.toC;simp only[Nd.kind_mk,Nd.text_mk,Nd.kids_mk,Nd.pos_mk]at *;have hB:=(aH w #[.int .i64 31,.string ⟨#[]⟩,.slice A 4 cp,.int .i64 p]).1;have I:bR w (.agg #[.int .i64 31,.string ⟨#[]⟩,.slice A 4 cp,.int .i64 p]) (.mk 31 ⟨#[]⟩ [a,c,u,b] p):=hv;obtain⟨bp,op,A1,c1,rfl,hp⟩:=eR (aq.below I hB) 0 (by simp);obtain⟨_,_,A2,c2,e,hq⟩:=eR (aq.below I hB) 1 (by simp);injection e with e;injection e with e1 e2;subst e1 e2;obtain⟨_,_,A3,c3,e,hr⟩:=eR (aq.below I hB) 2 (by simp);injection e with e;injection e with e1 e2;subst e1 e2;obtain⟨_,_,A4,c4,e,hs⟩:=eR (aq.below I hB) 3 (by simp);injection e with e;injection e with e1 e2;subst e1 e2;simp only[Nd.kids_mk,jM,vc,kE,jP,vB,Nat.reduceMul]at hp hq hr hs;clear hv hC I hn;(go_enter Tryz.func69,Tryz.ntmps69);(go_upto_region 19 with fail);generalize w.alloc (.cells #[.int .i64 31,.string ⟨#[]⟩,.slice (some ⟨bp,op,none⟩) 4 cp,.int .i64 p] 24)=W at *;have HA:=hid (fun(w':World)(D:Below W W w')(h:a.kind≠0)(N:(tx (eS (ac d) a deep true)).size<=10000000000000000)=>CL d HE _ a w' deep true (hp.below D).2.2.2.2 (me M h) hd N);have HC:=hid (fun(w':World)(D:Below W W w')(h:c.kind≠0)(N:(tx ((ac d).expr c deep true)).size<=10000000000000000)=>HE _ c w' deep true (hq.below D).2.2.2.2 (me hc h) hd N);have HU:=hid (fun(w':World)(D:Below W W w')(h:u.kind≠0)(N:(tx (eS (ac d) u deep true)).size<=10000000000000000)=>CL d HE _ u w' deep true (hr.below D).2.2.2.2 (me J h) hd N);have HD:=hid (fun(w':World)(D:Below W W w')(N:(tx ((ac d).block b deep)).size<=10000000000000000)=>ga _ b w' deep (hs.below D).2.2.2.2 hb hd N);have O:Hid (_/\_/\_/\_):=hid (⟨hp,hq,hr,hs⟩);generalize tx ((ac d).expr c deep true)=C at *;generalize tx ((ac d).block b deep)=B at *;generalize tx (eS (ac d) a deep true)=X at *;generalize tx (eS (ac d) u deep true)=U at *;have D:=gG W.heap.size W;clear hp hq hr hs M hc J hb HE ga;by_cases M:a.kind=0<;>by_cases hc:c.kind=0<;>by_cases J:u.kind=0;all_goals
  simp only[M,hc,J,and_self,and_true,and_false,kJ,jY,pq,ms,gD]at HR hM;obtain⟨⟨a0,a1,a2,a3,-⟩,⟨q0,q1,q2,q3,-⟩,⟨u0,u1,u2,u3,-⟩,⟨s0,s1,s2,s3,-⟩⟩:=O.out;(first|rw[M]at a0|have za:(a.kind != 0)=true:=by simpa using M);(first|rw[hc]at q0|have zc:(c.kind != 0)=true:=by simpa using hc);(first|rw[J]at u0|have zu:(u.kind != 0)=true:=by simpa using J);(go_wp2_with fail);repeat
   (first
    |(with_reducible refine(HA.out _ D M (by omega)).mono ?_)
    |(with_reducible refine(HC.out _ D hc (by omega)).mono ?_)
    |(with_reducible refine(HU.out _ D J (by omega)).mono ?_)
    |(with_reducible refine(HD.out _ D (by omega)).mono ?_))
   rintro e w3⟨rfl,gb⟩
   have D:=a8 D gb
   clear a0 a1 a2 a3 q0 q1 q2 q3 u0 u1 u2 u3 s0 s1 s2 s3
   obtain⟨⟨a0,a1,a2,a3,-⟩,⟨q0,q1,q2,q3,-⟩,⟨u0,u1,u2,u3,-⟩,⟨s0,s1,s2,s3,-⟩⟩:=show _/\_/\_/\_ from⟨O.out.1.below D,O.out.2.1.below D,O.out.2.2.1.below D,O.out.2.2.2.below D⟩
   (try rw[M]at a0)
   (try rw[hc]at q0)
   (try rw[J]at u0)
   go_wp2_with fail
  go_ret;exact⟨by rw[HR.out];simp only[aA];rfl,a8 hB D⟩
theorem La(d:Nat)(N:io d)(M:nG d)(O:Ak d):Ak (d+1):=by
 intro v n w deep hv D hd J;(have I:deep+d<=1000:=by omega);have D:eY (aj d) n=true:=D;have J:(tx (cr (ac d) n deep false)).size<=10000000000000000:=J;show Calls Tryz.prog 69 _ _ fun e w'=>e=.returned (.string (tx (cr (ac d) n deep false)))/\Below w w w';(have sim:Ov d n->26<=n.kind/\n.kind<=29->Calls Tryz.prog 69 #[v,.int .i64 (deep:Int),.bool false] w fun e w'=>e=.returned (.string (tx (cr (ac d) n deep false)))/\Below w w w':=by intro h hk;rw[pe _ hk]at J |-;exact CL d N v n w deep false hv h I J);unfold eY at D;by_cases h:n.kind=5
 ·rw[gE h]at D;exact Ow d N v n w deep false hv ⟨h,D⟩ I J
 rw[gA h]at D;by_cases h:n.kind=26
 ·rw[gE h]at D;exact sim (.inl D) (by omega)
 rw[gA h]at D;by_cases h:n.kind=27
 ·rw[gE h]at D;exact sim (.inr (.inl D)) (by omega)
 rw[gA h]at D;by_cases h:n.kind=28
 ·rw[gE h]at D;exact sim (.inr (.inr (.inl D))) (by omega)
 rw[gA h]at D;by_cases h:n.kind=29
 ·rw[gE h]at D;exact sim (.inr (.inr (.inr D))) (by omega)
 rw[gA h]at D;by_cases h:n.kind=30
 ·rw[gE h]at D;exact Rm d N M O v n w deep false hv D I J
 rw[gA h]at D;by_cases h:n.kind=31
 ·rw[gE h]at D;exact OC d N M v n w deep false hv D I J
 rw[gA h]at D;by_cases h:n.kind=32
 ·rw[gE h]at D;exact Rp d N M v n w deep false hv D I J
 rw[gA h]at D;by_cases h:n.kind=33
 ·rw[gE h]at D;exact Rn d N v n w deep false hv D I J
 rw[gA h]at D;by_cases h:n.kind=34\/n.kind=35
 ·exact Ro d v n w deep false hv h I J
 rw[gA h]at D;exact Ox d O v n w deep false hv D hd J
theorem Rr{α:Type}(s:List It)(f:α->List It)(D:∀x,1<=(tx (f x)).size):∀l:List α,l≠[]->0<(tx (cv s (l.map f))).size
 |[],h=>absurd rfl h
 |[x],_=>D x
 |x::y::l,_=>by have:=D x;show 0<(tx (f x++_)).size;rw[bG,gD];omega
theorem Rs(F:uR)(t:ByteArray)(x:Nd)(p:Int):tx (dS F (.mk 7 t [x] p))=t++(⟨#[32]⟩:BA)++tx (fL F x):=by show tx (iN t::bc::fL F x)=_;rw[aC,aC bc,py,Ae,aA]
theorem Rt(F:uR)(p:Nd):1<=(tx (dS F p)).size:=by unfold dS;rw[aC,aC bc,gD,gD];show 1<=_+(1+_);omega
theorem Ru{F:dM}{n:Nd}(h:nM F n=true):∃t x p,n=.mk 7 t [x] p/\(F.typ x||ct F x)=true:=by obtain⟨t,l,a,rfl,hs,I⟩:=aJ (by decide) h;obtain⟨x,rfl,D⟩:=ep I;refine⟨t,x,a,rfl,?_⟩;unfold dv fQ at D;rw[gH,gB]at D;rw[gH];exact D.imp (fun h=>h.2) id
theorem Ar(d:Nat):P5 56 (cC (aj d)) (fA (ac d)):=by
 intro v n w hv hn hM;obtain⟨l,p,rfl,hl⟩:=tr hn;have HL:=hid (List.all_eq_true.1 hl);have HR:Hid (tx (fA (ac d) (.mk 6 ⟨#[]⟩ l p))=_):=hid (Oc (dS (ac d)) l);have hS:(tx (cv ci (l.map (dS (ac d))))).size<=10000000000000000:=by
  rw[HR.out]at hM;split at hM
  ·rename_i h;subst h;exact gP _
  ·rw[gD,gD]at hM;omega
 have ga:=hid (Rr ci (dS (ac d)) (Rt _) l);obtain⟨A,cp,rfl,hC⟩:=hv.toC;have gd:=rC ci (by decide) (dS (ac d)) l;have HV:Hid (bR w (.agg #[.int .i64 6,.string ⟨#[]⟩,.slice A l.length cp,.int .i64 p]) (.mk 6 ⟨#[]⟩ l p)):=hid hv;have hB:=(aH w #[.int .i64 6,.string ⟨#[]⟩,.slice A l.length cp,.int .i64 p]).1;have ge:=(aH w #[.int .i64 6,.string ⟨#[]⟩,.slice A l.length cp,.int .i64 p]).2;clear hn hC hv hl;simp only[Nd.kind_mk,Nd.text_mk,Nd.kids_mk,Nd.pos_mk];(go_enter Tryz.func56,Tryz.ntmps56);(go_wp2_with fail);generalize w.alloc (.cells #[.int .i64 6,.string ⟨#[]⟩,.slice A l.length cp,.int .i64 p] 24)=w0 at *;go_loopg [3,4] l.length (fun k u3 u4 wr=>∃i:Nat,i<=l.length/\l.length-i<=k/\u4=.int .i64 (i:Int)/\u3=.string (tx (cv ci ((l.take i).map (dS (ac d)))))/\Below w0 w0 wr)
 case atStart=>exact⟨0,gP _,by omega,rfl,rfl,gG _ _⟩
 case round=>
  obtain⟨i,hi,hk,rfl,rfl,I⟩:=hrel;have gj:=mu ci (dS (ac d)) l i hi;obtain⟨x0,x1,x2,x3,-,-,-,-⟩:=ag (ge.bl I);by_cases N:i<l.length
  ·(have gb:(i:Int)<(l.length:Int):=by omega);(have h0:(0:Int)<=(i:Int):=by omega);obtain⟨-,-,n2,-⟩:=GL (ge.bl I);obtain⟨bp,op,A2,c2,gm,hp⟩:=eR (aq.below HV.out (a8 hB I)) i N;simp only[Nd.kids_mk]at hp;subst gm;have D:=hid (uo ci (dS (ac d)) l i N);have J:=mu ci (dS (ac d)) l (i+1) N;rw[D.out,gD,gD]at J;have gi:=hid (Ru (HL.out _ (jC N)));generalize l[i]=q1 at *;obtain⟨t,x,pp,rfl,hx⟩:=gi.out;have HX:=hid hx;have gh:=hid (Rs (ac d) t x pp);rw[gh.out]at D J;rw[gD,gD]at J;obtain⟨bx,ox,A3,c3,rfl,M⟩:=eR hp.2.2.2.2 0 (by simp);simp only[Nd.kids_mk,jM,kE,jP]at M;have gg:=hid (fun m:Wd (Below wr wr)=>Ev d _ x m.wd (M.below m.ok).2.2.2.2 HX.out (by omega));obtain⟨k0,k1,k2,k3⟩:=Ao hp;obtain⟨b0,b1,b2,b3⟩:=Ao M;simp only[Nd.kind_mk,Nd.text_mk,Nd.kids_mk,Nd.pos_mk]at k0 k1 k2 k3;generalize tx (cv ci ((l.take i).map (dS (ac d))))=S at *;generalize tx (fL (ac d) x)=X at *;clear gi hx gh hp M;rcases kQ i with U|U;(have yk:¬ (0:Int)<(i:Int):=by omega);rw[sw ci U]at D J;simp only[ms]at D
   rotate_left
   (have yk:(0:Int)<(i:Int):=by omega);rw[sx ci U,un]at D J
   rotate_left
   all_goals
    clear U;(go_wp2_with fail);refine cQ wr ?_;(repeat(go_big_quiet_step ((go_at_call 37;rename_i m;exact uV gg.out m))));refine jS ?_;intro m;have gl:=m.ok;clear k0 k1 k2 k3 b0 b1 b2 b3 n2 x0 x1 x2 x3 gg;(go_wp2_with fail);go_roundg (l.length-(i+1))
    case measure=>omega
    case rel=>exact⟨i+1,by omega,d5 _,by go_num,by first|exact jH Value.string D.out.symm|(rw[D.out];simp only[aA]),a8 I gl⟩
  ·(have gb:¬ (i:Int)<(l.length:Int):=by omega);have D:=hid (show tx (cv ci ((l.take i).map (dS (ac d))))=tx (cv ci (l.map (dS (ac d))))by rw[jK (by omega)]);rw[<-D.out]at HR hS gj gd ga;generalize tx (cv ci ((l.take i).map (dS (ac d))))=S at *;by_cases O:l=[]
   ·subst O;rw[gE rfl]at HR;have gn:S=(⟨#[]⟩:BA):=D.out;subst gn;(go_wp2_with fail);go_ret;exact⟨by rw[HR.out];rfl,a8 hB I⟩
   ·have hp:=ga.out O;(have gp:S.toList.isEmpty=false:=by rw[aK,gK];rintro rfl;exact absurd hp (by decide));rw[gA O]at HR;rw[HR.out,gD,gD]at hM;clear O;(go_wp2_with fail);go_ret;exact⟨by rw[HR.out];simp only[aA];rfl,a8 hB I⟩
theorem Rv{F:dM}{n:Nd}(h:fc 2 [cC F,ld F,F.block] (aG aO n)=true):∃t x y b p,n=.mk 2 t [x,y,b] p/\cC F x=true/\ld F y=true/\F.block b=true:=by obtain⟨t,l,p,rfl,M,J⟩:=aJ (by decide) h;obtain⟨x,y,b,rfl,I,D,hb⟩:=DW J;exact⟨t,x,y,b,p,rfl,I,D,hb⟩
theorem Rw{F:dM}{n:Nd}(h:fc 3 [cC F,dv (dv F.typ (cK F)) (ct F)] (aG aO n)=true):∃t x y p,n=.mk 3 t [x,y] p/\cC F x=true/\(cK F y=true\/(F.typ y||ct F y)=true):=by obtain⟨t,l,p,rfl,M,J⟩:=aJ (by decide) h;obtain⟨x,y,rfl,I,D⟩:=li J;unfold dv at D;simp only[gH]at D |-;exact⟨t,x,y,p,rfl,I,by rcases D with(h|h)|h<;>simp[h]⟩
theorem Rx{F:dM}{n:Nd}(h:fc 4 [cC F,F.typ] (aG aO n)=true):∃t x y p,n=.mk 4 t [x,y] p/\cC F x=true/\F.typ y=true:=by obtain⟨t,l,p,rfl,M,J⟩:=aJ (by decide) h;obtain⟨x,y,rfl,I,D⟩:=li J;exact⟨t,x,y,p,rfl,I,D⟩
theorem Ry(d:Nat)(t:ByteArray)(x y b:Nd)(p:Int):tx (eN (ac d) (.mk 2 t [x,y,b] p))=(⟨#[102,117,110,99,32]⟩:BA)++t++tx (fA (ac d) x)++tx (ez (af d) y)++(⟨#[32]⟩:BA)++tx ((ac d).block b 0):=by show tx (iy ⟨#[102,117,110,99]⟩::bc::iN t::(fA (ac d) x++(ez (ac d).typ y++(bc::(ac d).block b 0))))=_;rw[aC,aC bc (_::_),aC (iN t),py,bG,bG,aC bc ((ac d).block b 0),ut];simp only[aA];rfl
theorem Rz(d:Nat)(t:ByteArray)(x y:Nd)(p:Int):tx (eN (ac d) (.mk 4 t [x,y] p))=(⟨#[116,121,112,101,32]⟩:BA)++t++tx (fA (ac d) x)++(⟨#[32,61,32]⟩:BA)++tx (af d y):=by show tx (iy ⟨#[116,121,112,101]⟩::bc::iN t::(fA (ac d) x++(bc::cX 61::bc::(ac d).typ y)))=_;rw[aC,aC bc (iN t::_),aC (iN t),py,bG,aC bc (cX 61::_),aC (cX 61),aC bc ((ac d).typ y),ut];simp only[aA];rfl
theorem Ti(F:uR)(y:Nd):tx (pd F y)=(⟨#[115,116,114,117,99,116,32,123,10]⟩:BA)++(tx (y.kids.flatMap (cS F))++(⟨#[125]⟩:BA)):=by unfold pd;rw[aC,aC bc,aC (cX 123),aC (.gap 10),bG,<-aA,<-aA,<-aA];rfl
theorem RA(d:Nat)(t:ByteArray)(x y:Nd)(p:Int):tx (eN (ac d) (.mk 3 t [x,y] p))=(⟨#[116,121,112,101,32]⟩:BA)++t++tx (fA (ac d) x)++(⟨#[32]⟩:BA)++if y.kind=13 then(⟨#[115,116,114,117,99,116,32,123,10]⟩:BA)++(tx (y.kids.flatMap (cS (ac d)))++(⟨#[125]⟩:BA))else tx (fL (ac d) y):=by
 show tx (iy ⟨#[116,121,112,101]⟩::bc::iN t::(fA (ac d) x++(bc::(if y.kind=13 then pd (ac d) y else fL (ac d) y))))=_;rw[aC,aC bc (_::_),aC (iN t),py,bG,aC bc (if y.kind=13 then pd (ac d) y else fL (ac d) y)];split
 ·rw[Ti];simp only[<-aA];rfl
 ·simp only[<-aA];rfl
theorem OD{F:dM}{n:Nd}(h:nZ F n=true):∃t x p,n=.mk 9 t [x] p/\F.typ x=true:=by obtain⟨t,l,a,rfl,hs,I⟩:=aJ (by decide) h;obtain⟨x,rfl,D⟩:=ep I;exact⟨t,x,a,rfl,D⟩
theorem OE(d:Nat)(t:ByteArray)(x:Nd)(p:Int):tx (cS (ac d) (.mk 9 t [x] p))=(⟨#[9]⟩:BA)++t++(⟨#[32]⟩:BA)++tx (af d x)++(⟨#[10]⟩:BA):=by show tx (.gap 9::iN t::bc::((ac d).typ x++[.nl]))=_;rw[aC,aC (iN t),aC bc,bG,py,ut];simp only[aA];rfl
theorem OF(F:uR)(x:Nd):1<=(tx (cS F x)).size:=by unfold cS;rw[aC,gD];exact Nat.le_add_right _ _
def Ez(d:Nat)(P:Nd->Bool):Prop:=P5 29 P (eN (ac d))
theorem OG(d:Nat)(hd:d<=1000)(D:nG d):Ez d (fun n=>fc 2 [cC (aj d),ld (aj d),(aj d).block] (aG aO n)):=by
 intro v n w hv hn hM;obtain⟨t,x,y,b,p,rfl,hx,h,hb⟩:=Rv hn;have HR:=hid (Ry d t x y b p);rw[HR.out]at hM;simp only[gD]at hM;obtain⟨A,cp,rfl,hC⟩:=hv.toC;simp only[Nd.kind_mk,Nd.text_mk,Nd.kids_mk,Nd.pos_mk]at *;obtain⟨hB,hN⟩:=aH w #[.int .i64 2,.string t,.slice A 3 cp,.int .i64 p];obtain⟨bp,op,A1,c1,A2,c2,A3,c3,rfl,M,J,I⟩:=TA (aq.below hv hB);clear hv hC hn;(go_enter Tryz.func29,Tryz.ntmps29);(go_upto_region 3 with fail);generalize w.alloc (.cells #[.int .i64 2,.string t,.slice (some ⟨bp,op,none⟩) 3 cp,.int .i64 p] 24)=W at *;have U:=hid (uV fun m:Wd (Below W W)=>Ar d _ x m.wd (M.below m.ok).2.2.2.2 hx (by omega));have O:=hid (uV fun m:Wd (Below W W)=>Af d (lS d) _ y m.wd (J.below m.ok).2.2.2.2 h (by omega));have N:=hid (uV fun m:Wd (Below W W)=>D _ b m.wd 0 (I.below m.ok).2.2.2.2 hb (by omega) (by omega));obtain⟨k0,k1,k2,k3⟩:=Ao M;obtain⟨b0,b1,b2,b3⟩:=Ao J;obtain⟨r0,r1,r2,r3⟩:=Ao I;obtain⟨n0,n1,n2,n3⟩:=GL hN;generalize tx (fA (ac d) x)=X at *;generalize tx (ez (af d) y)=Y at *;generalize tx ((ac d).block b 0)=Z at *;clear M J I D hx h hb hN;refine cQ W ?_;repeat(go_big_quiet_step (first
  |(go_at_call 56;rename_i m;exact U.out m)
  |(go_at_call 38;rename_i m;exact O.out m)
  |(go_at_call 39;rename_i m;exact N.out m)))
 refine jS ?_;intro m;(go_wp2_with fail);go_ret;exact⟨by rw[HR.out];rfl,a8 hB m.ok⟩
theorem OH(d:Nat):Ez d (fun n=>fc 4 [cC (aj d),(aj d).typ] (aG aO n)):=by
 intro v n w hv hn hM;obtain⟨t,x,y,p,rfl,O,N⟩:=Rx hn;have h:=hid (Rz d t x y p);rw[h.out]at hM;simp only[gD]at hM;obtain⟨A,cp,rfl,hC⟩:=hv.toC;simp only[Nd.kind_mk,Nd.text_mk,Nd.kids_mk,Nd.pos_mk]at *;obtain⟨hB,U⟩:=aH w #[.int .i64 4,.string t,.slice A 2 cp,.int .i64 p];obtain⟨bp,op,A1,c1,A2,c2,rfl,I,D⟩:=FR (aq.below hv hB);clear hv hC hn;(go_enter Tryz.func29,Tryz.ntmps29);(go_upto_region 16 with fail);generalize w.alloc (.cells #[.int .i64 4,.string t,.slice (some ⟨bp,op,none⟩) 2 cp,.int .i64 p] 24)=W at *;have M:=hid (uV fun m:Wd (Below W W)=>Ar d _ x m.wd (I.below m.ok).2.2.2.2 O (by omega));have J:=hid (uV fun m:Wd (Below W W)=>lS d _ y m.wd (D.below m.ok).2.2.2.2 N (by omega));obtain⟨k0,k1,k2,k3⟩:=Ao I;obtain⟨b0,b1,b2,b3⟩:=Ao D;obtain⟨n0,n1,n2,n3⟩:=GL U;generalize tx (fA (ac d) x)=X at *;generalize tx (af d y)=Y at *;clear I D O N U;refine cQ W ?_;repeat(go_big_quiet_step (first
  |(go_at_call 56;rename_i m;exact M.out m)
  |(go_at_call 37;rename_i m;exact J.out m)))
 refine jS ?_;intro m;(go_wp2_with fail);go_ret;exact⟨by rw[h.out];rfl,a8 hB m.ok⟩
theorem OI(d:Nat)(hd:d<=1000)(U:io d):Ez d (fun n=>decide (n.kind≠2)&&(decide (n.kind≠3)&&(decide (n.kind≠4)&&oU (aj d) n))):=by intro v n w hv D hM;simp only[gB,gC]at D;obtain⟨N,M,J,D⟩:=D;(have O:Hid (tx (eN (ac d) n)=tx (pc (ac d) n 0)):=by refine hid ?_;unfold eN;rw[gA N,gA M,gA J]);rw[O.out]at hM;obtain⟨t,a,b,p,rfl,-⟩:=Oo D;obtain⟨A,cp,rfl,hC⟩:=hv.toC;obtain⟨hB,h⟩:=aH w #[.int .i64 5,.string t,.slice A 2 cp,.int .i64 p];have HX:=hid (Ey d U _ _ _ 0 (aq.below hv hB) D (by omega) hM);generalize tx (pc (ac d) (.mk 5 t [a,b] p) 0)=X at *;simp only[Nd.kind_mk,Nd.text_mk,Nd.kids_mk,Nd.pos_mk]at *;clear hv hC D U h N M J;(go_enter Tryz.func29,Tryz.ntmps29);(go_wp2_with fail);refine HX.out.mono ?_;rintro e w3⟨rfl,I⟩;(go_wp2_with fail);go_ret;exact⟨by rw[O.out];rfl,a8 hB I⟩
theorem OJ(d:Nat):Ez d (fun n=>fc 3 [cC (aj d),dv (dv (aj d).typ (cK (aj d))) (ct (aj d))] (aG aO n)):=by
 intro v n w hv hn hM;obtain⟨t,x,y,p,rfl,hx,hy⟩:=Rw hn;have HR:=hid (RA d t x y p);rw[HR.out]at hM;simp only[gD]at hM;obtain⟨A,cp,rfl,hC⟩:=hv.toC;simp only[Nd.kind_mk,Nd.text_mk,Nd.kids_mk,Nd.pos_mk]at *;obtain⟨hB,hN⟩:=aH w #[.int .i64 3,.string t,.slice A 2 cp,.int .i64 p];obtain⟨bp,op,A1,c1,A2,c2,rfl,hp,hq⟩:=FR (aq.below hv hB);clear hv hC hn;(go_enter Tryz.func29,Tryz.ntmps29);(go_upto_region 5 with fail);generalize w.alloc (.cells #[.int .i64 3,.string t,.slice (some ⟨bp,op,none⟩) 2 cp,.int .i64 p] 24)=W at *;have J:=hid (uV fun m:Wd (Below W W)=>Ar d _ x m.wd (hp.below m.ok).2.2.2.2 hx (by omega));obtain⟨k0,k1,k2,k3⟩:=Ao hp;obtain⟨b0,b1,b2,b3⟩:=Ao hq;obtain⟨n0,n1,n2,n3⟩:=GL hN;generalize tx (fA (ac d) x)=X at *;clear hp hx hN;refine cQ W ?_;(repeat(go_big_quiet_step ((go_at_call 56;rename_i m;exact J.out m))));refine jS ?_;intro m;have b0:=b0 m;have b1:=b1 m;have b2:=b2 m;have b3:=b3 m;have n2:=n2 m;have hq:=hq.below m.ok;have hW:=a8 hB m.ok;clear k0 k1 k2 k3 n0 n1 n3 J;generalize m.wd=W2 at *;obtain⟨ge,gb⟩:=aH W2 #[.int .i64 y.kind,.string y.text,.slice A2 y.kids.length c2,.int .i64 y.pos];have D:=aq.below hq.2.2.2.2 ge;have gd:=a8 hW ge;by_cases O:y.kind=13
 ·rw[gE O]at HR hM;simp only[gD]at hM;have hS:cK (aj d) y=true:=by
   refine hy.resolve_right fun h=>?_;rw[gH]at h;rcases h with h|h
   ·have:=cR h;omega
   ·obtain⟨l,p,rfl,-⟩:=Ai h;exact absurd O (show ¬ (14:Int)=13 by decide)
  unfold cK at hS;simp only[gB]at hS;have HL:=hid (List.all_eq_true.1 hS.2.2);have gn:=wB (cS (ac d)) (OF _) y.kids;rw[O]at b0 ge gb D gd;have gm:=hid D;clear hq hS hy D O;(go_wp2_with fail);generalize W2.alloc (.cells #[.int .i64 13,.string y.text,.slice A2 y.kids.length c2,.int .i64 y.pos] 24)=w0 at *;go_loopg [3,5] y.kids.length (fun k u3 u5 wr=>∃i:Nat,i<=y.kids.length/\y.kids.length-i<=k/\u5=.int .i64 (i:Int)/\u3=.string ((⟨#[116,121,112,101,32]⟩:BA)++t++X++(⟨#[32]⟩:BA)++(⟨#[115,116,114,117,99,116,32,123,10]⟩:BA)++tx ((y.kids.take i).flatMap (cS (ac d))))/\Below w0 w0 wr)
  case atStart=>exact⟨0,gP _,by omega,rfl,by rw[qu,vu,FQ,pq],gG _ _⟩
  case round=>
   obtain⟨i,hi,O,rfl,rfl,I⟩:=hrel;have gp:=rB (cS (ac d)) y.kids i;obtain⟨x0,x1,x2,x3,-,-,-,-⟩:=ag (gb.bl I);by_cases ga:i<y.kids.length
   ·(have gg:(i:Int)<(y.kids.length:Int):=by omega);(have h0:(0:Int)<=(i:Int):=by omega);obtain⟨-,-,n2,-⟩:=GL (gb.bl I);obtain⟨b4,o4,A4,c4,gl,h4⟩:=eR (aq.below gm.out I) i ga;subst gl;have M:=hid (CJ (cS (ac d)) y.kids i ga);have U:=rB (cS (ac d)) y.kids (i+1);rw[M.out,gD]at U;have gi:=hid (OD (HL.out _ (jC ga)));generalize y.kids[i]=q1 at *;obtain⟨s,x,pp,rfl,hx⟩:=gi.out;have HX:=hid hx;have gh:=hid (OE d s x pp);rw[gh.out]at M U;simp only[gD]at U;obtain⟨bx,ox,A5,c5,rfl,N⟩:=eR h4.2.2.2.2 0 (by simp);simp only[Nd.kids_mk,jM,kE,jP]at N;have J:=hid (fun m:Wd (Below wr wr)=>lS d _ x m.wd (N.below m.ok).2.2.2.2 HX.out (by omega));obtain⟨k0,k1,k2,k3⟩:=Ao h4;obtain⟨b0,b1,b2,b3⟩:=Ao N;simp only[Nd.kind_mk,Nd.text_mk,Nd.kids_mk,Nd.pos_mk]at k0 k1 k2 k3;generalize tx ((y.kids.take i).flatMap (cS (ac d)))=S at *;generalize tx (af d x)=Y at *;clear gi hx gh h4 N;(go_wp2_with fail);refine cQ wr ?_;(repeat(go_big_quiet_step ((go_at_call 37;rename_i m;exact uV J.out m))));refine jS ?_;intro m;have yk:=m.ok;clear k0 k1 k2 k3 b0 b1 b2 b3 n2 x0 x1 x2 x3 J;(go_wp2_with fail);go_roundg (y.kids.length-(i+1))
    case measure=>omega
    case rel=>exact⟨i+1,by omega,d5 _,by go_num,by rw[M.out];simp only[aA],a8 I yk⟩
   ·(have gg:¬ (i:Int)<(y.kids.length:Int):=by omega);have M:=hid (show tx ((y.kids.take i).flatMap (cS (ac d)))=tx (y.kids.flatMap (cS (ac d)))by rw[jK (by omega)]);rw[<-M.out]at HR hM;generalize tx ((y.kids.take i).flatMap (cS (ac d)))=S at *;(go_wp2_with fail);go_ret;exact⟨by rw[HR.out];simp only[aA];rfl,a8 gd I⟩
 ·rw[gA O]at HR hM;(have hS:((aj d).typ y||ct (aj d) y)=true:=by refine hy.resolve_left fun h=>O ?_;unfold cK at h;rw[gB,gC]at h;exact h.1);(have ek:(y.kind != 13)=true:=by simpa using O);have HX:=hid (Ev d _ y _ D hS (by omega));generalize tx (fL (ac d) y)=Y at *;clear hq hS hy D O;(go_wp2_with fail);refine HX.out.mono ?_;rintro e w3⟨rfl,gj⟩;(go_wp2_with fail);go_ret;exact⟨by rw[HR.out];rfl,a8 gd gj⟩
theorem Lb(d:Nat)(hd:d<=1000)(J:io d)(I:nG d):Ez d (f8 (aj d)):=by
 intro v n w hv D hM;unfold f8 at D;split at D
 ·exact OG d hd I v n w hv D hM
 ·split at D
  ·exact OJ d v n w hv D hM
  ·split at D
   ·exact OH d v n w hv D hM
   ·exact OI d hd J v n w hv (by simp only[gB,gC];exact⟨by assumption,by assumption,by assumption,D⟩) hM
def uu(F:uR)(x:Nd):List It:=.gap 10::(eN F x++[.nl])
theorem FW(F:uR)(x:Nd):tx (uu F x)=(⟨#[10]⟩:BA)++tx (eN F x)++(⟨#[10]⟩:BA):=by unfold uu;rw[aC,bG,<-aA];rfl
theorem Tj(F:uR)(n:Nd):tx (lO F n)=(⟨#[112,97,99,107,97,103,101,32]⟩:BA)++n.text++(⟨#[10]⟩:BA)++tx (n.kids.flatMap (uu F)):=by show tx (iy ⟨#[112,97,99,107,97,103,101]⟩::bc::iN n.text::.nl::n.kids.flatMap (uu F))=_;rw[aC,aC bc,aC (iN n.text),aC .nl,py];simp only[<-aA];rfl
theorem Lc(d:Nat)(hd:d<=1000)(HE:io d)(gb:nG d):P5 12 (iT (aj d)) (lO (ac d)):=by
 intro v n w hv hn hM;unfold iT at hn;rw[gB,gB]at hn;have HL:=hid (List.all_eq_true.1 hn.2.2);have HR:=hid (Tj (ac d) n);rw[HR.out]at hM;simp only[gD]at hM;have gd:=wB (uu (ac d)) (fun x=>by rw[FW,gD];exact vA _ _) n.kids;obtain⟨A,cp,rfl,hC⟩:=hv.toC;have HV:=hid hv;obtain⟨hB,U⟩:=aH w (nv n A cp);clear hv hC hn;(go_enter Tryz.func12,Tryz.ntmps12);(go_wp2_with fail);generalize w.alloc (.cells (nv n A cp) 24)=w0 at *;go_loopg [3,4] n.kids.length (fun k u3 u4 wr=>∃i:Nat,i<=n.kids.length/\n.kids.length-i<=k/\u4=.int .i64 (i:Int)/\u3=.string ((⟨#[112,97,99,107,97,103,101,32]⟩:BA)++n.text++(⟨#[10]⟩:BA)++tx ((n.kids.take i).flatMap (uu (ac d))))/\Below w0 w0 wr)
 case atStart=>exact⟨0,gP _,by omega,rfl,by rw[qu,vu,FQ,pq],gG _ _⟩
 case round=>
  obtain⟨i,hi,hk,rfl,rfl,I⟩:=hrel;have ge:=rB (uu (ac d)) n.kids i;obtain⟨x0,x1,x2,x3,-,-,-,-⟩:=ag (U.bl I);by_cases J:i<n.kids.length
  ·(have N:(i:Int)<(n.kids.length:Int):=by omega);(have h0:(0:Int)<=(i:Int):=by omega);obtain⟨bp,op,A2,c2,h,hp⟩:=eR (aq.below HV.out (a8 hB I)) i J;subst h;have D:=hid (CJ (uu (ac d)) n.kids i J);have M:=rB (uu (ac d)) n.kids (i+1);rw[D.out,FW]at M;simp only[gD]at M;rw[FW]at D;have HX:=hid (HL.out _ (jC J));generalize n.kids[i]=x at *;have ga:=hid (Lb d hd HE gb _ x wr hp.2.2.2.2 HX.out (by omega));obtain⟨k0,k1,k2,k3,-⟩:=hp;generalize tx (eN (ac d) x)=X at *;generalize tx ((n.kids.take i).flatMap (uu (ac d)))=S at *;clear HX;(go_wp2_with fail);refine ga.out.mono ?_;rintro e w3⟨rfl,O⟩;clear k0 k1 k2 k3 x0 x1 x2 x3;(go_wp2_with fail);go_roundg (n.kids.length-(i+1))
   case measure=>omega
   case rel=>exact⟨i+1,by omega,d5 _,by go_num,by rw[D.out];simp only[aA],a8 I O⟩
  ·(have N:¬ (i:Int)<(n.kids.length:Int):=by omega);have D:=hid (show tx ((n.kids.take i).flatMap (uu (ac d)))=tx (n.kids.flatMap (uu (ac d)))by rw[jK (by omega)]);rw[<-D.out]at HR;generalize tx ((n.kids.take i).flatMap (uu (ac d)))=S at *;(go_wp2_with fail);go_ret;exact⟨by rw[HR.out];rfl,a8 hB I⟩
theorem CM:∀d,io d/\nG d/\Ak d
 |0=>⟨fun _ _ _ _ _ _ h=>(by cases h),fun _ _ _ _ _ h=>(by cases h),fun _ _ _ _ _ h=>(by cases h)⟩
 |d+1=>by obtain⟨I,J,D⟩:=CM d;exact⟨I9 d I J,FV d D,La d I J D⟩
theorem BQ(d:Nat)(hd:d<=1000):P5 12 (iT (aj d)) (lO (ac d)):=Lc d hd (CM d).1 (CM d).2.1
end
section
open Go.RowKit Go.Lib Go.Proofs
attribute [local go_sem ↓] Go.wp_at_zero Go.wp_at_succ
attribute [local go_sem] bu bv bw bz
theorem As{s:ByteArray}{n:Nd}(h:iW fG s=.tree n):lW 200 n/\de n=true/\iT (aj 100) n=true/\(tx (lO (ac 100) n)).size<=10000000000000000:=by
 obtain⟨L,M,N,-,-,I,D⟩:=FE h;have h1:=I.cnt;have O:=(nr (nV M)).2.1;have J:Au 100 n:=Fe 100 n (.inr I.ok) (by omega);(have hd:lW 100 n:=by refine oV J ?_;have:=D;unfold de at this;rw[gB,gC]at this;exact this.1);have key:∀(k:Nat),lW (100+k) n:=by
  intro k;induction k with
  |zero=>exact hd
  |succ k ih=>exact ih.succ
 refine⟨key 100,D,?_,?_⟩
 ·have:=D;unfold de at this;rw[gB,gB]at this;exact this.2.2
 ·have h2:=N8 100 n hd;have U:(tx (lO (ac 100) n)).size<=_:=SY (by decide) n;omega
theorem Le(A:Option Addr)(c:Nat)(s:ByteArray)(w:World)(J:fo w A c s)(hT:mH w):
  Calls Tryz.prog 7 #[.slice A s.size c] w fun e w'=>e=.returned (.bool true)/\Below w w w':=by
 by_cases hz:2000<s.size
 ·(have g6:(s.size:Int)>2000:=by omega);clear hT J;(go_enter Tryz.func7,Tryz.ntmps7);(go_wp2_with fail);go_ret;exact⟨rfl,gG _ _⟩
 (have g6:¬ (s.size:Int)>2000:=by omega);have g5:=hid (Sn w hT);have HX:=yy A c s w J hT (by omega);have HG:=hid (fun(A':Option Addr)(c':Nat)W(t:ByteArray)(hb:Below w w W)(g7:fo W A' c' t)(ht:t.size<=65536)=>yy A' c' t W g7 (hT.below hb) (by omega));clear hT J;cases hO:iW fG s with
 |out=>exact absurd hO (DX s)
 |bad p k=>(have hk:(k != 0)=true:=by rw[kU];exact SB hO);rw[hO]at HX;have HX:=hid HX;clear HG hO;(go_enter Tryz.func7,Tryz.ntmps7);(go_wp2_with fail);refine HX.out.mono ?_;rintro e w1⟨rfl,I⟩;have gk:=I.alloc I.size (.cells bD 24);have gb:=hid (g5.out _ gk);clear HX I;unfold bD at gk gb |-;(go_wp2_with fail);refine gb.out.mono ?_;rintro e w2⟨rfl,D⟩;(go_wp2_with fail);go_ret;exact⟨rfl,a8 gk D⟩
 |tree n=>
  obtain⟨gq,hr,gp,gn⟩:=As hO;have hq:=hid gq;have HB:=hid (fun h:(tx (lO (ac 100) n)).size<=65536=>I3 hr h);have g1:=hid (fun v w'(J:bR w' v n)=>BQ 100 (by decide) v n w' J gp gn);have g0:=hid (fun v(m:Nd)w'(J:bR w' v m)(h:cA m n)(hf:iT (aj 100) m=true)=>BQ 100 (by decide) v m w' J hf (by rw[h.fil];exact gn));have ho:=hid (fun(m:Nd)(h:cA m n)=>jH tx (h.fil 100));have gz:=hid (fun(t:ByteArray)(m:Nd)(h:iW fG t=.tree m)=>As h);have HB:Hid ((tx (lO (ac 100) n)).size<=65536->∃m,iW fG (tx (lO (ac 100) n))=.tree m/\cA m n):=HB;rw[hO]at HX;have HX:=hid HX;clear hO gq hr gp;generalize tx (lO (ac 100) n)=T at *;(go_enter Tryz.func7,Tryz.ntmps7);(go_wp2_with fail);refine HX.out.mono ?_;rintro e w1⟨v,rfl,J,I⟩;obtain⟨A1,c1,rfl,hC⟩:=J.toC;have gl:=(aH w1 (nv n A1 c1)).1;have gj:=(aH w1 (nv n A1 c1)).2;have hm:=a8 I gl;have gd:=J.wide.below gl;have HP:=hid (g1.out _ _ gd);have gy:=hid gd;obtain⟨x0,x1,x2,x3,-,-,-,-⟩:=ag gj;clear J hC gl gd HX I g1;(go_wp2_with fail);refine HP.out.mono ?_;rintro e w2⟨rfl,D⟩;have gv:=a8 hm D;clear HP x0 x1 x2 x3;by_cases ht:65536<T.size
  ·(have g8:(T.size:Int)>65536:=by omega);(go_wp2_with fail);go_ret;exact⟨rfl,gv⟩
  ·(have g8:¬ (T.size:Int)>65536:=by omega);obtain⟨m,hQ,gg⟩:=HB.out (by omega);obtain⟨mdl,-,mft,-⟩:=gz.out T m hQ;have g4:=hid gg;have g3:=hid mdl;have hn:=hid mft;have gs:=gj.bl D;have gx:=hid (gy.out.below D);obtain⟨W3,A3,c3,g9,gm,ga,hp⟩:=IG w2 T;have gu:=a8 gv ga;have U:=HG.out A3 c3 W3 T gu gm (by omega);rw[hQ]at U;have U:=hid U;have gi:=gs.bl ga;have gw:=hid (gx.out.below ga);have HT:=hid (ho.out m gg);clear HB gz hQ gg mdl mft gj gs gy gx D gm HG ga;(go_wp2_with fail);refine U.out.mono ?_;rintro e w4⟨u,rfl,hu,M⟩;obtain⟨A4,c4,rfl,hC⟩:=hu.toC;have N:=(aH w4 (nv m A4 c4)).1;have gr:=(aH w4 (nv m A4 c4)).2;have hl:=a8 gu M;have hj:=a8 hl N;have hh:=(gi.bl M).below N (gi.bl M).lt;have ge:=hu.wide.below N;have HU:=hid ge;have g2:=hid (Ld 200 _ _ m n _ (by decide) ge ((gw.out.below M).below N) g4.out g3.out);obtain⟨x0,x1,x2,x3,-,-,-,-⟩:=ag hh;obtain⟨y0,y1,y2,y3,-,-,-,-⟩:=ag gr;clear g9 U M N hu hC ge gi gw g3;(go_wp2_with fail);refine g2.out.mono ?_;rintro e w5⟨rfl,gh⟩;have hi:=a8 hj gh;have O:=g0.out _ m _ (HU.out.below gh) g4.out hn.out;rw[HT.out]at O;have O:=hid O;have hg:=gr.bl gh;clear x0 x1 x2 x3 y0 y1 y2 y3 g2 g0;obtain⟨y0,y1,y2,y3,-,-,-,-⟩:=ag hg;(go_wp2_with fail);refine O.out.mono ?_;rintro e w6⟨rfl,he⟩;have gt:=a8 hi he;have gb:=hid (g5.out _ gt);clear y0 y1 y2 y3 O;(go_wp2_with fail);refine gb.out.mono ?_;rintro e w7⟨rfl,ha⟩;(go_wp2_with fail);go_ret;exact⟨rfl,a8 gt ha⟩
end
end Go.Proofs.YtiebcdeafofgdaaGreatDoor
