/-
  Parts of the proof: Pxc Pxg Pse Uexpr4 Uexpr. By an AI agent.
-/
import Derived.Test.YtiebcdeafofgdaaGreatDoorJ46
import Derived.Test.YtiebcdeafofgdaaGreatDoorJ43
import Derived.Test.YtiebcdeafofgdaaGreatDoorJ13
import Derived.Test.YtiebcdeafofgdaaGreatDoorJ34
open Go.Proofs.Tryz
set_option maxRecDepth 100000
set_option maxHeartbeats 8000000
namespace Go.Proofs.YtiebcdeafofgdaaGreatDoor
section
open Go.RowKit Go.Lib Go.Proofs
attribute [local go_sem ↓] Go.wp_at_zero Go.wp_at_succ
theorem S6{d:Nat}{n:Nd}(h:cA 31 [cB (cB ah (du (aa d))) (cB (fl (aa d)) (fk (aa d))),cB ah (aa d).expr,cB (cB ah (fl (aa d))) (cB (fk (aa d)) (eU (aa d))),(aa d).block] n=true):
  ∃a c u b p,n=.mk 31 ⟨#[]⟩ [a,c,u,b] p/\(ah a=true\/NF d a)/\(ah c=true\/(aa d).expr c=true)/\(ah u=true\/NF d u)/\(aa d).block b=true:=by
 obtain⟨l,p,rfl,M⟩:=bV h;obtain⟨a,c,u,b,rfl,J,I,D,hb⟩:=Pi M;unfold cB at J I D;simp only[gI]at J I D;refine⟨a,c,u,b,p,rfl,?_,I,?_,hb⟩<;>unfold NF
 ·rcases J with(h|h)|h|h<;>simp[h]
 ·rcases D with(h|h)|h|h<;>simp[h]
theorem P6(l:List It):tx (bS 59::bu::l)=(⟨#[59,32]⟩:BA)++tx l:=by rw[aI,aI bu,<-az];rfl
theorem S7(F:CI)(a c u b:Nd)(p:Int)(deep:Nat)(head:Bool):tx (ch F (.mk 31 ⟨#[]⟩ [a,c,u,b] p) deep head) =
  (⟨#[102,111,114,32]⟩:BA)++(if a.kind=0/\u.kind=0 then(if c.kind=0 then(⟨#[]⟩:BA)else tx (F.expr c deep true)++(⟨#[32]⟩:BA))else(if a.kind=0 then(⟨#[]⟩:BA)else tx (ep F a deep true))++(⟨#[59,32]⟩:BA)++(if c.kind=0 then(⟨#[]⟩:BA)else tx (F.expr c deep true))++(⟨#[59,32]⟩:BA)++(if u.kind=0 then(⟨#[]⟩:BA)else tx (ep F u deep true)++(⟨#[32]⟩:BA)))++tx (F.block b deep):=by show tx (lJ ⟨#[102,111,114]⟩::bu::(sc F (.mk 31 ⟨#[]⟩ [a,c,u,b] p) deep++F.block b deep))=_;rw[aI,aI bu,bE,<-az,<-az];refine jM (· ++ tx (F.block b deep)) (jM ((⟨#[102,111,114,32]⟩:BA) ++ ·) ?_);unfold sc;by_cases J:a.kind=0<;>by_cases I:c.kind=0<;>by_cases D:u.kind=0<;>simp[J,I,D,bc,bE,P6,Nn,y6,az,mQ]
theorem NL(d:Nat)(HE:ie d)(ga:pj d):p6 d (fun n=>cA 31 [cB (cB ah (du (aa d))) (cB (fl (aa d)) (fk (aa d))),cB ah (aa d).expr,cB (cB ah (fl (aa d))) (cB (fk (aa d)) (eU (aa d))),(aa d).block] n=true) (ch (ao d)):=by
 intro v n w deep head hv hn hd hM;obtain⟨a,c,u,b,p,rfl,N,M,J,hb⟩:=S6 hn;have HR:=hid (S7 (ao d) a c u b p deep head);rw[HR.out]at hM;obtain⟨A,cp,rfl,hC⟩:=hv.toC;simp only[Nd.kind_mk,Nd.text_mk,Nd.kids_mk,Nd.pos_mk]at *;have hB:=(aj w #[.int .i64 31,.string ⟨#[]⟩,.slice A 4 cp,.int .i64 p]).1;have I:aF w (.agg #[.int .i64 31,.string ⟨#[]⟩,.slice A 4 cp,.int .i64 p]) (.mk 31 ⟨#[]⟩ [a,c,u,b] p):=hv;obtain⟨bp,op,A1,c1,rfl,hp⟩:=eV (af.below I hB) 0 (by simp);obtain⟨_,_,A2,c2,e,hq⟩:=eV (af.below I hB) 1 (by simp);injection e with e;injection e with e1 e2;subst e1 e2;obtain⟨_,_,A3,c3,e,hr⟩:=eV (af.below I hB) 2 (by simp);injection e with e;injection e with e1 e2;subst e1 e2;obtain⟨_,_,A4,c4,e,hs⟩:=eV (af.below I hB) 3 (by simp);injection e with e;injection e with e1 e2;subst e1 e2;simp only[Nd.kids_mk,gT,kL,jK,jD,qC,Nat.reduceMul]at hp hq hr hs;clear hv hC I hn;(go_enter func69,ntmps69);(go_upto_region 19 with fail);generalize w.alloc (.cells #[.int .i64 31,.string ⟨#[]⟩,.slice (some ⟨bp,op,none⟩) 4 cp,.int .i64 p] 24)=W at *;have HA:=hid (fun(w':World)(D:Below W W w')(h:a.kind≠0)(O:(tx (ep (ao d) a deep true)).size<=10000000000000000)=>Bv d HE _ a w' deep true (hp.below D).2.2.2.2 (ln N h) hd O);have HC:=hid (fun(w':World)(D:Below W W w')(h:c.kind≠0)(O:(tx ((ao d).expr c deep true)).size<=10000000000000000)=>HE _ c w' deep true (hq.below D).2.2.2.2 (ln M h) hd O);have HU:=hid (fun(w':World)(D:Below W W w')(h:u.kind≠0)(O:(tx (ep (ao d) u deep true)).size<=10000000000000000)=>Bv d HE _ u w' deep true (hr.below D).2.2.2.2 (ln J h) hd O);have HD:=hid (fun(w':World)(D:Below W W w')(O:(tx ((ao d).block b deep)).size<=10000000000000000)=>ga _ b w' deep (hs.below D).2.2.2.2 hb hd O);have HK:Hid (_/\_/\_/\_):=hid (⟨hp,hq,hr,hs⟩);generalize tx ((ao d).expr c deep true)=C at *;generalize tx ((ao d).block b deep)=B at *;generalize tx (ep (ao d) a deep true)=X at *;generalize tx (ep (ao d) u deep true)=U at *;have D:=gG W.heap.size W;clear hp hq hr hs N M J hb HE ga;by_cases N:a.kind=0<;>by_cases M:c.kind=0<;>by_cases J:u.kind=0;all_goals
  simp only[N,M,J,and_self,vD,and_false,kW,kI,pi,mQ,gD]at HR hM;obtain⟨⟨a0,a1,a2,a3,-⟩,⟨q0,q1,q2,q3,-⟩,⟨u0,u1,u2,u3,-⟩,⟨s0,s1,s2,s3,-⟩⟩:=HK.out;(first|rw[N]at a0|have za:(a.kind != 0)=true:=by simpa using N);(first|rw[M]at q0|have zc:(c.kind != 0)=true:=by simpa using M);(first|rw[J]at u0|have zu:(u.kind != 0)=true:=by simpa using J);go_wp2_with fail;repeat
   (first
    |(with_reducible refine(HA.out _ D N (by omega)).mono ?_)
    |(with_reducible refine(HC.out _ D M (by omega)).mono ?_)
    |(with_reducible refine(HU.out _ D J (by omega)).mono ?_)
    |(with_reducible refine(HD.out _ D (by omega)).mono ?_))
   rintro e w3⟨rfl,gb⟩
   have D:=aD D gb
   clear a0 a1 a2 a3 q0 q1 q2 q3 u0 u1 u2 u3 s0 s1 s2 s3
   obtain⟨⟨a0,a1,a2,a3,-⟩,⟨q0,q1,q2,q3,-⟩,⟨u0,u1,u2,u3,-⟩,⟨s0,s1,s2,s3,-⟩⟩:=show _/\_/\_/\_ from⟨HK.out.1.below D,HK.out.2.1.below D,HK.out.2.2.1.below D,HK.out.2.2.2.below D⟩
   (try rw[N]at a0)
   (try rw[M]at q0)
   (try rw[J]at u0)
   go_wp2_with fail
  go_ret;exact⟨by rw[HR.out];simp only[az];rfl,aD hB D⟩
theorem Ir(d:Nat)(N:ie d)(M:pj d)(O:wR d):wR (d+1):=by
 intro v n w deep hv D hd J;(have I:deep+d<=1000:=by omega);have D:aB (aa d) n=true:=D;have J:(tx (ch (ao d) n deep false)).size<=10000000000000000:=J;show Calls prog 69 _ _ fun e w'=>e=.returned (.string (tx (ch (ao d) n deep false)))/\Below w w w';(have sim:NF d n->26<=n.kind/\n.kind<=29->Calls prog 69 #[v,(deep:Int),.bool false] w fun e w'=>e=.returned (.string (tx (ch (ao d) n deep false)))/\Below w w w':=by intro h hk;rw[n7 _ hk]at J |-;exact Bv d N v n w deep false hv h I J);unfold aB at D;by_cases h:n.kind=5
 ·rw[gF h]at D;exact NG d N v n w deep false hv ⟨h,D⟩ I J
 rw[d5 h]at D;by_cases h:n.kind=26
 ·rw[gF h]at D;exact sim (.inl D) (by omega)
 rw[d5 h]at D;by_cases h:n.kind=27
 ·rw[gF h]at D;exact sim (.inr (.inl D)) (by omega)
 rw[d5 h]at D;by_cases h:n.kind=28
 ·rw[gF h]at D;exact sim (.inr (.inr (.inl D))) (by omega)
 rw[d5 h]at D;by_cases h:n.kind=29
 ·rw[gF h]at D;exact sim (.inr (.inr (.inr D))) (by omega)
 rw[d5 h]at D;by_cases h:n.kind=30
 ·rw[gF h]at D;exact P2 d N M O v n w deep false hv D I J
 rw[d5 h]at D;by_cases h:n.kind=31
 ·rw[gF h]at D;exact NL d N M v n w deep false hv D I J
 rw[d5 h]at D;by_cases h:n.kind=32
 ·rw[gF h]at D;exact P5 d N M v n w deep false hv D I J
 rw[d5 h]at D;by_cases h:n.kind=33
 ·rw[gF h]at D;exact P3 d N v n w deep false hv D I J
 rw[d5 h]at D;by_cases h:n.kind=34\/n.kind=35
 ·exact P4 d v n w deep false hv h I J
 rw[d5 h]at D;exact NH d O v n w deep false hv D hd J
theorem FV:∀d,ie d/\pj d/\wR d
 |0=>⟨fun _ _ _ _ _ _ h=>(by cases h),fun _ _ _ _ _ h=>(by cases h),fun _ _ _ _ _ h=>(by cases h)⟩
 |d+1=>by obtain⟨I,J,D⟩:=FV d;exact⟨Iq d I J,EH d D,Ir d I J D⟩
def P7(d:Nat):Prop:=∀(v:Value)(n:Nd)(w:World),aF w v n->(aa d).expr n=true->(tx (bh d n)).size<=10000000000000000 ->
 Calls prog 18 #[v] w fun e w'=>e=.returned (.string (tx (bh d n)))/\Below w w w'
def P8(d:Nat)(P:Int->Prop):Prop:=∀(v:Value)(n:Nd)(w:World),aF w v n->aA (aa d) n=true->P n.kind->(tx (bh (d+1) n)).size<=10000000000000000 ->
 Calls prog 18 #[v] w fun e w'=>e=.returned (.string (tx (bh (d+1) n)))/\Below w w w'
theorem Do(z:List It):tx (my z)=(⟨#[40]⟩:BA)++tx z++(⟨#[41]⟩:BA):=by unfold my;rw[aI,bE,sx,sx,az]
theorem Tz(d:Nat)(t:ByteArray)(x:Nd)(p:Int):tx (bh (d+1) (.mk 19 t [x] p))=t++(⟨#[40]⟩:BA)++tx (bh d x)++(⟨#[41]⟩:BA):=by show tx (iV t::my (bh d x))=_;rw[aI,Di,Do,az,az,az]
theorem TA(d:Nat)(t:ByteArray)(x y:Nd)(p:Int):tx (bh (d+1) (.mk 20 t [x,y] p))=(⟨#[40]⟩:BA)++tx (bh d x)++(⟨#[41]⟩:BA)++t++(⟨#[10,40]⟩:BA)++tx (bh d y)++(⟨#[41]⟩:BA):=by show tx (my (bh d x)++(iV t::.gap 10::my (bh d y)))=_;rw[bE,aI,Di,aI (.gap 10),SL,Do,Do,show(⟨#[10,40]⟩:BA)=(⟨#[10]⟩:BA)++(⟨#[40]⟩:BA)from rfl];simp only[az]
theorem TB(d:Nat)(t:ByteArray)(x:Nd)(p:Int):tx (bh (d+1) (.mk 23 t [x] p))=(⟨#[40]⟩:BA)++tx (bh d x)++(⟨#[41,46]⟩:BA)++t:=by show tx (my (bh d x)++[bS 46,mK t])=_;rw[bE,aI,sx,wL,Do,show(⟨#[41,46]⟩:BA)=(⟨#[41]⟩:BA)++(⟨#[46]⟩:BA)from rfl];simp only[az]
theorem TC(d:Nat)(f:Nd)(l:List Nd)(p:Int):tx (bh (d+1) (.mk 21 ⟨#[]⟩ (f::l) p))=(⟨#[40]⟩:BA)++tx (bh d f)++(⟨#[41,40]⟩:BA)++tx (l.flatMap fun x=>bh d x++[bS 44,.gap 10])++(⟨#[41]⟩:BA):=by show tx (my (bh d f)++(bS 40::(y5 (l.map (bh d))++[bS 41])))=_;rw[bE,aI,bE,sx,sx,Do,show(⟨#[41,40]⟩:BA)=(⟨#[41]⟩:BA)++(⟨#[40]⟩:BA)from rfl,show y5 (l.map (bh d))=l.flatMap fun x=>bh d x++[bS 44,.gap 10]by unfold y5;rw[List.flatMap_map]];simp only[az]
theorem NM(d:Nat)(I:ie (d+1))(hd:d+1<=1000):P8 d (fun k=>k≠19/\k≠20/\k≠21/\k≠23):=by intro v n w hv hn hk hM;(have hE:bh (d+1) n=(ao (d+1)).expr n 0 false:=by unfold bh;rw[d5 hk.1,d5 hk.2.1,d5 hk.2.2.1,d5 hk.2.2.2]);rw[hE]at hM |-;obtain⟨A,cp,rfl,J⟩:=hv.toC;have hB:=(aj w #[n.kind,n.text,.slice A n.kids.length cp,n.pos]).1;have M:=hid (I _ n (w.alloc (.cells #[n.kind,n.text,.slice A n.kids.length cp,n.pos] 24)) 0 false (af.below hv hB) hn (by omega) hM);(have h:(n.kind==19)=false:=by rw[gC];exact hk.1);(have U:(n.kind==20)=false:=by rw[gC];exact hk.2.1);(have O:(n.kind==21)=false:=by rw[gC];exact hk.2.2.1);(have N:(n.kind==23)=false:=by rw[gC];exact hk.2.2.2);generalize tx ((ao (d+1)).expr n 0 false)=X at *;clear hv hn hk hM hE J I;(go_enter func18,ntmps18);go_wp2_with fail;refine M.out.mono ?_;rintro e w2⟨rfl,D⟩;go_wp2_with fail;go_ret;exact⟨rfl,aD hB D⟩
theorem S8(d:Nat)(HL:P7 d):P8 d (fun k=>k=19\/k=23):=by
 intro v n w hv hn hk hM;obtain⟨k,t,l,p⟩:=n;have U:∃x,l=[x]/\(aa d).expr x=true:=by
  unfold aA at hn;rcases hk with h|h
  ·obtain rfl:k=19:=h;obtain⟨t',l',p',e,-,h0⟩:=aN (k:=19) (by decide) hn;injection e with _ _ e _;subst e;exact d8 h0
  ·obtain rfl:k=23:=h;obtain⟨t',l',p',e,-,h0⟩:=aN (k:=23) (by decide) hn;injection e with _ _ e _;subst e;exact d8 h0
 obtain⟨x,rfl,U⟩:=U;obtain⟨A,cp,rfl,hC⟩:=hv.toC;simp only[Nd.kind_mk,Nd.text_mk,Nd.kids_mk,Nd.pos_mk,gS,qa,kS]at *;have hB:=(aj w #[.int .i64 k,.string t,.slice A 1 cp,.int .i64 p]).1;have M:aF w (.agg #[.int .i64 k,.string t,.slice A 1 cp,.int .i64 p]) (.mk k t [x] p):=hv;obtain⟨bp,op,A2,c2,rfl,J⟩:=eV (af.below M hB) 0 (by simp);simp only[Nd.kids_mk,gT,jK,jD]at J;have O:=(aj w #[.int .i64 k,.string t,.slice (some ⟨bp,op,none⟩) 1 cp,.int .i64 p]).2;have D:=hid (fun w'(h:Below (w.alloc (.cells #[.int .i64 k,.string t,.slice (some ⟨bp,op,none⟩) 1 cp,.int .i64 p] 24)).heap.size (w.alloc (.cells #[.int .i64 k,.string t,.slice (some ⟨bp,op,none⟩) 1 cp,.int .i64 p] 24)) w')(hs:(tx (bh d x)).size<=10000000000000000)=>HL _ x w' (af.below J.2.2.2.2 h) U hs);clear hv hC M hn;rcases hk with h|h
 ·subst h;have N:=hid (Tz d t x p);rw[N.out,gD,gD,gD]at hM;(go_enter func18,ntmps18);(go_upto_region 3 with fail);generalize w.alloc (.cells #[.int .i64 19,.string t,.slice (some ⟨bp,op,none⟩) 1 cp,.int .i64 p] 24)=W at *;have HX:=hid (fun m:Wd (Below W W)=>D.out m.wd m.ok (by omega));obtain⟨-,n1,n2,-⟩:=IG O;obtain⟨p0,p1,p2,p3⟩:=Dw J;generalize tx (bh d x)=X at *;clear J O D;refine cT W ?_;(repeat(go_big_quiet_step ((go_at_call 18;rename_i m;with_reducible exact yr HX.out m))));refine jY ?_;intro m;have I:=aD hB m.ok;go_wp2_with fail;go_ret;exact⟨by rw[N.out];rfl,I⟩
 ·subst h;have N:=hid (TB d t x p);rw[N.out,gD,gD,gD]at hM;(go_enter func18,ntmps18);(go_upto_region 14 with fail);generalize w.alloc (.cells #[.int .i64 23,.string t,.slice (some ⟨bp,op,none⟩) 1 cp,.int .i64 p] 24)=W at *;have HX:=hid (fun m:Wd (Below W W)=>D.out m.wd m.ok (by omega));obtain⟨-,n1,n2,-⟩:=IG O;obtain⟨p0,p1,p2,p3⟩:=Dw J;generalize tx (bh d x)=X at *;clear J O D;refine cT W ?_;(repeat(go_big_quiet_step ((go_at_call 18;rename_i m;with_reducible exact yr HX.out m))));refine jY ?_;intro m;have I:=aD hB m.ok;go_wp2_with fail;go_ret;exact⟨by rw[N.out];rfl,I⟩
theorem P9(d:Nat)(h:P7 d):P8 d (fun k=>k=20):=by
 intro v n w hv hn hk hM;obtain⟨k,t,l,p⟩:=n;obtain rfl:k=20:=hk;(have M:∃x y,l=[x,y]/\(aa d).expr x=true/\(aa d).expr y=true:=by unfold aA at hn;obtain⟨t',l',p',e,-,h0⟩:=aN (k:=20) (by decide) hn;injection e with _ _ e _;subst e;exact ll h0);obtain⟨x,y,rfl,hx,hy⟩:=M;have HR:=hid (TA d t x y p);rw[HR.out,gD,gD,gD,gD,gD,gD]at hM;obtain⟨A,cp,rfl,hC⟩:=hv.toC;simp only[Nd.kind_mk,Nd.text_mk,Nd.kids_mk,Nd.pos_mk,gS,qa,kS]at *;have hB:=(aj w #[.int .i64 20,.string t,.slice A 2 cp,.int .i64 p]).1;have J:aF w (.agg #[.int .i64 20,.string t,.slice A 2 cp,.int .i64 p]) (.mk 20 t [x,y] p):=hv;have hN:=(aj w #[.int .i64 20,.string t,.slice A 2 cp,.int .i64 p]).2;obtain⟨bp,op,A2,c2,A3,c3,rfl,O,N⟩:=Il (af.below J hB);clear hv hC J hn;(go_enter func18,ntmps18);(go_upto_region 5 with fail);generalize w.alloc (.cells #[.int .i64 20,.string t,.slice (some ⟨bp,op,none⟩) 2 cp,.int .i64 p] 24)=W at *;have I:=O.2.2.2.2;have D:=N.2.2.2.2;have HX:=hid (fun m:Wd (Below W W)=>h _ x m.wd (af.below I m.ok) hx (by omega));have HY:=hid (fun m:Wd (Below W W)=>h _ y m.wd (af.below D m.ok) hy (by omega));obtain⟨-,n1,n2,-⟩:=IG hN;obtain⟨p0,p1,p2,p3⟩:=Dw O;obtain⟨q0,q1,q2,q3⟩:=Dw N;generalize tx (bh d x)=X at *;generalize tx (bh d y)=Y at *;clear O N I D hN hx hy h;refine cT W ?_;repeat(go_big_quiet_step (first
  |(go_at_call 18;rename_i m;with_reducible exact yr HX.out m)
  |(go_at_call 18;rename_i m;with_reducible exact yr HY.out m)))
 refine jY ?_;intro m;have U:=aD hB m.ok;go_wp2_with fail;go_ret;exact⟨by rw[HR.out];rfl,U⟩
theorem NN(d:Nat)(HL:P7 d):P8 d (fun k=>k=21):=by
 intro v n w hv hn hk hM;obtain⟨k,t,l,p⟩:=n;obtain rfl:k=21:=hk;(have hn:(decide (t=(⟨#[]⟩:BA))&&(decide (0<l.length)&&l.all (aa d).expr))=true:=by unfold aA at hn;exact hn);rw[gB,gB,gE,gE]at hn;obtain⟨rfl,hl,D⟩:=hn;cases l with
 |nil=>exact absurd hl (by show ¬ 0<0;omega)
 |cons f r=>
 rw[kz,gB]at D;have gm:=D.1;have yk:=hid (List.all_eq_true.1 D.2);have HR:=hid (TC d f r p);rw[HR.out,gD,gD,gD,gD]at hM;obtain⟨A,cp,rfl,hC⟩:=hv.toC;simp only[Nd.kind_mk,Nd.text_mk,Nd.kids_mk,Nd.pos_mk,gS]at *;have hB:=(aj w #[.int .i64 21,.string ⟨#[]⟩,.slice A (r.length+1) cp,.int .i64 p]).1;have gi:aF w (.agg #[.int .i64 21,.string ⟨#[]⟩,.slice A (r.length+1) cp,.int .i64 p]) (.mk 21 ⟨#[]⟩ (f::r) p):=hv;have hN:=(aj w #[.int .i64 21,.string ⟨#[]⟩,.slice A (r.length+1) cp,.int .i64 p]).2;have gj:=hid (af.below gi hB);obtain⟨bp,op,A2,c2,hA,hp⟩:=eV gj.out 0 (by simp);subst hA;simp only[Nd.kids_mk,gT,jK,jD]at hp;(have gs:(0:Int)<(r.length:Int)+1:=by omega);clear hv hC gi D hl;(go_enter func18,ntmps18);(go_upto_region 7 with fail);generalize w.alloc (.cells #[.int .i64 21,.string ⟨#[]⟩,.slice (some ⟨bp,op,none⟩) (r.length+1) cp,.int .i64 p] 24)=W at *;have HV:=gj;have HN:=hid hN;have HX:=hid (HL _ f W hp.2.2.2.2 gm (by omega));obtain⟨p0,p1,p2,p3,-⟩:=hp;obtain⟨n0,h,U,O,-,-,-,-⟩:=ab hN;generalize tx (bh d f)=X at *;go_wp2_with fail;refine HX.out.mono ?_;rintro e W1⟨rfl,J⟩;have gh:=aD hB J;have ge:=hN.bl J;clear n0 h U O p0 p1 p2 p3 HX hN;obtain⟨n0,h,U,O,-,-,-,-⟩:=ab ge;go_wp2_with fail;have HM:=hid hM;(have gq:r.length<=10000000000000000:=by have:=Bt (fun x=>bh d x++[bS 44,.gap 10]) (fun x=>by rw[bE,gD];exact Nat.le_add_left _ _) r;omega);(have hZ:(((⟨#[40]⟩:BA)++X++(⟨#[41,40]⟩:BA):ByteArray)).size<=X.size+3:=by rw[gD,gD];show 1+X.size+2<=_;omega);generalize hSS:((⟨#[40]⟩:BA)++X++(⟨#[41,40]⟩:BA):ByteArray)=S0 at *;clear n0 h U O ge;go_loopg [3,4] r.length (fun g u3 u4 wr=>∃i:Nat,i<=r.length/\r.length-i<=g/\u4=.int .i64 ((i+1:Nat):Int)/\u3=.string (S0++tx ((r.take i).flatMap fun x=>bh d x++[bS 44,.gap 10]))/\Below w w wr/\Below W W wr)
 case atStart=>exact⟨0,gP _,by omega,rfl,by rw[qL,List.flatMap_nil,Nn,pi],gh,J⟩
 case round=>
  obtain⟨i,hi,hg,rfl,rfl,gg,M⟩:=hrel;have gp:=uc (fun x=>bh d x++[bS 44,.gap 10]) r i;obtain⟨n0,h,U,O,-,-,-,-⟩:=ab (HN.out.bl M);by_cases gb:i<r.length
  ·(have ga:((i+1:Nat):Int)<(r.length:Int)+1:=by omega);(have h0:(0:Int)<=((i+1:Nat):Int):=by omega);obtain⟨bq,oq,A3,c3,I,hq⟩:=eV (af.below HV.out M) (i+1) (by simp;omega);injection I with I;injection I with I hA1 _;subst I hA1;simp only[Nd.kids_mk,kL]at hq;have N:=hid (FQ (fun x=>bh d x++[bS 44,.gap 10]) r i gb);have gl:=uc (fun x=>bh d x++[bS 44,.gap 10]) r (i+1);rw[N.out,gD,bE,gD]at gl;have HX:=hid (yk.out _ (gX gb));(have gn:Hid (tx ((r.take (i+1)).flatMap fun x=>bh d x++[bS 44,.gap 10])=tx ((r.take i).flatMap fun x=>bh d x++[bS 44,.gap 10])++(tx (bh d r[i])++(⟨#[44,10]⟩:BA))):=by refine hid ?_;rw[N.out,bE];rfl);clear N;generalize r[i]=x at *;have gh:Below wr wr (wr.alloc (.cells #[x.kind,x.text,.slice A3 x.kids.length c3,x.pos] 24)):=(gG _ wr).alloc (gA _) _;have gr:=HM.out;have HC:=hid (HL _ x wr hq.2.2.2.2 HX.out (by omega));obtain⟨q0,q1,q2,q3,-⟩:=hq;generalize tx ((r.take i).flatMap fun x=>bh d x++[bS 44,.gap 10])=S at *;generalize tx (bh d x)=Y at *;go_wp2_with fail;refine HC.out.mono ?_;rintro e w3⟨rfl,gd⟩;clear q0 q1 q2 q3 n0 h U O;go_wp2_with fail;go_roundg (r.length-(i+1))
   case measure=>omega
   case rel=>exact⟨i+1,by omega,gA _,by go_num,by rw[gn.out];simp only[az],aD gg gd,aD M gd⟩
  ·(have ga:¬ ((i+1:Nat):Int)<(r.length:Int)+1:=by omega);have he:r.take i=r:=jA (by omega);rw[he];go_wp2_with fail;go_ret;refine⟨?_,gg⟩;rw[HR.out,<-hSS];rfl
theorem FW:∀d,d<=1000->P7 d
 |0,_=>fun _ _ _ _ h=>by cases h
 |d+1,hd=>by
  have ih:=FW d (by omega);intro v n w hv hn hM;by_cases h:n.kind=19\/n.kind=23
  ·exact S8 d ih v n w hv hn h hM
  by_cases I:n.kind=20
  ·exact P9 d ih v n w hv hn I hM
  by_cases D:n.kind=21
  ·exact NN d ih v n w hv hn D hM
  exact NM d (FV (d+1)).1 hd v n w hv hn ⟨fun e=>h (.inl e),I,D,fun e=>h (.inr e)⟩ hM
theorem tM(k:Int)(f g:Nd->Bool)(so:ByteArray->Bool)(l:List Nd){t:ByteArray}{p:Int}:cA k [f,g] (au so (.mk k t l p))=(pk f g l&&so t):=by
 rw[show au so (.mk k t l p)=if so t=true then .mk k ⟨#[]⟩ l p else .mk 37 ⟨#[]⟩ [] 0 from rfl];by_cases hs:so t=true
 ·rw[gF hs,pl];simp[hs]
 ·rw[d5 hs,pl];rw[qW]at hs;simp[hs,pk]
theorem FX(f:Nd->Bool)(l:List Nd):pk f f l=(decide (l.length=2)&&l.all f):=by rcases l with _|⟨x,_|⟨y,_|⟨z,l⟩⟩⟩<;>simp[pk]
theorem NY(d:Nat)(C:lN d)(nt:ByteArray)(nl:List Nd)(np:Int)(A:Option Addr)(cp:Nat)(w:World)(hv:aF w (.agg #[.int .i64 20,nt,.slice A nl.length cp,np]) (.mk 20 nt nl np))(hd:dK (d+1) (.mk 20 nt nl np)):
  Calls prog 26 #[.agg #[.int .i64 20,nt,.slice A nl.length cp,np]] w fun e w'=>e=.returned (.bool (aA (aa d) (.mk 20 nt nl np)))/\Below w w w':=by
 have HV:=hid hv;have HD:=hid hd;have M:=hd.1.1;have HT:=hid C.typ;have HE:=hid C.expr;have I:=hid (oy d C.expr);have hB:=(aj w #[.int .i64 20,nt,.slice A nl.length cp,np]).1;have gd:=(aj w #[.int .i64 20,nt,.slice A nl.length cp,np]).2;clear hv hd C;generalize aa d=F at *;simp only[Nd.kids_mk]at M;have HR:=hid (show aA F (.mk 20 nt nl np)=(pk F.expr F.expr nl&&cU nt)by(have h:aA F (.mk 20 nt nl np)=cA 20 [F.expr,F.expr] (au cU (.mk 20 nt nl np)):=by simp[aA]);rw[h,tM]);have O:=FX F.expr nl;have I:=hid (I.out A cp nl _ (af.kidsV (af.below HV.out hB)) (fun n D=>HD.out.kid D) M);cases J:cU nt with
 |false=>have HX:Hid (aA F (.mk 20 nt nl np)=false):=hid (by rw[HR.out,J,jU]);(have D:∀x∈dr,¬ nt=x:=by intro x N e;rw[rt,List.any_eq_false]at J;exact J x N (by simpa using e));have e0:=bm (D ⟨#[43]⟩ (by simp[dr]));have e1:=bm (D ⟨#[45]⟩ (by simp[dr]));have e2:=bm (D ⟨#[42]⟩ (by simp[dr]));have e3:=bm (D ⟨#[47]⟩ (by simp[dr]));have e4:=bm (D ⟨#[37]⟩ (by simp[dr]));have e5:=bm (D ⟨#[61,61]⟩ (by simp[dr]));have e6:=bm (D ⟨#[33,61]⟩ (by simp[dr]));have e7:=bm (D ⟨#[60]⟩ (by simp[dr]));have e8:=bm (D ⟨#[60,61]⟩ (by simp[dr]));have e9:=bm (D ⟨#[62]⟩ (by simp[dr]));have gh:=bm (D ⟨#[62,61]⟩ (by simp[dr]));have gg:=bm (D ⟨#[38,38]⟩ (by simp[dr]));have ge:=bm (D ⟨#[124,124]⟩ (by simp[dr]));clear D J HR O I;(go_enter func26,ntmps26);go_wp2_with fail;go_ret;exact⟨by rw[HX.out];rfl,hB⟩
 |true=>
  have HX:=hid (show aA F (.mk 20 nt nl np)=(decide (nl.length=2)&&nl.all F.expr)by rw[HR.out,J,vk,O]);(have D:∃x∈dr,nt=x:=by rw[rt,qV]at J;obtain⟨x,N,e⟩:=J;exact⟨x,N,by simpa using e⟩);clear J HR O;generalize nl.all F.expr=res at *;(have hc:∃q:Bool,((nl.length:Int)==2)=q/\decide (nl.length=2)=q:=by refine⟨_,rfl,?_⟩;rw[kQ];simp;omega);obtain⟨q,gb,U⟩:=hc;rw[U]at HX;generalize nl.length=m at *;clear U;obtain⟨x,N,rfl⟩:=D;simp only[dr,qS,qJ,vE]at N;cases q
  ·rcases N with rfl|rfl|rfl|rfl|rfl|rfl|rfl|rfl|rfl|rfl|rfl|rfl|rfl;all_goals(go_enter func26,ntmps26);go_wp2_with fail;go_ret;exact⟨by rw[HX.out];rfl,hB⟩
  ·rcases N with rfl|rfl|rfl|rfl|rfl|rfl|rfl|rfl|rfl|rfl|rfl|rfl|rfl;all_goals(go_enter func26,ntmps26);go_wp2_with fail;refine(I.out).mono ?_;rintro e w1⟨rfl,ga⟩;go_wp2_with fail;go_ret;exact⟨by rw[HX.out,kK];rfl,aD hB ga⟩
theorem EK(F:cQ)(k:Int)(t:ByteArray)(l:List Nd)(p:Int)(h:∀j:Int,16<=j->j<=25->k≠j):aA F (.mk k t l p)=false:=by have gd:=h 16 (by decide) (by decide);have gb:=h 17 (by decide) (by decide);have ga:=h 18 (by decide) (by decide);have U:=h 19 (by decide) (by decide);have O:=h 20 (by decide) (by decide);have N:=h 21 (by decide) (by decide);have M:=h 22 (by decide) (by decide);have J:=h 23 (by decide) (by decide);have I:=h 24 (by decide) (by decide);have D:=h 25 (by decide) (by decide);(have e:aA F (.mk k t l p)=cA 25 [fw F,F.block] (.mk k t l p):=by simp[aA,gd,gb,ga,U,O,N,M,J,I]);rw[e,pl];simp[D]
theorem Af(d:Nat)(C:lN d)(v:Value)(n:Nd)(w:World)(D:aF w v n)(hd:dK (d+1) n):
  Calls prog 26 #[v] w fun e w'=>e=.returned (.bool (aA (aa d) n))/\Below w w w':=by
 obtain⟨A,cp,rfl,hC⟩:=D.toC;obtain⟨nk,nt,nl,np⟩:=n;simp only[Nd.kind_mk,Nd.text_mk,Nd.kids_mk,Nd.pos_mk]at *;by_cases gd:nk=16
 ·subst gd;exact NP d C nt nl np A cp w D hd
 by_cases gb:nk=17
 ·subst gb;exact NQ d C nt nl np A cp w D hd
 by_cases ga:nk=18
 ·subst ga;exact NR d C nt nl np A cp w D hd
 by_cases h:nk=19
 ·subst h;exact NS d C nt nl np A cp w D hd
 by_cases U:nk=20
 ·subst U;exact NY d C nt nl np A cp w D hd
 by_cases O:nk=21
 ·subst O;exact NU d C nt nl np A cp w D hd
 by_cases N:nk=22
 ·subst N;exact NX d C nt nl np A cp w D hd
 by_cases M:nk=23
 ·subst M;exact NT d C nt nl np A cp w D hd
 by_cases J:nk=24
 ·subst J;exact NW d C nt nl np A cp w D hd
 by_cases I:nk=25
 ·subst I;exact NV d C nt nl np A cp w D hd
 have HX:=hid (EK (aa d) nk nt nl np (fun j h1 h2 e=>by omega));have hB:=(aj w #[.int .i64 nk,.string nt,.slice A nl.length cp,.int .i64 np]).1;(have gp:(nk==16)=false:=by rw[gC];exact gd);(have gn:(nk==17)=false:=by rw[gC];exact gb);(have gm:(nk==18)=false:=by rw[gC];exact ga);(have gl:(nk==19)=false:=by rw[gC];exact h);(have gk:(nk==20)=false:=by rw[gC];exact U);(have gj:(nk==21)=false:=by rw[gC];exact O);(have gi:(nk==22)=false:=by rw[gC];exact N);(have gh:(nk==23)=false:=by rw[gC];exact M);(have gg:(nk==24)=false:=by rw[gC];exact J);(have ge:(nk==25)=false:=by rw[gC];exact I);clear D hd hC C gd gb ga h U O N M J I;generalize nl.length=m at *;(go_enter func26,ntmps26);go_wp2_with fail;go_ret;exact⟨by rw[HX.out];rfl,hB⟩
end
end Go.Proofs.YtiebcdeafofgdaaGreatDoor
