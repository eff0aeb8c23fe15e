/-
  Parts of the proof: Pwm Pwn Pxa Pxb. By an AI agent.
-/
import Derived.Test.YtiebcdeafofgdaaGreatDoorJ45
import Derived.Test.YtiebcdeafofgdaaGreatDoorJ34
open Go.Proofs.Tryz
set_option maxRecDepth 100000
set_option maxHeartbeats 8000000
namespace Go.Proofs.YtiebcdeafofgdaaGreatDoor
section
open Go.RowKit Go.Lib Go.Proofs
attribute [local go_sem ↓] Go.wp_at_zero Go.wp_at_succ
def nJ(F:CI)(deep:Nat)(x:Nd):List It:=mz (deep+1)++(F.stmt x (deep+1) false++[.nl])
theorem Bu(F:CI)(deep:Nat)(x:Nd):tx (nJ F deep x)=wQ (deep+1)++tx (F.stmt x (deep+1) false)++(⟨#[10]⟩:BA):=by unfold nJ;rw[bE,bE,az];rfl
theorem SX(F:CI)(n:Nd)(deep:Nat):tx (oE F n deep)=(⟨#[123,10]⟩:BA)++tx (n.kids.flatMap (nJ F deep))++wQ deep++(⟨#[125]⟩:BA):=by show tx (bS 123::.gap 10::(n.kids.flatMap (nJ F deep)++(mz deep++[bS 125])))=_;rw[aI,aI (.gap 10),bE,bE,<-az,az,az];rfl
theorem wV(d:Nat)(HS:wR d)(v:Value)(n:Nd)(w:World)(deep:Nat)(hv:aF w v n)(h:bD (aa d) n=true)(hd:deep+d+1<=1000)(hM:(tx (oE (ao d) n deep)).size<=10000000000000000):
  Calls prog 39 #[v,(deep:Int)] w fun e w'=>e=.returned (.string (tx (oE (ao d) n deep)))/\Below w w w':=by
 unfold bD at h;rw[gB,gB]at h;have HL:=hid (List.all_eq_true.1 h.2.2);have HR:=hid (SX (ao d) n deep);rw[HR.out,gD,gD,gD]at hM;have gh:=Bt (nJ (ao d) deep) (fun x=>by rw[Bu,gD];exact Nat.le_add_left _ _) n.kids;obtain⟨A,cp,rfl,hC⟩:=hv.toC;have HV:=hid hv;have hB:=(aj w #[n.kind,n.text,.slice A n.kids.length cp,n.pos]).1;have N:=(aj w #[n.kind,n.text,.slice A n.kids.length cp,n.pos]).2;have gj:=tg deep;have gi:=tg (deep+1);have q1:IntKind.i64.wrap ((deep:Int)+1)=(deep:Int)+1:=gQ _ (by omega);clear hv hC h;(go_enter func39,ntmps39);go_wp2_with fail;generalize w.alloc (.cells #[n.kind,n.text,.slice A n.kids.length cp,n.pos] 24)=w0 at *;go_loopg [5,6] n.kids.length (fun k u5 u6 wr=>∃i:Nat,i<=n.kids.length/\n.kids.length-i<=k/\u6=.int .i64 (i:Int)/\u5=.string ((⟨#[123,10]⟩:BA)++tx ((n.kids.take i).flatMap (nJ (ao d) deep)))/\Below w0 w0 wr)
 case atStart=>exact⟨0,gP _,by omega,rfl,rfl,gG _ _⟩
 case round=>
  obtain⟨i,hi,hk,rfl,rfl,D⟩:=hrel;have yk:=uc (nJ (ao d) deep) n.kids i;by_cases M:i<n.kids.length
  ·(have U:(i:Int)<(n.kids.length:Int):=by omega);(have h0:(0:Int)<=(i:Int):=by omega);obtain⟨x0,x1,x2,x3,-,-,-,-⟩:=ab (N.bl D);obtain⟨-,-,n2,-⟩:=IG (N.bl D);obtain⟨bp,op,A2,c2,gg,hp⟩:=eV (af.below HV.out (aD hB D)) i M;subst gg;have J:=hid (FQ (nJ (ao d) deep) n.kids i M);have ga:=uc (nJ (ao d) deep) n.kids (i+1);rw[J.out,Bu,gD,gD,gD]at ga;rw[Bu]at J;have HX:=hid (HL.out _ (gX M));generalize n.kids[i]=x at *;have O:=hid (fun m:Wd (Below wr wr)=>HS _ x m.wd (deep+1) (hp.below m.ok).2.2.2.2 HX.out (by omega) (by omega));have I:=hid (fun m:Wd (Below wr wr)=>Dm (deep+1) (by omega) m.wd);obtain⟨k0,k1,k2,k3⟩:=Dw hp;generalize tx ((ao d).stmt x (deep+1) false)=X at *;generalize tx ((n.kids.take i).flatMap (nJ (ao d) deep))=S at *;generalize wQ (deep+1)=T at *;rw[show((deep+1:Nat):Int)=(deep:Int)+1 by omega]at O I;clear hp HX;go_wp2_with fail;refine cT wr ?_;repeat(go_big_quiet_step (first
    |(go_at_call 69;rename_i m;exact yr O.out m)
    |(go_at_call 68;rename_i m;exact yr I.out m)))
   refine jY ?_;intro m;have gd:=m.ok;clear k0 k1 k2 k3 n2 x0 x1 x2 x3 O I;go_wp2_with fail;go_roundg (n.kids.length-(i+1))
   case measure=>omega
   case rel=>exact⟨i+1,by omega,gA _,by go_num,by rw[J.out];simp only[az],aD D gd⟩
  ·(have U:¬ (i:Int)<(n.kids.length:Int):=by omega);obtain⟨x0,x1,x2,x3,-,-,-,-⟩:=ab (N.bl D);have J:=hid (show tx ((n.kids.take i).flatMap (nJ (ao d) deep))=tx (n.kids.flatMap (nJ (ao d) deep))by rw[jA (by omega)]);rw[<-J.out]at HR hM;generalize tx ((n.kids.take i).flatMap (nJ (ao d) deep))=S at *;have I:=hid (Dm deep (by omega) wr);generalize wQ deep=T at *;go_wp2_with fail;refine I.out.mono ?_;rintro e w3⟨rfl,gb⟩;go_wp2_with fail;go_ret;have ge:=aD D gb;exact⟨by rw[HR.out];rfl,aD hB ge⟩
theorem EH(d:Nat)(D:wR d):pj (d+1):=fun v n w deep hv hn hd hM=>wV d D v n w deep hv hn (by omega) hM
theorem SY{F:cQ}{n:Nd}(h:iK F n=true):∃t a b p,n=.mk 5 t [a,b] p/\(ah a=true\/F.typ a=true)/\(ah b=true\/F.expr b=true):=by unfold iK at h;rw[gB]at h;obtain⟨t,l,p,rfl,-,I⟩:=aN (by decide) h.1;obtain⟨a,b,rfl,D,hb⟩:=ll I;unfold cB at D hb;rw[gI]at D hb;exact⟨t,a,b,p,rfl,D,hb⟩
theorem ln{P:Prop}{n:Nd}(h:ah n=true\/P)(D:n.kind≠0):P:=h.resolve_left fun h=>by obtain⟨a,rfl⟩:=bI h;exact D rfl
theorem SZ(d:Nat)(t:ByteArray)(a b:Nd)(p:Int)(deep:Nat):tx (sU (ao d) (.mk 5 t [a,b] p) deep)=(⟨#[118,97,114,32]⟩:BA)++t++(if a.kind=0 then(⟨#[]⟩:BA)else(⟨#[32]⟩:BA)++tx (am d a))++(if b.kind=0 then(⟨#[]⟩:BA)else(⟨#[32,61,32]⟩:BA)++tx ((ao d).expr b deep false)):=by
 show tx (lJ ⟨#[118,97,114]⟩::bu::mK t::((if a.kind=0 then[]else bu::(ao d).typ a)++(if b.kind=0 then[]else bu::bS 61::bu::(ao d).expr b deep false)))=_;rw[aI,aI bu,aI (mK t),bE,FO,wL,EG,<-az,<-az,<-az];congr 1
 ·congr 1;split
  ·rfl
  ·rw[aI,y6]
 ·split
  ·rfl
  ·rw[aI,aI (bS 61),aI bu ((ao d).expr b deep false),<-az,<-az];rfl
theorem NA(d:Nat)(HE:ie d)(v:Value)(n:Nd)(w:World)(deep:Nat)(hv:aF w v n)(hn:iK (aa d) n=true)(hd:deep+d<=1000)(M:(tx (sU (ao d) n deep)).size<=10000000000000000):
  Calls prog 57 #[v,(deep:Int)] w fun e w'=>e=.returned (.string (tx (sU (ao d) n deep)))/\Below w w w':=by
 obtain⟨t,a,b,p,rfl,ha,hb⟩:=SY hn;have J:=hid (SZ d t a b p deep);rw[J.out,gD,gD,gD]at M;obtain⟨A,cp,rfl,hC⟩:=hv.toC;simp only[Nd.kind_mk,Nd.text_mk,Nd.kids_mk,Nd.pos_mk]at *;have hB:=(aj w #[.int .i64 5,.string t,.slice A 2 cp,.int .i64 p]).1;have ga:aF w (.agg #[.int .i64 5,.string t,.slice A 2 cp,.int .i64 p]) (.mk 5 t [a,b] p):=hv;have hN:=(aj w #[.int .i64 5,.string t,.slice A 2 cp,.int .i64 p]).2;obtain⟨bp,op,A2,c2,A3,c3,rfl,hp,hq⟩:=Il (af.below ga hB);have gh:=hid (fun(h:a.kind≠0)(hm:(tx (am d a)).size<=10000000000000000)=>sy d _ a _ hp.2.2.2.2 (ln ha h) hm);have gd:=hid (fun(w':World)(gg:Below _ _ w')(h:b.kind≠0)(hm:(tx ((ao d).expr b deep false)).size<=10000000000000000)=>HE _ b w' deep false (hq.below gg).2.2.2.2 (ln hb h) hd hm);have HQ:=hid hq;have gb:=hid hN;obtain⟨p0,p1,p2,p3,-⟩:=hp;obtain⟨q0,q1,q2,q3,-⟩:=hq;generalize tx (am d a)=X at *;generalize tx ((ao d).expr b deep false)=Y at *;clear hv hC ga hN ha hb hn HE;by_cases O:a.kind=0
 ·rw[gF O]at J M;rw[O]at p0;by_cases I:b.kind=0
  ·rw[gF I]at J M;rw[I]at q0;(go_enter func57,ntmps57);go_wp2_with fail;go_ret;exact⟨by rw[J.out,pi,pi];rfl,hB⟩
  ·rw[d5 I]at J M;rw[gD]at M;(have e2:(b.kind != 0)=true:=by simpa using I);have N:=hid (gd.out _ (gG _ _) I (by omega));(go_enter func57,ntmps57);go_wp2_with fail;refine N.out.mono ?_;rintro e w3⟨rfl,D⟩;go_wp2_with fail;go_ret;exact⟨by rw[J.out,pi];rfl,aD hB D⟩
 ·rw[d5 O,gD]at M;rw[d5 O]at J;(have e1:(a.kind != 0)=true:=by simpa using O);have gi:=hid (gh.out O (by omega));(go_enter func57,ntmps57);go_wp2_with fail;refine gi.out.mono ?_;rintro e w3⟨rfl,D⟩;obtain⟨n0,n1,n2,n3,-,-,-,-⟩:=ab (gb.out.below D gb.out.lt);obtain⟨r0,r1,r2,r3,-⟩:=HQ.out.below D;have U:=aD hB D;by_cases I:b.kind=0
  ·rw[gF I]at J M;rw[I]at r0;clear q0 q1 q2 q3 p0 p1 p2 p3;go_wp2_with fail;go_ret;exact⟨by rw[J.out,pi];rfl,U⟩
  ·rw[d5 I]at J M;rw[gD]at M;(have e2:(b.kind != 0)=true:=by simpa using I);have N:=hid (gd.out _ D I (by omega));clear q0 q1 q2 q3 p0 p1 p2 p3;go_wp2_with fail;refine N.out.mono ?_;rintro e w4⟨rfl,ge⟩;go_wp2_with fail;go_ret;exact⟨by rw[J.out];rfl,aD U ge⟩
def p6(d:Nat)(P:Nd->Prop)(I:Nd->Nat->Bool->List It):Prop:=∀(v:Value)(n:Nd)(w:World)(deep:Nat)(head:Bool),aF w v n->P n->deep+d<=1000->(tx (I n deep head)).size<=10000000000000000 ->
 Calls prog 69 #[v,(deep:Int),.bool head] w fun e w'=>e=.returned (.string (tx (I n deep head)))/\Below w w w'
theorem NC{F:cQ}{n:Nd}(h:du F n=true):∃t x p,n=.mk 26 t [x] p/\F.expr x=true:=by obtain⟨t,l,p,rfl,-,I⟩:=aN (by decide) h;obtain⟨x,rfl,D⟩:=d8 I;exact⟨t,x,p,rfl,D⟩
theorem S1{F:cQ}{n:Nd}(h:fk F n=true):∃t x p,n=.mk 28 t [x] p/\F.expr x=true:=by obtain⟨t,l,p,rfl,-,I⟩:=aN (by decide) h;obtain⟨x,rfl,D⟩:=d8 I;exact⟨t,x,p,rfl,D⟩
theorem PY{F:cQ}{n:Nd}(h:eU F n=true):∃x p,n=.mk 29 ⟨#[]⟩ [x] p/\F.expr x=true:=by obtain⟨l,p,rfl,I⟩:=bV h;obtain⟨x,rfl,D⟩:=d8 I;unfold iw at D;rw[gB]at D;exact⟨x,p,rfl,D.2⟩
theorem S2{F:cQ}{n:Nd}(h:fl F n=true):∃x y p,n=.mk 27 ⟨#[]⟩ [x,y] p/\F.expr x=true/\F.expr y=true:=by obtain⟨l,p,rfl,J⟩:=bV h;obtain⟨x,y,rfl,I,D⟩:=ll J;exact⟨x,y,p,rfl,I,D⟩
theorem ND(F:CI)(t:ByteArray)(x:Nd)(p:Int)(deep:Nat)(head:Bool):tx (ep F (.mk 26 t [x] p) deep head)=t++(⟨#[32,58,61,32]⟩:BA)++tx (F.expr x deep head):=by show tx (mK t::bu::iV ⟨#[58,61]⟩::bu::F.expr x deep head)=_;rw[aI,aI bu,aI (iV ⟨#[58,61]⟩),aI bu (F.expr x deep head),wL,az,<-az (tx [iV ⟨#[58,61]⟩]),<-az (tx [bu])];rfl
theorem S3(F:CI)(x y:Nd)(p:Int)(deep:Nat)(head:Bool):tx (ep F (.mk 27 ⟨#[]⟩ [x,y] p) deep head)=tx (F.expr x deep head)++(⟨#[32,61,32]⟩:BA)++tx (F.expr y deep head):=by show tx (F.expr x deep head++(bu::bS 61::bu::F.expr y deep head))=_;rw[bE,aI,aI (bS 61),aI bu (F.expr y deep head),az,<-az (tx [bS 61]),<-az (tx [bu])];rfl
theorem S4(F:CI)(t:ByteArray)(x:Nd)(p:Int)(deep:Nat)(head:Bool):tx (ep F (.mk 28 t [x] p) deep head)=tx (F.expr x deep head)++t:=by show tx (F.expr x deep head++[iV t])=_;rw[bE,Di]
theorem FT(d:Nat)(HE:ie d):p6 d (fun n=>du (aa d) n=true\/fk (aa d) n=true) (ep (ao d)):=by
 intro v n w deep head hv U hd hM;obtain⟨k,t,x,p,rfl,D,hk⟩:∃k t x p,n=.mk k t [x] p/\(aa d).expr x=true/\(k=26\/k=28):=by
  rcases U with h|h
  ·obtain⟨t,x,p,rfl,D⟩:=NC h;exact⟨26,t,x,p,rfl,D,.inl rfl⟩
  ·obtain⟨t,x,p,rfl,D⟩:=S1 h;exact⟨28,t,x,p,rfl,D,.inr rfl⟩
 have M:Hid (tx (ep (ao d) (.mk k t [x] p) deep head)=if k=26 then t++(⟨#[32,58,61,32]⟩:BA)++tx ((ao d).expr x deep head)else tx ((ao d).expr x deep head)++t):=by
  refine hid ?_;rcases hk with rfl|rfl
  ·exact ND _ t x p deep head
  ·exact S4 _ t x p deep head
 rw[M.out]at hM;obtain⟨A,cp,rfl,hC⟩:=hv.toC;simp only[Nd.kind_mk,Nd.text_mk,Nd.kids_mk,Nd.pos_mk]at *;have hB:=(aj w #[.int .i64 k,.string t,.slice A 1 cp,.int .i64 p]).1;have I:aF w (.agg #[.int .i64 k,.string t,.slice A 1 cp,.int .i64 p]) (.mk k t [x] p):=hv;have hN:=(aj w #[.int .i64 k,.string t,.slice A 1 cp,.int .i64 p]).2;obtain⟨bp,op,A2,c2,rfl,J⟩:=eV (af.below I hB) 0 (by simp);simp only[Nd.kids_mk,gT,jK,jD]at J;clear hv hC I U;rcases hk with rfl|rfl;rw[gF rfl]at M hM;(go_enter func69,ntmps69);go_upto_region 6 with fail
 rotate_left
 rw[d5 (by decide)]at M hM;(go_enter func69,ntmps69);go_upto_region 10 with fail
 rotate_left
 all_goals simp only[gD]at hM;generalize w.alloc (.cells #[.int .i64 _,.string _,.slice (some ⟨bp,op,none⟩) 1 cp,.int .i64 p] 24)=W at *;have O:=hid (fun m:Wd (Below W W)=>HE _ x m.wd deep head (J.below m.ok).2.2.2.2 D hd (by omega));obtain⟨k0,k1,k2,k3⟩:=Dw J;obtain⟨n0,n1,n2,n3⟩:=IG hN;generalize tx ((ao d).expr x deep head)=X at *;clear hN J HE D;refine cT W ?_;(repeat(go_big_quiet_step ((go_at_call 15;rename_i m;with_reducible exact yr O.out m))));refine jY ?_;intro m;have N:=aD hB m.ok;go_wp2_with fail;go_ret;exact⟨by rw[M.out];rfl,N⟩
theorem NE(d:Nat)(U:ie d):p6 d (fun n=>eU (aa d) n=true) (ep (ao d)):=by intro v n w deep head hv hn hd hM;obtain⟨x,p,rfl,N⟩:=PY hn;have O:=hid (show tx (ep (ao d) (.mk 29 ⟨#[]⟩ [x] p) deep head)=tx ((ao d).expr x deep head)from rfl);rw[O.out]at hM;obtain⟨A,cp,rfl,h⟩:=hv.toC;simp only[Nd.kind_mk,Nd.text_mk,Nd.kids_mk,Nd.pos_mk]at *;have hB:=(aj w #[.int .i64 29,.string ⟨#[]⟩,.slice A 1 cp,.int .i64 p]).1;have D:aF w (.agg #[.int .i64 29,.string ⟨#[]⟩,.slice A 1 cp,.int .i64 p]) (.mk 29 ⟨#[]⟩ [x] p):=hv;obtain⟨bp,op,A2,c2,rfl,I⟩:=eV (af.below D hB) 0 (by simp);simp only[Nd.kids_mk,gT,jK,jD]at I;have M:=hid (U _ x _ deep head I.2.2.2.2 N hd hM);obtain⟨p0,p1,p2,p3,-⟩:=I;generalize tx ((ao d).expr x deep head)=X at *;clear hv h D hn U N;(go_enter func69,ntmps69);go_wp2_with fail;refine M.out.mono ?_;rintro e w3⟨rfl,J⟩;go_wp2_with fail;go_ret;exact⟨by rw[O.out];rfl,aD hB J⟩
theorem PZ(d:Nat)(U:ie d):p6 d (fun n=>fl (aa d) n=true) (ep (ao d)):=by
 intro v n w deep head hv hn hd hM;obtain⟨x,y,p,rfl,hx,h⟩:=S2 hn;have HR:=hid (S3 (ao d) x y p deep head);rw[HR.out,gD,gD]at hM;obtain⟨A,cp,rfl,hC⟩:=hv.toC;simp only[Nd.kind_mk,Nd.text_mk,Nd.kids_mk,Nd.pos_mk]at *;have hB:=(aj w #[.int .i64 27,.string ⟨#[]⟩,.slice A 2 cp,.int .i64 p]).1;have D:aF w (.agg #[.int .i64 27,.string ⟨#[]⟩,.slice A 2 cp,.int .i64 p]) (.mk 27 ⟨#[]⟩ [x,y] p):=hv;obtain⟨bp,op,A2,c2,A3,c3,rfl,J,I⟩:=Il (af.below D hB);clear hv hC D hn;(go_enter func69,ntmps69);(go_upto_region 8 with fail);generalize w.alloc (.cells #[.int .i64 27,.string ⟨#[]⟩,.slice (some ⟨bp,op,none⟩) 2 cp,.int .i64 p] 24)=W at *;have O:=hid (fun m:Wd (Below W W)=>U _ x m.wd deep head (J.below m.ok).2.2.2.2 hx hd (by omega));have N:=hid (fun m:Wd (Below W W)=>U _ y m.wd deep head (I.below m.ok).2.2.2.2 h hd (by omega));obtain⟨k0,k1,k2,k3⟩:=Dw J;obtain⟨b0,b1,b2,b3⟩:=Dw I;generalize tx ((ao d).expr x deep head)=X at *;generalize tx ((ao d).expr y deep head)=Y at *;clear J I U hx h;refine cT W ?_;repeat(go_big_quiet_step (first
  |(go_at_call 15;rename_i m;with_reducible exact yr O.out m)
  |(go_at_call 15;rename_i m;with_reducible exact yr N.out m)))
 refine jY ?_;intro m;have M:=aD hB m.ok;go_wp2_with fail;go_ret;exact⟨by rw[HR.out];rfl,M⟩
def NF(d:Nat)(n:Nd):Prop:=du (aa d) n=true\/fl (aa d) n=true\/fk (aa d) n=true\/eU (aa d) n=true
theorem Bv(d:Nat)(D:ie d):p6 d (NF d) (ep (ao d)):=by
 intro v n w deep head hv I hd hM;rcases I with h|h|h|h
 ·exact FT d D v n w deep head hv (.inl h) hd hM
 ·exact PZ d D v n w deep head hv h hd hM
 ·exact FT d D v n w deep head hv (.inr h) hd hM
 ·exact NE d D v n w deep head hv h hd hM
theorem P0{d:Nat}{o:Nd}(h:(aa d).block o=true):(aa d).stmt o=true:=by
 cases d with
 |zero=>cases h
 |succ d=>have h:bD (aa d) o=true:=h;(have D:o.kind=36:=by unfold bD at h;rw[gB,gE]at h;exact h.1);show aB (aa d) o=true;unfold aB;rw[d5 (by omega),d5 (by omega),d5 (by omega),d5 (by omega),d5 (by omega),d5 (by omega),d5 (by omega),d5 (by omega),d5 (by omega),d5 (by omega)];exact h
theorem P1{d:Nat}{o:Nd}(h:(aa d).ifS o=true):(aa d).stmt o=true:=by
 cases d with
 |zero=>cases h
 |succ d=>have h:Am (aa d) o=true:=h;(have D:o.kind=30:=by obtain⟨l,p,rfl,-⟩:=bV h;rfl);show aB (aa d) o=true;unfold aB;rw[d5 (by omega),d5 (by omega),d5 (by omega),d5 (by omega),d5 (by omega),gF D];exact h
theorem Tx{d:Nat}{n:Nd}(h:Am (aa d) n=true):∃c b o p,n=.mk 30 ⟨#[]⟩ [c,b,o] p/\(aa d).expr c=true/\(aa d).block b=true/\(ah o=true\/(aa d).stmt o=true):=by obtain⟨l,p,rfl,J⟩:=bV h;obtain⟨c,b,o,rfl,I,hb,D⟩:=Ph J;unfold cB at D;rw[gI,gI]at D;exact⟨c,b,o,p,rfl,I,hb,D.elim (fun h=>h.imp id P0) fun h=>.inr (P1 h)⟩
theorem Ty(F:CI)(c b o:Nd)(p:Int)(deep:Nat)(head:Bool):tx (ch F (.mk 30 ⟨#[]⟩ [c,b,o] p) deep head)=(⟨#[105,102,32]⟩:BA)++tx (F.expr c deep true)++(⟨#[32]⟩:BA)++tx (F.block b deep)++(if o.kind=0 then(⟨#[]⟩:BA)else(⟨#[32,101,108,115,101,32]⟩:BA)++tx (F.stmt o deep false)):=by
 show tx (lJ ⟨#[105,102]⟩::bu::(F.expr c deep true++(bu::(F.block b deep++(if o.kind=0 then[]else bu::lJ ⟨#[101,108,115,101]⟩::bu::F.stmt o deep false)))))=_;rw[aI,aI bu (F.expr c deep true++_),bE,aI bu (F.block b deep++_),bE,az,az,az,<-az (tx [lJ ⟨#[105,102]⟩])];congr 4;split
 ·rfl
 ·rw[aI,aI (lJ ⟨#[101,108,115,101]⟩),aI bu (F.stmt o deep false),<-az,<-az];rfl
theorem P2(d:Nat)(HE:ie d)(N:pj d)(HS:wR d):p6 d (fun n=>Am (aa d) n=true) (ch (ao d)):=by
 intro v n w deep head hv hn hd hM;obtain⟨c,b,o,p,rfl,hc,hb,ho⟩:=Tx hn;have M:=hid (Ty (ao d) c b o p deep head);rw[M.out]at hM;simp only[gD]at hM;obtain⟨A,cp,rfl,hC⟩:=hv.toC;simp only[Nd.kind_mk,Nd.text_mk,Nd.kids_mk,Nd.pos_mk]at *;have hB:=(aj w #[.int .i64 30,.string ⟨#[]⟩,.slice A 3 cp,.int .i64 p]).1;have J:aF w (.agg #[.int .i64 30,.string ⟨#[]⟩,.slice A 3 cp,.int .i64 p]) (.mk 30 ⟨#[]⟩ [c,b,o] p):=hv;obtain⟨bp,op,A2,c2,A3,c3,A4,c4,rfl,hp,U,O⟩:=TR (af.below J hB);clear hv hC J hn;(go_enter func69,ntmps69);(go_upto_region 14 with fail);generalize w.alloc (.cells #[.int .i64 30,.string ⟨#[]⟩,.slice (some ⟨bp,op,none⟩) 3 cp,.int .i64 p] 24)=W at *;have gd:=hid (yr fun m:Wd (Below W W)=>HE _ c m.wd deep true (hp.below m.ok).2.2.2.2 hc hd (by omega));have gb:=hid (yr fun m:Wd (Below W W)=>N _ b m.wd deep (U.below m.ok).2.2.2.2 hb hd (by omega));have ga:=hid (fun(h:o.kind≠0)(hm:(tx ((ao d).stmt o deep false)).size<=10000000000000000)=>yr fun m:Wd (Below W W)=>HS _ o m.wd deep (O.below m.ok).2.2.2.2 (ln ho h) hd hm);obtain⟨k0,k1,k2,k3⟩:=Dw hp;obtain⟨b0,b1,b2,b3⟩:=Dw U;obtain⟨D,r1,r2,r3⟩:=Dw O;generalize tx ((ao d).expr c deep true)=X at *;generalize tx ((ao d).block b deep)=Y at *;generalize tx ((ao d).stmt o deep false)=Z at *;clear hp U O HE N HS hc hb ho;refine cT W ?_;repeat(go_big_quiet_step (first
  |(go_at_call 15;rename_i m;exact gd.out m)
  |(go_at_call 39;rename_i m;exact gb.out m)))
 refine jY ?_;intro m;by_cases I:o.kind=0
 ·rw[gF I]at M hM;rw[I]at D;have D:=D m;go_wp2_with fail;go_ret;exact⟨by rw[M.out,pi];rfl,aD hB m.ok⟩
 ·rw[d5 I]at M hM;rw[gD]at hM;(have e0:(o.kind != 0)=true:=by simpa using I);have HZ:=hid (ga.out I (by omega) m);have D:=D m;have r1:=r1 m;have r2:=r2 m;have r3:=r3 m;go_wp2_with fail;refine HZ.out.mono ?_;rintro e w3⟨rfl,m',rfl⟩;go_wp2_with fail;go_ret;exact⟨by rw[M.out];rfl,aD hB m'.ok⟩
theorem P3(d:Nat)(HE:ie d):p6 d (fun n=>cA 33 [cB ah (aa d).expr] n=true) (ch (ao d)):=by
 intro v n w deep head hv hn hd hM;obtain⟨l,p,rfl,D⟩:=bV hn;obtain⟨x,rfl,M⟩:=d8 D;unfold cB at M;rw[gI]at M;have J:Hid (tx (ch (ao d) (.mk 33 ⟨#[]⟩ [x] p) deep head)=if x.kind=0 then(⟨#[114,101,116,117,114,110]⟩:BA)else(⟨#[114,101,116,117,114,110,32]⟩:BA)++tx ((ao d).expr x deep false)):=by
  refine hid ?_;show tx (lJ ⟨#[114,101,116,117,114,110]⟩::(if x.kind=0 then[]else bu::(ao d).expr x deep false))=_;rw[aI,FO];split
  ·rfl
  ·rw[aI,<-az];rfl
 rw[J.out]at hM;obtain⟨A,cp,rfl,hC⟩:=hv.toC;simp only[Nd.kind_mk,Nd.text_mk,Nd.kids_mk,Nd.pos_mk]at *;have hB:=(aj w #[.int .i64 33,.string ⟨#[]⟩,.slice A 1 cp,.int .i64 p]).1;have I:aF w (.agg #[.int .i64 33,.string ⟨#[]⟩,.slice A 1 cp,.int .i64 p]) (.mk 33 ⟨#[]⟩ [x] p):=hv;obtain⟨bp,op,A2,c2,rfl,N⟩:=eV (af.below I hB) 0 (by simp);simp only[Nd.kids_mk,gT,jK,jD]at N;have U:=hid (fun(h:x.kind≠0)(hm:(tx ((ao d).expr x deep false)).size<=10000000000000000)=>HE _ x _ deep false N.2.2.2.2 (ln M h) hd hm);obtain⟨p0,p1,p2,p3,-⟩:=N;generalize tx ((ao d).expr x deep false)=X at *;clear hv hC I hn D HE M;by_cases D:x.kind=0
 ·rw[gF D]at J;rw[D]at p0;(go_enter func69,ntmps69);go_wp2_with fail;go_ret;exact⟨by rw[J.out];rfl,hB⟩
 ·rw[d5 D,gD]at hM;rw[d5 D]at J;(have e0:(x.kind==0)=false:=by simpa using D);have HX:=hid (U.out D (by omega));(go_enter func69,ntmps69);go_wp2_with fail;refine HX.out.mono ?_;rintro e w3⟨rfl,O⟩;go_wp2_with fail;go_ret;exact⟨by rw[J.out];rfl,aD hB O⟩
theorem P4(d:Nat):p6 d (fun n=>n.kind=34\/n.kind=35) (ch (ao d)):=by intro v n w deep head hv D hd hM;(have I:Hid (tx (ch (ao d) n deep head)=if n.kind=34 then(⟨#[98,114,101,97,107]⟩:BA)else(⟨#[99,111,110,116,105,110,117,101]⟩:BA)):=by refine hid ?_;unfold ch;rw[d5 (by omega),d5 (by omega),d5 (by omega),d5 (by omega),d5 (by omega),d5 (by omega),d5 (by omega),d5 (by omega),d5 (by omega)];rcases D with h|h<;>rw[h]<;>rfl);obtain⟨A,cp,rfl,J⟩:=hv.toC;have hB:=(aj w #[n.kind,n.text,.slice A n.kids.length cp,n.pos]).1;clear hv J hd hM;rcases D with h|h<;>rw[h]at hB I |-;all_goals(go_enter func69,ntmps69);go_wp2_with fail;go_ret;exact⟨by rw[I.out];rfl,hB⟩
theorem NG(d:Nat)(O:ie d):p6 d (fun n=>n.kind=5/\iK (aa d) n=true) (ch (ao d)):=by intro v n w deep head hv D hd hM;obtain⟨D,J⟩:=D;(have N:Hid (tx (ch (ao d) n deep head)=tx (sU (ao d) n deep)):=by refine hid ?_;unfold ch;rw[gF D]);rw[N.out]at hM;obtain⟨A,cp,rfl,U⟩:=hv.toC;have hB:=(aj w #[n.kind,n.text,.slice A n.kids.length cp,n.pos]).1;have M:=hid (NA d O _ n _ deep (af.below hv hB) J hd hM);generalize tx (sU (ao d) n deep)=X at *;clear hv U J O;rw[D]at hB M |-;(go_enter func69,ntmps69);go_wp2_with fail;refine M.out.mono ?_;rintro e w3⟨rfl,I⟩;go_wp2_with fail;go_ret;exact⟨by rw[N.out];rfl,aD hB I⟩
theorem NH(d:Nat)(O:wR d)(v:Value)(n:Nd)(w:World)(deep:Nat)(head:Bool)(I:aF w v n)(D:bD (aa d) n=true)(hd:deep+d+1<=1000)(M:(tx (ch (ao d) n deep head)).size<=10000000000000000):
  Calls prog 69 #[v,(deep:Int),.bool head] w fun e w'=>e=.returned (.string (tx (ch (ao d) n deep head)))/\Below w w w':=by(have h:n.kind=36:=by unfold bD at D;rw[gB,gE]at D;exact D.1);(have U:Hid (tx (ch (ao d) n deep head)=tx (oE (ao d) n deep)):=by refine hid ?_;unfold ch;rw[d5 (by omega),d5 (by omega),d5 (by omega),d5 (by omega),d5 (by omega),d5 (by omega),d5 (by omega),d5 (by omega),d5 (by omega),d5 (by omega),d5 (by omega)]);rw[U.out]at M;obtain⟨A,cp,rfl,hC⟩:=I.toC;have hB:=(aj w #[n.kind,n.text,.slice A n.kids.length cp,n.pos]).1;have N:=hid (wV d O _ n _ deep (af.below I hB) D hd M);generalize tx (oE (ao d) n deep)=X at *;clear I hC D O;rw[h]at hB N |-;(go_enter func69,ntmps69);go_wp2_with fail;refine N.out.mono ?_;rintro e w3⟨rfl,J⟩;go_wp2_with fail;go_ret;exact⟨by rw[U.out];rfl,aD hB J⟩
def yp(c:UInt8):List UInt8:=if c=44 then[44,32]else[c]
def NI(s:ByteArray)(i:Nat):ByteArray:=d7 (((bytes s).take i).flatMap yp)
theorem sB:∀l:List UInt8,l.all (fun c=>lr c||eF c)=true->l.flatMap yp=l
 |[],_=>rfl
 |c::l,h=>by rw[kz,gB]at h;(have D:c≠44:=by rintro rfl;exact absurd h.1 (by decide));rw[jH,sB l h.2];unfold yp;rw[d5 D];rfl
theorem rB{l:List UInt8}(h:aE ⟨l.toArray⟩=true):l.all (fun c=>lr c||eF c)=true/\l.length<=100:=by
 unfold aE dP at h;simp only[gB,gE]at h;refine⟨?_,h.1⟩;have D:cI l=true:=h.2.1;cases l with
 |nil=>rfl
 |cons c l=>unfold cI at D;rw[gB]at D;rw[kz,D.1,D.2];rfl
theorem NJ{x:ByteArray}(h:bL x=true)(O:x≠(⟨#[]⟩:BA)):tx (fB x)=NI x x.size++(⟨#[32,58,61,32]⟩:BA)/\x.size<=201:=by
 unfold bL at h;rw[gM O,vi,gI,gB,gB,gB]at h;unfold fB NI;rw[d5 O,bE,show(bytes x).take x.size=bytes x from jA (gA _),show tx [bu,iV ⟨#[58,61]⟩,bu]=(⟨#[32,58,61,32]⟩:BA)from rfl];rcases h with⟨D,M,N⟩|⟨D,M⟩
 ·rw[gF D];have J:bytes x=_:=Bh x.data.toList D;unfold bY at N;rw[gB]at N;obtain⟨c1,I⟩:=rB M;obtain⟨c2,l2⟩:=rB N.1;refine⟨?_,?_⟩
  ·congr 1;apply cg;rw[pH,bH,J,kJ,jH];have e1:=sB _ c1;have U:=sB _ c2;unfold fj at e1 U |-;rw[e1,U];simp[fX,Tf,bS,bu,yp]
  ·have:=jM List.length J;rw[gL,gS]at this;unfold fj at I l2;rw[cm]at this;omega
 ·(have D:(fj x).2.2=false:=by simpa using D);have J:_=bytes x:=Et x.data.toList D;unfold bY at M;rw[gB]at M;obtain⟨c1,I⟩:=rB M.1;unfold fj at D c1 I |-;rw[J]at c1 I;rw[d5 (by rw[D];decide),J,sB _ c1];exact⟨by rw[wK];rfl,by rw[cm]at I;omega⟩
theorem FU(s:ByteArray)(i:Nat)(h:i<s.size):NI s (i+1)=NI s i++d7 (yp ((bytes s).getD i 0)):=by have D:i<(bytes s).length:=h;unfold NI;rw[<-EE,gZ D,kJ,jH,List.flatMap_nil,kG,gR,gN D];rfl
theorem RE(s:ByteArray):∀i,i<=s.size->(NI s i).size<=2*i
 |0,_=>by unfold NI;rw[qL];exact gA _
 |i+1,h=>by have:=RE s i (by omega);(have D:(d7 (yp ((bytes s).getD i 0))).size<=2:=by show(yp _).length<=2;unfold yp;split<;>simp);rw[FU s i (by omega),gD];omega
theorem NK{F:cQ}{n:Nd}(h:cA 32 [F.expr,F.block] (au bL n)=true):∃t x b p,n=.mk 32 t [x,b] p/\bL t=true/\F.expr x=true/\F.block b=true:=by obtain⟨t,l,p,rfl,I,J⟩:=aN (by decide) h;obtain⟨x,b,rfl,D,hb⟩:=ll J;exact⟨t,x,b,p,rfl,I,D,hb⟩
theorem S5(F:CI)(t:ByteArray)(x b:Nd)(p:Int)(deep:Nat)(head:Bool):tx (ch F (.mk 32 t [x,b] p) deep head)=(⟨#[102,111,114,32]⟩:BA)++tx (fB t)++(⟨#[114,97,110,103,101,32]⟩:BA)++tx (F.expr x deep true)++(⟨#[32]⟩:BA)++tx (F.block b deep):=by show tx (lJ ⟨#[102,111,114]⟩::bu::(fB t++(lJ ⟨#[114,97,110,103,101]⟩::bu::(F.expr x deep true++(bu::F.block b deep)))))=_;rw[aI,aI bu,bE,aI (lJ ⟨#[114,97,110,103,101]⟩),aI bu (F.expr x deep true++_),bE,aI bu (F.block b deep),<-az (tx [lJ ⟨#[102,111,114]⟩]),show tx [lJ ⟨#[102,111,114]⟩]++tx [bu]=(⟨#[102,111,114,32]⟩:BA)from rfl,<-az (tx [lJ ⟨#[114,97,110,103,101]⟩]),show tx [lJ ⟨#[114,97,110,103,101]⟩]++tx [bu]=(⟨#[114,97,110,103,101,32]⟩:BA)from rfl];simp only[az];rfl
theorem P5(d:Nat)(HE:ie d)(N:pj d):p6 d (fun n=>cA 32 [(aa d).expr,(aa d).block] (au bL n)=true) (ch (ao d)):=by
 intro v n w deep head hv hn hd hM;obtain⟨t,x,b,p,rfl,ht,hx,hb⟩:=NK hn;have HR:=hid (S5 (ao d) t x b p deep head);rw[HR.out]at hM;simp only[gD]at hM;have M:=hid (fun h:t≠(⟨#[]⟩:BA)=>NJ ht h);obtain⟨A,cp,rfl,hC⟩:=hv.toC;simp only[Nd.kind_mk,Nd.text_mk,Nd.kids_mk,Nd.pos_mk]at *;have hB:=(aj w #[.int .i64 32,.string t,.slice A 2 cp,.int .i64 p]).1;have ga:aF w (.agg #[.int .i64 32,.string t,.slice A 2 cp,.int .i64 p]) (.mk 32 t [x,b] p):=hv;have hN:=(aj w #[.int .i64 32,.string t,.slice A 2 cp,.int .i64 p]).2;obtain⟨bp,op,A2,c2,A3,c3,rfl,hp,hq⟩:=Il (af.below ga hB);clear hv hC ga hn;(go_enter func69,ntmps69);go_wp2_with fail;generalize w.alloc (.cells #[.int .i64 32,.string t,.slice (some ⟨bp,op,none⟩) 2 cp,.int .i64 p] 24)=W at *;go_loopg [10,11] t.size (fun k u10 u11 wr=>∃i:Nat,i<=t.size/\t.size-i<=k/\u11=.int .i64 (i:Int)/\u10=.string ((⟨#[102,111,114,32]⟩:BA)++NI t i)/\W=wr)
 case atStart=>exact⟨0,gP _,by omega,rfl,rfl,rfl⟩
 case round=>
  obtain⟨i,hi,hk,rfl,rfl,rfl⟩:=hrel;have gh:=RE t i hi;obtain⟨n0,n1,n2,n3,-,-,-,-⟩:=ab hN;by_cases I:i<t.size
  ·(have D:t≠(⟨#[]⟩:BA):=by rintro rfl;exact absurd I (Nat.not_lt_zero _));have O:=(M.out D).2;(have U:(i:Int)<(t.size:Int):=by omega);have gg:=fun W=>Ac t i I W;have HS:=hid (FU t i I);have HO:=hid (Ns t i I);have gi:=ed t i;have J:ac t i=((bytes t).getD i 0).toNat:=rfl;generalize(bytes t).getD i 0=c at *;generalize ac t i=cn at *;generalize NI t i=S at *;(have p0:(0:Int)<=(i:Int):=by omega);(have p1:(i:Int)<=(t.size:Int):=by omega);(have p2:(0:Int)<=(i:Int)+1:=by omega);(have p3:(i:Int)+1<=(t.size:Int):=by omega);have q1:IntKind.i64.wrap ((i:Int)+1)=(i:Int)+1:=gQ _ (by omega);(have q2:((i:Int)+1).toNat=i+1:=by omega);(have hz:(t.extract i (i+1)).size=1:=by rw[HO.out];rfl);clear hp hq HE N hx hb;by_cases c1:c=44
   ·subst c1;obtain rfl:cn=44:=J;go_wp2_with fail;go_roundg (t.size-(i+1))
    case measure=>omega
    case rel=>exact⟨i+1,by omega,gA _,by go_num,by rw[HS.out,HO.out];simp only[az];rfl,rfl⟩
   ·(have e1:((cn:Int)==44)=false:=by rw[gC];intro h;refine c1 ?_;rw[<-vB,<-J];show cn=44;omega);rw[show d7 (yp c)=⟨#[c]⟩by unfold yp;rw[d5 c1];rfl]at HS;clear J c1;go_wp2_with fail;go_roundg (t.size-(i+1))
    case measure=>omega
    case rel=>exact⟨i+1,by omega,gA _,by go_num,by rw[HS.out,HO.out];simp only[az],rfl⟩
  ·(have U:¬ (i:Int)<(t.size:Int):=by omega);(obtain rfl:i=t.size:=by omega);have ge:=hid (yr fun m:Wd (Below W W)=>HE _ x m.wd deep true (hp.below m.ok).2.2.2.2 hx hd (by omega));have gd:=hid (yr fun m:Wd (Below W W)=>N _ b m.wd deep (hq.below m.ok).2.2.2.2 hb hd (by omega));obtain⟨k0,k1,k2,k3⟩:=Dw hp;obtain⟨b0,b1,b2,b3⟩:=Dw hq;generalize tx ((ao d).expr x deep true)=X at *;generalize tx ((ao d).block b deep)=Y at *;clear hp hq HE N hx hb hi hk hN;have H0:=hid (fun h:t=(⟨#[]⟩:BA)=>show tx (fB t)=NI t t.size by subst h;rfl);generalize NI t t.size=S at *;by_cases D:t=(⟨#[]⟩:BA);(have gb:t.toList.isEmpty=true:=by rw[aq];simpa using D);(have O:t.size<=201:=by rw[D];exact gP _);rw[H0.out D]at HR hM
   rotate_left
   (have gb:t.toList.isEmpty=false:=by rw[aq];simpa using D);have O:=(M.out D).2;rw[(M.out D).1]at HR hM;rw[gD]at hM
   rotate_left
   all_goals
    clear D;go_wp2_with fail;refine cT W ?_;repeat(go_big_quiet_step (first
     |(go_at_call 15;rename_i m;exact ge.out m)
     |(go_at_call 39;rename_i m;exact gd.out m)))
    refine jY ?_;intro m;go_wp2_with fail;go_ret;exact⟨by rw[HR.out];simp only[az];rfl,aD hB m.ok⟩
end
end Go.Proofs.YtiebcdeafofgdaaGreatDoor
