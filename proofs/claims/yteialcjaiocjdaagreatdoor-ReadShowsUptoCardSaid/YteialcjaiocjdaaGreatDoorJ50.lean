/-
  Parts of the proof: Pwn Pxa Pxb Pxc Pxe. By an AI agent.
-/
import Derived.Test.YteialcjaiocjdaaGreatDoorJ49
import Derived.Test.YteialcjaiocjdaaGreatDoorJ34
open Go.Proofs.Tryz
set_option maxRecDepth 100000
set_option maxHeartbeats 8000000
namespace Go.Proofs.YteialcjaiocjdaaGreatDoor
section
open Go.RowKit Go.Lib Go.Proofs
attribute [local go_sem ↓] Go.wp_at_zero Go.wp_at_succ
def ri(d:Nat)(P:Nd->Prop)(I:Nd->Nat->Bool->List It):Prop:=∀(v:Value)(n:Nd)(w:World)(deep:Nat)(head:Bool),aF w v n->P n->deep+d<=1000->(tx (I n deep head)).size<=10000000000000000 ->
 Calls prog 60 #[v,(deep:Int),.bool head] w fun e w'=>e=.returned (.string (tx (I n deep head)))/\Below w w w'
theorem OE{F:cm}{n:Nd}(h:dz F n=true):∃t x p,n=.mk 26 t [x] p/\F.expr x=true:=by obtain⟨t,l,p,rfl,-,I⟩:=aJ (by decide) h;obtain⟨x,rfl,D⟩:=dW I;exact⟨t,x,p,rfl,D⟩
theorem Tu{F:cm}{n:Nd}(h:fy F n=true):∃t x p,n=.mk 28 t [x] p/\F.expr x=true:=by obtain⟨t,l,p,rfl,-,I⟩:=aJ (by decide) h;obtain⟨x,rfl,D⟩:=dW I;exact⟨t,x,p,rfl,D⟩
theorem RA{F:cm}{n:Nd}(h:fd F n=true):∃x p,n=.mk 29 ⟨#[]⟩ [x] p/\F.expr x=true:=by obtain⟨l,p,rfl,I⟩:=cg h;obtain⟨x,rfl,D⟩:=dW I;unfold iS at D;rw[gA]at D;exact⟨x,p,rfl,D.2⟩
theorem Tv{F:cm}{n:Nd}(h:fz F n=true):∃x y p,n=.mk 27 ⟨#[]⟩ [x,y] p/\F.expr x=true/\F.expr y=true:=by obtain⟨l,p,rfl,J⟩:=cg h;obtain⟨x,y,rfl,I,D⟩:=iO J;exact⟨x,y,p,rfl,I,D⟩
theorem OF(F:tZ)(t:ByteArray)(x:Nd)(p:Int)(deep:Nat)(head:Bool):tx (eH F (.mk 26 t [x] p) deep head)=t++(⟨#[32,58,61,32]⟩:BA)++tx (F.expr x deep head):=by show tx (iq t::aY::ow ⟨#[58,61]⟩::aY::F.expr x deep head)=_;rw[ay,ay aY,ay (ow ⟨#[58,61]⟩),ay aY (F.expr x deep head),oQ,ar,<-ar (tx [ow ⟨#[58,61]⟩]),<-ar (tx [aY])];rfl
theorem Tw(F:tZ)(x y:Nd)(p:Int)(deep:Nat)(head:Bool):tx (eH F (.mk 27 ⟨#[]⟩ [x,y] p) deep head)=tx (F.expr x deep head)++(⟨#[32,61,32]⟩:BA)++tx (F.expr y deep head):=by show tx (F.expr x deep head++(aY::cK 61::aY::F.expr y deep head))=_;rw[bD,ay,ay (cK 61),ay aY (F.expr y deep head),ar,<-ar (tx [cK 61]),<-ar (tx [aY])];rfl
theorem Tx(F:tZ)(t:ByteArray)(x:Nd)(p:Int)(deep:Nat)(head:Bool):tx (eH F (.mk 28 t [x] p) deep head)=tx (F.expr x deep head)++t:=by show tx (F.expr x deep head++[ow t])=_;rw[bD,Ok]
theorem Gs(d:Nat)(HE:fX d):ri d (fun n=>dz (aa d) n=true\/fy (aa d) n=true) (eH (ac d)):=by
 intro v n w deep head hv U hd hM;obtain⟨k,t,x,p,rfl,D,hk⟩:∃k t x p,n=.mk k t [x] p/\(aa d).expr x=true/\(k=26\/k=28):=by
  rcases U with h|h
  ·obtain⟨t,x,p,rfl,D⟩:=OE h;exact⟨26,t,x,p,rfl,D,.inl rfl⟩
  ·obtain⟨t,x,p,rfl,D⟩:=Tu h;exact⟨28,t,x,p,rfl,D,.inr rfl⟩
 have M:Hid (tx (eH (ac d) (.mk k t [x] p) deep head)=if k=26 then t++(⟨#[32,58,61,32]⟩:BA)++tx ((ac d).expr x deep head)else tx ((ac d).expr x deep head)++t):=by
  refine hid ?_;rcases hk with rfl|rfl
  ·exact OF _ t x p deep head
  ·exact Tx _ t x p deep head
 rw[M.out]at hM;obtain⟨A,cp,rfl,hC⟩:=hv.toC;simp only[Nd.kind_mk,Nd.text_mk,Nd.kids_mk,Nd.pos_mk]at *;have hB:=(aj w #[.int .i64 k,.string t,.slice A 1 cp,.int .i64 p]).1;have I:aF w (.agg #[.int .i64 k,.string t,.slice A 1 cp,.int .i64 p]) (.mk k t [x] p):=hv;have hN:=(aj w #[.int .i64 k,.string t,.slice A 1 cp,.int .i64 p]).2;obtain⟨bp,op,A2,c2,rfl,J⟩:=ep (af.below I hB) 0 (by simp);simp only[Nd.kids_mk,gN,jF,gZ]at J;clear hv hC I U;rcases hk with rfl|rfl;rw[gG rfl]at M hM;(go_enter func60,ntmps60);go_upto_region 6 with fail
 rotate_left
 rw[gB (by decide)]at M hM;(go_enter func60,ntmps60);go_upto_region 10 with fail
 rotate_left
 all_goals simp only[gE]at hM;generalize w.alloc (.cells #[.int .i64 _,.string _,.slice (some ⟨bp,op,none⟩) 1 cp,.int .i64 p] 24)=W at *;have O:=hid (fun m:Wd (Below W W)=>HE _ x m.wd deep head (J.below m.ok).2.2.2.2 D hd (by omega));obtain⟨k0,k1,k2,k3⟩:=yq J;obtain⟨n0,n1,n2,n3⟩:=Gr hN;generalize tx ((ac d).expr x deep head)=X at *;clear hN J HE D;refine cF W ?_;(repeat(go_big_quiet_step ((go_at_call 9;rename_i m;with_reducible exact ub O.out m))));refine jQ ?_;intro m;have N:=au hB m.ok;go_wp2_with fail;go_ret;exact⟨by rw[M.out];rfl,N⟩
theorem OG(d:Nat)(U:fX d):ri d (fun n=>fd (aa d) n=true) (eH (ac d)):=by intro v n w deep head hv hn hd hM;obtain⟨x,p,rfl,N⟩:=RA hn;have O:=hid (show tx (eH (ac d) (.mk 29 ⟨#[]⟩ [x] p) deep head)=tx ((ac d).expr x deep head)from rfl);rw[O.out]at hM;obtain⟨A,cp,rfl,h⟩:=hv.toC;simp only[Nd.kind_mk,Nd.text_mk,Nd.kids_mk,Nd.pos_mk]at *;have hB:=(aj w #[.int .i64 29,.string ⟨#[]⟩,.slice A 1 cp,.int .i64 p]).1;have D:aF w (.agg #[.int .i64 29,.string ⟨#[]⟩,.slice A 1 cp,.int .i64 p]) (.mk 29 ⟨#[]⟩ [x] p):=hv;obtain⟨bp,op,A2,c2,rfl,I⟩:=ep (af.below D hB) 0 (by simp);simp only[Nd.kids_mk,gN,jF,gZ]at I;have M:=hid (U _ x _ deep head I.2.2.2.2 N hd hM);obtain⟨p0,p1,p2,p3,-⟩:=I;generalize tx ((ac d).expr x deep head)=X at *;clear hv h D hn U N;(go_enter func60,ntmps60);go_wp2_with fail;refine M.out.mono ?_;rintro e w3⟨rfl,J⟩;go_wp2_with fail;go_ret;exact⟨by rw[O.out];rfl,au hB J⟩
theorem RB(d:Nat)(U:fX d):ri d (fun n=>fz (aa d) n=true) (eH (ac d)):=by
 intro v n w deep head hv hn hd hM;obtain⟨x,y,p,rfl,hx,h⟩:=Tv hn;have HR:=hid (Tw (ac d) x y p deep head);rw[HR.out,gE,gE]at hM;obtain⟨A,cp,rfl,hC⟩:=hv.toC;simp only[Nd.kind_mk,Nd.text_mk,Nd.kids_mk,Nd.pos_mk]at *;have hB:=(aj w #[.int .i64 27,.string ⟨#[]⟩,.slice A 2 cp,.int .i64 p]).1;have D:aF w (.agg #[.int .i64 27,.string ⟨#[]⟩,.slice A 2 cp,.int .i64 p]) (.mk 27 ⟨#[]⟩ [x,y] p):=hv;obtain⟨bp,op,A2,c2,A3,c3,rfl,J,I⟩:=Fg (af.below D hB);clear hv hC D hn;(go_enter func60,ntmps60);(go_upto_region 8 with fail);generalize w.alloc (.cells #[.int .i64 27,.string ⟨#[]⟩,.slice (some ⟨bp,op,none⟩) 2 cp,.int .i64 p] 24)=W at *;have O:=hid (fun m:Wd (Below W W)=>U _ x m.wd deep head (J.below m.ok).2.2.2.2 hx hd (by omega));have N:=hid (fun m:Wd (Below W W)=>U _ y m.wd deep head (I.below m.ok).2.2.2.2 h hd (by omega));obtain⟨k0,k1,k2,k3⟩:=yq J;obtain⟨b0,b1,b2,b3⟩:=yq I;generalize tx ((ac d).expr x deep head)=X at *;generalize tx ((ac d).expr y deep head)=Y at *;clear J I U hx h;refine cF W ?_;repeat(go_big_quiet_step (first
  |(go_at_call 9;rename_i m;with_reducible exact ub O.out m)
  |(go_at_call 9;rename_i m;with_reducible exact ub N.out m)))
 refine jQ ?_;intro m;have M:=au hB m.ok;go_wp2_with fail;go_ret;exact⟨by rw[HR.out];rfl,M⟩
def OH(d:Nat)(n:Nd):Prop:=dz (aa d) n=true\/fz (aa d) n=true\/fy (aa d) n=true\/fd (aa d) n=true
theorem B1(d:Nat)(D:fX d):ri d (OH d) (eH (ac d)):=by
 intro v n w deep head hv I hd hM;rcases I with h|h|h|h
 ·exact Gs d D v n w deep head hv (.inl h) hd hM
 ·exact RB d D v n w deep head hv h hd hM
 ·exact Gs d D v n w deep head hv (.inr h) hd hM
 ·exact OG d D v n w deep head hv h hd hM
theorem RC{d:Nat}{o:Nd}(h:(aa d).block o=true):(aa d).stmt o=true:=by
 cases d with
 |zero=>cases h
 |succ d=>have h:bI (aa d) o=true:=h;(have D:o.kind=36:=by unfold bI at h;rw[gA,gD]at h;exact h.1);show aE (aa d) o=true;unfold aE;rw[gB (by omega),gB (by omega),gB (by omega),gB (by omega),gB (by omega),gB (by omega),gB (by omega),gB (by omega),gB (by omega),gB (by omega)];exact h
theorem RD{d:Nat}{o:Nd}(h:(aa d).ifS o=true):(aa d).stmt o=true:=by
 cases d with
 |zero=>cases h
 |succ d=>have h:AQ (aa d) o=true:=h;(have D:o.kind=30:=by obtain⟨l,p,rfl,-⟩:=cg h;rfl);show aE (aa d) o=true;unfold aE;rw[gB (by omega),gB (by omega),gB (by omega),gB (by omega),gB (by omega),gG D];exact h
theorem TW{d:Nat}{n:Nd}(h:AQ (aa d) n=true):∃c b o p,n=.mk 30 ⟨#[]⟩ [c,b,o] p/\(aa d).expr c=true/\(aa d).block b=true/\(an o=true\/(aa d).stmt o=true):=by obtain⟨l,p,rfl,J⟩:=cg h;obtain⟨c,b,o,rfl,I,hb,D⟩:=CY J;unfold ck at D;rw[gI,gI]at D;exact⟨c,b,o,p,rfl,I,hb,D.elim (fun h=>h.imp id RC) fun h=>.inr (RD h)⟩
theorem TX(F:tZ)(c b o:Nd)(p:Int)(deep:Nat)(head:Bool):tx (cv F (.mk 30 ⟨#[]⟩ [c,b,o] p) deep head)=(⟨#[105,102,32]⟩:BA)++tx (F.expr c deep true)++(⟨#[32]⟩:BA)++tx (F.block b deep)++(if o.kind=0 then(⟨#[]⟩:BA)else(⟨#[32,101,108,115,101,32]⟩:BA)++tx (F.stmt o deep false)):=by
 show tx (f8 ⟨#[105,102]⟩::aY::(F.expr c deep true++(aY::(F.block b deep++(if o.kind=0 then[]else aY::f8 ⟨#[101,108,115,101]⟩::aY::F.stmt o deep false)))))=_;rw[ay,ay aY (F.expr c deep true++_),bD,ay aY (F.block b deep++_),bD,ar,ar,ar,<-ar (tx [f8 ⟨#[105,102]⟩])];congr 4;split
 ·rfl
 ·rw[ay,ay (f8 ⟨#[101,108,115,101]⟩),ay aY (F.stmt o deep false),<-ar,<-ar];rfl
theorem RE(d:Nat)(HE:fX d)(N:mO d)(HS:yn d):ri d (fun n=>AQ (aa d) n=true) (cv (ac d)):=by
 intro v n w deep head hv hn hd hM;obtain⟨c,b,o,p,rfl,hc,hb,ho⟩:=TW hn;have M:=hid (TX (ac d) c b o p deep head);rw[M.out]at hM;simp only[gE]at hM;obtain⟨A,cp,rfl,hC⟩:=hv.toC;simp only[Nd.kind_mk,Nd.text_mk,Nd.kids_mk,Nd.pos_mk]at *;have hB:=(aj w #[.int .i64 30,.string ⟨#[]⟩,.slice A 3 cp,.int .i64 p]).1;have J:aF w (.agg #[.int .i64 30,.string ⟨#[]⟩,.slice A 3 cp,.int .i64 p]) (.mk 30 ⟨#[]⟩ [c,b,o] p):=hv;obtain⟨bp,op,A2,c2,A3,c3,A4,c4,rfl,hp,U,O⟩:=TV (af.below J hB);clear hv hC J hn;(go_enter func60,ntmps60);(go_upto_region 14 with fail);generalize w.alloc (.cells #[.int .i64 30,.string ⟨#[]⟩,.slice (some ⟨bp,op,none⟩) 3 cp,.int .i64 p] 24)=W at *;have gd:=hid (ub fun m:Wd (Below W W)=>HE _ c m.wd deep true (hp.below m.ok).2.2.2.2 hc hd (by omega));have gb:=hid (ub fun m:Wd (Below W W)=>N _ b m.wd deep (U.below m.ok).2.2.2.2 hb hd (by omega));have ga:=hid (fun(h:o.kind≠0)(hm:(tx ((ac d).stmt o deep false)).size<=10000000000000000)=>ub fun m:Wd (Below W W)=>HS _ o m.wd deep (O.below m.ok).2.2.2.2 (lH ho h) hd hm);obtain⟨k0,k1,k2,k3⟩:=yq hp;obtain⟨b0,b1,b2,b3⟩:=yq U;obtain⟨D,r1,r2,r3⟩:=yq O;generalize tx ((ac d).expr c deep true)=X at *;generalize tx ((ac d).block b deep)=Y at *;generalize tx ((ac d).stmt o deep false)=Z at *;clear hp U O HE N HS hc hb ho;refine cF W ?_;repeat(go_big_quiet_step (first
  |(go_at_call 9;rename_i m;exact gd.out m)
  |(go_at_call 30;rename_i m;exact gb.out m)))
 refine jQ ?_;intro m;by_cases I:o.kind=0
 ·rw[gG I]at M hM;rw[I]at D;have D:=D m;go_wp2_with fail;go_ret;exact⟨by rw[M.out,oM];rfl,au hB m.ok⟩
 ·rw[gB I]at M hM;rw[gE]at hM;(have e0:(o.kind != 0)=true:=by simpa using I);have HZ:=hid (ga.out I (by omega) m);have D:=D m;have r1:=r1 m;have r2:=r2 m;have r3:=r3 m;go_wp2_with fail;refine HZ.out.mono ?_;rintro e w3⟨rfl,m',rfl⟩;go_wp2_with fail;go_ret;exact⟨by rw[M.out];rfl,au hB m'.ok⟩
theorem RF(d:Nat)(HE:fX d):ri d (fun n=>cE 33 [ck an (aa d).expr] n=true) (cv (ac d)):=by
 intro v n w deep head hv hn hd hM;obtain⟨l,p,rfl,D⟩:=cg hn;obtain⟨x,rfl,M⟩:=dW D;unfold ck at M;rw[gI]at M;have J:Hid (tx (cv (ac d) (.mk 33 ⟨#[]⟩ [x] p) deep head)=if x.kind=0 then(⟨#[114,101,116,117,114,110]⟩:BA)else(⟨#[114,101,116,117,114,110,32]⟩:BA)++tx ((ac d).expr x deep false)):=by
  refine hid ?_;show tx (f8 ⟨#[114,101,116,117,114,110]⟩::(if x.kind=0 then[]else aY::(ac d).expr x deep false))=_;rw[ay,DG];split
  ·rfl
  ·rw[ay,<-ar];rfl
 rw[J.out]at hM;obtain⟨A,cp,rfl,hC⟩:=hv.toC;simp only[Nd.kind_mk,Nd.text_mk,Nd.kids_mk,Nd.pos_mk]at *;have hB:=(aj w #[.int .i64 33,.string ⟨#[]⟩,.slice A 1 cp,.int .i64 p]).1;have I:aF w (.agg #[.int .i64 33,.string ⟨#[]⟩,.slice A 1 cp,.int .i64 p]) (.mk 33 ⟨#[]⟩ [x] p):=hv;obtain⟨bp,op,A2,c2,rfl,N⟩:=ep (af.below I hB) 0 (by simp);simp only[Nd.kids_mk,gN,jF,gZ]at N;have U:=hid (fun(h:x.kind≠0)(hm:(tx ((ac d).expr x deep false)).size<=10000000000000000)=>HE _ x _ deep false N.2.2.2.2 (lH M h) hd hm);obtain⟨p0,p1,p2,p3,-⟩:=N;generalize tx ((ac d).expr x deep false)=X at *;clear hv hC I hn D HE M;by_cases D:x.kind=0
 ·rw[gG D]at J;rw[D]at p0;(go_enter func60,ntmps60);go_wp2_with fail;go_ret;exact⟨by rw[J.out];rfl,hB⟩
 ·rw[gB D,gE]at hM;rw[gB D]at J;(have e0:(x.kind==0)=false:=by simpa using D);have HX:=hid (U.out D (by omega));(go_enter func60,ntmps60);go_wp2_with fail;refine HX.out.mono ?_;rintro e w3⟨rfl,O⟩;go_wp2_with fail;go_ret;exact⟨by rw[J.out];rfl,au hB O⟩
theorem RG(d:Nat):ri d (fun n=>n.kind=34\/n.kind=35) (cv (ac d)):=by intro v n w deep head hv D hd hM;(have I:Hid (tx (cv (ac d) n deep head)=if n.kind=34 then(⟨#[98,114,101,97,107]⟩:BA)else(⟨#[99,111,110,116,105,110,117,101]⟩:BA)):=by refine hid ?_;unfold cv;rw[gB (by omega),gB (by omega),gB (by omega),gB (by omega),gB (by omega),gB (by omega),gB (by omega),gB (by omega),gB (by omega)];rcases D with h|h<;>rw[h]<;>rfl);obtain⟨A,cp,rfl,J⟩:=hv.toC;have hB:=(aj w #[n.kind,n.text,.slice A n.kids.length cp,n.pos]).1;clear hv J hd hM;rcases D with h|h<;>rw[h]at hB I |-;all_goals(go_enter func60,ntmps60);go_wp2_with fail;go_ret;exact⟨by rw[I.out];rfl,hB⟩
theorem OI(d:Nat)(O:fX d):ri d (fun n=>n.kind=5/\iL (aa d) n=true) (cv (ac d)):=by intro v n w deep head hv D hd hM;obtain⟨D,J⟩:=D;(have N:Hid (tx (cv (ac d) n deep head)=tx (pl (ac d) n deep)):=by refine hid ?_;unfold cv;rw[gG D]);rw[N.out]at hM;obtain⟨A,cp,rfl,U⟩:=hv.toC;have hB:=(aj w #[n.kind,n.text,.slice A n.kids.length cp,n.pos]).1;have M:=hid (DM d O _ n _ deep (af.below hv hB) J hd hM);generalize tx (pl (ac d) n deep)=X at *;clear hv U J O;rw[D]at hB M |-;(go_enter func60,ntmps60);go_wp2_with fail;refine M.out.mono ?_;rintro e w3⟨rfl,I⟩;go_wp2_with fail;go_ret;exact⟨by rw[N.out];rfl,au hB I⟩
theorem OJ(d:Nat)(O:yn d)(v:Value)(n:Nd)(w:World)(deep:Nat)(head:Bool)(I:aF w v n)(D:bI (aa d) n=true)(hd:deep+d+1<=1000)(M:(tx (cv (ac d) n deep head)).size<=10000000000000000):
  Calls prog 60 #[v,(deep:Int),.bool head] w fun e w'=>e=.returned (.string (tx (cv (ac d) n deep head)))/\Below w w w':=by(have h:n.kind=36:=by unfold bI at D;rw[gA,gD]at D;exact D.1);(have U:Hid (tx (cv (ac d) n deep head)=tx (oT (ac d) n deep)):=by refine hid ?_;unfold cv;rw[gB (by omega),gB (by omega),gB (by omega),gB (by omega),gB (by omega),gB (by omega),gB (by omega),gB (by omega),gB (by omega),gB (by omega),gB (by omega)]);rw[U.out]at M;obtain⟨A,cp,rfl,hC⟩:=I.toC;have hB:=(aj w #[n.kind,n.text,.slice A n.kids.length cp,n.pos]).1;have N:=hid (yt d O _ n _ deep (af.below I hB) D hd M);generalize tx (oT (ac d) n deep)=X at *;clear I hC D O;rw[h]at hB N |-;(go_enter func60,ntmps60);go_wp2_with fail;refine N.out.mono ?_;rintro e w3⟨rfl,J⟩;go_wp2_with fail;go_ret;exact⟨by rw[U.out];rfl,au hB J⟩
def yM(c:UInt8):List UInt8:=if c=44 then[44,32]else[c]
def OK(s:ByteArray)(i:Nat):ByteArray:=dx (((bytes s).take i).flatMap yM)
theorem sM:∀l:List UInt8,l.all (fun c=>lI c||dY c)=true->l.flatMap yM=l
 |[],_=>rfl
 |c::l,h=>by rw[jX,gA]at h;(have D:c≠44:=by rintro rfl;exact absurd h.1 (by decide));rw[jE,sM l h.2];unfold yM;rw[gB D];rfl
theorem rT{l:List UInt8}(h:aB ⟨l.toArray⟩=true):l.all (fun c=>lI c||dY c)=true/\l.length<=100:=by
 unfold aB dZ at h;simp only[gA,gD]at h;refine⟨?_,h.1⟩;have D:cO l=true:=h.2.1;cases l with
 |nil=>rfl
 |cons c l=>unfold cO at D;rw[gA]at D;rw[jX,D.1,D.2];rfl
theorem OL{x:ByteArray}(h:bR x=true)(O:x≠(⟨#[]⟩:BA)):tx (fR x)=OK x x.size++(⟨#[32,58,61,32]⟩:BA)/\x.size<=201:=by
 unfold bR at h;rw[gP O,ve,gI,gA,gA,gA]at h;unfold fR OK;rw[gB O,bD,show(bytes x).take x.size=bytes x from gV (gC _),show tx [aY,ow ⟨#[58,61]⟩,aY]=(⟨#[32,58,61,32]⟩:BA)from rfl];rcases h with⟨D,M,N⟩|⟨D,M⟩
 ·rw[gG D];have J:bytes x=_:=BI x.data.toList D;unfold cj at N;rw[gA]at N;obtain⟨c1,I⟩:=rT M;obtain⟨c2,l2⟩:=rT N.1;refine⟨?_,?_⟩
  ·congr 1;apply cQ;rw[pU,bX,J,kI,jE];have e1:=sM _ c1;have U:=sM _ c2;unfold fx at e1 U |-;rw[e1,U];simp[fl,TE,cK,aY,yM]
  ·have:=jM List.length J;rw[gM,gO]at this;unfold fx at I l2;rw[dL]at this;omega
 ·(have D:(fx x).2.2=false:=by simpa using D);have J:_=bytes x:=EL x.data.toList D;unfold cj at M;rw[gA]at M;obtain⟨c1,I⟩:=rT M.1;unfold fx at D c1 I |-;rw[J]at c1 I;rw[gB (by rw[D];decide),J,sM _ c1];exact⟨by rw[yh];rfl,by rw[dL]at I;omega⟩
theorem Gt(s:ByteArray)(i:Nat)(h:i<s.size):OK s (i+1)=OK s i++dx (yM ((bytes s).getD i 0)):=by have D:i<(bytes s).length:=h;unfold OK;rw[<-Fi,gU D,kI,jE,vq,kE,jB,gT D];rfl
theorem R9(s:ByteArray):∀i,i<=s.size->(OK s i).size<=2*i
 |0,_=>by unfold OK;rw[vx];exact gC _
 |i+1,h=>by have:=R9 s i (by omega);(have D:(dx (yM ((bytes s).getD i 0))).size<=2:=by show(yM _).length<=2;unfold yM;split<;>simp);rw[Gt s i (by omega),gE];omega
theorem OM{F:cm}{n:Nd}(h:cE 32 [F.expr,F.block] (aw bR n)=true):∃t x b p,n=.mk 32 t [x,b] p/\bR t=true/\F.expr x=true/\F.block b=true:=by obtain⟨t,l,p,rfl,I,J⟩:=aJ (by decide) h;obtain⟨x,b,rfl,D,hb⟩:=iO J;exact⟨t,x,b,p,rfl,I,D,hb⟩
theorem Ty(F:tZ)(t:ByteArray)(x b:Nd)(p:Int)(deep:Nat)(head:Bool):tx (cv F (.mk 32 t [x,b] p) deep head)=(⟨#[102,111,114,32]⟩:BA)++tx (fR t)++(⟨#[114,97,110,103,101,32]⟩:BA)++tx (F.expr x deep true)++(⟨#[32]⟩:BA)++tx (F.block b deep):=by show tx (f8 ⟨#[102,111,114]⟩::aY::(fR t++(f8 ⟨#[114,97,110,103,101]⟩::aY::(F.expr x deep true++(aY::F.block b deep)))))=_;rw[ay,ay aY,bD,ay (f8 ⟨#[114,97,110,103,101]⟩),ay aY (F.expr x deep true++_),bD,ay aY (F.block b deep),<-ar (tx [f8 ⟨#[102,111,114]⟩]),show tx [f8 ⟨#[102,111,114]⟩]++tx [aY]=(⟨#[102,111,114,32]⟩:BA)from rfl,<-ar (tx [f8 ⟨#[114,97,110,103,101]⟩]),show tx [f8 ⟨#[114,97,110,103,101]⟩]++tx [aY]=(⟨#[114,97,110,103,101,32]⟩:BA)from rfl];simp only[ar];rfl
theorem RH(d:Nat)(HE:fX d)(N:mO d):ri d (fun n=>cE 32 [(aa d).expr,(aa d).block] (aw bR n)=true) (cv (ac d)):=by
 intro v n w deep head hv hn hd hM;obtain⟨t,x,b,p,rfl,ht,hx,hb⟩:=OM hn;have HR:=hid (Ty (ac d) t x b p deep head);rw[HR.out]at hM;simp only[gE]at hM;have M:=hid (fun h:t≠(⟨#[]⟩:BA)=>OL ht h);obtain⟨A,cp,rfl,hC⟩:=hv.toC;simp only[Nd.kind_mk,Nd.text_mk,Nd.kids_mk,Nd.pos_mk]at *;have hB:=(aj w #[.int .i64 32,.string t,.slice A 2 cp,.int .i64 p]).1;have ga:aF w (.agg #[.int .i64 32,.string t,.slice A 2 cp,.int .i64 p]) (.mk 32 t [x,b] p):=hv;have hN:=(aj w #[.int .i64 32,.string t,.slice A 2 cp,.int .i64 p]).2;obtain⟨bp,op,A2,c2,A3,c3,rfl,hp,hq⟩:=Fg (af.below ga hB);clear hv hC ga hn;(go_enter func60,ntmps60);go_wp2_with fail;generalize w.alloc (.cells #[.int .i64 32,.string t,.slice (some ⟨bp,op,none⟩) 2 cp,.int .i64 p] 24)=W at *;go_loopg [10,11] t.size (fun k u10 u11 wr=>∃i:Nat,i<=t.size/\t.size-i<=k/\u11=.int .i64 (i:Int)/\u10=.string ((⟨#[102,111,114,32]⟩:BA)++OK t i)/\W=wr)
 case atStart=>exact⟨0,gQ _,by omega,rfl,rfl,rfl⟩
 case round=>
  obtain⟨i,hi,hk,rfl,rfl,rfl⟩:=hrel;have gh:=R9 t i hi;obtain⟨n0,n1,n2,n3,-,-,-,-⟩:=ab hN;by_cases I:i<t.size
  ·(have D:t≠(⟨#[]⟩:BA):=by rintro rfl;exact absurd I (Nat.not_lt_zero _));have O:=(M.out D).2;(have U:(i:Int)<(t.size:Int):=by omega);have gg:=fun W=>AK t i I W;have HS:=hid (Gt t i I);have HO:=hid (Ou t i I);have gi:=ml t i;have J:aI t i=((bytes t).getD i 0).toNat:=rfl;generalize(bytes t).getD i 0=c at *;generalize aI t i=cn at *;generalize OK t i=S at *;(have p0:(0:Int)<=(i:Int):=by omega);(have p1:(i:Int)<=(t.size:Int):=by omega);(have p2:(0:Int)<=(i:Int)+1:=by omega);(have p3:(i:Int)+1<=(t.size:Int):=by omega);have q1:IntKind.i64.wrap ((i:Int)+1)=(i:Int)+1:=jC _ (by omega);(have q2:((i:Int)+1).toNat=i+1:=by omega);(have hz:(t.extract i (i+1)).size=1:=by rw[HO.out];rfl);clear hp hq HE N hx hb;by_cases c1:c=44
   ·subst c1;obtain rfl:cn=44:=J;go_wp2_with fail;go_roundg (t.size-(i+1))
    case measure=>omega
    case rel=>exact⟨i+1,by omega,gC _,by go_num,by rw[HS.out,HO.out];simp only[ar];rfl,rfl⟩
   ·(have e1:((cn:Int)==44)=false:=by rw[gF];intro h;refine c1 ?_;rw[<-vt,<-J];show cn=44;omega);rw[show dx (yM c)=⟨#[c]⟩by unfold yM;rw[gB c1];rfl]at HS;clear J c1;go_wp2_with fail;go_roundg (t.size-(i+1))
    case measure=>omega
    case rel=>exact⟨i+1,by omega,gC _,by go_num,by rw[HS.out,HO.out];simp only[ar],rfl⟩
  ·(have U:¬ (i:Int)<(t.size:Int):=by omega);(obtain rfl:i=t.size:=by omega);have ge:=hid (ub fun m:Wd (Below W W)=>HE _ x m.wd deep true (hp.below m.ok).2.2.2.2 hx hd (by omega));have gd:=hid (ub fun m:Wd (Below W W)=>N _ b m.wd deep (hq.below m.ok).2.2.2.2 hb hd (by omega));obtain⟨k0,k1,k2,k3⟩:=yq hp;obtain⟨b0,b1,b2,b3⟩:=yq hq;generalize tx ((ac d).expr x deep true)=X at *;generalize tx ((ac d).block b deep)=Y at *;clear hp hq HE N hx hb hi hk hN;have H0:=hid (fun h:t=(⟨#[]⟩:BA)=>show tx (fR t)=OK t t.size by subst h;rfl);generalize OK t t.size=S at *;by_cases D:t=(⟨#[]⟩:BA);(have gb:t.toList.isEmpty=true:=by rw[ao];simpa using D);(have O:t.size<=201:=by rw[D];exact gQ _);rw[H0.out D]at HR hM
   rotate_left
   (have gb:t.toList.isEmpty=false:=by rw[ao];simpa using D);have O:=(M.out D).2;rw[(M.out D).1]at HR hM;rw[gE]at hM
   rotate_left
   all_goals
    clear D;go_wp2_with fail;refine cF W ?_;repeat(go_big_quiet_step (first
     |(go_at_call 9;rename_i m;exact ge.out m)
     |(go_at_call 30;rename_i m;exact gd.out m)))
    refine jQ ?_;intro m;go_wp2_with fail;go_ret;exact⟨by rw[HR.out];simp only[ar];rfl,au hB m.ok⟩
theorem Tz{d:Nat}{n:Nd}(h:cE 31 [ck (ck an (dz (aa d))) (ck (fz (aa d)) (fy (aa d))),ck an (aa d).expr,ck (ck an (fz (aa d))) (ck (fy (aa d)) (fd (aa d))),(aa d).block] n=true):
  ∃a c u b p,n=.mk 31 ⟨#[]⟩ [a,c,u,b] p/\(an a=true\/OH d a)/\(an c=true\/(aa d).expr c=true)/\(an u=true\/OH d u)/\(aa d).block b=true:=by
 obtain⟨l,p,rfl,M⟩:=cg h;obtain⟨a,c,u,b,rfl,J,I,D,hb⟩:=PE M;unfold ck at J I D;simp only[gI]at J I D;refine⟨a,c,u,b,p,rfl,?_,I,?_,hb⟩<;>unfold OH
 ·rcases J with(h|h)|h|h<;>simp[h]
 ·rcases D with(h|h)|h|h<;>simp[h]
theorem RI(l:List It):tx (cK 59::aY::l)=(⟨#[59,32]⟩:BA)++tx l:=by rw[ay,ay aY,<-ar];rfl
theorem TA(F:tZ)(a c u b:Nd)(p:Int)(deep:Nat)(head:Bool):tx (cv F (.mk 31 ⟨#[]⟩ [a,c,u,b] p) deep head) =
  (⟨#[102,111,114,32]⟩:BA)++(if a.kind=0/\u.kind=0 then(if c.kind=0 then(⟨#[]⟩:BA)else tx (F.expr c deep true)++(⟨#[32]⟩:BA))else(if a.kind=0 then(⟨#[]⟩:BA)else tx (eH F a deep true))++(⟨#[59,32]⟩:BA)++(if c.kind=0 then(⟨#[]⟩:BA)else tx (F.expr c deep true))++(⟨#[59,32]⟩:BA)++(if u.kind=0 then(⟨#[]⟩:BA)else tx (eH F u deep true)++(⟨#[32]⟩:BA)))++tx (F.block b deep):=by show tx (f8 ⟨#[102,111,114]⟩::aY::(sr F (.mk 31 ⟨#[]⟩ [a,c,u,b] p) deep++F.block b deep))=_;rw[ay,ay aY,bD,<-ar,<-ar];refine jM (· ++ tx (F.block b deep)) (jM ((⟨#[102,111,114,32]⟩:BA) ++ ·) ?_);unfold sr;by_cases J:a.kind=0<;>by_cases I:c.kind=0<;>by_cases D:u.kind=0<;>simp[J,I,D,aW,bD,RI,Ff,yi,ar,lR]
theorem ON(d:Nat)(HE:fX d)(ga:mO d):ri d (fun n=>cE 31 [ck (ck an (dz (aa d))) (ck (fz (aa d)) (fy (aa d))),ck an (aa d).expr,ck (ck an (fz (aa d))) (ck (fy (aa d)) (fd (aa d))),(aa d).block] n=true) (cv (ac d)):=by
 intro v n w deep head hv hn hd hM;obtain⟨a,c,u,b,p,rfl,N,M,J,hb⟩:=Tz hn;have HR:=hid (TA (ac d) a c u b p deep head);rw[HR.out]at hM;obtain⟨A,cp,rfl,hC⟩:=hv.toC;simp only[Nd.kind_mk,Nd.text_mk,Nd.kids_mk,Nd.pos_mk]at *;have hB:=(aj w #[.int .i64 31,.string ⟨#[]⟩,.slice A 4 cp,.int .i64 p]).1;have I:aF w (.agg #[.int .i64 31,.string ⟨#[]⟩,.slice A 4 cp,.int .i64 p]) (.mk 31 ⟨#[]⟩ [a,c,u,b] p):=hv;obtain⟨bp,op,A1,c1,rfl,hp⟩:=ep (af.below I hB) 0 (by simp);obtain⟨_,_,A2,c2,e,hq⟩:=ep (af.below I hB) 1 (by simp);injection e with e;injection e with e1 e2;subst e1 e2;obtain⟨_,_,A3,c3,e,hr⟩:=ep (af.below I hB) 2 (by simp);injection e with e;injection e with e1 e2;subst e1 e2;obtain⟨_,_,A4,c4,e,hs⟩:=ep (af.below I hB) 3 (by simp);injection e with e;injection e with e1 e2;subst e1 e2;simp only[Nd.kids_mk,gN,kC,jF,gZ,qe,Nat.reduceMul]at hp hq hr hs;clear hv hC I hn;(go_enter func60,ntmps60);(go_upto_region 19 with fail);generalize w.alloc (.cells #[.int .i64 31,.string ⟨#[]⟩,.slice (some ⟨bp,op,none⟩) 4 cp,.int .i64 p] 24)=W at *;have HA:=hid (fun(w':World)(D:Below W W w')(h:a.kind≠0)(O:(tx (eH (ac d) a deep true)).size<=10000000000000000)=>B1 d HE _ a w' deep true (hp.below D).2.2.2.2 (lH N h) hd O);have HC:=hid (fun(w':World)(D:Below W W w')(h:c.kind≠0)(O:(tx ((ac d).expr c deep true)).size<=10000000000000000)=>HE _ c w' deep true (hq.below D).2.2.2.2 (lH M h) hd O);have HU:=hid (fun(w':World)(D:Below W W w')(h:u.kind≠0)(O:(tx (eH (ac d) u deep true)).size<=10000000000000000)=>B1 d HE _ u w' deep true (hr.below D).2.2.2.2 (lH J h) hd O);have HD:=hid (fun(w':World)(D:Below W W w')(O:(tx ((ac d).block b deep)).size<=10000000000000000)=>ga _ b w' deep (hs.below D).2.2.2.2 hb hd O);have HK:Hid (_/\_/\_/\_):=hid (⟨hp,hq,hr,hs⟩);generalize tx ((ac d).expr c deep true)=C at *;generalize tx ((ac d).block b deep)=B at *;generalize tx (eH (ac d) a deep true)=X at *;generalize tx (eH (ac d) u deep true)=U at *;have D:=gH W.heap.size W;clear hp hq hr hs N M J hb HE ga;by_cases N:a.kind=0<;>by_cases M:c.kind=0<;>by_cases J:u.kind=0;all_goals
  simp only[N,M,J,and_self,vy,and_false,kG,jW,oM,lR,gE]at HR hM;obtain⟨⟨a0,a1,a2,a3,-⟩,⟨q0,q1,q2,q3,-⟩,⟨u0,u1,u2,u3,-⟩,⟨s0,s1,s2,s3,-⟩⟩:=HK.out;(first|rw[N]at a0|have za:(a.kind != 0)=true:=by simpa using N);(first|rw[M]at q0|have zc:(c.kind != 0)=true:=by simpa using M);(first|rw[J]at u0|have zu:(u.kind != 0)=true:=by simpa using J);go_wp2_with fail;repeat
   (first
    |(with_reducible refine(HA.out _ D N (by omega)).mono ?_)
    |(with_reducible refine(HC.out _ D M (by omega)).mono ?_)
    |(with_reducible refine(HU.out _ D J (by omega)).mono ?_)
    |(with_reducible refine(HD.out _ D (by omega)).mono ?_))
   rintro e w3⟨rfl,gb⟩
   have D:=au D gb
   clear a0 a1 a2 a3 q0 q1 q2 q3 u0 u1 u2 u3 s0 s1 s2 s3
   obtain⟨⟨a0,a1,a2,a3,-⟩,⟨q0,q1,q2,q3,-⟩,⟨u0,u1,u2,u3,-⟩,⟨s0,s1,s2,s3,-⟩⟩:=show _/\_/\_/\_ from⟨HK.out.1.below D,HK.out.2.1.below D,HK.out.2.2.1.below D,HK.out.2.2.2.below D⟩
   (try rw[N]at a0)
   (try rw[M]at q0)
   (try rw[J]at u0)
   go_wp2_with fail
  go_ret;exact⟨by rw[HR.out];simp only[ar];rfl,au hB D⟩
theorem IW(d:Nat)(N:fX d)(M:mO d)(O:yn d):yn (d+1):=by
 intro v n w deep hv D hd J;(have I:deep+d<=1000:=by omega);have D:aE (aa d) n=true:=D;have J:(tx (cv (ac d) n deep false)).size<=10000000000000000:=J;show Calls prog 60 _ _ fun e w'=>e=.returned (.string (tx (cv (ac d) n deep false)))/\Below w w w';(have sim:OH d n->26<=n.kind/\n.kind<=29->Calls prog 60 #[v,(deep:Int),.bool false] w fun e w'=>e=.returned (.string (tx (cv (ac d) n deep false)))/\Below w w w':=by intro h hk;rw[oz _ hk]at J |-;exact B1 d N v n w deep false hv h I J);unfold aE at D;by_cases h:n.kind=5
 ·rw[gG h]at D;exact OI d N v n w deep false hv ⟨h,D⟩ I J
 rw[gB h]at D;by_cases h:n.kind=26
 ·rw[gG h]at D;exact sim (.inl D) (by omega)
 rw[gB h]at D;by_cases h:n.kind=27
 ·rw[gG h]at D;exact sim (.inr (.inl D)) (by omega)
 rw[gB h]at D;by_cases h:n.kind=28
 ·rw[gG h]at D;exact sim (.inr (.inr (.inl D))) (by omega)
 rw[gB h]at D;by_cases h:n.kind=29
 ·rw[gG h]at D;exact sim (.inr (.inr (.inr D))) (by omega)
 rw[gB h]at D;by_cases h:n.kind=30
 ·rw[gG h]at D;exact RE d N M O v n w deep false hv D I J
 rw[gB h]at D;by_cases h:n.kind=31
 ·rw[gG h]at D;exact ON d N M v n w deep false hv D I J
 rw[gB h]at D;by_cases h:n.kind=32
 ·rw[gG h]at D;exact RH d N M v n w deep false hv D I J
 rw[gB h]at D;by_cases h:n.kind=33
 ·rw[gG h]at D;exact RF d N v n w deep false hv D I J
 rw[gB h]at D;by_cases h:n.kind=34\/n.kind=35
 ·exact RG d v n w deep false hv h I J
 rw[gB h]at D;exact OJ d O v n w deep false hv D hd J
theorem RJ{α:Type}(s:List It)(f:α->List It)(D:∀x,1<=(tx (f x)).size):∀l:List α,l≠[]->0<(tx (cr s (l.map f))).size
 |[],h=>absurd rfl h
 |[x],_=>D x
 |x::y::l,_=>by have:=D x;show 0<(tx (f x++_)).size;rw[bD,gE];omega
theorem RK(F:tZ)(t:ByteArray)(x:Nd)(p:Int):tx (dP F (.mk 7 t [x] p))=t++(⟨#[32]⟩:BA)++tx (fJ F x):=by show tx (iq t::aY::fJ F x)=_;rw[ay,ay aY,oQ,yi,ar]
theorem RL(F:tZ)(p:Nd):1<=(tx (dP F p)).size:=by unfold dP;rw[ay,ay aY,gE,gE];show 1<=_+(1+_);omega
theorem RM{F:cm}{n:Nd}(h:fE F n=true):∃t x p,n=.mk 7 t [x] p/\(F.typ x||bo F x)=true:=by obtain⟨t,l,a,rfl,hs,I⟩:=aJ (by decide) h;obtain⟨x,rfl,D⟩:=dW I;refine⟨t,x,a,rfl,?_⟩;unfold ck eS at D;rw[gI,gA]at D;rw[gI];exact D.imp (fun h=>h.2) id
theorem yu(d:Nat):Ro 46 (bj (aa d)) (fq (ac d)):=by
 intro v n w hv hn hM;obtain⟨l,p,rfl,hl⟩:=sq hn;have HL:=hid (List.all_eq_true.1 hl);have HR:Hid (tx (fq (ac d) (.mk 6 ⟨#[]⟩ l p))=_):=hid (On (dP (ac d)) l);have hS:(tx (cr ch (l.map (dP (ac d))))).size<=10000000000000000:=by
  rw[HR.out]at hM;split at hM
  ·rename_i h;subst h;exact gQ _
  ·rw[gE,gE]at hM;omega
 have ga:=hid (RJ ch (dP (ac d)) (RL _) l);obtain⟨A,cp,rfl,hC⟩:=hv.toC;have gd:=pW ch (by decide) (dP (ac d)) l;have HV:Hid (aF w (.agg #[.int .i64 6,.string ⟨#[]⟩,.slice A l.length cp,.int .i64 p]) (.mk 6 ⟨#[]⟩ l p)):=hid hv;have hB:=(aj w #[.int .i64 6,.string ⟨#[]⟩,.slice A l.length cp,.int .i64 p]).1;have ge:=(aj w #[.int .i64 6,.string ⟨#[]⟩,.slice A l.length cp,.int .i64 p]).2;clear hn hC hv hl;simp only[Nd.kind_mk,Nd.text_mk,Nd.kids_mk,Nd.pos_mk];(go_enter func46,ntmps46);go_wp2_with fail;generalize w.alloc (.cells #[.int .i64 6,.string ⟨#[]⟩,.slice A l.length cp,.int .i64 p] 24)=w0 at *;go_loopg [3,4] l.length (fun k u3 u4 wr=>∃i:Nat,i<=l.length/\l.length-i<=k/\u4=.int .i64 (i:Int)/\u3=.string (tx (cr ch ((l.take i).map (dP (ac d)))))/\Below w0 w0 wr)
 case atStart=>exact⟨0,gQ _,by omega,rfl,rfl,gH _ _⟩
 case round=>
  obtain⟨i,hi,hk,rfl,rfl,I⟩:=hrel;have gj:=lS ch (dP (ac d)) l i hi;obtain⟨x0,x1,x2,x3,-,-,-,-⟩:=ab (ge.bl I);by_cases N:i<l.length
  ·(have gb:(i:Int)<(l.length:Int):=by omega);(have h0:(0:Int)<=(i:Int):=by omega);obtain⟨-,-,n2,-⟩:=Gr (ge.bl I);obtain⟨bp,op,A2,c2,gm,hp⟩:=ep (af.below HV.out (au hB I)) i N;simp only[Nd.kids_mk]at hp;subst gm;have D:=hid (tz ch (dP (ac d)) l i N);have J:=lS ch (dP (ac d)) l (i+1) N;rw[D.out,gE,gE]at J;have gi:=hid (RM (HL.out _ (gS N)));generalize l[i]=q1 at *;obtain⟨t,x,pp,rfl,hx⟩:=gi.out;have HX:=hid hx;have gh:=hid (RK (ac d) t x pp);rw[gh.out]at D J;rw[gE,gE]at J;obtain⟨bx,ox,A3,c3,rfl,M⟩:=ep hp.2.2.2.2 0 (by simp);simp only[Nd.kids_mk,gN,jF,gZ]at M;have gg:=hid (fun m:Wd (Below wr wr)=>DJ d _ x m.wd (M.below m.ok).2.2.2.2 HX.out (by omega));obtain⟨k0,k1,k2,k3⟩:=yq hp;obtain⟨b0,b1,b2,b3⟩:=yq M;simp only[Nd.kind_mk,Nd.text_mk,Nd.kids_mk,Nd.pos_mk]at k0 k1 k2 k3;generalize tx (cr ch ((l.take i).map (dP (ac d))))=S at *;generalize tx (fJ (ac d) x)=X at *;clear gi hx gh hp M;rcases kJ i with U|U;(have yk:¬ (0:Int)<(i:Int):=by omega);rw[rR ch U]at D J;simp only[lR]at D
   rotate_left
   (have yk:(0:Int)<(i:Int):=by omega);rw[rS ch U,tw]at D J
   rotate_left
   all_goals
    clear U;go_wp2_with fail;refine cF wr ?_;(repeat(go_big_quiet_step ((go_at_call 28;rename_i m;exact ub gg.out m))));refine jQ ?_;intro m;have gl:=m.ok;clear k0 k1 k2 k3 b0 b1 b2 b3 n2 x0 x1 x2 x3 gg;go_wp2_with fail;go_roundg (l.length-(i+1))
    case measure=>omega
    case rel=>exact⟨i+1,by omega,gC _,by go_num,by first|exact jM Value.string D.out.symm|(rw[D.out];simp only[ar]),au I gl⟩
  ·(have gb:¬ (i:Int)<(l.length:Int):=by omega);have D:=hid (show tx (cr ch ((l.take i).map (dP (ac d))))=tx (cr ch (l.map (dP (ac d))))by rw[gV (by omega)]);rw[<-D.out]at HR hS gj gd ga;generalize tx (cr ch ((l.take i).map (dP (ac d))))=S at *;by_cases O:l=[]
   ·subst O;rw[gG rfl]at HR;have gn:S=(⟨#[]⟩:BA):=D.out;subst gn;go_wp2_with fail;go_ret;exact⟨by rw[HR.out];rfl,au hB I⟩
   ·have hp:=ga.out O;(have gp:S.toList.isEmpty=false:=by rw[ao,gK];rintro rfl;exact absurd hp (by decide));rw[gB O]at HR;rw[HR.out,gE,gE]at hM;clear O;go_wp2_with fail;go_ret;exact⟨by rw[HR.out];simp only[ar];rfl,au hB I⟩
end
end Go.Proofs.YteialcjaiocjdaaGreatDoor
