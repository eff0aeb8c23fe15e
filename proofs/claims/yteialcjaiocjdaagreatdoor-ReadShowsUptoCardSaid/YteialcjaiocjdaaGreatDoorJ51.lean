/-
  Parts of the proof: Pxf Pxg Psh. By an AI agent.
-/
import Derived.Test.YteialcjaiocjdaaGreatDoorJ50
import Derived.Test.YteialcjaiocjdaaGreatDoorJ35
import Derived.Test.YteialcjaiocjdaaGreatDoorJ43
import Derived.Test.YteialcjaiocjdaaGreatDoorJ46
import Derived.Test.YteialcjaiocjdaaGreatDoorJ47
import Derived.Test.YteialcjaiocjdaaGreatDoorJ16
open Go.Proofs.Tryz
set_option maxRecDepth 100000
set_option maxHeartbeats 8000000
namespace Go.Proofs.YteialcjaiocjdaaGreatDoor
section
open Go.RowKit Go.Lib Go.Proofs
attribute [local go_sem ↓] Go.wp_at_zero Go.wp_at_succ
theorem RN{F:cm}{n:Nd}(h:cE 2 [bj F,er F,F.block] (aw aB n)=true):∃t x y b p,n=.mk 2 t [x,y,b] p/\bj F x=true/\er F y=true/\F.block b=true:=by obtain⟨t,l,p,rfl,M,J⟩:=aJ (by decide) h;obtain⟨x,y,b,rfl,I,D,hb⟩:=CY J;exact⟨t,x,y,b,p,rfl,I,D,hb⟩
theorem RO{F:cm}{n:Nd}(h:cE 3 [bj F,ck (ck F.typ (bE F)) (bo F)] (aw aB n)=true):∃t x y p,n=.mk 3 t [x,y] p/\bj F x=true/\(bE F y=true\/(F.typ y||bo F y)=true):=by obtain⟨t,l,p,rfl,M,J⟩:=aJ (by decide) h;obtain⟨x,y,rfl,I,D⟩:=iO J;unfold ck at D;simp only[gI]at D |-;exact⟨t,x,y,p,rfl,I,by rcases D with(h|h)|h<;>simp[h]⟩
theorem RP{F:cm}{n:Nd}(h:cE 4 [bj F,F.typ] (aw aB n)=true):∃t x y p,n=.mk 4 t [x,y] p/\bj F x=true/\F.typ y=true:=by obtain⟨t,l,p,rfl,M,J⟩:=aJ (by decide) h;obtain⟨x,y,rfl,I,D⟩:=iO J;exact⟨t,x,y,p,rfl,I,D⟩
theorem RQ(d:Nat)(t:ByteArray)(x y b:Nd)(p:Int):tx (eN (ac d) (.mk 2 t [x,y,b] p))=(⟨#[102,117,110,99,32]⟩:BA)++t++tx (fq (ac d) x)++tx (eg (ag d) y)++(⟨#[32]⟩:BA)++tx ((ac d).block b 0):=by show tx (f8 ⟨#[102,117,110,99]⟩::aY::iq t::(fq (ac d) x++(eg (ac d).typ y++(aY::(ac d).block b 0))))=_;rw[ay,ay aY (_::_),ay (iq t),oQ,bD,bD,ay aY ((ac d).block b 0),tC];simp only[ar];rfl
theorem RR(d:Nat)(t:ByteArray)(x y:Nd)(p:Int):tx (eN (ac d) (.mk 4 t [x,y] p))=(⟨#[116,121,112,101,32]⟩:BA)++t++tx (fq (ac d) x)++(⟨#[32,61,32]⟩:BA)++tx (ag d y):=by show tx (f8 ⟨#[116,121,112,101]⟩::aY::iq t::(fq (ac d) x++(aY::cK 61::aY::(ac d).typ y)))=_;rw[ay,ay aY (iq t::_),ay (iq t),oQ,bD,ay aY (cK 61::_),ay (cK 61),ay aY ((ac d).typ y),tC];simp only[ar];rfl
theorem TB(F:tZ)(y:Nd):tx (oU F y)=(⟨#[115,116,114,117,99,116,32,123,10]⟩:BA)++(tx (y.kids.flatMap (cM F))++(⟨#[125]⟩:BA)):=by unfold oU;rw[ay,ay aY,ay (cK 123),ay (.gap 10),bD,<-ar,<-ar,<-ar];rfl
theorem RS(d:Nat)(t:ByteArray)(x y:Nd)(p:Int):tx (eN (ac d) (.mk 3 t [x,y] p))=(⟨#[116,121,112,101,32]⟩:BA)++t++tx (fq (ac d) x)++(⟨#[32]⟩:BA)++if y.kind=13 then(⟨#[115,116,114,117,99,116,32,123,10]⟩:BA)++(tx (y.kids.flatMap (cM (ac d)))++(⟨#[125]⟩:BA))else tx (fJ (ac d) y):=by
 show tx (f8 ⟨#[116,121,112,101]⟩::aY::iq t::(fq (ac d) x++(aY::(if y.kind=13 then oU (ac d) y else fJ (ac d) y))))=_;rw[ay,ay aY (_::_),ay (iq t),oQ,bD,ay aY (if y.kind=13 then oU (ac d) y else fJ (ac d) y)];split
 ·rw[TB];simp only[<-ar];rfl
 ·simp only[<-ar];rfl
theorem OO{F:cm}{n:Nd}(h:io F n=true):∃t x p,n=.mk 9 t [x] p/\F.typ x=true:=by obtain⟨t,l,a,rfl,hs,I⟩:=aJ (by decide) h;obtain⟨x,rfl,D⟩:=dW I;exact⟨t,x,a,rfl,D⟩
theorem OP(d:Nat)(t:ByteArray)(x:Nd)(p:Int):tx (cM (ac d) (.mk 9 t [x] p))=(⟨#[9]⟩:BA)++t++(⟨#[32]⟩:BA)++tx (ag d x)++(⟨#[10]⟩:BA):=by show tx (.gap 9::iq t::aY::((ac d).typ x++[.nl]))=_;rw[ay,ay (iq t),ay aY,bD,oQ,tC];simp only[ar];rfl
theorem OQ(F:tZ)(x:Nd):1<=(tx (cM F x)).size:=by unfold cM;rw[ay,gE];exact Nat.le_add_right _ _
def DN(d:Nat)(P:Nd->Bool):Prop:=Ro 20 P (eN (ac d))
theorem OR(d:Nat)(hd:d<=1000)(D:mO d):DN d (fun n=>cE 2 [bj (aa d),er (aa d),(aa d).block] (aw aB n)):=by
 intro v n w hv hn hM;obtain⟨t,x,y,b,p,rfl,hx,h,hb⟩:=RN hn;have HR:=hid (RQ d t x y b p);rw[HR.out]at hM;simp only[gE]at hM;obtain⟨A,cp,rfl,hC⟩:=hv.toC;simp only[Nd.kind_mk,Nd.text_mk,Nd.kids_mk,Nd.pos_mk]at *;obtain⟨hB,hN⟩:=aj w #[.int .i64 2,.string t,.slice A 3 cp,.int .i64 p];obtain⟨bp,op,A1,c1,A2,c2,A3,c3,rfl,M,J,I⟩:=TV (af.below hv hB);clear hv hC hn;(go_enter func20,ntmps20);(go_upto_region 3 with fail);generalize w.alloc (.cells #[.int .i64 2,.string t,.slice (some ⟨bp,op,none⟩) 3 cp,.int .i64 p] 24)=W at *;have U:=hid (ub fun m:Wd (Below W W)=>yu d _ x m.wd (M.below m.ok).2.2.2.2 hx (by omega));have O:=hid (ub fun m:Wd (Below W W)=>yj d (lu d) _ y m.wd (J.below m.ok).2.2.2.2 h (by omega));have N:=hid (ub fun m:Wd (Below W W)=>D _ b m.wd 0 (I.below m.ok).2.2.2.2 hb (by omega) (by omega));obtain⟨k0,k1,k2,k3⟩:=yq M;obtain⟨b0,b1,b2,b3⟩:=yq J;obtain⟨r0,r1,r2,r3⟩:=yq I;obtain⟨n0,n1,n2,n3⟩:=Gr hN;generalize tx (fq (ac d) x)=X at *;generalize tx (eg (ag d) y)=Y at *;generalize tx ((ac d).block b 0)=Z at *;clear M J I D hx h hb hN;refine cF W ?_;repeat(go_big_quiet_step (first
  |(go_at_call 46;rename_i m;exact U.out m)
  |(go_at_call 29;rename_i m;exact O.out m)
  |(go_at_call 30;rename_i m;exact N.out m)))
 refine jQ ?_;intro m;go_wp2_with fail;go_ret;exact⟨by rw[HR.out];rfl,au hB m.ok⟩
theorem OS(d:Nat):DN d (fun n=>cE 4 [bj (aa d),(aa d).typ] (aw aB n)):=by
 intro v n w hv hn hM;obtain⟨t,x,y,p,rfl,O,N⟩:=RP hn;have h:=hid (RR d t x y p);rw[h.out]at hM;simp only[gE]at hM;obtain⟨A,cp,rfl,hC⟩:=hv.toC;simp only[Nd.kind_mk,Nd.text_mk,Nd.kids_mk,Nd.pos_mk]at *;obtain⟨hB,U⟩:=aj w #[.int .i64 4,.string t,.slice A 2 cp,.int .i64 p];obtain⟨bp,op,A1,c1,A2,c2,rfl,I,D⟩:=Fg (af.below hv hB);clear hv hC hn;(go_enter func20,ntmps20);(go_upto_region 16 with fail);generalize w.alloc (.cells #[.int .i64 4,.string t,.slice (some ⟨bp,op,none⟩) 2 cp,.int .i64 p] 24)=W at *;have M:=hid (ub fun m:Wd (Below W W)=>yu d _ x m.wd (I.below m.ok).2.2.2.2 O (by omega));have J:=hid (ub fun m:Wd (Below W W)=>lu d _ y m.wd (D.below m.ok).2.2.2.2 N (by omega));obtain⟨k0,k1,k2,k3⟩:=yq I;obtain⟨b0,b1,b2,b3⟩:=yq D;obtain⟨n0,n1,n2,n3⟩:=Gr U;generalize tx (fq (ac d) x)=X at *;generalize tx (ag d y)=Y at *;clear I D O N U;refine cF W ?_;repeat(go_big_quiet_step (first
  |(go_at_call 46;rename_i m;exact M.out m)
  |(go_at_call 28;rename_i m;exact J.out m)))
 refine jQ ?_;intro m;go_wp2_with fail;go_ret;exact⟨by rw[h.out];rfl,au hB m.ok⟩
theorem OT(d:Nat)(hd:d<=1000)(U:fX d):DN d (fun n=>decide (n.kind≠2)&&(decide (n.kind≠3)&&(decide (n.kind≠4)&&iL (aa d) n))):=by intro v n w hv D hM;simp only[gA,gD]at D;obtain⟨N,M,J,D⟩:=D;(have O:Hid (tx (eN (ac d) n)=tx (pl (ac d) n 0)):=by refine hid ?_;unfold eN;rw[gB N,gB M,gB J]);rw[O.out]at hM;obtain⟨t,a,b,p,rfl,-⟩:=OD D;obtain⟨A,cp,rfl,hC⟩:=hv.toC;obtain⟨hB,h⟩:=aj w #[.int .i64 5,.string t,.slice A 2 cp,.int .i64 p];have HX:=hid (DM d U _ _ _ 0 (af.below hv hB) D (by omega) hM);generalize tx (pl (ac d) (.mk 5 t [a,b] p) 0)=X at *;simp only[Nd.kind_mk,Nd.text_mk,Nd.kids_mk,Nd.pos_mk]at *;clear hv hC D U h N M J;(go_enter func20,ntmps20);go_wp2_with fail;refine HX.out.mono ?_;rintro e w3⟨rfl,I⟩;go_wp2_with fail;go_ret;exact⟨by rw[O.out];rfl,au hB I⟩
theorem OU(d:Nat):DN d (fun n=>cE 3 [bj (aa d),ck (ck (aa d).typ (bE (aa d))) (bo (aa d))] (aw aB n)):=by
 intro v n w hv hn hM;obtain⟨t,x,y,p,rfl,hx,hy⟩:=RO hn;have HR:=hid (RS d t x y p);rw[HR.out]at hM;simp only[gE]at hM;obtain⟨A,cp,rfl,hC⟩:=hv.toC;simp only[Nd.kind_mk,Nd.text_mk,Nd.kids_mk,Nd.pos_mk]at *;obtain⟨hB,hN⟩:=aj w #[.int .i64 3,.string t,.slice A 2 cp,.int .i64 p];obtain⟨bp,op,A1,c1,A2,c2,rfl,hp,hq⟩:=Fg (af.below hv hB);clear hv hC hn;(go_enter func20,ntmps20);(go_upto_region 5 with fail);generalize w.alloc (.cells #[.int .i64 3,.string t,.slice (some ⟨bp,op,none⟩) 2 cp,.int .i64 p] 24)=W at *;have J:=hid (ub fun m:Wd (Below W W)=>yu d _ x m.wd (hp.below m.ok).2.2.2.2 hx (by omega));obtain⟨k0,k1,k2,k3⟩:=yq hp;obtain⟨b0,b1,b2,b3⟩:=yq hq;obtain⟨n0,n1,n2,n3⟩:=Gr hN;generalize tx (fq (ac d) x)=X at *;clear hp hx hN;refine cF W ?_;(repeat(go_big_quiet_step ((go_at_call 46;rename_i m;exact J.out m))));refine jQ ?_;intro m;have b0:=b0 m;have b1:=b1 m;have b2:=b2 m;have b3:=b3 m;have n2:=n2 m;have hq:=hq.below m.ok;have hW:=au hB m.ok;clear k0 k1 k2 k3 n0 n1 n3 J;generalize m.wd=W2 at *;obtain⟨ge,gb⟩:=aj W2 #[y.kind,y.text,.slice A2 y.kids.length c2,y.pos];have D:=af.below hq.2.2.2.2 ge;have gd:=au hW ge;by_cases O:y.kind=13
 ·rw[gG O]at HR hM;simp only[gE]at hM;have hS:bE (aa d) y=true:=by
   refine hy.resolve_right fun h=>?_;rw[gI]at h;rcases h with h|h
   ·have:=typ_kind h;omega
   ·obtain⟨l,p,rfl,-⟩:=yl h;exact absurd O (show ¬ (14:Int)=13 by decide)
  unfold bE at hS;simp only[gA]at hS;have HL:=hid (List.all_eq_true.1 hS.2.2);have gn:=ux (cM (ac d)) (OQ _) y.kids;rw[O]at b0 ge gb D gd;have gm:=hid D;clear hq hS hy D O;go_wp2_with fail;generalize W2.alloc (.cells #[.int .i64 13,y.text,.slice A2 y.kids.length c2,y.pos] 24)=w0 at *;go_loopg [3,5] y.kids.length (fun k u3 u5 wr=>∃i:Nat,i<=y.kids.length/\y.kids.length-i<=k/\u5=.int .i64 (i:Int)/\u3=.string ((⟨#[116,121,112,101,32]⟩:BA)++t++X++(⟨#[32]⟩:BA)++(⟨#[115,116,114,117,99,116,32,123,10]⟩:BA)++tx ((y.kids.take i).flatMap (cM (ac d))))/\Below w0 w0 wr)
  case atStart=>exact⟨0,gQ _,by omega,rfl,by rw[vx,vq,Ff,oM],gH _ _⟩
  case round=>
   obtain⟨i,hi,O,rfl,rfl,I⟩:=hrel;have gp:=pV (cM (ac d)) y.kids i;obtain⟨x0,x1,x2,x3,-,-,-,-⟩:=ab (gb.bl I);by_cases ga:i<y.kids.length
   ·(have gg:(i:Int)<(y.kids.length:Int):=by omega);(have h0:(0:Int)<=(i:Int):=by omega);obtain⟨-,-,n2,-⟩:=Gr (gb.bl I);obtain⟨b4,o4,A4,c4,gl,h4⟩:=ep (af.below gm.out I) i ga;subst gl;have M:=hid (BZ (cM (ac d)) y.kids i ga);have U:=pV (cM (ac d)) y.kids (i+1);rw[M.out,gE]at U;have gi:=hid (OO (HL.out _ (gS ga)));generalize y.kids[i]=q1 at *;obtain⟨s,x,pp,rfl,hx⟩:=gi.out;have HX:=hid hx;have gh:=hid (OP d s x pp);rw[gh.out]at M U;simp only[gE]at U;obtain⟨bx,ox,A5,c5,rfl,N⟩:=ep h4.2.2.2.2 0 (by simp);simp only[Nd.kids_mk,gN,jF,gZ]at N;have J:=hid (fun m:Wd (Below wr wr)=>lu d _ x m.wd (N.below m.ok).2.2.2.2 HX.out (by omega));obtain⟨k0,k1,k2,k3⟩:=yq h4;obtain⟨b0,b1,b2,b3⟩:=yq N;simp only[Nd.kind_mk,Nd.text_mk,Nd.kids_mk,Nd.pos_mk]at k0 k1 k2 k3;generalize tx ((y.kids.take i).flatMap (cM (ac d)))=S at *;generalize tx (ag d x)=Y at *;clear gi hx gh h4 N;go_wp2_with fail;refine cF wr ?_;(repeat(go_big_quiet_step ((go_at_call 28;rename_i m;exact ub J.out m))));refine jQ ?_;intro m;have yk:=m.ok;clear k0 k1 k2 k3 b0 b1 b2 b3 n2 x0 x1 x2 x3 J;go_wp2_with fail;go_roundg (y.kids.length-(i+1))
    case measure=>omega
    case rel=>exact⟨i+1,by omega,gC _,by go_num,by rw[M.out];simp only[ar],au I yk⟩
   ·(have gg:¬ (i:Int)<(y.kids.length:Int):=by omega);have M:=hid (show tx ((y.kids.take i).flatMap (cM (ac d)))=tx (y.kids.flatMap (cM (ac d)))by rw[gV (by omega)]);rw[<-M.out]at HR hM;generalize tx ((y.kids.take i).flatMap (cM (ac d)))=S at *;go_wp2_with fail;go_ret;exact⟨by rw[HR.out];simp only[ar];rfl,au gd I⟩
 ·rw[gB O]at HR hM;(have hS:((aa d).typ y||bo (aa d) y)=true:=by refine hy.resolve_left fun h=>O ?_;unfold bE at h;rw[gA,gD]at h;exact h.1);(have ek:(y.kind != 13)=true:=by simpa using O);have HX:=hid (DJ d _ y _ D hS (by omega));generalize tx (fJ (ac d) y)=Y at *;clear hq hS hy D O;go_wp2_with fail;refine HX.out.mono ?_;rintro e w3⟨rfl,gj⟩;go_wp2_with fail;go_ret;exact⟨by rw[HR.out];rfl,au gd gj⟩
theorem IX(d:Nat)(hd:d<=1000)(J:fX d)(I:mO d):DN d (bM (aa d)):=by
 intro v n w hv D hM;unfold bM at D;split at D
 ·exact OR d hd I v n w hv D hM
 ·split at D
  ·exact OU d v n w hv D hM
  ·split at D
   ·exact OS d v n w hv D hM
   ·exact OT d hd J v n w hv (by simp only[gA,gD];exact⟨by assumption,by assumption,by assumption,D⟩) hM
def tD(F:tZ)(x:Nd):List It:=.gap 10::(eN F x++[.nl])
theorem Fl(F:tZ)(x:Nd):tx (tD F x)=(⟨#[10]⟩:BA)++tx (eN F x)++(⟨#[10]⟩:BA):=by unfold tD;rw[ay,bD,<-ar];rfl
theorem TC(F:tZ)(n:Nd):tx (iB F n)=(⟨#[112,97,99,107,97,103,101,32]⟩:BA)++n.text++(⟨#[10]⟩:BA)++tx (n.kids.flatMap (tD F)):=by show tx (f8 ⟨#[112,97,99,107,97,103,101]⟩::aY::iq n.text::.nl::n.kids.flatMap (tD F))=_;rw[ay,ay aY,ay (iq n.text),ay .nl,oQ];simp only[<-ar];rfl
theorem IY(d:Nat)(hd:d<=1000)(HE:fX d)(gb:mO d):Ro 6 (fF (aa d)) (iB (ac d)):=by
 intro v n w hv hn hM;unfold fF at hn;rw[gA,gA]at hn;have HL:=hid (List.all_eq_true.1 hn.2.2);have HR:=hid (TC (ac d) n);rw[HR.out]at hM;simp only[gE]at hM;have gd:=ux (tD (ac d)) (fun x=>by rw[Fl,gE];exact Nat.le_add_left _ _) n.kids;obtain⟨A,cp,rfl,hC⟩:=hv.toC;have HV:=hid hv;obtain⟨hB,U⟩:=aj w #[n.kind,n.text,.slice A n.kids.length cp,n.pos];clear hv hC hn;(go_enter func6,ntmps6);go_wp2_with fail;generalize w.alloc (.cells #[n.kind,n.text,.slice A n.kids.length cp,n.pos] 24)=w0 at *;go_loopg [3,4] n.kids.length (fun k u3 u4 wr=>∃i:Nat,i<=n.kids.length/\n.kids.length-i<=k/\u4=.int .i64 (i:Int)/\u3=.string ((⟨#[112,97,99,107,97,103,101,32]⟩:BA)++n.text++(⟨#[10]⟩:BA)++tx ((n.kids.take i).flatMap (tD (ac d))))/\Below w0 w0 wr)
 case atStart=>exact⟨0,gQ _,by omega,rfl,by rw[vx,vq,Ff,oM],gH _ _⟩
 case round=>
  obtain⟨i,hi,hk,rfl,rfl,I⟩:=hrel;have ge:=pV (tD (ac d)) n.kids i;obtain⟨x0,x1,x2,x3,-,-,-,-⟩:=ab (U.bl I);by_cases J:i<n.kids.length
  ·(have N:(i:Int)<(n.kids.length:Int):=by omega);(have h0:(0:Int)<=(i:Int):=by omega);obtain⟨bp,op,A2,c2,h,hp⟩:=ep (af.below HV.out (au hB I)) i J;subst h;have D:=hid (BZ (tD (ac d)) n.kids i J);have M:=pV (tD (ac d)) n.kids (i+1);rw[D.out,Fl]at M;simp only[gE]at M;rw[Fl]at D;have HX:=hid (HL.out _ (gS J));generalize n.kids[i]=x at *;have ga:=hid (IX d hd HE gb _ x wr hp.2.2.2.2 HX.out (by omega));obtain⟨k0,k1,k2,k3,-⟩:=hp;generalize tx (eN (ac d) x)=X at *;generalize tx ((n.kids.take i).flatMap (tD (ac d)))=S at *;clear HX;go_wp2_with fail;refine ga.out.mono ?_;rintro e w3⟨rfl,O⟩;clear k0 k1 k2 k3 x0 x1 x2 x3;go_wp2_with fail;go_roundg (n.kids.length-(i+1))
   case measure=>omega
   case rel=>exact⟨i+1,by omega,gC _,by go_num,by rw[D.out];simp only[ar],au I O⟩
  ·(have N:¬ (i:Int)<(n.kids.length:Int):=by omega);have D:=hid (show tx ((n.kids.take i).flatMap (tD (ac d)))=tx (n.kids.flatMap (tD (ac d)))by rw[gV (by omega)]);rw[<-D.out]at HR;generalize tx ((n.kids.take i).flatMap (tD (ac d)))=S at *;go_wp2_with fail;go_ret;exact⟨by rw[HR.out];rfl,au hB I⟩
theorem uz:∀d,fX d/\mO d/\yn d
 |0=>⟨fun _ _ _ _ _ _ h=>(by cases h),fun _ _ _ _ _ h=>(by cases h),fun _ _ _ _ _ h=>(by cases h)⟩
 |d+1=>by obtain⟨I,J,D⟩:=uz d;exact⟨IV d I J,Fk d D,IW d I J D⟩
theorem IZ(d:Nat)(hd:d<=1000):Ro 6 (fF (aa d)) (iB (ac d)):=IY d hd (uz d).1 (uz d).2.1
end
section
open Go.RowKit Go.Lib Go.Proofs
attribute [local go_sem ↓] Go.wp_at_zero Go.wp_at_succ
attribute [local go_sem] bu bv bw bz
theorem AN(v:Value)(n:Nd)(w:World)(k:Int)(D:aF w v n)(J:rn 1000 n)(M:(aO 1000 n).length<=1000000000):
  Calls prog 4 #[v,k] w fun e w'=>e=.returned (.bool (decide (((aO 1000 n).length:Int)<=k)))/\Below w w w':=by have O:=hid D;obtain⟨A,cp,rfl,N⟩:=D.toC;have hB:=(aj w #[n.kind,n.text,.slice A n.kids.length cp,n.pos]).1;have U:=hid (tv 1000 _ n _ (gC _) (af.below O.out hB) J M);clear D N J M;(go_enter func4,ntmps4);go_wp2_with fail;refine U.out.mono ?_;rintro e w1⟨rfl,I⟩;go_wp2_with fail;go_ret;exact⟨rfl,au hB I⟩
mutual
theorem Fm:∀n:Nd,nr n<=10000*lE n
 | .mk k t l a=>by have:=Gu l;rw[nr,lE];omega
theorem Gu:∀l:List Nd,ur l<=10000*nf l
 |[]=>gQ _
 |n::l=>by have:=Fm n;have:=Gu l;rw[ur,nf];omega
end
theorem yv{n:Nd}(h:bc n=true):fF (aa 100) n=true/\et n<=100:=by unfold bc at h;rw[gA,gA]at h;exact⟨h.2.2,of_decide_eq_true h.1⟩
theorem AO{n:Nd}(h:bA n=true):(aa 101).expr n=true/\et n<=100:=by unfold bA at h;rw[gA,gA]at h;exact⟨h.2.2,of_decide_eq_true h.1⟩
theorem Gv{n m:Nd}(hb:lE n<=1048576)(hd:et n<=100)(D:ci m n):df 200 m:=
 ci.dle (show ci n m from Eq.symm D) (Dx (li (rn.pred (rG 101 n (by omega))) hd) 100)
theorem I0(v u:Value)(n x:Nd)(w:World)(hT:iY w)(hv:aF w v n)(hu:aF w u x)(hb:lE n<=1048576)(gq:lE x<=1048576):
  Calls prog 3 #[v,u] w fun e w'=>e=.returned (.bool true)/\Below w w w':=by
 have HV:=hid hv;have HX:=hid hu;obtain⟨A,cp,rfl,hC⟩:=hv.toC;obtain⟨A',cp',rfl,g9⟩:=hu.toC;have hB:Below w w ((w.alloc (.cells #[n.kind,n.text,.slice A n.kids.length cp,n.pos] 24)).alloc (.cells #[x.kind,x.text,.slice A' x.kids.length cp',x.pos] 24)):=bel;have hG:aq ((w.alloc (.cells #[n.kind,n.text,.slice A n.kids.length cp,n.pos] 24)).alloc (.cells #[x.kind,x.text,.slice A' x.kids.length cp',x.pos] 24)) w.heap.size 24 #[n.kind,n.text,.slice A n.kids.length cp,n.pos]:=(aq.new w _ _).alloc _;have hH:aq ((w.alloc (.cells #[n.kind,n.text,.slice A n.kids.length cp,n.pos] 24)).alloc (.cells #[x.kind,x.text,.slice A' x.kids.length cp',x.pos] 24)) (w.heap.size+1) 24 #[x.kind,x.text,.slice A' x.kids.length cp',x.pos]:=aq.new_at (by simp) _ _;have gz:=hid (fun w'(h:Below w w w')=>AN _ n w' 1000 (af.below HV.out h) (rG 1000 n (by omega)) (by have:=mq 1000 n;omega));have gy:=hid (fun w'(h:Below w w w')=>AN _ x w' 1000 (af.below HX.out h) (rG 1000 x (by omega)) (by have:=mq 1000 x;omega));have g1:=hid (fun w'(h:Below w w w')=>Fe _ n w' (af.below HV.out h) (rG 101 n (by omega)) (by have:=mq 100 n;omega));have g0:=hid (fun w'(h:Below w w w')=>DF _ x w' (af.below HX.out h) (rG 101 x (by omega)) (by have:=mq 100 x;omega));have gu:=hid (SE w hT);(have gm:(tx (iB (ac 100) n)).size<=10000000000000000:=by have h1:(tx (iB (ac 100) n)).size<=nr n:=Tg (by decide) n;have h2:=Fm n;omega);(have gl:(tx ((ac 101).expr x 0 false)).size<=10000000000000000:=by have h1:=(BW 101 0 (by decide)).1 x false;have h2:=Fm x;have h3:(tx ((ac 101).expr x 0 false)).size=sz ((ac 101).expr x 0 false):=NC _;omega);have g2:=hid (fun(hr:bc n=true)w'(h:Below w w w')=>IZ 100 (by decide) _ n w' (af.below HV.out h) (yv hr).1 gm);have ha:=hid (fun(hr:bA x=true)w'(h:Below w w w')=>(uz 101).1 _ x w' 0 false (af.below HX.out h) (AO hr).1 (by decide) gl);have g4:Hid (∀(hr:bc n=true)(A:Option Addr)(c:Nat)w'(h:Below w w w')(hv:eK w' A c (tx (iB (ac 100) n)))(hs:(tx (iB (ac 100) n)).size<=65536),Calls prog 7 #[.slice A (tx (iB (ac 100) n)).size c] w' fun e u=>∃m,ci m n/\fb w' (.tree m) e u):=hid (fun hr A c w' h hv hs=>NQ hr hb hs A c w' hv (hT.below h));have g3:Hid (∀(A:Option Addr)(c:Nat)w'(h:Below w w w')(hv:eK w' A c (tx (iB (ac 100) n)))(hs:65536<(tx (iB (ac 100) n)).size),Calls prog 7 #[.slice A (tx (iB (ac 100) n)).size c] w' (fb w' (.bad 65536 12))):=hid (fun A c w' h hv hs=>NR A c _ w' hv (hT.below h) gm hs);have he:Hid (∀(hr:bA x=true)w'(h:Below w w w')(hs:(tx ((ac 101).expr x 0 false)).size<=65536),Calls prog 10 #[.string (tx ((ac 101).expr x 0 false))] w' fun e u=>∃m,ci m x/\fb w' (.tree m) e u):=hid (fun hr w' h hs=>NT hr gq hs w' (hT.below h));have hc:Hid (∀w'(h:Below w w w')(hs:65536<(tx ((ac 101).expr x 0 false)).size),Calls prog 10 #[.string (tx ((ac 101).expr x 0 false))] w' (fb w' (.bad 65536 12))):=hid (fun w' h hs=>NS _ w' (hT.below h) gl hs);have g5:=hid (fun(hr:bc n=true)m(hm:ci m n)=>Gv hb (yv hr).2 hm);have hf:=hid (fun(hr:bA x=true)m(hm:ci m x)=>Gv gq (AO hr).2 hm);clear gm gl hT hv hu hC g9 hb gq;generalize tx (iB (ac 100) n)=T at *;generalize tx ((ac 101).expr x 0 false)=U at *;generalize bc n=q1 at *;generalize bA x=q2 at *;generalize decide (((aO 1000 n).length:Int)<=1000)=z1 at *;generalize decide (((aO 1000 x).length:Int)<=1000)=z2 at *;obtain⟨x0,x1,x2,x3,-,-,-,-⟩:=ab hG;obtain⟨y0,y1,y2,y3,-,-,-,-⟩:=ab hH;(go_enter func3,ntmps3);go_wp2_with fail;refine(gz.out _ hB).mono ?_;rintro e w1⟨rfl,gg⟩;clear x0 x1 x2 x3 y0 y1 y2 y3 gz;generalize(w.alloc (.cells #[n.kind,n.text,.slice A n.kids.length cp,n.pos] 24)).alloc (.cells #[x.kind,x.text,.slice A' x.kids.length cp',x.pos] 24)=W at *;cases z1 with
 |false=>go_wp2_with fail;go_ret;exact⟨rfl,au hB gg⟩
 |true=>
 obtain⟨y0,y1,y2,y3,-,-,-,-⟩:=ab (hH.bl gg);go_wp2_with fail;refine(gy.out _ (au hB gg)).mono ?_;rintro e w2⟨rfl,gx⟩;have ge:=au gg gx;clear y0 y1 y2 y3 gy gx gg;cases z2 with
 |false=>go_wp2_with fail;go_ret;exact⟨rfl,au hB ge⟩
 |true=>
 obtain⟨x0,x1,x2,x3,-,-,-,-⟩:=ab (hG.bl ge);go_wp2_with fail;refine(g1.out _ (au hB ge)).mono ?_;rintro e w3⟨rfl,gi⟩;have J:=au ge gi;clear x0 x1 x2 x3 g1 gi ge;(go_upto_if 22 with fail);go_cut [] (fun wx=>Below W W wx)
 case first=>
  cases q1 with
  |false=>go_wp2_with fail;go_meet;exact J
  |true=>
   obtain⟨x0,x1,x2,x3,-,-,-,-⟩:=ab (hG.bl J);go_wp2_with fail;refine(g2.out trivial _ (au hB J)).mono ?_;rintro e w4⟨rfl,gb⟩;have O:=au J gb;obtain⟨W5,A5,c5,gv,gj,gp,g7⟩:=If w4 T;have gd:=au O gp;clear x0 x1 x2 x3 J gb g7;by_cases ht:65536<T.size
   ·have N:=hid (g3.out A5 c5 W5 (au hB gd) gj ht);(have gn:¬ (T.size:Int)<=65536:=by omega);clear gj gp O;go_wp2_with fail;refine N.out.mono ?_;rintro e w6⟨rfl,D⟩;have M:=D.alloc D.size (.cells bJ 24);have I:=au gd M;clear N gv D M;unfold bJ at I |-;go_wp2_with fail;go_meet;exact I
   ·(have gn:(T.size:Int)<=65536:=by omega);have N:=hid (g4.out trivial A5 c5 W5 (au hB gd) gj (by omega));clear gj gp O;go_wp2_with fail;refine N.out.mono ?_;rintro e w6⟨m,hm,u',rfl,ga,D⟩;have HU:=hid ga;obtain⟨A7,c7,rfl,gs⟩:=ga.toC;have M:=D.alloc D.size (.cells #[m.kind,m.text,.slice A7 m.kids.length c7,m.pos] 24);have I:=au gd M;have gr:=aq.new w6 24 #[m.kind,m.text,.slice A7 m.kids.length c7,m.pos];have gt:=hid (AM 200 _ _ m n (w6.alloc (.cells #[m.kind,m.text,.slice A7 m.kids.length c7,m.pos] 24)) (by decide) (HU.out.below ((gH _ w6).alloc (gC _) _)).wide (af.below HV.out (au hB I)) hm (g5.out trivial m hm));obtain⟨x0,x1,x2,x3,-,-,-,-⟩:=ab (hG.bl I);obtain⟨y0,y1,y2,y3,-,-,-,-⟩:=ab gr;clear gs ga N gv D M gd hm;go_wp2_with fail;refine gt.out.mono ?_;rintro e w8⟨rfl,gh⟩;go_wp2_with fail;go_meet;exact au I gh
 case rest=>
  rename World=>wx;have gk:Below W W wx:=hcut;clear hcut J;obtain⟨y0,y1,y2,y3,-,-,-,-⟩:=ab (hH.bl gk);go_wp2_with fail;refine(g0.out _ (au hB gk)).mono ?_;rintro e w3⟨rfl,gi⟩;have J:=au gk gi;clear y0 y1 y2 y3 gi gk g0 g5 g2 g4 g3;cases q2 with
  |false=>go_wp2_with fail;refine(gu.out _ (au hB J)).mono ?_;rintro e w4⟨rfl,gb⟩;go_wp2_with fail;go_ret;exact⟨rfl,au (au hB J) gb⟩
  |true=>
   obtain⟨y0,y1,y2,y3,-,-,-,-⟩:=ab (hH.bl J);go_wp2_with fail;refine(ha.out trivial _ (au hB J)).mono ?_;rintro e w4⟨rfl,gb⟩;have O:=au J gb;clear y0 y1 y2 y3 J gb;by_cases ht:65536<U.size
   ·have N:=hid (hc.out w4 (au hB O) ht);(have gn:¬ (U.size:Int)<=65536:=by omega);go_wp2_with fail;refine N.out.mono ?_;rintro e w6⟨rfl,D⟩;have M:=D.alloc D.size (.cells bJ 24);have I:=au hB (au O M);have g6:=hid (gu.out _ I);clear N D M;unfold bJ at I g6 |-;go_wp2_with fail;refine g6.out.mono ?_;rintro e w8⟨rfl,gh⟩;go_wp2_with fail;go_ret;exact⟨rfl,au I gh⟩
   ·(have gn:(U.size:Int)<=65536:=by omega);have N:=hid (he.out trivial w4 (au hB O) (by omega));go_wp2_with fail;refine N.out.mono ?_;rintro e w6⟨m,hm,u',rfl,ga,D⟩;have HU:=hid ga;obtain⟨A7,c7,rfl,gs⟩:=ga.toC;have M:=D.alloc D.size (.cells #[m.kind,m.text,.slice A7 m.kids.length c7,m.pos] 24);have I:=au O M;have gr:=aq.new w6 24 #[m.kind,m.text,.slice A7 m.kids.length c7,m.pos];have gt:=hid (AM 200 _ _ m x (w6.alloc (.cells #[m.kind,m.text,.slice A7 m.kids.length c7,m.pos] 24)) (by decide) (HU.out.below ((gH _ w6).alloc (gC _) _)).wide (af.below HX.out (au hB I)) hm (hf.out trivial m hm));obtain⟨x0,x1,x2,x3,-,-,-,-⟩:=ab (hH.bl I);obtain⟨y0,y1,y2,y3,-,-,-,-⟩:=ab gr;clear gs ga N D M O hm;go_wp2_with fail;refine gt.out.mono ?_;rintro e w8⟨rfl,gh⟩;have gw:=au hB (au I gh);go_wp2_with fail;refine(gu.out _ gw).mono ?_;rintro e w9⟨rfl,g8⟩;go_wp2_with fail;go_ret;exact⟨rfl,au gw g8⟩
end
end Go.Proofs.YteialcjaiocjdaaGreatDoor
