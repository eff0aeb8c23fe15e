/-
  Parts of the proof: Ustmt3 Ustmt Psf Psg. By an AI agent.
-/
import Derived.Test.YtiebcdeafofgdaaGreatDoorJ49
import Derived.Test.YtiebcdeafofgdaaGreatDoorJ33
import Derived.Test.YtiebcdeafofgdaaGreatDoorJ12
import Derived.Test.YtiebcdeafofgdaaGreatDoorJ31
import Derived.Test.YtiebcdeafofgdaaGreatDoorJ35
import Derived.Test.YtiebcdeafofgdaaGreatDoorJ43
import Derived.Test.YtiebcdeafofgdaaGreatDoorJ44
import Derived.Test.YtiebcdeafofgdaaGreatDoorJ47
import Derived.Test.YtiebcdeafofgdaaGreatDoorJ14
open Go.Proofs.Tryz
set_option maxRecDepth 100000
set_option maxHeartbeats 8000000
namespace Go.Proofs.YtiebcdeafofgdaaGreatDoor
section
open Go.RowKit Go.Lib Go.Proofs
attribute [local go_sem ↓] Go.wp_at_zero Go.wp_at_succ
def sC(f g h i:Nd->Bool):List Nd->Bool
 |[a,b,c,d]=>f a&&(g b&&(h c&&i d))
 |_=>false
theorem Oa(f g h i:Nd->Bool){l:List Nd}(D:l.length≠4):sC f g h i l=false:=by
 rcases l with _|⟨x,_|⟨y,_|⟨z,_|⟨u,_|⟨o,l⟩⟩⟩⟩⟩
 ·rfl
 ·rfl
 ·rfl
 ·rfl
 ·exact absurd rfl D
 ·rfl
theorem Ob{l:List Nd}(h:l.length=4):∃x y z u,l=[x,y,z,u]:=by
 rcases l with _|⟨x,_|⟨y,_|⟨z,_|⟨u,_|⟨o,l⟩⟩⟩⟩⟩
 ·simp at h
 ·simp at h
 ·simp at h
 ·simp at h
 ·exact⟨x,y,z,u,rfl⟩
 ·simp at h
theorem S9(k:Int)(f g h i:Nd->Bool)(n:Nd):cA k [f,g,h,i] n=(decide (n.kind=k)&&(decide (n.text=(⟨#[]⟩:BA))&&sC f g h i n.kids)):=by
 unfold cA;congr 2;rcases n.kids with _|⟨x,_|⟨y,_|⟨z,_|⟨u,_|⟨o,l⟩⟩⟩⟩⟩
 ·rfl
 ·simp[aY,sC]
 ·simp[aY,sC]
 ·simp[aY,sC]
 ·simp[aY,sC]
 ·simp[aY,sC]
theorem wY(F:cQ)(j:Int)(t:ByteArray)(l:List Nd)(p:Int):du F (.mk j t l p)=(decide (j=26)&&(ov F.expr l&&bY t)):=ti 26 _ _ _
theorem sD(F:cQ)(j:Int)(t:ByteArray)(l:List Nd)(p:Int):fk F (.mk j t l p)=(decide (j=28)&&(ov F.expr l&&f8 t)):=ti 28 _ _ _
theorem sE(F:cQ)(j:Int)(t:ByteArray)(l:List Nd)(p:Int):fl F (.mk j t l p)=(decide (j=27)&&(decide (t=(⟨#[]⟩:BA))&&pk F.expr F.expr l)):=pl 27 _ _ _
theorem Ai(F:cQ)(j:Int)(t:ByteArray)(l:List Nd)(p:Int):eU F (.mk j t l p)=(decide (j=29)&&(decide (t=(⟨#[]⟩:BA))&&ov (iw F) l)):=th 29 _ _
theorem Dq{d:Nat}{k:Nd}(D:dK d k):(du (aa d) k||(fl (aa d) k||fk (aa d) k))=(decide (k.kind∈([26,27,28]:List Int))&&(aa d).stmt k):=by
 cases d with
 |zero=>exact D.elim
 |succ d=>
  rw[<-C2 (dz d) k D,<-Ex (dz d) k D,<-Ey (dz d) k D];show _=(decide (k.kind∈([26,27,28]:List Int))&&aB (aa d) k);generalize aa d=F;obtain⟨j,t,l,p⟩:=k;rw[wY,sE,sD];by_cases M:j=26
  ·subst M;simp[aB,wY]
  by_cases J:j=27
  ·subst J;simp[aB,sE]
  by_cases I:j=28
  ·subst I;simp[aB,sD]
  ·simp[M,J,I]
theorem EM{d:Nat}{k:Nd}(D:dK d k):(fl (aa d) k||(fk (aa d) k||eU (aa d) k))=(decide (k.kind∈([27,28,29]:List Int))&&(aa d).stmt k):=by
 cases d with
 |zero=>exact D.elim
 |succ d=>
  rw[<-Ex (dz d) k D,<-Ey (dz d) k D,<-Fr (dz d) k D];show _=(decide (k.kind∈([27,28,29]:List Int))&&aB (aa d) k);generalize aa d=F;obtain⟨j,t,l,p⟩:=k;rw[Ai,sE,sD];by_cases M:j=27
  ·subst M;simp[aB,sE]
  by_cases J:j=28
  ·subst J;simp[aB,sD]
  by_cases I:j=29
  ·subst I;simp[aB,Ai]
  ·simp[M,J,I]
theorem Oc(d:Nat)(C:lN d)(nt:ByteArray)(nl:List Nd)(np:Int)(A:Option Addr)(cp:Nat)(w:World)(hv:aF w (.agg #[.int .i64 31,nt,.slice A nl.length cp,np]) (.mk 31 nt nl np))(hd:dK (d+1) (.mk 31 nt nl np)):
  Calls prog 27 #[.agg #[.int .i64 31,nt,.slice A nl.length cp,np]] w fun e w'=>e=.returned (.bool (aB (aa d) (.mk 31 nt nl np)))/\Below w w w':=by
 have HV:=hid hv;have HD:=hid hd;have hn:=hd.1.1;have HT:=hid C.typ;have HE:=hid C.expr;have jy:=hid C.block;have je:=hid (Ah d C.stmt);have jx:=hid (fun k hk=>Dq (d:=d) (k:=k) hk);have jv:=hid (fun k hk=>EM (d:=d) (k:=k) hk);have hB:=(aj w #[.int .i64 31,nt,.slice A nl.length cp,np]).1;have h8:=(aj w #[.int .i64 31,nt,.slice A nl.length cp,np]).2;clear hv hd C;generalize aa d=F at *;simp only[Nd.kids_mk]at hn;have HR:=hid (show aB F (.mk 31 nt nl np)=(decide (nt=(⟨#[]⟩:BA))&&sC (cB (cB ah (du F)) (cB (fl F) (fk F))) (cB ah F.expr) (cB (cB ah (fl F)) (cB (fk F) (eU F))) F.block nl)by(have h:aB F (.mk 31 nt nl np)=cA 31 [cB (cB ah (du F)) (cB (fl F) (fk F)),cB ah F.expr,cB (cB ah (fl F)) (cB (fk F) (eU F)),F.block] (.mk 31 nt nl np):=by simp[aB]);rw[h,S9];simp;rfl);by_cases h1:nt=⟨#[]⟩
 rotate_left
 ·(have jg:nt.toList.isEmpty=false:=by rw[aq];simpa using h1);have HX:Hid (aB F (.mk 31 nt nl np)=false):=hid (by rw[HR.out,gM h1,jG]);clear h1;(go_enter func27,ntmps27);go_wp2_with fail;go_ret;exact⟨by rw[HX.out];rfl,hB⟩
 subst h1;by_cases h2:nl.length=4
 rotate_left
 ·(have jg:((nl.length:Int)==4)=false:=by rw[gC];omega);have HX:Hid (aB F (.mk 31 ⟨#[]⟩ nl np)=false):=hid (by rw[HR.out,Oa _ _ _ _ h2,jU]);clear h2;generalize nl.length=m at *;(go_enter func27,ntmps27);go_wp2_with fail;go_ret;exact⟨by rw[HX.out];rfl,hB⟩
 obtain⟨x,y,z,u,rfl⟩:=Ob h2;clear h2;have gy:aF w (.agg #[.int .i64 31,.string ⟨#[]⟩,.slice A 4 cp,.int .i64 np]) (.mk 31 ⟨#[]⟩ [x,y,z,u] np):=HV.out;have hB:Below w w (w.alloc (.cells #[.int .i64 31,.string ⟨#[]⟩,.slice A 4 cp,.int .i64 np] 24)):=hB;have h8:an (w.alloc (.cells #[.int .i64 31,.string ⟨#[]⟩,.slice A 4 cp,.int .i64 np] 24)) w.heap.size 24 #[.int .i64 31,.string ⟨#[]⟩,.slice A 4 cp,.int .i64 np]:=h8;obtain⟨bx,ox,A0,c0,rfl,hm⟩:=cE gy 0 (by simp);obtain⟨j4,j1,A1,c1,e,hl⟩:=cE gy 1 (by simp);injection e with e;injection e with e1 e2;subst e1 e2;obtain⟨j3,j0,A2,c2,e,hj⟩:=cE gy 2 (by simp);injection e with e;injection e with e1 e2;subst e1 e2;obtain⟨j2,jz,A3,c3,e,hi⟩:=cE gy 3 (by simp);injection e with e;injection e with e1 e2;subst e1 e2;simp only[Nd.kids_mk,gT,kL,jK,jD,qC]at hm hl hj hi;have hc:=hid hm;have hp:=HD.out.kid (k:=x) (by simp);have ge:=hid hl;have ji:=HD.out.kid (k:=y) (by simp);have I:=hid hj;have ho:=HD.out.kid (k:=z) (by simp);have D:=hid hi;have jh:=HD.out.kid (k:=u) (by simp);clear gy HV hm hl hj hi;have ju:=hid (fun w'(h:C4 w' bx ox x A0 c0)=>ev _ x w' h.2.2.2.2);have jd:=hid (fun w'(h:C4 w' bx (ox+4) y A1 c1)=>ev _ y w' h.2.2.2.2);have g8:=hid (fun w'(h:C4 w' bx (ox+2*4) z A2 c2)=>ev _ z w' h.2.2.2.2);have jf:=hid (fun w'(h:C4 w' bx (ox+4) y A1 c1)=>HE.out _ y w' h.2.2.2.2 ji);have gg:=hid (fun w'(h:C4 w' bx (ox+3*4) u A3 c3)=>jy.out _ u w' h.2.2.2.2 jh);have jw:=hid (fun w'(h:C4 w' bx ox x A0 c0)=>je.out _ x (w'.alloc (.cells #[.int .i64 26,.int .i64 27,.int .i64 28] 3)) (af.below h.2.2.2.2 ((gG _ _).alloc (gA _) _)) hp [26,27,28] w'.heap.size 3 (oz.of_blk (an.new w' 3 #[.int .i64 26,.int .i64 27,.int .i64 28])) (by decide));have ha:=hid (fun w'(h:C4 w' bx (ox+2*4) z A2 c2)=>je.out _ z (w'.alloc (.cells #[.int .i64 27,.int .i64 28,.int .i64 29] 3)) (af.below h.2.2.2.2 ((gG _ _).alloc (gA _) _)) ho [27,28,29] w'.heap.size 3 (oz.of_blk (an.new w' 3 #[.int .i64 27,.int .i64 28,.int .i64 29])) (by decide));have U:=hid (show aB F (.mk 31 ⟨#[]⟩ [x,y,z,u] np)=((ah x||(decide (x.kind∈([26,27,28]:List Int))&&F.stmt x))&&((ah y||F.expr y)&&((ah z||(decide (z.kind∈([27,28,29]:List Int))&&F.stmt z))&&F.block u)))by rw[HR.out,<-jx.out x hp,<-jv.out z ho];simp[sC,cB,Bool.or_assoc]);generalize(decide (x.kind∈([26,27,28]:List Int))&&F.stmt x)=rx at *;generalize(decide (z.kind∈([27,28,29]:List Int))&&F.stmt z)=rz at *;clear HR;obtain⟨hh,hg,hf,he,-⟩:=hc.out.below hB;(go_enter func27,ntmps27);go_wp2_with fail;refine(ju.out _ (hc.out.below hB)).mono ?_;rintro e w1⟨rfl,jr⟩;have gs:=aD hB jr;clear hh hg hf he;cases g1:ah x with
 | false=>
  obtain⟨hh,hg,hf,he,-⟩:=hc.out.below gs;go_wp2_with fail;refine(jw.out _ (hc.out.below gs)).mono ?_;rintro e w2⟨rfl,jq⟩;have jt:=gs.alloc gs.size (.cells #[.int .i64 26,.int .i64 27,.int .i64 28] 3);have g7:=aD jt jq;clear hh hg hf he;cases g2:rx with
  |false=>go_wp2_with fail;go_ret;exact⟨by rw[U.out,g1,g2];rfl,g7⟩
  | true=>
   obtain⟨gp,gn,gm,gl,-⟩:=ge.out.below g7;go_wp2_with fail;refine(jd.out _ (ge.out.below g7)).mono ?_;rintro e w3⟨rfl,jp⟩;have gx:=aD g7 jp;clear gp gn gm gl;cases g3:ah y with
   | false=>
    obtain⟨gp,gn,gm,gl,-⟩:=ge.out.below gx;go_wp2_with fail;refine(jf.out _ (ge.out.below gx)).mono ?_;rintro e w4⟨rfl,jo⟩;have g0:=aD gx jo;clear gp gn gm gl;cases g4:F.expr y with
    |false=>go_wp2_with fail;go_ret;exact⟨by rw[U.out,g1,g2,g3,g4];rfl,g0⟩
    | true=>
     obtain⟨O,N,M,J,-⟩:=I.out.below g0;go_wp2_with fail;refine(g8.out _ (I.out.below g0)).mono ?_;rintro e w5⟨rfl,jn⟩;have gr:=aD g0 jn;clear O N M J;cases g5:ah z with
     |false=>
      obtain⟨O,N,M,J,-⟩:=I.out.below gr;go_wp2_with fail;refine(ha.out _ (I.out.below gr)).mono ?_;rintro e w6⟨rfl,jm⟩;have js:=gr.alloc gr.size (.cells #[.int .i64 27,.int .i64 28,.int .i64 29] 3);have gz:=aD js jm;clear O N M J;cases g6:rz with
      |false=>go_wp2_with fail;go_ret;exact⟨by rw[U.out,g1,g2,g3,g4,g5,g6];rfl,gz⟩
      |true=>obtain⟨gk,gj,gi,gh,-⟩:=D.out.below gz;go_wp2_with fail;refine(gg.out _ (D.out.below gz)).mono ?_;rintro e w7⟨rfl,jl⟩;go_wp2_with fail;go_ret;exact⟨by rw[U.out,g1,g2,g3,g4,g5,g6];rfl,aD gz jl⟩
     |true=>obtain⟨gk,gj,gi,gh,-⟩:=D.out.below gr;go_wp2_with fail;refine(gg.out _ (D.out.below gr)).mono ?_;rintro e w8⟨rfl,jk⟩;go_wp2_with fail;go_ret;exact⟨by rw[U.out,g1,g2,g3,g4,g5];rfl,aD gr jk⟩
   | true=>
    obtain⟨O,N,M,J,-⟩:=I.out.below gx;go_wp2_with fail;refine(g8.out _ (I.out.below gx)).mono ?_;rintro e w9⟨rfl,jj⟩;have gq:=aD gx jj;clear O N M J;cases g9:ah z with
    |false=>
     obtain⟨O,N,M,J,-⟩:=I.out.below gq;go_wp2_with fail;refine(ha.out _ (I.out.below gq)).mono ?_;rintro e w10⟨rfl,h7⟩;have jc:=gq.alloc gq.size (.cells #[.int .i64 27,.int .i64 28,.int .i64 29] 3);have gw:=aD jc h7;clear O N M J;cases g10:rz with
     |false=>go_wp2_with fail;go_ret;exact⟨by rw[U.out,g1,g2,g3,g9,g10];rfl,gw⟩
     |true=>obtain⟨gk,gj,gi,gh,-⟩:=D.out.below gw;go_wp2_with fail;refine(gg.out _ (D.out.below gw)).mono ?_;rintro e w11⟨rfl,h6⟩;go_wp2_with fail;go_ret;exact⟨by rw[U.out,g1,g2,g3,g9,g10];rfl,aD gw h6⟩
    |true=>obtain⟨gk,gj,gi,gh,-⟩:=D.out.below gq;go_wp2_with fail;refine(gg.out _ (D.out.below gq)).mono ?_;rintro e w12⟨rfl,h5⟩;go_wp2_with fail;go_ret;exact⟨by rw[U.out,g1,g2,g3,g9];rfl,aD gq h5⟩
 | true=>
  obtain⟨gp,gn,gm,gl,-⟩:=ge.out.below gs;go_wp2_with fail;refine(jd.out _ (ge.out.below gs)).mono ?_;rintro e w13⟨rfl,h4⟩;have gd:=aD gs h4;clear gp gn gm gl;cases g13:ah y with
  | false=>
   obtain⟨gp,gn,gm,gl,-⟩:=ge.out.below gd;go_wp2_with fail;refine(jf.out _ (ge.out.below gd)).mono ?_;rintro e w14⟨rfl,h3⟩;have gv:=aD gd h3;clear gp gn gm gl;cases g14:F.expr y with
   |false=>go_wp2_with fail;go_ret;exact⟨by rw[U.out,g1,g13,g14];rfl,gv⟩
   | true=>
    obtain⟨O,N,M,J,-⟩:=I.out.below gv;go_wp2_with fail;refine(g8.out _ (I.out.below gv)).mono ?_;rintro e w15⟨rfl,h0⟩;have gb:=aD gv h0;clear O N M J;cases g15:ah z with
    |false=>
     obtain⟨O,N,M,J,-⟩:=I.out.below gb;go_wp2_with fail;refine(ha.out _ (I.out.below gb)).mono ?_;rintro e w16⟨rfl,hz⟩;have jb:=gb.alloc gb.size (.cells #[.int .i64 27,.int .i64 28,.int .i64 29] 3);have gu:=aD jb hz;clear O N M J;cases g16:rz with
     |false=>go_wp2_with fail;go_ret;exact⟨by rw[U.out,g1,g13,g14,g15,g16];rfl,gu⟩
     |true=>obtain⟨gk,gj,gi,gh,-⟩:=D.out.below gu;go_wp2_with fail;refine(gg.out _ (D.out.below gu)).mono ?_;rintro e w17⟨rfl,hy⟩;go_wp2_with fail;go_ret;exact⟨by rw[U.out,g1,g13,g14,g15,g16];rfl,aD gu hy⟩
    |true=>obtain⟨gk,gj,gi,gh,-⟩:=D.out.below gb;go_wp2_with fail;refine(gg.out _ (D.out.below gb)).mono ?_;rintro e w18⟨rfl,hw⟩;go_wp2_with fail;go_ret;exact⟨by rw[U.out,g1,g13,g14,g15];rfl,aD gb hw⟩
  | true=>
   obtain⟨O,N,M,J,-⟩:=I.out.below gd;go_wp2_with fail;refine(g8.out _ (I.out.below gd)).mono ?_;rintro e w19⟨rfl,hu⟩;have ga:=aD gd hu;clear O N M J;cases g19:ah z with
   |false=>
    obtain⟨O,N,M,J,-⟩:=I.out.below ga;go_wp2_with fail;refine(ha.out _ (I.out.below ga)).mono ?_;rintro e w20⟨rfl,ht⟩;have ja:=ga.alloc ga.size (.cells #[.int .i64 27,.int .i64 28,.int .i64 29] 3);have gt:=aD ja ht;clear O N M J;cases g20:rz with
    |false=>go_wp2_with fail;go_ret;exact⟨by rw[U.out,g1,g13,g19,g20];rfl,gt⟩
    |true=>obtain⟨gk,gj,gi,gh,-⟩:=D.out.below gt;go_wp2_with fail;refine(gg.out _ (D.out.below gt)).mono ?_;rintro e w21⟨rfl,hr⟩;go_wp2_with fail;go_ret;exact⟨by rw[U.out,g1,g13,g19,g20];rfl,aD gt hr⟩
   |true=>obtain⟨gk,gj,gi,gh,-⟩:=D.out.below ga;go_wp2_with fail;refine(gg.out _ (D.out.below ga)).mono ?_;rintro e w22⟨rfl,hq⟩;go_wp2_with fail;go_ret;exact⟨by rw[U.out,g1,g13,g19];rfl,aD ga hq⟩
theorem EN(F:cQ)(k:Int)(t:ByteArray)(l:List Nd)(p:Int)(h5:k≠5)(h:∀j:Int,26<=j->j<=35->k≠j):aB F (.mk k t l p)=bD F (.mk k t l p):=by have gd:=h 26 (by decide) (by decide);have gb:=h 27 (by decide) (by decide);have ga:=h 28 (by decide) (by decide);have U:=h 29 (by decide) (by decide);have O:=h 30 (by decide) (by decide);have N:=h 31 (by decide) (by decide);have M:=h 32 (by decide) (by decide);have J:=h 33 (by decide) (by decide);have I:=h 34 (by decide) (by decide);have D:=h 35 (by decide) (by decide);simp[aB,h5,gd,gb,ga,U,O,N,M,J,I,D]
theorem Iv(d:Nat)(C:lN d)(v:Value)(n:Nd)(w:World)(D:aF w v n)(hd:dK (d+1) n):
  Calls prog 27 #[v] w fun e w'=>e=.returned (.bool (aB (aa d) n))/\Below w w w':=by
 obtain⟨A,cp,rfl,hC⟩:=D.toC;have gh:=hid (fun w'(hb:Below w w w')=>wW d C.stmt _ n w' (af.below D hb) hd);obtain⟨nk,nt,nl,np⟩:=n;simp only[Nd.kind_mk,Nd.text_mk,Nd.kids_mk,Nd.pos_mk]at *;by_cases h5:nk=5
 ·subst h5;exact Rf d C nt nl np A cp w D hd
 by_cases gd:nk=26
 ·subst gd;exact N0 d C nt nl np A cp w D hd
 by_cases gb:nk=27
 ·subst gb;exact N1 d C nt nl np A cp w D hd
 by_cases ga:nk=28
 ·subst ga;exact N2 d C nt nl np A cp w D hd
 by_cases h:nk=29
 ·subst h;exact N3 d C nt nl np A cp w D hd
 by_cases U:nk=30
 ·subst U;exact N9 d C nt nl np A cp w D hd
 by_cases O:nk=31
 ·subst O;exact Oc d C nt nl np A cp w D hd
 by_cases N:nk=32
 ·subst N;exact N8 d C nt nl np A cp w D hd
 by_cases M:nk=33
 ·subst M;exact N4 d C nt nl np A cp w D hd
 by_cases J:nk=34
 ·subst J;exact N5 d C nt nl np A cp w D hd
 by_cases I:nk=35
 ·subst I;exact N6 d C nt nl np A cp w D hd
 have HX:=hid (EN (aa d) nk nt nl np h5 (fun j h1 h2 e=>by omega));have hB:=(aj w #[.int .i64 nk,.string nt,.slice A nl.length cp,.int .i64 np]).1;have gg:=(aj w #[.int .i64 nk,.string nt,.slice A nl.length cp,.int .i64 np]).2;obtain⟨x0,x1,x2,x3,-,-,-,-⟩:=ab gg;(have e5:(nk==5)=false:=by rw[gC];exact h5);(have gs:(nk==26)=false:=by rw[gC];exact gd);(have gr:(nk==27)=false:=by rw[gC];exact gb);(have gq:(nk==28)=false:=by rw[gC];exact ga);(have gp:(nk==29)=false:=by rw[gC];exact h);(have gn:(nk==30)=false:=by rw[gC];exact U);(have gm:(nk==31)=false:=by rw[gC];exact O);(have gl:(nk==32)=false:=by rw[gC];exact N);(have gk:(nk==33)=false:=by rw[gC];exact M);(have gj:(nk==34)=false:=by rw[gC];exact J);(have gi:(nk==35)=false:=by rw[gC];exact I);clear D hd hC C h5 gd gb ga h U O N M J I;generalize nl.length=m at *;(go_enter func27,ntmps27);go_wp2_with fail;refine(gh.out _ hB).mono ?_;rintro e w1⟨rfl,ge⟩;go_wp2_with fail;go_ret;exact⟨by rw[HX.out];rfl,aD hB ge⟩
theorem Rg:∀d,lN d
 |0=>⟨fun _ _ _ _ h=>h.elim,fun _ _ _ _ h=>h.elim,fun _ _ _ _ h=>h.elim,fun _ _ _ _ h=>h.elim⟩
 |d+1=>⟨NO (d+1),fun v n w hv hd=>Af d (Rg d) v n w hv hd,fun v n w hv hd=>Iv d (Rg d) v n w hv hd,fun v n w hv hd=>wW d (Rg d).stmt v n w hv hd⟩
theorem Dr(v:Value)(n:Nd)(w:World)(hv:aF w v n)(hw:sF 101 n)(hc:(aP 100 n).length<=1000000000):
  Calls prog 11 #[v,.string ⟨#[101,120,112,114,101,115,115,105,111,110]⟩] w fun e w'=>e=.returned (.bool (bG n))/\Below w w w':=by
 have HV:=hid hv;obtain⟨A,cp,rfl,hC⟩:=hv.toC;have hB:=(aj w #[n.kind,n.text,.slice A n.kids.length cp,n.pos]).1;have b1:=(aj w #[n.kind,n.text,.slice A n.kids.length cp,n.pos]).2;have N:=hid (EB 101 _ n _ (by decide) (af.below HV.out hB) hw);have h:=hid (fun w'(hb:Below w w w')=>Aj 100 _ n w' (by decide) (af.below HV.out hb) (sF.pred hw) hc);have HE:=hid (r7 n);have HL:=hid (C7 n);have HW:=hid hw;clear hv hC hw hc;by_cases hd:mB 101 n<=100
 rotate_left
 ·(have gb:((mB 101 n:Nat):Int)>100:=by omega);have U:Hid (bG n=false):=hid (by rw[HE.out,gM (by have:=HL.out;omega),jG]);clear hd;generalize mB 101 n=z at *;(go_enter func11,ntmps11);go_wp2_with fail;refine N.out.mono ?_;rintro e w1⟨rfl,D⟩;go_wp2_with fail;go_ret;exact⟨by rw[U.out];rfl,aD hB D⟩
 (have gb:¬ ((mB 101 n:Nat):Int)>100:=by omega);have HD:=hid (lW (sF.pred HW.out) (HL.out.1 hd));have M:=hid (show bG n=(decide (((aP 100 n).length:Int)<=65536)&&aA (aa 100) n)by rw[HE.out,jO (by have:=HL.out;omega),kK]);have U:=hid (fun w'(hb:Below w w w')=>Af 100 (Rg 100) _ n w' (af.below HV.out hb) HD.out.succ);clear hd HL HE HW;generalize mB 101 n=z at *;generalize aA (aa 100) n=q at *;by_cases hs:(aP 100 n).length<=65536
 rotate_left
 ·(have ga:((aP 100 n).length:Int)>65536:=by omega);have U:Hid (bG n=false):=hid (by rw[M.out,gM (by omega),jG]);clear hs;generalize(aP 100 n).length=y at *;(go_enter func11,ntmps11);go_wp2_with fail;refine N.out.mono ?_;rintro e w1⟨rfl,D⟩;have I:=aD hB D;have b2:=b1.bl D;obtain⟨x0,x1,x2,x3,-,-,-,-⟩:=ab b2;go_wp2_with fail;refine(h.out _ I).mono ?_;rintro e w2⟨rfl,J⟩;go_wp2_with fail;go_ret;exact⟨by rw[U.out];rfl,aD I J⟩
 (have ga:¬ ((aP 100 n).length:Int)>65536:=by omega);have ge:Hid (bG n=q):=hid (by rw[M.out,jO (by omega),kK]);clear hs M;generalize(aP 100 n).length=y at *;(go_enter func11,ntmps11);go_wp2_with fail;refine N.out.mono ?_;rintro e w1⟨rfl,D⟩;have I:=aD hB D;have b2:=b1.bl D;obtain⟨x0,x1,x2,x3,-,-,-,-⟩:=ab b2;go_wp2_with fail;refine(h.out _ I).mono ?_;rintro e w2⟨rfl,J⟩;have O:=aD I J;have b3:=b2.bl J;clear x0 x1 x2 x3;obtain⟨x0,x1,x2,x3,-,-,-,-⟩:=ab b3;go_wp2_with fail;refine(U.out _ O).mono ?_;rintro e w3⟨rfl,gd⟩;go_wp2_with fail;go_ret;exact⟨by rw[ge.out];rfl,aD O gd⟩
end
section
open Go.RowKit Go.Lib Go.Proofs
attribute [local go_sem ↓] Go.wp_at_zero Go.wp_at_succ
attribute [local go_sem] bv bw bz bA
theorem Iy(v:Value)(n:Nd)(w:World)(k:Int)(D:aF w v n)(J:sF 1000 n)(M:(aP 1000 n).length<=1000000000):
  Calls prog 10 #[v,k] w fun e w'=>e=.returned (.bool (decide (((aP 1000 n).length:Int)<=k)))/\Below w w w':=by have O:=hid D;obtain⟨A,cp,rfl,N⟩:=D.toC;have hB:=(aj w #[n.kind,n.text,.slice A n.kids.length cp,n.pos]).1;have U:=hid (Aj 1000 _ n _ (gA _) (af.below O.out hB) J M);clear D N J M;(go_enter func10,ntmps10);go_wp2_with fail;refine U.out.mono ?_;rintro e w1⟨rfl,I⟩;go_wp2_with fail;go_ret;exact⟨rfl,aD hB I⟩
theorem Iz{n:Nd}(h:bG n=true):(aa 101).expr n=true/\eN n<=100:=by unfold bG at h;rw[gB,gB]at h;exact⟨h.2.2,of_decide_eq_true h.1⟩
theorem IA(v:Value)(n:Nd)(w:World)(hT:lF w)(hv:aF w v n)(hb:mn n<=1048576):
  Calls prog 4 #[v] w fun e w'=>e=.returned (.bool true)/\Below w w w':=by
 have HV:=hid hv;obtain⟨A,cp,rfl,hC⟩:=hv.toC;have hB:=(aj w #[n.kind,n.text,.slice A n.kids.length cp,n.pos]).1;have hG:=(aj w #[n.kind,n.text,.slice A n.kids.length cp,n.pos]).2;have HS:=hid (fun w'(h:Below w w w')=>Iy _ n w' 300 (af.below HV.out h) (uT 1000 n (by omega)) (by have:=pD 1000 n;omega));have HR:=hid (fun w'(h:Below w w w')=>Dr _ n w' (af.below HV.out h) (uT 101 n (by omega)) (by have:=pD 100 n;omega));have gk:=hid (Sc w hT);generalize decide (((aP 1000 n).length:Int)<=300)=z at HS;cases z with
 |false=>clear hT hv HV hC hb;(go_enter func4,ntmps4);go_wp2_with fail;refine(HS.out _ hB).mono ?_;rintro e w1⟨rfl,D⟩;have J:=aD hB D;obtain⟨x0,x1,x2,x3,-,-,-,-⟩:=ab (hG.bl D);go_wp2_with fail;refine(HS.out _ J).mono ?_;rintro e w2⟨rfl,I⟩;go_wp2_with fail;go_ret;exact⟨rfl,aD J I⟩
 |true=>
 cases hr:bG n with
 |false=>rw[hr]at HR;clear hT hv HV hC hr hb;(go_enter func4,ntmps4);go_wp2_with fail;refine(HS.out _ hB).mono ?_;rintro e w1⟨rfl,D⟩;have J:=aD hB D;have M:=hG.bl D;obtain⟨x0,x1,x2,x3,-,-,-,-⟩:=ab M;go_wp2_with fail;refine(HR.out _ J).mono ?_;rintro e w2⟨rfl,I⟩;have ga:=aD J I;clear x0 x1 x2 x3;obtain⟨x0,x1,x2,x3,-,-,-,-⟩:=ab (M.bl I);go_wp2_with fail;refine(HS.out _ ga).mono ?_;rintro e w3⟨rfl,U⟩;have N:=aD ga U;go_wp2_with fail;refine(gk.out _ N).mono ?_;rintro e w4⟨rfl,O⟩;go_wp2_with fail;go_ret;exact⟨rfl,aD N O⟩
 |true=>
  rw[hr]at HR;obtain⟨hex,gn⟩:=Iz hr;(have gm:(tx (bh 101 n)).size<=10000000000000000:=by have h1:=Om 101 (by decide) n hex;have h2:=On n;have h3:(tx (bh 101 n)).size=sz (bh 101 n):=RF _;omega);have HL:=hid (fun w'(h:Below w w w')=>FW 101 (by decide) _ n w' (af.below HV.out h) hex gm);have gb:=hid (fun w'(h:Below w w w')(hs:(d7 (fX (bh 101 n))).size<=65536)=>Ni (SK hex) (Nm 101 n hex) (fun c=>FM c 101 n hex) hr hs hb w' (hT.below h));have gb:Hid (∀w'(h:Below w w w')(hs:(tx (bh 101 n)).size<=65536),Calls prog 16 #[.string (tx (bh 101 n))] w' fun e u=>∃m,co m n/\nx w' (.tree m) e u):=gb;have gw:Hid (∀m,co m n->dK 200 m):=hid (fun m hm=>co.dle (show co n m from Eq.symm hm) (C9 (lW (sF.pred (uT 101 n (by omega))) gn) 100));generalize tx (bh 101 n)=T at *;clear hT hv hC hr hex;(go_enter func4,ntmps4);go_wp2_with fail;refine(HS.out _ hB).mono ?_;rintro e w1⟨rfl,D⟩;have J:=aD hB D;have M:=hG.bl D;obtain⟨x0,x1,x2,x3,-,-,-,-⟩:=ab M;go_wp2_with fail;refine(HR.out _ J).mono ?_;rintro e w2⟨rfl,I⟩;have ga:=aD J I;have gd:=M.bl I;clear x0 x1 x2 x3 D I M;obtain⟨x0,x1,x2,x3,-,-,-,-⟩:=ab gd;go_wp2_with fail;refine(HL.out _ ga).mono ?_;rintro e w3⟨rfl,U⟩;have N:=aD ga U;have gh:=gd.bl U;clear x0 x1 x2 x3 HS HR HL gd U;by_cases ht:65536<T.size
  ·(have gl:(T.size:Int)>65536:=by omega);go_wp2_with fail;go_ret;exact⟨rfl,N⟩
  (have gl:¬ (T.size:Int)>65536:=by omega);have HE:=hid (gb.out w3 N (by omega));go_wp2_with fail;refine HE.out.mono ?_;rintro e w4⟨m,hm,u,rfl,hu,O⟩;have ge:=aD N O;have gg:=gh.bl O;have HM:=hid (gw.out m hm);have gv:=hid hm;have HU:=hid hu;obtain⟨A5,c5,rfl,gt⟩:=hu.toC;have gj:=ge.alloc ge.size (.cells #[m.kind,m.text,.slice A5 m.kids.length c5,m.pos] 24);have gs:=gg.alloc (.cells #[m.kind,m.text,.slice A5 m.kids.length c5,m.pos] 24);have gr:=an.new w4 24 #[m.kind,m.text,.slice A5 m.kids.length c5,m.pos];have gu:=hid (Iw 200 _ _ m n (w4.alloc (.cells #[m.kind,m.text,.slice A5 m.kids.length c5,m.pos] 24)) (by decide) (HU.out.below ((gG _ w4).alloc (gA _) _)).wide (af.below HV.out gj) gv.out HM.out);obtain⟨x0,x1,x2,x3,-,-,-,-⟩:=ab gs;obtain⟨y0,y1,y2,y3,-,-,-,-⟩:=ab gr;clear gt hu hm gb HE O ge gg gh;go_wp2_with fail;refine gu.out.mono ?_;rintro e w6⟨rfl,gq⟩;have gi:=aD gj gq;go_wp2_with fail;refine(gk.out _ gi).mono ?_;rintro e w7⟨rfl,gp⟩;go_wp2_with fail;go_ret;exact⟨rfl,aD gi gp⟩
end
end Go.Proofs.YtiebcdeafofgdaaGreatDoor
