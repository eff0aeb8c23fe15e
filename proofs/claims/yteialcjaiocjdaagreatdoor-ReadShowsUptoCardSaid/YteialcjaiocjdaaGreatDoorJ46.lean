/-
  Parts of the proof: Ustmt3 Ustmt Psf Udecl. By an AI agent.
-/
import Derived.Test.YteialcjaiocjdaaGreatDoorJ45
import Derived.Test.YteialcjaiocjdaaGreatDoorJ33
import Derived.Test.YteialcjaiocjdaaGreatDoorJ13
import Derived.Test.YteialcjaiocjdaaGreatDoorJ26
open Go.Proofs.Tryz
set_option maxRecDepth 100000
set_option maxHeartbeats 8000000
namespace Go.Proofs.YteialcjaiocjdaaGreatDoor
section
open Go.RowKit Go.Lib Go.Proofs
attribute [local go_sem ↓] Go.wp_at_zero Go.wp_at_succ
def sI(f g h i:Nd->Bool):List Nd->Bool
 |[a,b,c,d]=>f a&&(g b&&(h c&&i d))
 |_=>false
theorem Og(f g h i:Nd->Bool){l:List Nd}(D:l.length≠4):sI f g h i l=false:=by
 rcases l with _|⟨x,_|⟨y,_|⟨z,_|⟨u,_|⟨o,l⟩⟩⟩⟩⟩
 ·rfl
 ·rfl
 ·rfl
 ·rfl
 ·exact absurd rfl D
 ·rfl
theorem Oh{l:List Nd}(h:l.length=4):∃x y z u,l=[x,y,z,u]:=by
 rcases l with _|⟨x,_|⟨y,_|⟨z,_|⟨u,_|⟨o,l⟩⟩⟩⟩⟩
 ·simp at h
 ·simp at h
 ·simp at h
 ·simp at h
 ·exact⟨x,y,z,u,rfl⟩
 ·simp at h
theorem Th(k:Int)(f g h i:Nd->Bool)(n:Nd):cE k [f,g,h,i] n=(decide (n.kind=k)&&(decide (n.text=(⟨#[]⟩:BA))&&sI f g h i n.kids)):=by
 unfold cE;congr 2;rcases n.kids with _|⟨x,_|⟨y,_|⟨z,_|⟨u,_|⟨o,l⟩⟩⟩⟩⟩
 ·rfl
 ·simp[a6,sI]
 ·simp[a6,sI]
 ·simp[a6,sI]
 ·simp[a6,sI]
 ·simp[a6,sI]
theorem yg(F:cm)(j:Int)(t:ByteArray)(l:List Nd)(p:Int):dz F (.mk j t l p)=(decide (j=26)&&(l5 F.expr l&&cj t)):=ms 26 _ _ _
theorem sJ(F:cm)(j:Int)(t:ByteArray)(l:List Nd)(p:Int):fy F (.mk j t l p)=(decide (j=28)&&(l5 F.expr l&&ix t)):=ms 28 _ _ _
theorem sK(F:cm)(j:Int)(t:ByteArray)(l:List Nd)(p:Int):fz F (.mk j t l p)=(decide (j=27)&&(decide (t=(⟨#[]⟩:BA))&&nw F.expr F.expr l)):=pC 27 _ _ _
theorem AF(F:cm)(j:Int)(t:ByteArray)(l:List Nd)(p:Int):fd F (.mk j t l p)=(decide (j=29)&&(decide (t=(⟨#[]⟩:BA))&&l5 (iS F) l)):=tr 29 _ _
theorem DE{d:Nat}{k:Nd}(D:df d k):(dz (aa d) k||(fz (aa d) k||fy (aa d) k))=(decide (k.kind∈([26,27,28]:List Int))&&(aa d).stmt k):=by
 cases d with
 |zero=>exact D.elim
 |succ d=>
  rw[<-Dq (dG d) k D,<-EP (dG d) k D,<-EQ (dG d) k D];show _=(decide (k.kind∈([26,27,28]:List Int))&&aE (aa d) k);generalize aa d=F;obtain⟨j,t,l,p⟩:=k;rw[yg,sK,sJ];by_cases M:j=26
  ·subst M;simp[aE,yg]
  by_cases J:j=27
  ·subst J;simp[aE,sK]
  by_cases I:j=28
  ·subst I;simp[aE,sJ]
  ·simp[M,J,I]
theorem E9{d:Nat}{k:Nd}(D:df d k):(fz (aa d) k||(fy (aa d) k||fd (aa d) k))=(decide (k.kind∈([27,28,29]:List Int))&&(aa d).stmt k):=by
 cases d with
 |zero=>exact D.elim
 |succ d=>
  rw[<-EP (dG d) k D,<-EQ (dG d) k D,<-FZ (dG d) k D];show _=(decide (k.kind∈([27,28,29]:List Int))&&aE (aa d) k);generalize aa d=F;obtain⟨j,t,l,p⟩:=k;rw[AF,sK,sJ];by_cases M:j=27
  ·subst M;simp[aE,sK]
  by_cases J:j=28
  ·subst J;simp[aE,sJ]
  by_cases I:j=29
  ·subst I;simp[aE,AF]
  ·simp[M,J,I]
theorem Oi(d:Nat)(C:l8 d)(nt:ByteArray)(nl:List Nd)(np:Int)(A:Option Addr)(cp:Nat)(w:World)(hv:aF w (.agg #[.int .i64 31,nt,.slice A nl.length cp,np]) (.mk 31 nt nl np))(hd:df (d+1) (.mk 31 nt nl np)):
  Calls prog 18 #[.agg #[.int .i64 31,nt,.slice A nl.length cp,np]] w fun e w'=>e=.returned (.bool (aE (aa d) (.mk 31 nt nl np)))/\Below w w w':=by
 have HV:=hid hv;have HD:=hid hd;have hn:=hd.1.1;have HT:=hid C.typ;have HE:=hid C.expr;have jy:=hid C.block;have je:=hid (AD d C.stmt);have jx:=hid (fun k hk=>DE (d:=d) (k:=k) hk);have jv:=hid (fun k hk=>E9 (d:=d) (k:=k) hk);have hB:=(aj w #[.int .i64 31,nt,.slice A nl.length cp,np]).1;have h8:=(aj w #[.int .i64 31,nt,.slice A nl.length cp,np]).2;clear hv hd C;generalize aa d=F at *;simp only[Nd.kids_mk]at hn;have HR:=hid (show aE F (.mk 31 nt nl np)=(decide (nt=(⟨#[]⟩:BA))&&sI (ck (ck an (dz F)) (ck (fz F) (fy F))) (ck an F.expr) (ck (ck an (fz F)) (ck (fy F) (fd F))) F.block nl)by(have h:aE F (.mk 31 nt nl np)=cE 31 [ck (ck an (dz F)) (ck (fz F) (fy F)),ck an F.expr,ck (ck an (fz F)) (ck (fy F) (fd F)),F.block] (.mk 31 nt nl np):=by simp[aE]);rw[h,Th];simp;rfl);by_cases h1:nt=⟨#[]⟩
 rotate_left
 ·(have jg:nt.toList.isEmpty=false:=by rw[ao];simpa using h1);have HX:Hid (aE F (.mk 31 nt nl np)=false):=hid (by rw[HR.out,gP h1,jA]);clear h1;(go_enter func18,ntmps18);go_wp2_with fail;go_ret;exact⟨by rw[HX.out];rfl,hB⟩
 subst h1;by_cases h2:nl.length=4
 rotate_left
 ·(have jg:((nl.length:Int)==4)=false:=by rw[gF];omega);have HX:Hid (aE F (.mk 31 ⟨#[]⟩ nl np)=false):=hid (by rw[HR.out,Og _ _ _ _ h2,jL]);clear h2;generalize nl.length=m at *;(go_enter func18,ntmps18);go_wp2_with fail;go_ret;exact⟨by rw[HX.out];rfl,hB⟩
 obtain⟨x,y,z,u,rfl⟩:=Oh h2;clear h2;have gy:aF w (.agg #[.int .i64 31,.string ⟨#[]⟩,.slice A 4 cp,.int .i64 np]) (.mk 31 ⟨#[]⟩ [x,y,z,u] np):=HV.out;have hB:Below w w (w.alloc (.cells #[.int .i64 31,.string ⟨#[]⟩,.slice A 4 cp,.int .i64 np] 24)):=hB;have h8:aq (w.alloc (.cells #[.int .i64 31,.string ⟨#[]⟩,.slice A 4 cp,.int .i64 np] 24)) w.heap.size 24 #[.int .i64 31,.string ⟨#[]⟩,.slice A 4 cp,.int .i64 np]:=h8;obtain⟨bx,ox,A0,c0,rfl,hm⟩:=bC gy 0 (by simp);obtain⟨j4,j1,A1,c1,e,hl⟩:=bC gy 1 (by simp);injection e with e;injection e with e1 e2;subst e1 e2;obtain⟨j3,j0,A2,c2,e,hj⟩:=bC gy 2 (by simp);injection e with e;injection e with e1 e2;subst e1 e2;obtain⟨j2,jz,A3,c3,e,hi⟩:=bC gy 3 (by simp);injection e with e;injection e with e1 e2;subst e1 e2;simp only[Nd.kids_mk,gN,kC,jF,gZ,qe]at hm hl hj hi;have hc:=hid hm;have hp:=HD.out.kid (k:=x) (by simp);have ge:=hid hl;have ji:=HD.out.kid (k:=y) (by simp);have I:=hid hj;have ho:=HD.out.kid (k:=z) (by simp);have D:=hid hi;have jh:=HD.out.kid (k:=u) (by simp);clear gy HV hm hl hj hi;have ju:=hid (fun w'(h:C4 w' bx ox x A0 c0)=>eI _ x w' h.2.2.2.2);have jd:=hid (fun w'(h:C4 w' bx (ox+4) y A1 c1)=>eI _ y w' h.2.2.2.2);have g8:=hid (fun w'(h:C4 w' bx (ox+2*4) z A2 c2)=>eI _ z w' h.2.2.2.2);have jf:=hid (fun w'(h:C4 w' bx (ox+4) y A1 c1)=>HE.out _ y w' h.2.2.2.2 ji);have gg:=hid (fun w'(h:C4 w' bx (ox+3*4) u A3 c3)=>jy.out _ u w' h.2.2.2.2 jh);have jw:=hid (fun w'(h:C4 w' bx ox x A0 c0)=>je.out _ x (w'.alloc (.cells #[.int .i64 26,.int .i64 27,.int .i64 28] 3)) (af.below h.2.2.2.2 ((gH _ _).alloc (gC _) _)) hp [26,27,28] w'.heap.size 3 (oL.of_blk (aq.new w' 3 #[.int .i64 26,.int .i64 27,.int .i64 28])) (by decide));have ha:=hid (fun w'(h:C4 w' bx (ox+2*4) z A2 c2)=>je.out _ z (w'.alloc (.cells #[.int .i64 27,.int .i64 28,.int .i64 29] 3)) (af.below h.2.2.2.2 ((gH _ _).alloc (gC _) _)) ho [27,28,29] w'.heap.size 3 (oL.of_blk (aq.new w' 3 #[.int .i64 27,.int .i64 28,.int .i64 29])) (by decide));have U:=hid (show aE F (.mk 31 ⟨#[]⟩ [x,y,z,u] np)=((an x||(decide (x.kind∈([26,27,28]:List Int))&&F.stmt x))&&((an y||F.expr y)&&((an z||(decide (z.kind∈([27,28,29]:List Int))&&F.stmt z))&&F.block u)))by rw[HR.out,<-jx.out x hp,<-jv.out z ho];simp[sI,ck,Bool.or_assoc]);generalize(decide (x.kind∈([26,27,28]:List Int))&&F.stmt x)=rx at *;generalize(decide (z.kind∈([27,28,29]:List Int))&&F.stmt z)=rz at *;clear HR;obtain⟨hh,hg,hf,he,-⟩:=hc.out.below hB;(go_enter func18,ntmps18);go_wp2_with fail;refine(ju.out _ (hc.out.below hB)).mono ?_;rintro e w1⟨rfl,jr⟩;have gs:=au hB jr;clear hh hg hf he;cases g1:an x with
 | false=>
  obtain⟨hh,hg,hf,he,-⟩:=hc.out.below gs;go_wp2_with fail;refine(jw.out _ (hc.out.below gs)).mono ?_;rintro e w2⟨rfl,jq⟩;have jt:=gs.alloc gs.size (.cells #[.int .i64 26,.int .i64 27,.int .i64 28] 3);have g7:=au jt jq;clear hh hg hf he;cases g2:rx with
  |false=>go_wp2_with fail;go_ret;exact⟨by rw[U.out,g1,g2];rfl,g7⟩
  | true=>
   obtain⟨gp,gn,gm,gl,-⟩:=ge.out.below g7;go_wp2_with fail;refine(jd.out _ (ge.out.below g7)).mono ?_;rintro e w3⟨rfl,jp⟩;have gx:=au g7 jp;clear gp gn gm gl;cases g3:an y with
   | false=>
    obtain⟨gp,gn,gm,gl,-⟩:=ge.out.below gx;go_wp2_with fail;refine(jf.out _ (ge.out.below gx)).mono ?_;rintro e w4⟨rfl,jo⟩;have g0:=au gx jo;clear gp gn gm gl;cases g4:F.expr y with
    |false=>go_wp2_with fail;go_ret;exact⟨by rw[U.out,g1,g2,g3,g4];rfl,g0⟩
    | true=>
     obtain⟨O,N,M,J,-⟩:=I.out.below g0;go_wp2_with fail;refine(g8.out _ (I.out.below g0)).mono ?_;rintro e w5⟨rfl,jn⟩;have gr:=au g0 jn;clear O N M J;cases g5:an z with
     |false=>
      obtain⟨O,N,M,J,-⟩:=I.out.below gr;go_wp2_with fail;refine(ha.out _ (I.out.below gr)).mono ?_;rintro e w6⟨rfl,jm⟩;have js:=gr.alloc gr.size (.cells #[.int .i64 27,.int .i64 28,.int .i64 29] 3);have gz:=au js jm;clear O N M J;cases g6:rz with
      |false=>go_wp2_with fail;go_ret;exact⟨by rw[U.out,g1,g2,g3,g4,g5,g6];rfl,gz⟩
      |true=>obtain⟨gk,gj,gi,gh,-⟩:=D.out.below gz;go_wp2_with fail;refine(gg.out _ (D.out.below gz)).mono ?_;rintro e w7⟨rfl,jl⟩;go_wp2_with fail;go_ret;exact⟨by rw[U.out,g1,g2,g3,g4,g5,g6];rfl,au gz jl⟩
     |true=>obtain⟨gk,gj,gi,gh,-⟩:=D.out.below gr;go_wp2_with fail;refine(gg.out _ (D.out.below gr)).mono ?_;rintro e w8⟨rfl,jk⟩;go_wp2_with fail;go_ret;exact⟨by rw[U.out,g1,g2,g3,g4,g5];rfl,au gr jk⟩
   | true=>
    obtain⟨O,N,M,J,-⟩:=I.out.below gx;go_wp2_with fail;refine(g8.out _ (I.out.below gx)).mono ?_;rintro e w9⟨rfl,jj⟩;have gq:=au gx jj;clear O N M J;cases g9:an z with
    |false=>
     obtain⟨O,N,M,J,-⟩:=I.out.below gq;go_wp2_with fail;refine(ha.out _ (I.out.below gq)).mono ?_;rintro e w10⟨rfl,h7⟩;have jc:=gq.alloc gq.size (.cells #[.int .i64 27,.int .i64 28,.int .i64 29] 3);have gw:=au jc h7;clear O N M J;cases g10:rz with
     |false=>go_wp2_with fail;go_ret;exact⟨by rw[U.out,g1,g2,g3,g9,g10];rfl,gw⟩
     |true=>obtain⟨gk,gj,gi,gh,-⟩:=D.out.below gw;go_wp2_with fail;refine(gg.out _ (D.out.below gw)).mono ?_;rintro e w11⟨rfl,h6⟩;go_wp2_with fail;go_ret;exact⟨by rw[U.out,g1,g2,g3,g9,g10];rfl,au gw h6⟩
    |true=>obtain⟨gk,gj,gi,gh,-⟩:=D.out.below gq;go_wp2_with fail;refine(gg.out _ (D.out.below gq)).mono ?_;rintro e w12⟨rfl,h5⟩;go_wp2_with fail;go_ret;exact⟨by rw[U.out,g1,g2,g3,g9];rfl,au gq h5⟩
 | true=>
  obtain⟨gp,gn,gm,gl,-⟩:=ge.out.below gs;go_wp2_with fail;refine(jd.out _ (ge.out.below gs)).mono ?_;rintro e w13⟨rfl,h4⟩;have gd:=au gs h4;clear gp gn gm gl;cases g13:an y with
  | false=>
   obtain⟨gp,gn,gm,gl,-⟩:=ge.out.below gd;go_wp2_with fail;refine(jf.out _ (ge.out.below gd)).mono ?_;rintro e w14⟨rfl,h3⟩;have gv:=au gd h3;clear gp gn gm gl;cases g14:F.expr y with
   |false=>go_wp2_with fail;go_ret;exact⟨by rw[U.out,g1,g13,g14];rfl,gv⟩
   | true=>
    obtain⟨O,N,M,J,-⟩:=I.out.below gv;go_wp2_with fail;refine(g8.out _ (I.out.below gv)).mono ?_;rintro e w15⟨rfl,h0⟩;have gb:=au gv h0;clear O N M J;cases g15:an z with
    |false=>
     obtain⟨O,N,M,J,-⟩:=I.out.below gb;go_wp2_with fail;refine(ha.out _ (I.out.below gb)).mono ?_;rintro e w16⟨rfl,hz⟩;have jb:=gb.alloc gb.size (.cells #[.int .i64 27,.int .i64 28,.int .i64 29] 3);have gu:=au jb hz;clear O N M J;cases g16:rz with
     |false=>go_wp2_with fail;go_ret;exact⟨by rw[U.out,g1,g13,g14,g15,g16];rfl,gu⟩
     |true=>obtain⟨gk,gj,gi,gh,-⟩:=D.out.below gu;go_wp2_with fail;refine(gg.out _ (D.out.below gu)).mono ?_;rintro e w17⟨rfl,hy⟩;go_wp2_with fail;go_ret;exact⟨by rw[U.out,g1,g13,g14,g15,g16];rfl,au gu hy⟩
    |true=>obtain⟨gk,gj,gi,gh,-⟩:=D.out.below gb;go_wp2_with fail;refine(gg.out _ (D.out.below gb)).mono ?_;rintro e w18⟨rfl,hw⟩;go_wp2_with fail;go_ret;exact⟨by rw[U.out,g1,g13,g14,g15];rfl,au gb hw⟩
  | true=>
   obtain⟨O,N,M,J,-⟩:=I.out.below gd;go_wp2_with fail;refine(g8.out _ (I.out.below gd)).mono ?_;rintro e w19⟨rfl,hu⟩;have ga:=au gd hu;clear O N M J;cases g19:an z with
   |false=>
    obtain⟨O,N,M,J,-⟩:=I.out.below ga;go_wp2_with fail;refine(ha.out _ (I.out.below ga)).mono ?_;rintro e w20⟨rfl,ht⟩;have ja:=ga.alloc ga.size (.cells #[.int .i64 27,.int .i64 28,.int .i64 29] 3);have gt:=au ja ht;clear O N M J;cases g20:rz with
    |false=>go_wp2_with fail;go_ret;exact⟨by rw[U.out,g1,g13,g19,g20];rfl,gt⟩
    |true=>obtain⟨gk,gj,gi,gh,-⟩:=D.out.below gt;go_wp2_with fail;refine(gg.out _ (D.out.below gt)).mono ?_;rintro e w21⟨rfl,hr⟩;go_wp2_with fail;go_ret;exact⟨by rw[U.out,g1,g13,g19,g20];rfl,au gt hr⟩
   |true=>obtain⟨gk,gj,gi,gh,-⟩:=D.out.below ga;go_wp2_with fail;refine(gg.out _ (D.out.below ga)).mono ?_;rintro e w22⟨rfl,hq⟩;go_wp2_with fail;go_ret;exact⟨by rw[U.out,g1,g13,g19];rfl,au ga hq⟩
theorem Fa(F:cm)(k:Int)(t:ByteArray)(l:List Nd)(p:Int)(h5:k≠5)(h:∀j:Int,26<=j->j<=35->k≠j):aE F (.mk k t l p)=bI F (.mk k t l p):=by have gd:=h 26 (by decide) (by decide);have gb:=h 27 (by decide) (by decide);have ga:=h 28 (by decide) (by decide);have U:=h 29 (by decide) (by decide);have O:=h 30 (by decide) (by decide);have N:=h 31 (by decide) (by decide);have M:=h 32 (by decide) (by decide);have J:=h 33 (by decide) (by decide);have I:=h 34 (by decide) (by decide);have D:=h 35 (by decide) (by decide);simp[aE,h5,gd,gb,ga,U,O,N,M,J,I,D]
theorem IM(d:Nat)(C:l8 d)(v:Value)(n:Nd)(w:World)(D:aF w v n)(hd:df (d+1) n):
  Calls prog 18 #[v] w fun e w'=>e=.returned (.bool (aE (aa d) n))/\Below w w w':=by
 obtain⟨A,cp,rfl,hC⟩:=D.toC;have gh:=hid (fun w'(hb:Below w w w')=>yc d C.stmt _ n w' (af.below D hb) hd);obtain⟨nk,nt,nl,np⟩:=n;simp only[Nd.kind_mk,Nd.text_mk,Nd.kids_mk,Nd.pos_mk]at *;by_cases h5:nk=5
 ·subst h5;exact Ri d C nt nl np A cp w D hd
 by_cases gd:nk=26
 ·subst gd;exact N6 d C nt nl np A cp w D hd
 by_cases gb:nk=27
 ·subst gb;exact N7 d C nt nl np A cp w D hd
 by_cases ga:nk=28
 ·subst ga;exact N8 d C nt nl np A cp w D hd
 by_cases h:nk=29
 ·subst h;exact N9 d C nt nl np A cp w D hd
 by_cases U:nk=30
 ·subst U;exact Of d C nt nl np A cp w D hd
 by_cases O:nk=31
 ·subst O;exact Oi d C nt nl np A cp w D hd
 by_cases N:nk=32
 ·subst N;exact Oe d C nt nl np A cp w D hd
 by_cases M:nk=33
 ·subst M;exact Oa d C nt nl np A cp w D hd
 by_cases J:nk=34
 ·subst J;exact Ob d C nt nl np A cp w D hd
 by_cases I:nk=35
 ·subst I;exact Oc d C nt nl np A cp w D hd
 have HX:=hid (Fa (aa d) nk nt nl np h5 (fun j h1 h2 e=>by omega));have hB:=(aj w #[.int .i64 nk,.string nt,.slice A nl.length cp,.int .i64 np]).1;have gg:=(aj w #[.int .i64 nk,.string nt,.slice A nl.length cp,.int .i64 np]).2;obtain⟨x0,x1,x2,x3,-,-,-,-⟩:=ab gg;(have e5:(nk==5)=false:=by rw[gF];exact h5);(have gs:(nk==26)=false:=by rw[gF];exact gd);(have gr:(nk==27)=false:=by rw[gF];exact gb);(have gq:(nk==28)=false:=by rw[gF];exact ga);(have gp:(nk==29)=false:=by rw[gF];exact h);(have gn:(nk==30)=false:=by rw[gF];exact U);(have gm:(nk==31)=false:=by rw[gF];exact O);(have gl:(nk==32)=false:=by rw[gF];exact N);(have gk:(nk==33)=false:=by rw[gF];exact M);(have gj:(nk==34)=false:=by rw[gF];exact J);(have gi:(nk==35)=false:=by rw[gF];exact I);clear D hd hC C h5 gd gb ga h U O N M J I;generalize nl.length=m at *;(go_enter func18,ntmps18);go_wp2_with fail;refine(gh.out _ hB).mono ?_;rintro e w1⟨rfl,ge⟩;go_wp2_with fail;go_ret;exact⟨by rw[HX.out];rfl,au hB ge⟩
theorem t8:∀d,l8 d
 |0=>⟨fun _ _ _ _ h=>h.elim,fun _ _ _ _ h=>h.elim,fun _ _ _ _ h=>h.elim,fun _ _ _ _ h=>h.elim⟩
 |d+1=>⟨NU (d+1),fun v n w hv hd=>AC d (t8 d) v n w hv hd,fun v n w hv hd=>IM d (t8 d) v n w hv hd,fun v n w hv hd=>yc d (t8 d).stmt v n w hv hd⟩
theorem DF(v:Value)(n:Nd)(w:World)(hv:aF w v n)(hw:rn 101 n)(hc:(aO 100 n).length<=1000000000):
  Calls prog 5 #[v,.string ⟨#[101,120,112,114,101,115,115,105,111,110]⟩] w fun e w'=>e=.returned (.bool (bA n))/\Below w w w':=by
 have HV:=hid hv;obtain⟨A,cp,rfl,hC⟩:=hv.toC;have hB:=(aj w #[n.kind,n.text,.slice A n.kids.length cp,n.pos]).1;have b1:=(aj w #[n.kind,n.text,.slice A n.kids.length cp,n.pos]).2;have N:=hid (wN 101 _ n _ (by decide) (af.below HV.out hB) hw);have h:=hid (fun w'(hb:Below w w w')=>tv 100 _ n w' (by decide) (af.below HV.out hb) (rn.pred hw) hc);have HE:=hid (sd n);have HL:=hid (tX n);have HW:=hid hw;clear hv hC hw hc;by_cases hd:lG 101 n<=100
 rotate_left
 ·(have gb:((lG 101 n:Nat):Int)>100:=by omega);have U:Hid (bA n=false):=hid (by rw[HE.out,gP (by have:=HL.out;omega),jA]);clear hd;generalize lG 101 n=z at *;(go_enter func5,ntmps5);go_wp2_with fail;refine N.out.mono ?_;rintro e w1⟨rfl,D⟩;go_wp2_with fail;go_ret;exact⟨by rw[U.out];rfl,au hB D⟩
 (have gb:¬ ((lG 101 n:Nat):Int)>100:=by omega);have HD:=hid (li (rn.pred HW.out) (HL.out.1 hd));have M:=hid (show bA n=(decide (((aO 100 n).length:Int)<=65536)&&aH (aa 100) n)by rw[HE.out,jK (by have:=HL.out;omega),jP]);have U:=hid (fun w'(hb:Below w w w')=>AC 100 (t8 100) _ n w' (af.below HV.out hb) HD.out.succ);clear hd HL HE HW;generalize lG 101 n=z at *;generalize aH (aa 100) n=q at *;by_cases hs:(aO 100 n).length<=65536
 rotate_left
 ·(have ga:((aO 100 n).length:Int)>65536:=by omega);have U:Hid (bA n=false):=hid (by rw[M.out,gP (by omega),jA]);clear hs;generalize(aO 100 n).length=y at *;(go_enter func5,ntmps5);go_wp2_with fail;refine N.out.mono ?_;rintro e w1⟨rfl,D⟩;have I:=au hB D;have b2:=b1.bl D;obtain⟨x0,x1,x2,x3,-,-,-,-⟩:=ab b2;go_wp2_with fail;refine(h.out _ I).mono ?_;rintro e w2⟨rfl,J⟩;go_wp2_with fail;go_ret;exact⟨by rw[U.out];rfl,au I J⟩
 (have ga:¬ ((aO 100 n).length:Int)>65536:=by omega);have ge:Hid (bA n=q):=hid (by rw[M.out,jK (by omega),jP]);clear hs M;generalize(aO 100 n).length=y at *;(go_enter func5,ntmps5);go_wp2_with fail;refine N.out.mono ?_;rintro e w1⟨rfl,D⟩;have I:=au hB D;have b2:=b1.bl D;obtain⟨x0,x1,x2,x3,-,-,-,-⟩:=ab b2;go_wp2_with fail;refine(h.out _ I).mono ?_;rintro e w2⟨rfl,J⟩;have O:=au I J;have b3:=b2.bl J;clear x0 x1 x2 x3;obtain⟨x0,x1,x2,x3,-,-,-,-⟩:=ab b3;go_wp2_with fail;refine(U.out _ O).mono ?_;rintro e w3⟨rfl,gd⟩;go_wp2_with fail;go_ret;exact⟨by rw[ge.out];rfl,au O gd⟩
def Oj(F:cm)(k:Int)(l:List Nd):Bool:=
 if k=2 then nw (er F) F.block l
 else if k=3 then l5 (ck (ck F.typ (bE F)) (bo F)) l
 else if k=4 then l5 F.typ l
 else false
theorem Rj(F:cm)(t:ByteArray)(l:List Nd)(p:Int):bM F (.mk 5 t l p)=iL F (.mk 5 t l p):=by simp[bM]
theorem nx(k:Int)(f g h:Nd->Bool)(so:ByteArray->Bool)(l:List Nd){t:ByteArray}{p:Int}:cE k [f,g,h] (aw so (.mk k t l p))=(mN f g h l&&so t):=by
 rw[show aw so (.mk k t l p)=if so t=true then .mk k ⟨#[]⟩ l p else .mk 37 ⟨#[]⟩ [] 0 from rfl];by_cases hs:so t=true
 ·rw[gG hs,ye];simp[hs]
 ·rw[gB hs,ye];rw[qz]at hs;simp[hs,mN]
theorem pE(F:cm)(k:Int)(t:ByteArray)(x:Nd)(l:List Nd)(p:Int)(M:k≠5)(N:0<l.length):bM F (.mk k t (x::l) p)=(aB t&&(bj F x&&Oj F k l)):=by
 unfold bM Oj;by_cases D:k=2
 ·subst D;simp only[Nd.kind_mk,kG,nx];rw[Bool.and_comm];congr 1;rcases l with _|⟨a,_|⟨b,_|⟨c,l⟩⟩⟩<;>simp[mN,nw]
 by_cases I:k=3
 ·subst I;simp only[Nd.kind_mk,kG,gB D,fg];rw[Bool.and_comm];congr 1;rcases l with _|⟨a,_|⟨b,l⟩⟩<;>simp[nw,l5]
 by_cases J:k=4
 ·subst J;simp only[Nd.kind_mk,kG,gB D,gB I,fg];rw[Bool.and_comm];congr 1;rcases l with _|⟨a,_|⟨b,l⟩⟩<;>simp[nw,l5]
 ·simp[D,I,J,M,uw]
theorem IN(F:cm)(k:Int)(t:ByteArray)(l:List Nd)(p:Int)(M:k≠5)(N:l.length<2):bM F (.mk k t l p)=false:=by
 unfold bM;by_cases D:k=2
 ·subst D;simp only[Nd.kind_mk,kG,nx];rw[AE _ _ _ (by omega),jA]
 by_cases I:k=3
 ·subst I;simp only[Nd.kind_mk,kG,gB D,fg];rw[pT _ _ (by omega),jA]
 by_cases J:k=4
 ·subst J;simp only[Nd.kind_mk,kG,gB D,gB I,fg];rw[pT _ _ (by omega),jA]
 ·simp[D,I,J,M,uw]
theorem Fb(F:cm)(k:Int)(t:ByteArray)(l:List Nd)(p:Int)(N:k≠5)(I:aB t=false):bM F (.mk k t l p)=false:=by
 unfold bM;by_cases D:k=2
 ·subst D;simp only[Nd.kind_mk,kG,nx,I,jL]
 by_cases J:k=3
 ·subst J;simp only[Nd.kind_mk,kG,gB D,fg,I,jL]
 by_cases M:k=4
 ·subst M;simp only[Nd.kind_mk,kG,gB D,gB J,fg,I,jL]
 ·simp[D,J,M,N,uw]
end
end Go.Proofs.YteialcjaiocjdaaGreatDoor
