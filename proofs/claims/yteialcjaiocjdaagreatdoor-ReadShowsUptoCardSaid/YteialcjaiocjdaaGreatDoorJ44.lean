/-
  Parts of the proof: Uexpr Uvar Ukind. By an AI agent.
-/
import Derived.Test.YteialcjaiocjdaaGreatDoorJ43
import Derived.Test.YteialcjaiocjdaaGreatDoorJ15
import Derived.Deep.RegionHeld3
import Derived.BigQuiet
open Go.Proofs.Tryz
set_option maxRecDepth 100000
set_option maxHeartbeats 8000000
namespace Go.Proofs.YteialcjaiocjdaaGreatDoor
section
open Go.RowKit Go.Lib Go.Proofs
attribute [local go_sem ↓] Go.wp_at_zero Go.wp_at_succ
theorem E8(F:cm)(k:Int)(t:ByteArray)(l:List Nd)(p:Int)(h:∀j:Int,16<=j->j<=25->k≠j):aH F (.mk k t l p)=false:=by have gd:=h 16 (by decide) (by decide);have gb:=h 17 (by decide) (by decide);have ga:=h 18 (by decide) (by decide);have U:=h 19 (by decide) (by decide);have O:=h 20 (by decide) (by decide);have N:=h 21 (by decide) (by decide);have M:=h 22 (by decide) (by decide);have J:=h 23 (by decide) (by decide);have I:=h 24 (by decide) (by decide);have D:=h 25 (by decide) (by decide);(have e:aH F (.mk k t l p)=cE 25 [er F,F.block] (.mk k t l p):=by simp[aH,gd,gb,ga,U,O,N,M,J,I]);rw[e,pC];simp[D]
theorem AC(d:Nat)(C:l8 d)(v:Value)(n:Nd)(w:World)(D:aF w v n)(hd:df (d+1) n):
  Calls prog 17 #[v] w fun e w'=>e=.returned (.bool (aH (aa d) n))/\Below w w w':=by
 obtain⟨A,cp,rfl,hC⟩:=D.toC;obtain⟨nk,nt,nl,np⟩:=n;simp only[Nd.kind_mk,Nd.text_mk,Nd.kids_mk,Nd.pos_mk]at *;by_cases gd:nk=16
 ·subst gd;exact NW d C nt nl np A cp w D hd
 by_cases gb:nk=17
 ·subst gb;exact NX d C nt nl np A cp w D hd
 by_cases ga:nk=18
 ·subst ga;exact NY d C nt nl np A cp w D hd
 by_cases h:nk=19
 ·subst h;exact NZ d C nt nl np A cp w D hd
 by_cases U:nk=20
 ·subst U;exact N5 d C nt nl np A cp w D hd
 by_cases O:nk=21
 ·subst O;exact N1 d C nt nl np A cp w D hd
 by_cases N:nk=22
 ·subst N;exact N4 d C nt nl np A cp w D hd
 by_cases M:nk=23
 ·subst M;exact N0 d C nt nl np A cp w D hd
 by_cases J:nk=24
 ·subst J;exact N3 d C nt nl np A cp w D hd
 by_cases I:nk=25
 ·subst I;exact N2 d C nt nl np A cp w D hd
 have HX:=hid (E8 (aa d) nk nt nl np (fun j h1 h2 e=>by omega));have hB:=(aj w #[.int .i64 nk,.string nt,.slice A nl.length cp,.int .i64 np]).1;(have gp:(nk==16)=false:=by rw[gF];exact gd);(have gn:(nk==17)=false:=by rw[gF];exact gb);(have gm:(nk==18)=false:=by rw[gF];exact ga);(have gl:(nk==19)=false:=by rw[gF];exact h);(have gk:(nk==20)=false:=by rw[gF];exact U);(have gj:(nk==21)=false:=by rw[gF];exact O);(have gi:(nk==22)=false:=by rw[gF];exact N);(have gh:(nk==23)=false:=by rw[gF];exact M);(have gg:(nk==24)=false:=by rw[gF];exact J);(have ge:(nk==25)=false:=by rw[gF];exact I);clear D hd hC C gd gb ga h U O N M J I;generalize nl.length=m at *;(go_enter func17,ntmps17);go_wp2_with fail;go_ret;exact⟨by rw[HX.out];rfl,hB⟩
theorem uw(F:cm)(k:Int)(t:ByteArray)(l:List Nd)(p:Int):iL F (.mk k t l p)=(decide (k=5)&&(aB t&&(nw (ck an F.typ) (ck an F.expr) l&&(!(an (l.getD 0 cc)) || !(an (l.getD 1 cc)))))):=by
 unfold iL;rw[show aw aB (.mk k t l p)=if aB t=true then .mk k ⟨#[]⟩ l p else .mk 37 ⟨#[]⟩ [] 0 from rfl];by_cases hs:aB t=true
 ·rw[gG hs,pC];simp[hs,Bool.and_assoc];rfl
 ·rw[gB hs,pC];rw[qz]at hs;simp[hs,nw]
theorem DC(d:Nat)(C:l8 d)(v:Value)(n:Nd)(w:World)(hv:aF w v n)(hd:df (d+1) n):
  Calls prog 35 #[v] w fun e w'=>e=.returned (.bool (iL (aa d) n))/\Below w w w':=by
 obtain⟨A,cp,rfl,hC⟩:=hv.toC;have HV:=hid hv;have HD:=hid hd;have gu:=hd.1.1;have HT:=hid C.typ;have HE:=hid C.expr;clear hv hd C hC;generalize aa d=F at *;obtain⟨nk,nt,nl,np⟩:=n;simp only[Nd.kind_mk,Nd.text_mk,Nd.kids_mk,Nd.pos_mk]at *;have HR:=hid (uw F nk nt nl np);have hB:=(aj w #[.int .i64 nk,.string nt,.slice A nl.length cp,.int .i64 np]).1;have gl:=(aj w #[.int .i64 nk,.string nt,.slice A nl.length cp,.int .i64 np]).2;by_cases h1:nk=5
 rotate_left
 ·(have gs:(nk != 5)=true:=by simpa using h1);have HX:Hid (iL F (.mk nk nt nl np)=false):=hid (by rw[HR.out,gP h1,jA]);clear h1;(go_enter func35,ntmps35);go_wp2_with fail;go_ret;exact⟨by rw[HX.out];rfl,hB⟩
 subst h1;cases h2:aB nt with
 |false=>have HX:Hid (iL F (.mk 5 nt nl np)=false):=hid (by rw[HR.out,h2,jA,jL]);(go_enter func35,ntmps35);go_wp2_with fail;refine(aQ _ _).mono ?_;rw[h2];rintro e w1⟨rfl,gi⟩;go_wp2_with fail;go_ret;exact⟨by rw[HX.out];rfl,au hB gi⟩
 | true=>
  by_cases h3:nl.length=2
  rotate_left
  ·(have gs:((nl.length:Int) != 2)=true:=by rw[vc];omega);have HX:Hid (iL F (.mk 5 nt nl np)=false):=hid (by rw[HR.out,pT _ _ h3,jA,jL,jL]);clear h3;generalize nl.length=m at *;(go_enter func35,ntmps35);go_wp2_with fail;refine(aQ _ _).mono ?_;rw[h2];rintro e w1⟨rfl,gi⟩;have gj:=gl.bl gi;obtain⟨x0,x1,x2,x3,-,-,-,-⟩:=ab gj;go_wp2_with fail;go_ret;exact⟨by rw[HX.out];rfl,au hB gi⟩
  obtain⟨x,y,rfl⟩:=E6 h3;have gn:=hid (show iL F (.mk 5 nt [x,y] np)=(((an x||F.typ x)&&(an y||F.expr y))&&(!(an x) || !(an y)))by rw[HR.out,h2];simp[nw,ck]);have gm:aF w (.agg #[.int .i64 5,.string nt,.slice A 2 cp,.int .i64 np]) (.mk 5 nt [x,y] np):=HV.out;have hB:Below w w (w.alloc (.cells #[.int .i64 5,.string nt,.slice A 2 cp,.int .i64 np] 24)):=hB;have gl:aq (w.alloc (.cells #[.int .i64 5,.string nt,.slice A 2 cp,.int .i64 np] 24)) w.heap.size 24 #[.int .i64 5,.string nt,.slice A 2 cp,.int .i64 np]:=gl;obtain⟨bx,ox,A1,c1,rfl,hx⟩:=bC gm 0 (by simp);obtain⟨bx',ox',A2,c2,e,hy⟩:=bC gm 1 (by simp);injection e with e;injection e with e1 e2;subst e1 e2;simp only[Nd.kids_mk,gN,kC,jF,gZ,qe]at hx hy;have ga:=hid hx;have gb:=hid hy;have gq:=HD.out.kid (k:=x) (by simp);have gp:=HD.out.kid (k:=y) (by simp);have gd:=hid (fun w'(h:C4 w' bx ox x A1 c1)=>eI _ x w' h.2.2.2.2);have ge:=hid (fun w'(h:C4 w' bx (ox+4) y A2 c2)=>eI _ y w' h.2.2.2.2);have gk:=hid (fun w'(h:C4 w' bx ox x A1 c1)=>HT.out _ x w' h.2.2.2.2 gq);have gh:=hid (fun w'(h:C4 w' bx (ox+4) y A2 c2)=>HE.out _ y w' h.2.2.2.2 gp);clear hx hy gm HV h3 HR gq gp;(go_enter func35,ntmps35);go_wp2_with fail;refine(aQ _ _).mono ?_;rw[h2];rintro e w1⟨rfl,gi⟩;have gg:=au hB gi;have gj:=gl.bl gi;obtain⟨x0,x1,x2,x3,-,-,-,-⟩:=ab gj;obtain⟨p0,p1,p2,p3,-⟩:=ga.out.below gg;obtain⟨q0,q1,q2,q3,-⟩:=gb.out.below gg;clear hB gl gi;have gt:bx<w1.heap.size:=jD w1 _ p0;have gr:w.heap.size<w1.heap.size:=gj.lt;(have n1:w1.heap.size≠bx:=by omega);(have n2:w1.heap.size+1≠bx:=by omega);(have n3:w1.heap.size≠w.heap.size:=by omega);(have n4:w1.heap.size+1≠w.heap.size:=by omega);(go_upto_region 3 with fail);go_cut [3,4] (fun s3 s4 wx=>∃b3 b4,s3=.pointer (some ⟨b3,0,none⟩)/\s4=.pointer (some ⟨b4,0,none⟩)/\aq wx b3 24 #[x.kind,x.text,.slice A1 x.kids.length c1,x.pos]/\aq wx b4 24 #[y.kind,y.text,.slice A2 y.kids.length c2,y.pos]/\Below w w wx)
  case first=>
   clear x0 x1 x3 gd ge gk gh ga gb gn;go_region_held3 (fun w'=>w'.cell? ⟨w,2,none⟩=some (.slice (some ⟨bx,ox,none⟩) 2 cp)/\w'.cell? ⟨bx,ox,none⟩=some (.int .i64 x.kind)/\w'.cell? ⟨bx,ox+1,none⟩=some (.string x.text)/\w'.cell? ⟨bx,ox+2,none⟩=some (.slice A1 x.kids.length c1)/\w'.cell? ⟨bx,ox+3,none⟩=some (.int .i64 x.pos)/\w'.cell? ⟨bx,ox+4,none⟩=some (.int .i64 y.kind)/\w'.cell? ⟨bx,ox+4+1,none⟩=some (.string y.text)/\w'.cell? ⟨bx,ox+4+2,none⟩=some (.slice A2 y.kids.length c2)/\w'.cell? ⟨bx,ox+4+3,none⟩=some (.int .i64 y.pos)) (go_keep) (fail);all_goals
    go_wp2_with fail;go_meet;first
     |exact⟨_,_,rfl,rfl,((aq.new w1 _ _).alloc _).drew,(aq.new_at (by simp) _ _).drew,((gg.alloc gg.size _).alloc (by have:=gg.size;simp;omega) _).drew⟩
     |exact⟨_,_,rfl,rfl,(aq.new_at (by simp) _ _).drew,((aq.new w1 _ _).alloc _).drew,((gg.alloc gg.size _).alloc (by have:=gg.size;simp;omega) _).drew⟩
  case rest=>
   obtain⟨b3,b4,rfl,rfl,M,J,I⟩:=hcut;clear x0 x1 x2 x3 p0 p1 p2 p3 q0 q1 q2 q3 gg gj n1 n2 n3 n4 gt gr;have HX:=hid gn.out;clear gn;obtain⟨z0,U,O,N,-,-,-,-⟩:=ab M;obtain⟨y0,y1,y2,y3,-,-,-,-⟩:=ab J;cases g1:an x with
   | false=>
    rw[g1]at gd HX;clear g1;cases g2:F.typ x with
    |false=>rw[g2]at gk HX;clear g2;go_wp2_with fail;refine(gd.out _ (ga.out.below I)).mono ?_;rintro e wk⟨rfl,D⟩;replace M:=M.bl D;replace J:=J.bl D;replace I:=au I D;clear z0 U O N y0 y1 y2 y3 D;obtain⟨z0,U,O,N,-,-,-,-⟩:=ab M;obtain⟨y0,y1,y2,y3,-,-,-,-⟩:=ab J;go_wp2_with fail;refine(gk.out _ (ga.out.below I)).mono ?_;rintro e wk⟨rfl,D⟩;replace M:=M.bl D;replace J:=J.bl D;replace I:=au I D;clear z0 U O N y0 y1 y2 y3 D;obtain⟨z0,U,O,N,-,-,-,-⟩:=ab M;obtain⟨y0,y1,y2,y3,-,-,-,-⟩:=ab J;go_wp2_with fail;go_ret;exact⟨by rw[HX.out];rfl,I⟩
    | true=>
     rw[g2]at gk HX;clear g2;cases g3:an y with
     |false=>
      rw[g3]at ge HX;clear g3;cases g4:F.expr y with
      |false=>rw[g4]at gh HX;clear g4;go_wp2_with fail;refine(gd.out _ (ga.out.below I)).mono ?_;rintro e wk⟨rfl,D⟩;replace M:=M.bl D;replace J:=J.bl D;replace I:=au I D;clear z0 U O N y0 y1 y2 y3 D;obtain⟨z0,U,O,N,-,-,-,-⟩:=ab M;obtain⟨y0,y1,y2,y3,-,-,-,-⟩:=ab J;go_wp2_with fail;refine(gk.out _ (ga.out.below I)).mono ?_;rintro e wk⟨rfl,D⟩;replace M:=M.bl D;replace J:=J.bl D;replace I:=au I D;clear z0 U O N y0 y1 y2 y3 D;obtain⟨z0,U,O,N,-,-,-,-⟩:=ab M;obtain⟨y0,y1,y2,y3,-,-,-,-⟩:=ab J;go_wp2_with fail;refine(ge.out _ (gb.out.below I)).mono ?_;rintro e wk⟨rfl,D⟩;replace M:=M.bl D;replace J:=J.bl D;replace I:=au I D;clear z0 U O N y0 y1 y2 y3 D;obtain⟨z0,U,O,N,-,-,-,-⟩:=ab M;obtain⟨y0,y1,y2,y3,-,-,-,-⟩:=ab J;go_wp2_with fail;refine(gh.out _ (gb.out.below I)).mono ?_;rintro e wk⟨rfl,D⟩;replace M:=M.bl D;replace J:=J.bl D;replace I:=au I D;clear z0 U O N y0 y1 y2 y3 D;obtain⟨z0,U,O,N,-,-,-,-⟩:=ab M;obtain⟨y0,y1,y2,y3,-,-,-,-⟩:=ab J;go_wp2_with fail;go_ret;exact⟨by rw[HX.out];rfl,I⟩
      |true=>rw[g4]at gh HX;clear g4;go_wp2_with fail;refine(gd.out _ (ga.out.below I)).mono ?_;rintro e wk⟨rfl,D⟩;replace M:=M.bl D;replace J:=J.bl D;replace I:=au I D;clear z0 U O N y0 y1 y2 y3 D;obtain⟨z0,U,O,N,-,-,-,-⟩:=ab M;obtain⟨y0,y1,y2,y3,-,-,-,-⟩:=ab J;go_wp2_with fail;refine(gk.out _ (ga.out.below I)).mono ?_;rintro e wk⟨rfl,D⟩;replace M:=M.bl D;replace J:=J.bl D;replace I:=au I D;clear z0 U O N y0 y1 y2 y3 D;obtain⟨z0,U,O,N,-,-,-,-⟩:=ab M;obtain⟨y0,y1,y2,y3,-,-,-,-⟩:=ab J;go_wp2_with fail;refine(ge.out _ (gb.out.below I)).mono ?_;rintro e wk⟨rfl,D⟩;replace M:=M.bl D;replace J:=J.bl D;replace I:=au I D;clear z0 U O N y0 y1 y2 y3 D;obtain⟨z0,U,O,N,-,-,-,-⟩:=ab M;obtain⟨y0,y1,y2,y3,-,-,-,-⟩:=ab J;go_wp2_with fail;refine(gh.out _ (gb.out.below I)).mono ?_;rintro e wk⟨rfl,D⟩;replace M:=M.bl D;replace J:=J.bl D;replace I:=au I D;clear z0 U O N y0 y1 y2 y3 D;obtain⟨z0,U,O,N,-,-,-,-⟩:=ab M;obtain⟨y0,y1,y2,y3,-,-,-,-⟩:=ab J;go_wp2_with fail;refine(gd.out _ (ga.out.below I)).mono ?_;rintro e wk⟨rfl,D⟩;replace M:=M.bl D;replace J:=J.bl D;replace I:=au I D;clear z0 U O N y0 y1 y2 y3 D;obtain⟨z0,U,O,N,-,-,-,-⟩:=ab M;obtain⟨y0,y1,y2,y3,-,-,-,-⟩:=ab J;go_wp2_with fail;go_ret;exact⟨by rw[HX.out];rfl,I⟩
     |true=>rw[g3]at ge HX;clear g3;go_wp2_with fail;refine(gd.out _ (ga.out.below I)).mono ?_;rintro e wk⟨rfl,D⟩;replace M:=M.bl D;replace J:=J.bl D;replace I:=au I D;clear z0 U O N y0 y1 y2 y3 D;obtain⟨z0,U,O,N,-,-,-,-⟩:=ab M;obtain⟨y0,y1,y2,y3,-,-,-,-⟩:=ab J;go_wp2_with fail;refine(gk.out _ (ga.out.below I)).mono ?_;rintro e wk⟨rfl,D⟩;replace M:=M.bl D;replace J:=J.bl D;replace I:=au I D;clear z0 U O N y0 y1 y2 y3 D;obtain⟨z0,U,O,N,-,-,-,-⟩:=ab M;obtain⟨y0,y1,y2,y3,-,-,-,-⟩:=ab J;go_wp2_with fail;refine(ge.out _ (gb.out.below I)).mono ?_;rintro e wk⟨rfl,D⟩;replace M:=M.bl D;replace J:=J.bl D;replace I:=au I D;clear z0 U O N y0 y1 y2 y3 D;obtain⟨z0,U,O,N,-,-,-,-⟩:=ab M;obtain⟨y0,y1,y2,y3,-,-,-,-⟩:=ab J;go_wp2_with fail;refine(gd.out _ (ga.out.below I)).mono ?_;rintro e wk⟨rfl,D⟩;replace M:=M.bl D;replace J:=J.bl D;replace I:=au I D;clear z0 U O N y0 y1 y2 y3 D;obtain⟨z0,U,O,N,-,-,-,-⟩:=ab M;obtain⟨y0,y1,y2,y3,-,-,-,-⟩:=ab J;go_wp2_with fail;go_ret;exact⟨by rw[HX.out];rfl,I⟩
   | true=>
    rw[g1]at gd HX;clear g1;cases g3:an y with
    |false=>
     rw[g3]at ge HX;clear g3;cases g4:F.expr y with
     |false=>rw[g4]at gh HX;clear g4;go_wp2_with fail;refine(gd.out _ (ga.out.below I)).mono ?_;rintro e wk⟨rfl,D⟩;replace M:=M.bl D;replace J:=J.bl D;replace I:=au I D;clear z0 U O N y0 y1 y2 y3 D;obtain⟨z0,U,O,N,-,-,-,-⟩:=ab M;obtain⟨y0,y1,y2,y3,-,-,-,-⟩:=ab J;go_wp2_with fail;refine(ge.out _ (gb.out.below I)).mono ?_;rintro e wk⟨rfl,D⟩;replace M:=M.bl D;replace J:=J.bl D;replace I:=au I D;clear z0 U O N y0 y1 y2 y3 D;obtain⟨z0,U,O,N,-,-,-,-⟩:=ab M;obtain⟨y0,y1,y2,y3,-,-,-,-⟩:=ab J;go_wp2_with fail;refine(gh.out _ (gb.out.below I)).mono ?_;rintro e wk⟨rfl,D⟩;replace M:=M.bl D;replace J:=J.bl D;replace I:=au I D;clear z0 U O N y0 y1 y2 y3 D;obtain⟨z0,U,O,N,-,-,-,-⟩:=ab M;obtain⟨y0,y1,y2,y3,-,-,-,-⟩:=ab J;go_wp2_with fail;go_ret;exact⟨by rw[HX.out];rfl,I⟩
     |true=>rw[g4]at gh HX;clear g4;go_wp2_with fail;refine(gd.out _ (ga.out.below I)).mono ?_;rintro e wk⟨rfl,D⟩;replace M:=M.bl D;replace J:=J.bl D;replace I:=au I D;clear z0 U O N y0 y1 y2 y3 D;obtain⟨z0,U,O,N,-,-,-,-⟩:=ab M;obtain⟨y0,y1,y2,y3,-,-,-,-⟩:=ab J;go_wp2_with fail;refine(ge.out _ (gb.out.below I)).mono ?_;rintro e wk⟨rfl,D⟩;replace M:=M.bl D;replace J:=J.bl D;replace I:=au I D;clear z0 U O N y0 y1 y2 y3 D;obtain⟨z0,U,O,N,-,-,-,-⟩:=ab M;obtain⟨y0,y1,y2,y3,-,-,-,-⟩:=ab J;go_wp2_with fail;refine(gh.out _ (gb.out.below I)).mono ?_;rintro e wk⟨rfl,D⟩;replace M:=M.bl D;replace J:=J.bl D;replace I:=au I D;clear z0 U O N y0 y1 y2 y3 D;obtain⟨z0,U,O,N,-,-,-,-⟩:=ab M;obtain⟨y0,y1,y2,y3,-,-,-,-⟩:=ab J;go_wp2_with fail;refine(gd.out _ (ga.out.below I)).mono ?_;rintro e wk⟨rfl,D⟩;replace M:=M.bl D;replace J:=J.bl D;replace I:=au I D;clear z0 U O N y0 y1 y2 y3 D;obtain⟨z0,U,O,N,-,-,-,-⟩:=ab M;obtain⟨y0,y1,y2,y3,-,-,-,-⟩:=ab J;go_wp2_with fail;refine(ge.out _ (gb.out.below I)).mono ?_;rintro e wk⟨rfl,D⟩;replace M:=M.bl D;replace J:=J.bl D;replace I:=au I D;clear z0 U O N y0 y1 y2 y3 D;obtain⟨z0,U,O,N,-,-,-,-⟩:=ab M;obtain⟨y0,y1,y2,y3,-,-,-,-⟩:=ab J;go_wp2_with fail;go_ret;exact⟨by rw[HX.out];rfl,I⟩
    |true=>rw[g3]at ge HX;clear g3;go_wp2_with fail;refine(gd.out _ (ga.out.below I)).mono ?_;rintro e wk⟨rfl,D⟩;replace M:=M.bl D;replace J:=J.bl D;replace I:=au I D;clear z0 U O N y0 y1 y2 y3 D;obtain⟨z0,U,O,N,-,-,-,-⟩:=ab M;obtain⟨y0,y1,y2,y3,-,-,-,-⟩:=ab J;go_wp2_with fail;refine(ge.out _ (gb.out.below I)).mono ?_;rintro e wk⟨rfl,D⟩;replace M:=M.bl D;replace J:=J.bl D;replace I:=au I D;clear z0 U O N y0 y1 y2 y3 D;obtain⟨z0,U,O,N,-,-,-,-⟩:=ab M;obtain⟨y0,y1,y2,y3,-,-,-,-⟩:=ab J;go_wp2_with fail;refine(gd.out _ (ga.out.below I)).mono ?_;rintro e wk⟨rfl,D⟩;replace M:=M.bl D;replace J:=J.bl D;replace I:=au I D;clear z0 U O N y0 y1 y2 y3 D;obtain⟨z0,U,O,N,-,-,-,-⟩:=ab M;obtain⟨y0,y1,y2,y3,-,-,-,-⟩:=ab J;go_wp2_with fail;refine(ge.out _ (gb.out.below I)).mono ?_;rintro e wk⟨rfl,D⟩;replace M:=M.bl D;replace J:=J.bl D;replace I:=au I D;clear z0 U O N y0 y1 y2 y3 D;obtain⟨z0,U,O,N,-,-,-,-⟩:=ab M;obtain⟨y0,y1,y2,y3,-,-,-,-⟩:=ab J;go_wp2_with fail;go_ret;exact⟨by rw[HX.out];rfl,I⟩
def oL(w:World)(g:Nat)(l:List Int):Prop:=∀i(h:i<l.length),w.cell? ⟨g,i,none⟩=some (.int .i64 l[i])
theorem oL.below{w w':World}{g:Nat}{l:List Int}(h:oL w g l)(hb:Below w w w'):oL w' g l:=
 fun i hi=>(hb.cell (jD w _ (h i hi))).trans (h i hi)
theorem oL.of_blk{w:World}{g:Nat}{t:TypeId}{l:List Int}(h:aq w g t (l.map (Value.int .i64)).toArray):oL w g l:=by intro i hi;have:=h.cell (0+i);rw[kR]at this;rw[this];simp[hi]
theorem AD(d:Nat)(hS:tg d 18 (aa d).stmt)(v:Value)(n:Nd)(w:World)(hv:aF w v n)(hd:df d n)(ks:List Int)(g c:Nat)(hk:oL w g ks)(hl:ks.length<=100):
  Calls prog 44 #[v,.slice (some ⟨g,0,none⟩) ks.length c] w fun e w'=>e=.returned (.bool (decide (n.kind∈ks)&&(aa d).stmt n))/\Below w w w':=by
 have HS:=hid (fun w'(hb:Below w w w')=>hS v n w' (af.below hv hb) hd);generalize(aa d).stmt n=res at *;obtain⟨A,cp,rfl,hC⟩:=hv.toC;have hB:=(aj w #[n.kind,n.text,.slice A n.kids.length cp,n.pos]).1;have I:=(aj w #[n.kind,n.text,.slice A n.kids.length cp,n.pos]).2;have HK:=hid hk;clear hv hC hd hk hS;(go_enter func44,ntmps44);go_wp2_with fail;go_loopg [5] ks.length (fun k u5 wr=>∃i:Nat,i<=ks.length/\ks.length-i<=k/\u5=.int .i64 (i:Int)/\Below w w wr/\aq wr w.heap.size 24 #[n.kind,n.text,.slice A n.kids.length cp,n.pos]/\∀x∈ks.take i,n.kind≠x)
 case atStart=>exact⟨0,gQ _,by omega,rfl,hB,I,fun x D=>by simp at D⟩
 case round=>
  clear hB I;obtain⟨i,hi,gg,rfl,N,I,U⟩:=hrel;have HA:=hid U;clear U;obtain⟨x0,x1,x2,x3,-,-,-,-⟩:=ab I;by_cases ga:i<ks.length
  ·(have gb:(i:Int)<(ks.length:Int):=by omega);(have h0:(0:Int)<=(i:Int):=by omega);have hc:=HK.out.below N i ga;have J:Hid (n.kind≠ks[i]->∀x∈ks.take (i+1),n.kind≠x):=hid (by
    intro h x D;rw[gU ga,List.mem_append]at D;rcases D with D|D
    ·exact HA.out x D
    ·obtain rfl:=List.mem_singleton.1 D;exact h)
   have M:Hid (n.kind=ks[i]->decide (n.kind∈ks)=true):=hid (by intro h;rw[gR,h];exact gS ga);generalize ks[i]=x at *;by_cases D:n.kind=x
   ·(have hq:(n.kind==x)=true:=by simpa using D);have HX:=hid (M.out D);clear D J M;go_wp2_with fail;go_quiet (fail);have O:=bK N nq;obtain⟨x0,x1,x2,x3,-,-,-,-⟩:=ab (I.drewN nq);generalize wr.drewN nq=w3 at *;go_wp2_with fail;refine(HS.out _ O).mono ?_;rintro e w4⟨rfl,ge⟩;go_wp2_with fail;go_ret;exact⟨by rw[HX.out,jP];rfl,au O ge⟩
   ·(have hq:(n.kind==x)=false:=by simpa using D);have HX:=hid (J.out D);clear D J M;go_wp2_with fail;go_quiet (fail);have O:=bK N nq;have gd:=I.drewN nq;generalize wr.drewN nq=w3 at *;go_wp2_with fail;go_roundg (ks.length-(i+1))
    case measure=>omega
    case rel=>exact⟨i+1,by omega,gC _,by go_num,O,gd,HX.out⟩
  ·(have gb:¬ (i:Int)<(ks.length:Int):=by omega);have HX:Hid (decide (n.kind∈ks)=false):=hid (by rw[gK];intro h;exact HA.out n.kind (by rw[gV (by omega)];exact h) rfl);go_wp2_with fail;go_ret;exact⟨by rw[HX.out,jA];rfl,N⟩
end
end Go.Proofs.YteialcjaiocjdaaGreatDoor
