/-
  Parts of the proof: Tstmt Mframe Rblock. By an AI agent.
-/
import Derived.Test.YtcoiialmdncpfaaGreatDoorJ12
import Derived.Test.YtcoiialmdncpfaaGreatDoorJ16
import Derived.Test.YtcoiialmdncpfaaGreatDoorCards
import Derived.Test.YtcoiialmdncpfaaGreatDoorTie
import Derived.Test.YtcoiialmdncpfaaGreatDoorJ00
import Derived.Test.YtcoiialmdncpfaaGreatDoorJ13
import Derived.Test.YtcoiialmdncpfaaGreatDoorJ07
import Derived.Test.YtcoiialmdncpfaaGreatDoorJ09
import Derived.ChangeSlices
import Derived.Lib.LaidU8T
import Derived.Deep.RegionLaw
open Go.Proofs.Tryz
set_option maxRecDepth 100000
set_option maxHeartbeats 8000000
namespace Go.Proofs.YtcoiialmdncpfaaGreatDoor
section
open Go.RowKit Go.Lib Go.Proofs
attribute [local go_sem ↓] Go.wp_at_zero Go.wp_at_succ
theorem Gj(a:Array Value)(w:World):(callFunc 253 a).run prog w=.ok (.enter 253 a) w:=by kernel_rfl
theorem E3(a:Array Value)(w:World):(callFunc 254 a).run prog w=.ok (.enter 254 a) w:=by kernel_rfl
theorem E4(a:Array Value)(w:World):(callFunc 255 a).run prog w=.ok (.enter 255 a) w:=by kernel_rfl
theorem Lc(a:Array Value)(w:World):(callFunc 256 a).run prog w=.ok (.enter 256 a) w:=by kernel_rfl
theorem Gk(a:Array Value)(w:World):(callFunc 293 a).run prog w=.ok (.enter 293 a) w:=by kernel_rfl
theorem Ld(g:Nat)(F:eZ)(hF:pQ g F):eT (g+1) (pB F) 255:=by refine fj hF fun w n A cp hB b1 HV HV0 HT HF HD=>?_;clear hF;have HE:=hid (show pB F n=fi 28 [F.expr] (aJ uu n)from rfl);(go_enter func255,ntmps255);go_wp2_with fail;refine(bY _ _ n HV.out ⟨292,#[]⟩ uu (MG _) HD.out.txt).mono ?_;rintro e w1⟨v1,rfl,O,M⟩;have x:=aE hB M;have h:=hid (bQ.below HT.out M);have y:=hid O;clear M O;go_wp2_with fail;have D:=(gC w1.heap.size w1).alloc (gA _) (.cells #[.func (.func 191) #[] #[]] 196);have I:=aE x D;refine(bI g [(⟨191,#[]⟩,F.expr)] 28 v1 (aJ uu n) _ _ 1 rfl (by omega) (y.out.below D) HD.out.named (dq.new _ rfl (aa.new w1 _ _)) (fa (HF.out.expr.so di _ (bQ.below h.out D)))).mono ?_;rintro e w2⟨rfl,J⟩;have q:=aE I J;have z:=hid (bQ.below (bQ.below h.out D) J);clear D I;clear J;go_wp2_with fail;go_ret;exact⟨by rw[HE.out];rfl,q⟩
theorem E5(g:Nat)(F:eZ)(hF:pQ g F):eT (g+1) (me F) 253:=by refine fj hF fun w n A cp hB b1 HV HV0 HT HF HD=>?_;clear hF;have HE:=hid (show me F n=fi 26 [F.expr] (aJ fL n)from rfl);(go_enter func253,ntmps253);go_wp2_with fail;refine(bY _ _ n HV.out ⟨291,#[]⟩ fL (G9 _) HD.out.txt).mono ?_;rintro e w1⟨v1,rfl,O,M⟩;have x:=aE hB M;have h:=hid (bQ.below HT.out M);have y:=hid O;clear M O;go_wp2_with fail;have D:=(gC w1.heap.size w1).alloc (gA _) (.cells #[.func (.func 191) #[] #[]] 196);have I:=aE x D;refine(bI g [(⟨191,#[]⟩,F.expr)] 26 v1 (aJ fL n) _ _ 1 rfl (by omega) (y.out.below D) HD.out.named (dq.new _ rfl (aa.new w1 _ _)) (fa (HF.out.expr.so di _ (bQ.below h.out D)))).mono ?_;rintro e w2⟨rfl,J⟩;have q:=aE I J;have z:=hid (bQ.below (bQ.below h.out D) J);clear D I;clear J;go_wp2_with fail;go_ret;exact⟨by rw[HE.out];rfl,q⟩
theorem Le(g:Nat)(F:eZ)(hF:pQ g F):eT (g+1) (pC F) 254:=by refine fj hF fun w n A cp hB b1 h HV0 HT O HD=>?_;clear hF;have x:Hid (pC F n=fi 27 [F.expr,F.expr] n):=hid rfl;(go_enter func254,ntmps254);go_wp2_with fail;have D:=(gC (w.alloc (.cells #[n.kind,n.text,.slice A n.kids.length cp,n.pos] 41)).heap.size (w.alloc (.cells #[n.kind,n.text,.slice A n.kids.length cp,n.pos] 41))).alloc (gA _) (.cells #[.func (.func 191) #[] #[],.func (.func 191) #[] #[]] 196);have I:=aE hB D;refine(bI g [(⟨191,#[]⟩,F.expr),(⟨191,#[]⟩,F.expr)] 27 _ (n) _ _ 2 rfl (by omega) (h.out.below D) HD.out (dq.new _ rfl (aa.new_at (n:=w.heap.size+1) (by simp) _ _)) (iN (O.out.expr.so di _ (bQ.below HT.out D)) (O.out.expr.so di _ (bQ.below HT.out D)))).mono ?_;rintro e w1⟨rfl,J⟩;have M:=aE I J;have q:=hid (bQ.below (bQ.below HT.out D) J);clear D I;clear J;go_wp2_with fail;go_ret;exact⟨by rw[x.out];rfl,M⟩
theorem No(g:Nat)(F:eZ)(hF:pQ g F):eT g (sR F) 293:=by
 intro w v n hT hv hd;have I:=hv;obtain⟨A,cp,rfl,h⟩:=hv.toC;have J:=(cH w #[n.kind,n.text,.slice A n.kids.length cp,n.pos]).1;have x:=hid (hF.expr _ _ n (hT.below J) (I.below J) hd);(have M:sR F n=(n.kind==21&&F.expr n):=by unfold sR;rw[fN]);rw[M];clear M I hv h hT hF hd;generalize F.expr n=q at *;generalize n.kind=k at *;cases O:(k==21);all_goals
  (go_enter func293,ntmps293);go_wp2_with fail;try
   rw[kI]at O
   subst O
   refine x.out.mono ?_
   rintro e w1⟨rfl,D⟩
   replace J:=aE J D
   clear D
   go_wp2_with fail
  go_ret;exact⟨rfl,J⟩
theorem Lf(g:Nat)(F:eZ)(hF:pQ g F):eT (g+1) (pg F) 256:=by refine fj hF fun w n A cp hB b1 O HV0 HT HF HD=>?_;clear hF;have q:Hid (pg F n=fi 29 [sR F] n):=hid rfl;(go_enter func256,ntmps256);go_wp2_with fail;have D:=(gC (w.alloc (.cells #[n.kind,n.text,.slice A n.kids.length cp,n.pos] 41)).heap.size (w.alloc (.cells #[n.kind,n.text,.slice A n.kids.length cp,n.pos] 41))).alloc (gA _) (.cells #[.func (.func 293) #[] #[]] 196);have I:=aE hB D;refine(bI g [(⟨293,#[]⟩,(sR F))] 29 _ (n) _ _ 1 rfl (by omega) (O.out.below D) HD.out (dq.new _ rfl (aa.new_at (n:=w.heap.size+1) (by simp) _ _)) (fa ((No g F HF.out).so Gk _ (bQ.below HT.out D)))).mono ?_;rintro e w1⟨rfl,J⟩;have M:=aE I J;have h:=hid (bQ.below (bQ.below HT.out D) J);clear D I;clear J;go_wp2_with fail;go_ret;exact⟨by rw[q.out];rfl,M⟩
theorem E6(g:Nat)(F:eZ)(hF:pQ g F):eT (g+1) (oa F) 241:=by
 refine fj hF fun w n A cp I b1 HV HV0 HT O HD=>?_;clear hF;have M:=hid (fO g (F.stmt) ⟨192,#[]⟩ A cp n.kids _ HV.out.kidsV HD.out.2 HD.out.1.1 (O.out.stmt.so I5 _ HT.out));(have J:oa F n=((n.kind==36)&&(n.text.toList.isEmpty&&n.kids.all (F.stmt))):=by unfold oa;rw[aF,fN]);rw[J];clear J;generalize n.kids.all (F.stmt)=q at *;cases x:(n.kind==36)<;>cases h:n.text.toList.isEmpty;all_goals
  (go_enter func241,ntmps241);go_wp2_with fail;try
   refine M.out.mono ?_
   rintro e w1⟨rfl,D⟩
   replace I:=aE I D
   clear D
   go_wp2_with fail
  go_ret;exact⟨rfl,I⟩
theorem Ph(g:Nat)(F:eZ)(hF:pQ g F):eT (g+1) (O2 F) 257:=by
 refine fj hF fun w n A cp hB b1 HV HV0 HT z HD=>?_;clear hF;have HE:Hid (O2 F n=fi 30 [F.expr,F.block,fD (fD aX F.block) F.ifS] n):=hid rfl;(go_enter func257,ntmps257);go_wp2_with fail;generalize hW:w.alloc (.cells #[n.kind,n.text,.slice A n.kids.length cp,n.pos] 41)=W at *;clear hW;have M:Below W W W.drew:=(gC _ _).drew;have ga:=b1.lt;have gd:=aE hB M;have ge:=hid (HV.out.below M);have x:=hid (HT.out.below M);have C0:=hid b1.drew;clear b1 HV HT hB;go_region_held3 (fun w'=>w'.cell? ⟨w,0,none⟩=some (.int .i64 n.kind)/\w'.cell? ⟨w,1,none⟩=some (.string n.text)/\w'.cell? ⟨w,2,none⟩=some (.slice A n.kids.length cp)/\w'.cell? ⟨w,3,none⟩=some (.int .i64 n.pos))
  (first|with_reducible exact lA q3|with_reducible exact lA (y.alloc _)|with_reducible exact lA y|with_reducible exact lA q1|with_reducible exact lA C0.out)
  (first
   |(go_at_call 242;refine(eV g aX F.block ⟨258,#[]⟩ ⟨241,#[]⟩ _ (iM g _) (z.out.block.so lG _ x.out)).mono ?_;rintro e w1⟨h1,rfl,sh1_1,I⟩;have q1:=C0.out.below I ga;have q:=hid (x.out.below I))
   |(go_at_call 242;refine(eV g (fD aX F.block) F.ifS h1 ⟨257,#[]⟩ _ (sh1_1) (z.out.ifS.so OC _ q.out)).mono ?_;rintro e w2⟨h2,rfl,sh2_2,D⟩;have y:=q1.bl D;have h:=hid (q.out.below D);have sh1_2:=sh1_1.below D)
   |(go_at_call 238;refine(bI g [(⟨191,#[]⟩,F.expr),(⟨241,#[]⟩,F.block),(h2,(fD (fD aX F.block) F.ifS))] 30 _ n _ _ 3 rfl (by omega) (((ge.out.below I).below D).below ((gC _ w2).alloc (gA _) _)) HD.out (dq.new _ rfl (aa.new w2 _ _)) (wt (z.out.expr.so di _ (bQ.below h.out ((gC _ w2).alloc (gA _) _))) (z.out.block.so lG _ (bQ.below h.out ((gC _ w2).alloc (gA _) _))) (sh2_2.below ((gC _ w2).alloc (gA _) _)))).mono ?_;rintro e w3⟨rfl,O⟩;have q3:=(y.alloc _).below O (y.alloc _).lt))
 (all_goals go_wp2_with fail);(all_goals go_ret);all_goals have gb:=aE gd I;have J:=aE gb D;exact⟨by rw[HE.out];rfl,(J.alloc J.size _).trans (O.mono (J.alloc J.size _).size)⟩
theorem OK(g:Nat)(F:eZ)(hF:pQ g F):eT (g+1) (iH F) 192:=by
 intro w v n hT hv hd;obtain⟨nk,nt,nl,np⟩:=n;have gr:=hv;obtain⟨A,cp,rfl,hC⟩:=hv.toC;simp only[Nd.kind_mk,Nd.text_mk,Nd.kids_mk,Nd.pos_mk]at gr |-;have hB:=(cH w #[.int .i64 nk,.string nt,.slice A nl.length cp,.int .i64 np]).1;have b1:=(cH w #[.int .i64 nk,.string nt,.slice A nl.length cp,.int .i64 np]).2;have HV:=hid (gr.below hB);have hn:=hid gr;have HT:=hid (hT.below hB);have HF:=hid hF;have HD:=hid hd;clear gr hv hC hT hF hd;by_cases q:nk=5
 ·subst q;have HE:=hid (show iH F (Nd.mk 5 nt nl np)=BG F (Nd.mk 5 nt nl np)from rfl);(go_enter func192,ntmps192);go_wp2_with fail;refine(E1 g F HF.out _ _ (Nd.mk 5 nt nl np) HT.out HV.out HD.out).mono ?_;rintro e w1⟨rfl,D⟩;have I:=aE hB D;clear D;go_wp2_with fail;go_ret;exact⟨by rw[HE.out];rfl,I⟩
 by_cases J:nk=26
 ·subst J;clear q;have HE:=hid (show iH F (Nd.mk 26 nt nl np)=me F (Nd.mk 26 nt nl np)from rfl);(go_enter func192,ntmps192);go_wp2_with fail;refine(E5 g F HF.out _ _ (Nd.mk 26 nt nl np) HT.out HV.out HD.out).mono ?_;rintro e w1⟨rfl,D⟩;have I:=aE hB D;clear D;go_wp2_with fail;go_ret;exact⟨by rw[HE.out];rfl,I⟩
 by_cases M:nk=27
 ·subst M;clear q J;have HE:=hid (show iH F (Nd.mk 27 nt nl np)=pC F (Nd.mk 27 nt nl np)from rfl);(go_enter func192,ntmps192);go_wp2_with fail;refine(Le g F HF.out _ _ (Nd.mk 27 nt nl np) HT.out HV.out HD.out).mono ?_;rintro e w1⟨rfl,D⟩;have I:=aE hB D;clear D;go_wp2_with fail;go_ret;exact⟨by rw[HE.out];rfl,I⟩
 by_cases O:nk=28
 ·subst O;clear q J M;have HE:=hid (show iH F (Nd.mk 28 nt nl np)=pB F (Nd.mk 28 nt nl np)from rfl);(go_enter func192,ntmps192);go_wp2_with fail;refine(Ld g F HF.out _ _ (Nd.mk 28 nt nl np) HT.out HV.out HD.out).mono ?_;rintro e w1⟨rfl,D⟩;have I:=aE hB D;clear D;go_wp2_with fail;go_ret;exact⟨by rw[HE.out];rfl,I⟩
 by_cases h:nk=29
 ·subst h;clear q J M O;have HE:=hid (show iH F (Nd.mk 29 nt nl np)=pg F (Nd.mk 29 nt nl np)from rfl);(go_enter func192,ntmps192);go_wp2_with fail;refine(Lf g F HF.out _ _ (Nd.mk 29 nt nl np) HT.out HV.out HD.out).mono ?_;rintro e w1⟨rfl,D⟩;have I:=aE hB D;clear D;go_wp2_with fail;go_ret;exact⟨by rw[HE.out];rfl,I⟩
 by_cases y:nk=30
 ·subst y;clear q J M O h;have HE:=hid (show iH F (Nd.mk 30 nt nl np)=O2 F (Nd.mk 30 nt nl np)from rfl);(go_enter func192,ntmps192);go_wp2_with fail;refine(Ph g F HF.out _ _ (Nd.mk 30 nt nl np) HT.out HV.out HD.out).mono ?_;rintro e w1⟨rfl,D⟩;have I:=aE hB D;clear D;go_wp2_with fail;go_ret;exact⟨by rw[HE.out];rfl,I⟩
 by_cases z:nk=31
 ·subst z;clear q J M O h y;have HE:=hid (show iH F (Nd.mk 31 nt nl np)=fi 31 [fD (fD aX (me F)) (fD (pC F) (pB F)),fD aX F.expr,fD (fD aX (pC F)) (fD (pB F) (pg F)),F.block] (Nd.mk 31 nt nl np)from rfl);(go_enter func192,ntmps192);go_wp2_with fail;generalize hW:w.alloc (.cells #[.int .i64 31,.string nt,.slice A nl.length cp,.int .i64 np] 41)=W at *;clear hW;have gk:Below W W W.drew:=(gC _ _).drew;have gu:=b1.lt;have gw:=aE hB gk;have gx:=hid (HV.out.below gk);have gq:=hid (HT.out.below gk);have C0:=hid b1.drew;clear b1 HV HT hB;go_region_held3 (fun w'=>w'.cell? ⟨w,0,none⟩=some (.int .i64 31)/\w'.cell? ⟨w,1,none⟩=some (.string nt)/\w'.cell? ⟨w,2,none⟩=some (.slice A nl.length cp)/\w'.cell? ⟨w,3,none⟩=some (.int .i64 np))
   (first|with_reducible exact lA q8|with_reducible exact lA (q7.alloc _)|with_reducible exact lA q7|with_reducible exact lA q6|with_reducible exact lA q5|with_reducible exact lA q4|with_reducible exact lA q3|with_reducible exact lA q2|with_reducible exact lA q1|with_reducible exact lA C0.out)
   (first
    |(go_at_call 242;refine(eV g aX (me F) ⟨258,#[]⟩ ⟨253,#[]⟩ _ (iM g _) (((E5 g F HF.out).le fun _=>ie.succ).so Gj _ gq.out)).mono ?_;rintro e w1⟨h1,rfl,sh1_1,D⟩;have q1:=C0.out.below D gu;have ge:=hid (gq.out.below D))
    |(go_at_call 242;refine(eV g (pC F) (pB F) ⟨254,#[]⟩ ⟨255,#[]⟩ _ (((Le g F HF.out).le fun _=>ie.succ).so E3 _ ge.out) (((Ld g F HF.out).le fun _=>ie.succ).so E4 _ ge.out)).mono ?_;rintro e w2⟨h2,rfl,sh2_2,ga⟩;have q2:=q1.bl ga;have g3:=hid (ge.out.below ga);have sh1_2:=sh1_1.below ga)
    |(go_at_call 242;refine(eV g (fD aX (me F)) (fD (pC F) (pB F)) h1 h2 _ (sh1_2) (sh2_2)).mono ?_;rintro e w3⟨h3,rfl,sh3_3,gp⟩;have q3:=q2.bl gp;have g2:=hid (g3.out.below gp);have sh1_3:=sh1_2.below gp;have sh2_3:=sh2_2.below gp)
    |(go_at_call 242;refine(eV g aX F.expr ⟨258,#[]⟩ ⟨191,#[]⟩ _ (iM g _) (HF.out.expr.so di _ g2.out)).mono ?_;rintro e w4⟨h4,rfl,sh4_4,gl⟩;have q4:=q3.bl gl;have g1:=hid (g2.out.below gl);have sh1_4:=sh1_3.below gl;have sh2_4:=sh2_3.below gl;have sh3_4:=sh3_3.below gl)
    |(go_at_call 242;refine(eV g aX (pC F) ⟨258,#[]⟩ ⟨254,#[]⟩ _ (iM g _) (((Le g F HF.out).le fun _=>ie.succ).so E3 _ g1.out)).mono ?_;rintro e w5⟨h5,rfl,sh5_5,gj⟩;have q5:=q4.bl gj;have gy:=hid (g1.out.below gj);have sh1_5:=sh1_4.below gj;have sh2_5:=sh2_4.below gj;have sh3_5:=sh3_4.below gj;have sh4_5:=sh4_4.below gj)
    |(go_at_call 242;refine(eV g (pB F) (pg F) ⟨255,#[]⟩ ⟨256,#[]⟩ _ (((Ld g F HF.out).le fun _=>ie.succ).so E4 _ gy.out) (((Lf g F HF.out).le fun _=>ie.succ).so Lc _ gy.out)).mono ?_;rintro e w6⟨h6,rfl,sh6_6,gh⟩;have q6:=q5.bl gh;have ha:=hid (gy.out.below gh);have sh1_6:=sh1_5.below gh;have sh2_6:=sh2_5.below gh;have sh3_6:=sh3_5.below gh;have sh4_6:=sh4_5.below gh;have sh5_6:=sh5_5.below gh)
    |(go_at_call 242;refine(eV g (fD aX (pC F)) (fD (pB F) (pg F)) h5 h6 _ (sh5_6) (sh6_6)).mono ?_;rintro e w7⟨h7,rfl,sh7_7,gd⟩;have q7:=q6.bl gd;have g9:=hid (ha.out.below gd);have sh1_7:=sh1_6.below gd;have sh2_7:=sh2_6.below gd;have sh3_7:=sh3_6.below gd;have sh4_7:=sh4_6.below gd;have sh5_7:=sh5_6.below gd;have sh6_7:=sh6_6.below gd)
    |(go_at_call 238;refine(bI g [(h3,(fD (fD aX (me F)) (fD (pC F) (pB F)))),(h4,(fD aX F.expr)),(h7,(fD (fD aX (pC F)) (fD (pB F) (pg F)))),(⟨241,#[]⟩,F.block)] 31 _ (Nd.mk 31 nt nl np) _ _ 4 rfl (by omega) ((((((((gx.out.below D).below ga).below gp).below gl).below gj).below gh).below gd).below ((gC _ w7).alloc (gA _) _)) HD.out (dq.new _ rfl (aa.new w7 _ _)) (I8 (sh3_7.below ((gC _ w7).alloc (gA _) _)) (sh4_7.below ((gC _ w7).alloc (gA _) _)) (sh7_7.below ((gC _ w7).alloc (gA _) _)) (HF.out.block.so lG _ (bQ.below g9.out ((gC _ w7).alloc (gA _) _))))).mono ?_;rintro e w8⟨rfl,g0⟩;have q8:=(q7.alloc _).below g0 (q7.alloc _).lt))
  (all_goals go_wp2_with fail);(all_goals go_ret);all_goals have I:=aE gw D;have gv:=aE I ga;have g7:=aE gv gp;have g6:=aE g7 gl;have g5:=aE g6 gj;have g4:=aE g5 gh;have gs:=aE g4 gd;exact⟨by rw[HE.out];rfl,(gs.alloc gs.size _).trans (g0.mono (gs.alloc gs.size _).size)⟩
 by_cases gb:nk=32
 ·subst gb;clear q J M O h y z;have HE:=hid (show iH F (Nd.mk 32 nt nl np)=fi 32 [F.expr,F.block] (aJ mZ (Nd.mk 32 nt nl np))from rfl);(go_enter func192,ntmps192);go_wp2_with fail;refine(bY _ _ (Nd.mk 32 nt nl np) HV.out ⟨259,#[]⟩ mZ (Ft _ HT.out) HD.out.txt).mono ?_;rintro e w1⟨v1,rfl,gz,D⟩;have I:=aE hB D;have ge:=hid (bQ.below HT.out D);have g8:=hid gz;clear D gz;go_wp2_with fail;have gn:=(gC w1.heap.size w1).alloc (gA _) (.cells #[.func (.func 191) #[] #[],.func (.func 241) #[] #[]] 196);have gt:=aE I gn;refine(bI g [(⟨191,#[]⟩,F.expr),(⟨241,#[]⟩,F.block)] 32 v1 (aJ mZ (Nd.mk 32 nt nl np)) _ _ 2 rfl (by omega) (g8.out.below gn) HD.out.named (dq.new _ rfl (aa.new w1 _ _)) (iN (HF.out.expr.so di _ (bQ.below ge.out gn)) (HF.out.block.so lG _ (bQ.below ge.out gn)))).mono ?_;rintro e w2⟨rfl,ga⟩;have gv:=aE gt ga;have g3:=hid (bQ.below (bQ.below ge.out gn) ga);clear gn gt;clear ga;go_wp2_with fail;go_ret;exact⟨by rw[HE.out];rfl,gv⟩
 by_cases gg:nk=33
 ·subst gg;clear q J M O h y z gb;have HE:=hid (show iH F (Nd.mk 33 nt nl np)=fi 33 [fD aX F.expr] (Nd.mk 33 nt nl np)from rfl);(go_enter func192,ntmps192);go_wp2_with fail;generalize hW:w.alloc (.cells #[.int .i64 33,.string nt,.slice A nl.length cp,.int .i64 np] 41)=W at *;clear hW;have gk:Below W W W.drew:=(gC _ _).drew;have gu:=b1.lt;have gw:=aE hB gk;have gx:=hid (HV.out.below gk);have gq:=hid (HT.out.below gk);have C0:=hid b1.drew;clear b1 HV HT hB;go_region_held3 (fun w'=>w'.cell? ⟨w,0,none⟩=some (.int .i64 33)/\w'.cell? ⟨w,1,none⟩=some (.string nt)/\w'.cell? ⟨w,2,none⟩=some (.slice A nl.length cp)/\w'.cell? ⟨w,3,none⟩=some (.int .i64 np))
   (first|with_reducible exact lA q2|with_reducible exact lA (q1.alloc _)|with_reducible exact lA q1|with_reducible exact lA C0.out)
   (first
    |(go_at_call 242;refine(eV g aX F.expr ⟨258,#[]⟩ ⟨191,#[]⟩ _ (iM g _) (HF.out.expr.so di _ gq.out)).mono ?_;rintro e w1⟨h1,rfl,sh1_1,D⟩;have q1:=C0.out.below D gu;have ge:=hid (gq.out.below D))
    |(go_at_call 238;refine(bI g [(h1,(fD aX F.expr))] 33 _ (Nd.mk 33 nt nl np) _ _ 1 rfl (by omega) ((gx.out.below D).below ((gC _ w1).alloc (gA _) _)) HD.out (dq.new _ rfl (aa.new w1 _ _)) (fa (sh1_1.below ((gC _ w1).alloc (gA _) _)))).mono ?_;rintro e w2⟨rfl,ga⟩;have q2:=(q1.alloc _).below ga (q1.alloc _).lt))
  (all_goals go_wp2_with fail);(all_goals go_ret);all_goals have I:=aE gw D;exact⟨by rw[HE.out];rfl,(I.alloc I.size _).trans (ga.mono (I.alloc I.size _).size)⟩
 by_cases gi:nk=34
 ·subst gi;clear q J M O h y z gb gg;have HE:=hid (show iH F (Nd.mk 34 nt nl np)=fi 34 [] (Nd.mk 34 nt nl np)from rfl);(go_enter func192,ntmps192);go_wp2_with fail;refine(bI g [] 34 _ ((Nd.mk 34 nt nl np)) none _ 0 rfl (by omega) HV.out HD.out (.inl ⟨rfl,rfl⟩) (fun x hx=>by cases hx)).mono ?_;rintro e w1⟨rfl,D⟩;have I:=aE hB D;have ge:=hid (bQ.below HT.out D);clear D;go_wp2_with fail;go_ret;exact⟨by rw[HE.out];rfl,I⟩
 by_cases gm:nk=35
 ·subst gm;clear q J M O h y z gb gg gi;have HE:=hid (show iH F (Nd.mk 35 nt nl np)=fi 35 [] (Nd.mk 35 nt nl np)from rfl);(go_enter func192,ntmps192);go_wp2_with fail;refine(bI g [] 35 _ ((Nd.mk 35 nt nl np)) none _ 0 rfl (by omega) HV.out HD.out (.inl ⟨rfl,rfl⟩) (fun x hx=>by cases hx)).mono ?_;rintro e w1⟨rfl,D⟩;have I:=aE hB D;have ge:=hid (bQ.below HT.out D);clear D;go_wp2_with fail;go_ret;exact⟨by rw[HE.out];rfl,I⟩
 have HE:=hid (show iH F (Nd.mk nk nt nl np)=oa F (Nd.mk nk nt nl np)by unfold iH;simp only[Nd.kind_mk,or_self,q,J,M,O,h,y,z,gb,gg,gi,gm,kK]);(have t5:(nk==5)=false:=by simpa using q);(have hm:(nk==26)=false:=by simpa using J);(have hl:(nk==27)=false:=by simpa using M);(have hk:(nk==28)=false:=by simpa using O);(have hj:(nk==29)=false:=by simpa using h);(have hi:(nk==30)=false:=by simpa using y);(have hh:(nk==31)=false:=by simpa using z);(have hg:(nk==32)=false:=by simpa using gb);(have hf:(nk==33)=false:=by simpa using gg);(have he:(nk==34)=false:=by simpa using gi);(have hc:(nk==35)=false:=by simpa using gm);clear q J M O h y z gb gg gi gm;(go_enter func192,ntmps192);go_wp2_with fail;refine(E6 g F HF.out _ _ (Nd.mk nk nt nl np) HT.out HV.out HD.out).mono ?_;rintro e w1⟨rfl,D⟩;have I:=aE hB D;clear D;go_wp2_with fail;go_ret;exact⟨by rw[HE.out];rfl,I⟩
theorem O3:∀g:Nat,pQ g (o4 g)
 |0=>⟨fun _ _ _ _ _ h=>h.elim,fun _ _ _ _ _ h=>h.elim,fun _ _ _ _ _ h=>h.elim,fun _ _ _ _ _ h=>h.elim,fun _ _ _ _ _ h=>h.elim⟩
 |g+1=>⟨OE g _ (O3 g),OJ g _ (O3 g),E6 g _ (O3 g),OK g _ (O3 g),Ph g _ (O3 g)⟩
end
section
open Go.ChangeShapes Go.WideShapes Go.ChangeAt Go.RowKit Go.Shelf Go.Lib
theorem AI{W:World}(h:W.ShapedOpen prog):bQ W:=by obtain⟨cs,hh,y,z⟩:=h.1 0 #[.int .i64 0] 3 (of_decide_eq_true (by kernel_rfl)) (by kernel_rfl);obtain⟨ts,J,_,M⟩:=z (by kernel_rfl);rw[show prog.cellTypes prog.depth 3=some [3]by kernel_rfl]at J;cases J;(have q:0<cs.size:=by rw[y];decide);obtain⟨u,O,D⟩:=M 0 cs[0] (by simp[q]);(have:u=3:=by simpa using O.symm);subst this;(have I:W.cell? ⟨0,0,none⟩=some cs[0]:=by simp[World.cell?,hh,q]);unfold bQ;rw[I];unfold Cell.ok at D;rw[underlying3]at D;cases x:cs[0]<;>rw[x]at D<;>simp at D;obtain⟨rfl,-⟩:=D;exact⟨_,rfl⟩
def NX:Ren:=⟨fun n=>n,fun|5=>5|119=>246|138=>248|139=>249|n=>n,fun|3=>3|4=>4|n=>n⟩
theorem MJ:U8Types prog NX:=⟨underlying5,underlying246,underlying248,underlying249⟩
theorem MK:U8Extra prog NX:=⟨by kernel_rfl,by kernel_rfl,by kernel_rfl,by kernel_rfl,by kernel_rfl,by kernel_rfl,by kernel_rfl⟩
def uA:List (String×DataW Unit):=[("math/bits.deBruijn32tab",Rows.laid_math_bits_deBruijn32tab),("math/bits.deBruijn64tab",Rows.laid_math_bits_deBruijn64tab),("internal/strconv.uint64pow10",Rows.laid_internal_strconv_uint64pow10),("unicode/utf8.acceptRanges",Rows.laid_unicode_utf8_acceptRanges),("strconv.ErrRange",Rows.laid_strconv_ErrRange),("strconv.ErrSyntax",Rows.laid_strconv_ErrSyntax),("unicode/utf8.first",Rows.laid_unicode_utf8_first)]
theorem Dw:Rows.laid_unicode_utf8_first=firstData:=by kernel_rfl
theorem BS:(Rows.laid_unicode_utf8_acceptRanges:DataW Unit)=acceptData:=by kernel_rfl
theorem ML{W:World}(h:W.ShapedOpen prog)(D:laidMet prog uA W):fQ W:=
 ⟨AI h,utf8Tabs_of_readsT MJ MK (by rw[<-Dw];exact laidMet.reads D (by unfold uA;simp)) (by rw[<-BS];exact laidMet.reads D (by unfold uA;simp))⟩
def If:DataW Unit->List Value
 | .lit (.int k n)=>[.int k n]
 | .agg l=>l.map fun| .lit (.int k n)=>Value.int k n|_=>Value.bool false
 |_=>[]
def iI:DataW Unit->Array Value
 | .agg l=>(l.flatMap If).toArray
 |_ =>#[]
def pF(c:Array Value):Obj->Obj
 | .cells _ t frozen=>.cells c t frozen
 |o=>o
noncomputable def sv (os:Os):World:=
 { World.holding prog os ⟨#[],#[],[]⟩with heap:=(((((((((World.holding prog os ⟨#[],#[],[]⟩).heap.modify 4 (pF (iI Rows.laid_unicode_utf8_acceptRanges))).modify 3 (pF (iI Rows.laid_unicode_utf8_first))).modify 6 (pF (iI Rows.laid_math_bits_deBruijn32tab))).modify 7 (pF (iI Rows.laid_math_bits_deBruijn64tab))).modify 5 (pF (iI Rows.laid_internal_strconv_uint64pow10))).modify 2 (pF #[.iface 254 (.pointer (some ⟨(World.holding prog os ⟨#[],#[],[]⟩).heap.size,0,none⟩))])).modify 1 (pF #[.iface 254 (.pointer (some ⟨(World.holding prog os ⟨#[],#[],[]⟩).heap.size+1,0,none⟩))])).push (.cells #[.string ⟨#[118,97,108,117,101,32,111,117,116,32,111,102,32,114,97,110,103,101]⟩] 256)).push (.cells #[.string ⟨#[105,110,118,97,108,105,100,32,115,121,110,116,97,120]⟩] 256) }
section
variable {H:Type} {enc:TypeId×Value->H}
theorem MM:prog.cellsOf 5=1:=by kernel_rfl
theorem BT{W:World}{base:Nat}{v1:Value}{d1:DataW H}{p1:List MemPlace}(J:Value.okWide prog W .any base 22 v1)(h1:DataW.Trod enc prog W 0 (fun _=>true) true 22 v1 d1 p1):
  ∃(A:Option Addr)(c:Nat)(s:ByteArray),v1=.slice A s.size c/\bR W A c s:=by
 obtain⟨a1,len,cap,rfl⟩:=okWide_slice underlying22 J;obtain⟨fuel,hf⟩:=h1;rcases open_ints underlying22 underlying5 MM hf with⟨D,z⟩|⟨a,len',cap',zs,D,_,hl,hm,hz,z,O,ga⟩
 ·simp[Value.cells]at D;obtain⟨rfl,rfl,rfl⟩:=D;exact⟨none,0,⟨#[]⟩,rfl,.inl ⟨rfl,rfl,rfl⟩⟩
 ·simp[Value.cells]at D;obtain⟨rfl,rfl,rfl⟩:=D;simp only[kS]at hz;(have I:(⟨((zs.take len).map fun n=>UInt8.ofNat n.toNat).toArray⟩:ByteArray).size=len:=by show((zs.take len).map fun n=>UInt8.ofNat n.toNat).toArray.size=len;simp;omega);(obtain⟨-,-,-,M,row,cells,q,-⟩:_/\_/\_/\a.spot=none/\∃row cells,W.shape? a.block=some (row,cells)/\_:=by have h:=J;simp only[Value.okWide,underlying22,Cell.okWide,Cell.ok]at h;obtain⟨e1,e2,e3,e4,e5⟩:=h;exact⟨e1,e2,e3,e4,e5⟩);obtain⟨ab,ao,spot⟩:=a;have M:spot=none:=M;subst M;have gd:ab<W.heap.size:=by
   rcases kN ab W.heap.size with h|h
   ·exact h
   ·exfalso;unfold World.shape? at q;simp[Array.getElem?_eq_none h]at q
  refine⟨some ⟨ab,ao,none⟩,cap,⟨((zs.take len).map fun n=>UInt8.ofNat n.toNat).toArray⟩,by rw[I],.inr ⟨ab,ao,rfl,by rw[I];exact hl,gd,fun j y=>?_⟩⟩;(have y:j<len:=by rw[I]at y;exact y);have x:=O j (by omega);rw[Addr.add_lit]at x;rw[x];have hb:=range_u8 ga j;(have e:zs.getD j 0=zs[j]'(by omega):=by simp[List.getD,List.getElem?_eq_getElem (show j<zs.length by omega)]);rw[jJ]at e;rw[e]at hb;rw[jJ,e];(have gb:j<zs.length:=by omega);(have z:(⟨((zs.take len).map fun n=>UInt8.ofNat n.toNat).toArray⟩:ByteArray)[j]'(by rw[I];exact y)=UInt8.ofNat (zs[j]'gb).toNat:=by show(((zs.take len).map fun n=>UInt8.ofNat n.toNat).toArray)[j]'(by simp;omega)=_;simp);rw[z,UInt8.toNat_ofNat'];congr 2;omega
end
end
section
open Go.RowKit Go.Lib Go.Proofs
attribute [local go_sem ↓] Go.wp_at_zero Go.wp_at_succ
attribute [local go_sem] aK aL aM aZ a6 a7 a8
theorem BY(a:Array Value)(w:World):(callFunc 203 a).run prog w=.ok (.enter 203 a) w:=by kernel_rfl
theorem DC(E:bC)(F:eQ)(hF:mC E F)(B:Nat)(w0:World)(hB:aa w0 B 112 #[E.R])(gx:B≠E.R):
  eu E 203 #[B] (lY F) w0:=by
 intro w s hw h hno;generalize hres:lY F E.c s=res at *;have gt:=hid hres;have jc:=hid hno;have g3:=hB.grown hw (fun e=>gx (by injection e));have b0:=aw g3;have jq:=g3.lt;have hs:=h.lt;have h0:=(au.refl h).alloc (.cells bg 41);clear hres hno hB hw;(go_enter func203,ntmps203);go_wp2_with fail;refine(bh E s _ (h.alloc _)).mono ?_;unfold eR;rintro e w1⟨rfl,gz⟩;have hk:=(aa.new w 41 bg).below gz (by simp);have ja:=(g3.alloc (.cells bg 41)).below gz (by simp;omega);have hz:=h0.step gz;have hf:=hk.lt;clear gz h0 g3 b0;go_wp2_with fail;refine(aI _ _ _ _ _ ⟨_,_,_,rfl⟩).mono ?_;rintro e w2⟨rfl,gy⟩;have hj:=hk.below gy hf;have h9:=ja.below gy (by omega);have hy:=hz.step gy;have jf:=hj.lt;clear gy hz ja hk;have h2:=aa.new w2 41 #[.int .i64 36,.string ⟨#[]⟩,.slice none 0 0,.int .i64 (aj E.c s.at_).pos];have h6:=hj.alloc (.cells #[.int .i64 36,.string ⟨#[]⟩,.slice none 0 0,.int .i64 (aj E.c s.at_).pos] 41);have ho:=h9.alloc (.cells #[.int .i64 36,.string ⟨#[]⟩,.slice none 0 0,.int .i64 (aj E.c s.at_).pos] 41);have b3:=aw ho;have gl:=hy.alloc (.cells #[.int .i64 36,.string ⟨#[]⟩,.slice none 0 0,.int .i64 (aj E.c s.at_).pos] 41);go_wp2_with fail;cases hA:aR E.c s ⟨#[123]⟩with
 |false=>refine(dN E s _ _ gl.rd hA).mono ?_;rintro e w4⟨rfl,jh⟩;unfold ag;exact⟨rfl,af (by rw[<-gt.out,lY,need];simp[hA]) gl.gr (ac _ jh)⟩
 | true=>
  have HE:Hid (cE F (aj E.c s.at_).pos F.g [] E.c (am s)=res):=hid (by rw[<-gt.out,lY,need];simp only[hA,kS,d5.bind_ok];rfl);refine(cW E s _ _ gl.rd hA).mono ?_;rintro e w4⟨rfl,I⟩;have ga:=h2.grown I.gr;have y:=h6.grown I.gr;have gi:=ho.grown I.gr;have gh:=gl.trans I;generalize hL:w2.heap.size=L at *;(have jp:w.heap.size<L:=by omega);generalize(aj E.c s.at_).pos=p at *;clear h2 h6 ho gl I hA gt hj h9 hy hL b3;go_wp2_with fail;go_loopg [] F.g (fun g wr=>∃(acc:List Nd)(s':St)(u:Value),aa wr L 41 #[.int .i64 36,.string ⟨#[]⟩,u,.int .i64 p]/\eS (w.heap.size+1) (fun b=>b=L) wr u acc/\aa wr w.heap.size 41 bg/\aa wr B 112 #[E.R]/\acc.length+g<=1000001/\cE F p g acc E.c s'=res/\au E s' w wr)
  case atStart=>exact⟨[],am s,_,ga,eS.nil _ _ _,y,gi,by have:=hF.g;simp;omega,HE.out,gh⟩
  case round=>
   clear ga y gh gi HE;obtain⟨acc,M,u,hL,HO,hG,hl,jr,hr,hM⟩:=hrel;have HR:=hid hr;clear hr;cases gk with
   |zero=>exact absurd HR.out.symm (by rw[cE];exact jc.out)
   | succ g1=>
    have b0:=aw hl;cases hA:aR E.c M ⟨#[125]⟩with
    |true=>have HF:=hid (show res=.ok (.mk 36 ⟨#[]⟩ acc p) (am M)by rw[<-HR.out,cE];simp only[hA,kS]);clear HR;go_wp2_with fail;refine(aS E M _ _ hM.rd hA).mono ?_;rintro e w4⟨rfl,I⟩;have ga:=hL.grown I.gr;have y:=hG.grown I.gr;have gu:=HO.grown I.gr (by omega);obtain⟨A4,c4,ha,_⟩:=gu.form;subst ha;obtain⟨x0,x1,x2,x3,_,_,_,_⟩:=ah ga;obtain⟨d0,d1,d2,d3,e0,e1,e2,e3⟩:=ah y;clear hA b0;go_wp2_with fail;refine av HF.out (aq.of_slice gu.values 36 ⟨#[]⟩ p) (hM.trans I) y (gA _) hs ?_ rfl (by rfl) rfl;rintro b⟨hb,_⟩;constructor<;>omega
    | false=>
     have HE:=hid (show(if dK E.c M then cE F p g1 acc E.c (am M)else(F.stmt E.c M).bind fun n s1=>if dK E.c s1 then cE F p g1 (acc++[n]) E.c (am s1)else if aR E.c s1 ⟨#[125]⟩then cE F p g1 (acc++[n]) E.c s1 else .fail (ar E.c s1))=res by rw[<-HR.out,cE];simp only[hA,gX,kK]);clear HR;go_wp2_with fail;refine(aW E M _ _ hM.rd hA).mono ?_;rintro e w4⟨rfl,gd⟩;have ga:=hL.bl gd.bel;have y:=hG.bl gd.bel;have gi:=hl.bl gd.bel;have gu:=HO.kept (ak.of_below gd.bel (fun b _ hlt=>hlt));have gh:=hM.trans gd.moved;clear hA hL hG HO hM gd b0 hl;have b4:=aw gi;go_wp2_with fail;refine(fJ E M _ gh.rd).mono ?_;rintro e w5⟨rfl,gg⟩;have g2:=ga.grown gg.gr;have h5:=y.grown gg.gr;have hn:=gi.grown gg.gr (fun e=>gx (by injection e));have g4:=gu.grown gg.gr (by omega);have z:=gh.trans gg;clear ga y gu gh gi b4 gg;cases g0:dK E.c M with
     |true=>
      have jo:Hid (cE F p g1 acc E.c (am M)=res):=hid (by rw[<-HE.out];simp only[g0,kS]);rw[show dL E.c M=am M by unfold dL;rw[g0];rfl]at z;clear HE;go_wp2_with fail;go_roundg g1
      case measure=>omega
      case rel=>exact⟨acc,am M,_,g2,g4,h5,hn,by omega,jo.out,z⟩
     |false=>
     have g5:=hid (show((F.stmt E.c M).bind fun n s1=>if dK E.c s1 then cE F p g1 (acc++[n]) E.c (am s1)else if aR E.c s1 ⟨#[125]⟩then cE F p g1 (acc++[n]) E.c s1 else .fail (ar E.c s1))=res by rw[<-HE.out];simp only[g0,gX,kK]);rw[show dL E.c M=M by unfold dL;rw[g0];rfl]at z;clear HE;obtain⟨A4,c4,ha,_⟩:=g4.form;subst ha;obtain⟨x0,x1,x2,x3,y0,y1,y2,y3⟩:=ah g2;have b5:=aw hn;have he:=g2.lt;cases hP:F.stmt E.c M with
     |out=>exact absurd g5.out.symm (by rw[hP];exact jc.out)
     |fail q=>have HF:Hid (res=.fail q):=hid (by rw[<-g5.out,hP];rfl);go_wp2_with fail;let SS:World->Prop:=fun w'=>w'.cell? ⟨L,2,none⟩=some (.slice A4 acc.length c4)/\w'.cell? ⟨B,0,none⟩=some (.pointer (some ⟨E.R,0,none⟩));have jm:SS w5.drew:=⟨x2,b5⟩;(refine jS (S:=SS) (by kernel_rfl) jm ?_;intro hh;refine dF 0 hh ?_;refine dF 1 hh ?_;refine dF 2 hh ?_;refine yd 3 fun K hK=>?_;go_simp);refine(hF.stmt _ M z.drew.rd (by rw[hP];exact nofun)).mono ?_;rw[hP];rintro e w7⟨rfl,jg⟩;unfold ag;exact⟨rfl,af HF.out z.drew.gr jg⟩
     | ok n2 J=>
      have gw:=hid (show(if dK E.c J then cE F p g1 (acc++[n2]) E.c (am J)else if aR E.c J ⟨#[125]⟩then cE F p g1 (acc++[n2]) E.c J else .fail (ar E.c J))=res by rw[<-g5.out,hP];rfl);have HC:=hid (fun W(hr:aH E W M)=>hF.stmt W M hr (by rw[hP];exact nofun));rw[hP]at HC;clear g5 hP;go_wp2_with fail;(have hu:acc.length<=1000000:=by omega);(have hv:E.R<w.heap.size+1:=by omega);(have hq:w.heap.size+1<=w5.heap.size:=by omega);(have js:B≠L:=by omega);go_region_law (first
       |(refine lJ (by rfl) (.tmp 15) (.tmp 18) (by rfl) E J (w.heap.size+1) w5.heap.size (fun b=>b=L) w w7 (.slice A4 acc.length c4) acc n2 A7 c7 (by rfl) (by rfl) jn ji (jC _) hv hq je (fun b hb=>by rw[hb];exact he) (fun g hg=>(g4.lt g hg).2) hu jj ?_;intro g c w9 gj;have h1:aa w9 L 41 #[.int .i64 36,.string ⟨#[]⟩,.slice A4 acc.length c4,.int .i64 p]:=(gj.old L hc (.inl rfl)).trans hi;have h8:aa w9 B 112 #[E.R]:=(gj.old B hm.lt (.inr (by omega))).trans hm;have b9:=aw h8;obtain⟨v0,v1,v2,v3,f0,f1,f2,f3⟩:=ah h1)
       |(go_simp;(go_at_call 204);refine(HC.out _ z.drew.rd).mono ?_;rintro e w7⟨⟨v,rfl,jd⟩,ge⟩;obtain⟨A7,c7,rfl,jj⟩:=jd.toC;have hi:=g2.drew.grown ge.gr;have h4:=h5.drew.grown ge.gr;have hm:=hn.drew.grown ge.gr (fun e=>gx (by injection e));have b7:=aw hm;have jn:=(g4.kept ((ak.refl _ _).drew)).grown ge.gr hv;have ji:=z.drew.trans ge;have je:w5.heap.size<=w7.heap.size:=ge.gr.size;have hc:=hi.lt;obtain⟨z0,z1,z2,z3,_,_,_,_⟩:=ah hi))
      all_goals
       have gn:=gj.mov.own (p:=⟨L,2,none⟩) (by show w.heap.size<=L;omega) (by show E.R<L;omega) (.slice (some ⟨g,0,none⟩) (acc.length+1) c);(have g6:aa (w9.setCell ⟨L,2,none⟩ (.slice (some ⟨g,0,none⟩) (acc.length+1) c)) L 41 #[.int .i64 36,.string ⟨#[]⟩,.slice (some ⟨g,0,none⟩) (acc.length+1) c,.int .i64 p]:=by simpa using h1.set_ 2 (.slice (some ⟨g,0,none⟩) (acc.length+1) c));have gs:=h8.far (p:=⟨L,2,none⟩) (by show B≠L;omega) (.slice (some ⟨g,0,none⟩) (acc.length+1) c);have g7:=aa.far (show aa w9 w.heap.size 41 bg from(gj.old w.heap.size (by have:=h4.lt;omega) (.inr (by omega))).trans h4) (p:=⟨L,2,none⟩) (by show w.heap.size≠L;omega) (.slice (some ⟨g,0,none⟩) (acc.length+1) c);have g9:=gj.own.kept ((ak.refl _ _).setCell (p:=⟨L,2,none⟩) (fun hX=>hX.2 rfl) (.slice (some ⟨g,0,none⟩) (acc.length+1) c));clear v0 v1 v2 v3 f0 f1 f2 f3 z0 z1 z2 z3 x0 x1 x2 x3 y0 y1 y2 y3 b5 b7 b9;generalize w9.setCell ⟨L,2,none⟩ (.slice (some ⟨g,0,none⟩) (acc.length+1) c)=w10 at *;have jl:=aw gs;go_wp2_with fail;refine(fJ E J _ gn.rd).mono ?_;rintro e w11⟨rfl,D⟩;have gp:=g6.grown D.gr;have gq:=g7.grown D.gr;have gb:=gs.grown D.gr (fun e=>gx (by injection e));have gv:=g9.grown D.gr (by omega);have O:=gn.trans D;have jk:=aw gb;clear gn g6 g7 g9 gs jl;cases hS:dK E.c J with
       |true=>
        have hp:Hid (cE F p g1 (acc++[n2]) E.c (am J)=res):=hid (by rw[<-gw.out];simp only[hS,kS]);rw[show dL E.c J=am J by unfold dL;rw[hS];rfl]at O;clear gw D;go_wp2_with fail;go_roundg g1
        case measure=>omega
        case rel=>exact⟨acc++[n2],am J,_,gp,gv,gq,gb,by rw[gJ];simp;omega,hp.out,O⟩
       | false=>
        rw[show dL E.c J=J by unfold dL;rw[hS];rfl]at O;go_wp2_with fail;refine(bL E J _ _ O.rd).mono ?_;rintro e w12⟨rfl,x⟩;have h3:=gp.bl x;have h7:=gq.bl x;have g8:=gb.bl x;have jb:=gv.kept (ak.of_below x (fun b _ hlt=>hlt));have gm:=O.step x;have jt:=aw g8;clear gp gq gv O D gb jk;cases hI:aR E.c J ⟨#[125]⟩with
        |true=>
         have hp:Hid (cE F p g1 (acc++[n2]) E.c J=res):=hid (by rw[<-gw.out];simp only[hS,hI,gX,kK,kS]);clear gw;go_wp2_with fail;go_roundg g1
         case measure=>omega
         case rel=>exact⟨acc++[n2],J,_,h3,jb,h7,g8,by rw[gJ];simp;omega,hp.out,gm⟩
        |false=>have HF:=hid (show res=.fail (ar E.c J)by rw[<-gw.out];simp only[hS,hI,gX,kK]);go_wp2_with fail;refine(dh E J _ gm.rd).mono ?_;rintro e w13⟨rfl,ht⟩;unfold ag;exact⟨rfl,af HF.out gm.gr (ac _ ht)⟩
theorem cQ(E:bC)(F:eQ)(hF:mC E F):dp E (be F) 143:=by
 intro w s h hno;have gd:=h.lt;have I:=((au.refl h).alloc (.cells #[E.R] 112)).alloc (.cells bg 41);have q:aa ((w.alloc (.cells #[E.R] 112)).alloc (.cells bg 41)) w.heap.size 112 #[E.R]:=(aa.new w _ _).alloc _;(have z:aa ((w.alloc (.cells #[E.R] 112)).alloc (.cells bg 41)) (w.heap.size+1) 41 bg:=by have:=aa.new (w.alloc (.cells #[E.R] 112)) 41 bg;simpa using this);have HC:=hid (BC E 203 #[] #[w] (lY F) s _ I.rd BY (by simpa using DC E F hF w.heap.size _ q (by omega)) hno);have gb:=hid hno;have ga:=hid (show((w.alloc (.cells #[E.R] 112)).alloc (.cells bg 41)).heap.size=w.heap.size+2 by simp);generalize D:be F E.c s=res at *;rw[show bZ (lY F) E.c s=res from D]at HC;clear D hno q;(go_enter func143,ntmps143);go_wp2_with fail;refine HC.out.mono ?_;cases D:res with
 |out=>exact absurd D gb.out
 |fail p=>rintro e w5⟨rfl,x⟩;unfold ag;exact⟨rfl,af (by first|rfl|exact D) I.gr x⟩
 |ok n5 s5=>rintro e w5⟨⟨v5,rfl,J⟩,M⟩;obtain⟨A5,c5,rfl,ge⟩:=J.toC;have O:=z.grown M.gr;have y:=I.trans M;obtain⟨d0,d1,d2,d3,e0,e1,e2,e3⟩:=ah O;go_wp2_with fail;refine av (by first|rfl|exact D) J y O (jC _) (by omega) ?_ rfl (by rfl) rfl;intro b hb;have:=ga.out;constructor<;>omega
end
end Go.Proofs.YtcoiialmdncpfaaGreatDoor
