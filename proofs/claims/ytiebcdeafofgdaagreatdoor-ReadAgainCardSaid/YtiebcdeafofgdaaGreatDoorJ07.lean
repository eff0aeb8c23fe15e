/-
  Parts of the proof: Tstmt Uname Usig Usame Sadd Sline Rrg1 Rrg2 Rrg3 Snl Sbyte. By an AI agent.
-/
import Derived.Test.YtiebcdeafofgdaaGreatDoorJ06
import Derived.Test.YtiebcdeafofgdaaGreatDoorJ05
import Derived.Test.YtiebcdeafofgdaaGreatDoorJ02
import Derived.Test.YtiebcdeafofgdaaGreatDoorJ00
import Derived.Test.YtiebcdeafofgdaaGreatDoorJ03
import Derived.Test.YtiebcdeafofgdaaGreatDoorJ01
import Derived.Deep.LoopGhost
import Derived.BigQuiet
import Derived.Lib.Join
import Derived.Laws.Slices
set_option maxRecDepth 100000
set_option maxHeartbeats 8000000
namespace Go.Proofs.YtiebcdeafofgdaaGreatDoor
section
open Go.RowKit Go.Lib Go.Proofs
attribute [local go_sem ↓] Go.wp_at_zero Go.wp_at_succ
theorem jD:type_of% @decide_eq_false:=@decide_eq_false
theorem kF:type_of% @List.take_succ_eq_append_getElem:=@List.take_succ_eq_append_getElem
theorem kN:type_of% @decide_eq_true:=@decide_eq_true
theorem qD:type_of% @List.length_take:=@List.length_take
theorem qN:type_of% @Go.World.ownsRow.form:=@Go.World.ownsRow.form
theorem qT:type_of% @Go.World.ownsRow.cellAt:=@Go.World.ownsRow.cellAt
theorem ve:type_of% @List.take_append_drop:=@List.take_append_drop
theorem vh:type_of% @List.getElem?_map:=@List.getElem?_map
theorem vk:type_of% @Bool.and_false:=@Bool.and_false
theorem vq:type_of% @List.any_eq_true:=@List.any_eq_true
theorem vx:type_of% @Bool.true_and:=@Bool.true_and
theorem Ik(a:Array Value)(w:World):(callFunc 169 a).run Tryz.prog w=.ok (.enter 169 a) w:=by kernel_rfl
theorem F5(a:Array Value)(w:World):(callFunc 170 a).run Tryz.prog w=.ok (.enter 170 a) w:=by kernel_rfl
theorem F6(a:Array Value)(w:World):(callFunc 171 a).run Tryz.prog w=.ok (.enter 171 a) w:=by kernel_rfl
theorem Me(a:Array Value)(w:World):(callFunc 172 a).run Tryz.prog w=.ok (.enter 172 a) w:=by kernel_rfl
theorem Il(a:Array Value)(w:World):(callFunc 214 a).run Tryz.prog w=.ok (.enter 214 a) w:=by kernel_rfl
theorem Mf(g:Nat)(F:dM)(hF:te g F):iU (g+1) (mE F) 171:=by intro w v n hT hv hd;have N:=hv;obtain⟨A,cp,rfl,hC⟩:=hv.toC;have hB:=(aH w #[.int .i64 n.kind,.string n.text,.slice A n.kids.length cp,.int .i64 n.pos]).1;have b1:=(aH w #[.int .i64 n.kind,.string n.text,.slice A n.kids.length cp,.int .i64 n.pos]).2;have HV:=hid (N.below hB);have gd:=hid N;have HT:=hid (hT.below hB);have HF:=hid hF;have HD:=hid hd;clear N hv hC hT hF hd;have HE:=hid (show mE F n=fc 28 [F.expr] (aG pu n)from rfl);(go_enter Tryz.func171,Tryz.ntmps171);(go_wp2_with fail);refine(df _ _ n HV.out ⟨213,#[]⟩ pu (OV _) HD.out.txt).mono ?_;rintro e w1⟨v1,rfl,O,M⟩;have ga:=a8 hB M;have U:=hid (dk.below HT.out M);have gb:=hid O;clear M O;(go_wp2_with fail);have D:=(gG w1.heap.size w1).alloc (d5 _) (.cells #[.func (.func 122) #[] #[]] 37);have I:=a8 ga D;refine(cD g [(⟨122,#[]⟩,F.expr)] 28 v1 (aG pu n) _ _ 1 rfl (by omega) (gb.out.below D) HD.out.named (eQ.new _ rfl (au.new w1 _ _)) (iV (HF.out.expr.so eg _ (dk.below U.out D)))).mono ?_;rintro e w2⟨rfl,J⟩;have h:=a8 I J;have ge:=hid (dk.below (dk.below U.out D) J);clear D I;clear J;(go_wp2_with fail);go_ret;exact⟨by rw[HE.out];rfl,h⟩
theorem F7(g:Nat)(F:dM)(hF:te g F):iU (g+1) (ia F) 169:=by intro w v n hT hv hd;have N:=hv;obtain⟨A,cp,rfl,hC⟩:=hv.toC;have hB:=(aH w #[.int .i64 n.kind,.string n.text,.slice A n.kids.length cp,.int .i64 n.pos]).1;have b1:=(aH w #[.int .i64 n.kind,.string n.text,.slice A n.kids.length cp,.int .i64 n.pos]).2;have HV:=hid (N.below hB);have gd:=hid N;have HT:=hid (hT.below hB);have HF:=hid hF;have HD:=hid hd;clear N hv hC hT hF hd;have HE:=hid (show ia F n=fc 26 [F.expr] (aG ev n)from rfl);(go_enter Tryz.func169,Tryz.ntmps169);(go_wp2_with fail);refine(df _ _ n HV.out ⟨212,#[]⟩ ev (Lt _) HD.out.txt).mono ?_;rintro e w1⟨v1,rfl,O,M⟩;have ga:=a8 hB M;have U:=hid (dk.below HT.out M);have gb:=hid O;clear M O;(go_wp2_with fail);have D:=(gG w1.heap.size w1).alloc (d5 _) (.cells #[.func (.func 122) #[] #[]] 37);have I:=a8 ga D;refine(cD g [(⟨122,#[]⟩,F.expr)] 26 v1 (aG ev n) _ _ 1 rfl (by omega) (gb.out.below D) HD.out.named (eQ.new _ rfl (au.new w1 _ _)) (iV (HF.out.expr.so eg _ (dk.below U.out D)))).mono ?_;rintro e w2⟨rfl,J⟩;have h:=a8 I J;have ge:=hid (dk.below (dk.below U.out D) J);clear D I;clear J;(go_wp2_with fail);go_ret;exact⟨by rw[HE.out];rfl,h⟩
theorem Mg(g:Nat)(F:dM)(hF:te g F):iU (g+1) (mF F) 170:=by intro w v n hT hv hd;have M:=hv;obtain⟨A,cp,rfl,h⟩:=hv.toC;have hB:=(aH w #[.int .i64 n.kind,.string n.text,.slice A n.kids.length cp,.int .i64 n.pos]).1;have b1:=(aH w #[.int .i64 n.kind,.string n.text,.slice A n.kids.length cp,.int .i64 n.pos]).2;have HV:=hid (M.below hB);have ga:=hid M;have O:=hid (hT.below hB);have U:=hid hF;have HD:=hid hd;clear M hv h hT hF hd;have HE:Hid (mF F n=fc 27 [F.expr,F.expr] n):=hid rfl;(go_enter Tryz.func170,Tryz.ntmps170);(go_wp2_with fail);have D:=(gG (w.alloc (.cells #[.int .i64 n.kind,.string n.text,.slice A n.kids.length cp,.int .i64 n.pos] 24)).heap.size (w.alloc (.cells #[.int .i64 n.kind,.string n.text,.slice A n.kids.length cp,.int .i64 n.pos] 24))).alloc (d5 _) (.cells #[.func (.func 122) #[] #[],.func (.func 122) #[] #[]] 37);have I:=a8 hB D;refine(cD g [(⟨122,#[]⟩,F.expr),(⟨122,#[]⟩,F.expr)] 27 _ (n) _ _ 2 rfl (by omega) (HV.out.below D) HD.out (eQ.new _ rfl (au.new_at (n:=w.heap.size+1) (by simp) _ _)) (my (U.out.expr.so eg _ (dk.below O.out D)) (U.out.expr.so eg _ (dk.below O.out D)))).mono ?_;rintro e w1⟨rfl,J⟩;have N:=a8 I J;have gb:=hid (dk.below (dk.below O.out D) J);clear D I;clear J;(go_wp2_with fail);go_ret;exact⟨by rw[HE.out];rfl,N⟩
theorem Pm(g:Nat)(F:dM)(hF:te g F):iU g (oA F) 214:=by
 intro w v n hT hv hd;have I:=hv;obtain⟨A,cp,rfl,M⟩:=hv.toC;have hB:=(aH w #[.int .i64 n.kind,.string n.text,.slice A n.kids.length cp,.int .i64 n.pos]).1;have N:=hid (hF.expr _ _ n (hT.below hB) (I.below hB) hd);(have hE:oA F n=(n.kind==21&&F.expr n):=by unfold oA;rw[lH]);rw[hE];clear hE I hv M hT hF hd;generalize F.expr n=q at *;generalize n.kind=k at *;cases J:(k==21);all_goals
  (go_enter Tryz.func214,Tryz.ntmps214);(go_wp2_with fail);try
   rw[kK]at J
   subst J
   refine N.out.mono ?_
   rintro e w1⟨rfl,D⟩
   replace hB:=a8 hB D
   clear D
   go_wp2_with fail
  go_ret;exact⟨rfl,hB⟩
theorem Mh(g:Nat)(F:dM)(hF:te g F):iU (g+1) (mw F) 172:=by intro w v n hT hv hd;have M:=hv;obtain⟨A,cp,rfl,U⟩:=hv.toC;have hB:=(aH w #[.int .i64 n.kind,.string n.text,.slice A n.kids.length cp,.int .i64 n.pos]).1;have b1:=(aH w #[.int .i64 n.kind,.string n.text,.slice A n.kids.length cp,.int .i64 n.pos]).2;have HV:=hid (M.below hB);have h:=hid M;have O:=hid (hT.below hB);have HF:=hid hF;have HD:=hid hd;clear M hv U hT hF hd;have HE:Hid (mw F n=fc 29 [oA F] n):=hid rfl;(go_enter Tryz.func172,Tryz.ntmps172);(go_wp2_with fail);have D:=(gG (w.alloc (.cells #[.int .i64 n.kind,.string n.text,.slice A n.kids.length cp,.int .i64 n.pos] 24)).heap.size (w.alloc (.cells #[.int .i64 n.kind,.string n.text,.slice A n.kids.length cp,.int .i64 n.pos] 24))).alloc (d5 _) (.cells #[.func (.func 214) #[] #[]] 37);have I:=a8 hB D;refine(cD g [(⟨214,#[]⟩,(oA F))] 29 _ (n) _ _ 1 rfl (by omega) (HV.out.below D) HD.out (eQ.new _ rfl (au.new_at (n:=w.heap.size+1) (by simp) _ _)) (iV ((Pm g F HF.out).so Il _ (dk.below O.out D)))).mono ?_;rintro e w1⟨rfl,J⟩;have N:=a8 I J;have ga:=hid (dk.below (dk.below O.out D) J);clear D I;clear J;(go_wp2_with fail);go_ret;exact⟨by rw[HE.out];rfl,N⟩
theorem F8(g:Nat)(F:dM)(hF:te g F):iU (g+1) (dj F) 157:=by
 intro w v n hT hv hd;have D:=hv;obtain⟨A,cp,rfl,M⟩:=hv.toC;have hB:=(aH w #[.int .i64 n.kind,.string n.text,.slice A n.kids.length cp,.int .i64 n.pos]).1;have b1:=(aH w #[.int .i64 n.kind,.string n.text,.slice A n.kids.length cp,.int .i64 n.pos]).2;have O:=hid (D.below hB);have N:=hid D;have U:=hid (hT.below hB);have HF:=hid hF;have J:=hid hd;clear D hv M hT hF hd;have h:=hid (lI g (F.stmt) ⟨123,#[]⟩ A cp n.kids _ O.out.kidsV J.out.2 J.out.1.1 (HF.out.stmt.so L6 _ U.out));(have hE:dj F n=((n.kind==36)&&(n.text.toList.isEmpty&&n.kids.all (F.stmt))):=by unfold dj;rw[aK,lH]);rw[hE];clear hE;generalize n.kids.all (F.stmt)=q at *;cases h0:(n.kind==36)<;>cases h1:n.text.toList.isEmpty;all_goals
  (go_enter Tryz.func157,Tryz.ntmps157);(go_wp2_with fail);try
   refine h.out.mono ?_
   rintro e w1⟨rfl,I⟩
   replace hB:=a8 hB I
   clear I
   go_wp2_with fail
  go_ret;exact⟨rfl,hB⟩
theorem Tr(g:Nat)(F:dM)(hF:te g F):iU (g+1) (GQ F) 173:=by
 intro w v n hT hv hd;have N:=hv;obtain⟨A,cp,rfl,hC⟩:=hv.toC;have hB:=(aH w #[.int .i64 n.kind,.string n.text,.slice A n.kids.length cp,.int .i64 n.pos]).1;have b1:=(aH w #[.int .i64 n.kind,.string n.text,.slice A n.kids.length cp,.int .i64 n.pos]).2;have HV:=hid (N.below hB);have gh:=hid N;have HT:=hid (hT.below hB);have HF:=hid hF;have HD:=hid hd;clear N hv hC hT hF hd;have HE:Hid (GQ F n=fc 30 [F.expr,F.block,dv (dv aE F.block) F.ifS] n):=hid rfl;(go_enter Tryz.func173,Tryz.ntmps173);(go_wp2_with fail);generalize hW:w.alloc (.cells #[.int .i64 n.kind,.string n.text,.slice A n.kids.length cp,.int .i64 n.pos] 24)=W at *;clear hW;have M:Below W W W.drew:=(gG _ _).drew;have gb:=b1.lt;have ge:=a8 hB M;have gg:=hid (HV.out.below M);have ga:=hid (HT.out.below M);have C0:=hid b1.drew;clear b1 HV HT hB;go_region_held3 (fun w'=>w'.cell? ⟨w,0,none⟩=some (.int .i64 n.kind)/\w'.cell? ⟨w,1,none⟩=some (.string n.text)/\w'.cell? ⟨w,2,none⟩=some (.slice A n.kids.length cp)/\w'.cell? ⟨w,3,none⟩=some (.int .i64 n.pos))
  (first|with_reducible exact mW q3|with_reducible exact mW (q2.alloc _)|with_reducible exact mW q2|with_reducible exact mW q1|with_reducible exact mW C0.out)
  (first
   |(go_at_call 158;refine(iK g aE F.block ⟨174,#[]⟩ ⟨157,#[]⟩ _ (mx g _) (HF.out.block.so nd _ ga.out)).mono ?_;rintro e w1⟨h1,rfl,sh1_1,I⟩;have q1:=C0.out.below I gb;have h:=hid (ga.out.below I))
   |(go_at_call 158;refine(iK g (dv aE F.block) F.ifS h1 ⟨173,#[]⟩ _ (sh1_1) (HF.out.ifS.so R7 _ h.out)).mono ?_;rintro e w2⟨h2,rfl,sh2_2,D⟩;have q2:=q1.bl D;have U:=hid (h.out.below D);have sh1_2:=sh1_1.below D)
   |(go_at_call 154;refine(cD g [(⟨122,#[]⟩,F.expr),(⟨157,#[]⟩,F.block),(h2,(dv (dv aE F.block) F.ifS))] 30 _ n _ _ 3 rfl (by omega) (((gg.out.below I).below D).below ((gG _ w2).alloc (d5 _) _)) HD.out (eQ.new _ rfl (au.new w2 _ _)) (yd (HF.out.expr.so eg _ (dk.below U.out ((gG _ w2).alloc (d5 _) _))) (HF.out.block.so nd _ (dk.below U.out ((gG _ w2).alloc (d5 _) _))) (sh2_2.below ((gG _ w2).alloc (d5 _) _)))).mono ?_;rintro e w3⟨rfl,O⟩;have q3:=(q2.alloc _).below O (q2.alloc _).lt))
 (all_goals go_wp2_with fail);(all_goals go_ret);all_goals have gd:=a8 ge I;have J:=a8 gd D;exact⟨by rw[HE.out];rfl,(J.alloc J.size _).trans (O.mono (J.alloc J.size _).size)⟩
theorem Se(g:Nat)(F:dM)(hF:te g F):iU (g+1) (eY F) 123:=by
 intro w v n hT hv hd;obtain⟨nk,nt,nl,np⟩:=n;have gs:=hv;obtain⟨A,cp,rfl,hC⟩:=hv.toC;simp only[Nd.kind_mk,Nd.text_mk,Nd.kids_mk,Nd.pos_mk]at gs |-;have hB:=(aH w #[.int .i64 nk,.string nt,.slice A nl.length cp,.int .i64 np]).1;have b1:=(aH w #[.int .i64 nk,.string nt,.slice A nl.length cp,.int .i64 np]).2;have HV:=hid (gs.below hB);have hp:=hid gs;have HT:=hid (hT.below hB);have HF:=hid hF;have HD:=hid hd;clear gs hv hC hT hF hd;by_cases U:nk=5
 ·subst U;have HE:=hid (show eY F (Nd.mk 5 nt nl np)=oU F (Nd.mk 5 nt nl np)from rfl);(go_enter Tryz.func123,Tryz.ntmps123);(go_wp2_with fail);refine(F3 g F HF.out _ _ (Nd.mk 5 nt nl np) HT.out HV.out HD.out).mono ?_;rintro e w1⟨rfl,D⟩;have I:=a8 hB D;clear D;(go_wp2_with fail);go_ret;exact⟨by rw[HE.out];rfl,I⟩
 by_cases J:nk=26
 ·subst J;clear U;have HE:=hid (show eY F (Nd.mk 26 nt nl np)=ia F (Nd.mk 26 nt nl np)from rfl);(go_enter Tryz.func123,Tryz.ntmps123);(go_wp2_with fail);refine(F7 g F HF.out _ _ (Nd.mk 26 nt nl np) HT.out HV.out HD.out).mono ?_;rintro e w1⟨rfl,D⟩;have I:=a8 hB D;clear D;(go_wp2_with fail);go_ret;exact⟨by rw[HE.out];rfl,I⟩
 by_cases M:nk=27
 ·subst M;clear U J;have HE:=hid (show eY F (Nd.mk 27 nt nl np)=mF F (Nd.mk 27 nt nl np)from rfl);(go_enter Tryz.func123,Tryz.ntmps123);(go_wp2_with fail);refine(Mg g F HF.out _ _ (Nd.mk 27 nt nl np) HT.out HV.out HD.out).mono ?_;rintro e w1⟨rfl,D⟩;have I:=a8 hB D;clear D;(go_wp2_with fail);go_ret;exact⟨by rw[HE.out];rfl,I⟩
 by_cases N:nk=28
 ·subst N;clear U J M;have HE:=hid (show eY F (Nd.mk 28 nt nl np)=mE F (Nd.mk 28 nt nl np)from rfl);(go_enter Tryz.func123,Tryz.ntmps123);(go_wp2_with fail);refine(Mf g F HF.out _ _ (Nd.mk 28 nt nl np) HT.out HV.out HD.out).mono ?_;rintro e w1⟨rfl,D⟩;have I:=a8 hB D;clear D;(go_wp2_with fail);go_ret;exact⟨by rw[HE.out];rfl,I⟩
 by_cases O:nk=29
 ·subst O;clear U J M N;have HE:=hid (show eY F (Nd.mk 29 nt nl np)=mw F (Nd.mk 29 nt nl np)from rfl);(go_enter Tryz.func123,Tryz.ntmps123);(go_wp2_with fail);refine(Mh g F HF.out _ _ (Nd.mk 29 nt nl np) HT.out HV.out HD.out).mono ?_;rintro e w1⟨rfl,D⟩;have I:=a8 hB D;clear D;(go_wp2_with fail);go_ret;exact⟨by rw[HE.out];rfl,I⟩
 by_cases h:nk=30
 ·subst h;clear U J M N O;have HE:=hid (show eY F (Nd.mk 30 nt nl np)=GQ F (Nd.mk 30 nt nl np)from rfl);(go_enter Tryz.func123,Tryz.ntmps123);(go_wp2_with fail);refine(Tr g F HF.out _ _ (Nd.mk 30 nt nl np) HT.out HV.out HD.out).mono ?_;rintro e w1⟨rfl,D⟩;have I:=a8 hB D;clear D;(go_wp2_with fail);go_ret;exact⟨by rw[HE.out];rfl,I⟩
 by_cases ga:nk=31
 ·subst ga;clear U J M N O h;have HE:=hid (show eY F (Nd.mk 31 nt nl np)=fc 31 [dv (dv aE (ia F)) (dv (mF F) (mE F)),dv aE F.expr,dv (dv aE (mF F)) (dv (mE F) (mw F)),F.block] (Nd.mk 31 nt nl np)from rfl);(go_enter Tryz.func123,Tryz.ntmps123);(go_wp2_with fail);generalize hW:w.alloc (.cells #[.int .i64 31,.string nt,.slice A nl.length cp,.int .i64 np] 24)=W at *;clear hW;have gl:Below W W W.drew:=(gG _ _).drew;have gv:=b1.lt;have gx:=a8 hB gl;have gy:=hid (HV.out.below gl);have gr:=hid (HT.out.below gl);have C0:=hid b1.drew;clear b1 HV HT hB;go_region_held3 (fun w'=>w'.cell? ⟨w,0,none⟩=some (.int .i64 31)/\w'.cell? ⟨w,1,none⟩=some (.string nt)/\w'.cell? ⟨w,2,none⟩=some (.slice A nl.length cp)/\w'.cell? ⟨w,3,none⟩=some (.int .i64 np))
   (first|with_reducible exact mW q8|with_reducible exact mW (q7.alloc _)|with_reducible exact mW q7|with_reducible exact mW q6|with_reducible exact mW q5|with_reducible exact mW q4|with_reducible exact mW q3|with_reducible exact mW q2|with_reducible exact mW q1|with_reducible exact mW C0.out)
   (first
    |(go_at_call 158;refine(iK g aE (ia F) ⟨174,#[]⟩ ⟨169,#[]⟩ _ (mx g _) (((F7 g F HF.out).le fun _=>lW.succ).so Ik _ gr.out)).mono ?_;rintro e w1⟨h1,rfl,sh1_1,D⟩;have q1:=C0.out.below D gv;have gg:=hid (gr.out.below D))
    |(go_at_call 158;refine(iK g (mF F) (mE F) ⟨170,#[]⟩ ⟨171,#[]⟩ _ (((Mg g F HF.out).le fun _=>lW.succ).so F5 _ gg.out) (((Mf g F HF.out).le fun _=>lW.succ).so F6 _ gg.out)).mono ?_;rintro e w2⟨h2,rfl,sh2_2,gb⟩;have q2:=q1.bl gb;have g4:=hid (gg.out.below gb);have sh1_2:=sh1_1.below gb)
    |(go_at_call 158;refine(iK g (dv aE (ia F)) (dv (mF F) (mE F)) h1 h2 _ (sh1_2) (sh2_2)).mono ?_;rintro e w3⟨h3,rfl,sh3_3,gq⟩;have q3:=q2.bl gq;have g3:=hid (g4.out.below gq);have sh1_3:=sh1_2.below gq;have sh2_3:=sh2_2.below gq)
    |(go_at_call 158;refine(iK g aE F.expr ⟨174,#[]⟩ ⟨122,#[]⟩ _ (mx g _) (HF.out.expr.so eg _ g3.out)).mono ?_;rintro e w4⟨h4,rfl,sh4_4,gm⟩;have q4:=q3.bl gm;have g2:=hid (g3.out.below gm);have sh1_4:=sh1_3.below gm;have sh2_4:=sh2_3.below gm;have sh3_4:=sh3_3.below gm)
    |(go_at_call 158;refine(iK g aE (mF F) ⟨174,#[]⟩ ⟨170,#[]⟩ _ (mx g _) (((Mg g F HF.out).le fun _=>lW.succ).so F5 _ g2.out)).mono ?_;rintro e w5⟨h5,rfl,sh5_5,gk⟩;have q5:=q4.bl gk;have gz:=hid (g2.out.below gk);have sh1_5:=sh1_4.below gk;have sh2_5:=sh2_4.below gk;have sh3_5:=sh3_4.below gk;have sh4_5:=sh4_4.below gk)
    |(go_at_call 158;refine(iK g (mE F) (mw F) ⟨171,#[]⟩ ⟨172,#[]⟩ _ (((Mf g F HF.out).le fun _=>lW.succ).so F6 _ gz.out) (((Mh g F HF.out).le fun _=>lW.succ).so Me _ gz.out)).mono ?_;rintro e w6⟨h6,rfl,sh6_6,gi⟩;have q6:=q5.bl gi;have he:=hid (gz.out.below gi);have sh1_6:=sh1_5.below gi;have sh2_6:=sh2_5.below gi;have sh3_6:=sh3_5.below gi;have sh4_6:=sh4_5.below gi;have sh5_6:=sh5_5.below gi)
    |(go_at_call 158;refine(iK g (dv aE (mF F)) (dv (mE F) (mw F)) h5 h6 _ (sh5_6) (sh6_6)).mono ?_;rintro e w7⟨h7,rfl,sh7_7,ge⟩;have q7:=q6.bl ge;have ha:=hid (he.out.below ge);have sh1_7:=sh1_6.below ge;have sh2_7:=sh2_6.below ge;have sh3_7:=sh3_6.below ge;have sh4_7:=sh4_6.below ge;have sh5_7:=sh5_6.below ge;have sh6_7:=sh6_6.below ge)
    |(go_at_call 154;refine(cD g [(h3,(dv (dv aE (ia F)) (dv (mF F) (mE F)))),(h4,(dv aE F.expr)),(h7,(dv (dv aE (mF F)) (dv (mE F) (mw F)))),(⟨157,#[]⟩,F.block)] 31 _ (Nd.mk 31 nt nl np) _ _ 4 rfl (by omega) ((((((((gy.out.below D).below gb).below gq).below gm).below gk).below gi).below ge).below ((gG _ w7).alloc (d5 _) _)) HD.out (eQ.new _ rfl (au.new w7 _ _)) (L9 (sh3_7.below ((gG _ w7).alloc (d5 _) _)) (sh4_7.below ((gG _ w7).alloc (d5 _) _)) (sh7_7.below ((gG _ w7).alloc (d5 _) _)) (HF.out.block.so nd _ (dk.below ha.out ((gG _ w7).alloc (d5 _) _))))).mono ?_;rintro e w8⟨rfl,g1⟩;have q8:=(q7.alloc _).below g1 (q7.alloc _).lt))
  (all_goals go_wp2_with fail);(all_goals go_ret);all_goals have I:=a8 gx D;have gw:=a8 I gb;have g8:=a8 gw gq;have g7:=a8 g8 gm;have g6:=a8 g7 gk;have g5:=a8 g6 gi;have gt:=a8 g5 ge;exact⟨by rw[HE.out];rfl,(gt.alloc gt.size _).trans (g1.mono (gt.alloc gt.size _).size)⟩
 by_cases gd:nk=32
 ·subst gd;clear U J M N O h ga;have HE:=hid (show eY F (Nd.mk 32 nt nl np)=fc 32 [F.expr,F.block] (aG ew (Nd.mk 32 nt nl np))from rfl);(go_enter Tryz.func123,Tryz.ntmps123);(go_wp2_with fail);refine(df _ _ (Nd.mk 32 nt nl np) HV.out ⟨175,#[]⟩ ew (GV _ HT.out) HD.out.txt).mono ?_;rintro e w1⟨v1,rfl,g0,D⟩;have I:=a8 hB D;have gg:=hid (dk.below HT.out D);have g9:=hid g0;clear D g0;(go_wp2_with fail);have gp:=(gG w1.heap.size w1).alloc (d5 _) (.cells #[.func (.func 122) #[] #[],.func (.func 157) #[] #[]] 37);have gu:=a8 I gp;refine(cD g [(⟨122,#[]⟩,F.expr),(⟨157,#[]⟩,F.block)] 32 v1 (aG ew (Nd.mk 32 nt nl np)) _ _ 2 rfl (by omega) (g9.out.below gp) HD.out.named (eQ.new _ rfl (au.new w1 _ _)) (my (HF.out.expr.so eg _ (dk.below gg.out gp)) (HF.out.block.so nd _ (dk.below gg.out gp)))).mono ?_;rintro e w2⟨rfl,gb⟩;have gw:=a8 gu gb;have g4:=hid (dk.below (dk.below gg.out gp) gb);clear gp gu;clear gb;(go_wp2_with fail);go_ret;exact⟨by rw[HE.out];rfl,gw⟩
 by_cases gh:nk=33
 ·subst gh;clear U J M N O h ga gd;have HE:=hid (show eY F (Nd.mk 33 nt nl np)=fc 33 [dv aE F.expr] (Nd.mk 33 nt nl np)from rfl);(go_enter Tryz.func123,Tryz.ntmps123);(go_wp2_with fail);generalize hW:w.alloc (.cells #[.int .i64 33,.string nt,.slice A nl.length cp,.int .i64 np] 24)=W at *;clear hW;have gl:Below W W W.drew:=(gG _ _).drew;have gv:=b1.lt;have gx:=a8 hB gl;have gy:=hid (HV.out.below gl);have gr:=hid (HT.out.below gl);have C0:=hid b1.drew;clear b1 HV HT hB;go_region_held3 (fun w'=>w'.cell? ⟨w,0,none⟩=some (.int .i64 33)/\w'.cell? ⟨w,1,none⟩=some (.string nt)/\w'.cell? ⟨w,2,none⟩=some (.slice A nl.length cp)/\w'.cell? ⟨w,3,none⟩=some (.int .i64 np))
   (first|with_reducible exact mW q2|with_reducible exact mW (q1.alloc _)|with_reducible exact mW q1|with_reducible exact mW C0.out)
   (first
    |(go_at_call 158;refine(iK g aE F.expr ⟨174,#[]⟩ ⟨122,#[]⟩ _ (mx g _) (HF.out.expr.so eg _ gr.out)).mono ?_;rintro e w1⟨h1,rfl,sh1_1,D⟩;have q1:=C0.out.below D gv;have gg:=hid (gr.out.below D))
    |(go_at_call 154;refine(cD g [(h1,(dv aE F.expr))] 33 _ (Nd.mk 33 nt nl np) _ _ 1 rfl (by omega) ((gy.out.below D).below ((gG _ w1).alloc (d5 _) _)) HD.out (eQ.new _ rfl (au.new w1 _ _)) (iV (sh1_1.below ((gG _ w1).alloc (d5 _) _)))).mono ?_;rintro e w2⟨rfl,gb⟩;have q2:=(q1.alloc _).below gb (q1.alloc _).lt))
  (all_goals go_wp2_with fail);(all_goals go_ret);all_goals have I:=a8 gx D;exact⟨by rw[HE.out];rfl,(I.alloc I.size _).trans (gb.mono (I.alloc I.size _).size)⟩
 by_cases gj:nk=34
 ·subst gj;clear U J M N O h ga gd gh;have HE:=hid (show eY F (Nd.mk 34 nt nl np)=fc 34 [] (Nd.mk 34 nt nl np)from rfl);(go_enter Tryz.func123,Tryz.ntmps123);(go_wp2_with fail);refine(cD g [] 34 _ ((Nd.mk 34 nt nl np)) none _ 0 rfl (by omega) HV.out HD.out (.inl ⟨rfl,rfl⟩) (fun x hx=>by cases hx)).mono ?_;rintro e w1⟨rfl,D⟩;have I:=a8 hB D;have gg:=hid (dk.below HT.out D);clear D;(go_wp2_with fail);go_ret;exact⟨by rw[HE.out];rfl,I⟩
 by_cases gn:nk=35
 ·subst gn;clear U J M N O h ga gd gh gj;have HE:=hid (show eY F (Nd.mk 35 nt nl np)=fc 35 [] (Nd.mk 35 nt nl np)from rfl);(go_enter Tryz.func123,Tryz.ntmps123);(go_wp2_with fail);refine(cD g [] 35 _ ((Nd.mk 35 nt nl np)) none _ 0 rfl (by omega) HV.out HD.out (.inl ⟨rfl,rfl⟩) (fun x hx=>by cases hx)).mono ?_;rintro e w1⟨rfl,D⟩;have I:=a8 hB D;have gg:=hid (dk.below HT.out D);clear D;(go_wp2_with fail);go_ret;exact⟨by rw[HE.out];rfl,I⟩
 have HE:=hid (show eY F (Nd.mk nk nt nl np)=dj F (Nd.mk nk nt nl np)by unfold eY;simp only[Nd.kind_mk,or_self,U,J,M,N,O,h,ga,gd,gh,gj,gn,jY]);(have t5:(nk==5)=false:=by simpa using U);(have ho:(nk==26)=false:=by simpa using J);(have hn:(nk==27)=false:=by simpa using M);(have hm:(nk==28)=false:=by simpa using N);(have hl:(nk==29)=false:=by simpa using O);(have hk:(nk==30)=false:=by simpa using h);(have hj:(nk==31)=false:=by simpa using ga);(have hi:(nk==32)=false:=by simpa using gd);(have hh:(nk==33)=false:=by simpa using gh);(have hg:(nk==34)=false:=by simpa using gj);(have hf:(nk==35)=false:=by simpa using gn);clear U J M N O h ga gd gh gj gn;(go_enter Tryz.func123,Tryz.ntmps123);(go_wp2_with fail);refine(F8 g F HF.out _ _ (Nd.mk nk nt nl np) HT.out HV.out HD.out).mono ?_;rintro e w1⟨rfl,D⟩;have I:=a8 hB D;clear D;(go_wp2_with fail);go_ret;exact⟨by rw[HE.out];rfl,I⟩
theorem Sf:∀g:Nat,te g (aj g)
 |0=>⟨fun _ _ _ _ _ h=>h.elim,fun _ _ _ _ _ h=>h.elim,fun _ _ _ _ _ h=>h.elim,fun _ _ _ _ _ h=>h.elim,fun _ _ _ _ _ h=>h.elim⟩
 |g+1=>⟨R9 g _ (Sf g),Md g _ (Sf g),F8 g _ (Sf g),Se g _ (Sf g),Tr g _ (Sf g)⟩
def Ns(w:World)(g:Nat)(l:List ByteArray):Prop:=∀i(h:i<l.length),w.cell? ⟨g,i,none⟩=some (.string l[i])
theorem Ns.of_blk{w:World}{g:Nat}{t:TypeId}{l:List ByteArray}(h:au w g t (l.map Value.string).toArray):Ns w g l:=by intro i hi;have:=h.cell (0+i);rw[kR]at this;rw[this];simp[hi]
def C4(w:World)(b o:Nat)(x:Nd)(A:Option Addr)(c:Nat):Prop:=
 w.cell? ⟨b,o,none⟩=some (.int .i64 x.kind)/\w.cell? ⟨b,o+1,none⟩=some (.string x.text)/\w.cell? ⟨b,o+2,none⟩=some (.slice A x.kids.length c)/\w.cell? ⟨b,o+3,none⟩=some (.int .i64 x.pos) /\
  bR w (.agg (nv x A c)) x
theorem C4.below{w w':World}{b o:Nat}{x:Nd}{A:Option Addr}{c:Nat}(h:C4 w b o x A c)(hb:Below w w w'):C4 w' b o x A c:=by obtain⟨M,J,I,D,N⟩:=h;exact⟨(hb.cell (gX w _ M)).trans M,(hb.cell (gX w _ J)).trans J,(hb.cell (gX w _ I)).trans I,(hb.cell (gX w _ D)).trans D,aq.below N hb⟩
theorem Nt{w:World}{A:Option Addr}{k p:Int}{t:ByteArray}{m cp:Nat}{n:Nd}(h:bR w (.agg #[.int .i64 k,.string t,.slice A m cp,.int .i64 p]) n)(i:Nat)(J:i<n.kids.length):
  ∃b off I D,A=some ⟨b,off,none⟩/\C4 w b (off+i*4) n.kids[i] I D:=by obtain⟨b,off,I,D,e,_,_,h0,U,O,N,M⟩:=(aq.kidsV h).kid i J;exact⟨b,off,I,D,e,h0,U,O,N,M⟩
theorem bm.get:∀{l m:List Nd}(_:bm l m)(i:Nat)(I:i<l.length)(D:i<m.length),cA l[i] m[i]
 |[],_,_,_,I,_=>absurd I (by simp)
 |_::_,[],_,_,_,D=>absurd D (by simp)
 |a::l,b::m,h,i,I,D=>by
  unfold bm at h;rw[pB,pB]at h;injection h with J h2;cases i with
  |zero=>exact J
  |succ i=>exact bm.get (show bm l m from h2) i (by simpa using I) (by simpa using D)
theorem Ld:∀(d:Nat)(v u:Value)(n m:Nd)(w:World),d<=1000->bR w v n->bR w u m->cA n m->lW d n ->
  Calls Tryz.prog 14 #[v,u,.int .i64 (d:Int)] w fun e w'=>e=.returned (.bool true)/\Below w w w':=by
 intro d;induction d with
 |zero=>intro v u n m w _ _ _ _ h;exact h.elim
 |succ d ih=>
  intro v u n m w hd hv hu he hl;obtain⟨k,t,l,a⟩:=n;obtain⟨k',t',l',a'⟩:=m;obtain rfl:k=k':=he.kind;obtain rfl:t=t':=he.text;have gd:Hid (bm l l'):=hid he.kids;have D:l'.length=l.length:=gd.out.len.symm;have HV:=hid hv;have HU:=hid hu;have HI:=hid ih;have HD:Hid (∀k∈l,lW d k):=hid hl.2;have gm:l.length<=1000000000:=hl.1.1;obtain⟨A,cp,rfl,hC⟩:=hv.toC;obtain⟨B,cq,rfl,ge⟩:=hu.toC;clear hv hu hC ge he hl ih;simp only[Nd.kids_mk,Nd.kind_mk,Nd.text_mk,Nd.pos_mk]at *;(have gl:((l.length:Int) != (l'.length:Int))=false:=by rw[D];simp);(have yk:((l.length:Int)==(l'.length:Int))=true:=by rw[D];simp);have gb:=hid D;(have hz:((d:Int)+1==0)=false:=by simp;omega);have hB:=((gG w.heap.size w).alloc (d5 _) (.cells #[.int .i64 k,.string t,.slice A l.length cp,.int .i64 a] 24)).alloc (by simp) (.cells #[.int .i64 k,.string t,.slice B l'.length cq,.int .i64 a'] 24);have U:=(show au (w.alloc (.cells #[.int .i64 k,.string t,.slice A l.length cp,.int .i64 a] 24)) w.heap.size 24 #[.int .i64 k,.string t,.slice A l.length cp,.int .i64 a]from au.new w _ _).alloc (.cells #[.int .i64 k,.string t,.slice B l'.length cq,.int .i64 a'] 24);have O:au ((w.alloc (.cells #[.int .i64 k,.string t,.slice A l.length cp,.int .i64 a] 24)).alloc (.cells #[.int .i64 k,.string t,.slice B l'.length cq,.int .i64 a'] 24)) (w.heap.size+1) 24 #[.int .i64 k,.string t,.slice B l'.length cq,.int .i64 a']:=au.new_at (by simp) _ _;clear D;(go_enter Tryz.func14,Tryz.ntmps14);(go_wp2_with fail);go_loopg [7] l.length (fun g1 u7 wr=>∃(i:Nat),i<=l.length/\l.length-i<=g1/\u7=.int .i64 (i:Int)/\Below w w wr/\au wr w.heap.size 24 #[.int .i64 k,.string t,.slice A l.length cp,.int .i64 a]/\au wr (w.heap.size+1) 24 #[.int .i64 k,.string t,.slice B l'.length cq,.int .i64 a'])
  case atStart=>exact⟨0,gP _,by omega,rfl,hB,U,O⟩
  case round=>
   clear U O hB;obtain⟨i,hi,hg,rfl,hB,U,O⟩:=hrel;obtain⟨x0,x1,x2,x3,-,-,-,-⟩:=ag U;obtain⟨y0,y1,y2,y3,-,-,-,-⟩:=ag O;by_cases M:i<l.length
   ·(have ga:(i:Int)<(l.length:Int):=by omega);(have N:i<l'.length:=by rw[gb.out];exact M);(have gj:(i:Int)<(l'.length:Int):=by omega);(have h0:(0:Int)<=(i:Int):=by omega);obtain⟨bp,op,A1,gi,rfl,hp⟩:=Nt (aq.below HV.out hB) i M;obtain⟨bq,oq,A2,gh,rfl,hq⟩:=Nt (aq.below HU.out hB) i N;simp only[Nd.kids_mk]at hp hq;have HC:=hid (fun n:Wd (Below wr wr)=>HI.out _ _ l[i] l'[i] n.wd (by omega) (hp.below n.ok).2.2.2.2 (hq.below n.ok).2.2.2.2 (gd.out.get i M N) (HD.out _ (jC M)));have J:∀n:Wd (Below wr wr),C4 n.wd bp (op+i*4) l[i] A1 gi:=fun n=>hp.below n.ok;have I:∀n:Wd (Below wr wr),C4 n.wd bq (oq+i*4) l'[i] A2 gh:=fun n=>hq.below n.ok;generalize l[i]=x at *;generalize l'[i]=y at *;have k0:=fun n=>(J n).1;have k1:=fun n=>(J n).2.1;have k2:=fun n=>(J n).2.2.1;have k3:=fun n=>(J n).2.2.2.1;have m0:=fun n=>(I n).1;have m1:=fun n=>(I n).2.1;have m2:=fun n=>(I n).2.2.1;have m3:=fun n=>(I n).2.2.2.1;have kx:∀n:Wd (Below wr wr),n.wd.cell? ⟨w,2,none⟩=some (.slice (some ⟨bp,op,none⟩) l.length cp):=fun n=>(n.ok.cell (gX wr _ x2)).trans x2;have ky:∀n:Wd (Below wr wr),n.wd.cell? ⟨w.heap.size+1,2,none⟩=some (.slice (some ⟨bq,oq,none⟩) l'.length cq):=fun n=>(n.ok.cell (gX wr _ y2)).trans y2;clear hp hq J I;(go_wp2_with fail);refine cQ wr ?_;(repeat(go_big_quiet_step ((go_at_call 14;rename_i n;refine(HC.out n).mono ?_;rintro e w'⟨rfl,hb⟩;exact⟨rfl,⟨w',a8 n.ok hb⟩,rfl⟩))));refine jS ?_;intro n;have gg:=a8 hB n.ok;have b3:=U.bl n.ok;have b4:=O.bl n.ok;clear U O HC k0 k1 k2 k3 x0 x1 x2 x3 m0 m1 m2 m3 y0 y1 y2 y3 kx ky;(go_wp2_with fail);go_roundg (l.length-(i+1))
    case measure=>omega
    case rel=>exact⟨i+1,by omega,d5 _,by go_num,gg,b3,b4⟩
   ·(have ga:¬ (i:Int)<(l.length:Int):=by omega);(go_wp2_with fail);go_ret;exact⟨rfl,hB⟩
end
section
open Go.RowKit Go.Lib Go.Proofs
attribute [local go_sem ↓] Go.wp_at_zero Go.wp_at_succ
attribute [local go_sem] aS aT aU
theorem mj(X:Nat)(s:ByteArray)(i:Nat)(l:List cY)(k:Int)(j:Nat)(hj:j<=i)(hl:l.length+1<=65537)(w:World)(h:iQ w X s i l):
  Calls Tryz.prog 101 #[X,.int .i64 k,.int .i64 (j:Int)] w (sJ X s w i (l++[⟨k,s.extract j i,j⟩]) (.tuple #[])):=by
 obtain⟨lv,nv,ns,D⟩:=h.out;have hb:=D.blk;have U:=D.toks;have ga:=hb.lt;have N:=h.le;have J:=h.most;obtain⟨A0,c0,M,_⟩:=U.form;subst M;obtain⟨x0,x1,x2,x3,f0,f1,f2,f3⟩:=ag hb;(have p0:(0:Int)<=(j:Int):=by omega);(have p1:(j:Int)<=(i:Int):=by omega);(have p2:(i:Int)<=(s.size:Int):=by omega);(go_enter Tryz.func101,Tryz.ntmps101);(go_wp2_with fail);go_region_law (first
  |(refine nf (by rfl) (.tmp 10) (.tmp 24) (by rfl) (X+1) _ _ l ⟨k,s.extract j i,j⟩ (by rfl) _ (by rfl) (by simp) (U.below (gG _ _).drew) (by simp;omega) (by omega) ?_;intro g c w1 I;have O:=(au.drew hb).below I.bel (qd _);obtain⟨z0,z1,z2,z3,y0,y1,y2,y3⟩:=ag O))
 all_goals go_end0;exact⟨rfl,⟨⟨_,nv,ns,(D.below (gG _ _).drew).row I⟩,N,J,by rw[gJ];simpa using hl⟩,((gG X w).drew.trans (I.bel.mono (jE _))).setCell (d5 _) _⟩
def oB:ByteArray:=(⟨#[32,43,43,32,45,45,32,41,32,93,32,125,32]⟩:BA)
def pv(t:cY):Bool:=
 if t.kind=1\/t.kind=4\/t.kind=5 then true
 else if t.kind=2\/t.kind=3 then decide (t.text=(⟨#[98,114,101,97,107]⟩:BA))||(decide (t.text=(⟨#[99,111,110,116,105,110,117,101]⟩:BA))||(decide (t.text=(⟨#[114,101,116,117,114,110]⟩:BA))||decide (t.text=(⟨#[102,97,108,108,116,104,114,111,117,103,104]⟩:BA))))
 else Lib.contains oB.data.toList ((⟨#[32]⟩++t.text++⟨#[32]⟩:ByteArray)).data.toList
def ed(l:List cY):Bool:=match l.getLast? with
 |none=>false
 |some t=>pv t
theorem lZ.at_{B:Nat}{w:World}{v:Value}{l:List cY}(h:lZ B w v l)(i:Nat)(D:i<l.length):
  ∃g c,v=.slice (some ⟨g,0,none⟩) l.length c/\B<=g/\g<w.heap.size/\w.cell? ⟨g,i*3,none⟩=some (.int .i64 l[i].kind)/\w.cell? ⟨g,i*3+1,none⟩=some (.string l[i].text)/\w.cell? ⟨g,i*3+2,none⟩=some (.int .i64 l[i].pos):=by obtain⟨g,c,I,hg,J⟩:=qN h (by omega);obtain⟨A,c',e,_⟩:=h.form;rw[I]at e;injection e with e1 e2 e3;subst e1 e3;have hr:=cw.of_own (I▸h:w.ownsRow B _ 3 (.slice (some ⟨g,0,none⟩) l.length c) l.length (l.flatMap ou));obtain⟨b,off,M,hb,hc⟩:=hr.el fZ (by omega) rfl D;injection M with M;injection M with e4 e5;subst e4 e5;have U:=hc i D 0 _ rfl;have O:=hc i D 1 _ rfl;have N:=hc i D 2 _ rfl;simp only[kR,jP]at U O N;exact⟨g,c,I,hg,J,U,O,N⟩
theorem Tn{w:World}{g:Nat}{t:TypeId}{a b c:Value}(h:au w g t #[a,b,c]):w.cell? ⟨g,0,none⟩=some a/\w.cell? ⟨g,1,none⟩=some b/\w.cell? ⟨g,2,none⟩=some c:=by have c0:=h.cell 0;have c1:=h.cell 1;have c2:=h.cell 2;simp at c0 c1 c2;exact⟨c0,c1,c2⟩
theorem EE(X:Nat)(s:ByteArray)(i:Nat)(l:List cY)(w:World)(h:iQ w X s i l)(hT:dk w)(M:∀t∈l,t.text.size<=65536):
  Calls Tryz.prog 106 #[X] w fun e w'=>e=.returned (.bool (ed l))/\Below w w w':=by
 obtain⟨lv,nv,ns,O⟩:=h.out;have hb:=O.blk;have hO:=O.toks;have gh:=hb.lt;have gd:=h.few;obtain⟨A0,c0,N,ge⟩:=hO.form;obtain⟨x0,x1,x2,x3,-,-,-,-⟩:=ag hb;rw[N]at x2;by_cases hl:l.length=0
 ·have hE:Hid (ed l=false):=hid (by rw[jR hl];rfl);rw[hl]at x2;(go_enter Tryz.func106,Tryz.ntmps106);(go_wp2_with fail);go_ret;exact⟨by rw[hE.out];rfl,gG _ _⟩
 ·obtain⟨g,c,hv,hg,gi,k0,k1,k2⟩:=hO.at_ (l.length-1) (by omega);rw[N]at hv;injection hv with e1 e2 e3;subst e1 e3;(have J:l.getLast? = some (l[l.length-1]'(by omega)):=by rw[List.getLast?_eq_getElem?,gQ]);have HE:=hid (show ed l=pv (l[l.length-1]'(by omega))by unfold ed;rw[J]);have gb:=hid (M _ (jC (show l.length-1<l.length by omega)));generalize l[l.length-1]'(by omega)=t at *;obtain⟨tk,tt,tp⟩:=t;simp only at k0 k1 k2;(have gg:((l.length:Int)==0)=false:=by rw[gF];omega);(have p1:(0:Int)<=(l.length:Int)-1:=by omega);(have p2:(l.length:Int)-1<(l.length:Int):=by omega);(have p3:(1:Int)<=(l.length:Int):=by omega);(have q2:((l.length:Int)-1).toNat=l.length-1:=by omega);have q1:IntKind.i64.wrap ((l.length:Int)-1)=(l.length:Int)-1:=gO _ (by omega);have HT:=hid hT;clear J hT M;(go_enter Tryz.func106,Tryz.ntmps106);(go_upto_region 3 with fail);go_cut [3] (fun s3 wx=>∃b,s3=.pointer (some ⟨b,0,none⟩)/\au wx b 43 #[.int .i64 tk,.string tt,.int .i64 tp]/\Below w w wx)
  case first=>go_region_law (fail);all_goals(go_wp2_with fail);go_meet;exact⟨_,rfl,(au.new _ _ _).drew,((gG _ _).alloc (d5 _) _).drew⟩
  case rest=>
   obtain⟨b,rfl,hB,D⟩:=hcut;obtain⟨y0,y1,y2⟩:=Tn hB;have ga:=hid (eZ oB (⟨#[32]⟩++tt++⟨#[32]⟩) wc (HT.out.below D) (by unfold oB;simp[ByteArray.size]));clear k0 k1 k2 x0 x1 x2 x3 hB;by_cases U:tk=1\/tk=4\/tk=5
   ·have I:Hid (ed l=true):=hid (by rw[HE.out,pv,gE U]);rcases U with rfl|rfl|rfl;all_goals(go_wp2_with fail);go_ret;exact⟨by rw[I.out];rfl,D⟩
   ·by_cases h2:tk=2\/tk=3
    ·have I:=hid (show ed l=((tt.toList==[98,114,101,97,107])||((tt.toList==[99,111,110,116,105,110,117,101])||((tt.toList==[114,101,116,117,114,110])||(tt.toList==[102,97,108,108,116,104,114,111,117,103,104]))))by rw[HE.out,pv,gA U,gE h2,<-dz tt [98,114,101,97,107],<-dz tt [99,111,110,116,105,110,117,101],<-dz tt [114,101,116,117,114,110],<-dz tt [102,97,108,108,116,104,114,111,117,103,104]]);cases g1:(tt.toList==[98,114,101,97,107])<;>cases g2:(tt.toList==[99,111,110,116,105,110,117,101])<;>cases g3:(tt.toList==[114,101,116,117,114,110])<;>cases g4:(tt.toList==[102,97,108,108,116,104,114,111,117,103,104])<;>rcases h2 with rfl|rfl
     all_goals rw[g1,g2,g3,g4]at I;(go_wp2_with fail);go_ret;exact⟨by rw[I.out];rfl,D⟩
    ·have I:Hid (ed l=Lib.contains oB.data.toList ((⟨#[32]⟩++tt++⟨#[32]⟩:ByteArray)).data.toList):=hid (by rw[HE.out,pv,gA U,gA h2]);generalize Lib.contains oB.data.toList ((⟨#[32]⟩++tt++⟨#[32]⟩:ByteArray)).data.toList=q at *;(have e1:(tk==1)=false:=by rw[gF];omega);(have e2:(tk==2)=false:=by rw[gF];omega);(have e3:(tk==3)=false:=by rw[gF];omega);(have e4:(tk==4)=false:=by rw[gF];omega);(have e5:(tk==5)=false:=by rw[gF];omega);clear U h2;unfold oB at ga;have M:tt.size<=65536:=gb.out;(go_wp2_with fail);refine ga.out.mono ?_;rintro e w2⟨rfl,rfl⟩;(go_wp2_with fail);go_ret;exact⟨by rw[I.out];rfl,D⟩
structure sW(w:World)(g:Nat)(b off c:Nat)(l:List cY):Prop where
 box:w.cell? ⟨g,0,none⟩=some (.slice (some ⟨b,off,none⟩) l.length c)
 le:l.length<=c
 lt:b<w.heap.size
 cells:∀(j:Nat)(u:Value),(l.flatMap ou)[j]? = some u->w.cell? ⟨b,off+j,none⟩=some u
theorem sW.below{w w':World}{g b off c:Nat}{l:List cY}(h:sW w g b off c l)(hb:Below w w w'):sW w' g b off c l:=
 ⟨cell_kept hb h.box,h.le,kH h.lt hb.size,fun j u hu=>cell_kept hb (h.cells j u hu)⟩
theorem sW.tok{w:World}{g b off c:Nat}{l:List cY}(h:sW w g b off c l)(i:Nat)(D:i<l.length):
  w.cell? ⟨b,off+i*3,none⟩=some (.int .i64 l[i].kind)/\w.cell? ⟨b,off+i*3+1,none⟩=some (.string l[i].text)/\w.cell? ⟨b,off+i*3+2,none⟩=some (.int .i64 l[i].pos):=by
 refine⟨h.cells (i*3) _ ?_,h.cells (i*3+1) _ ?_,h.cells (i*3+2) _ ?_⟩
 ·have:=mv fZ l i 0 D (by omega);rw[jP]at this;rw[this];rfl
 ·rw[mv fZ l i 1 D (by omega)];rfl
 ·rw[mv fZ l i 2 D (by omega)];rfl
theorem sX(g b off c:Nat)(l:List cY)(n:Nat)(w:World)(h:sW w g b off c l):
  Calls Tryz.prog 234 #[.int .i64 (n:Int),g] w fun e w'=>e=.returned (.bool (decide (n<l.length)&&((l.getD n ⟨0,⟨#[]⟩,0⟩).kind==1)))/\w=w':=by
 have hb:=h.box;by_cases D:n<l.length
 ·obtain⟨N,M,J⟩:=h.tok n D;(have e:l.getD n ⟨0,⟨#[]⟩,0⟩=l[n]:=by rw[gN,gQ D];rfl);rw[e,kN D,vx];(have I:(l.length:Int)>(n:Int):=by omega);(have U:(0:Int)<=(n:Int):=by omega);clear h e;generalize l[n]=t at *;cases O:(t.kind==1);all_goals(go_enter Tryz.func234,Tryz.ntmps234);(go_wp2_with fail);go_ret;exact⟨rfl,rfl⟩
 ·(have I:¬ (l.length:Int)>(n:Int):=by omega);rw[jD D,vC];clear h;(go_enter Tryz.func234,Tryz.ntmps234);(go_wp2_with fail);go_ret;exact⟨rfl,rfl⟩
theorem Dq(l:List cY)(i:Nat)(I:i<l.length)(D:l[i].kind=5):dE l=(⟨#[]⟩:BA):=by unfold dE;rw[gE];rw[vq];exact⟨l[i],jC I,by simp[D]⟩
theorem Id(r:List cY):∀a:ByteArray,(r.foldl (fun a u=>a++(⟨#[32]⟩:BA)++u.text) a).data.toList=a.data.toList++Lib.joinTail [32] (r.map fun t=>t.text.data.toList):=by
 induction r with
 |nil=>intro a;simp[Lib.joinTail]
 |cons t r ih=>intro a;rw[vz,ih];simp[Lib.joinTail]
theorem Dr(t:cY)(r:List cY)(h:(t::r).any (fun t=>t.kind==5)=false):dE (t::r)=⟨(Lib.join (((t::r).map (·.text)).map (·.data.toList)) ((⟨#[32]⟩:BA):ByteArray).data.toList).toArray⟩:=by unfold dE;rw[gA (by rw[h];decide)];apply ByteArray.ext;apply Array.toList_inj.1;show(r.foldl (fun a u=>a++(⟨#[32]⟩:BA)++u.text) t.text).data.toList=_;rw[Id];simp[Lib.join_cons];rfl
theorem R5:(Tryz.prog.info? 9).map (fun i=>(i.zero,i.size,i.bytes))=some (some (.string ⟨#[]⟩),1,16):=by kernel_rfl
theorem LT:Tryz.prog.underlying 38=some (.slice (Tryz.prog.elem 38)):=by kernel_rfl
theorem Pd:Tryz.prog.elem 38=43:=by kernel_rfl
theorem LU(w:World):(sizeOf (Tryz.prog.elem 38)).run Tryz.prog w=.ok 3 w:=by rw[Pd];exact Tryz.sizeOf43 w
theorem LV(b off q c k:Nat)(I:k<=q)(D:q<=c)(W:World):(Instr.slice 38 (.slice (some ⟨b,off,none⟩) q c) none (some (.int .i64 (k:Int))) none).run Tryz.prog W=.ok (.slice (some ⟨b,off,none⟩) k c) W:=by rw[run_slice_h (P:=Tryz.prog) W 38 (some ⟨b,off,none⟩) q c LT .i64 (k:Int) (by omega) (by omega),LU];simp only[Result.andThen,sliced,kE,m7,rU,jP,ite_self,Int.toNat_natCast,Nat.sub_zero]
def Ds(B:Nat)(w:World)(v:Value)(l:List ByteArray):Prop:=w.ownsRow B 9 1 v l.length (l.map Value.string)
theorem Ds.nil(B:Nat)(w:World):Ds B w (.slice none 0 0) []:=qS _ _ _ _
theorem BZ{ops:Array Oper}{rest:List Oper}{o:Oper}{a:Act}{Q:Exit->Act->World->Prop}(M:o.guard=none)(s x:Operand)
  (U:o.op=.call { callee:=.builtin .append,args:=#[s,x],argTypes:=#[95,95] })
  (B:Nat)(w1:World)(u:Value)(l:List ByteArray)(t:ByteArray)(hs:a.eval s=u)(S:Nat)(O:a.eval x=.slice (some ⟨S,0,none⟩) 1 1)(hS:w1.heap.size=S)
  (N:Ds B w1 u l)(hB:B<=w1.heap.size)(hl:l.length<=1000000)
  (h:∀v' w2,Ds B w2 v' (l++[t])->Below B w1 w2->wpList Tryz.prog ops Q rest (a.put o.dst v') w2):
  wpList Tryz.prog ops Q (o::rest) a (w1.alloc (.cells #[.string t] 9)):=by
 subst hS;obtain⟨i0,hi,J,I,D⟩:=qH R5;refine sD (w1.alloc (.cells #[.string t] 9)) M s x 95 U B 9 i0 _ 1 16 Tryz.underlying95 hi J I D rfl (by omega) u l.length _ hs (qX N _) (w1.heap.size+1) (some ⟨w1,0,none⟩) 1 1 [.string t] O
  (wF (fr:=(0,0)) (t:=9) (qq w1 _) rfl (qd _)) (by simp[Value.oneCell']) (by unfold maxLen;omega) (by omega) (by simp;omega) ?_
 intro v' w2 hown hg _;refine h v' w2 ?_ (((gG B w1).alloc hB _).grown hg (by simp;omega) (fun g hg=>(qZ N g hg).1));unfold Ds;rw[qa,gJ];exact hown
theorem EY(l:List ByteArray)(h:∀t∈l,t.size<=1000000000)(D:l.length<=5):(Lib.join (l.map (·.data.toList)) [32]).length<=140737488355328:=by
 rcases l with _|⟨x,r⟩
 ·simp[Lib.join]
 ·rw[jW,Lib.join_length];have:∀l:List ByteArray,(∀t∈l,t.size<=1000000000)->Lib.lens (l.map (·.data.toList))<=l.length*1000000000:=by
   intro l;induction l with
   |nil=>intro _;simp[Lib.lens]
   |cons y l ih=>intro h;have I:=ih fun t ht=>h t (qp _ ht);have J:=h y List.mem_cons_self;unfold Lib.lens at I |-;simp only[jW,List.sum_cons,gM];rw[show y.data.toList.length=y.size from rfl];omega
  have:=this (x::r) h;rw[jW]at this;simp at D |-;simp at this;omega
theorem AR(g b off c:Nat)(l:List cY)(n:Nat)(gp:3<=n)(gn:n<=5)(hl:3<=l.length)(gq:l.length<=1000000)(U:∀t∈l,t.text.size<=1000000000)(w:World)(h:sW w g b off c l):
  Calls Tryz.prog 232 #[.int .i64 (n:Int),g] w fun e w'=>e=.returned (.string (dE (l.take n)))/\Below w w w':=by
 have HT:=hid h;have gw:=h.box;obtain⟨m,hm,g5,g4,gr,gd⟩:∃m:Nat,min (n:Int) (l.length:Int)=(m:Int)/\3<=m/\m<=5/\m<=l.length/\l.take n=l.take m:=by
  by_cases I:n<=l.length
  ·exact⟨n,by omega,gp,gn,I,rfl⟩
  ·exact⟨l.length,by omega,hl,by omega,d5 _,by rw[jK (by omega),List.take_length]⟩
 rw[gd];have gv:=LV b off l.length c m gr h.le;have gl:=hid (fun i(hi:i<m)(M:(l[i]'(by omega)).kind=5)=>Dq (l.take m) i (by rw[qD];omega) (by rw[List.getElem_take];exact M));have gm:=hid (show(l.take m).any (fun t=>t.kind==5)=false->dE (l.take m)=⟨(Lib.join (((l.take m).map (·.text)).map (·.data.toList)) ((⟨#[32]⟩:BA):ByteArray).data.toList).toArray⟩by
  intro I;cases ht:l.take m with
  |nil=>have:=jH List.length ht;rw[qD,kV]at this;omega
  |cons t r=>exact Dr t r (by rw[<-ht];exact I))
 have g3:=hid (EY ((l.take m).map (·.text)) (by intro t ht;obtain⟨x,I,rfl⟩:=List.mem_map.1 ht;exact U x (List.mem_of_mem_take I)) (by rw[jV,qD];omega));have g2:=hid (show((l.take m).map (·.text)).length=m by rw[jV,qD];omega);clear h gd U;(go_enter Tryz.func232,Tryz.ntmps232);(go_wp2_with fail);clear hm gv gw;go_loopg [4,14] m (fun gg u4 u14 wr=>∃i:Nat,i<=m/\m-i<=gg/\u14=.int .i64 (i:Int)/\Ds w.heap.size wr u4 ((l.take i).map (·.text))/\(l.take i).any (fun t=>t.kind==5)=false/\Below w w wr)
 case atStart=>exact⟨0,gP _,by omega,rfl,Ds.nil _ _,rfl,gG _ _⟩
 case round=>
  obtain⟨i,hi,g6,rfl,hO,J,hB⟩:=hrel;have HO:=hid hO;have D:=hid J;clear hO J;by_cases gs:i<m
  ·(have ge:(i:Int)<(m:Int):=by omega);(have h0:(0:Int)<=(i:Int):=by omega);(have N:i<l.length:=by omega);obtain⟨t0,t1,t2⟩:=(HT.out.below hB).tok i N;have gy:=hid (show(l.take (i+1)).map (·.text)=(l.take i).map (·.text)++[l[i].text]by rw[kF N,qa];rfl);have yk:=hid (show(l.take (i+1)).any (fun t=>t.kind==5)=((l.take i).any (fun t=>t.kind==5)||(l[i].kind==5))by rw[kF N,List.any_append];simp);have HS:=hid (gl.out i gs);generalize l[i]=t at *;(have gt:((l.take i).map (·.text)).length<=1000000:=by rw[jV,qD];omega);generalize(l.take i).map (·.text)=xs at *;have O:=hB.alloc hB.size (.cells #[.int .i64 t.kind,.string t.text,.int .i64 t.pos] 43);have g1:Hid (Ds w.heap.size (wr.alloc (.cells #[.int .i64 t.kind,.string t.text,.int .i64 t.pos] 43)) u4 xs):=hid (qX HO.out _);by_cases M:t.kind=5
   ·have HR:=hid (HS.out M);(have gh:(t.kind==5)=true:=by simp[M]);clear M HS;(go_wp2_with fail);go_ret;exact⟨by rw[HR.out];rfl,O⟩
   ·(have gh:(t.kind==5)=false:=by simp[M]);have gz:=hid (show(l.take (i+1)).any (fun t=>t.kind==5)=false by rw[yk.out,D.out,gh];rfl);have ga:=O.size;clear M HS yk D;go_wp2_with (at_builtin;refine BZ rfl (.tmp 21) (.tmp 24) rfl w.heap.size _ _ _ _ rfl _ rfl (by simp) g1.out ga gt ?_;intro v3 w3 hO3 hB3);have g0:=hid hO3;clear hO3;go_roundg (m-(i+1))
    case measure=>omega
    case rel=>exact⟨i+1,by omega,by omega,by go_num,by rw[gy.out];exact g0.out,gz.out,O.trans hB3⟩
  ·(have ge:¬ (i:Int)<(m:Int):=by omega);(have gu:i=m:=by omega);subst gu;have HR:=hid (gm.out D.out);clear D gm gl;have HX:=g2.out;generalize(l.take i).map (·.text)=xs at *;obtain⟨gb,cp,rfl,g7,gi⟩:=qN HO.out (by omega);have gj:xs.length<=cp:=by
    rcases HO.out.2 with⟨e,_⟩|⟨g',cap',cur',e,_,_,hc,_⟩
    ·cases e
    ·injection e with _ _ e;omega
   have HJ:=hid (Any.strings_Join Tryz.laysJoin Tryz.joinX gb 0 cp xs ⟨#[32]⟩ wr (fun j x I=>by have hj:j<xs.length:=(List.getElem?_eq_some_iff.1 I).1;rw[kR,qT HO.out j (by omega),vh,I];rfl) gi (by omega) gj g3.out);clear HX;(go_wp2_with fail);change Calls _ 233 _ _ _;refine HJ.out.mono ?_;rintro e w5⟨rfl,gx⟩;(go_wp2_with fail);go_ret;exact⟨by rw[HR.out];rfl,a8 hB gx⟩
theorem Pe(b off q c k:Nat)(toks:List cY)(D:toks.length=q)(M:k<=q)(J:q<=c):∃off',(∀W:World,(Instr.slice 38 (.slice (some ⟨b,off,none⟩) q c) (some (.int .i64 (k:Int))) none none).run Tryz.prog W=.ok (.slice (some ⟨b,off',none⟩) (q-k) (c-k)) W) /\
  ∀w:World,(∀(j:Nat)(u:Value),(toks.flatMap ou)[j]? = some u->w.cell? ⟨b,off+j,none⟩=some u)->∀(j:Nat)(u:Value),((toks.drop k).flatMap ou)[j]? = some u->w.cell? ⟨b,off'+j,none⟩=some u:=by
 refine⟨if c=k then off else off+k*3,fun W=>?_,fun w h j u hu=>?_⟩
 ·rw[run_slice_l (P:=Tryz.prog) W 38 (some ⟨b,off,none⟩) q c LT .i64 (k:Int) (by omega) (by omega),LU];simp only[Result.andThen,sliced,Int.toNat_natCast,m7,rU];split<;>rfl
 ·by_cases hc:c=k
  ·have:toks.drop k=[]:=List.drop_eq_nil_of_le (by omega);rw[this]at hu;simp at hu
  ·rw[gA hc];(have e:toks.flatMap ou=(toks.take k).flatMap ou++(toks.drop k).flatMap ou:=by rw[<-kO,ve]);(have I:((toks.take k).flatMap ou).length=k*3:=by rw[wE fZ,qD];congr 1;omega);have:=h (k*3+j) u (by rw[e,List.getElem?_append_right (by omega),I,Nat.add_sub_cancel_left];exact hu)
   rwa [<-Nat.add_assoc]at this
def R6(E:co)(s:St)(w:World)(r:Option (ByteArray×St))(e:Ending)(w':World):Prop:=
 match r with
 |some (x,s')=>e=.returned (.tuple #[.string x,.bool true])/\aD E s' w w'
 |none=>e=.returned (.tuple #[.string ⟨#[]⟩,.bool false])/\aD E s w w'
def wZ(E:co):Prop:=∀t∈E.c.toks,t.text.size<=1000000000
theorem Dt(c:Cx)(s:St)(D:aP c s ⟨#[114,97,110,103,101]⟩=false)(h:(c.toks.drop s.at_).length<=2\/((c.toks.drop s.at_).getD 0 ⟨0,⟨#[]⟩,0⟩).kind≠1):bI c s=none:=by
 unfold bI;rw[D];simp only[gT,jY];split
 ·rename_i a b d r hl;rw[hl]at h;rcases h with h|h
  ·simp at h
  ·(have h:a.kind≠1:=by simpa using h);rw[gA (by simp[h]),gA (by simp[h])]
 ·rfl
theorem AG(c:Cx)(s:St)(D:aP c s ⟨#[114,97,110,103,101]⟩=false){a b d:cY}{r:List cY}(I:c.toks.drop s.at_=a::b::d::r)(J:a.kind=1):
  bI c s=if a.text≠(⟨#[95]⟩:BA)/\dE ((a::b::d::r).take 3)=a.text++(⟨#[32,58,61,32,114,97,110,103,101]⟩:BA)then some (a.text,{ s with at_:=s.at_+3 })
   else if d.kind=1/\d.text≠(⟨#[95]⟩:BA)/\dE ((a::b::d::r).take 5)=a.text++(⟨#[32,44,32]⟩:BA)++d.text++(⟨#[32,58,61,32,114,97,110,103,101]⟩:BA)then some (a.text++(⟨#[44]⟩:BA)++d.text,{ s with at_:=s.at_+5 })else none:=by unfold bI;rw[D,I];simp only[gT,jY,J,true_and];rfl
def Pf(E:co):Prop:=∀s x s',bI E.c s=some (x,s')->s'.at_<=E.c.toks.length
theorem EZ(E:co)(s:St)(w:World)(h:aR E w s)(hn:0<E.c.toks.length)(hS:wZ E)(hR:Pf E):
  Calls Tryz.prog 219 #[E.R] w (R6 E s w (bI E.c s)):=by
 obtain⟨b,off,eA,jn,hq⟩:=h.toks.2 hn;obtain⟨off',hj,hcut⟩:=Pe b off E.c.toks.length E.cap s.at_ E.c.toks rfl h.le h.fits;(have g4:E.c.toks.length-s.at_=(E.c.toks.drop s.at_).length:=by rw[gR]);rw[g4]at hj;obtain⟨c0,c1,-,-,-,-⟩:=h.cells;rw[eA]at c0;have jf:=h.lt;have jb:=h.most;have jk:=h.le;have h1:aD E s w (w.alloc (.cells #[.slice (some ⟨b,off',none⟩) (E.c.toks.drop s.at_).length (E.cap-s.at_)] 38)):=(aD.refl h).alloc _;have hy:sW (w.alloc (.cells #[.slice (some ⟨b,off',none⟩) (E.c.toks.drop s.at_).length (E.cap-s.at_)] 38)) w.heap.size b off' (E.cap-s.at_) (E.c.toks.drop s.at_):=by
  refine⟨?_,?_,by simp;omega,fun j u hu=>?_⟩
  ·exact((au.new w 38 #[.slice (some ⟨b,off',none⟩) (E.c.toks.drop s.at_).length (E.cap-s.at_)]).cell 0).trans rfl
  ·have:=h.fits;rw[gR];omega
  ·exact cell_kept ((gG _ w).alloc (d5 _) _) (hcut w hq j u hu)
 have hk:∀t∈E.c.toks.drop s.at_,t.text.size<=1000000000:=fun t ht=>hS t (qR ht);(have ho:(E.c.toks.drop s.at_).length<=1000000:=by rw[gR];omega);have g9:=hid (Dt E.c s);have g8:=hid (fun hr a b d r hl ha=>AG E.c s hr (a:=a) (b:=b) (d:=d) (r:=r) hl ha);have h2:=hid (show aP E.c s ⟨#[114,97,110,103,101]⟩=true->bI E.c s=some ((⟨#[]⟩:BA),adv s)from fun hr=>by unfold bI;rw[gE hr]);(have g7:3<=(E.c.toks.drop s.at_).length->s.at_+3<=E.c.toks.length:=by rw[gR];omega);have g0:=hid hk;have h4:=hid g7;clear hcut hq g4 hk hS g7;have je:=hR s;clear hR;generalize hrr:bI E.c s=res at *;generalize hlq:E.c.toks.drop s.at_=l at *;clear hrr;have HL:=hid hlq;clear hlq;(have jm:(0:Int)<=(s.at_:Int):=by omega);(go_enter Tryz.func219,Tryz.ntmps219);(go_upto_region 1 with fail);go_cut [4] (fun s4 wx=>s4=.pointer (some ⟨w,0,none⟩)/\aD E s w wx/\sW wx w.heap.size b off' (E.cap-s.at_) l)
 case first=>go_region_law (fail);(all_goals go_wp2_with fail);(all_goals go_meet);all_goals exact⟨rfl,h1.drew,hy.below (gG _ _).drew⟩
 case rest=>
  obtain⟨rfl,gp,hw⟩:=hcut;clear h1 hy c0 c1 hj;(go_wp2_with fail);cases hA:aP E.c s ⟨#[114,97,110,103,101]⟩with
  |true=>have HR:=hid (h2.out hA);refine(bi E s _ _ gp.rd hA).mono ?_;rintro e w2⟨rfl,jc⟩;have gl:=gp.trans jc;(go_wp2_with fail);go_ret2;rw[HR.out];exact⟨rfl,gl⟩
  |false=>
   have N:=hid (g9.out hA);have O:=hid (fun a b d r=>g8.out hA a b d r);refine(bA E s _ _ gp.rd hA).mono ?_;rintro e w2⟨rfl,gi⟩;have gl:=gp.trans gi.moved;have I:=hw.below gi.bel;clear g9 g8 h2 hA gp hw gi;by_cases J:(l.getD 0 ⟨0,⟨#[]⟩,0⟩).kind=1
   rotate_left
   ·have HR:Hid (res=none):=hid (N.out (.inr J));(have e0:(decide (0<l.length)&&((l.getD 0 ⟨0,⟨#[]⟩,0⟩).kind==1))=false:=by rw[beq_eq_false_iff_ne.2 J,vk]);have kB:∀n:Wd (Below w2 w2),n.wd.cell? ⟨w,0,none⟩=some (.slice (some ⟨b,off',none⟩) l.length (E.cap-s.at_)):=fun n=>(I.below n.ok).box;have D:=hid (fun W(hb:Below w2 w2 W)=>sX w.heap.size b off' (E.cap-s.at_) l 0 W (I.below hb));rw[show((0:Nat):Int)=0 from rfl]at D;rw[e0]at D;clear e0 J N O;(go_wp2_with fail);refine cQ w2 ?_;(repeat(go_big_quiet_step ((first|(go_at_call 234;rename_i n;((with_reducible refine(D.out n.wd n.ok).mono ?_);rintro e w'⟨rfl,rfl⟩);exact⟨rfl,n,rfl⟩)))));refine jS ?_;intro n6;have gy:=I.below n6.ok;have M:=hid (fun W(hb:Below n6.wd.heap.size n6.wd W)=>D.out W (a8 n6.ok hb));clear kB;(go_wp2_with fail);refine cQ n6.wd ?_;(repeat(go_big_quiet_step ((first|(go_at_call 234;rename_i n;((with_reducible refine(M.out n.wd n.ok).mono ?_);rintro e w'⟨rfl,rfl⟩);exact⟨rfl,n,rfl⟩)))));refine jS ?_;intro n9;(go_wp2_with fail);go_ret2;rw[HR.out];exact⟨rfl,(gl.step n6.ok).step n9.ok⟩
   by_cases h3:3<=l.length
   rotate_left
   ·have HR:Hid (res=none):=hid (N.out (.inl (by omega)));have hp:0<l.length:=by
     rcases kQ l.length with h0|h0
     ·rw[jR h0]at J;simp at J
     ·exact h0
    (have e0:(decide (0<l.length)&&((l.getD 0 ⟨0,⟨#[]⟩,0⟩).kind==1))=true:=by rw[kN hp,beq_iff_eq.2 J];rfl);(have e2:(decide (2<l.length)&&((l.getD 2 ⟨0,⟨#[]⟩,0⟩).kind==1))=false:=by rw[jD (by omega),vC]);(have hL:decide ((l.length:Int)>2)=false:=by simp;omega);have kB:∀n:Wd (Below w2 w2),n.wd.cell? ⟨w,0,none⟩=some (.slice (some ⟨b,off',none⟩) l.length (E.cap-s.at_)):=fun n=>(I.below n.ok).box;have D:=hid (fun W(hb:Below w2 w2 W)=>sX w.heap.size b off' (E.cap-s.at_) l 0 W (I.below hb));rw[show((0:Nat):Int)=0 from rfl]at D;have U:=hid (fun W(hb:Below w2 w2 W)=>sX w.heap.size b off' (E.cap-s.at_) l 2 W (I.below hb));rw[show((2:Nat):Int)=2 from rfl]at U;rw[e0]at D;rw[e2]at U;clear e0 e2 J N O;(go_wp2_with fail);refine cQ w2 ?_;(repeat(go_big_quiet_step ((first|(go_at_call 234;rename_i n;((with_reducible refine(D.out n.wd n.ok).mono ?_);rintro e w'⟨rfl,rfl⟩);exact⟨rfl,n,rfl⟩)))));refine jS ?_;intro n6;have gy:=I.below n6.ok;have M:=hid (fun W(hb:Below n6.wd.heap.size n6.wd W)=>D.out W (a8 n6.ok hb));have gb:=hid (fun W(hb:Below n6.wd.heap.size n6.wd W)=>U.out W (a8 n6.ok hb));clear kB;(go_wp2_with fail);refine cQ n6.wd ?_;(repeat(go_big_quiet_step ((first|(go_at_call 234;rename_i n;((with_reducible refine(M.out n.wd n.ok).mono ?_);rintro e w'⟨rfl,rfl⟩);exact⟨rfl,n,rfl⟩)|(go_at_call 234;rename_i n;((with_reducible refine(gb.out n.wd n.ok).mono ?_);rintro e w'⟨rfl,rfl⟩);exact⟨rfl,n,rfl⟩)))));refine jS ?_;intro n9;(go_wp2_with fail);go_ret2;rw[HR.out];exact⟨rfl,(gl.step n6.ok).step n9.ok⟩
   obtain⟨a,gk⟩:∃a,l[0]=a:=⟨_,rfl⟩;obtain⟨d,gj⟩:∃d,l[2]=d:=⟨_,rfl⟩;obtain⟨bt,r,he⟩:∃bt r,l=a::bt::d::r:=by
    rcases l with _|⟨x,_|⟨y,_|⟨z,r⟩⟩⟩
    ·simp at h3
    ·simp at h3
    ·simp at h3
    ·simp at gk gj;subst gk gj;exact⟨y,r,rfl⟩
   (have jj:a.text.size<=1000000000:=by rw[<-gk];exact g0.out _ (jC _));(have ji:d.text.size<=1000000000:=by rw[<-gj];exact g0.out _ (jC _));(have jd:a.kind=1:=by rw[gN,gQ (by omega)]at J;simpa[gk]using J);(have e0:(decide (0<l.length)&&((l.getD 0 ⟨0,⟨#[]⟩,0⟩).kind==1))=true:=by rw[kN (by omega),beq_iff_eq.2 J];rfl);(have e2:(decide (2<l.length)&&((l.getD 2 ⟨0,⟨#[]⟩,0⟩).kind==1))=(d.kind==1):=by rw[gN,gQ (by omega),gj,kN (show 2<l.length by omega)];rfl);have ge:=hid (show res=if a.text≠(⟨#[95]⟩:BA)/\dE (l.take 3)=a.text++(⟨#[32,58,61,32,114,97,110,103,101]⟩:BA)then some (a.text,{ s with at_:=s.at_+3 })
     else if d.kind=1/\d.text≠(⟨#[95]⟩:BA)/\dE (l.take 5)=a.text++(⟨#[32,44,32]⟩:BA)++d.text++(⟨#[32,58,61,32,114,97,110,103,101]⟩:BA)then some (a.text++(⟨#[44]⟩:BA)++d.text,{ s with at_:=s.at_+5 })else none by have:=O.out a bt d r he jd;rw[<-he]at this;exact this)
   (have gx:w2.cell? ⟨b,off'+1,none⟩=some (.string a.text):=by have:=(I.tok 0 (by omega)).2.1;rw[gk]at this;simpa using this);(have hf:w2.cell? ⟨b,off'+6+1,none⟩=some (.string d.text):=by have:=(I.tok 2 (by omega)).2.1;rw[gj]at this;exact this);(have hL:decide ((l.length:Int)>2)=true:=by simp;omega);(have hp:(0:Int)<(l.length:Int):=by omega);(have jl:(2:Int)<(l.length:Int):=by omega);(have jh:0<l.length:=by omega);(have jg:2<l.length:=by omega);have gu:=hid (show(a.text≠(⟨#[95]⟩:BA))↔(a.text.toList==[95])=false by rw[show([95]:List UInt8)=((⟨#[95]⟩:BA):ByteArray).toList from by kernel_rfl,dF];simp);have gt:=hid (show(d.text≠(⟨#[95]⟩:BA))↔(d.text.toList==[95])=false by rw[show([95]:List UInt8)=((⟨#[95]⟩:BA):ByteArray).toList from by kernel_rfl,dF];simp);have gw:=hid (show(dE (l.take 3)=a.text++(⟨#[32,58,61,32,114,97,110,103,101]⟩:BA))↔((dE (l.take 3)).toList==(a.text++(⟨#[32,58,61,32,114,97,110,103,101]⟩:BA)).toList)=true by rw[dF];simp);have gv:=hid (show(dE (l.take 5)=a.text++(⟨#[32,44,32]⟩:BA)++d.text++(⟨#[32,58,61,32,114,97,110,103,101]⟩:BA))↔((dE (l.take 5)).toList==(a.text++(⟨#[32,44,32]⟩:BA)++d.text++(⟨#[32,58,61,32,114,97,110,103,101]⟩:BA)).toList)=true by rw[dF];simp);have kB:∀n:Wd (Below w2 w2),n.wd.cell? ⟨w,0,none⟩=some (.slice (some ⟨b,off',none⟩) l.length (E.cap-s.at_)):=fun n=>(I.below n.ok).box;have D:=hid (fun W(hb:Below w2 w2 W)=>sX w.heap.size b off' (E.cap-s.at_) l 0 W (I.below hb));rw[show((0:Nat):Int)=0 from rfl]at D;have kA:∀n:Wd (Below w2 w2),n.wd.cell? ⟨b,off'+1,none⟩=some (.string a.text):=fun n=>cell_kept n.ok gx;have kD:∀n:Wd (Below w2 w2),n.wd.cell? ⟨b,off'+6+1,none⟩=some (.string d.text):=fun n=>cell_kept n.ok hf;have U:=hid (fun W(hb:Below w2 w2 W)=>sX w.heap.size b off' (E.cap-s.at_) l 2 W (I.below hb));rw[show((2:Nat):Int)=2 from rfl]at U;have gr:=hid (fun W(hb:Below w2 w2 W)=>AR w.heap.size b off' (E.cap-s.at_) l 3 (by omega) (by omega) h3 ho g0.out W (I.below hb));rw[show((3:Nat):Int)=3 from rfl]at gr;have gz:=hid (fun W(hb:Below w2 w2 W)=>AR w.heap.size b off' (E.cap-s.at_) l 5 (by omega) (by omega) h3 ho g0.out W (I.below hb));rw[show((5:Nat):Int)=5 from rfl]at gz;rw[e0]at D;rw[e2]at U;clear e0 e2 J N O gk gj he;generalize dE (l.take 3)=T3 at *;generalize dE (l.take 5)=T5 at *;generalize hdk:(d.kind==1)=n2 at *;have gs:=hid (show(d.kind=1)↔n2=true by rw[<-hdk];simp);clear hdk;by_cases hc:(a.text.toList==[95])=false/\(T3.toList==(a.text++(⟨#[32,58,61,32,114,97,110,103,101]⟩:BA)).toList)=true
   ·obtain⟨gh,gi⟩:=hc;(have g3:(a.text.toList != [95])=true:=by simp[bne,gh]);have HR:=hid (ge.out.trans (gE ⟨gu.out.2 gh,gw.out.2 gi⟩));clear ge gu gt gw gv gs gz U;(go_wp2_with fail);refine cQ w2 ?_;(repeat(go_big_quiet_step ((first|(go_at_call 234;rename_i n;((with_reducible refine(D.out n.wd n.ok).mono ?_);rintro e w'⟨rfl,rfl⟩);exact⟨rfl,n,rfl⟩)|(go_at_call 232;rename_i n;((with_reducible refine(gr.out n.wd n.ok).mono ?_);rintro e w'⟨rfl,hb⟩);exact⟨rfl,⟨w',a8 n.ok hb⟩,rfl⟩)))));refine jS ?_;intro n6;have gn:=gl.step n6.ok;have hi:=I.below n6.ok;have gm:=cell_kept n6.ok gx;obtain⟨y0,y1,y2,y3,y4,yf⟩:=gn.rd.cells;have h6:=yf 1;have q1:IntKind.i64.wrap ((s.at_:Int)+3)=(s.at_:Int)+3:=gO _ (by omega);have ga:=gn.setAt (s.at_+3) (h4.out h3);rw[show((s.at_+3:Nat):Int)=(s.at_:Int)+3 by omega]at ga;have hg:=hi.box;clear yf kB kA kD D gr;(have hh:w.heap.size≠E.R:=by omega);(have gd:b≠E.R:=by omega);(go_upto_region 8 with fail);have z0:(n6.wd.setCell ⟨E.R,1,none⟩ (.int .i64 ((s.at_:Int)+3))).cell? ⟨w,0,none⟩=some (.slice (some ⟨b,off',none⟩) l.length (E.cap-s.at_)):=(gI _ _ _ _ (by exact hh.symm)).trans hg;have z1:(n6.wd.setCell ⟨E.R,1,none⟩ (.int .i64 ((s.at_:Int)+3))).cell? ⟨b,off'+1,none⟩=some (.string a.text):=(gI _ _ _ _ (by exact gd.symm)).trans gm;generalize n6.wd.setCell ⟨E.R,1,none⟩ (.int .i64 ((s.at_:Int)+3))=w10 at *;(go_wp2_with fail);go_ret2;rw[HR.out];exact⟨rfl,ga⟩
   ·have g1:=hid (ge.out.trans (gA (fun h=>hc ⟨gu.out.1 h.1,gw.out.1 h.2⟩)));cases gh:(a.text.toList==[95])
    case' true=>have g3:(a.text.toList != [95])=false:=by simp[bne,gh]
    case' false=>(have g3:(a.text.toList != [95])=true:=by simp[bne,gh]);have gi:(T3.toList==(a.text++(⟨#[32,58,61,32,114,97,110,103,101]⟩:BA)).toList)=false:=by simpa[gh]using hc
    all_goals
     clear ge hc;(go_wp2_with fail);refine cQ w2 ?_;(repeat(go_big_quiet_step ((first|(go_at_call 234;rename_i n;((with_reducible refine(D.out n.wd n.ok).mono ?_);rintro e w'⟨rfl,rfl⟩);exact⟨rfl,n,rfl⟩)|(go_at_call 232;rename_i n;((with_reducible refine(gr.out n.wd n.ok).mono ?_);rintro e w'⟨rfl,hb⟩);exact⟨rfl,⟨w',a8 n.ok hb⟩,rfl⟩)))));refine jS ?_;intro n6;have gy:=I.below n6.ok;have hz:=gl.step n6.ok;have g6:=cell_kept n6.ok gx;have g5:=cell_kept n6.ok hf;have h8:∀n:Wd (Below n6.wd.heap.size n6.wd),n.wd.cell? ⟨w,0,none⟩=some (.slice (some ⟨b,off',none⟩) l.length (E.cap-s.at_)):=fun n=>(gy.below n.ok).box;have ja:∀n:Wd (Below n6.wd.heap.size n6.wd),n.wd.cell? ⟨b,off'+1,none⟩=some (.string a.text):=fun n=>cell_kept n.ok g6;have h7:∀n:Wd (Below n6.wd.heap.size n6.wd),n.wd.cell? ⟨b,off'+6+1,none⟩=some (.string d.text):=fun n=>cell_kept n.ok g5;have M:=hid (fun W(hb:Below n6.wd.heap.size n6.wd W)=>D.out W (a8 n6.ok hb));have gb:=hid (fun W(hb:Below n6.wd.heap.size n6.wd W)=>U.out W (a8 n6.ok hb));have gq:=hid (fun W(hb:Below n6.wd.heap.size n6.wd W)=>gz.out W (a8 n6.ok hb));clear kB kA kD D U gr gz gx hf;by_cases hd:n2=true/\(d.text.toList==[95])=false/\(T5.toList==(a.text++(⟨#[32,44,32]⟩:BA)++d.text++(⟨#[32,58,61,32,114,97,110,103,101]⟩:BA)).toList)=true
     ·obtain⟨rfl,gg,hm⟩:=hd;(have g2:(d.text.toList != [95])=true:=by simp[bne,gg]);have HR:=hid (show res=some (a.text++(⟨#[44]⟩:BA)++d.text,{ s with at_:=s.at_+5 })by rw[g1.out,gE ⟨gs.out.2 rfl,gt.out.2 gg,gv.out.2 hm⟩]);have h5:s.at_+5<=E.c.toks.length:=je _ _ HR.out;clear g1 gu gt gw gv gs;(go_wp2_with fail);refine cQ n6.wd ?_;(repeat(go_big_quiet_step ((first|(go_at_call 234;rename_i n;((with_reducible refine(M.out n.wd n.ok).mono ?_);rintro e w'⟨rfl,rfl⟩);exact⟨rfl,n,rfl⟩)|(go_at_call 234;rename_i n;((with_reducible refine(gb.out n.wd n.ok).mono ?_);rintro e w'⟨rfl,rfl⟩);exact⟨rfl,n,rfl⟩)|(go_at_call 232;rename_i n;((with_reducible refine(gq.out n.wd n.ok).mono ?_);rintro e w'⟨rfl,hb⟩);exact⟨rfl,⟨w',a8 n.ok hb⟩,rfl⟩)))));refine jS ?_;intro n9;have gn:=hz.step n9.ok;have hi:=gy.below n9.ok;have gm:=cell_kept n9.ok g6;have hv:=cell_kept n9.ok g5;obtain⟨y0,y1,y2,y3,y4,yf⟩:=gn.rd.cells;have h6:=yf 1;have q1:IntKind.i64.wrap ((s.at_:Int)+5)=(s.at_:Int)+5:=gO _ (by omega);have ga:=gn.setAt (s.at_+5) h5;rw[show((s.at_+5:Nat):Int)=(s.at_:Int)+5 by omega]at ga;have hg:=hi.box;clear yf h8 ja h7 M gb gq;(have hh:w.heap.size≠E.R:=by omega);(have gd:b≠E.R:=by omega);(go_upto_region 11 with fail);have z0:(n9.wd.setCell ⟨E.R,1,none⟩ (.int .i64 ((s.at_:Int)+5))).cell? ⟨w,0,none⟩=some (.slice (some ⟨b,off',none⟩) l.length (E.cap-s.at_)):=(gI _ _ _ _ (by exact hh.symm)).trans hg;have z1:(n9.wd.setCell ⟨E.R,1,none⟩ (.int .i64 ((s.at_:Int)+5))).cell? ⟨b,off'+1,none⟩=some (.string a.text):=(gI _ _ _ _ (by exact gd.symm)).trans gm;have z2:(n9.wd.setCell ⟨E.R,1,none⟩ (.int .i64 ((s.at_:Int)+5))).cell? ⟨b,off'+6+1,none⟩=some (.string d.text):=(gI _ _ _ _ (by exact gd.symm)).trans hv;generalize n9.wd.setCell ⟨E.R,1,none⟩ (.int .i64 ((s.at_:Int)+5))=w10 at *;go_quiet (fail);(go_wp2_with fail);go_ret2;rw[HR.out];exact⟨rfl,ga.drewN _⟩
     ·have HR:Hid (res=none):=hid (g1.out.trans (gA fun h=>hd ⟨gs.out.1 h.1,gt.out.1 h.2.1,gv.out.1 h.2.2⟩));cases n2
      case' true=>
       cases gg:(d.text.toList==[95])
       case' true=>have g2:(d.text.toList != [95])=false:=by simp[bne,gg]
       case' false=>(have g2:(d.text.toList != [95])=true:=by simp[bne,gg]);have hm:(T5.toList==(a.text++(⟨#[32,44,32]⟩:BA)++d.text++(⟨#[32,58,61,32,114,97,110,103,101]⟩:BA)).toList)=false:=by simpa[gg]using hd
      all_goals clear hd;clear g1 gu gt gw gv gs;(go_wp2_with fail);refine cQ n6.wd ?_;(repeat(go_big_quiet_step ((first|(go_at_call 234;rename_i n;((with_reducible refine(M.out n.wd n.ok).mono ?_);rintro e w'⟨rfl,rfl⟩);exact⟨rfl,n,rfl⟩)|(go_at_call 234;rename_i n;((with_reducible refine(gb.out n.wd n.ok).mono ?_);rintro e w'⟨rfl,rfl⟩);exact⟨rfl,n,rfl⟩)|(go_at_call 232;rename_i n;((with_reducible refine(gq.out n.wd n.ok).mono ?_);rintro e w'⟨rfl,hb⟩);exact⟨rfl,⟨w',a8 n.ok hb⟩,rfl⟩)))));refine jS ?_;intro n9;(go_wp2_with fail);go_ret2;rw[HR.out];exact⟨rfl,hz.step n9.ok⟩
end
section
open Go.RowKit Go.Lib Go.Proofs
attribute [local go_sem ↓] Go.wp_at_zero Go.wp_at_succ
def fm(l:List cY)(p:Int):List cY:=if ed l=true then l++[⟨6,⟨#[10]⟩,p⟩]else l
theorem wL(X:Nat)(s:ByteArray)(i:Nat)(l:List cY)(p:Int)(hl:l.length+1<=65537)(w:World)(h:iQ w X s i l)(hT:dk w)(ga:∀t∈l,t.text.size<=65536):
  Calls Tryz.prog 74 #[X,.int .i64 p] w (sJ X s w i (fm l p) (.tuple #[])):=by
 have HE:=hid (EE X s i l w h hT ga);have O:=h.lt;cases M:ed l with
 |false=>have HL:Hid (fm l p=l):=hid (by unfold fm;rw[gA (by rw[M];decide)]);rw[M]at HE;clear M;(go_enter Tryz.func74,Tryz.ntmps74);(go_wp2_with fail);refine HE.out.mono ?_;rintro e w1⟨rfl,D⟩;(go_wp2_with fail);go_end0;rw[HL.out];exact⟨rfl,h.below D,D.mono (jN O)⟩
 |true=>have HL:=hid (show fm l p=l++[⟨6,⟨#[10]⟩,p⟩]by unfold fm;rw[gE M]);rw[M]at HE;clear M;(go_enter Tryz.func74,Tryz.ntmps74);(go_wp2_with fail);refine HE.out.mono ?_;rintro e w1⟨rfl,D⟩;have h1:=h.below D;have U:=h1.le;have N:=h1.most;obtain⟨lv,nv,ns,I⟩:=h1.out;have hb:=I.blk;have hO:=I.toks;obtain⟨A0,c0,gb,_⟩:=hO.form;subst gb;obtain⟨x0,x1,x2,x3,f0,f1,f2,f3⟩:=ag hb;have ge:=hb.lt;go_wp2_with (at_builtin;refine BR rfl (.tmp 10) (.tmp 13) rfl (X+1) _ _ l ⟨6,⟨#[10]⟩,p⟩ rfl _ rfl (by simp) hO (by omega) (by omega) ?_;intro g c w2 J;have gd:=hb.below J.bel (qd _);obtain⟨z0,z1,z2,z3,y0,y1,y2,y3⟩:=ag gd);go_end0;rw[HL.out];exact⟨rfl,⟨⟨_,nv,ns,I.row J⟩,U,N,by rw[gJ];simpa using hl⟩,((D.mono (jN O)).trans (J.bel.mono (jE _))).setCell (d5 _) _⟩
theorem ef(s:ByteArray)(i:Nat)(D:i<s.size)(W:World):(Instr.index 9 (.string s) (.int .i64 (i:Int))).run Tryz.prog W=.ok (.int .u8 (aa s i:Int)) W:=by rw[run_index_string (P:=Tryz.prog) W 9 s .i64 (i:Int) Tryz.underlying9];simp[aa,D];rfl
end
end Go.Proofs.YtiebcdeafofgdaaGreatDoor
