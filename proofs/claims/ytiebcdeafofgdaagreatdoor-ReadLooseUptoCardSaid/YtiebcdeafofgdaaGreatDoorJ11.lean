/-
  Parts of the proof: Tstmt Uname Uname2. By an AI agent.
-/
import Derived.Test.YtiebcdeafofgdaaGreatDoorJ10
import Derived.Test.YtiebcdeafofgdaaGreatDoorJ09
import Derived.Deep.LoopGhost
open Go.Proofs.Tryz
set_option maxRecDepth 100000
set_option maxHeartbeats 8000000
namespace Go.Proofs.YtiebcdeafofgdaaGreatDoor
section
open Go.RowKit Go.Lib Go.Proofs
attribute [local go_sem ↓] Go.wp_at_zero Go.wp_at_succ
theorem gI:type_of% @Bool.or_eq_true:=@Bool.or_eq_true
theorem gM:type_of% @decide_eq_false:=@decide_eq_false
theorem gZ:type_of% @List.take_succ_eq_append_getElem:=@List.take_succ_eq_append_getElem
theorem jO:type_of% @decide_eq_true:=@decide_eq_true
theorem jU:type_of% @Bool.and_false:=@Bool.and_false
theorem kK:type_of% @Bool.true_and:=@Bool.true_and
theorem qU:type_of% @ByteArray.ext:=@ByteArray.ext
theorem qV:type_of% @List.any_eq_true:=@List.any_eq_true
theorem GC(a:Array Value)(w:World):(callFunc 169 a).run prog w=.ok (.enter 169 a) w:=by kernel_rfl
theorem EX(a:Array Value)(w:World):(callFunc 170 a).run prog w=.ok (.enter 170 a) w:=by kernel_rfl
theorem EY(a:Array Value)(w:World):(callFunc 171 a).run prog w=.ok (.enter 171 a) w:=by kernel_rfl
theorem LH(a:Array Value)(w:World):(callFunc 172 a).run prog w=.ok (.enter 172 a) w:=by kernel_rfl
theorem GD(a:Array Value)(w:World):(callFunc 214 a).run prog w=.ok (.enter 214 a) w:=by kernel_rfl
theorem LI(g:Nat)(F:cQ)(hF:r6 g F):f9 (g+1) (fk F) 171:=by intro w v n hT hv hd;have N:=hv;obtain⟨A,cp,rfl,hC⟩:=hv.toC;have hB:=(aj w #[n.kind,n.text,.slice A n.kids.length cp,n.pos]).1;have b1:=(aj w #[n.kind,n.text,.slice A n.kids.length cp,n.pos]).2;have HV:=hid (N.below hB);have gd:=hid N;have HT:=hid (hT.below hB);have HF:=hid hF;have HD:=hid hd;clear N hv hC hT hF hd;have HE:=hid (show fk F n=cA 28 [F.expr] (au f8 n)from rfl);(go_enter func171,ntmps171);go_wp2_with fail;refine(cJ _ _ n HV.out ⟨213,#[]⟩ f8 (OD _) HD.out.txt).mono ?_;rintro e w1⟨v1,rfl,O,M⟩;have ga:=aD hB M;have U:=hid (cP.below HT.out M);have gb:=hid O;clear M O;go_wp2_with fail;have D:=(gG w1.heap.size w1).alloc (gA _) (.cells #[.func (.func 122) #[] #[]] 37);have I:=aD ga D;refine(cj g [(⟨122,#[]⟩,F.expr)] 28 v1 (au f8 n) _ _ 1 rfl (by omega) (gb.out.below D) HD.out.named (d9.new _ rfl (an.new w1 _ _)) (ia (HF.out.expr.so dM _ (cP.below U.out D)))).mono ?_;rintro e w2⟨rfl,J⟩;have h:=aD I J;have ge:=hid (cP.below (cP.below U.out D) J);clear D I;clear J;go_wp2_with fail;go_ret;exact⟨by rw[HE.out];rfl,h⟩
theorem EZ(g:Nat)(F:cQ)(hF:r6 g F):f9 (g+1) (du F) 169:=by intro w v n hT hv hd;have N:=hv;obtain⟨A,cp,rfl,hC⟩:=hv.toC;have hB:=(aj w #[n.kind,n.text,.slice A n.kids.length cp,n.pos]).1;have b1:=(aj w #[n.kind,n.text,.slice A n.kids.length cp,n.pos]).2;have HV:=hid (N.below hB);have gd:=hid N;have HT:=hid (hT.below hB);have HF:=hid hF;have HD:=hid hd;clear N hv hC hT hF hd;have HE:=hid (show du F n=cA 26 [F.expr] (au bY n)from rfl);(go_enter func169,ntmps169);go_wp2_with fail;refine(cJ _ _ n HV.out ⟨212,#[]⟩ bY (IU _) HD.out.txt).mono ?_;rintro e w1⟨v1,rfl,O,M⟩;have ga:=aD hB M;have U:=hid (cP.below HT.out M);have gb:=hid O;clear M O;go_wp2_with fail;have D:=(gG w1.heap.size w1).alloc (gA _) (.cells #[.func (.func 122) #[] #[]] 37);have I:=aD ga D;refine(cj g [(⟨122,#[]⟩,F.expr)] 26 v1 (au bY n) _ _ 1 rfl (by omega) (gb.out.below D) HD.out.named (d9.new _ rfl (an.new w1 _ _)) (ia (HF.out.expr.so dM _ (cP.below U.out D)))).mono ?_;rintro e w2⟨rfl,J⟩;have h:=aD I J;have ge:=hid (cP.below (cP.below U.out D) J);clear D I;clear J;go_wp2_with fail;go_ret;exact⟨by rw[HE.out];rfl,h⟩
theorem LJ(g:Nat)(F:cQ)(hF:r6 g F):f9 (g+1) (fl F) 170:=by intro w v n U hv hd;have M:=hv;obtain⟨A,cp,rfl,hC⟩:=hv.toC;have hB:=(aj w #[n.kind,n.text,.slice A n.kids.length cp,n.pos]).1;have b1:=(aj w #[n.kind,n.text,.slice A n.kids.length cp,n.pos]).2;have HV:=hid (M.below hB);have ga:=hid M;have O:=hid (U.below hB);have h:=hid hF;have HD:=hid hd;clear M hv hC U hF hd;have HE:Hid (fl F n=cA 27 [F.expr,F.expr] n):=hid rfl;(go_enter func170,ntmps170);go_wp2_with fail;have D:=(gG (w.alloc (.cells #[n.kind,n.text,.slice A n.kids.length cp,n.pos] 24)).heap.size (w.alloc (.cells #[n.kind,n.text,.slice A n.kids.length cp,n.pos] 24))).alloc (gA _) (.cells #[.func (.func 122) #[] #[],.func (.func 122) #[] #[]] 37);have I:=aD hB D;refine(cj g [(⟨122,#[]⟩,F.expr),(⟨122,#[]⟩,F.expr)] 27 _ (n) _ _ 2 rfl (by omega) (HV.out.below D) HD.out (d9.new _ rfl (an.new_at (n:=w.heap.size+1) (by simp) _ _)) (lH (h.out.expr.so dM _ (cP.below O.out D)) (h.out.expr.so dM _ (cP.below O.out D)))).mono ?_;rintro e w1⟨rfl,J⟩;have N:=aD I J;have gb:=hid (cP.below (cP.below O.out D) J);clear D I;clear J;go_wp2_with fail;go_ret;exact⟨by rw[HE.out];rfl,N⟩
theorem O1(g:Nat)(F:cQ)(hF:r6 g F):f9 g (iw F) 214:=by
 intro w v n J hv hd;have I:=hv;obtain⟨A,cp,rfl,N⟩:=hv.toC;have hB:=(aj w #[n.kind,n.text,.slice A n.kids.length cp,n.pos]).1;have O:=hid (hF.expr _ _ n (J.below hB) (I.below hB) hd);(have hE:iw F n=(n.kind==21&&F.expr n):=by unfold iw;rw[fH]);rw[hE];clear hE I hv N J hF hd;generalize F.expr n=q at *;generalize n.kind=k at *;cases M:(k==21);all_goals
  (go_enter func214,ntmps214);go_wp2_with fail;try
   rw[kF]at M
   subst M
   refine O.out.mono ?_
   rintro e w1⟨rfl,D⟩
   replace hB:=aD hB D
   clear D
   go_wp2_with fail
  go_ret;exact⟨rfl,hB⟩
theorem LK(g:Nat)(F:cQ)(hF:r6 g F):f9 (g+1) (eU F) 172:=by intro w v n O hv hd;have M:=hv;obtain⟨A,cp,rfl,h⟩:=hv.toC;have hB:=(aj w #[n.kind,n.text,.slice A n.kids.length cp,n.pos]).1;have b1:=(aj w #[n.kind,n.text,.slice A n.kids.length cp,n.pos]).2;have HV:=hid (M.below hB);have ga:=hid M;have U:=hid (O.below hB);have HF:=hid hF;have HD:=hid hd;clear M hv h O hF hd;have HE:Hid (eU F n=cA 29 [iw F] n):=hid rfl;(go_enter func172,ntmps172);go_wp2_with fail;have D:=(gG (w.alloc (.cells #[n.kind,n.text,.slice A n.kids.length cp,n.pos] 24)).heap.size (w.alloc (.cells #[n.kind,n.text,.slice A n.kids.length cp,n.pos] 24))).alloc (gA _) (.cells #[.func (.func 214) #[] #[]] 37);have I:=aD hB D;refine(cj g [(⟨214,#[]⟩,(iw F))] 29 _ (n) _ _ 1 rfl (by omega) (HV.out.below D) HD.out (d9.new _ rfl (an.new_at (n:=w.heap.size+1) (by simp) _ _)) (ia ((O1 g F HF.out).so GD _ (cP.below U.out D)))).mono ?_;rintro e w1⟨rfl,J⟩;have N:=aD I J;have gb:=hid (cP.below (cP.below U.out D) J);clear D I;clear J;go_wp2_with fail;go_ret;exact⟨by rw[HE.out];rfl,N⟩
theorem E0(g:Nat)(F:cQ)(hF:r6 g F):f9 (g+1) (bD F) 157:=by
 intro w v n J hv hd;have D:=hv;obtain⟨A,cp,rfl,N⟩:=hv.toC;have hB:=(aj w #[n.kind,n.text,.slice A n.kids.length cp,n.pos]).1;have b1:=(aj w #[n.kind,n.text,.slice A n.kids.length cp,n.pos]).2;have U:=hid (D.below hB);have O:=hid D;have h:=hid (J.below hB);have HF:=hid hF;have M:=hid hd;clear D hv N J hF hd;have HI:=hid (iL g (F.stmt) ⟨123,#[]⟩ A cp n.kids _ U.out.kidsV M.out.2 M.out.1.1 (HF.out.stmt.so Lz _ h.out));(have hE:bD F n=((n.kind==36)&&(n.text.toList.isEmpty&&n.kids.all (F.stmt))):=by unfold bD;rw[aq,fH]);rw[hE];clear hE;generalize n.kids.all (F.stmt)=q at *;cases h0:(n.kind==36)<;>cases h1:n.text.toList.isEmpty;all_goals
  (go_enter func157,ntmps157);go_wp2_with fail;try
   refine HI.out.mono ?_
   rintro e w1⟨rfl,I⟩
   replace hB:=aD hB I
   clear I
   go_wp2_with fail
  go_ret;exact⟨rfl,hB⟩
theorem Tn(g:Nat)(F:cQ)(hF:r6 g F):f9 (g+1) (Am F) 173:=by
 intro w v n hT hv hd;have N:=hv;obtain⟨A,cp,rfl,hC⟩:=hv.toC;have hB:=(aj w #[n.kind,n.text,.slice A n.kids.length cp,n.pos]).1;have b1:=(aj w #[n.kind,n.text,.slice A n.kids.length cp,n.pos]).2;have HV:=hid (N.below hB);have gh:=hid N;have HT:=hid (hT.below hB);have HF:=hid hF;have HD:=hid hd;clear N hv hC hT hF hd;have HE:Hid (Am F n=cA 30 [F.expr,F.block,cB (cB ah F.block) F.ifS] n):=hid rfl;(go_enter func173,ntmps173);go_wp2_with fail;generalize hW:w.alloc (.cells #[n.kind,n.text,.slice A n.kids.length cp,n.pos] 24)=W at *;clear hW;have M:Below W W W.drew:=(gG _ _).drew;have gb:=b1.lt;have ge:=aD hB M;have gg:=hid (HV.out.below M);have ga:=hid (HT.out.below M);have C0:=hid b1.drew;clear b1 HV HT hB;go_region_held3 (fun w'=>w'.cell? ⟨w,0,none⟩=some (.int .i64 n.kind)/\w'.cell? ⟨w,1,none⟩=some (.string n.text)/\w'.cell? ⟨w,2,none⟩=some (.slice A n.kids.length cp)/\w'.cell? ⟨w,3,none⟩=some (.int .i64 n.pos))
  (first|with_reducible exact l6 q3|with_reducible exact l6 (q2.alloc _)|with_reducible exact l6 q2|with_reducible exact l6 q1|with_reducible exact l6 C0.out)
  (first
   |(go_at_call 158;refine(fS g ah F.block ⟨174,#[]⟩ ⟨157,#[]⟩ _ (lG g _) (HF.out.block.so mb _ ga.out)).mono ?_;rintro e w1⟨h1,rfl,sh1_1,I⟩;have q1:=C0.out.below I gb;have h:=hid (ga.out.below I))
   |(go_at_call 158;refine(fS g (cB ah F.block) F.ifS h1 ⟨173,#[]⟩ _ (sh1_1) (HF.out.ifS.so RU _ h.out)).mono ?_;rintro e w2⟨h2,rfl,sh2_2,D⟩;have q2:=q1.bl D;have U:=hid (h.out.below D);have sh1_2:=sh1_1.below D)
   |(go_at_call 154;refine(cj g [(⟨122,#[]⟩,F.expr),(⟨157,#[]⟩,F.block),(h2,(cB (cB ah F.block) F.ifS))] 30 _ n _ _ 3 rfl (by omega) (((gg.out.below I).below D).below ((gG _ w2).alloc (gA _) _)) HD.out (d9.new _ rfl (an.new w2 _ _)) (uI (HF.out.expr.so dM _ (cP.below U.out ((gG _ w2).alloc (gA _) _))) (HF.out.block.so mb _ (cP.below U.out ((gG _ w2).alloc (gA _) _))) (sh2_2.below ((gG _ w2).alloc (gA _) _)))).mono ?_;rintro e w3⟨rfl,O⟩;have q3:=(q2.alloc _).below O (q2.alloc _).lt))
 (all_goals go_wp2_with fail);(all_goals go_ret);all_goals have gd:=aD ge I;have J:=aD gd D;exact⟨by rw[HE.out];rfl,(J.alloc J.size _).trans (O.mono (J.alloc J.size _).size)⟩
theorem R3(g:Nat)(F:cQ)(hF:r6 g F):f9 (g+1) (aB F) 123:=by
 intro w v n hT hv hd;obtain⟨nk,nt,nl,np⟩:=n;have gs:=hv;obtain⟨A,cp,rfl,hC⟩:=hv.toC;simp only[Nd.kind_mk,Nd.text_mk,Nd.kids_mk,Nd.pos_mk]at gs |-;have hB:=(aj w #[.int .i64 nk,.string nt,.slice A nl.length cp,.int .i64 np]).1;have b1:=(aj w #[.int .i64 nk,.string nt,.slice A nl.length cp,.int .i64 np]).2;have HV:=hid (gs.below hB);have ho:=hid gs;have HT:=hid (hT.below hB);have HF:=hid hF;have HD:=hid hd;clear gs hv hC hT hF hd;by_cases U:nk=5
 ·subst U;have HE:=hid (show aB F (Nd.mk 5 nt nl np)=iK F (Nd.mk 5 nt nl np)from rfl);(go_enter func123,ntmps123);go_wp2_with fail;refine(EV g F HF.out _ _ (Nd.mk 5 nt nl np) HT.out HV.out HD.out).mono ?_;rintro e w1⟨rfl,D⟩;have I:=aD hB D;clear D;go_wp2_with fail;go_ret;exact⟨by rw[HE.out];rfl,I⟩
 by_cases J:nk=26
 ·subst J;clear U;have HE:=hid (show aB F (Nd.mk 26 nt nl np)=du F (Nd.mk 26 nt nl np)from rfl);(go_enter func123,ntmps123);go_wp2_with fail;refine(EZ g F HF.out _ _ (Nd.mk 26 nt nl np) HT.out HV.out HD.out).mono ?_;rintro e w1⟨rfl,D⟩;have I:=aD hB D;clear D;go_wp2_with fail;go_ret;exact⟨by rw[HE.out];rfl,I⟩
 by_cases M:nk=27
 ·subst M;clear U J;have HE:=hid (show aB F (Nd.mk 27 nt nl np)=fl F (Nd.mk 27 nt nl np)from rfl);(go_enter func123,ntmps123);go_wp2_with fail;refine(LJ g F HF.out _ _ (Nd.mk 27 nt nl np) HT.out HV.out HD.out).mono ?_;rintro e w1⟨rfl,D⟩;have I:=aD hB D;clear D;go_wp2_with fail;go_ret;exact⟨by rw[HE.out];rfl,I⟩
 by_cases N:nk=28
 ·subst N;clear U J M;have HE:=hid (show aB F (Nd.mk 28 nt nl np)=fk F (Nd.mk 28 nt nl np)from rfl);(go_enter func123,ntmps123);go_wp2_with fail;refine(LI g F HF.out _ _ (Nd.mk 28 nt nl np) HT.out HV.out HD.out).mono ?_;rintro e w1⟨rfl,D⟩;have I:=aD hB D;clear D;go_wp2_with fail;go_ret;exact⟨by rw[HE.out];rfl,I⟩
 by_cases O:nk=29
 ·subst O;clear U J M N;have HE:=hid (show aB F (Nd.mk 29 nt nl np)=eU F (Nd.mk 29 nt nl np)from rfl);(go_enter func123,ntmps123);go_wp2_with fail;refine(LK g F HF.out _ _ (Nd.mk 29 nt nl np) HT.out HV.out HD.out).mono ?_;rintro e w1⟨rfl,D⟩;have I:=aD hB D;clear D;go_wp2_with fail;go_ret;exact⟨by rw[HE.out];rfl,I⟩
 by_cases h:nk=30
 ·subst h;clear U J M N O;have HE:=hid (show aB F (Nd.mk 30 nt nl np)=Am F (Nd.mk 30 nt nl np)from rfl);(go_enter func123,ntmps123);go_wp2_with fail;refine(Tn g F HF.out _ _ (Nd.mk 30 nt nl np) HT.out HV.out HD.out).mono ?_;rintro e w1⟨rfl,D⟩;have I:=aD hB D;clear D;go_wp2_with fail;go_ret;exact⟨by rw[HE.out];rfl,I⟩
 by_cases ga:nk=31
 ·subst ga;clear U J M N O h;have HE:=hid (show aB F (Nd.mk 31 nt nl np)=cA 31 [cB (cB ah (du F)) (cB (fl F) (fk F)),cB ah F.expr,cB (cB ah (fl F)) (cB (fk F) (eU F)),F.block] (Nd.mk 31 nt nl np)from rfl);(go_enter func123,ntmps123);go_wp2_with fail;generalize hW:w.alloc (.cells #[.int .i64 31,.string nt,.slice A nl.length cp,.int .i64 np] 24)=W at *;clear hW;have gl:Below W W W.drew:=(gG _ _).drew;have gv:=b1.lt;have gx:=aD hB gl;have gy:=hid (HV.out.below gl);have gr:=hid (HT.out.below gl);have C0:=hid b1.drew;clear b1 HV HT hB;go_region_held3 (fun w'=>w'.cell? ⟨w,0,none⟩=some (.int .i64 31)/\w'.cell? ⟨w,1,none⟩=some (.string nt)/\w'.cell? ⟨w,2,none⟩=some (.slice A nl.length cp)/\w'.cell? ⟨w,3,none⟩=some (.int .i64 np))
   (first|with_reducible exact l6 q8|with_reducible exact l6 (q7.alloc _)|with_reducible exact l6 q7|with_reducible exact l6 q6|with_reducible exact l6 q5|with_reducible exact l6 q4|with_reducible exact l6 q3|with_reducible exact l6 q2|with_reducible exact l6 q1|with_reducible exact l6 C0.out)
   (first
    |(go_at_call 158;refine(fS g ah (du F) ⟨174,#[]⟩ ⟨169,#[]⟩ _ (lG g _) (((EZ g F HF.out).le fun _=>dK.succ).so GC _ gr.out)).mono ?_;rintro e w1⟨h1,rfl,sh1_1,D⟩;have q1:=C0.out.below D gv;have gg:=hid (gr.out.below D))
    |(go_at_call 158;refine(fS g (fl F) (fk F) ⟨170,#[]⟩ ⟨171,#[]⟩ _ (((LJ g F HF.out).le fun _=>dK.succ).so EX _ gg.out) (((LI g F HF.out).le fun _=>dK.succ).so EY _ gg.out)).mono ?_;rintro e w2⟨h2,rfl,sh2_2,gb⟩;have q2:=q1.bl gb;have g4:=hid (gg.out.below gb);have sh1_2:=sh1_1.below gb)
    |(go_at_call 158;refine(fS g (cB ah (du F)) (cB (fl F) (fk F)) h1 h2 _ (sh1_2) (sh2_2)).mono ?_;rintro e w3⟨h3,rfl,sh3_3,gq⟩;have q3:=q2.bl gq;have g3:=hid (g4.out.below gq);have sh1_3:=sh1_2.below gq;have sh2_3:=sh2_2.below gq)
    |(go_at_call 158;refine(fS g ah F.expr ⟨174,#[]⟩ ⟨122,#[]⟩ _ (lG g _) (HF.out.expr.so dM _ g3.out)).mono ?_;rintro e w4⟨h4,rfl,sh4_4,gm⟩;have q4:=q3.bl gm;have g2:=hid (g3.out.below gm);have sh1_4:=sh1_3.below gm;have sh2_4:=sh2_3.below gm;have sh3_4:=sh3_3.below gm)
    |(go_at_call 158;refine(fS g ah (fl F) ⟨174,#[]⟩ ⟨170,#[]⟩ _ (lG g _) (((LJ g F HF.out).le fun _=>dK.succ).so EX _ g2.out)).mono ?_;rintro e w5⟨h5,rfl,sh5_5,gk⟩;have q5:=q4.bl gk;have gz:=hid (g2.out.below gk);have sh1_5:=sh1_4.below gk;have sh2_5:=sh2_4.below gk;have sh3_5:=sh3_4.below gk;have sh4_5:=sh4_4.below gk)
    |(go_at_call 158;refine(fS g (fk F) (eU F) ⟨171,#[]⟩ ⟨172,#[]⟩ _ (((LI g F HF.out).le fun _=>dK.succ).so EY _ gz.out) (((LK g F HF.out).le fun _=>dK.succ).so LH _ gz.out)).mono ?_;rintro e w6⟨h6,rfl,sh6_6,gi⟩;have q6:=q5.bl gi;have hc:=hid (gz.out.below gi);have sh1_6:=sh1_5.below gi;have sh2_6:=sh2_5.below gi;have sh3_6:=sh3_5.below gi;have sh4_6:=sh4_5.below gi;have sh5_6:=sh5_5.below gi)
    |(go_at_call 158;refine(fS g (cB ah (fl F)) (cB (fk F) (eU F)) h5 h6 _ (sh5_6) (sh6_6)).mono ?_;rintro e w7⟨h7,rfl,sh7_7,ge⟩;have q7:=q6.bl ge;have ha:=hid (hc.out.below ge);have sh1_7:=sh1_6.below ge;have sh2_7:=sh2_6.below ge;have sh3_7:=sh3_6.below ge;have sh4_7:=sh4_6.below ge;have sh5_7:=sh5_6.below ge;have sh6_7:=sh6_6.below ge)
    |(go_at_call 154;refine(cj g [(h3,(cB (cB ah (du F)) (cB (fl F) (fk F)))),(h4,(cB ah F.expr)),(h7,(cB (cB ah (fl F)) (cB (fk F) (eU F)))),(⟨157,#[]⟩,F.block)] 31 _ (Nd.mk 31 nt nl np) _ _ 4 rfl (by omega) ((((((((gy.out.below D).below gb).below gq).below gm).below gk).below gi).below ge).below ((gG _ w7).alloc (gA _) _)) HD.out (d9.new _ rfl (an.new w7 _ _)) (LC (sh3_7.below ((gG _ w7).alloc (gA _) _)) (sh4_7.below ((gG _ w7).alloc (gA _) _)) (sh7_7.below ((gG _ w7).alloc (gA _) _)) (HF.out.block.so mb _ (cP.below ha.out ((gG _ w7).alloc (gA _) _))))).mono ?_;rintro e w8⟨rfl,g1⟩;have q8:=(q7.alloc _).below g1 (q7.alloc _).lt))
  (all_goals go_wp2_with fail);(all_goals go_ret);all_goals have I:=aD gx D;have gw:=aD I gb;have g8:=aD gw gq;have g7:=aD g8 gm;have g6:=aD g7 gk;have g5:=aD g6 gi;have gt:=aD g5 ge;exact⟨by rw[HE.out];rfl,(gt.alloc gt.size _).trans (g1.mono (gt.alloc gt.size _).size)⟩
 by_cases gd:nk=32
 ·subst gd;clear U J M N O h ga;have HE:=hid (show aB F (Nd.mk 32 nt nl np)=cA 32 [F.expr,F.block] (au bL (Nd.mk 32 nt nl np))from rfl);(go_enter func123,ntmps123);go_wp2_with fail;refine(cJ _ _ (Nd.mk 32 nt nl np) HV.out ⟨175,#[]⟩ bL (F9 _ HT.out) HD.out.txt).mono ?_;rintro e w1⟨v1,rfl,g0,D⟩;have I:=aD hB D;have gg:=hid (cP.below HT.out D);have g9:=hid g0;clear D g0;go_wp2_with fail;have gp:=(gG w1.heap.size w1).alloc (gA _) (.cells #[.func (.func 122) #[] #[],.func (.func 157) #[] #[]] 37);have gu:=aD I gp;refine(cj g [(⟨122,#[]⟩,F.expr),(⟨157,#[]⟩,F.block)] 32 v1 (au bL (Nd.mk 32 nt nl np)) _ _ 2 rfl (by omega) (g9.out.below gp) HD.out.named (d9.new _ rfl (an.new w1 _ _)) (lH (HF.out.expr.so dM _ (cP.below gg.out gp)) (HF.out.block.so mb _ (cP.below gg.out gp)))).mono ?_;rintro e w2⟨rfl,gb⟩;have gw:=aD gu gb;have g4:=hid (cP.below (cP.below gg.out gp) gb);clear gp gu;clear gb;go_wp2_with fail;go_ret;exact⟨by rw[HE.out];rfl,gw⟩
 by_cases gh:nk=33
 ·subst gh;clear U J M N O h ga gd;have HE:=hid (show aB F (Nd.mk 33 nt nl np)=cA 33 [cB ah F.expr] (Nd.mk 33 nt nl np)from rfl);(go_enter func123,ntmps123);go_wp2_with fail;generalize hW:w.alloc (.cells #[.int .i64 33,.string nt,.slice A nl.length cp,.int .i64 np] 24)=W at *;clear hW;have gl:Below W W W.drew:=(gG _ _).drew;have gv:=b1.lt;have gx:=aD hB gl;have gy:=hid (HV.out.below gl);have gr:=hid (HT.out.below gl);have C0:=hid b1.drew;clear b1 HV HT hB;go_region_held3 (fun w'=>w'.cell? ⟨w,0,none⟩=some (.int .i64 33)/\w'.cell? ⟨w,1,none⟩=some (.string nt)/\w'.cell? ⟨w,2,none⟩=some (.slice A nl.length cp)/\w'.cell? ⟨w,3,none⟩=some (.int .i64 np))
   (first|with_reducible exact l6 q2|with_reducible exact l6 (q1.alloc _)|with_reducible exact l6 q1|with_reducible exact l6 C0.out)
   (first
    |(go_at_call 158;refine(fS g ah F.expr ⟨174,#[]⟩ ⟨122,#[]⟩ _ (lG g _) (HF.out.expr.so dM _ gr.out)).mono ?_;rintro e w1⟨h1,rfl,sh1_1,D⟩;have q1:=C0.out.below D gv;have gg:=hid (gr.out.below D))
    |(go_at_call 154;refine(cj g [(h1,(cB ah F.expr))] 33 _ (Nd.mk 33 nt nl np) _ _ 1 rfl (by omega) ((gy.out.below D).below ((gG _ w1).alloc (gA _) _)) HD.out (d9.new _ rfl (an.new w1 _ _)) (ia (sh1_1.below ((gG _ w1).alloc (gA _) _)))).mono ?_;rintro e w2⟨rfl,gb⟩;have q2:=(q1.alloc _).below gb (q1.alloc _).lt))
  (all_goals go_wp2_with fail);(all_goals go_ret);all_goals have I:=aD gx D;exact⟨by rw[HE.out];rfl,(I.alloc I.size _).trans (gb.mono (I.alloc I.size _).size)⟩
 by_cases gj:nk=34
 ·subst gj;clear U J M N O h ga gd gh;have HE:=hid (show aB F (Nd.mk 34 nt nl np)=cA 34 [] (Nd.mk 34 nt nl np)from rfl);(go_enter func123,ntmps123);go_wp2_with fail;refine(cj g [] 34 _ ((Nd.mk 34 nt nl np)) none _ 0 rfl (by omega) HV.out HD.out (.inl ⟨rfl,rfl⟩) (fun x hx=>by cases hx)).mono ?_;rintro e w1⟨rfl,D⟩;have I:=aD hB D;have gg:=hid (cP.below HT.out D);clear D;go_wp2_with fail;go_ret;exact⟨by rw[HE.out];rfl,I⟩
 by_cases gn:nk=35
 ·subst gn;clear U J M N O h ga gd gh gj;have HE:=hid (show aB F (Nd.mk 35 nt nl np)=cA 35 [] (Nd.mk 35 nt nl np)from rfl);(go_enter func123,ntmps123);go_wp2_with fail;refine(cj g [] 35 _ ((Nd.mk 35 nt nl np)) none _ 0 rfl (by omega) HV.out HD.out (.inl ⟨rfl,rfl⟩) (fun x hx=>by cases hx)).mono ?_;rintro e w1⟨rfl,D⟩;have I:=aD hB D;have gg:=hid (cP.below HT.out D);clear D;go_wp2_with fail;go_ret;exact⟨by rw[HE.out];rfl,I⟩
 have HE:=hid (show aB F (Nd.mk nk nt nl np)=bD F (Nd.mk nk nt nl np)by unfold aB;simp only[Nd.kind_mk,or_self,U,J,M,N,O,h,ga,gd,gh,gj,gn,kI]);(have t5:(nk==5)=false:=by simpa using U);(have hn:(nk==26)=false:=by simpa using J);(have hm:(nk==27)=false:=by simpa using M);(have hl:(nk==28)=false:=by simpa using N);(have hk:(nk==29)=false:=by simpa using O);(have hj:(nk==30)=false:=by simpa using h);(have hi:(nk==31)=false:=by simpa using ga);(have hh:(nk==32)=false:=by simpa using gd);(have hg:(nk==33)=false:=by simpa using gh);(have hf:(nk==34)=false:=by simpa using gj);(have he:(nk==35)=false:=by simpa using gn);clear U J M N O h ga gd gh gj gn;(go_enter func123,ntmps123);go_wp2_with fail;refine(E0 g F HF.out _ _ (Nd.mk nk nt nl np) HT.out HV.out HD.out).mono ?_;rintro e w1⟨rfl,D⟩;have I:=aD hB D;clear D;go_wp2_with fail;go_ret;exact⟨by rw[HE.out];rfl,I⟩
theorem R4:∀g:Nat,r6 g (aa g)
 |0=>⟨fun _ _ _ _ _ h=>h.elim,fun _ _ _ _ _ h=>h.elim,fun _ _ _ _ _ h=>h.elim,fun _ _ _ _ _ h=>h.elim,fun _ _ _ _ _ h=>h.elim⟩
 |g+1=>⟨RW g _ (R4 g),LG g _ (R4 g),E0 g _ (R4 g),R3 g _ (R4 g),Tn g _ (R4 g)⟩
theorem pd(c:Int)(w:World):Calls prog 77 #[.int .u8 c] w fun e w'=>e=.returned (.bool (aJ c))/\w=w':=by unfold aJ;cases N:(c==95)<;>cases M:decide (97<=c)<;>cases J:decide (c<=122)<;>cases I:decide (65<=c)<;>cases D:decide (c<=90);all_goals(go_enter func77,ntmps77);go_wp2_with fail;go_ret;exact⟨rfl,rfl⟩
theorem pe(c:Int)(w:World):Calls prog 75 #[.int .u8 c] w fun e w'=>e=.returned (.bool (av c))/\w=w':=by unfold av;cases I:decide (48<=c)<;>cases D:decide (c<=57);all_goals(go_enter func75,ntmps75);go_wp2_with fail;go_ret;exact⟨rfl,rfl⟩
def pf(w:World)(g:Nat)(l:List ByteArray):Prop:=∀i(h:i<l.length),w.cell? ⟨g,i,none⟩=some (.string l[i])
theorem pf.of_blk{w:World}{g:Nat}{t:TypeId}{l:List ByteArray}(h:an w g t (l.map Value.string).toArray):pf w g l:=by intro i hi;have:=h.cell (0+i);rw[kS]at this;rw[this];simp[hi]
theorem pf.of_cells{w:World}{g:Nat}{t:TypeId}{l:List ByteArray}{C:Array Value}(e:C=(l.map Value.string).toArray)(h:an w g t C):pf w g l:=by subst e;exact pf.of_blk h
theorem MN(s:ByteArray)(l:List ByteArray)(g c:Nat)(w:World)(hl:l.length<=1000)(h:pf w g l):
  Calls prog 107 #[s,.slice (some ⟨g,0,none⟩) l.length c] w fun e w'=>e=.returned (.bool (l.any fun x=>decide (s=x)))/\w=w':=by
 have H:=hid h;clear h;(go_enter func107,ntmps107);go_wp2_with fail;go_loopg [5] l.length (fun k u5 wr=>∃i:Nat,i<=l.length/\l.length-i<=k/\u5=.int .i64 (i:Int)/\w=wr/\(l.take i).any (fun x=>decide (s=x))=false)
 case atStart=>exact⟨0,gP _,by omega,rfl,rfl,rfl⟩
 case round=>
  obtain⟨i,hi,hk,rfl,rfl,N⟩:=hrel;by_cases I:i<l.length
  ·(have J:(i:Int)<(l.length:Int):=by omega);(have h0:(0:Int)<=(i:Int):=by omega);have hc:=H.out i I;have U:=hid (show(l.take (i+1)).any (fun x=>decide (s=x))=decide (s=l[i])by rw[gZ I,List.any_append,N];simp);have HA:Hid (decide (s=l[i])=true->l.any (fun x=>decide (s=x))=true):=hid (by intro hd;rw[qV];exact⟨_,gX I,hd⟩);clear N;generalize l[i]=x at *;cases D:decide (s=x)with
   |true=>(have O:(x.toList==s.toList)=true:=by rw[cu];simp at D |-;exact D.symm);have M:=hid (HA.out D);clear D HA U;go_wp2_with fail;go_ret;exact⟨by rw[M.out];rfl,rfl⟩
   |false=>
    (have O:(x.toList==s.toList)=false:=by rw[cu];simp at D |-;exact fun e=>D e.symm);have M:=hid (U.out.trans D);clear D HA U;go_wp2_with fail;go_roundg (l.length-(i+1))
    case measure=>omega
    case rel=>exact⟨i+1,by omega,gA _,by go_num,rfl,M.out⟩
  ·(have J:¬ (i:Int)<(l.length:Int):=by omega);have M:Hid (l.any (fun x=>decide (s=x))=false):=hid (by rw[<-N,jA (by omega)]);clear N;go_wp2_with fail;go_ret;exact⟨by rw[M.out];rfl,rfl⟩
def pG:Array Value:=#[.string ⟨#[98,114,101,97,107]⟩,.string ⟨#[99,111,110,116,105,110,117,101]⟩,.string ⟨#[101,108,115,101]⟩,.string ⟨#[102,111,114]⟩,.string ⟨#[102,117,110,99]⟩,.string ⟨#[105,102]⟩,.string ⟨#[105,109,112,111,114,116]⟩,.string ⟨#[105,110,116,101,114,102,97,99,101]⟩,.string ⟨#[112,97,99,107,97,103,101]⟩,.string ⟨#[114,97,110,103,101]⟩,.string ⟨#[114,101,116,117,114,110]⟩,.string ⟨#[115,116,114,117,99,116]⟩,.string ⟨#[116,121,112,101]⟩,.string ⟨#[118,97,114]⟩]
def Bi:Array Value:=#[.string ⟨#[99,97,115,101]⟩,.string ⟨#[99,104,97,110]⟩,.string ⟨#[99,111,110,115,116]⟩,.string ⟨#[100,101,102,97,117,108,116]⟩,.string ⟨#[100,101,102,101,114]⟩,.string ⟨#[102,97,108,108,116,104,114,111,117,103,104]⟩,.string ⟨#[103,111]⟩,.string ⟨#[103,111,116,111]⟩,.string ⟨#[109,97,112]⟩,.string ⟨#[115,101,108,101,99,116]⟩,.string ⟨#[115,119,105,116,99,104]⟩]
theorem Eu:pG=(rb.map Value.string).toArray:=by kernel_rfl
theorem Ev:Bi=(rc.map Value.string).toArray:=by kernel_rfl
theorem G4(s:ByteArray)(w:World):Calls prog 76 #[s] w fun e w'=>e=.returned (.int .i64 (bM s))/\Below w w w':=by
 have I:∀w':World,Calls prog 107 #[s,.slice (some ⟨w',0,none⟩) 14 14] (w'.alloc (.cells pG 9)) fun e w2=>e=.returned (.bool (rb.any fun x=>decide (s=x)))/\w'.alloc (.cells pG 9)=w2:=
  fun w'=>MN s rb w'.heap.size 14 _ (by decide) (pf.of_cells Eu (an.new w' _ _))
 have D:Calls prog 107 #[s,.slice (some ⟨w.heap.size+1,0,none⟩) 11 11] ((w.alloc (.cells pG 9)).alloc (.cells Bi 9)) fun e w2=>e=.returned (.bool (rc.any fun x=>decide (s=x)))/\(w.alloc (.cells pG 9)).alloc (.cells Bi 9)=w2:=
  MN s rc (w.heap.size+1) 11 _ (by decide) (pf.of_cells Ev (an.new_at (by simp) _ _))
 have I:=hid (I w);have D:=hid D;have hB:=(gG w.heap.size w).alloc (gA _) (.cells pG 9);have J:Hid (bM s=if rb.any (fun x=>decide (s=x))then 1 else if rc.any (fun x=>decide (s=x))then 2 else 0):=hid rfl;(go_enter func76,ntmps76);go_wp2_with fail;refine(I.out).mono ?_;cases q1:rb.any (fun x=>decide (s=x))with
 |true=>rintro e w2⟨rfl,rfl⟩;go_wp2_with fail;go_ret;exact⟨by rw[J.out,q1];rfl,hB⟩
 |false=>
  rintro e w2⟨rfl,rfl⟩;go_wp2_with fail;refine(D.out).mono ?_;cases q2:rc.any (fun x=>decide (s=x))with
  |true=>rintro e w3⟨rfl,rfl⟩;go_wp2_with fail;go_ret;exact⟨by rw[J.out,q1,q2];rfl,hB.alloc (by simp) _⟩
  |false=>rintro e w3⟨rfl,rfl⟩;go_wp2_with fail;go_ret;exact⟨by rw[J.out,q1,q2];rfl,hB.alloc (by simp) _⟩
def cK(s:ByteArray)(i:Nat):Nat:=(s.data.toList.getD i 0).toNat
theorem nG(s:ByteArray)(i:Nat)(D:i<s.size)(W:World):(Instr.index 9 (.string s) (.int .i64 (i:Int))).run prog W=.ok (.int .u8 (cK s i:Int)) W:=by rw[run_index_string (P:=prog) W 9 s .i64 (i:Int) underlying9];simp[cK,D];rfl
theorem ym{c:Int}(h:aJ c=true):av c=false:=by unfold aJ at h;unfold av;simp at h |-;omega
theorem yn(s:ByteArray)(N:0<s.size):cI s.data.toList=true↔av (cK s 0:Int)=false/\∀j,j<s.size->(aJ (cK s j:Int)||av (cK s j:Int))=true:=by
 rw[pQ];constructor
 ·intro h;have M:=h 0 (by simpa using N);refine⟨ym (by simpa[cK]using M),fun j hj=>?_⟩;have D:=h j (by simpa using hj);rw[gI]at D |-;rcases D with D|D
  ·exact .inl D
  ·rw[gB]at D;exact .inr D.2
 ·rintro⟨M,D⟩j hj;have I:=D j (by simpa using hj);rw[gI]at I |-;rcases I with I|I
  ·exact .inl I
  ·rcases kR j with rfl|J
   ·rw[M]at I;cases I
   ·exact .inr (by rw[gB,gK];exact⟨J,I⟩)
theorem G5(s:ByteArray)(hs:s.size<=100)(w:World):Calls prog 44 #[s] w fun e w'=>e=.returned (.bool (dP s))/\Below w w w':=by
 have HW:=hid (fun w=>G4 s w);by_cases h0:s=⟨#[]⟩
 ·subst h0;(go_enter func44,ntmps44);go_wp2_with fail;go_ret;exact⟨by kernel_rfl,gG _ _⟩
 ·have M:0<s.size:=by
   rcases kR s.size with h|h
   ·exact absurd (by apply qU;exact Array.eq_empty_of_size_eq_zero h) h0
   ·exact h
  (have gg:(s.toList==[])=false:=by have:=cu s ⟨#[]⟩;rw[show(⟨#[]⟩:BA).toList=[]by rw[qA]]at this;rw[this];simpa using h0);(have gd:s.toList.isEmpty=false:=by rw[aq];simpa using h0);have HT:=hid (show dP s=(cI s.data.toList&&decide (bM s=0))by unfold dP;rw[jO (show s≠⟨#[]⟩from h0),kK]);have HN:=hid (yn s M);have i0:=fun W=>nG s 0 M W;simp only[Int.natCast_zero]at i0;have F0:=hid (fun w=>pe (cK s 0:Int) w);clear h0;cases N:av (cK s 0:Int)with
  | true=>
   have HR:Hid (dP s=false):=hid (by
    rw[HT.out];cases hn:cI s.data.toList with
    |false=>rfl
    |true=>rw[(HN.out.1 hn).1]at N;cases N)
   rw[N]at F0;clear N;(go_enter func44,ntmps44);go_wp2_with fail;refine(F0.out _).mono ?_;rintro e w1⟨rfl,rfl⟩;go_wp2_with fail;go_ret;exact⟨by rw[HR.out];rfl,gG _ _⟩
  | false=>
   rw[N]at F0;by_cases hz:bM s=0
   ·have HF:=hid N;clear N;rw[hz]at HW;have HR:Hid (dP s=cI s.data.toList):=hid (by rw[HT.out,hz];simp);clear hz;(go_enter func44,ntmps44);go_wp2_with fail;refine(F0.out _).mono ?_;rintro e w1⟨rfl,rfl⟩;go_wp2_with fail;refine(HW.out _).mono ?_;rintro e w1⟨rfl,J⟩;go_wp2_with fail;go_loopg [3] s.size (fun k u3 wr=>∃i:Nat,i<=s.size/\s.size-i<=k/\u3=.int .i64 (i:Int)/\w1=wr/\∀j,j<i->(aJ (cK s j:Int)||av (cK s j:Int))=true)
    case atStart=>exact⟨0,gP _,by omega,rfl,rfl,fun j hj=>by omega⟩
    case round=>
     obtain⟨i,hi,hk,rfl,rfl,O⟩:=hrel;have HA:=hid O;clear O i0;by_cases gb:i<s.size
     ·(have ga:(i:Int)<(s.size:Int):=by omega);have hb:=fun W=>nG s i gb W;have I:=hid (show(aJ (cK s i:Int)||av (cK s i:Int))=true->∀j,j<i+1->(aJ (cK s j:Int)||av (cK s j:Int))=true by
       intro h j hj;by_cases e:j=i
       ·subst e;exact h
       ·exact HA.out j (by omega))
      have D:=hid (show(aJ (cK s i:Int)||av (cK s i:Int))=false->dP s=false by
       intro h;rw[HR.out];cases hn:cI s.data.toList with
       |false=>rfl
       |true=>rw[(HN.out.1 hn).2 i gb]at h;cases h)
      generalize cK s i=c at *;cases hL:aJ (c:Int)with
      |true=>
       have U:=hid (I.out (by rw[hL];rfl));clear I D;go_wp2_with fail;refine(pd _ _).mono ?_;rw[hL];rintro e w2⟨rfl,rfl⟩;go_wp2_with fail;go_roundg (s.size-(i+1))
       case measure=>omega
       case rel=>exact⟨i+1,by omega,gA _,by go_num,rfl,U.out⟩
      | false=>
       cases hG:av (c:Int)with
       |true=>
        have U:=hid (I.out (by rw[hL,hG];rfl));clear I D;go_wp2_with fail;refine(pd _ _).mono ?_;rw[hL];rintro e w2⟨rfl,rfl⟩;go_wp2_with fail;refine(pe _ _).mono ?_;rw[hG];rintro e w2⟨rfl,rfl⟩;go_wp2_with fail;go_roundg (s.size-(i+1))
        case measure=>omega
        case rel=>exact⟨i+1,by omega,gA _,by go_num,rfl,U.out⟩
       |false=>have U:=hid (D.out (by rw[hL,hG];rfl));clear I D;go_wp2_with fail;refine(pd _ _).mono ?_;rw[hL];rintro e w2⟨rfl,rfl⟩;go_wp2_with fail;refine(pe _ _).mono ?_;rw[hG];rintro e w2⟨rfl,rfl⟩;go_wp2_with fail;go_ret;exact⟨by rw[U.out];rfl,J⟩
     ·(have ga:¬ (i:Int)<(s.size:Int):=by omega);have U:Hid (dP s=true):=hid (by rw[HR.out];exact HN.out.2 ⟨HF.out,fun j hj=>HA.out j (by omega)⟩);go_wp2_with fail;go_ret;exact⟨by rw[U.out];rfl,J⟩
   ·have HR:Hid (dP s=false):=hid (by rw[HT.out,gM hz,jU]);(have ge:(bM s != 0)=true:=by simpa using hz);clear hz N;(go_enter func44,ntmps44);go_wp2_with fail;refine(F0.out _).mono ?_;rintro e w1⟨rfl,rfl⟩;go_wp2_with fail;refine(HW.out _).mono ?_;rintro e w1⟨rfl,J⟩;go_wp2_with fail;go_ret;exact⟨by rw[HR.out];rfl,J⟩
end
end Go.Proofs.YtiebcdeafofgdaaGreatDoor
