/-
  Parts of the proof: Tstmt Uname Uname2 Usmall. By an AI agent.
-/
import Derived.Test.YteialcjaiocjdaaGreatDoorJ11
import Derived.Test.YteialcjaiocjdaaGreatDoorJ10
import Derived.Deep.LoopGhost
open Go.Proofs.Tryz
set_option maxRecDepth 100000
set_option maxHeartbeats 8000000
namespace Go.Proofs.YteialcjaiocjdaaGreatDoor
section
open Go.RowKit Go.Lib Go.Proofs
attribute [local go_sem ↓] Go.wp_at_zero Go.wp_at_succ
theorem gI:type_of% @Bool.or_eq_true:=@Bool.or_eq_true
theorem gP:type_of% @decide_eq_false:=@decide_eq_false
theorem gR:type_of% @decide_eq_true_iff:=@decide_eq_true_iff
theorem gU:type_of% @List.take_succ_eq_append_getElem:=@List.take_succ_eq_append_getElem
theorem jA:type_of% @Bool.false_and:=@Bool.false_and
theorem jK:type_of% @decide_eq_true:=@decide_eq_true
theorem jL:type_of% @Bool.and_false:=@Bool.and_false
theorem jP:type_of% @Bool.true_and:=@Bool.true_and
theorem qI:type_of% @ByteArray.ext:=@ByteArray.ext
theorem qK:type_of% @List.any_eq_true:=@List.any_eq_true
theorem GV(a:Array Value)(w:World):(callFunc 157 a).run prog w=.ok (.enter 157 a) w:=by kernel_rfl
theorem FA(a:Array Value)(w:World):(callFunc 158 a).run prog w=.ok (.enter 158 a) w:=by kernel_rfl
theorem FB(a:Array Value)(w:World):(callFunc 159 a).run prog w=.ok (.enter 159 a) w:=by kernel_rfl
theorem LT(a:Array Value)(w:World):(callFunc 160 a).run prog w=.ok (.enter 160 a) w:=by kernel_rfl
theorem GW(a:Array Value)(w:World):(callFunc 206 a).run prog w=.ok (.enter 206 a) w:=by kernel_rfl
theorem LU(g:Nat)(F:cm)(hF:sa g F):iy (g+1) (fy F) 159:=by intro w v n hT hv hd;have N:=hv;obtain⟨A,cp,rfl,hC⟩:=hv.toC;have hB:=(aj w #[n.kind,n.text,.slice A n.kids.length cp,n.pos]).1;have b1:=(aj w #[n.kind,n.text,.slice A n.kids.length cp,n.pos]).2;have HV:=hid (N.below hB);have gd:=hid N;have HT:=hid (hT.below hB);have HF:=hid hF;have HD:=hid hd;clear N hv hC hT hF hd;have HE:=hid (show fy F n=cE 28 [F.expr] (aw ix n)from rfl);(go_enter func159,ntmps159);go_wp2_with fail;refine(cP _ _ n HV.out ⟨205,#[]⟩ ix (O6 _) HD.out.txt).mono ?_;rintro e w1⟨v1,rfl,O,M⟩;have ga:=au hB M;have U:=hid (dw.below HT.out M);have gb:=hid O;clear M O;go_wp2_with fail;have D:=(gH w1.heap.size w1).alloc (gC _) (.cells #[.func (.func 101) #[] #[]] 39);have I:=au ga D;refine(cx g [(⟨101,#[]⟩,F.expr)] 28 v1 (aw ix n) _ _ 1 rfl (by omega) (gb.out.below D) HD.out.named (ei.new _ rfl (aq.new w1 _ _)) (iz (HF.out.expr.so dV _ (dw.below U.out D)))).mono ?_;rintro e w2⟨rfl,J⟩;have h:=au I J;have ge:=hid (dw.below (dw.below U.out D) J);clear D I;clear J;go_wp2_with fail;go_ret;exact⟨by rw[HE.out];rfl,h⟩
theorem FC(g:Nat)(F:cm)(hF:sa g F):iy (g+1) (dz F) 157:=by intro w v n hT hv hd;have N:=hv;obtain⟨A,cp,rfl,hC⟩:=hv.toC;have hB:=(aj w #[n.kind,n.text,.slice A n.kids.length cp,n.pos]).1;have b1:=(aj w #[n.kind,n.text,.slice A n.kids.length cp,n.pos]).2;have HV:=hid (N.below hB);have gd:=hid N;have HT:=hid (hT.below hB);have HF:=hid hF;have HD:=hid hd;clear N hv hC hT hF hd;have HE:=hid (show dz F n=cE 26 [F.expr] (aw cj n)from rfl);(go_enter func157,ntmps157);go_wp2_with fail;refine(cP _ _ n HV.out ⟨204,#[]⟩ cj (Ll _) HD.out.txt).mono ?_;rintro e w1⟨v1,rfl,O,M⟩;have ga:=au hB M;have U:=hid (dw.below HT.out M);have gb:=hid O;clear M O;go_wp2_with fail;have D:=(gH w1.heap.size w1).alloc (gC _) (.cells #[.func (.func 101) #[] #[]] 39);have I:=au ga D;refine(cx g [(⟨101,#[]⟩,F.expr)] 26 v1 (aw cj n) _ _ 1 rfl (by omega) (gb.out.below D) HD.out.named (ei.new _ rfl (aq.new w1 _ _)) (iz (HF.out.expr.so dV _ (dw.below U.out D)))).mono ?_;rintro e w2⟨rfl,J⟩;have h:=au I J;have ge:=hid (dw.below (dw.below U.out D) J);clear D I;clear J;go_wp2_with fail;go_ret;exact⟨by rw[HE.out];rfl,h⟩
theorem LV(g:Nat)(F:cm)(hF:sa g F):iy (g+1) (fz F) 158:=by intro w v n U hv hd;have M:=hv;obtain⟨A,cp,rfl,hC⟩:=hv.toC;have hB:=(aj w #[n.kind,n.text,.slice A n.kids.length cp,n.pos]).1;have b1:=(aj w #[n.kind,n.text,.slice A n.kids.length cp,n.pos]).2;have HV:=hid (M.below hB);have ga:=hid M;have O:=hid (U.below hB);have h:=hid hF;have HD:=hid hd;clear M hv hC U hF hd;have HE:Hid (fz F n=cE 27 [F.expr,F.expr] n):=hid rfl;(go_enter func158,ntmps158);go_wp2_with fail;have D:=(gH (w.alloc (.cells #[n.kind,n.text,.slice A n.kids.length cp,n.pos] 24)).heap.size (w.alloc (.cells #[n.kind,n.text,.slice A n.kids.length cp,n.pos] 24))).alloc (gC _) (.cells #[.func (.func 101) #[] #[],.func (.func 101) #[] #[]] 39);have I:=au hB D;refine(cx g [(⟨101,#[]⟩,F.expr),(⟨101,#[]⟩,F.expr)] 27 _ (n) _ _ 2 rfl (by omega) (HV.out.below D) HD.out (ei.new _ rfl (aq.new_at (n:=w.heap.size+1) (by simp) _ _)) (lX (h.out.expr.so dV _ (dw.below O.out D)) (h.out.expr.so dV _ (dw.below O.out D)))).mono ?_;rintro e w1⟨rfl,J⟩;have N:=au I J;have gb:=hid (dw.below (dw.below O.out D) J);clear D I;clear J;go_wp2_with fail;go_ret;exact⟨by rw[HE.out];rfl,N⟩
theorem Pl(g:Nat)(F:cm)(hF:sa g F):iy g (iS F) 206:=by
 intro w v n J hv hd;have I:=hv;obtain⟨A,cp,rfl,N⟩:=hv.toC;have hB:=(aj w #[n.kind,n.text,.slice A n.kids.length cp,n.pos]).1;have O:=hid (hF.expr _ _ n (J.below hB) (I.below hB) hd);(have hE:iS F n=(n.kind==21&&F.expr n):=by unfold iS;rw[fZ]);rw[hE];clear hE I hv N J hF hd;generalize F.expr n=q at *;generalize n.kind=k at *;cases M:(k==21);all_goals
  (go_enter func206,ntmps206);go_wp2_with fail;try
   rw[kO]at M
   subst M
   refine O.out.mono ?_
   rintro e w1⟨rfl,D⟩
   replace hB:=au hB D
   clear D
   go_wp2_with fail
  go_ret;exact⟨rfl,hB⟩
theorem LW(g:Nat)(F:cm)(hF:sa g F):iy (g+1) (fd F) 160:=by intro w v n O hv hd;have M:=hv;obtain⟨A,cp,rfl,h⟩:=hv.toC;have hB:=(aj w #[n.kind,n.text,.slice A n.kids.length cp,n.pos]).1;have b1:=(aj w #[n.kind,n.text,.slice A n.kids.length cp,n.pos]).2;have HV:=hid (M.below hB);have ga:=hid M;have U:=hid (O.below hB);have HF:=hid hF;have HD:=hid hd;clear M hv h O hF hd;have HE:Hid (fd F n=cE 29 [iS F] n):=hid rfl;(go_enter func160,ntmps160);go_wp2_with fail;have D:=(gH (w.alloc (.cells #[n.kind,n.text,.slice A n.kids.length cp,n.pos] 24)).heap.size (w.alloc (.cells #[n.kind,n.text,.slice A n.kids.length cp,n.pos] 24))).alloc (gC _) (.cells #[.func (.func 206) #[] #[]] 39);have I:=au hB D;refine(cx g [(⟨206,#[]⟩,(iS F))] 29 _ (n) _ _ 1 rfl (by omega) (HV.out.below D) HD.out (ei.new _ rfl (aq.new_at (n:=w.heap.size+1) (by simp) _ _)) (iz ((Pl g F HF.out).so GW _ (dw.below U.out D)))).mono ?_;rintro e w1⟨rfl,J⟩;have N:=au I J;have gb:=hid (dw.below (dw.below U.out D) J);clear D I;clear J;go_wp2_with fail;go_ret;exact⟨by rw[HE.out];rfl,N⟩
theorem FD(g:Nat)(F:cm)(hF:sa g F):iy (g+1) (bI F) 145:=by
 intro w v n J hv hd;have D:=hv;obtain⟨A,cp,rfl,N⟩:=hv.toC;have hB:=(aj w #[n.kind,n.text,.slice A n.kids.length cp,n.pos]).1;have b1:=(aj w #[n.kind,n.text,.slice A n.kids.length cp,n.pos]).2;have U:=hid (D.below hB);have O:=hid D;have h:=hid (J.below hB);have HF:=hid hF;have M:=hid hd;clear D hv N J hF hd;have HI:=hid (lj g (F.stmt) ⟨102,#[]⟩ A cp n.kids _ U.out.kidsV M.out.2 M.out.1.1 (HF.out.stmt.so LK _ h.out));(have hE:bI F n=((n.kind==36)&&(n.text.toList.isEmpty&&n.kids.all (F.stmt))):=by unfold bI;rw[ao,fZ]);rw[hE];clear hE;generalize n.kids.all (F.stmt)=q at *;cases h0:(n.kind==36)<;>cases h1:n.text.toList.isEmpty;all_goals
  (go_enter func145,ntmps145);go_wp2_with fail;try
   refine HI.out.mono ?_
   rintro e w1⟨rfl,I⟩
   replace hB:=au hB I
   clear I
   go_wp2_with fail
  go_ret;exact⟨rfl,hB⟩
theorem TN(g:Nat)(F:cm)(hF:sa g F):iy (g+1) (AQ F) 161:=by
 intro w v n hT hv hd;have N:=hv;obtain⟨A,cp,rfl,hC⟩:=hv.toC;have hB:=(aj w #[n.kind,n.text,.slice A n.kids.length cp,n.pos]).1;have b1:=(aj w #[n.kind,n.text,.slice A n.kids.length cp,n.pos]).2;have HV:=hid (N.below hB);have gh:=hid N;have HT:=hid (hT.below hB);have HF:=hid hF;have HD:=hid hd;clear N hv hC hT hF hd;have HE:Hid (AQ F n=cE 30 [F.expr,F.block,ck (ck an F.block) F.ifS] n):=hid rfl;(go_enter func161,ntmps161);go_wp2_with fail;generalize hW:w.alloc (.cells #[n.kind,n.text,.slice A n.kids.length cp,n.pos] 24)=W at *;clear hW;have M:Below W W W.drew:=(gH _ _).drew;have gb:=b1.lt;have ge:=au hB M;have gg:=hid (HV.out.below M);have ga:=hid (HT.out.below M);have C0:=hid b1.drew;clear b1 HV HT hB;go_region_held3 (fun w'=>w'.cell? ⟨w,0,none⟩=some (.int .i64 n.kind)/\w'.cell? ⟨w,1,none⟩=some (.string n.text)/\w'.cell? ⟨w,2,none⟩=some (.slice A n.kids.length cp)/\w'.cell? ⟨w,3,none⟩=some (.int .i64 n.pos))
  (first|with_reducible exact mi q3|with_reducible exact mi (q2.alloc _)|with_reducible exact mi q2|with_reducible exact mi q1|with_reducible exact mi C0.out)
  (first
   |(go_at_call 146;refine(ip g an F.block ⟨162,#[]⟩ ⟨145,#[]⟩ _ (lW g _) (HF.out.block.so mm _ ga.out)).mono ?_;rintro e w1⟨h1,rfl,sh1_1,I⟩;have q1:=C0.out.below I gb;have h:=hid (ga.out.below I))
   |(go_at_call 146;refine(ip g (ck an F.block) F.ifS h1 ⟨161,#[]⟩ _ (sh1_1) (HF.out.ifS.so Sl _ h.out)).mono ?_;rintro e w2⟨h2,rfl,sh2_2,D⟩;have q2:=q1.bl D;have U:=hid (h.out.below D);have sh1_2:=sh1_1.below D)
   |(go_at_call 142;refine(cx g [(⟨101,#[]⟩,F.expr),(⟨145,#[]⟩,F.block),(h2,(ck (ck an F.block) F.ifS))] 30 _ n _ _ 3 rfl (by omega) (((gg.out.below I).below D).below ((gH _ w2).alloc (gC _) _)) HD.out (ei.new _ rfl (aq.new w2 _ _)) (uO (HF.out.expr.so dV _ (dw.below U.out ((gH _ w2).alloc (gC _) _))) (HF.out.block.so mm _ (dw.below U.out ((gH _ w2).alloc (gC _) _))) (sh2_2.below ((gH _ w2).alloc (gC _) _)))).mono ?_;rintro e w3⟨rfl,O⟩;have q3:=(q2.alloc _).below O (q2.alloc _).lt))
 (all_goals go_wp2_with fail);(all_goals go_ret);all_goals have gd:=au ge I;have J:=au gd D;exact⟨by rw[HE.out];rfl,(J.alloc J.size _).trans (O.mono (J.alloc J.size _).size)⟩
theorem Ss(g:Nat)(F:cm)(hF:sa g F):iy (g+1) (aE F) 102:=by
 intro w v n hT hv hd;obtain⟨nk,nt,nl,np⟩:=n;have gs:=hv;obtain⟨A,cp,rfl,hC⟩:=hv.toC;simp only[Nd.kind_mk,Nd.text_mk,Nd.kids_mk,Nd.pos_mk]at gs |-;have hB:=(aj w #[.int .i64 nk,.string nt,.slice A nl.length cp,.int .i64 np]).1;have b1:=(aj w #[.int .i64 nk,.string nt,.slice A nl.length cp,.int .i64 np]).2;have HV:=hid (gs.below hB);have ho:=hid gs;have HT:=hid (hT.below hB);have HF:=hid hF;have HD:=hid hd;clear gs hv hC hT hF hd;by_cases U:nk=5
 ·subst U;have HE:=hid (show aE F (Nd.mk 5 nt nl np)=iL F (Nd.mk 5 nt nl np)from rfl);(go_enter func102,ntmps102);go_wp2_with fail;refine(Fy g F HF.out _ _ (Nd.mk 5 nt nl np) HT.out HV.out HD.out).mono ?_;rintro e w1⟨rfl,D⟩;have I:=au hB D;clear D;go_wp2_with fail;go_ret;exact⟨by rw[HE.out];rfl,I⟩
 by_cases J:nk=26
 ·subst J;clear U;have HE:=hid (show aE F (Nd.mk 26 nt nl np)=dz F (Nd.mk 26 nt nl np)from rfl);(go_enter func102,ntmps102);go_wp2_with fail;refine(FC g F HF.out _ _ (Nd.mk 26 nt nl np) HT.out HV.out HD.out).mono ?_;rintro e w1⟨rfl,D⟩;have I:=au hB D;clear D;go_wp2_with fail;go_ret;exact⟨by rw[HE.out];rfl,I⟩
 by_cases M:nk=27
 ·subst M;clear U J;have HE:=hid (show aE F (Nd.mk 27 nt nl np)=fz F (Nd.mk 27 nt nl np)from rfl);(go_enter func102,ntmps102);go_wp2_with fail;refine(LV g F HF.out _ _ (Nd.mk 27 nt nl np) HT.out HV.out HD.out).mono ?_;rintro e w1⟨rfl,D⟩;have I:=au hB D;clear D;go_wp2_with fail;go_ret;exact⟨by rw[HE.out];rfl,I⟩
 by_cases N:nk=28
 ·subst N;clear U J M;have HE:=hid (show aE F (Nd.mk 28 nt nl np)=fy F (Nd.mk 28 nt nl np)from rfl);(go_enter func102,ntmps102);go_wp2_with fail;refine(LU g F HF.out _ _ (Nd.mk 28 nt nl np) HT.out HV.out HD.out).mono ?_;rintro e w1⟨rfl,D⟩;have I:=au hB D;clear D;go_wp2_with fail;go_ret;exact⟨by rw[HE.out];rfl,I⟩
 by_cases O:nk=29
 ·subst O;clear U J M N;have HE:=hid (show aE F (Nd.mk 29 nt nl np)=fd F (Nd.mk 29 nt nl np)from rfl);(go_enter func102,ntmps102);go_wp2_with fail;refine(LW g F HF.out _ _ (Nd.mk 29 nt nl np) HT.out HV.out HD.out).mono ?_;rintro e w1⟨rfl,D⟩;have I:=au hB D;clear D;go_wp2_with fail;go_ret;exact⟨by rw[HE.out];rfl,I⟩
 by_cases h:nk=30
 ·subst h;clear U J M N O;have HE:=hid (show aE F (Nd.mk 30 nt nl np)=AQ F (Nd.mk 30 nt nl np)from rfl);(go_enter func102,ntmps102);go_wp2_with fail;refine(TN g F HF.out _ _ (Nd.mk 30 nt nl np) HT.out HV.out HD.out).mono ?_;rintro e w1⟨rfl,D⟩;have I:=au hB D;clear D;go_wp2_with fail;go_ret;exact⟨by rw[HE.out];rfl,I⟩
 by_cases ga:nk=31
 ·subst ga;clear U J M N O h;have HE:=hid (show aE F (Nd.mk 31 nt nl np)=cE 31 [ck (ck an (dz F)) (ck (fz F) (fy F)),ck an F.expr,ck (ck an (fz F)) (ck (fy F) (fd F)),F.block] (Nd.mk 31 nt nl np)from rfl);(go_enter func102,ntmps102);go_wp2_with fail;generalize hW:w.alloc (.cells #[.int .i64 31,.string nt,.slice A nl.length cp,.int .i64 np] 24)=W at *;clear hW;have gl:Below W W W.drew:=(gH _ _).drew;have gv:=b1.lt;have gx:=au hB gl;have gy:=hid (HV.out.below gl);have gr:=hid (HT.out.below gl);have C0:=hid b1.drew;clear b1 HV HT hB;go_region_held3 (fun w'=>w'.cell? ⟨w,0,none⟩=some (.int .i64 31)/\w'.cell? ⟨w,1,none⟩=some (.string nt)/\w'.cell? ⟨w,2,none⟩=some (.slice A nl.length cp)/\w'.cell? ⟨w,3,none⟩=some (.int .i64 np))
   (first|with_reducible exact mi q8|with_reducible exact mi (q7.alloc _)|with_reducible exact mi q7|with_reducible exact mi q6|with_reducible exact mi q5|with_reducible exact mi q4|with_reducible exact mi q3|with_reducible exact mi q2|with_reducible exact mi q1|with_reducible exact mi C0.out)
   (first
    |(go_at_call 146;refine(ip g an (dz F) ⟨162,#[]⟩ ⟨157,#[]⟩ _ (lW g _) (((FC g F HF.out).le fun _=>df.succ).so GV _ gr.out)).mono ?_;rintro e w1⟨h1,rfl,sh1_1,D⟩;have q1:=C0.out.below D gv;have gg:=hid (gr.out.below D))
    |(go_at_call 146;refine(ip g (fz F) (fy F) ⟨158,#[]⟩ ⟨159,#[]⟩ _ (((LV g F HF.out).le fun _=>df.succ).so FA _ gg.out) (((LU g F HF.out).le fun _=>df.succ).so FB _ gg.out)).mono ?_;rintro e w2⟨h2,rfl,sh2_2,gb⟩;have q2:=q1.bl gb;have g4:=hid (gg.out.below gb);have sh1_2:=sh1_1.below gb)
    |(go_at_call 146;refine(ip g (ck an (dz F)) (ck (fz F) (fy F)) h1 h2 _ (sh1_2) (sh2_2)).mono ?_;rintro e w3⟨h3,rfl,sh3_3,gq⟩;have q3:=q2.bl gq;have g3:=hid (g4.out.below gq);have sh1_3:=sh1_2.below gq;have sh2_3:=sh2_2.below gq)
    |(go_at_call 146;refine(ip g an F.expr ⟨162,#[]⟩ ⟨101,#[]⟩ _ (lW g _) (HF.out.expr.so dV _ g3.out)).mono ?_;rintro e w4⟨h4,rfl,sh4_4,gm⟩;have q4:=q3.bl gm;have g2:=hid (g3.out.below gm);have sh1_4:=sh1_3.below gm;have sh2_4:=sh2_3.below gm;have sh3_4:=sh3_3.below gm)
    |(go_at_call 146;refine(ip g an (fz F) ⟨162,#[]⟩ ⟨158,#[]⟩ _ (lW g _) (((LV g F HF.out).le fun _=>df.succ).so FA _ g2.out)).mono ?_;rintro e w5⟨h5,rfl,sh5_5,gk⟩;have q5:=q4.bl gk;have gz:=hid (g2.out.below gk);have sh1_5:=sh1_4.below gk;have sh2_5:=sh2_4.below gk;have sh3_5:=sh3_4.below gk;have sh4_5:=sh4_4.below gk)
    |(go_at_call 146;refine(ip g (fy F) (fd F) ⟨159,#[]⟩ ⟨160,#[]⟩ _ (((LU g F HF.out).le fun _=>df.succ).so FB _ gz.out) (((LW g F HF.out).le fun _=>df.succ).so LT _ gz.out)).mono ?_;rintro e w6⟨h6,rfl,sh6_6,gi⟩;have q6:=q5.bl gi;have hc:=hid (gz.out.below gi);have sh1_6:=sh1_5.below gi;have sh2_6:=sh2_5.below gi;have sh3_6:=sh3_5.below gi;have sh4_6:=sh4_5.below gi;have sh5_6:=sh5_5.below gi)
    |(go_at_call 146;refine(ip g (ck an (fz F)) (ck (fy F) (fd F)) h5 h6 _ (sh5_6) (sh6_6)).mono ?_;rintro e w7⟨h7,rfl,sh7_7,ge⟩;have q7:=q6.bl ge;have ha:=hid (hc.out.below ge);have sh1_7:=sh1_6.below ge;have sh2_7:=sh2_6.below ge;have sh3_7:=sh3_6.below ge;have sh4_7:=sh4_6.below ge;have sh5_7:=sh5_6.below ge;have sh6_7:=sh6_6.below ge)
    |(go_at_call 142;refine(cx g [(h3,(ck (ck an (dz F)) (ck (fz F) (fy F)))),(h4,(ck an F.expr)),(h7,(ck (ck an (fz F)) (ck (fy F) (fd F)))),(⟨145,#[]⟩,F.block)] 31 _ (Nd.mk 31 nt nl np) _ _ 4 rfl (by omega) ((((((((gy.out.below D).below gb).below gq).below gm).below gk).below gi).below ge).below ((gH _ w7).alloc (gC _) _)) HD.out (ei.new _ rfl (aq.new w7 _ _)) (LO (sh3_7.below ((gH _ w7).alloc (gC _) _)) (sh4_7.below ((gH _ w7).alloc (gC _) _)) (sh7_7.below ((gH _ w7).alloc (gC _) _)) (HF.out.block.so mm _ (dw.below ha.out ((gH _ w7).alloc (gC _) _))))).mono ?_;rintro e w8⟨rfl,g1⟩;have q8:=(q7.alloc _).below g1 (q7.alloc _).lt))
  (all_goals go_wp2_with fail);(all_goals go_ret);all_goals have I:=au gx D;have gw:=au I gb;have g8:=au gw gq;have g7:=au g8 gm;have g6:=au g7 gk;have g5:=au g6 gi;have gt:=au g5 ge;exact⟨by rw[HE.out];rfl,(gt.alloc gt.size _).trans (g1.mono (gt.alloc gt.size _).size)⟩
 by_cases gd:nk=32
 ·subst gd;clear U J M N O h ga;have HE:=hid (show aE F (Nd.mk 32 nt nl np)=cE 32 [F.expr,F.block] (aw bR (Nd.mk 32 nt nl np))from rfl);(go_enter func102,ntmps102);go_wp2_with fail;refine(cP _ _ (Nd.mk 32 nt nl np) HV.out ⟨163,#[]⟩ bR (GE _ HT.out) HD.out.txt).mono ?_;rintro e w1⟨v1,rfl,g0,D⟩;have I:=au hB D;have gg:=hid (dw.below HT.out D);have g9:=hid g0;clear D g0;go_wp2_with fail;have gp:=(gH w1.heap.size w1).alloc (gC _) (.cells #[.func (.func 101) #[] #[],.func (.func 145) #[] #[]] 39);have gu:=au I gp;refine(cx g [(⟨101,#[]⟩,F.expr),(⟨145,#[]⟩,F.block)] 32 v1 (aw bR (Nd.mk 32 nt nl np)) _ _ 2 rfl (by omega) (g9.out.below gp) HD.out.named (ei.new _ rfl (aq.new w1 _ _)) (lX (HF.out.expr.so dV _ (dw.below gg.out gp)) (HF.out.block.so mm _ (dw.below gg.out gp)))).mono ?_;rintro e w2⟨rfl,gb⟩;have gw:=au gu gb;have g4:=hid (dw.below (dw.below gg.out gp) gb);clear gp gu;clear gb;go_wp2_with fail;go_ret;exact⟨by rw[HE.out];rfl,gw⟩
 by_cases gh:nk=33
 ·subst gh;clear U J M N O h ga gd;have HE:=hid (show aE F (Nd.mk 33 nt nl np)=cE 33 [ck an F.expr] (Nd.mk 33 nt nl np)from rfl);(go_enter func102,ntmps102);go_wp2_with fail;generalize hW:w.alloc (.cells #[.int .i64 33,.string nt,.slice A nl.length cp,.int .i64 np] 24)=W at *;clear hW;have gl:Below W W W.drew:=(gH _ _).drew;have gv:=b1.lt;have gx:=au hB gl;have gy:=hid (HV.out.below gl);have gr:=hid (HT.out.below gl);have C0:=hid b1.drew;clear b1 HV HT hB;go_region_held3 (fun w'=>w'.cell? ⟨w,0,none⟩=some (.int .i64 33)/\w'.cell? ⟨w,1,none⟩=some (.string nt)/\w'.cell? ⟨w,2,none⟩=some (.slice A nl.length cp)/\w'.cell? ⟨w,3,none⟩=some (.int .i64 np))
   (first|with_reducible exact mi q2|with_reducible exact mi (q1.alloc _)|with_reducible exact mi q1|with_reducible exact mi C0.out)
   (first
    |(go_at_call 146;refine(ip g an F.expr ⟨162,#[]⟩ ⟨101,#[]⟩ _ (lW g _) (HF.out.expr.so dV _ gr.out)).mono ?_;rintro e w1⟨h1,rfl,sh1_1,D⟩;have q1:=C0.out.below D gv;have gg:=hid (gr.out.below D))
    |(go_at_call 142;refine(cx g [(h1,(ck an F.expr))] 33 _ (Nd.mk 33 nt nl np) _ _ 1 rfl (by omega) ((gy.out.below D).below ((gH _ w1).alloc (gC _) _)) HD.out (ei.new _ rfl (aq.new w1 _ _)) (iz (sh1_1.below ((gH _ w1).alloc (gC _) _)))).mono ?_;rintro e w2⟨rfl,gb⟩;have q2:=(q1.alloc _).below gb (q1.alloc _).lt))
  (all_goals go_wp2_with fail);(all_goals go_ret);all_goals have I:=au gx D;exact⟨by rw[HE.out];rfl,(I.alloc I.size _).trans (gb.mono (I.alloc I.size _).size)⟩
 by_cases gj:nk=34
 ·subst gj;clear U J M N O h ga gd gh;have HE:=hid (show aE F (Nd.mk 34 nt nl np)=cE 34 [] (Nd.mk 34 nt nl np)from rfl);(go_enter func102,ntmps102);go_wp2_with fail;refine(cx g [] 34 _ ((Nd.mk 34 nt nl np)) none _ 0 rfl (by omega) HV.out HD.out (.inl ⟨rfl,rfl⟩) (fun x hx=>by cases hx)).mono ?_;rintro e w1⟨rfl,D⟩;have I:=au hB D;have gg:=hid (dw.below HT.out D);clear D;go_wp2_with fail;go_ret;exact⟨by rw[HE.out];rfl,I⟩
 by_cases gn:nk=35
 ·subst gn;clear U J M N O h ga gd gh gj;have HE:=hid (show aE F (Nd.mk 35 nt nl np)=cE 35 [] (Nd.mk 35 nt nl np)from rfl);(go_enter func102,ntmps102);go_wp2_with fail;refine(cx g [] 35 _ ((Nd.mk 35 nt nl np)) none _ 0 rfl (by omega) HV.out HD.out (.inl ⟨rfl,rfl⟩) (fun x hx=>by cases hx)).mono ?_;rintro e w1⟨rfl,D⟩;have I:=au hB D;have gg:=hid (dw.below HT.out D);clear D;go_wp2_with fail;go_ret;exact⟨by rw[HE.out];rfl,I⟩
 have HE:=hid (show aE F (Nd.mk nk nt nl np)=bI F (Nd.mk nk nt nl np)by unfold aE;simp only[Nd.kind_mk,or_self,U,J,M,N,O,h,ga,gd,gh,gj,gn,jW]);(have t5:(nk==5)=false:=by simpa using U);(have hn:(nk==26)=false:=by simpa using J);(have hm:(nk==27)=false:=by simpa using M);(have hl:(nk==28)=false:=by simpa using N);(have hk:(nk==29)=false:=by simpa using O);(have hj:(nk==30)=false:=by simpa using h);(have hi:(nk==31)=false:=by simpa using ga);(have hh:(nk==32)=false:=by simpa using gd);(have hg:(nk==33)=false:=by simpa using gh);(have hf:(nk==34)=false:=by simpa using gj);(have he:(nk==35)=false:=by simpa using gn);clear U J M N O h ga gd gh gj gn;(go_enter func102,ntmps102);go_wp2_with fail;refine(FD g F HF.out _ _ (Nd.mk nk nt nl np) HT.out HV.out HD.out).mono ?_;rintro e w1⟨rfl,D⟩;have I:=au hB D;clear D;go_wp2_with fail;go_ret;exact⟨by rw[HE.out];rfl,I⟩
theorem Su:∀g:Nat,sa g (aa g)
 |0=>⟨fun _ _ _ _ _ h=>h.elim,fun _ _ _ _ _ h=>h.elim,fun _ _ _ _ _ h=>h.elim,fun _ _ _ _ _ h=>h.elim,fun _ _ _ _ _ h=>h.elim⟩
 |g+1=>⟨Sn g _ (Su g),LS g _ (Su g),FD g _ (Su g),Ss g _ (Su g),TN g _ (Su g)⟩
theorem pw(c:Int)(w:World):Calls prog 64 #[.int .u8 c] w fun e w'=>e=.returned (.bool (aL c))/\w=w':=by unfold aL;cases N:(c==95)<;>cases M:decide (97<=c)<;>cases J:decide (c<=122)<;>cases I:decide (65<=c)<;>cases D:decide (c<=90);all_goals(go_enter func64,ntmps64);go_wp2_with fail;go_ret;exact⟨rfl,rfl⟩
theorem px(c:Int)(w:World):Calls prog 62 #[.int .u8 c] w fun e w'=>e=.returned (.bool (aC c))/\w=w':=by unfold aC;cases I:decide (48<=c)<;>cases D:decide (c<=57);all_goals(go_enter func62,ntmps62);go_wp2_with fail;go_ret;exact⟨rfl,rfl⟩
def py(w:World)(g:Nat)(l:List ByteArray):Prop:=∀i(h:i<l.length),w.cell? ⟨g,i,none⟩=some (.string l[i])
theorem py.of_blk{w:World}{g:Nat}{t:TypeId}{l:List ByteArray}(h:aq w g t (l.map Value.string).toArray):py w g l:=by intro i hi;have:=h.cell (0+i);rw[kR]at this;rw[this];simp[hi]
theorem py.of_cells{w:World}{g:Nat}{t:TypeId}{l:List ByteArray}{C:Array Value}(e:C=(l.map Value.string).toArray)(h:aq w g t C):py w g l:=by subst e;exact py.of_blk h
theorem M4(s:ByteArray)(l:List ByteArray)(g c:Nat)(w:World)(hl:l.length<=1000)(h:py w g l):
  Calls prog 82 #[s,.slice (some ⟨g,0,none⟩) l.length c] w fun e w'=>e=.returned (.bool (l.any fun x=>decide (s=x)))/\w=w':=by
 have H:=hid h;clear h;(go_enter func82,ntmps82);go_wp2_with fail;go_loopg [5] l.length (fun k u5 wr=>∃i:Nat,i<=l.length/\l.length-i<=k/\u5=.int .i64 (i:Int)/\w=wr/\(l.take i).any (fun x=>decide (s=x))=false)
 case atStart=>exact⟨0,gQ _,by omega,rfl,rfl,rfl⟩
 case round=>
  obtain⟨i,hi,hk,rfl,rfl,N⟩:=hrel;by_cases I:i<l.length
  ·(have J:(i:Int)<(l.length:Int):=by omega);(have h0:(0:Int)<=(i:Int):=by omega);have hc:=H.out i I;have U:=hid (show(l.take (i+1)).any (fun x=>decide (s=x))=decide (s=l[i])by rw[gU I,List.any_append,N];simp);have HA:Hid (decide (s=l[i])=true->l.any (fun x=>decide (s=x))=true):=hid (by intro hd;rw[qK];exact⟨_,gS I,hd⟩);clear N;generalize l[i]=x at *;cases D:decide (s=x)with
   |true=>(have O:(x.toList==s.toList)=true:=by rw[cz];simp at D |-;exact D.symm);have M:=hid (HA.out D);clear D HA U;go_wp2_with fail;go_ret;exact⟨by rw[M.out];rfl,rfl⟩
   |false=>
    (have O:(x.toList==s.toList)=false:=by rw[cz];simp at D |-;exact fun e=>D e.symm);have M:=hid (U.out.trans D);clear D HA U;go_wp2_with fail;go_roundg (l.length-(i+1))
    case measure=>omega
    case rel=>exact⟨i+1,by omega,gC _,by go_num,rfl,M.out⟩
  ·(have J:¬ (i:Int)<(l.length:Int):=by omega);have M:Hid (l.any (fun x=>decide (s=x))=false):=hid (by rw[<-N,gV (by omega)]);clear N;go_wp2_with fail;go_ret;exact⟨by rw[M.out];rfl,rfl⟩
def pQ:Array Value:=#[.string ⟨#[98,114,101,97,107]⟩,.string ⟨#[99,111,110,116,105,110,117,101]⟩,.string ⟨#[101,108,115,101]⟩,.string ⟨#[102,111,114]⟩,.string ⟨#[102,117,110,99]⟩,.string ⟨#[105,102]⟩,.string ⟨#[105,109,112,111,114,116]⟩,.string ⟨#[105,110,116,101,114,102,97,99,101]⟩,.string ⟨#[112,97,99,107,97,103,101]⟩,.string ⟨#[114,97,110,103,101]⟩,.string ⟨#[114,101,116,117,114,110]⟩,.string ⟨#[115,116,114,117,99,116]⟩,.string ⟨#[116,121,112,101]⟩,.string ⟨#[118,97,114]⟩]
def BJ:Array Value:=#[.string ⟨#[99,97,115,101]⟩,.string ⟨#[99,104,97,110]⟩,.string ⟨#[99,111,110,115,116]⟩,.string ⟨#[100,101,102,97,117,108,116]⟩,.string ⟨#[100,101,102,101,114]⟩,.string ⟨#[102,97,108,108,116,104,114,111,117,103,104]⟩,.string ⟨#[103,111]⟩,.string ⟨#[103,111,116,111]⟩,.string ⟨#[109,97,112]⟩,.string ⟨#[115,101,108,101,99,116]⟩,.string ⟨#[115,119,105,116,99,104]⟩]
theorem EM:pQ=(rl.map Value.string).toArray:=by kernel_rfl
theorem EN:BJ=(rm.map Value.string).toArray:=by kernel_rfl
theorem Iu(s:ByteArray)(w:World):Calls prog 63 #[s] w fun e w'=>e=.returned (.int .i64 (bW s))/\Below w w w':=by
 have I:∀w':World,Calls prog 82 #[s,.slice (some ⟨w',0,none⟩) 14 14] (w'.alloc (.cells pQ 9)) fun e w2=>e=.returned (.bool (rl.any fun x=>decide (s=x)))/\w'.alloc (.cells pQ 9)=w2:=
  fun w'=>M4 s rl w'.heap.size 14 _ (by decide) (py.of_cells EM (aq.new w' _ _))
 have D:Calls prog 82 #[s,.slice (some ⟨w.heap.size+1,0,none⟩) 11 11] ((w.alloc (.cells pQ 9)).alloc (.cells BJ 9)) fun e w2=>e=.returned (.bool (rm.any fun x=>decide (s=x)))/\(w.alloc (.cells pQ 9)).alloc (.cells BJ 9)=w2:=
  M4 s rm (w.heap.size+1) 11 _ (by decide) (py.of_cells EN (aq.new_at (by simp) _ _))
 have I:=hid (I w);have D:=hid D;have hB:=(gH w.heap.size w).alloc (gC _) (.cells pQ 9);have J:Hid (bW s=if rl.any (fun x=>decide (s=x))then 1 else if rm.any (fun x=>decide (s=x))then 2 else 0):=hid rfl;(go_enter func63,ntmps63);go_wp2_with fail;refine(I.out).mono ?_;cases q1:rl.any (fun x=>decide (s=x))with
 |true=>rintro e w2⟨rfl,rfl⟩;go_wp2_with fail;go_ret;exact⟨by rw[J.out,q1];rfl,hB⟩
 |false=>
  rintro e w2⟨rfl,rfl⟩;go_wp2_with fail;refine(D.out).mono ?_;cases q2:rm.any (fun x=>decide (s=x))with
  |true=>rintro e w3⟨rfl,rfl⟩;go_wp2_with fail;go_ret;exact⟨by rw[J.out,q1,q2];rfl,hB.alloc (by simp) _⟩
  |false=>rintro e w3⟨rfl,rfl⟩;go_wp2_with fail;go_ret;exact⟨by rw[J.out,q1,q2];rfl,hB.alloc (by simp) _⟩
def cR(s:ByteArray)(i:Nat):Nat:=(s.data.toList.getD i 0).toNat
theorem nR(s:ByteArray)(i:Nat)(D:i<s.size)(W:World):(Instr.index 9 (.string s) (.int .i64 (i:Int))).run prog W=.ok (.int .u8 (cR s i:Int)) W:=by rw[run_index_string (P:=prog) W 9 s .i64 (i:Int) underlying9];simp[cR,D];rfl
theorem yI{c:Int}(h:aL c=true):aC c=false:=by unfold aL at h;unfold aC;simp at h |-;omega
theorem yJ(s:ByteArray)(N:0<s.size):cO s.data.toList=true↔aC (cR s 0:Int)=false/\∀j,j<s.size->(aL (cR s j:Int)||aC (cR s j:Int))=true:=by
 rw[rb];constructor
 ·intro h;have M:=h 0 (by simpa using N);refine⟨yI (by simpa[cR]using M),fun j hj=>?_⟩;have D:=h j (by simpa using hj);rw[gI]at D |-;rcases D with D|D
  ·exact .inl D
  ·rw[gA]at D;exact .inr D.2
 ·rintro⟨M,D⟩j hj;have I:=D j (by simpa using hj);rw[gI]at I |-;rcases I with I|I
  ·exact .inl I
  ·rcases kJ j with rfl|J
   ·rw[M]at I;cases I
   ·exact .inr (by rw[gA,gR];exact⟨J,I⟩)
theorem Iv(s:ByteArray)(hs:s.size<=100)(w:World):Calls prog 34 #[s] w fun e w'=>e=.returned (.bool (dZ s))/\Below w w w':=by
 have HW:=hid (fun w=>Iu s w);by_cases h0:s=⟨#[]⟩
 ·subst h0;(go_enter func34,ntmps34);go_wp2_with fail;go_ret;exact⟨by kernel_rfl,gH _ _⟩
 ·have M:0<s.size:=by
   rcases kJ s.size with h|h
   ·exact absurd (by apply qI;exact Array.eq_empty_of_size_eq_zero h) h0
   ·exact h
  (have gg:(s.toList==[])=false:=by have:=cz s ⟨#[]⟩;rw[show(⟨#[]⟩:BA).toList=[]by rw[qw]]at this;rw[this];simpa using h0);(have gd:s.toList.isEmpty=false:=by rw[ao];simpa using h0);have HT:=hid (show dZ s=(cO s.data.toList&&decide (bW s=0))by unfold dZ;rw[jK (show s≠⟨#[]⟩from h0),jP]);have HN:=hid (yJ s M);have i0:=fun W=>nR s 0 M W;simp only[Int.natCast_zero]at i0;have F0:=hid (fun w=>px (cR s 0:Int) w);clear h0;cases N:aC (cR s 0:Int)with
  | true=>
   have HR:Hid (dZ s=false):=hid (by
    rw[HT.out];cases hn:cO s.data.toList with
    |false=>rfl
    |true=>rw[(HN.out.1 hn).1]at N;cases N)
   rw[N]at F0;clear N;(go_enter func34,ntmps34);go_wp2_with fail;refine(F0.out _).mono ?_;rintro e w1⟨rfl,rfl⟩;go_wp2_with fail;go_ret;exact⟨by rw[HR.out];rfl,gH _ _⟩
  | false=>
   rw[N]at F0;by_cases hz:bW s=0
   ·have HF:=hid N;clear N;rw[hz]at HW;have HR:Hid (dZ s=cO s.data.toList):=hid (by rw[HT.out,hz];simp);clear hz;(go_enter func34,ntmps34);go_wp2_with fail;refine(F0.out _).mono ?_;rintro e w1⟨rfl,rfl⟩;go_wp2_with fail;refine(HW.out _).mono ?_;rintro e w1⟨rfl,J⟩;go_wp2_with fail;go_loopg [3] s.size (fun k u3 wr=>∃i:Nat,i<=s.size/\s.size-i<=k/\u3=.int .i64 (i:Int)/\w1=wr/\∀j,j<i->(aL (cR s j:Int)||aC (cR s j:Int))=true)
    case atStart=>exact⟨0,gQ _,by omega,rfl,rfl,fun j hj=>by omega⟩
    case round=>
     obtain⟨i,hi,hk,rfl,rfl,O⟩:=hrel;have HA:=hid O;clear O i0;by_cases gb:i<s.size
     ·(have ga:(i:Int)<(s.size:Int):=by omega);have hb:=fun W=>nR s i gb W;have I:=hid (show(aL (cR s i:Int)||aC (cR s i:Int))=true->∀j,j<i+1->(aL (cR s j:Int)||aC (cR s j:Int))=true by
       intro h j hj;by_cases e:j=i
       ·subst e;exact h
       ·exact HA.out j (by omega))
      have D:=hid (show(aL (cR s i:Int)||aC (cR s i:Int))=false->dZ s=false by
       intro h;rw[HR.out];cases hn:cO s.data.toList with
       |false=>rfl
       |true=>rw[(HN.out.1 hn).2 i gb]at h;cases h)
      generalize cR s i=c at *;cases hL:aL (c:Int)with
      |true=>
       have U:=hid (I.out (by rw[hL];rfl));clear I D;go_wp2_with fail;refine(pw _ _).mono ?_;rw[hL];rintro e w2⟨rfl,rfl⟩;go_wp2_with fail;go_roundg (s.size-(i+1))
       case measure=>omega
       case rel=>exact⟨i+1,by omega,gC _,by go_num,rfl,U.out⟩
      | false=>
       cases hG:aC (c:Int)with
       |true=>
        have U:=hid (I.out (by rw[hL,hG];rfl));clear I D;go_wp2_with fail;refine(pw _ _).mono ?_;rw[hL];rintro e w2⟨rfl,rfl⟩;go_wp2_with fail;refine(px _ _).mono ?_;rw[hG];rintro e w2⟨rfl,rfl⟩;go_wp2_with fail;go_roundg (s.size-(i+1))
        case measure=>omega
        case rel=>exact⟨i+1,by omega,gC _,by go_num,rfl,U.out⟩
       |false=>have U:=hid (D.out (by rw[hL,hG];rfl));clear I D;go_wp2_with fail;refine(pw _ _).mono ?_;rw[hL];rintro e w2⟨rfl,rfl⟩;go_wp2_with fail;refine(px _ _).mono ?_;rw[hG];rintro e w2⟨rfl,rfl⟩;go_wp2_with fail;go_ret;exact⟨by rw[U.out];rfl,J⟩
     ·(have ga:¬ (i:Int)<(s.size:Int):=by omega);have U:Hid (dZ s=true):=hid (by rw[HR.out];exact HN.out.2 ⟨HF.out,fun j hj=>HA.out j (by omega)⟩);go_wp2_with fail;go_ret;exact⟨by rw[U.out];rfl,J⟩
   ·have HR:Hid (dZ s=false):=hid (by rw[HT.out,gP hz,jL]);(have ge:(bW s != 0)=true:=by simpa using hz);clear hz N;(go_enter func34,ntmps34);go_wp2_with fail;refine(F0.out _).mono ?_;rintro e w1⟨rfl,rfl⟩;go_wp2_with fail;refine(HW.out _).mono ?_;rintro e w1⟨rfl,J⟩;go_wp2_with fail;go_ret;exact⟨by rw[HR.out];rfl,J⟩
theorem aQ(s:ByteArray)(w:World):Calls prog 14 #[s] w fun e w'=>e=.returned (.bool (aB s))/\Below w w w':=by
 by_cases h:s.size<=100
 ·have I:=hid (Iv s h w);(have hd:decide ((s.size:Int)<=100)=true:=by rw[gR];omega);have D:Hid (aB s=dZ s):=hid (by unfold aB;rw[jK h,jP]);(go_enter func14,ntmps14);go_wp2_with fail;refine(I.out).mono ?_;rintro e w1⟨rfl,hB⟩;go_wp2_with fail;go_ret;exact⟨by rw[D.out];rfl,hB⟩
 ·(have hd:decide ((s.size:Int)<=100)=false:=by rw[gK];omega);have D:Hid (aB s=false):=hid (by unfold aB;rw[gP h,jA]);(go_enter func14,ntmps14);go_wp2_with fail;go_ret;exact⟨by rw[D.out];rfl,gH _ _⟩
theorem oF(s:ByteArray)(w:World):Calls prog 42 #[s] w fun e w'=>e=.returned (.bool (cj s))/\Below w w w':=by have J:=hid (aQ s w);have I:=hid (show cj s=(aB s && !(s.toList==[95]))by unfold cj;rw[<-cy s [95]];simp);cases D:aB s<;>cases M:(s.toList==[95]);all_goals rw[D]at J;rw[D,M]at I;clear D;(go_enter func42,ntmps42);go_wp2_with fail;refine(J.out).mono ?_;rintro e w1⟨rfl,hB⟩;go_wp2_with fail;go_ret;exact⟨by rw[I.out];rfl,hB⟩
theorem eI(v:Value)(n:Nd)(w:World)(D:aF w v n):Calls prog 43 #[v] w fun e w'=>e=.returned (.bool (an n))/\Below w w w':=by obtain⟨A,cp,rfl,J⟩:=D.toC;have hB:=(aj w #[n.kind,n.text,.slice A n.kids.length cp,n.pos]).1;have I:=hid (show an n=((n.kind==0)&&(n.text.toList.isEmpty&&((n.kids.length:Int)==0)))by unfold an;rw[ao,fZ,fZ];congr 2;rw[kV];omega);clear D J;generalize n.kids.length=m at *;cases O:(n.kind==0)<;>cases N:n.text.toList.isEmpty<;>cases M:((m:Int)==0);all_goals rw[O,N,M]at I;(go_enter func43,ntmps43);go_wp2_with fail;go_ret;exact⟨by rw[I.out];rfl,hB⟩
end
end Go.Proofs.YteialcjaiocjdaaGreatDoor
