/-
  Parts of the proof: Tstmt Mgate Sadd Sline Snl Sbyte Swhile Ssign Mminor Snote. By an AI agent.
-/
import Derived.Test.YtmmjgmcfdnkomaaGreatDoorL03
import Derived.Test.YtmmjgmcfdnkomaaGreatDoorL01
import Derived.Test.YtmmjgmcfdnkomaaGreatDoorL02
import Derived.Deep.LoopGhost
import Derived.Laws.EntriesVeiled
import Derived.BigQuiet
set_option maxRecDepth 100000
set_option maxHeartbeats 8000000
namespace Go.Proofs.YtmmjgmcfdnkomaaGreatDoor
section
open Go.RowKit Go.Lib Go.Proofs
attribute [local go_sem ↓] Go.wp_at_zero Go.wp_at_succ
theorem pV (a:Array Value) (w:World):(callFunc 262 a).run Tryz.prog w=.ok (.enter 262 a) w:=by kernel_rfl
theorem pa (a:Array Value) (w:World):(callFunc 263 a).run Tryz.prog w=.ok (.enter 263 a) w:=by kernel_rfl
theorem pb (a:Array Value) (w:World):(callFunc 264 a).run Tryz.prog w=.ok (.enter 264 a) w:=by kernel_rfl
theorem sC (a:Array Value) (w:World):(callFunc 265 a).run Tryz.prog w=.ok (.enter 265 a) w:=by kernel_rfl
theorem pW (a:Array Value) (w:World):(callFunc 302 a).run Tryz.prog w=.ok (.enter 302 a) w:=by kernel_rfl
theorem sD (g:Nat) (F:bZ) (k:fY g F):bF (g+1) (fL F) 264:=by intro w v n j hv hd;have M:=hv;obtain ⟨A,cp,rfl,q⟩:=hv.toC;have U:=(aq w #[.int .i64 n.kind,.string n.text,.slice A n.kids.length cp,.int .i64 n.pos]).1;have b1:=(aq w #[.int .i64 n.kind,.string n.text,.slice A n.kids.length cp,.int .i64 n.pos]).2;have u:=hid (M.below U);have r:=hid M;have y:=hid (j.below U);have z:=hid k;have o:=hid hd;clear M hv q j k hd;have HE:=hid (show fL F n=bY 28 [F.expr] (ag iM n) from rfl);(go_enter Tryz.func264,Tryz.ntmps264);(go_wp2_with fail);refine (aB _ _ n u.out ⟨301,#[]⟩ iM (tq _) o.out.txt).mono ?_;rintro e w1 ⟨v1,rfl,N,K⟩;have S:=ah U K;have O:=hid (ay.below y.out K);have h:=hid N;clear K N;(go_wp2_with fail);have D:=(Below.refl w1.heap.size w1).alloc (Nat.le_refl _) (.cells #[.func (.func 200) #[] #[]] 206);have I:=ah S D;refine (au g [(⟨200,#[]⟩,F.expr)] 28 v1 (ag iM n) _ _ 1 rfl (by omega) (h.out.below D) o.out.named (aQ.new _ rfl (ac.new w1 _ _)) (bH (z.out.expr.so aP _ (ay.below O.out D)))).mono ?_;rintro e w2 ⟨rfl,J⟩;have Q:=ah I J;have x:=hid (ay.below (ay.below O.out D) J);clear D I;clear J;(go_wp2_with fail);go_ret;exact ⟨by rw [HE.out];rfl,Q⟩
theorem pc (g:Nat) (F:bZ) (k:fY g F):bF (g+1) (dR F) 262:=by intro w v n j hv hd;have M:=hv;obtain ⟨A,cp,rfl,q⟩:=hv.toC;have U:=(aq w #[.int .i64 n.kind,.string n.text,.slice A n.kids.length cp,.int .i64 n.pos]).1;have b1:=(aq w #[.int .i64 n.kind,.string n.text,.slice A n.kids.length cp,.int .i64 n.pos]).2;have u:=hid (M.below U);have r:=hid M;have y:=hid (j.below U);have z:=hid k;have o:=hid hd;clear M hv q j k hd;have HE:=hid (show dR F n=bY 26 [F.expr] (ag bX n) from rfl);(go_enter Tryz.func262,Tryz.ntmps262);(go_wp2_with fail);refine (aB _ _ n u.out ⟨300,#[]⟩ bX (rF _) o.out.txt).mono ?_;rintro e w1 ⟨v1,rfl,N,K⟩;have S:=ah U K;have O:=hid (ay.below y.out K);have h:=hid N;clear K N;(go_wp2_with fail);have D:=(Below.refl w1.heap.size w1).alloc (Nat.le_refl _) (.cells #[.func (.func 200) #[] #[]] 206);have I:=ah S D;refine (au g [(⟨200,#[]⟩,F.expr)] 26 v1 (ag bX n) _ _ 1 rfl (by omega) (h.out.below D) o.out.named (aQ.new _ rfl (ac.new w1 _ _)) (bH (z.out.expr.so aP _ (ay.below O.out D)))).mono ?_;rintro e w2 ⟨rfl,J⟩;have Q:=ah I J;have x:=hid (ay.below (ay.below O.out D) J);clear D I;clear J;(go_wp2_with fail);go_ret;exact ⟨by rw [HE.out];rfl,Q⟩
theorem sE (g:Nat) (F:bZ) (S:fY g F):bF (g+1) (fM F) 263:=by intro w v n Q hv hd;have K:=hv;obtain ⟨A,cp,rfl,h⟩:=hv.toC;have N:=(aq w #[.int .i64 n.kind,.string n.text,.slice A n.kids.length cp,.int .i64 n.pos]).1;have u:=(aq w #[.int .i64 n.kind,.string n.text,.slice A n.kids.length cp,.int .i64 n.pos]).2;have k:=hid (K.below N);have j:=hid K;have O:=hid (Q.below N);have U:=hid S;have r:=hid hd;clear K hv h Q S hd;have q:=hid (show fM F n=bY 27 [F.expr,F.expr] n from rfl);(go_enter Tryz.func263,Tryz.ntmps263);(go_wp2_with fail);have D:=(Below.refl (w.alloc (.cells #[.int .i64 n.kind,.string n.text,.slice A n.kids.length cp,.int .i64 n.pos] 41)).heap.size (w.alloc (.cells #[.int .i64 n.kind,.string n.text,.slice A n.kids.length cp,.int .i64 n.pos] 41))).alloc (Nat.le_refl _) (.cells #[.func (.func 200) #[] #[],.func (.func 200) #[] #[]] 206);have I:=ah N D;refine (au g [(⟨200,#[]⟩,F.expr),(⟨200,#[]⟩,F.expr)] 27 _ (n) _ _ 2 rfl (by omega) (k.out.below D) r.out (aQ.new _ rfl (ac.new_at (n:=w.heap.size+1) (by simp) _ _)) (cF (U.out.expr.so aP _ (ay.below O.out D)) (U.out.expr.so aP _ (ay.below O.out D)))).mono ?_;rintro e w1 ⟨rfl,J⟩;have M:=ah I J;have o:=hid (ay.below (ay.below O.out D) J);clear D I;clear J;(go_wp2_with fail);go_ret;exact ⟨by rw [q.out];rfl,M⟩
theorem tS (g:Nat) (F:bZ) (M:fY g F):bF g (lE F) 302:=by
 intro w v n K hv hd;have I:=hv;obtain ⟨A,cp,rfl,Q⟩:=hv.toC;have J:=(aq w #[.int .i64 n.kind,.string n.text,.slice A n.kids.length cp,.int .i64 n.pos]).1;have S:=hid (M.expr _ _ n (K.below J) (I.below J) hd);(have N:lE F n=(n.kind==21&&F.expr n):=by unfold lE;rw [b7]);rw [N];clear N I hv Q K M hd;generalize F.expr n=q at *;generalize n.kind=k at *;cases O:(k==21);all_goals
  (go_enter Tryz.func302,Tryz.ntmps302);(go_wp2_with fail);try
   rw [beq_iff_eq] at O
   subst O
   refine S.out.mono ?_
   rintro e w1 ⟨rfl,D⟩
   replace J:=ah J D
   clear D
   go_wp2_with fail
  go_ret;exact ⟨rfl,J⟩
theorem sF (g:Nat) (F:bZ) (Q:fY g F):bF (g+1) (fN F) 265:=by intro w v n O hv hd;have K:=hv;obtain ⟨A,cp,rfl,U⟩:=hv.toC;have N:=(aq w #[.int .i64 n.kind,.string n.text,.slice A n.kids.length cp,.int .i64 n.pos]).1;have u:=(aq w #[.int .i64 n.kind,.string n.text,.slice A n.kids.length cp,.int .i64 n.pos]).2;have j:=hid (K.below N);have h:=hid K;have S:=hid (O.below N);have o:=hid Q;have r:=hid hd;clear K hv U O Q hd;have q:=hid (show fN F n=bY 29 [lE F] n from rfl);(go_enter Tryz.func265,Tryz.ntmps265);(go_wp2_with fail);have D:=(Below.refl (w.alloc (.cells #[.int .i64 n.kind,.string n.text,.slice A n.kids.length cp,.int .i64 n.pos] 41)).heap.size (w.alloc (.cells #[.int .i64 n.kind,.string n.text,.slice A n.kids.length cp,.int .i64 n.pos] 41))).alloc (Nat.le_refl _) (.cells #[.func (.func 302) #[] #[]] 206);have I:=ah N D;refine (au g [(⟨302,#[]⟩,(lE F))] 29 _ (n) _ _ 1 rfl (by omega) (j.out.below D) r.out (aQ.new _ rfl (ac.new_at (n:=w.heap.size+1) (by simp) _ _)) (bH ((tS g F o.out).so pW _ (ay.below S.out D)))).mono ?_;rintro e w1 ⟨rfl,J⟩;have M:=ah I J;have k:=hid (ay.below (ay.below S.out D) J);clear D I;clear J;(go_wp2_with fail);go_ret;exact ⟨by rw [q.out];rfl,M⟩
theorem pd (g:Nat) (F:bZ) (M:fY g F):bF (g+1) (f9 F) 250:=by
 intro w v n K hv hd;have D:=hv;obtain ⟨A,cp,rfl,Q⟩:=hv.toC;have J:=(aq w #[.int .i64 n.kind,.string n.text,.slice A n.kids.length cp,.int .i64 n.pos]).1;have u:=(aq w #[.int .i64 n.kind,.string n.text,.slice A n.kids.length cp,.int .i64 n.pos]).2;have U:=hid (D.below J);have S:=hid D;have h:=hid (K.below J);have k:=hid M;have O:=hid hd;clear D hv Q K M hd;have j:=hid (b8 g (F.stmt) ⟨201,#[]⟩ A cp n.kids _ U.out.kidsV O.out.2 O.out.1.1 (k.out.stmt.so su _ h.out));(have N:f9 F n=((n.kind==36)&&(n.text.toList.isEmpty&&n.kids.all (F.stmt))):=by unfold f9;rw [ai,b7]);rw [N];clear N;generalize n.kids.all (F.stmt)=q at *;cases r:(n.kind==36) <;> cases o:n.text.toList.isEmpty;all_goals
  (go_enter Tryz.func250,Tryz.ntmps250);(go_wp2_with fail);try
   refine j.out.mono ?_
   rintro e w1 ⟨rfl,I⟩
   replace J:=ah J I
   clear I
   go_wp2_with fail
  go_ret;exact ⟨rfl,J⟩
theorem uV (g:Nat) (F:bZ) (z:fY g F):bF (g+1) (uO F) 266:=by
 intro w v n y hv hd;have M:=hv;obtain ⟨A,cp,rfl,hC⟩:=hv.toC;have h:=(aq w #[.int .i64 n.kind,.string n.text,.slice A n.kids.length cp,.int .i64 n.pos]).1;have r:=(aq w #[.int .i64 n.kind,.string n.text,.slice A n.kids.length cp,.int .i64 n.pos]).2;have HV:=hid (M.below h);have ga:=hid M;have HT:=hid (y.below h);have j:=hid z;have HD:=hid hd;clear M hv hC y z hd;have HE:=hid (show uO F n=bY 30 [F.expr,F.block,cn (cn al F.block) F.ifS] n from rfl);(go_enter Tryz.func266,Tryz.ntmps266);(go_wp2_with fail);generalize hW:w.alloc (.cells #[.int .i64 n.kind,.string n.text,.slice A n.kids.length cp,.int .i64 n.pos] 41)=W at *;clear hW;have K:Below W.heap.size W W.drew:=(Below.refl _ _).drew;have k:=r.lt;have q:=ah h K;have u:=hid (HV.out.below K);have S:=hid (HT.out.below K);have C0:=hid r.drew;clear r HV HT h;go_region_held3 (fun w'=>w'.cell? ⟨w.heap.size,0,none⟩=some (.int .i64 n.kind)∧w'.cell? ⟨w.heap.size,1,none⟩=some (.string n.text)∧w'.cell? ⟨w.heap.size,2,none⟩=some (.slice A n.kids.length cp)∧w'.cell? ⟨w.heap.size,3,none⟩=some (.int .i64 n.pos))
  (first | with_reducible exact cO q3 | with_reducible exact cO (U.alloc _) | with_reducible exact cO U | with_reducible exact cO x | with_reducible exact cO C0.out)
  (first
   | (go_at_call 251;refine (bD g al F.block ⟨267,#[]⟩ ⟨250,#[]⟩ _ (cE g _) (j.out.block.so cS _ S.out)).mono ?_;rintro e w1 ⟨h1,rfl,sh1_1,I⟩;have x:=C0.out.below I k;have Q:=hid (S.out.below I))
   | (go_at_call 251;refine (bD g (cn al F.block) F.ifS h1 ⟨266,#[]⟩ _ (sh1_1) (j.out.ifS.so ux _ Q.out)).mono ?_;rintro e w2 ⟨h2,rfl,sh2_2,D⟩;have U:=x.bl D;have O:=hid (Q.out.below D);have sh1_2:=sh1_1.below D)
   | (go_at_call 247;refine (au g [(⟨200,#[]⟩,F.expr),(⟨250,#[]⟩,F.block),(h2,(cn (cn al F.block) F.ifS))] 30 _ n _ _ 3 rfl (by omega) (((u.out.below I).below D).below ((Below.refl _ w2).alloc (Nat.le_refl _) _)) HD.out (aQ.new _ rfl (ac.new w2 _ _)) (iX (j.out.expr.so aP _ (ay.below O.out ((Below.refl _ w2).alloc (Nat.le_refl _) _))) (j.out.block.so cS _ (ay.below O.out ((Below.refl _ w2).alloc (Nat.le_refl _) _))) (sh2_2.below ((Below.refl _ w2).alloc (Nat.le_refl _) _)))).mono ?_;rintro e w3 ⟨rfl,N⟩;have q3:=(U.alloc _).below N (U.alloc _).lt))
 (all_goals go_wp2_with fail);(all_goals go_ret);all_goals have o:=ah q I;have J:=ah o D;exact ⟨by rw [HE.out];rfl,(J.alloc J.size _).trans (N.mono (J.alloc J.size _).size)⟩
theorem uF (g:Nat) (F:bZ) (hF:fY g F):bF (g+1) (cX F) 201:=by
 intro w v n hT hv hd;obtain ⟨nk,nt,nl,np⟩:=n;have gi:=hv;obtain ⟨A,cp,rfl,hC⟩:=hv.toC;simp only [Nd.kind_mk,Nd.text_mk,Nd.kids_mk,Nd.pos_mk] at gi ⊢;have hB:=(aq w #[.int .i64 nk,.string nt,.slice A nl.length cp,.int .i64 np]).1;have b1:=(aq w #[.int .i64 nk,.string nt,.slice A nl.length cp,.int .i64 np]).2;have HV:=hid (gi.below hB);have hf:=hid gi;have HT:=hid (hT.below hB);have u:=hid hF;have HD:=hid hd;clear gi hv hC hT hF hd;by_cases O:nk=5
 ·subst O;have j:=hid (show cX F (Nd.mk 5 nt nl np)=pi F (Nd.mk 5 nt nl np) from rfl);(go_enter Tryz.func201,Tryz.ntmps201);(go_wp2_with fail);refine (o8 g F u.out _ _ (Nd.mk 5 nt nl np) HT.out HV.out HD.out).mono ?_;rintro e w1 ⟨rfl,D⟩;have I:=ah hB D;clear D;(go_wp2_with fail);go_ret;exact ⟨by rw [j.out];rfl,I⟩
 by_cases J:nk=26
 ·subst J;clear O;have j:=hid (show cX F (Nd.mk 26 nt nl np)=dR F (Nd.mk 26 nt nl np) from rfl);(go_enter Tryz.func201,Tryz.ntmps201);(go_wp2_with fail);refine (pc g F u.out _ _ (Nd.mk 26 nt nl np) HT.out HV.out HD.out).mono ?_;rintro e w1 ⟨rfl,D⟩;have I:=ah hB D;clear D;(go_wp2_with fail);go_ret;exact ⟨by rw [j.out];rfl,I⟩
 by_cases K:nk=27
 ·subst K;clear O J;have j:=hid (show cX F (Nd.mk 27 nt nl np)=fM F (Nd.mk 27 nt nl np) from rfl);(go_enter Tryz.func201,Tryz.ntmps201);(go_wp2_with fail);refine (sE g F u.out _ _ (Nd.mk 27 nt nl np) HT.out HV.out HD.out).mono ?_;rintro e w1 ⟨rfl,D⟩;have I:=ah hB D;clear D;(go_wp2_with fail);go_ret;exact ⟨by rw [j.out];rfl,I⟩
 by_cases M:nk=28
 ·subst M;clear O J K;have j:=hid (show cX F (Nd.mk 28 nt nl np)=fL F (Nd.mk 28 nt nl np) from rfl);(go_enter Tryz.func201,Tryz.ntmps201);(go_wp2_with fail);refine (sD g F u.out _ _ (Nd.mk 28 nt nl np) HT.out HV.out HD.out).mono ?_;rintro e w1 ⟨rfl,D⟩;have I:=ah hB D;clear D;(go_wp2_with fail);go_ret;exact ⟨by rw [j.out];rfl,I⟩
 by_cases N:nk=29
 ·subst N;clear O J K M;have j:=hid (show cX F (Nd.mk 29 nt nl np)=fN F (Nd.mk 29 nt nl np) from rfl);(go_enter Tryz.func201,Tryz.ntmps201);(go_wp2_with fail);refine (sF g F u.out _ _ (Nd.mk 29 nt nl np) HT.out HV.out HD.out).mono ?_;rintro e w1 ⟨rfl,D⟩;have I:=ah hB D;clear D;(go_wp2_with fail);go_ret;exact ⟨by rw [j.out];rfl,I⟩
 by_cases Q:nk=30
 ·subst Q;clear O J K M N;have j:=hid (show cX F (Nd.mk 30 nt nl np)=uO F (Nd.mk 30 nt nl np) from rfl);(go_enter Tryz.func201,Tryz.ntmps201);(go_wp2_with fail);refine (uV g F u.out _ _ (Nd.mk 30 nt nl np) HT.out HV.out HD.out).mono ?_;rintro e w1 ⟨rfl,D⟩;have I:=ah hB D;clear D;(go_wp2_with fail);go_ret;exact ⟨by rw [j.out];rfl,I⟩
 by_cases S:nk=31
 ·subst S;clear O J K M N Q;have j:=hid (show cX F (Nd.mk 31 nt nl np)=bY 31 [cn (cn al (dR F)) (cn (fM F) (fL F)),cn al F.expr,cn (cn al (fM F)) (cn (fL F) (fN F)),F.block] (Nd.mk 31 nt nl np) from rfl);(go_enter Tryz.func201,Tryz.ntmps201);(go_wp2_with fail);generalize hW:w.alloc (.cells #[.int .i64 31,.string nt,.slice A nl.length cp,.int .i64 np] 41)=W at *;clear hW;have ga:Below W.heap.size W W.drew:=(Below.refl _ _).drew;have gl:=b1.lt;have gn:=ah hB ga;have gp:=hid (HV.out.below ga);have gh:=hid (HT.out.below ga);have C0:=hid b1.drew;clear b1 HV HT hB;go_region_held3 (fun w'=>w'.cell? ⟨w.heap.size,0,none⟩=some (.int .i64 31)∧w'.cell? ⟨w.heap.size,1,none⟩=some (.string nt)∧w'.cell? ⟨w.heap.size,2,none⟩=some (.slice A nl.length cp)∧w'.cell? ⟨w.heap.size,3,none⟩=some (.int .i64 np))
   (first | with_reducible exact cO q8 | with_reducible exact cO (q7.alloc _) | with_reducible exact cO q7 | with_reducible exact cO q6 | with_reducible exact cO q5 | with_reducible exact cO q4 | with_reducible exact cO q3 | with_reducible exact cO q2 | with_reducible exact cO q1 | with_reducible exact cO C0.out)
   (first
    | (go_at_call 251;refine (bD g al (dR F) ⟨267,#[]⟩ ⟨262,#[]⟩ _ (cE g _) (((pc g F u.out).le fun _=>cQ.succ).so pV _ gh.out)).mono ?_;rintro e w1 ⟨h1,rfl,sh1_1,D⟩;have q1:=C0.out.below D gl;have o:=hid (gh.out.below D))
    | (go_at_call 251;refine (bD g (fM F) (fL F) ⟨263,#[]⟩ ⟨264,#[]⟩ _ (((sE g F u.out).le fun _=>cQ.succ).so pa _ o.out) (((sD g F u.out).le fun _=>cQ.succ).so pb _ o.out)).mono ?_;rintro e w2 ⟨h2,rfl,sh2_2,U⟩;have q2:=q1.bl U;have gv:=hid (o.out.below U);have sh1_2:=sh1_1.below U)
    | (go_at_call 251;refine (bD g (cn al (dR F)) (cn (fM F) (fL F)) h1 h2 _ (sh1_2) (sh2_2)).mono ?_;rintro e w3 ⟨h3,rfl,sh3_3,gg⟩;have q3:=q2.bl gg;have gu:=hid (gv.out.below gg);have sh1_3:=sh1_2.below gg;have sh2_3:=sh2_2.below gg)
    | (go_at_call 251;refine (bD g al F.expr ⟨267,#[]⟩ ⟨200,#[]⟩ _ (cE g _) (u.out.expr.so aP _ gu.out)).mono ?_;rintro e w4 ⟨h4,rfl,sh4_4,gb⟩;have q4:=q3.bl gb;have gt:=hid (gu.out.below gb);have sh1_4:=sh1_3.below gb;have sh2_4:=sh2_3.below gb;have sh3_4:=sh3_3.below gb)
    | (go_at_call 251;refine (bD g al (fM F) ⟨267,#[]⟩ ⟨263,#[]⟩ _ (cE g _) (((sE g F u.out).le fun _=>cQ.succ).so pa _ gt.out)).mono ?_;rintro e w5 ⟨h5,rfl,sh5_5,z⟩;have q5:=q4.bl z;have gq:=hid (gt.out.below z);have sh1_5:=sh1_4.below z;have sh2_5:=sh2_4.below z;have sh3_5:=sh3_4.below z;have sh4_5:=sh4_4.below z)
    | (go_at_call 251;refine (bD g (fL F) (fN F) ⟨264,#[]⟩ ⟨265,#[]⟩ _ (((sD g F u.out).le fun _=>cQ.succ).so pb _ gq.out) (((sF g F u.out).le fun _=>cQ.succ).so sC _ gq.out)).mono ?_;rintro e w6 ⟨h6,rfl,sh6_6,r⟩;have q6:=q5.bl r;have g2:=hid (gq.out.below r);have sh1_6:=sh1_5.below r;have sh2_6:=sh2_5.below r;have sh3_6:=sh3_5.below r;have sh4_6:=sh4_5.below r;have sh5_6:=sh5_5.below r)
    | (go_at_call 251;refine (bD g (cn al (fM F)) (cn (fL F) (fN F)) h5 h6 _ (sh5_6) (sh6_6)).mono ?_;rintro e w7 ⟨h7,rfl,sh7_7,k⟩;have q7:=q6.bl k;have g1:=hid (g2.out.below k);have sh1_7:=sh1_6.below k;have sh2_7:=sh2_6.below k;have sh3_7:=sh3_6.below k;have sh4_7:=sh4_6.below k;have sh5_7:=sh5_6.below k;have sh6_7:=sh6_6.below k)
    | (go_at_call 247;refine (au g [(h3,(cn (cn al (dR F)) (cn (fM F) (fL F)))),(h4,(cn al F.expr)),(h7,(cn (cn al (fM F)) (cn (fL F) (fN F)))),(⟨250,#[]⟩,F.block)] 31 _ (Nd.mk 31 nt nl np) _ _ 4 rfl (by omega) ((((((((gp.out.below D).below U).below gg).below gb).below z).below r).below k).below ((Below.refl _ w7).alloc (Nat.le_refl _) _)) HD.out (aQ.new _ rfl (ac.new w7 _ _)) (sx (sh3_7.below ((Below.refl _ w7).alloc (Nat.le_refl _) _)) (sh4_7.below ((Below.refl _ w7).alloc (Nat.le_refl _) _)) (sh7_7.below ((Below.refl _ w7).alloc (Nat.le_refl _) _)) (u.out.block.so cS _ (ay.below g1.out ((Below.refl _ w7).alloc (Nat.le_refl _) _))))).mono ?_;rintro e w8 ⟨rfl,gs⟩;have q8:=(q7.alloc _).below gs (q7.alloc _).lt))
  (all_goals go_wp2_with fail);(all_goals go_ret);all_goals have I:=ah gn D;have gm:=ah I U;have gz:=ah gm gg;have gy:=ah gz gb;have gx:=ah gy z;have gw:=ah gx r;have gj:=ah gw k;exact ⟨by rw [j.out];rfl,(gj.alloc gj.size _).trans (gs.mono (gj.alloc gj.size _).size)⟩
 by_cases h:nk=32
 ·subst h;clear O J K M N Q S;have j:=hid (show cX F (Nd.mk 32 nt nl np)=bY 32 [F.expr,F.block] (ag dQ (Nd.mk 32 nt nl np)) from rfl);(go_enter Tryz.func201,Tryz.ntmps201);(go_wp2_with fail);refine (aB _ _ (Nd.mk 32 nt nl np) HV.out ⟨268,#[]⟩ dQ (po _ HT.out) HD.out.txt).mono ?_;rintro e w1 ⟨v1,rfl,gr,D⟩;have I:=ah hB D;have o:=hid (ay.below HT.out D);have g0:=hid gr;clear D gr;(go_wp2_with fail);have ge:=(Below.refl w1.heap.size w1).alloc (Nat.le_refl _) (.cells #[.func (.func 200) #[] #[],.func (.func 250) #[] #[]] 206);have gk:=ah I ge;refine (au g [(⟨200,#[]⟩,F.expr),(⟨250,#[]⟩,F.block)] 32 v1 (ag dQ (Nd.mk 32 nt nl np)) _ _ 2 rfl (by omega) (g0.out.below ge) HD.out.named (aQ.new _ rfl (ac.new w1 _ _)) (cF (u.out.expr.so aP _ (ay.below o.out ge)) (u.out.block.so cS _ (ay.below o.out ge)))).mono ?_;rintro e w2 ⟨rfl,U⟩;have gm:=ah gk U;have gv:=hid (ay.below (ay.below o.out ge) U);clear ge gk;clear U;(go_wp2_with fail);go_ret;exact ⟨by rw [j.out];rfl,gm⟩
 by_cases q:nk=33
 ·subst q;clear O J K M N Q S h;have j:=hid (show cX F (Nd.mk 33 nt nl np)=bY 33 [cn al F.expr] (Nd.mk 33 nt nl np) from rfl);(go_enter Tryz.func201,Tryz.ntmps201);(go_wp2_with fail);generalize hW:w.alloc (.cells #[.int .i64 33,.string nt,.slice A nl.length cp,.int .i64 np] 41)=W at *;clear hW;have ga:Below W.heap.size W W.drew:=(Below.refl _ _).drew;have gl:=b1.lt;have gn:=ah hB ga;have gp:=hid (HV.out.below ga);have gh:=hid (HT.out.below ga);have C0:=hid b1.drew;clear b1 HV HT hB;go_region_held3 (fun w'=>w'.cell? ⟨w.heap.size,0,none⟩=some (.int .i64 33)∧w'.cell? ⟨w.heap.size,1,none⟩=some (.string nt)∧w'.cell? ⟨w.heap.size,2,none⟩=some (.slice A nl.length cp)∧w'.cell? ⟨w.heap.size,3,none⟩=some (.int .i64 np))
   (first | with_reducible exact cO q2 | with_reducible exact cO (q1.alloc _) | with_reducible exact cO q1 | with_reducible exact cO C0.out)
   (first
    | (go_at_call 251;refine (bD g al F.expr ⟨267,#[]⟩ ⟨200,#[]⟩ _ (cE g _) (u.out.expr.so aP _ gh.out)).mono ?_;rintro e w1 ⟨h1,rfl,sh1_1,D⟩;have q1:=C0.out.below D gl;have o:=hid (gh.out.below D))
    | (go_at_call 247;refine (au g [(h1,(cn al F.expr))] 33 _ (Nd.mk 33 nt nl np) _ _ 1 rfl (by omega) ((gp.out.below D).below ((Below.refl _ w1).alloc (Nat.le_refl _) _)) HD.out (aQ.new _ rfl (ac.new w1 _ _)) (bH (sh1_1.below ((Below.refl _ w1).alloc (Nat.le_refl _) _)))).mono ?_;rintro e w2 ⟨rfl,U⟩;have q2:=(q1.alloc _).below U (q1.alloc _).lt))
  (all_goals go_wp2_with fail);(all_goals go_ret);all_goals have I:=ah gn D;exact ⟨by rw [j.out];rfl,(I.alloc I.size _).trans (U.mono (I.alloc I.size _).size)⟩
 by_cases y:nk=34
 ·subst y;clear O J K M N Q S h q;have j:=hid (show cX F (Nd.mk 34 nt nl np)=bY 34 [] (Nd.mk 34 nt nl np) from rfl);(go_enter Tryz.func201,Tryz.ntmps201);(go_wp2_with fail);refine (au g [] 34 _ ((Nd.mk 34 nt nl np)) none _ 0 rfl (by omega) HV.out HD.out (.inl ⟨rfl,rfl⟩) (fun x hx=>by cases hx)).mono ?_;rintro e w1 ⟨rfl,D⟩;have I:=ah hB D;have o:=hid (ay.below HT.out D);clear D;(go_wp2_with fail);go_ret;exact ⟨by rw [j.out];rfl,I⟩
 by_cases gd:nk=35
 ·subst gd;clear O J K M N Q S h q y;have j:=hid (show cX F (Nd.mk 35 nt nl np)=bY 35 [] (Nd.mk 35 nt nl np) from rfl);(go_enter Tryz.func201,Tryz.ntmps201);(go_wp2_with fail);refine (au g [] 35 _ ((Nd.mk 35 nt nl np)) none _ 0 rfl (by omega) HV.out HD.out (.inl ⟨rfl,rfl⟩) (fun x hx=>by cases hx)).mono ?_;rintro e w1 ⟨rfl,D⟩;have I:=ah hB D;have o:=hid (ay.below HT.out D);clear D;(go_wp2_with fail);go_ret;exact ⟨by rw [j.out];rfl,I⟩
 have j:=hid (show cX F (Nd.mk nk nt nl np)=f9 F (Nd.mk nk nt nl np) by unfold cX;simp only [Nd.kind_mk,or_self,O,J,K,M,N,Q,S,h,q,y,gd,if_false]);(have t5:(nk==5)=false:=by simpa using O);(have he:(nk==26)=false:=by simpa using J);(have hc:(nk==27)=false:=by simpa using K);(have ha:(nk==28)=false:=by simpa using M);(have g9:(nk==29)=false:=by simpa using N);(have g8:(nk==30)=false:=by simpa using Q);(have g7:(nk==31)=false:=by simpa using S);(have g6:(nk==32)=false:=by simpa using h);(have g5:(nk==33)=false:=by simpa using q);(have g4:(nk==34)=false:=by simpa using y);(have g3:(nk==35)=false:=by simpa using gd);clear O J K M N Q S h q y gd;(go_enter Tryz.func201,Tryz.ntmps201);(go_wp2_with fail);refine (pd g F u.out _ _ (Nd.mk nk nt nl np) HT.out HV.out HD.out).mono ?_;rintro e w1 ⟨rfl,D⟩;have I:=ah hB D;clear D;(go_wp2_with fail);go_ret;exact ⟨by rw [j.out];rfl,I⟩
theorem uN:∀ g:Nat,fY g (lc g)
 | 0=>⟨fun _ _ _ _ _ h=>h.elim,fun _ _ _ _ _ h=>h.elim,fun _ _ _ _ _ h=>h.elim,fun _ _ _ _ _ h=>h.elim,fun _ _ _ _ _ h=>h.elim⟩
 | g+1=>⟨uz g _ (uN g),uE g _ (uN g),pd g _ (uN g),uF g _ (uN g),uV g _ (uN g)⟩
theorem sQ (b:Nat) (w:World):Calls Tryz.prog 62 #[.slice none 0 0,.func (.func 63) #[] #[.pointer (some ⟨b,0,none⟩)]] w fun e w'=>e=.returned (.int .i64 (-1))∧w'=w:=by (go_enter Tryz.func62,Tryz.ntmps62);(go_wp2_with fail);refine wp_loop_rounds 1 ?_;rw [rounds_succ];(go_wp2_with fail);go_ret;exact ⟨rfl,rfl⟩
theorem sR (w:World):Calls Tryz.prog 110 #[.slice none 0 0,.func (.func 111) #[] #[]] w fun e w'=>e=.returned (.slice none 0 0)∧w'=w:=by (go_enter Tryz.func110,Tryz.ntmps110);(go_wp2_with fail);go_ret;exact ⟨rfl,rfl⟩
theorem sS (w:World):Calls Tryz.prog 217 #[.slice none 0 0,.int .i64 0,.int .i64 0,.func (.func 107) #[] #[]] w fun e w'=>e=.returned (.tuple #[])∧w'=w:=by (go_enter Tryz.func217,Tryz.ntmps217);(go_wp2_with fail);refine wp_loop_rounds 1 ?_;rw [rounds_succ];(go_wp2_with fail);go_end0;exact ⟨rfl,rfl⟩
theorem oI (w:World):Calls Tryz.prog 226 #[.int .u64 0] w fun e w'=>e=.returned (.int .i64 0)∧w'=w:=by (go_enter Tryz.func226,Tryz.ntmps226);(go_wp2_with fail);go_ret;refine ⟨?_,rfl⟩;show Ending.returned (.int .i64 (wrap64 (wrap64 (len8 0))))=_;rw [show wrap64 (wrap64 (len8 0))=0 by decide +kernel]
theorem sT (w:World):Calls Tryz.prog 156 #[.int .u64 0] w fun e w'=>e=.returned (.int .i64 0)∧w'=w:=by (go_enter Tryz.func156,Tryz.ntmps156);(go_wp2_with fail);refine (oI _).mono ?_;rintro e w1 ⟨rfl,rfl⟩;(go_wp2_with fail);go_ret;exact ⟨rfl,rfl⟩
theorem sU (w:World):Calls Tryz.prog 155 #[.slice none 0 0,.int .i64 0,.int .i64 0,.int .i64 0,.func (.func 107) #[] #[]] w fun e w'=>e=.returned (.tuple #[])∧w'=w:=by (go_enter Tryz.func155,Tryz.ntmps155);(go_wp2_with fail);refine wp_loop_rounds 1 ?_;rw [rounds_succ];(go_wp2_with fail);refine (sS _).mono ?_;rintro e w1 ⟨rfl,rfl⟩;(go_wp2_with fail);(first | go_end0 | (refine bodyPost_ret (results_none rfl _ _ _) rfl ?_));exact ⟨rfl,rfl⟩
theorem sV (w:World):Calls Tryz.prog 106 #[.slice none 0 0,.func (.func 107) #[] #[]] w fun e w'=>e=.returned (.tuple #[])∧w'=w:=by (go_enter Tryz.func106,Tryz.ntmps106);(go_wp2_with fail);refine (sT _).mono ?_;rintro e w1 ⟨rfl,rfl⟩;(go_wp2_with fail);refine (sU _).mono ?_;rintro e w1 ⟨rfl,rfl⟩;(go_wp2_with fail);(first | go_end0 | (refine bodyPost_ret (results_none rfl _ _ _) rfl ?_));exact ⟨rfl,rfl⟩
theorem p6 (A:Option Addr) (cp:Nat) (t:ByteArray) (p:Int) (w:World):Calls Tryz.prog 105 #[.agg #[.int .i64 1,.string t,.slice A 0 cp,.int .i64 p]] w fun e w'=>e=.returned (.slice none 0 0)∧Below w.heap.size w w':=by have D:=hid (show Below w.heap.size w (w.alloc (.cells #[.int .i64 1,.string t,.slice A 0 cp,.int .i64 p] 41)) from bel);(go_enter Tryz.func105,Tryz.ntmps105);(go_wp2_with fail);refine wp_loop_rounds 1 ?_;rw [rounds_succ];(go_wp2_with fail);go_ret;exact ⟨rfl,D.out⟩
end
section
open Go.RowKit Go.Lib Go.Proofs
attribute [local go_sem ↓] Go.wp_at_zero Go.wp_at_succ
attribute [local go_sem] bU bV bW
theorem iE [NsC] (X:Nat) (s:ByteArray) (i:Nat) (l:List aV) (k:Int) (j:Nat) (hj:j≤i) (S:l.length+1≤65537) (w:World) (h:bP w X s i l) :
  Calls Tryz.prog 178 #[.pointer (some ⟨X,0,none⟩),.int .i64 k,.int .i64 (j:Int)] w (lB X s w i (l++[⟨k,s.extract j i,j⟩]) (.tuple #[])):=by
 obtain ⟨lv,nv,D⟩:=h.out;have hb:=D.blk;have O:=D.toks;have Q:=hb.lt;have M:=h.le;have J:=h.most;obtain ⟨A0,c0,K,_⟩:=O.form;subst K;obtain ⟨x0,x1,x2,x3,f0,f1,f2,f3⟩:=aJ hb;(have p0:(0:Int)≤(j:Int):=by omega);(have p1:(j:Int)≤(i:Int):=by omega);(have p2:(i:Int)≤(s.size:Int):=by omega);(go_enter Tryz.func178,Tryz.ntmps178);(go_wp2_with fail);go_region_law (first
  | (refine iK (by rfl) (.tmp 10) (.tmp 24) (by rfl) (X+1) _ _ l ⟨k,s.extract j i,j⟩ (by rfl) _ (by rfl) (by simp) (O.below (Below.refl _ _).drew) (by simp;omega) (by omega) ?_;intro g c w1 I;have N:=(ac.drew hb).below I.bel (Nat.lt_succ_self _);obtain ⟨r,q,o,U,z,y,x,u⟩:=aJ N))
 all_goals go_end0;exact ⟨rfl,⟨⟨_,_,(D.below (Below.refl _ _).drew).row I⟩,M,J,by rw [List.length_append];simpa using S⟩,((Below.refl X w).drew.trans (I.bel.mono (Nat.le_succ _))).setCell (Nat.le_refl _) _⟩
def dz:ByteArray:=(⟨#[32,43,43,32,45,45,32,41,32,93,32,125,32]⟩:BA)
def mL (t:aV):Bool:=
 if t.kind=1∨t.kind=4∨t.kind=5 then true
 else if t.kind=2∨t.kind=3 then decide (t.text=(⟨#[98,114,101,97,107]⟩:BA))||(decide (t.text=(⟨#[99,111,110,116,105,110,117,101]⟩:BA))||(decide (t.text=(⟨#[114,101,116,117,114,110]⟩:BA))||decide (t.text=(⟨#[102,97,108,108,116,104,114,111,117,103,104]⟩:BA))))
 else Lib.contains dz.data.toList ((⟨#[32]⟩++t.text++⟨#[32]⟩:ByteArray)).data.toList
def b9 (l:List aV):Bool:=match l.getLast? with
 | none=>false
 | some t=>mL t
theorem cq.at_ {B:Nat} {w:World} {v:Value} {l:List aV} (h:cq B w v l) (i:Nat) (D:i<l.length) :
  ∃ g c,v=.slice (some ⟨g,0,none⟩) l.length c∧B≤g∧g<w.heap.size∧w.cell? ⟨g,i * 3,none⟩=some (.int .i64 l[i].kind)∧w.cell? ⟨g,i * 3+1,none⟩=some (.string l[i].text)∧w.cell? ⟨g,i * 3+2,none⟩=some (.int .i64 l[i].pos):=by obtain ⟨g,c,I,U,J⟩:=World.ownsRow.form h (by omega);obtain ⟨A,c',e,_⟩:=h.form;rw [I] at e;injection e with e1 e2 e3;subst e1 e3;have S:=ae.of_own (I▸h:w.ownsRow B _ 3 (.slice (some ⟨g,0,none⟩) l.length c) l.length (l.flatMap fI));obtain ⟨b,off,M,hb,K⟩:=S.el cT (by omega) rfl D;injection M with M;injection M with e4 e5;subst e4 e5;have Q:=K i D 0 _ rfl;have O:=K i D 1 _ rfl;have N:=K i D 2 _ rfl;simp only [Nat.zero_add,Nat.add_zero] at Q O N;exact ⟨g,c,I,U,J,Q,O,N⟩
theorem uQ {w:World} {g:Nat} {t:TypeId} {a b c:Value} (h:ac w g t #[a,b,c]):w.cell? ⟨g,0,none⟩=some a∧w.cell? ⟨g,1,none⟩=some b∧w.cell? ⟨g,2,none⟩=some c:=by have c0:=h.cell 0;have c1:=h.cell 1;have c2:=h.cell 2;simp at c0 c1 c2;exact ⟨c0,c1,c2⟩
theorem nT [NsC] (X:Nat) (s:ByteArray) (i:Nat) (l:List aV) (w:World) (h:bP w X s i l) (hT:ay w) (K:∀ t∈l,t.text.size≤65536) :
  Calls Tryz.prog 183 #[.pointer (some ⟨X,0,none⟩)] w fun e w'=>e=.returned (.bool (b9 l))∧Below w.heap.size w w':=by
 obtain ⟨lv,nv,N⟩:=h.out;have hb:=N.blk;have hO:=N.toks;have gd:=hb.lt;have z:=h.few;obtain ⟨A0,c0,M,ga⟩:=hO.form;obtain ⟨x0,x1,U,x3,-,-,-,-⟩:=aJ hb;rw [M] at U;by_cases y:l.length=0
 ·have hE:=hid (show b9 l=false by rw [List.eq_nil_of_length_eq_zero y];rfl);rw [y] at U;(go_enter Tryz.func183,Tryz.ntmps183);(go_wp2_with fail);go_ret;exact ⟨by rw [hE.out];rfl,Below.refl _ _⟩
 ·obtain ⟨g,c,x,hg,ge,u,r,o⟩:=hO.at_ (l.length-1) (by omega);rw [M] at x;injection x with e1 e2 e3;subst e1 e3;(have J:l.getLast? = some (l[l.length-1]'(by omega)):=by rw [List.getLast?_eq_getElem?,List.getElem?_eq_getElem]);have k:=hid (show b9 l=mL (l[l.length-1]'(by omega)) by unfold b9;rw [J]);have j:=hid (K _ (List.getElem_mem (show l.length-1<l.length by omega)));generalize l[l.length-1]'(by omega)=t at *;obtain ⟨tk,tt,tp⟩:=t;simp only at u r o;(have gb:((l.length:Int)==0)=false:=by rw [beq_eq_false_iff_ne];omega);(have p1:(0:Int)≤(l.length:Int)-1:=by omega);(have p2:(l.length:Int)-1<(l.length:Int):=by omega);(have p3:(1:Int)≤(l.length:Int):=by omega);(have q2:((l.length:Int)-1).toNat=l.length-1:=by omega);have q1:IntKind.i64.wrap ((l.length:Int)-1)=(l.length:Int)-1:=IntWalk.i64_in _ (by omega);have HT:=hid hT;clear J hT K;(go_enter Tryz.func183,Tryz.ntmps183);(go_upto_region 3 with fail);go_cut [3] (fun s3 wx=>∃ b,s3=.pointer (some ⟨b,0,none⟩)∧ac wx b 116 #[.int .i64 tk,.string tt,.int .i64 tp]∧Below w.heap.size w wx)
  case first=>go_region_law (fail);all_goals (go_wp2_with fail);go_meet;exact ⟨_,rfl,(ac.new _ _ _).drew,((Below.refl _ _).alloc (Nat.le_refl _) _).drew⟩
  case rest=>
   obtain ⟨b,rfl,hB,D⟩:=hcut;obtain ⟨y0,y1,y2⟩:=uQ hB;have Q:=hid (ba dz (⟨#[32]⟩++tt++⟨#[32]⟩) wc (HT.out.below D) (by unfold dz;simp [ByteArray.size]));clear u r o x0 x1 U x3 hB;by_cases O:tk=1∨tk=4∨tk=5
   ·have I:=hid (show b9 l=true by rw [k.out,mL,if_pos O]);rcases O with rfl | rfl | rfl;all_goals (go_wp2_with fail);go_ret;exact ⟨by rw [I.out];rfl,D⟩
   ·by_cases S:tk=2∨tk=3
    ·have I:=hid (show b9 l=((tt.toList==[98,114,101,97,107])||((tt.toList==[99,111,110,116,105,110,117,101])||((tt.toList==[114,101,116,117,114,110])||(tt.toList==[102,97,108,108,116,104,114,111,117,103,104])))) by rw [k.out,mL,if_neg O,if_pos S,←bK tt [98,114,101,97,107],←bK tt [99,111,110,116,105,110,117,101],←bK tt [114,101,116,117,114,110],←bK tt [102,97,108,108,116,104,114,111,117,103,104]]);cases g1:(tt.toList==[98,114,101,97,107]) <;> cases g2:(tt.toList==[99,111,110,116,105,110,117,101]) <;> cases g3:(tt.toList==[114,101,116,117,114,110]) <;> cases g4:(tt.toList==[102,97,108,108,116,104,114,111,117,103,104]) <;> rcases S with rfl | rfl
     all_goals rw [g1,g2,g3,g4] at I;(go_wp2_with fail);go_ret;exact ⟨by rw [I.out];rfl,D⟩
    ·have I:=hid (show b9 l=Lib.contains dz.data.toList ((⟨#[32]⟩++tt++⟨#[32]⟩:ByteArray)).data.toList by rw [k.out,mL,if_neg O,if_neg S]);generalize Lib.contains dz.data.toList ((⟨#[32]⟩++tt++⟨#[32]⟩:ByteArray)).data.toList=q at *;(have e1:(tk==1)=false:=by rw [beq_eq_false_iff_ne];omega);(have e2:(tk==2)=false:=by rw [beq_eq_false_iff_ne];omega);(have e3:(tk==3)=false:=by rw [beq_eq_false_iff_ne];omega);(have e4:(tk==4)=false:=by rw [beq_eq_false_iff_ne];omega);(have e5:(tk==5)=false:=by rw [beq_eq_false_iff_ne];omega);clear O S;unfold dz at Q;have K:tt.size≤65536:=j.out;(go_wp2_with fail);refine Q.out.mono ?_;rintro e w2 ⟨rfl,rfl⟩;(go_wp2_with fail);go_ret;exact ⟨by rw [I.out];rfl,D⟩
end
section
open Go.RowKit Go.Lib Go.Proofs
attribute [local go_sem ↓] Go.wp_at_zero Go.wp_at_succ
def et (l:List aV) (p:Int):List aV:=if b9 l=true then l++[⟨6,⟨#[10]⟩,p⟩] else l
theorem mM [NsC] (X:Nat) (s:ByteArray) (i:Nat) (l:List aV) (p:Int) (u:l.length+1≤65537) (w:World) (h:bP w X s i l) (x:ay w) (S:∀ t∈l,t.text.size≤65536) :
  Calls Tryz.prog 127 #[.pointer (some ⟨X,0,none⟩),.int .i64 p] w (lB X s w i (et l p) (.tuple #[])):=by
 have Q:=hid (nT X s i l w h x S);have N:=h.lt;cases K:b9 l with
 | false=>have o:=hid (show et l p=l by unfold et;rw [if_neg (by rw [K];decide)]);rw [K] at Q;clear K;(go_enter Tryz.func127,Tryz.ntmps127);(go_wp2_with fail);refine Q.out.mono ?_;rintro e w1 ⟨rfl,D⟩;(go_wp2_with fail);go_end0;rw [o.out];exact ⟨rfl,h.below D,D.mono (Nat.le_of_lt N)⟩
 | true=>have o:=hid (show et l p=l++[⟨6,⟨#[10]⟩,p⟩] by unfold et;rw [if_pos K]);rw [K] at Q;clear K;(go_enter Tryz.func127,Tryz.ntmps127);(go_wp2_with fail);refine Q.out.mono ?_;rintro e w1 ⟨rfl,D⟩;have k:=h.below D;have O:=k.le;have M:=k.most;obtain ⟨lv,nv,I⟩:=k.out;have hb:=I.blk;have r:=I.toks;obtain ⟨A0,c0,U,_⟩:=r.form;subst U;obtain ⟨x0,x1,x2,x3,f0,f1,f2,f3⟩:=aJ hb;have q:=hb.lt;go_wp2_with (at_builtin;refine l7 rfl (.tmp 10) (.tmp 13) rfl (X+1) _ _ l ⟨6,⟨#[10]⟩,p⟩ rfl _ rfl (by simp) r (by omega) (by omega) ?_;intro g c w2 J;have j:=hb.below J.bel (Nat.lt_succ_self _);obtain ⟨z0,z1,z,y,y0,y1,y2,y3⟩:=aJ j);go_end0;rw [o.out];exact ⟨rfl,⟨⟨_,_,I.row J⟩,O,M,by rw [List.length_append];simpa using u⟩,((D.mono (Nat.le_of_lt N)).trans (J.bel.mono (Nat.le_succ _))).setCell (Nat.le_refl _) _⟩
theorem cc (s:ByteArray) (i:Nat) (D:i<s.size) (W:World):(Instr.index 9 (.string s) (.int .i64 (i:Int))).run Tryz.prog W=.ok (.int .u8 (af s i:Int)) W:=by rw [run_index_string (P:=Tryz.prog) W 9 s .i64 (i:Int) Tryz.underlying9];simp [af,D];rfl
def aK (c:Int):Bool:=am c||aj c
def be (l:List UInt8):Nat:=(l.takeWhile fun c=>aK (c.toNat:Int)).length
theorem dV {α:Type} [Inhabited α] (p:α→Bool):∀ (l:List α) (j:Nat),j≤l.length→(∀ k,k<j→p (l.getD k default)=true)→(j<l.length→p (l.getD j default)=false)→(l.takeWhile p).length=j
 | [],j,h,_,_=>by simp at h;simp [h]
 | x::l,0,_,_,h=>by have:=h (by simp);rw [List.takeWhile_cons,if_neg (by simpa using this)];rfl
 | x::l,j+1,I,D,J=>by have K:=D 0 (by omega);rw [List.takeWhile_cons,if_pos (by simpa using K),List.length_cons,dV p l j (by simpa using I) (fun k hk=>by simpa using D (k+1) (by omega)) (fun h=>by simpa using J (by simpa using h))]
theorem cd (s:ByteArray) (i:Nat):(s.extract i s.size).data.toList=s.data.toList.drop i:=by rw [ByteArray.data_extract,Array.toList_extract];rw [List.extract_eq_take_drop];exact List.take_of_length_le (by rw [List.length_drop];exact Nat.le_of_eq rfl)
theorem ce (s:ByteArray) (i:Nat):(s.extract i s.size).size=s.size-i:=by have:=congrArg List.length (cd s i);rw [List.length_drop] at this;exact this
theorem uk (a:Array Value) (w:World):(callFunc 176 a).run Tryz.prog w=.ok (.enter 176 a) w:=by kernel_rfl
theorem ul (a:Array Value) (w:World):(callFunc 180 a).run Tryz.prog w=.ok (.enter 180 a) w:=by kernel_rfl
theorem um (c:Int) (w:World):Calls Tryz.prog 176 #[.int .i32 c] w fun e w'=>e=.returned (.bool (aK c))∧w=w':=by
 unfold aK;cases D:am c <;> cases I:aj c;all_goals
  (go_enter Tryz.func176,Tryz.ntmps176);(go_wp2_with fail);refine (bL _ _).mono ?_;rw [D];rintro e w1 ⟨rfl,rfl⟩;(go_wp2_with fail);try
   refine (cZ _ _).mono ?_
   rw [I]
   rintro e w1 ⟨rfl,rfl⟩
   go_wp2_with fail
  go_ret;exact ⟨rfl,rfl⟩
theorem un (c:Int) (w:World):Calls Tryz.prog 180 #[.int .i32 c] w fun e w'=>e=.returned (.bool (aK c))∧w=w':=by
 unfold aK;cases D:am c <;> cases I:aj c;all_goals
  (go_enter Tryz.func180,Tryz.ntmps180);(go_wp2_with fail);refine (bL _ _).mono ?_;rw [D];rintro e w1 ⟨rfl,rfl⟩;(go_wp2_with fail);try
   refine (cZ _ _).mono ?_
   rw [I]
   rintro e w1 ⟨rfl,rfl⟩
   go_wp2_with fail
  go_ret;exact ⟨rfl,rfl⟩
theorem eZ {c:Int} (h:128≤c):aK c=false:=by unfold aK;rw [cH h,bi h];rfl
theorem lH [NsC] (f:FuncId) (hf:∀ a w,(callFunc f a).run Tryz.prog w=.ok (.enter f a) w) (hC:∀ (c:Int) (w:World),Calls Tryz.prog f #[.int .i32 c] w fun e w'=>e=.returned (.bool (aK c))∧w=w')
  (X:Nat) (s:ByteArray) (i:Nat) (l:List aV) (w:World) (h:bP w X s i l) :
  Calls Tryz.prog 175 #[.pointer (some ⟨X,0,none⟩),.func (.func f) #[] #[]] w (lB X s w (i+be (s.data.toList.drop i)) l (.tuple #[])):=by
 obtain ⟨lv,nv,gi⟩:=h.out;have hb:=gi.blk;have x:=hb.lt;have gn:=h.le;have gm:=h.most;have HH:=hid h;obtain ⟨x0,x1,x2,x3,f0,f1,f2,f3⟩:=aJ hb;(have p0:(0:Int)≤(i:Int):=by omega);(have p2:(i:Int)≤(s.size:Int):=by omega);(go_enter Tryz.func175,Tryz.ntmps175);(go_upto_region 0 with fail);go_cut [15] (fun gb wx=>∃ b,gb=.pointer (some ⟨b,0,none⟩)∧wx.heap[b]? = some (.stringIter (s.extract i s.size) 0)∧w.heap.size≤b∧Below w.heap.size w wx)
 case first=>go_region_law (fail);(all_goals go_wp2_with fail);all_goals go_meet;exact ⟨_,rfl,World.iter_heap w.drew _ 0,Nat.le_refl _,((Below.refl w.heap.size w).drew.alloc (Nat.le_refl _) _)⟩
 case rest=>
  obtain ⟨b,rfl,hit,gh,S⟩:=hcut;have HT:=hid (cd s i);have gj:=hid (ce s i);generalize s.extract i s.size=t at *;have gl:t.size=s.size-i:=gj.out;clear x0 x1 x2 x3 f0 f1 f2 f3;(go_wp2_with fail);go_loopg [4,5,16,17] t.size (fun g _ _ _ _ wr=>∃ j:Nat,j≤t.size∧t.size-j≤g∧wr.heap[b]? = some (.stringIter t j)∧Below w.heap.size w wr∧(∀ k,k<j→aK ((t.data.toList.getD k 0).toNat:Int)=true))
  case atStart=>exact ⟨0,Nat.zero_le _,by omega,hit,S,fun k hk=>by omega⟩
  case round=>
   clear hit S;obtain ⟨j,hj,hg,hit,hB,Q⟩:=hrel;have u:=hid hit;have HA:=hid Q;clear hit Q;by_cases I:j<t.size
   ·have hw:=fj t j I;have U:=dU t j I;have J:=fun ty=>run_next_any_at (P:=Tryz.prog) wr b t j ty u.out I;generalize hbb:(t.data.toList.getD j 0).toNat=bb at *;generalize hd:Utf8.decode t j=q at *;obtain ⟨r,k⟩:=q;simp only at hw J U;have O:aK (r:Int)=aK (bb:Int)∧(aK (r:Int)=true→k=1):=by
     rcases U with ⟨e,_⟩ | ⟨h1,h2⟩
     ·injection e with e1 e2;subst e1 e2;exact ⟨rfl,fun _=>rfl⟩
     ·rw [eZ (by omega),eZ (by omega)];exact ⟨rfl,by simp⟩
    have ga:=hid hbb;have D:=hid O;have j1:=iterAt_heap wr b t j (j+k) u.out;have j2:Below w.heap.size w (wr.iterAt b t (j+k)):=ao hB gh;generalize wr.iterAt b t (j+k)=W1 at J j1 j2;have J1:=hid j1;have M:=HH.out.below j2;obtain ⟨ge,gd,K⟩:=M.out;have o:=K.blk;obtain ⟨x0,x1,x2,x3,f0,f1,f2,f3⟩:=aJ o;clear O U j1 hd hbb;cases y:aK (r:Int) with
    | true=>
     have hk:=D.out.2 y;have z:=hid (show ∀ k',k'<j+k→aK ((t.data.toList.getD k' 0).toNat:Int)=true by
      intro k' hk';by_cases e:k'=j
      ·subst e;rw [ga.out,←D.out.1,y]
      ·exact HA.out k' (by omega))
     clear x0 x1 x2 x3 f0 f1 f2 f3 D HA;(go_wp2_with fail);refine (hC _ _).mono ?_;rw [y];rintro e w1 ⟨rfl,rfl⟩;(go_wp2_with fail);go_roundg (t.size-(j+k))
     case measure=>omega
     case rel=>exact ⟨j+k,hw.2,Nat.le_refl _,J1.out,j2,z.out⟩
    | false=>have HL:=hid (show i+be (s.data.toList.drop i)=i+j by rw [←HT.out];congr 1;refine dV _ _ j (by simpa using hj) (fun k' hk'=>HA.out k' hk') (fun _=>?_);have:=D.out.1;rw [y,←ga.out] at this;exact this.symm);clear D HA;(go_wp2_with fail);refine (hC _ _).mono ?_;rw [y];rintro e w1 ⟨rfl,rfl⟩;have q1:IntKind.i64.wrap ((i:Int)+(j:Int))=(i:Int)+(j:Int):=IntWalk.i64_in _ (by omega);(go_wp2_with fail);refine bodyPost_ret (results_none rfl _ _ _) rfl ?_;rw [HL.out];have N:=M.set (i+j) (by omega);rw [show ((i+j:Nat):Int)=(i:Int)+(j:Int) by omega] at N;exact ⟨rfl,N,(j2.mono (Nat.le_of_lt x)).setCell (Nat.le_refl _) _⟩
   ·(have gg:j=t.size:=by omega);have HL:=hid (show i+be (s.data.toList.drop i)=s.size by rw [←HT.out,show be t.data.toList=j from dV _ _ j (by simpa using hj) (fun k' hk'=>HA.out k' hk') (fun h=>absurd h (by rw [gg];simp))];omega);have yk:=fun ty=>run_next_end_at (P:=Tryz.prog) wr b t j ty u.out I;have M:=HH.out.below hB;obtain ⟨ge,gd,K⟩:=M.out;have o:=K.blk;obtain ⟨x0,x1,x2,x3,f0,f1,f2,f3⟩:=aJ o;(go_wp2_with fail);go_end0;rw [HL.out];exact ⟨rfl,M.set s.size (Nat.le_refl _),(hB.mono (Nat.le_of_lt x)).setCell (Nat.le_refl _) _⟩
theorem cy (s p:ByteArray) (w:World):Calls Tryz.prog 172 #[.string s,.string p] w fun e w'=>e=.returned (.bool (Lib.hasPrefix s.data.toList p.data.toList))∧w=w':=
 (Any.strings_HasPrefix Tryz.laysPrefix s p w).mono fun _ _ h=>⟨h.1,h.2.symm⟩
theorem lk (s:ByteArray) (c:Int) (w:World):Calls Tryz.prog 193 #[.string s,.int .u8 c] w fun e w'=>e=.returned (.int .i64 (Lib.indexByte s.data.toList (UInt8.ofNat c.toNat)))∧w=w':=
 (Any.strings_IndexByte Tryz.laysIndexByte s c w).mono fun _ _ h=>⟨h.1,h.2.symm⟩
theorem pw (s sub:ByteArray) (w:World) (I:ay w) (J:s.size≤2000000000) :
  Calls Tryz.prog 114 #[.string s,.string sub] w fun e w'=>e=.returned (.int .i64 (Lib.index s.data.toList sub.data.toList))∧w=w':=by obtain ⟨m,D⟩:=I;exact (Any.strings_Index Tryz.laysIndex s sub m w (by omega) D).mono fun _ _ h=>⟨h.1,h.2.symm⟩
theorem nV (X:Nat) (p:Int) (w:World):Calls Tryz.prog 236 #[.pointer (some ⟨X,0,none⟩),.bool true,.int .i64 p] w fun e w'=>e=.returned (.tuple #[])∧w=w':=by (go_enter Tryz.func236,Tryz.ntmps236);(go_wp2_with fail);go_end0;exact ⟨rfl,rfl⟩
inductive we where
 | go (i:Nat) (l:List aV)
 | note (i:Nat)
 | out
def ll:ByteArray:=(⟨#[60,60,61,32,62,62,61,32,38,94,61,32,46,46,46]⟩:BA)
def lm:ByteArray:=(⟨#[38,38,32,124,124,32,61,61,32,33,61,32,60,61,32,62,61,32,58,61,32,43,43,32,45,45,32,43,61,32,45,61,32,42,61,32,47,61,32,37,61,32,38,61,32,124,61,32,94,61,32,60,60,32,62,62,32,38,94,32,60,45]⟩:BA)
def ln:ByteArray:=(⟨#[43,32,45,32,42,32,47,32,37,32,38,32,124,32,94,32,60,32,62,32,61,32,33,32,40,32,41,32,91,32,93,32,123,32,125,32,44,32,59,32,46,32,58,32,126]⟩:BA)
theorem mV {fn:Func} {q:Tmp} {ty:TypeId} (I:fn.results = #[.cell q 103]) (tmps:Array Value) {w:World} {g:Nat} {a b c:Value} (J:tmps.getD q undef=.pointer (some ⟨g,0,none⟩)) (hb:ac w g ty #[a,b,c]) :
  (results fn tmps).run Tryz.prog w=.ok (.agg #[a,b,c]) w:=by obtain ⟨N,M,K⟩:=uQ hb;unfold results;rw [I];(have D:tmps[q]?.getD undef=.pointer (some ⟨g,0,none⟩):=by simpa using J);simp [D,go_sem,N,M,K]
theorem px (w:World):Calls Tryz.prog 237 #[] w fun e w'=>e=.returned (.agg #[.string ll,.string lm,.string ln])∧Below w.heap.size w w':=by (go_enter Tryz.func237,Tryz.ntmps237);(go_wp2_with fail);refine bodyPost_ret (mV (ty:=103) rfl _ (g:=w.heap.size) (by rfl) (a:=.string ll) (b:=.string lm) (c:=.string ln) (ac.new w _ _)) rfl ?_;exact ⟨rfl,(Below.refl _ _).alloc (Nat.le_refl _) _⟩
theorem eM (a b c:ByteArray) (i:Nat) (D:i<3) (w:World):(Instr.index 103 (.agg #[.string a,.string b,.string c]) (.int .i64 (i:Int))).run Tryz.prog w=.ok (.string (if i=0 then a else if i=1 then b else c)) w:=by
 rcases i with _ | _ | _ | i
 ·simp [Instr.index,run_underlying Tryz.underlying103,asIntOf,go_sem]
 ·simp [Instr.index,run_underlying Tryz.underlying103,asIntOf,go_sem]
 ·simp [Instr.index,run_underlying Tryz.underlying103,asIntOf,go_sem]
 ·omega
def ee (row:ByteArray) (t:ByteArray) (n:Nat):Bool:=Lib.contains ((⟨#[32]⟩++row++⟨#[32]⟩:ByteArray)).data.toList ((⟨#[32]⟩++t.extract 0 n++⟨#[32]⟩:ByteArray)).data.toList
def eN (s:ByteArray) (i:Nat):Nat:=
 if 3≤s.size-i∧ee ll (s.extract i s.size) 3=true then 3
 else if 2≤s.size-i∧ee lm (s.extract i s.size) 2=true then 2
 else if 1≤s.size-i∧ee ln (s.extract i s.size) 1=true then 1
 else 0
def oU (s:ByteArray) (i:Nat) (l:List aV):we:=
 if eN s i=0 then .out else .go (i+eN s i) (l++[⟨6,s.extract i (i+eN s i),i⟩])
theorem rM [NsC] (X:Nat) (s:ByteArray) (i:Nat) (l:List aV) (w:World) (h:bP w X s i l) (U:ay w) (hl:l.length+1≤65537) (n:Nat) (hn:eN s i=n) (o:n≠0) :
  Calls Tryz.prog 182 #[.pointer (some ⟨X,0,none⟩)] w (lB X s w (i+n) (l++[⟨6,s.extract i (i+n),i⟩]) (.tuple #[])):=by
 obtain ⟨lv,nv,Q⟩:=h.out;have hb:=Q.blk;have gm:=h.le;have gl:=h.most;have q:=hb.lt;have HH:=hid h;obtain ⟨x0,x1,x2,x3,-,-,-,-⟩:=aJ hb;(have p0:(0:Int)≤(i:Int):=by omega);(have p2:(i:Int)≤(s.size:Int):=by omega);have M:=ce s i;(have D:(if 3≤(s.extract i s.size).size∧ee ll (s.extract i s.size) 3=true then 3 else if 2≤(s.extract i s.size).size∧ee lm (s.extract i s.size) 2=true then 2 else if 1≤(s.extract i s.size).size∧ee ln (s.extract i s.size) 1=true then 1 else 0)=n:=by rw [←hn,M];rfl);have H3:=hid (fun w' (hb:Below w.heap.size w w')=>ba (⟨#[32]⟩++ll++⟨#[32]⟩) (⟨#[32]⟩++(s.extract i s.size).extract 0 3++⟨#[32]⟩) w' (U.below hb) (Nat.le_trans (show _≤100 by decide +kernel) (by omega)));have H2:=hid (fun w' (hb:Below w.heap.size w w')=>ba (⟨#[32]⟩++lm++⟨#[32]⟩) (⟨#[32]⟩++(s.extract i s.size).extract 0 2++⟨#[32]⟩) w' (U.below hb) (Nat.le_trans (show _≤100 by decide +kernel) (by omega)));have H1:=hid (fun w' (hb:Below w.heap.size w w')=>ba (⟨#[32]⟩++ln++⟨#[32]⟩) (⟨#[32]⟩++(s.extract i s.size).extract 0 1++⟨#[32]⟩) w' (U.below hb) (Nat.le_trans (show _≤100 by decide +kernel) (by omega)));rw [show Lib.contains ((⟨#[32]⟩++ln++⟨#[32]⟩:ByteArray)).data.toList ((⟨#[32]⟩++(s.extract i s.size).extract 0 1++⟨#[32]⟩:ByteArray)).data.toList=ee ln (s.extract i s.size) 1 from rfl] at H1;rw [show Lib.contains ((⟨#[32]⟩++lm++⟨#[32]⟩:ByteArray)).data.toList ((⟨#[32]⟩++(s.extract i s.size).extract 0 2++⟨#[32]⟩:ByteArray)).data.toList=ee lm (s.extract i s.size) 2 from rfl] at H2;rw [show Lib.contains ((⟨#[32]⟩++ll++⟨#[32]⟩:ByteArray)).data.toList ((⟨#[32]⟩++(s.extract i s.size).extract 0 3++⟨#[32]⟩:ByteArray)).data.toList=ee ll (s.extract i s.size) 3 from rfl] at H3;clear U hn;generalize ee ll (s.extract i s.size) 3=c3 at *;generalize ee lm (s.extract i s.size) 2=c2 at *;generalize ee ln (s.extract i s.size) 1=c1 at *;(have g3:ll.size≤100:=by decide +kernel);(have g2:lm.size≤100:=by decide +kernel);(have g1:ln.size≤100:=by decide +kernel);have S:=hid (fun w=>px w);generalize ll=r3 at *;generalize lm=r2 at *;generalize ln=r1 at *;(go_enter Tryz.func182,Tryz.ntmps182);(go_wp2_with fail);go_quiet (fail);have hB:=ab (Below.refl w.heap.size w) nq;generalize w.drewN nq=w1 at *;generalize s.extract i s.size=t at *;clear x0 x1 x2 x3;(go_wp2_with fail);refine (S.out _).mono ?_;rintro e w2 ⟨rfl,O⟩;have I:=ah hB O;clear O S;have x:=hid (HH.out.below I);obtain ⟨gg,ge,J⟩:=x.out.out;obtain ⟨x0,x1,x2,x3,f0,f1,f2,f3⟩:=aJ J.blk;have gj:∀ W:World,(Instr.index 103 (.agg #[.string r3,.string r2,.string r1]) (.int .i64 0)).run Tryz.prog W=.ok (.string r3) W:=fun W=>eM r3 r2 r1 0 (by omega) W;have gi:∀ W:World,(Instr.index 103 (.agg #[.string r3,.string r2,.string r1]) (.int .i64 1)).run Tryz.prog W=.ok (.string r2) W:=fun W=>eM r3 r2 r1 1 (by omega) W;have gh:∀ W:World,(Instr.index 103 (.agg #[.string r3,.string r2,.string r1]) (.int .i64 2)).run Tryz.prog W=.ok (.string r1) W:=fun W=>eM r3 r2 r1 2 (by omega) W;have N:i+n≤s.size∧n≤3:=by
  revert D;split
  ·omega
  ·split
   ·omega
   ·split <;> omega
 have z:=hid (fun w' (h:bP w' X s (i+n) l)=>iE X s (i+n) l 6 i (by omega) hl w' h);have u:=hid (x.out.set (i+n) N.1);have y:=hid (((I.mono (Nat.le_of_lt q)).setCell (p:=⟨X,1,none⟩) (Nat.le_refl _) (.int .i64 ((i+n:Nat):Int))));have K:(3≤t.size∧c3=true∧n=3)∨(3≤t.size∧c3=false∧c2=true∧n=2)∨(3≤t.size∧c3=false∧c2=false∧c1=true∧n=1)∨(t.size=2∧c2=true∧n=2)∨(t.size=2∧c2=false∧c1=true∧n=1)∨(t.size=1∧c1=true∧n=1):=by
  rcases (by omega:3≤t.size∨t.size=2∨t.size=1∨t.size=0) with h | h | h | h
  ·(have h2:2≤t.size:=by omega);(have h1:1≤t.size:=by omega);cases c1 <;> cases c2 <;> cases c3 <;> simp [h,h2,h1] at D ⊢ <;> omega
  all_goals cases c1 <;> cases c2 <;> cases c3 <;> simp [h] at D ⊢ <;> omega
 have q1:IntKind.i64.wrap ((i:Int)+1)=(i:Int)+1:=IntWalk.i64_in _ (by omega);have q2:IntKind.i64.wrap ((i:Int)+2)=(i:Int)+2:=IntWalk.i64_in _ (by omega);have q3:IntKind.i64.wrap ((i:Int)+3)=(i:Int)+3:=IntWalk.i64_in _ (by omega);(have gd:IntKind.i64.wrap ((i:Int)+1-1)=(i:Int):=by rw [show (i:Int)+1-1=(i:Int) by omega];exact IntWalk.i64_in _ (by omega));(have gb:IntKind.i64.wrap ((i:Int)+2-2)=(i:Int):=by rw [show (i:Int)+2-2=(i:Int) by omega];exact IntWalk.i64_in _ (by omega));(have ga:IntKind.i64.wrap ((i:Int)+3-3)=(i:Int):=by rw [show (i:Int)+3-3=(i:Int) by omega];exact IntWalk.i64_in _ (by omega));(have gk:t.size≤s.size:=by omega);clear h M Q J hb HH D o N x;(go_wp2_with fail);refine wp_loop_rounds 4 ?_;rw [rounds_succ];rcases K with ⟨k,rfl,rfl⟩ | ⟨k,rfl,rfl,rfl⟩ | ⟨k,rfl,rfl,rfl,rfl⟩ | ⟨k,rfl,rfl⟩ | ⟨k,rfl,rfl,rfl⟩ | ⟨k,rfl,rfl⟩;all_goals
  (have k1:(1:Int)≤(t.size:Int):=by omega);(have j1:1≤t.size:=by omega);first
   | (have j2:2≤t.size:=by omega);have i2:(2:Int)≤(t.size:Int):=by omega
   | (have j2:decide (2≤t.size)=false:=by rw [decide_eq_false_iff_not];omega);have i2:decide ((2:Int)≤(t.size:Int))=false:=by rw [decide_eq_false_iff_not];omega
  first
   | (have j3:3≤t.size:=by omega);have i3:(3:Int)≤(t.size:Int):=by omega
   | (have j3:decide (3≤t.size)=false:=by rw [decide_eq_false_iff_not];omega);have i3:decide ((3:Int)≤(t.size:Int))=false:=by rw [decide_eq_false_iff_not];omega
  clear k;(go_wp2_with fail);try
   refine (H3.out _ I).mono ?_
   rintro e w3 ⟨rfl,rfl⟩
   go_wp2_with fail
  try
   rw [rounds_succ]
   go_wp2_with fail
  try
   refine (H2.out _ I).mono ?_
   rintro e w3 ⟨rfl,rfl⟩
   go_wp2_with fail
  try
   rw [rounds_succ]
   go_wp2_with fail
  try
   refine (H1.out _ I).mono ?_
   rintro e w3 ⟨rfl,rfl⟩
   go_wp2_with fail
  refine (z.out _ u.out).mono ?_;rintro e w4 ⟨rfl,j,r⟩;(go_wp2_with fail);refine bodyPost_ret (results_none rfl _ _ _) rfl ?_;exact ⟨rfl,j,y.out.trans r⟩
theorem py (w:World) (D:ay w):Calls Tryz.prog 21 #[.string (⟨#[49,46,50,49]⟩:BA)] w fun e w'=>e=.returned (.tuple #[.int .i64 21,.int .i64 0])∧Below w.heap.size w w':=by have H1:=hid (fun W=>show Calls Tryz.prog 43 #[.string (⟨#[49,46,50,49]⟩:BA),.string (⟨#[49,46]⟩:BA)] W (fun e w'=>e=.returned (.tuple #[.string (⟨#[50,49]⟩:BA),.bool true])∧w'=W) from fO (⟨#[49,46,50,49]⟩:BA) (⟨#[49,46]⟩:BA) W);have z:=hid (fun W (D:ay W)=>show Calls Tryz.prog 44 #[.string (⟨#[50,49]⟩:BA),.string (⟨#[46]⟩:BA)] W (fun e w'=>e=.returned (.tuple #[.string (⟨#[50,49]⟩:BA),.string (⟨#[]⟩:BA),.bool false])∧Below W.heap.size W w') from fP (⟨#[50,49]⟩:BA) (⟨#[46]⟩:BA) W (by decide) D);have y:=hid (fun W (D:ay W)=>show Calls Tryz.prog 44 #[.string (⟨#[50,49]⟩:BA),.string (⟨#[114,99]⟩:BA)] W (fun e w'=>e=.returned (.tuple #[.string (⟨#[50,49]⟩:BA),.string (⟨#[]⟩:BA),.bool false])∧Below W.heap.size W w') from fP (⟨#[50,49]⟩:BA) (⟨#[114,99]⟩:BA) W (by decide) D);have x:=hid (fun W (D:ay W)=>show Calls Tryz.prog 44 #[.string (⟨#[50,49]⟩:BA),.string (⟨#[98,101,116,97]⟩:BA)] W (fun e w'=>e=.returned (.tuple #[.string (⟨#[50,49]⟩:BA),.string (⟨#[]⟩:BA),.bool false])∧Below W.heap.size W w') from fP (⟨#[50,49]⟩:BA) (⟨#[98,101,116,97]⟩:BA) W (by decide) D);have u:=hid (fun W=>mT (⟨#[50,49]⟩:BA) 21 (by decide) (by decide +kernel) W);have r:=hid (fun W=>show Calls Tryz.prog 46 #[.int .i64 21] W (fun e w'=>e=.returned (.string (⟨#[50,49]⟩:BA))∧w'=W) from by have h:=mU 21 (by omega) W;rw [show Lib.decDigits 21=[50,49] by decide +kernel] at h;exact h);have q:∀ W:World,(Instr.index 103 (.agg #[.string (⟨#[46]⟩:BA),.string (⟨#[114,99]⟩:BA),.string (⟨#[98,101,116,97]⟩:BA)]) (.int .i64 0)).run Tryz.prog W=.ok (.string (⟨#[46]⟩:BA)) W:=fun W=>eM (⟨#[46]⟩:BA) (⟨#[114,99]⟩:BA) (⟨#[98,101,116,97]⟩:BA) 0 (by omega) W;have o:∀ W:World,(Instr.index 103 (.agg #[.string (⟨#[46]⟩:BA),.string (⟨#[114,99]⟩:BA),.string (⟨#[98,101,116,97]⟩:BA)]) (.int .i64 1)).run Tryz.prog W=.ok (.string (⟨#[114,99]⟩:BA)) W:=fun W=>eM (⟨#[46]⟩:BA) (⟨#[114,99]⟩:BA) (⟨#[98,101,116,97]⟩:BA) 1 (by omega) W;have k:∀ W:World,(Instr.index 103 (.agg #[.string (⟨#[46]⟩:BA),.string (⟨#[114,99]⟩:BA),.string (⟨#[98,101,116,97]⟩:BA)]) (.int .i64 2)).run Tryz.prog W=.ok (.string (⟨#[98,101,116,97]⟩:BA)) W:=fun W=>eM (⟨#[46]⟩:BA) (⟨#[114,99]⟩:BA) (⟨#[98,101,116,97]⟩:BA) 2 (by omega) W;have j:=hid D;clear D;(go_enter Tryz.func21,Tryz.ntmps21);(go_wp2_with fail);refine (H1.out _).mono ?_;rintro e w1 ⟨rfl,rfl⟩;(go_wp2_with fail);refine wp_loop_rounds 4 ?_;rw [rounds_succ];(go_wp2_with fail);refine (z.out _ j.out).mono ?_;rintro e w2 ⟨rfl,M⟩;have N:=j.out.below M;(go_wp2_with fail);rw [rounds_succ];(go_wp2_with fail);refine (y.out _ N).mono ?_;rintro e w3 ⟨rfl,I⟩;have O:=N.below I;have U:=ah M I;clear I;(go_wp2_with fail);rw [rounds_succ];(go_wp2_with fail);refine (x.out _ O).mono ?_;rintro e w4 ⟨rfl,K⟩;have S:=ah U K;clear K;(go_wp2_with fail);rw [rounds_succ];(go_wp2_with fail);refine (u.out _).mono ?_;rintro e w5 ⟨rfl,J⟩;have Q:=ah S J;clear J;(go_wp2_with fail);refine (r.out _).mono ?_;rintro e w6 ⟨rfl,rfl⟩;(go_wp2_with fail);go_ret2;exact ⟨rfl,Q⟩
theorem dZ:∀ (l:List UInt8) (c:UInt8),Lib.indexByte l c<l.length
 | [],c=>by unfold Lib.indexByte;decide
 | b::l,c=>by
  have ih:=dZ l c;unfold Lib.indexByte;simp only [List.length_cons];split
  ·omega
  ·split <;> omega
theorem r9 [NsC] (X:Nat) (s:ByteArray) (i:Nat) (l:List aV) (w:World) (h:bP w X s i l) (J:Lib.hasPrefix (s.data.toList.drop i) [47,47]=false) (I:Lib.hasPrefix (s.data.toList.drop i) [47,42]=false) :
  Calls Tryz.prog 173 #[.pointer (some ⟨X,0,none⟩)] w fun e w'=>e=.returned (.bool false)∧Below w.heap.size w w':=by obtain ⟨lv,nv,D⟩:=h.out;have j:=h.le;have U:=h.most;obtain ⟨S,K,Q,O,-,-,-,-⟩:=aJ D.blk;(have q:(0:Int)≤(i:Int):=by omega);(have p2:(i:Int)≤(s.size:Int):=by omega);rw [←cd] at J I;have N:=hid (fun w=>cy (s.extract i s.size) ⟨#[47,47]⟩ w);have M:=hid (fun w=>cy (s.extract i s.size) ⟨#[47,42]⟩ w);rw [show (⟨#[47,47]⟩:BA).data.toList=[47,47] from rfl,J] at N;rw [show (⟨#[47,42]⟩:BA).data.toList=[47,42] from rfl,I] at M;clear J I h D;(go_enter Tryz.func173,Tryz.ntmps173);(go_wp2_with fail);go_quiet (fail);clear S Q O;have o:(w.drewN nq).cell? ⟨X,1,none⟩=some (.int .i64 (i:Int)):=K;clear K;have k:=ab (Below.refl w.heap.size w) nq;generalize w.drewN nq=w1 at *;generalize ht:s.extract i s.size=t at *;(go_wp2_with fail);refine (N.out _).mono ?_;rintro e w2 ⟨rfl,rfl⟩;(go_wp2_with fail);refine (M.out _).mono ?_;rintro e w2 ⟨rfl,rfl⟩;(go_wp2_with fail);go_ret;exact ⟨rfl,k⟩
theorem iU (b:UInt8) (l:List UInt8) (c:UInt8) (h:b≠c):Lib.indexByte (b::l) c = -1∨1≤Lib.indexByte (b::l) c:=by
 have I:=Lib.indexByte_ge l c;unfold Lib.indexByte;rw [if_neg (by simpa using h)];split
 ·exact .inl rfl
 ·rename_i D;right;(have:Lib.indexByte l c ≠ -1:=by simpa using D);omega
abbrev NsC.push (c:NsC) (t:aV) (h:c.ns.length+1≤65536):NsC:=⟨c.ns++[t],by rw [List.length_append];exact h⟩
theorem tK [C:NsC] (X:Nat) (s:ByteArray) (i:Nat) (l:List aV) (w:World) (h:bP w X s i l) (N:Nat) (h1:Lib.hasPrefix (s.data.toList.drop i) [47,47]=true) (x:Lib.indexByte (s.data.toList.drop i) 10=(N:Int)) (hf:C.ns.length+1≤65536) :
  Calls Tryz.prog 173 #[.pointer (some ⟨X,0,none⟩)] w fun e w'=>e=.returned (.bool true) ∧ @bP (C.push ⟨0,(s.extract i s.size).extract 0 N,i⟩ hf) w' X s (i+N) l∧Below X w w':=by
 obtain ⟨lv,nv,k⟩:=h.out;have gm:=h.le;have gd:=h.most;have ge:=h.lt;have HH:=hid h;obtain ⟨u,U,r,S,-,-,-,-⟩:=aJ k.blk;(have p0:(0:Int)≤(i:Int):=by omega);(have p2:(i:Int)≤(s.size:Int):=by omega);have J:=ce s i;have M:=dZ (s.data.toList.drop i) 10;rw [x] at M;rw [←cd] at h1 x M;(have M:N≤(s.extract i s.size).size:=by have e:(s.extract i s.size).data.toList.length=(s.extract i s.size).size:=rfl;omega);have H1:=hid (fun w=>cy (s.extract i s.size) ⟨#[47,47]⟩ w);have H3:=hid (fun w=>show Calls Tryz.prog 193 #[.string (s.extract i s.size),.int .u8 10] w (fun e w'=>e=.returned (.int .i64 (N:Int))∧w=w') by have:=lk (s.extract i s.size) 10 w;rw [show UInt8.ofNat ((10:Int)).toNat=10 from rfl,x] at this;exact this);rw [show (⟨#[47,47]⟩:BA).data.toList=[47,47] from rfl,h1] at H1;have gi:=hid J;have HF:=hid hf;clear h1 h k x J;(go_enter Tryz.func173,Tryz.ntmps173);(go_wp2_with fail);go_quiet (fail);clear u r S;have y1:(w.drewN nq).cell? ⟨X,1,none⟩=some (.int .i64 (i:Int)):=U;clear U;have hB:=ab (Below.refl w.heap.size w) nq;generalize w.drewN nq=y at *;generalize ht:s.extract i s.size=t at *;(have gj:i+N≤s.size:=by have:=gi.out;omega);(go_wp2_with fail);refine (H1.out _).mono ?_;rintro e w2 ⟨rfl,rfl⟩;(go_wp2_with fail);refine (H3.out _).mono ?_;rintro e w2 ⟨rfl,rfl⟩;have K:=HH.out.below hB;have o:Below X w y:=hB.mono (Nat.le_of_lt ge);(have gk:decide ((N:Int)<0)=false:=by rw [decide_eq_false_iff_not];omega);(go_upto_region 14 with fail);obtain ⟨z,gl,I⟩:=K.out;obtain ⟨u,U,r,S,f0,f1,f2,f3⟩:=aJ I.blk;have qn:IntKind.i64.wrap ((i:Int)+(N:Int))=(i:Int)+(N:Int):=IntWalk.i64_in _ (by omega);have D:=I.set (i+N);rw [show ((i+N:Nat):Int)=(i:Int)+(N:Int) by omega] at D;have q:=hid D;have gh:Below X w (y.setCell ⟨X,1,none⟩ (.int .i64 ((i:Int)+(N:Int)))):=o.setCell (Nat.le_refl _) _;have j:=K.few;clear D I K o;(go_upto_region 15 with fail);generalize y.setCell ⟨X,1,none⟩ (.int .i64 ((i:Int)+(N:Int)))=w7 at *;clear u U r S f0 f1 f2 f3;have D:=q.out;have Q:=D.notes;have gn:=D.blk.lt;obtain ⟨u,U,r,S,f0,f1,f2,f3⟩:=aJ D.blk;obtain ⟨A0,c0,ga,_⟩:=Q.form;subst ga;(have p7:(N:Int)≤(t.size:Int):=by omega);(have gb:C.ns.length≤65535:=by omega);generalize hns:C.ns=ns1 at Q D S gb;go_region_law (first
  | (refine iK (by rfl) (.tmp 60) (.tmp 66) (by rfl) (X+1) _ _ ns1 ⟨0,t.extract 0 N,i⟩ (by rfl) _ (by rfl) (by simp) (Q.below (Below.refl _ _).drew) (by simp;omega) (by omega) ?_;intro g c w8 O;have gg:=(ac.drew D.blk).below O.bel (Nat.lt_succ_self _);obtain ⟨z0,z1,z2,z3,y0,y1,y2,y3⟩:=aJ gg))
 all_goals (go_wp2_with fail);go_ret;have hz:=(D.below (Below.refl _ _).drew).noteRow O;refine ⟨rfl,@bP.mk (C.push _ HF.out) _ _ _ _ _ ⟨z,_,by unfold NsC.push;simp only [hns,ht];exact hz⟩ (by omega) gd j,((gh.drew).trans (O.bel.mono (Nat.le_succ _))).setCell (Nat.le_refl _) _⟩
end
end Go.Proofs.YtmmjgmcfdnkomaaGreatDoor
