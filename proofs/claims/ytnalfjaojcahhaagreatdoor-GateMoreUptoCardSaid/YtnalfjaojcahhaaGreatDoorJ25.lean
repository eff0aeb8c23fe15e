/-
  tree's questions on statements. By an AI agent.
-/
import Derived.Test.YtnalfjaojcahhaaGreatDoorJ24
namespace Go.Proofs.YtnalfjaojcahhaaGreatDoor
open Go.RowKit Go.Lib Go.Proofs
attribute [local go_sem ↓] Go.wp_at_zero Go.wp_at_succ

theorem ent_short (a : Array Value) (w : World) : (callFunc 118 a).run Tryz.prog w = .ok (.enter 118 a) w := by kernel_rfl
theorem ent_set (a : Array Value) (w : World) : (callFunc 119 a).run Tryz.prog w = .ok (.enter 119 a) w := by kernel_rfl
theorem ent_inc (a : Array Value) (w : World) : (callFunc 120 a).run Tryz.prog w = .ok (.enter 120 a) w := by kernel_rfl
theorem ent_call (a : Array Value) (w : World) : (callFunc 121 a).run Tryz.prog w = .ok (.enter 121 a) w := by kernel_rfl
theorem ent_callx (a : Array Value) (w : World) : (callFunc 173 a).run Tryz.prog w = .ok (.enter 173 a) w := by kernel_rfl

set_option maxHeartbeats 4000000 in
theorem inc_T (g : Nat) (F : TFns) (hF : OkT g F) : AskC (g + 1) (incT F) 120 := by
  intro w v n hT hv hd
  have hV0 := hv
  obtain ⟨A, cp, rfl, hC⟩ := hv.toC
  have hB := (Below.refl w.heap.size w).alloc (Nat.le_refl _) (.cells #[.int .i64 n.kind, .string n.text, .slice A n.kids.length cp, .int .i64 n.pos] 24)
  have b1 : Blk (w.alloc (.cells #[.int .i64 n.kind, .string n.text, .slice A n.kids.length cp, .int .i64 n.pos] 24)) w.heap.size 24 #[.int .i64 n.kind, .string n.text, .slice A n.kids.length cp, .int .i64 n.pos] := Blk.new w _ _
  have HV := Lib.hid (hV0.below hB)
  have HV0 := Lib.hid hV0
  have HT := Lib.hid (hT.below hB)
  have HF := Lib.hid hF
  have HD := Lib.hid hd
  clear hV0 hv hC hT hF hd
  have HE := Lib.hid (show incT F n = ofT 28 [F.expr] (namedT stepT n) from rfl)
  go_enter Tryz.func120, Tryz.ntmps120
  go_wp2_with fail
  refine (named_any _ _ n HV.out ⟨172, #[]⟩ stepT (step_so _) HD.out.txt).mono ?_
  rintro e w1 ⟨v1, rfl, hv1, hb1⟩
  have hB1 := hB.trans (hb1.mono hB.size)
  have HT1 := Lib.hid (Tab.below HT.out hb1)
  have HV1 := Lib.hid hv1
  clear hb1 hv1
  go_wp2_with fail
  have hn2 := (Below.refl w1.heap.size w1).alloc (Nat.le_refl _) (.cells #[.func (.func 74) #[] #[]] 33)
  have hBn2 := hB1.trans (hn2.mono hB1.size)
  refine (tof_any g [(⟨74, #[]⟩, F.expr)] 28 v1 (namedT stepT n) _ _ 1 rfl (by omega) (HV1.out.below hn2) HD.out.named (FvsAt.new _ rfl (Blk.new w1 _ _)) (forall_1 (HF.out.expr.so ent_expr _ (Tab.below HT1.out hn2)))).mono ?_
  rintro e w2 ⟨rfl, hb2⟩
  have hB2 := hBn2.trans (hb2.mono hBn2.size)
  have HT2 := Lib.hid (Tab.below (Tab.below HT1.out hn2) hb2)
  clear hn2 hBn2
  clear hb2
  go_wp2_with fail
  go_ret
  exact ⟨by rw [HE.out]; rfl, hB2⟩

set_option maxHeartbeats 4000000 in
theorem short_T (g : Nat) (F : TFns) (hF : OkT g F) : AskC (g + 1) (shortT F) 118 := by
  intro w v n hT hv hd
  have hV0 := hv
  obtain ⟨A, cp, rfl, hC⟩ := hv.toC
  have hB := (Below.refl w.heap.size w).alloc (Nat.le_refl _) (.cells #[.int .i64 n.kind, .string n.text, .slice A n.kids.length cp, .int .i64 n.pos] 24)
  have b1 : Blk (w.alloc (.cells #[.int .i64 n.kind, .string n.text, .slice A n.kids.length cp, .int .i64 n.pos] 24)) w.heap.size 24 #[.int .i64 n.kind, .string n.text, .slice A n.kids.length cp, .int .i64 n.pos] := Blk.new w _ _
  have HV := Lib.hid (hV0.below hB)
  have HV0 := Lib.hid hV0
  have HT := Lib.hid (hT.below hB)
  have HF := Lib.hid hF
  have HD := Lib.hid hd
  clear hV0 hv hC hT hF hd
  have HE := Lib.hid (show shortT F n = ofT 26 [F.expr] (namedT boundT n) from rfl)
  go_enter Tryz.func118, Tryz.ntmps118
  go_wp2_with fail
  refine (named_any _ _ n HV.out ⟨171, #[]⟩ boundT (bound_so _) HD.out.txt).mono ?_
  rintro e w1 ⟨v1, rfl, hv1, hb1⟩
  have hB1 := hB.trans (hb1.mono hB.size)
  have HT1 := Lib.hid (Tab.below HT.out hb1)
  have HV1 := Lib.hid hv1
  clear hb1 hv1
  go_wp2_with fail
  have hn2 := (Below.refl w1.heap.size w1).alloc (Nat.le_refl _) (.cells #[.func (.func 74) #[] #[]] 33)
  have hBn2 := hB1.trans (hn2.mono hB1.size)
  refine (tof_any g [(⟨74, #[]⟩, F.expr)] 26 v1 (namedT boundT n) _ _ 1 rfl (by omega) (HV1.out.below hn2) HD.out.named (FvsAt.new _ rfl (Blk.new w1 _ _)) (forall_1 (HF.out.expr.so ent_expr _ (Tab.below HT1.out hn2)))).mono ?_
  rintro e w2 ⟨rfl, hb2⟩
  have hB2 := hBn2.trans (hb2.mono hBn2.size)
  have HT2 := Lib.hid (Tab.below (Tab.below HT1.out hn2) hb2)
  clear hn2 hBn2
  clear hb2
  go_wp2_with fail
  go_ret
  exact ⟨by rw [HE.out]; rfl, hB2⟩

set_option maxHeartbeats 4000000 in
theorem set_T (g : Nat) (F : TFns) (hF : OkT g F) : AskC (g + 1) (setT F) 119 := by
  intro w v n hT hv hd
  have hV0 := hv
  obtain ⟨A, cp, rfl, hC⟩ := hv.toC
  have hB := (Below.refl w.heap.size w).alloc (Nat.le_refl _) (.cells #[.int .i64 n.kind, .string n.text, .slice A n.kids.length cp, .int .i64 n.pos] 24)
  have b1 : Blk (w.alloc (.cells #[.int .i64 n.kind, .string n.text, .slice A n.kids.length cp, .int .i64 n.pos] 24)) w.heap.size 24 #[.int .i64 n.kind, .string n.text, .slice A n.kids.length cp, .int .i64 n.pos] := Blk.new w _ _
  have HV := Lib.hid (hV0.below hB)
  have HV0 := Lib.hid hV0
  have HT := Lib.hid (hT.below hB)
  have HF := Lib.hid hF
  have HD := Lib.hid hd
  clear hV0 hv hC hT hF hd
  have HE := Lib.hid (show setT F n = ofT 27 [F.expr, F.expr] n from rfl)
  go_enter Tryz.func119, Tryz.ntmps119
  go_wp2_with fail
  have hn1 := (Below.refl (w.alloc (.cells #[.int .i64 n.kind, .string n.text, .slice A n.kids.length cp, .int .i64 n.pos] 24)).heap.size (w.alloc (.cells #[.int .i64 n.kind, .string n.text, .slice A n.kids.length cp, .int .i64 n.pos] 24))).alloc (Nat.le_refl _) (.cells #[.func (.func 74) #[] #[], .func (.func 74) #[] #[]] 33)
  have hBn1 := hB.trans (hn1.mono hB.size)
  refine (tof_any g [(⟨74, #[]⟩, F.expr), (⟨74, #[]⟩, F.expr)] 27 _ (n) _ _ 2 rfl (by omega) (HV.out.below hn1) HD.out (FvsAt.new _ rfl (Blk.new_at (n := w.heap.size + 1) (by simp) _ _)) (forall_2 (HF.out.expr.so ent_expr _ (Tab.below HT.out hn1)) (HF.out.expr.so ent_expr _ (Tab.below HT.out hn1)))).mono ?_
  rintro e w1 ⟨rfl, hb1⟩
  have hB1 := hBn1.trans (hb1.mono hBn1.size)
  have HT1 := Lib.hid (Tab.below (Tab.below HT.out hn1) hb1)
  clear hn1 hBn1
  clear hb1
  go_wp2_with fail
  go_ret
  exact ⟨by rw [HE.out]; rfl, hB1⟩

set_option maxHeartbeats 2000000 in
theorem callx_T (g : Nat) (F : TFns) (hF : OkT g F) : AskC g (callX F) 173 := by
  intro w v n hT hv hd
  have hV0 := hv
  obtain ⟨A, cp, rfl, hC⟩ := hv.toC
  have hB := (Below.refl w.heap.size w).alloc (Nat.le_refl _) (.cells #[.int .i64 n.kind, .string n.text, .slice A n.kids.length cp, .int .i64 n.pos] 24)
  have HI := Lib.hid (hF.expr _ _ n (hT.below hB) (hV0.below hB) hd)
  have hE : callX F n = (n.kind == 21 && F.expr n) := by unfold callX; rw [beq_dec]
  rw [hE]
  clear hE hV0 hv hC hT hF hd
  generalize F.expr n = q at *
  generalize n.kind = k at *
  cases h1 : (k == 21)
  all_goals
    go_enter Tryz.func173, Tryz.ntmps173
    go_wp2_with fail
    try
      rw [beq_iff_eq] at h1
      subst h1
      refine HI.out.mono ?_
      rintro e w1 ⟨rfl, hb1⟩
      replace hB := hB.trans (hb1.mono hB.size)
      clear hb1
      go_wp2_with fail
    go_ret
    exact ⟨rfl, hB⟩

set_option maxHeartbeats 4000000 in
theorem call_T (g : Nat) (F : TFns) (hF : OkT g F) : AskC (g + 1) (callT F) 121 := by
  intro w v n hT hv hd
  have hV0 := hv
  obtain ⟨A, cp, rfl, hC⟩ := hv.toC
  have hB := (Below.refl w.heap.size w).alloc (Nat.le_refl _) (.cells #[.int .i64 n.kind, .string n.text, .slice A n.kids.length cp, .int .i64 n.pos] 24)
  have b1 : Blk (w.alloc (.cells #[.int .i64 n.kind, .string n.text, .slice A n.kids.length cp, .int .i64 n.pos] 24)) w.heap.size 24 #[.int .i64 n.kind, .string n.text, .slice A n.kids.length cp, .int .i64 n.pos] := Blk.new w _ _
  have HV := Lib.hid (hV0.below hB)
  have HV0 := Lib.hid hV0
  have HT := Lib.hid (hT.below hB)
  have HF := Lib.hid hF
  have HD := Lib.hid hd
  clear hV0 hv hC hT hF hd
  have HE := Lib.hid (show callT F n = ofT 29 [callX F] n from rfl)
  go_enter Tryz.func121, Tryz.ntmps121
  go_wp2_with fail
  have hn1 := (Below.refl (w.alloc (.cells #[.int .i64 n.kind, .string n.text, .slice A n.kids.length cp, .int .i64 n.pos] 24)).heap.size (w.alloc (.cells #[.int .i64 n.kind, .string n.text, .slice A n.kids.length cp, .int .i64 n.pos] 24))).alloc (Nat.le_refl _) (.cells #[.func (.func 173) #[] #[]] 33)
  have hBn1 := hB.trans (hn1.mono hB.size)
  refine (tof_any g [(⟨173, #[]⟩, (callX F))] 29 _ (n) _ _ 1 rfl (by omega) (HV.out.below hn1) HD.out (FvsAt.new _ rfl (Blk.new_at (n := w.heap.size + 1) (by simp) _ _)) (forall_1 ((callx_T g F HF.out).so ent_callx _ (Tab.below HT.out hn1)))).mono ?_
  rintro e w1 ⟨rfl, hb1⟩
  have hB1 := hBn1.trans (hb1.mono hBn1.size)
  have HT1 := Lib.hid (Tab.below (Tab.below HT.out hn1) hb1)
  clear hn1 hBn1
  clear hb1
  go_wp2_with fail
  go_ret
  exact ⟨by rw [HE.out]; rfl, hB1⟩

set_option maxHeartbeats 2000000 in
theorem block_T (g : Nat) (F : TFns) (hF : OkT g F) : AskC (g + 1) (blockT F) 106 := by
  intro w v n hT hv hd
  have hV0 := hv
  obtain ⟨A, cp, rfl, hC⟩ := hv.toC
  have hB := (Below.refl w.heap.size w).alloc (Nat.le_refl _) (.cells #[.int .i64 n.kind, .string n.text, .slice A n.kids.length cp, .int .i64 n.pos] 24)
  have b1 : Blk (w.alloc (.cells #[.int .i64 n.kind, .string n.text, .slice A n.kids.length cp, .int .i64 n.pos] 24)) w.heap.size 24 #[.int .i64 n.kind, .string n.text, .slice A n.kids.length cp, .int .i64 n.pos] := Blk.new w _ _
  have HV := Lib.hid (hV0.below hB)
  have HV0 := Lib.hid hV0
  have HT := Lib.hid (hT.below hB)
  have HF := Lib.hid hF
  have HD := Lib.hid hd
  clear hV0 hv hC hT hF hd
  have HI := Lib.hid (tall_any g (F.stmt) ⟨75, #[]⟩ A cp n.kids _ HV.out.kidsV HD.out.2 HD.out.1.1 (HF.out.stmt.so ent_stmt _ HT.out))
  have hE : blockT F n = ((n.kind == 36) && (n.text.toList.isEmpty && n.kids.all (F.stmt))) := by
    unfold blockT
    rw [isEmpty_dec, beq_dec]
  rw [hE]
  clear hE
  generalize n.kids.all (F.stmt) = q at *
  cases h0 : (n.kind == 36) <;> cases h1 : n.text.toList.isEmpty
  all_goals
    go_enter Tryz.func106, Tryz.ntmps106
    go_wp2_with fail
    try
      refine HI.out.mono ?_
      rintro e w1 ⟨rfl, hb1⟩
      replace hB := hB.trans (hb1.mono hB.size)
      clear hb1
      go_wp2_with fail
    go_ret
    exact ⟨rfl, hB⟩

set_option maxRecDepth 100000 in
set_option maxHeartbeats 4000000 in
theorem if_T (g : Nat) (F : TFns) (hF : OkT g F) : AskC (g + 1) (ifT F) 122 := by
  intro w v n hT hv hd
  have hV0 := hv
  obtain ⟨A, cp, rfl, hC⟩ := hv.toC
  have hB := (Below.refl w.heap.size w).alloc (Nat.le_refl _) (.cells #[.int .i64 n.kind, .string n.text, .slice A n.kids.length cp, .int .i64 n.pos] 24)
  have b1 : Blk (w.alloc (.cells #[.int .i64 n.kind, .string n.text, .slice A n.kids.length cp, .int .i64 n.pos] 24)) w.heap.size 24 #[.int .i64 n.kind, .string n.text, .slice A n.kids.length cp, .int .i64 n.pos] := Blk.new w _ _
  have HV := Lib.hid (hV0.below hB)
  have HV0 := Lib.hid hV0
  have HT := Lib.hid (hT.below hB)
  have HF := Lib.hid hF
  have HD := Lib.hid hd
  clear hV0 hv hC hT hF hd
  have HE := Lib.hid (show ifT F n = ofT 30 [F.expr, F.block, orT (orT emptyT F.block) F.ifS] n from rfl)
  go_enter Tryz.func122, Tryz.ntmps122
  go_wp2_with fail
  generalize hW : w.alloc (.cells #[.int .i64 n.kind, .string n.text, .slice A n.kids.length cp, .int .i64 n.pos] 24) = W at *
  clear hW
  have hdr : Below W.heap.size W W.drew := (Below.refl _ _).drew
  have hl0 := b1.lt
  have hB0 := hB.trans (hdr.mono hB.size)
  have HVD := Lib.hid (HV.out.below hdr)
  have HT0 := Lib.hid (HT.out.below hdr)
  have C0 := Lib.hid b1.drew
  clear b1 HV HT hB
  go_region_held3 (fun w' => w'.cell? ⟨w.heap.size, 0, none⟩ = some (.int .i64 n.kind) ∧ w'.cell? ⟨w.heap.size, 1, none⟩ = some (.string n.text) ∧ w'.cell? ⟨w.heap.size, 2, none⟩ = some (.slice A n.kids.length cp) ∧ w'.cell? ⟨w.heap.size, 3, none⟩ = some (.int .i64 n.pos))
    (first | with_reducible exact four q3 | with_reducible exact four (q2.alloc _) | with_reducible exact four q2 | with_reducible exact four q1 | with_reducible exact four C0.out)
    (first
      | (go_at_call 107; refine (or_any g emptyT F.block ⟨123, #[]⟩ ⟨106, #[]⟩ _ (empty_so g _) (HF.out.block.so ent_block _ HT0.out)).mono ?_; rintro e w1 ⟨h1, rfl, sh1_1, hb1⟩; have q1 := C0.out.below hb1 hl0; have HT1 := Lib.hid (HT0.out.below hb1))
      | (go_at_call 107; refine (or_any g (orT emptyT F.block) F.ifS h1 ⟨122, #[]⟩ _ (sh1_1) (HF.out.ifS.so ent_if _ HT1.out)).mono ?_; rintro e w2 ⟨h2, rfl, sh2_2, hb2⟩; have q2 := q1.below hb2 q1.lt; have HT2 := Lib.hid (HT1.out.below hb2); have sh1_2 := sh1_1.below hb2)
      | (go_at_call 103; refine (tof_any g [(⟨74, #[]⟩, F.expr), (⟨106, #[]⟩, F.block), (h2, (orT (orT emptyT F.block) F.ifS))] 30 _ n _ _ 3 rfl (by omega) (((HVD.out.below hb1).below hb2).below ((Below.refl _ w2).alloc (Nat.le_refl _) _)) HD.out (FvsAt.new _ rfl (Blk.new w2 _ _)) (forall_3 (HF.out.expr.so ent_expr _ (Tab.below HT2.out ((Below.refl _ w2).alloc (Nat.le_refl _) _))) (HF.out.block.so ent_block _ (Tab.below HT2.out ((Below.refl _ w2).alloc (Nat.le_refl _) _))) (sh2_2.below ((Below.refl _ w2).alloc (Nat.le_refl _) _)))).mono ?_; rintro e w3 ⟨rfl, hb3⟩; have q3 := (q2.alloc _).below hb3 (q2.alloc _).lt))
  all_goals go_wp2_with fail
  all_goals go_ret
  all_goals
    have hB1 := hB0.trans (hb1.mono hB0.size)
    have hB2 := hB1.trans (hb2.mono hB1.size)
    exact ⟨by rw [HE.out]; rfl, (hB2.alloc hB2.size _).trans (hb3.mono (hB2.alloc hB2.size _).size)⟩

set_option maxRecDepth 100000 in
set_option maxHeartbeats 8000000 in
theorem stmt_T (g : Nat) (F : TFns) (hF : OkT g F) : AskC (g + 1) (stmtT F) 75 := by
  intro w v n hT hv hd
  obtain ⟨nk, nt, nl, np⟩ := n
  have hV0 := hv
  obtain ⟨A, cp, rfl, hC⟩ := hv.toC
  simp only [Nd.kind_mk, Nd.text_mk, Nd.kids_mk, Nd.pos_mk] at hV0 ⊢
  have hB := (Below.refl w.heap.size w).alloc (Nat.le_refl _) (.cells #[.int .i64 nk, .string nt, .slice A nl.length cp, .int .i64 np] 24)
  have b1 : Blk (w.alloc (.cells #[.int .i64 nk, .string nt, .slice A nl.length cp, .int .i64 np] 24)) w.heap.size 24 #[.int .i64 nk, .string nt, .slice A nl.length cp, .int .i64 np] := Blk.new w _ _
  have HV := Lib.hid (hV0.below hB)
  have HV0 := Lib.hid hV0
  have HT := Lib.hid (hT.below hB)
  have HF := Lib.hid hF
  have HD := Lib.hid hd
  clear hV0 hv hC hT hF hd
  by_cases hk5 : nk = 5
  · subst hk5
    have HE := Lib.hid (show stmtT F (Nd.mk 5 nt nl np) = varT F (Nd.mk 5 nt nl np) from rfl)
    go_enter Tryz.func75, Tryz.ntmps75
    go_wp2_with fail
    refine (var_any g F HF.out _ _ (Nd.mk 5 nt nl np) HT.out HV.out HD.out).mono ?_
    rintro e w1 ⟨rfl, hb1⟩
    have hB1 := hB.trans (hb1.mono hB.size)
    clear hb1
    go_wp2_with fail
    go_ret
    exact ⟨by rw [HE.out]; rfl, hB1⟩
  by_cases hk26 : nk = 26
  · subst hk26
    clear hk5
    have HE := Lib.hid (show stmtT F (Nd.mk 26 nt nl np) = shortT F (Nd.mk 26 nt nl np) from rfl)
    go_enter Tryz.func75, Tryz.ntmps75
    go_wp2_with fail
    refine (short_T g F HF.out _ _ (Nd.mk 26 nt nl np) HT.out HV.out HD.out).mono ?_
    rintro e w1 ⟨rfl, hb1⟩
    have hB1 := hB.trans (hb1.mono hB.size)
    clear hb1
    go_wp2_with fail
    go_ret
    exact ⟨by rw [HE.out]; rfl, hB1⟩
  by_cases hk27 : nk = 27
  · subst hk27
    clear hk5 hk26
    have HE := Lib.hid (show stmtT F (Nd.mk 27 nt nl np) = setT F (Nd.mk 27 nt nl np) from rfl)
    go_enter Tryz.func75, Tryz.ntmps75
    go_wp2_with fail
    refine (set_T g F HF.out _ _ (Nd.mk 27 nt nl np) HT.out HV.out HD.out).mono ?_
    rintro e w1 ⟨rfl, hb1⟩
    have hB1 := hB.trans (hb1.mono hB.size)
    clear hb1
    go_wp2_with fail
    go_ret
    exact ⟨by rw [HE.out]; rfl, hB1⟩
  by_cases hk28 : nk = 28
  · subst hk28
    clear hk5 hk26 hk27
    have HE := Lib.hid (show stmtT F (Nd.mk 28 nt nl np) = incT F (Nd.mk 28 nt nl np) from rfl)
    go_enter Tryz.func75, Tryz.ntmps75
    go_wp2_with fail
    refine (inc_T g F HF.out _ _ (Nd.mk 28 nt nl np) HT.out HV.out HD.out).mono ?_
    rintro e w1 ⟨rfl, hb1⟩
    have hB1 := hB.trans (hb1.mono hB.size)
    clear hb1
    go_wp2_with fail
    go_ret
    exact ⟨by rw [HE.out]; rfl, hB1⟩
  by_cases hk29 : nk = 29
  · subst hk29
    clear hk5 hk26 hk27 hk28
    have HE := Lib.hid (show stmtT F (Nd.mk 29 nt nl np) = callT F (Nd.mk 29 nt nl np) from rfl)
    go_enter Tryz.func75, Tryz.ntmps75
    go_wp2_with fail
    refine (call_T g F HF.out _ _ (Nd.mk 29 nt nl np) HT.out HV.out HD.out).mono ?_
    rintro e w1 ⟨rfl, hb1⟩
    have hB1 := hB.trans (hb1.mono hB.size)
    clear hb1
    go_wp2_with fail
    go_ret
    exact ⟨by rw [HE.out]; rfl, hB1⟩
  by_cases hk30 : nk = 30
  · subst hk30
    clear hk5 hk26 hk27 hk28 hk29
    have HE := Lib.hid (show stmtT F (Nd.mk 30 nt nl np) = ifT F (Nd.mk 30 nt nl np) from rfl)
    go_enter Tryz.func75, Tryz.ntmps75
    go_wp2_with fail
    refine (if_T g F HF.out _ _ (Nd.mk 30 nt nl np) HT.out HV.out HD.out).mono ?_
    rintro e w1 ⟨rfl, hb1⟩
    have hB1 := hB.trans (hb1.mono hB.size)
    clear hb1
    go_wp2_with fail
    go_ret
    exact ⟨by rw [HE.out]; rfl, hB1⟩
  by_cases hk31 : nk = 31
  · subst hk31
    clear hk5 hk26 hk27 hk28 hk29 hk30
    have HE := Lib.hid (show stmtT F (Nd.mk 31 nt nl np) = ofT 31 [orT (orT emptyT (shortT F)) (orT (setT F) (incT F)), orT emptyT F.expr, orT (orT emptyT (setT F)) (orT (incT F) (callT F)), F.block] (Nd.mk 31 nt nl np) from rfl)
    go_enter Tryz.func75, Tryz.ntmps75
    go_wp2_with fail
    generalize hW : w.alloc (.cells #[.int .i64 31, .string nt, .slice A nl.length cp, .int .i64 np] 24) = W at *
    clear hW
    have hdr : Below W.heap.size W W.drew := (Below.refl _ _).drew
    have hl0 := b1.lt
    have hB0 := hB.trans (hdr.mono hB.size)
    have HVD := Lib.hid (HV.out.below hdr)
    have HT0 := Lib.hid (HT.out.below hdr)
    have C0 := Lib.hid b1.drew
    clear b1 HV HT hB
    go_region_held3 (fun w' => w'.cell? ⟨w.heap.size, 0, none⟩ = some (.int .i64 31) ∧ w'.cell? ⟨w.heap.size, 1, none⟩ = some (.string nt) ∧ w'.cell? ⟨w.heap.size, 2, none⟩ = some (.slice A nl.length cp) ∧ w'.cell? ⟨w.heap.size, 3, none⟩ = some (.int .i64 np))
      (first | with_reducible exact four q8 | with_reducible exact four (q7.alloc _) | with_reducible exact four q7 | with_reducible exact four q6 | with_reducible exact four q5 | with_reducible exact four q4 | with_reducible exact four q3 | with_reducible exact four q2 | with_reducible exact four q1 | with_reducible exact four C0.out)
      (first
        | (go_at_call 107; refine (or_any g emptyT (shortT F) ⟨123, #[]⟩ ⟨118, #[]⟩ _ (empty_so g _) (((short_T g F HF.out).le fun _ => DLe.succ).so ent_short _ HT0.out)).mono ?_; rintro e w1 ⟨h1, rfl, sh1_1, hb1⟩; have q1 := C0.out.below hb1 hl0; have HT1 := Lib.hid (HT0.out.below hb1))
        | (go_at_call 107; refine (or_any g (setT F) (incT F) ⟨119, #[]⟩ ⟨120, #[]⟩ _ (((set_T g F HF.out).le fun _ => DLe.succ).so ent_set _ HT1.out) (((inc_T g F HF.out).le fun _ => DLe.succ).so ent_inc _ HT1.out)).mono ?_; rintro e w2 ⟨h2, rfl, sh2_2, hb2⟩; have q2 := q1.below hb2 q1.lt; have HT2 := Lib.hid (HT1.out.below hb2); have sh1_2 := sh1_1.below hb2)
        | (go_at_call 107; refine (or_any g (orT emptyT (shortT F)) (orT (setT F) (incT F)) h1 h2 _ (sh1_2) (sh2_2)).mono ?_; rintro e w3 ⟨h3, rfl, sh3_3, hb3⟩; have q3 := q2.below hb3 q2.lt; have HT3 := Lib.hid (HT2.out.below hb3); have sh1_3 := sh1_2.below hb3; have sh2_3 := sh2_2.below hb3)
        | (go_at_call 107; refine (or_any g emptyT F.expr ⟨123, #[]⟩ ⟨74, #[]⟩ _ (empty_so g _) (HF.out.expr.so ent_expr _ HT3.out)).mono ?_; rintro e w4 ⟨h4, rfl, sh4_4, hb4⟩; have q4 := q3.below hb4 q3.lt; have HT4 := Lib.hid (HT3.out.below hb4); have sh1_4 := sh1_3.below hb4; have sh2_4 := sh2_3.below hb4; have sh3_4 := sh3_3.below hb4)
        | (go_at_call 107; refine (or_any g emptyT (setT F) ⟨123, #[]⟩ ⟨119, #[]⟩ _ (empty_so g _) (((set_T g F HF.out).le fun _ => DLe.succ).so ent_set _ HT4.out)).mono ?_; rintro e w5 ⟨h5, rfl, sh5_5, hb5⟩; have q5 := q4.below hb5 q4.lt; have HT5 := Lib.hid (HT4.out.below hb5); have sh1_5 := sh1_4.below hb5; have sh2_5 := sh2_4.below hb5; have sh3_5 := sh3_4.below hb5; have sh4_5 := sh4_4.below hb5)
        | (go_at_call 107; refine (or_any g (incT F) (callT F) ⟨120, #[]⟩ ⟨121, #[]⟩ _ (((inc_T g F HF.out).le fun _ => DLe.succ).so ent_inc _ HT5.out) (((call_T g F HF.out).le fun _ => DLe.succ).so ent_call _ HT5.out)).mono ?_; rintro e w6 ⟨h6, rfl, sh6_6, hb6⟩; have q6 := q5.below hb6 q5.lt; have HT6 := Lib.hid (HT5.out.below hb6); have sh1_6 := sh1_5.below hb6; have sh2_6 := sh2_5.below hb6; have sh3_6 := sh3_5.below hb6; have sh4_6 := sh4_5.below hb6; have sh5_6 := sh5_5.below hb6)
        | (go_at_call 107; refine (or_any g (orT emptyT (setT F)) (orT (incT F) (callT F)) h5 h6 _ (sh5_6) (sh6_6)).mono ?_; rintro e w7 ⟨h7, rfl, sh7_7, hb7⟩; have q7 := q6.below hb7 q6.lt; have HT7 := Lib.hid (HT6.out.below hb7); have sh1_7 := sh1_6.below hb7; have sh2_7 := sh2_6.below hb7; have sh3_7 := sh3_6.below hb7; have sh4_7 := sh4_6.below hb7; have sh5_7 := sh5_6.below hb7; have sh6_7 := sh6_6.below hb7)
        | (go_at_call 103; refine (tof_any g [(h3, (orT (orT emptyT (shortT F)) (orT (setT F) (incT F)))), (h4, (orT emptyT F.expr)), (h7, (orT (orT emptyT (setT F)) (orT (incT F) (callT F)))), (⟨106, #[]⟩, F.block)] 31 _ (Nd.mk 31 nt nl np) _ _ 4 rfl (by omega) ((((((((HVD.out.below hb1).below hb2).below hb3).below hb4).below hb5).below hb6).below hb7).below ((Below.refl _ w7).alloc (Nat.le_refl _) _)) HD.out (FvsAt.new _ rfl (Blk.new w7 _ _)) (forall_4 (sh3_7.below ((Below.refl _ w7).alloc (Nat.le_refl _) _)) (sh4_7.below ((Below.refl _ w7).alloc (Nat.le_refl _) _)) (sh7_7.below ((Below.refl _ w7).alloc (Nat.le_refl _) _)) (HF.out.block.so ent_block _ (Tab.below HT7.out ((Below.refl _ w7).alloc (Nat.le_refl _) _))))).mono ?_; rintro e w8 ⟨rfl, hb8⟩; have q8 := (q7.alloc _).below hb8 (q7.alloc _).lt))
    all_goals go_wp2_with fail
    all_goals go_ret
    all_goals
      have hB1 := hB0.trans (hb1.mono hB0.size)
      have hB2 := hB1.trans (hb2.mono hB1.size)
      have hB3 := hB2.trans (hb3.mono hB2.size)
      have hB4 := hB3.trans (hb4.mono hB3.size)
      have hB5 := hB4.trans (hb5.mono hB4.size)
      have hB6 := hB5.trans (hb6.mono hB5.size)
      have hB7 := hB6.trans (hb7.mono hB6.size)
      exact ⟨by rw [HE.out]; rfl, (hB7.alloc hB7.size _).trans (hb8.mono (hB7.alloc hB7.size _).size)⟩
  by_cases hk32 : nk = 32
  · subst hk32
    clear hk5 hk26 hk27 hk28 hk29 hk30 hk31
    have HE := Lib.hid (show stmtT F (Nd.mk 32 nt nl np) = ofT 32 [F.expr, F.block] (namedT rangedT (Nd.mk 32 nt nl np)) from rfl)
    go_enter Tryz.func75, Tryz.ntmps75
    go_wp2_with fail
    refine (named_any _ _ (Nd.mk 32 nt nl np) HV.out ⟨124, #[]⟩ rangedT (ranged_so _ HT.out) HD.out.txt).mono ?_
    rintro e w1 ⟨v1, rfl, hv1, hb1⟩
    have hB1 := hB.trans (hb1.mono hB.size)
    have HT1 := Lib.hid (Tab.below HT.out hb1)
    have HV1 := Lib.hid hv1
    clear hb1 hv1
    go_wp2_with fail
    have hn2 := (Below.refl w1.heap.size w1).alloc (Nat.le_refl _) (.cells #[.func (.func 74) #[] #[], .func (.func 106) #[] #[]] 33)
    have hBn2 := hB1.trans (hn2.mono hB1.size)
    refine (tof_any g [(⟨74, #[]⟩, F.expr), (⟨106, #[]⟩, F.block)] 32 v1 (namedT rangedT (Nd.mk 32 nt nl np)) _ _ 2 rfl (by omega) (HV1.out.below hn2) HD.out.named (FvsAt.new _ rfl (Blk.new w1 _ _)) (forall_2 (HF.out.expr.so ent_expr _ (Tab.below HT1.out hn2)) (HF.out.block.so ent_block _ (Tab.below HT1.out hn2)))).mono ?_
    rintro e w2 ⟨rfl, hb2⟩
    have hB2 := hBn2.trans (hb2.mono hBn2.size)
    have HT2 := Lib.hid (Tab.below (Tab.below HT1.out hn2) hb2)
    clear hn2 hBn2
    clear hb2
    go_wp2_with fail
    go_ret
    exact ⟨by rw [HE.out]; rfl, hB2⟩
  by_cases hk33 : nk = 33
  · subst hk33
    clear hk5 hk26 hk27 hk28 hk29 hk30 hk31 hk32
    have HE := Lib.hid (show stmtT F (Nd.mk 33 nt nl np) = ofT 33 [orT emptyT F.expr] (Nd.mk 33 nt nl np) from rfl)
    go_enter Tryz.func75, Tryz.ntmps75
    go_wp2_with fail
    generalize hW : w.alloc (.cells #[.int .i64 33, .string nt, .slice A nl.length cp, .int .i64 np] 24) = W at *
    clear hW
    have hdr : Below W.heap.size W W.drew := (Below.refl _ _).drew
    have hl0 := b1.lt
    have hB0 := hB.trans (hdr.mono hB.size)
    have HVD := Lib.hid (HV.out.below hdr)
    have HT0 := Lib.hid (HT.out.below hdr)
    have C0 := Lib.hid b1.drew
    clear b1 HV HT hB
    go_region_held3 (fun w' => w'.cell? ⟨w.heap.size, 0, none⟩ = some (.int .i64 33) ∧ w'.cell? ⟨w.heap.size, 1, none⟩ = some (.string nt) ∧ w'.cell? ⟨w.heap.size, 2, none⟩ = some (.slice A nl.length cp) ∧ w'.cell? ⟨w.heap.size, 3, none⟩ = some (.int .i64 np))
      (first | with_reducible exact four q2 | with_reducible exact four (q1.alloc _) | with_reducible exact four q1 | with_reducible exact four C0.out)
      (first
        | (go_at_call 107; refine (or_any g emptyT F.expr ⟨123, #[]⟩ ⟨74, #[]⟩ _ (empty_so g _) (HF.out.expr.so ent_expr _ HT0.out)).mono ?_; rintro e w1 ⟨h1, rfl, sh1_1, hb1⟩; have q1 := C0.out.below hb1 hl0; have HT1 := Lib.hid (HT0.out.below hb1))
        | (go_at_call 103; refine (tof_any g [(h1, (orT emptyT F.expr))] 33 _ (Nd.mk 33 nt nl np) _ _ 1 rfl (by omega) ((HVD.out.below hb1).below ((Below.refl _ w1).alloc (Nat.le_refl _) _)) HD.out (FvsAt.new _ rfl (Blk.new w1 _ _)) (forall_1 (sh1_1.below ((Below.refl _ w1).alloc (Nat.le_refl _) _)))).mono ?_; rintro e w2 ⟨rfl, hb2⟩; have q2 := (q1.alloc _).below hb2 (q1.alloc _).lt))
    all_goals go_wp2_with fail
    all_goals go_ret
    all_goals
      have hB1 := hB0.trans (hb1.mono hB0.size)
      exact ⟨by rw [HE.out]; rfl, (hB1.alloc hB1.size _).trans (hb2.mono (hB1.alloc hB1.size _).size)⟩
  by_cases hk34 : nk = 34
  · subst hk34
    clear hk5 hk26 hk27 hk28 hk29 hk30 hk31 hk32 hk33
    have HE := Lib.hid (show stmtT F (Nd.mk 34 nt nl np) = ofT 34 [] (Nd.mk 34 nt nl np) from rfl)
    go_enter Tryz.func75, Tryz.ntmps75
    go_wp2_with fail
    refine (tof_any g [] 34 _ ((Nd.mk 34 nt nl np)) none _ 0 rfl (by omega) HV.out HD.out (.inl ⟨rfl, rfl⟩) (fun x hx => by cases hx)).mono ?_
    rintro e w1 ⟨rfl, hb1⟩
    have hB1 := hB.trans (hb1.mono hB.size)
    have HT1 := Lib.hid (Tab.below HT.out hb1)
    clear hb1
    go_wp2_with fail
    go_ret
    exact ⟨by rw [HE.out]; rfl, hB1⟩
  by_cases hk35 : nk = 35
  · subst hk35
    clear hk5 hk26 hk27 hk28 hk29 hk30 hk31 hk32 hk33 hk34
    have HE := Lib.hid (show stmtT F (Nd.mk 35 nt nl np) = ofT 35 [] (Nd.mk 35 nt nl np) from rfl)
    go_enter Tryz.func75, Tryz.ntmps75
    go_wp2_with fail
    refine (tof_any g [] 35 _ ((Nd.mk 35 nt nl np)) none _ 0 rfl (by omega) HV.out HD.out (.inl ⟨rfl, rfl⟩) (fun x hx => by cases hx)).mono ?_
    rintro e w1 ⟨rfl, hb1⟩
    have hB1 := hB.trans (hb1.mono hB.size)
    have HT1 := Lib.hid (Tab.below HT.out hb1)
    clear hb1
    go_wp2_with fail
    go_ret
    exact ⟨by rw [HE.out]; rfl, hB1⟩
  have HE := Lib.hid (show stmtT F (Nd.mk nk nt nl np) = blockT F (Nd.mk nk nt nl np) by unfold stmtT; simp only [Nd.kind_mk, or_self, hk5, hk26, hk27, hk28, hk29, hk30, hk31, hk32, hk33, hk34, hk35, if_false])
  have t5 : (nk == 5) = false := by simpa using hk5
  have t26 : (nk == 26) = false := by simpa using hk26
  have t27 : (nk == 27) = false := by simpa using hk27
  have t28 : (nk == 28) = false := by simpa using hk28
  have t29 : (nk == 29) = false := by simpa using hk29
  have t30 : (nk == 30) = false := by simpa using hk30
  have t31 : (nk == 31) = false := by simpa using hk31
  have t32 : (nk == 32) = false := by simpa using hk32
  have t33 : (nk == 33) = false := by simpa using hk33
  have t34 : (nk == 34) = false := by simpa using hk34
  have t35 : (nk == 35) = false := by simpa using hk35
  clear hk5 hk26 hk27 hk28 hk29 hk30 hk31 hk32 hk33 hk34 hk35
  go_enter Tryz.func75, Tryz.ntmps75
  go_wp2_with fail
  refine (block_T g F HF.out _ _ (Nd.mk nk nt nl np) HT.out HV.out HD.out).mono ?_
  rintro e w1 ⟨rfl, hb1⟩
  have hB1 := hB.trans (hb1.mono hB.size)
  clear hb1
  go_wp2_with fail
  go_ret
  exact ⟨by rw [HE.out]; rfl, hB1⟩

/-- The questions are answered, at whatever depth. -/
theorem okT : ∀ g : Nat, OkT g (tfns g)
  | 0 => ⟨fun _ _ _ _ _ h => h.elim, fun _ _ _ _ _ h => h.elim, fun _ _ _ _ _ h => h.elim, fun _ _ _ _ _ h => h.elim, fun _ _ _ _ _ h => h.elim⟩
  | g + 1 => ⟨type_T g _ (okT g), expr_T g _ (okT g), block_T g _ (okT g), stmt_T g _ (okT g), if_T g _ (okT g)⟩
end Go.Proofs.YtnalfjaojcahhaaGreatDoor
