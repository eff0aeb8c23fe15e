/-
  tree's questions on statements. By an AI agent.
  tree.walk: it goes through a node and all in it, to a depth, and calls what the loop's round is. By an AI agent.
-/
import Derived.Test.YtnalfjaojcahhaaGreatDoorJ17
import Derived.RangeFuncNested
import Derived.RangeFuncBound
import Derived.RangeFuncCalls
import Derived.RangeFuncLeaves
import Derived.RangeFuncFrom
import Derived.RangeFuncKeeps
import Derived.Shelf.Abstract
import Derived.Shelf.RegionOpen
import Derived.WalkKit
import Derived.OwnWalkIn
import Derived.TacticsInMore
import Derived.LoopNIn
import Derived.LoopIn
namespace Go.Proofs.YtnalfjaojcahhaaGreatDoor
open Go.RowKit Go.Lib Go.Proofs
attribute [local go_sem ↓] Go.wp_at_zero Go.wp_at_succ

theorem ent_short (a : Array Value) (w : World) : (callFunc 118 a).run Tryz.prog w = .ok (.enter 118 a) w := by kernel_rfl
theorem ent_set (a : Array Value) (w : World) : (callFunc 119 a).run Tryz.prog w = .ok (.enter 119 a) w := by kernel_rfl
theorem ent_inc (a : Array Value) (w : World) : (callFunc 120 a).run Tryz.prog w = .ok (.enter 120 a) w := by kernel_rfl
theorem ent_call (a : Array Value) (w : World) : (callFunc 121 a).run Tryz.prog w = .ok (.enter 121 a) w := by kernel_rfl
theorem ent_callx (a : Array Value) (w : World) : (callFunc 173 a).run Tryz.prog w = .ok (.enter 173 a) w := by kernel_rfl

set_option maxHeartbeats 4000000 in
theorem inc_T (g : Nat) (F : TFns) (hF : OkT g F) : AskC (g + 1) (incT F) 120 := by
  intro w v n hT hv hd
  have hV0 := hv
  obtain ⟨A, cp, rfl, hC⟩ := hv.toC
  have hB := (Below.refl w.heap.size w).alloc (Nat.le_refl _) (.cells #[.int .i64 n.kind, .string n.text, .slice A n.kids.length cp, .int .i64 n.pos] 24)
  have b1 : Blk (w.alloc (.cells #[.int .i64 n.kind, .string n.text, .slice A n.kids.length cp, .int .i64 n.pos] 24)) w.heap.size 24 #[.int .i64 n.kind, .string n.text, .slice A n.kids.length cp, .int .i64 n.pos] := Blk.new w _ _
  have HV := Lib.hid (hV0.below hB)
  have HV0 := Lib.hid hV0
  have HT := Lib.hid (hT.below hB)
  have HF := Lib.hid hF
  have HD := Lib.hid hd
  clear hV0 hv hC hT hF hd
  have HE := Lib.hid (show incT F n = ofT 28 [F.expr] (namedT stepT n) from rfl)
  go_enter Tryz.func120, Tryz.ntmps120
  go_wp2_with fail
  refine (named_any _ _ n HV.out ⟨172, #[]⟩ stepT (step_so _) HD.out.txt).mono ?_
  rintro e w1 ⟨v1, rfl, hv1, hb1⟩
  have hB1 := hB.trans (hb1.mono hB.size)
  have HT1 := Lib.hid (Tab.below HT.out hb1)
  have HV1 := Lib.hid hv1
  clear hb1 hv1
  go_wp2_with fail
  have hn2 := (Below.refl w1.heap.size w1).alloc (Nat.le_refl _) (.cells #[.func (.func 74) #[] #[]] 33)
  have hBn2 := hB1.trans (hn2.mono hB1.size)
  refine (tof_any g [(⟨74, #[]⟩, F.expr)] 28 v1 (namedT stepT n) _ _ 1 rfl (by omega) (HV1.out.below hn2) HD.out.named (FvsAt.new _ rfl (Blk.new w1 _ _)) (forall_1 (HF.out.expr.so ent_expr _ (Tab.below HT1.out hn2)))).mono ?_
  rintro e w2 ⟨rfl, hb2⟩
  have hB2 := hBn2.trans (hb2.mono hBn2.size)
  have HT2 := Lib.hid (Tab.below (Tab.below HT1.out hn2) hb2)
  clear hn2 hBn2
  clear hb2
  go_wp2_with fail
  go_ret
  exact ⟨by rw [HE.out]; rfl, hB2⟩

set_option maxHeartbeats 4000000 in
theorem short_T (g : Nat) (F : TFns) (hF : OkT g F) : AskC (g + 1) (shortT F) 118 := by
  intro w v n hT hv hd
  have hV0 := hv
  obtain ⟨A, cp, rfl, hC⟩ := hv.toC
  have hB := (Below.refl w.heap.size w).alloc (Nat.le_refl _) (.cells #[.int .i64 n.kind, .string n.text, .slice A n.kids.length cp, .int .i64 n.pos] 24)
  have b1 : Blk (w.alloc (.cells #[.int .i64 n.kind, .string n.text, .slice A n.kids.length cp, .int .i64 n.pos] 24)) w.heap.size 24 #[.int .i64 n.kind, .string n.text, .slice A n.kids.length cp, .int .i64 n.pos] := Blk.new w _ _
  have HV := Lib.hid (hV0.below hB)
  have HV0 := Lib.hid hV0
  have HT := Lib.hid (hT.below hB)
  have HF := Lib.hid hF
  have HD := Lib.hid hd
  clear hV0 hv hC hT hF hd
  have HE := Lib.hid (show shortT F n = ofT 26 [F.expr] (namedT boundT n) from rfl)
  go_enter Tryz.func118, Tryz.ntmps118
  go_wp2_with fail
  refine (named_any _ _ n HV.out ⟨171, #[]⟩ boundT (bound_so _) HD.out.txt).mono ?_
  rintro e w1 ⟨v1, rfl, hv1, hb1⟩
  have hB1 := hB.trans (hb1.mono hB.size)
  have HT1 := Lib.hid (Tab.below HT.out hb1)
  have HV1 := Lib.hid hv1
  clear hb1 hv1
  go_wp2_with fail
  have hn2 := (Below.refl w1.heap.size w1).alloc (Nat.le_refl _) (.cells #[.func (.func 74) #[] #[]] 33)
  have hBn2 := hB1.trans (hn2.mono hB1.size)
  refine (tof_any g [(⟨74, #[]⟩, F.expr)] 26 v1 (namedT boundT n) _ _ 1 rfl (by omega) (HV1.out.below hn2) HD.out.named (FvsAt.new _ rfl (Blk.new w1 _ _)) (forall_1 (HF.out.expr.so ent_expr _ (Tab.below HT1.out hn2)))).mono ?_
  rintro e w2 ⟨rfl, hb2⟩
  have hB2 := hBn2.trans (hb2.mono hBn2.size)
  have HT2 := Lib.hid (Tab.below (Tab.below HT1.out hn2) hb2)
  clear hn2 hBn2
  clear hb2
  go_wp2_with fail
  go_ret
  exact ⟨by rw [HE.out]; rfl, hB2⟩

set_option maxHeartbeats 4000000 in
theorem set_T (g : Nat) (F : TFns) (hF : OkT g F) : AskC (g + 1) (setT F) 119 := by
  intro w v n hT hv hd
  have hV0 := hv
  obtain ⟨A, cp, rfl, hC⟩ := hv.toC
  have hB := (Below.refl w.heap.size w).alloc (Nat.le_refl _) (.cells #[.int .i64 n.kind, .string n.text, .slice A n.kids.length cp, .int .i64 n.pos] 24)
  have b1 : Blk (w.alloc (.cells #[.int .i64 n.kind, .string n.text, .slice A n.kids.length cp, .int .i64 n.pos] 24)) w.heap.size 24 #[.int .i64 n.kind, .string n.text, .slice A n.kids.length cp, .int .i64 n.pos] := Blk.new w _ _
  have HV := Lib.hid (hV0.below hB)
  have HV0 := Lib.hid hV0
  have HT := Lib.hid (hT.below hB)
  have HF := Lib.hid hF
  have HD := Lib.hid hd
  clear hV0 hv hC hT hF hd
  have HE := Lib.hid (show setT F n = ofT 27 [F.expr, F.expr] n from rfl)
  go_enter Tryz.func119, Tryz.ntmps119
  go_wp2_with fail
  have hn1 := (Below.refl (w.alloc (.cells #[.int .i64 n.kind, .string n.text, .slice A n.kids.length cp, .int .i64 n.pos] 24)).heap.size (w.alloc (.cells #[.int .i64 n.kind, .string n.text, .slice A n.kids.length cp, .int .i64 n.pos] 24))).alloc (Nat.le_refl _) (.cells #[.func (.func 74) #[] #[], .func (.func 74) #[] #[]] 33)
  have hBn1 := hB.trans (hn1.mono hB.size)
  refine (tof_any g [(⟨74, #[]⟩, F.expr), (⟨74, #[]⟩, F.expr)] 27 _ (n) _ _ 2 rfl (by omega) (HV.out.below hn1) HD.out (FvsAt.new _ rfl (Blk.new_at (n := w.heap.size + 1) (by simp) _ _)) (forall_2 (HF.out.expr.so ent_expr _ (Tab.below HT.out hn1)) (HF.out.expr.so ent_expr _ (Tab.below HT.out hn1)))).mono ?_
  rintro e w1 ⟨rfl, hb1⟩
  have hB1 := hBn1.trans (hb1.mono hBn1.size)
  have HT1 := Lib.hid (Tab.below (Tab.below HT.out hn1) hb1)
  clear hn1 hBn1
  clear hb1
  go_wp2_with fail
  go_ret
  exact ⟨by rw [HE.out]; rfl, hB1⟩

set_option maxHeartbeats 2000000 in
theorem callx_T (g : Nat) (F : TFns) (hF : OkT g F) : AskC g (callX F) 173 := by
  intro w v n hT hv hd
  have hV0 := hv
  obtain ⟨A, cp, rfl, hC⟩ := hv.toC
  have hB := (Below.refl w.heap.size w).alloc (Nat.le_refl _) (.cells #[.int .i64 n.kind, .string n.text, .slice A n.kids.length cp, .int .i64 n.pos] 24)
  have HI := Lib.hid (hF.expr _ _ n (hT.below hB) (hV0.below hB) hd)
  have hE : callX F n = (n.kind == 21 && F.expr n) := by unfold callX; rw [beq_dec]
  rw [hE]
  clear hE hV0 hv hC hT hF hd
  generalize F.expr n = q at *
  generalize n.kind = k at *
  cases h1 : (k == 21)
  all_goals
    go_enter Tryz.func173, Tryz.ntmps173
    go_wp2_with fail
    try
      rw [beq_iff_eq] at h1
      subst h1
      refine HI.out.mono ?_
      rintro e w1 ⟨rfl, hb1⟩
      replace hB := hB.trans (hb1.mono hB.size)
      clear hb1
      go_wp2_with fail
    go_ret
    exact ⟨rfl, hB⟩

set_option maxHeartbeats 4000000 in
theorem call_T (g : Nat) (F : TFns) (hF : OkT g F) : AskC (g + 1) (callT F) 121 := by
  intro w v n hT hv hd
  have hV0 := hv
  obtain ⟨A, cp, rfl, hC⟩ := hv.toC
  have hB := (Below.refl w.heap.size w).alloc (Nat.le_refl _) (.cells #[.int .i64 n.kind, .string n.text, .slice A n.kids.length cp, .int .i64 n.pos] 24)
  have b1 : Blk (w.alloc (.cells #[.int .i64 n.kind, .string n.text, .slice A n.kids.length cp, .int .i64 n.pos] 24)) w.heap.size 24 #[.int .i64 n.kind, .string n.text, .slice A n.kids.length cp, .int .i64 n.pos] := Blk.new w _ _
  have HV := Lib.hid (hV0.below hB)
  have HV0 := Lib.hid hV0
  have HT := Lib.hid (hT.below hB)
  have HF := Lib.hid hF
  have HD := Lib.hid hd
  clear hV0 hv hC hT hF hd
  have HE := Lib.hid (show callT F n = ofT 29 [callX F] n from rfl)
  go_enter Tryz.func121, Tryz.ntmps121
  go_wp2_with fail
  have hn1 := (Below.refl (w.alloc (.cells #[.int .i64 n.kind, .string n.text, .slice A n.kids.length cp, .int .i64 n.pos] 24)).heap.size (w.alloc (.cells #[.int .i64 n.kind, .string n.text, .slice A n.kids.length cp, .int .i64 n.pos] 24))).alloc (Nat.le_refl _) (.cells #[.func (.func 173) #[] #[]] 33)
  have hBn1 := hB.trans (hn1.mono hB.size)
  refine (tof_any g [(⟨173, #[]⟩, (callX F))] 29 _ (n) _ _ 1 rfl (by omega) (HV.out.below hn1) HD.out (FvsAt.new _ rfl (Blk.new_at (n := w.heap.size + 1) (by simp) _ _)) (forall_1 ((callx_T g F HF.out).so ent_callx _ (Tab.below HT.out hn1)))).mono ?_
  rintro e w1 ⟨rfl, hb1⟩
  have hB1 := hBn1.trans (hb1.mono hBn1.size)
  have HT1 := Lib.hid (Tab.below (Tab.below HT.out hn1) hb1)
  clear hn1 hBn1
  clear hb1
  go_wp2_with fail
  go_ret
  exact ⟨by rw [HE.out]; rfl, hB1⟩

set_option maxHeartbeats 2000000 in
theorem block_T (g : Nat) (F : TFns) (hF : OkT g F) : AskC (g + 1) (blockT F) 106 := by
  intro w v n hT hv hd
  have hV0 := hv
  obtain ⟨A, cp, rfl, hC⟩ := hv.toC
  have hB := (Below.refl w.heap.size w).alloc (Nat.le_refl _) (.cells #[.int .i64 n.kind, .string n.text, .slice A n.kids.length cp, .int .i64 n.pos] 24)
  have b1 : Blk (w.alloc (.cells #[.int .i64 n.kind, .string n.text, .slice A n.kids.length cp, .int .i64 n.pos] 24)) w.heap.size 24 #[.int .i64 n.kind, .string n.text, .slice A n.kids.length cp, .int .i64 n.pos] := Blk.new w _ _
  have HV := Lib.hid (hV0.below hB)
  have HV0 := Lib.hid hV0
  have HT := Lib.hid (hT.below hB)
  have HF := Lib.hid hF
  have HD := Lib.hid hd
  clear hV0 hv hC hT hF hd
  have HI := Lib.hid (tall_any g (F.stmt) ⟨75, #[]⟩ A cp n.kids _ HV.out.kidsV HD.out.2 HD.out.1.1 (HF.out.stmt.so ent_stmt _ HT.out))
  have hE : blockT F n = ((n.kind == 36) && (n.text.toList.isEmpty && n.kids.all (F.stmt))) := by
    unfold blockT
    rw [isEmpty_dec, beq_dec]
  rw [hE]
  clear hE
  generalize n.kids.all (F.stmt) = q at *
  cases h0 : (n.kind == 36) <;> cases h1 : n.text.toList.isEmpty
  all_goals
    go_enter Tryz.func106, Tryz.ntmps106
    go_wp2_with fail
    try
      refine HI.out.mono ?_
      rintro e w1 ⟨rfl, hb1⟩
      replace hB := hB.trans (hb1.mono hB.size)
      clear hb1
      go_wp2_with fail
    go_ret
    exact ⟨rfl, hB⟩

set_option maxRecDepth 100000 in
set_option maxHeartbeats 4000000 in
theorem if_T (g : Nat) (F : TFns) (hF : OkT g F) : AskC (g + 1) (ifT F) 122 := by
  intro w v n hT hv hd
  have hV0 := hv
  obtain ⟨A, cp, rfl, hC⟩ := hv.toC
  have hB := (Below.refl w.heap.size w).alloc (Nat.le_refl _) (.cells #[.int .i64 n.kind, .string n.text, .slice A n.kids.length cp, .int .i64 n.pos] 24)
  have b1 : Blk (w.alloc (.cells #[.int .i64 n.kind, .string n.text, .slice A n.kids.length cp, .int .i64 n.pos] 24)) w.heap.size 24 #[.int .i64 n.kind, .string n.text, .slice A n.kids.length cp, .int .i64 n.pos] := Blk.new w _ _
  have HV := Lib.hid (hV0.below hB)
  have HV0 := Lib.hid hV0
  have HT := Lib.hid (hT.below hB)
  have HF := Lib.hid hF
  have HD := Lib.hid hd
  clear hV0 hv hC hT hF hd
  have HE := Lib.hid (show ifT F n = ofT 30 [F.expr, F.block, orT (orT emptyT F.block) F.ifS] n from rfl)
  go_enter Tryz.func122, Tryz.ntmps122
  go_wp2_with fail
  generalize hW : w.alloc (.cells #[.int .i64 n.kind, .string n.text, .slice A n.kids.length cp, .int .i64 n.pos] 24) = W at *
  clear hW
  have hdr : Below W.heap.size W W.drew := (Below.refl _ _).drew
  have hl0 := b1.lt
  have hB0 := hB.trans (hdr.mono hB.size)
  have HVD := Lib.hid (HV.out.below hdr)
  have HT0 := Lib.hid (HT.out.below hdr)
  have C0 := Lib.hid b1.drew
  clear b1 HV HT hB
  go_region_held3 (fun w' => w'.cell? ⟨w.heap.size, 0, none⟩ = some (.int .i64 n.kind) ∧ w'.cell? ⟨w.heap.size, 1, none⟩ = some (.string n.text) ∧ w'.cell? ⟨w.heap.size, 2, none⟩ = some (.slice A n.kids.length cp) ∧ w'.cell? ⟨w.heap.size, 3, none⟩ = some (.int .i64 n.pos))
    (first | with_reducible exact four q3 | with_reducible exact four (q2.alloc _) | with_reducible exact four q2 | with_reducible exact four q1 | with_reducible exact four C0.out)
    (first
      | (go_at_call 107; refine (or_any g emptyT F.block ⟨123, #[]⟩ ⟨106, #[]⟩ _ (empty_so g _) (HF.out.block.so ent_block _ HT0.out)).mono ?_; rintro e w1 ⟨h1, rfl, sh1_1, hb1⟩; have q1 := C0.out.below hb1 hl0; have HT1 := Lib.hid (HT0.out.below hb1))
      | (go_at_call 107; refine (or_any g (orT emptyT F.block) F.ifS h1 ⟨122, #[]⟩ _ (sh1_1) (HF.out.ifS.so ent_if _ HT1.out)).mono ?_; rintro e w2 ⟨h2, rfl, sh2_2, hb2⟩; have q2 := q1.below hb2 q1.lt; have HT2 := Lib.hid (HT1.out.below hb2); have sh1_2 := sh1_1.below hb2)
      | (go_at_call 103; refine (tof_any g [(⟨74, #[]⟩, F.expr), (⟨106, #[]⟩, F.block), (h2, (orT (orT emptyT F.block) F.ifS))] 30 _ n _ _ 3 rfl (by omega) (((HVD.out.below hb1).below hb2).below ((Below.refl _ w2).alloc (Nat.le_refl _) _)) HD.out (FvsAt.new _ rfl (Blk.new w2 _ _)) (forall_3 (HF.out.expr.so ent_expr _ (Tab.below HT2.out ((Below.refl _ w2).alloc (Nat.le_refl _) _))) (HF.out.block.so ent_block _ (Tab.below HT2.out ((Below.refl _ w2).alloc (Nat.le_refl _) _))) (sh2_2.below ((Below.refl _ w2).alloc (Nat.le_refl _) _)))).mono ?_; rintro e w3 ⟨rfl, hb3⟩; have q3 := (q2.alloc _).below hb3 (q2.alloc _).lt))
  all_goals go_wp2_with fail
  all_goals go_ret
  all_goals
    have hB1 := hB0.trans (hb1.mono hB0.size)
    have hB2 := hB1.trans (hb2.mono hB1.size)
    exact ⟨by rw [HE.out]; rfl, (hB2.alloc hB2.size _).trans (hb3.mono (hB2.alloc hB2.size _).size)⟩

set_option maxRecDepth 100000 in
set_option maxHeartbeats 8000000 in
theorem stmt_T (g : Nat) (F : TFns) (hF : OkT g F) : AskC (g + 1) (stmtT F) 75 := by
  intro w v n hT hv hd
  obtain ⟨nk, nt, nl, np⟩ := n
  have hV0 := hv
  obtain ⟨A, cp, rfl, hC⟩ := hv.toC
  simp only [Nd.kind_mk, Nd.text_mk, Nd.kids_mk, Nd.pos_mk] at hV0 ⊢
  have hB := (Below.refl w.heap.size w).alloc (Nat.le_refl _) (.cells #[.int .i64 nk, .string nt, .slice A nl.length cp, .int .i64 np] 24)
  have b1 : Blk (w.alloc (.cells #[.int .i64 nk, .string nt, .slice A nl.length cp, .int .i64 np] 24)) w.heap.size 24 #[.int .i64 nk, .string nt, .slice A nl.length cp, .int .i64 np] := Blk.new w _ _
  have HV := Lib.hid (hV0.below hB)
  have HV0 := Lib.hid hV0
  have HT := Lib.hid (hT.below hB)
  have HF := Lib.hid hF
  have HD := Lib.hid hd
  clear hV0 hv hC hT hF hd
  by_cases hk5 : nk = 5
  · subst hk5
    have HE := Lib.hid (show stmtT F (Nd.mk 5 nt nl np) = varT F (Nd.mk 5 nt nl np) from rfl)
    go_enter Tryz.func75, Tryz.ntmps75
    go_wp2_with fail
    refine (var_any g F HF.out _ _ (Nd.mk 5 nt nl np) HT.out HV.out HD.out).mono ?_
    rintro e w1 ⟨rfl, hb1⟩
    have hB1 := hB.trans (hb1.mono hB.size)
    clear hb1
    go_wp2_with fail
    go_ret
    exact ⟨by rw [HE.out]; rfl, hB1⟩
  by_cases hk26 : nk = 26
  · subst hk26
    clear hk5
    have HE := Lib.hid (show stmtT F (Nd.mk 26 nt nl np) = shortT F (Nd.mk 26 nt nl np) from rfl)
    go_enter Tryz.func75, Tryz.ntmps75
    go_wp2_with fail
    refine (short_T g F HF.out _ _ (Nd.mk 26 nt nl np) HT.out HV.out HD.out).mono ?_
    rintro e w1 ⟨rfl, hb1⟩
    have hB1 := hB.trans (hb1.mono hB.size)
    clear hb1
    go_wp2_with fail
    go_ret
    exact ⟨by rw [HE.out]; rfl, hB1⟩
  by_cases hk27 : nk = 27
  · subst hk27
    clear hk5 hk26
    have HE := Lib.hid (show stmtT F (Nd.mk 27 nt nl np) = setT F (Nd.mk 27 nt nl np) from rfl)
    go_enter Tryz.func75, Tryz.ntmps75
    go_wp2_with fail
    refine (set_T g F HF.out _ _ (Nd.mk 27 nt nl np) HT.out HV.out HD.out).mono ?_
    rintro e w1 ⟨rfl, hb1⟩
    have hB1 := hB.trans (hb1.mono hB.size)
    clear hb1
    go_wp2_with fail
    go_ret
    exact ⟨by rw [HE.out]; rfl, hB1⟩
  by_cases hk28 : nk = 28
  · subst hk28
    clear hk5 hk26 hk27
    have HE := Lib.hid (show stmtT F (Nd.mk 28 nt nl np) = incT F (Nd.mk 28 nt nl np) from rfl)
    go_enter Tryz.func75, Tryz.ntmps75
    go_wp2_with fail
    refine (inc_T g F HF.out _ _ (Nd.mk 28 nt nl np) HT.out HV.out HD.out).mono ?_
    rintro e w1 ⟨rfl, hb1⟩
    have hB1 := hB.trans (hb1.mono hB.size)
    clear hb1
    go_wp2_with fail
    go_ret
    exact ⟨by rw [HE.out]; rfl, hB1⟩
  by_cases hk29 : nk = 29
  · subst hk29
    clear hk5 hk26 hk27 hk28
    have HE := Lib.hid (show stmtT F (Nd.mk 29 nt nl np) = callT F (Nd.mk 29 nt nl np) from rfl)
    go_enter Tryz.func75, Tryz.ntmps75
    go_wp2_with fail
    refine (call_T g F HF.out _ _ (Nd.mk 29 nt nl np) HT.out HV.out HD.out).mono ?_
    rintro e w1 ⟨rfl, hb1⟩
    have hB1 := hB.trans (hb1.mono hB.size)
    clear hb1
    go_wp2_with fail
    go_ret
    exact ⟨by rw [HE.out]; rfl, hB1⟩
  by_cases hk30 : nk = 30
  · subst hk30
    clear hk5 hk26 hk27 hk28 hk29
    have HE := Lib.hid (show stmtT F (Nd.mk 30 nt nl np) = ifT F (Nd.mk 30 nt nl np) from rfl)
    go_enter Tryz.func75, Tryz.ntmps75
    go_wp2_with fail
    refine (if_T g F HF.out _ _ (Nd.mk 30 nt nl np) HT.out HV.out HD.out).mono ?_
    rintro e w1 ⟨rfl, hb1⟩
    have hB1 := hB.trans (hb1.mono hB.size)
    clear hb1
    go_wp2_with fail
    go_ret
    exact ⟨by rw [HE.out]; rfl, hB1⟩
  by_cases hk31 : nk = 31
  · subst hk31
    clear hk5 hk26 hk27 hk28 hk29 hk30
    have HE := Lib.hid (show stmtT F (Nd.mk 31 nt nl np) = ofT 31 [orT (orT emptyT (shortT F)) (orT (setT F) (incT F)), orT emptyT F.expr, orT (orT emptyT (setT F)) (orT (incT F) (callT F)), F.block] (Nd.mk 31 nt nl np) from rfl)
    go_enter Tryz.func75, Tryz.ntmps75
    go_wp2_with fail
    generalize hW : w.alloc (.cells #[.int .i64 31, .string nt, .slice A nl.length cp, .int .i64 np] 24) = W at *
    clear hW
    have hdr : Below W.heap.size W W.drew := (Below.refl _ _).drew
    have hl0 := b1.lt
    have hB0 := hB.trans (hdr.mono hB.size)
    have HVD := Lib.hid (HV.out.below hdr)
    have HT0 := Lib.hid (HT.out.below hdr)
    have C0 := Lib.hid b1.drew
    clear b1 HV HT hB
    go_region_held3 (fun w' => w'.cell? ⟨w.heap.size, 0, none⟩ = some (.int .i64 31) ∧ w'.cell? ⟨w.heap.size, 1, none⟩ = some (.string nt) ∧ w'.cell? ⟨w.heap.size, 2, none⟩ = some (.slice A nl.length cp) ∧ w'.cell? ⟨w.heap.size, 3, none⟩ = some (.int .i64 np))
      (first | with_reducible exact four q8 | with_reducible exact four (q7.alloc _) | with_reducible exact four q7 | with_reducible exact four q6 | with_reducible exact four q5 | with_reducible exact four q4 | with_reducible exact four q3 | with_reducible exact four q2 | with_reducible exact four q1 | with_reducible exact four C0.out)
      (first
        | (go_at_call 107; refine (or_any g emptyT (shortT F) ⟨123, #[]⟩ ⟨118, #[]⟩ _ (empty_so g _) (((short_T g F HF.out).le fun _ => DLe.succ).so ent_short _ HT0.out)).mono ?_; rintro e w1 ⟨h1, rfl, sh1_1, hb1⟩; have q1 := C0.out.below hb1 hl0; have HT1 := Lib.hid (HT0.out.below hb1))
        | (go_at_call 107; refine (or_any g (setT F) (incT F) ⟨119, #[]⟩ ⟨120, #[]⟩ _ (((set_T g F HF.out).le fun _ => DLe.succ).so ent_set _ HT1.out) (((inc_T g F HF.out).le fun _ => DLe.succ).so ent_inc _ HT1.out)).mono ?_; rintro e w2 ⟨h2, rfl, sh2_2, hb2⟩; have q2 := q1.below hb2 q1.lt; have HT2 := Lib.hid (HT1.out.below hb2); have sh1_2 := sh1_1.below hb2)
        | (go_at_call 107; refine (or_any g (orT emptyT (shortT F)) (orT (setT F) (incT F)) h1 h2 _ (sh1_2) (sh2_2)).mono ?_; rintro e w3 ⟨h3, rfl, sh3_3, hb3⟩; have q3 := q2.below hb3 q2.lt; have HT3 := Lib.hid (HT2.out.below hb3); have sh1_3 := sh1_2.below hb3; have sh2_3 := sh2_2.below hb3)
        | (go_at_call 107; refine (or_any g emptyT F.expr ⟨123, #[]⟩ ⟨74, #[]⟩ _ (empty_so g _) (HF.out.expr.so ent_expr _ HT3.out)).mono ?_; rintro e w4 ⟨h4, rfl, sh4_4, hb4⟩; have q4 := q3.below hb4 q3.lt; have HT4 := Lib.hid (HT3.out.below hb4); have sh1_4 := sh1_3.below hb4; have sh2_4 := sh2_3.below hb4; have sh3_4 := sh3_3.below hb4)
        | (go_at_call 107; refine (or_any g emptyT (setT F) ⟨123, #[]⟩ ⟨119, #[]⟩ _ (empty_so g _) (((set_T g F HF.out).le fun _ => DLe.succ).so ent_set _ HT4.out)).mono ?_; rintro e w5 ⟨h5, rfl, sh5_5, hb5⟩; have q5 := q4.below hb5 q4.lt; have HT5 := Lib.hid (HT4.out.below hb5); have sh1_5 := sh1_4.below hb5; have sh2_5 := sh2_4.below hb5; have sh3_5 := sh3_4.below hb5; have sh4_5 := sh4_4.below hb5)
        | (go_at_call 107; refine (or_any g (incT F) (callT F) ⟨120, #[]⟩ ⟨121, #[]⟩ _ (((inc_T g F HF.out).le fun _ => DLe.succ).so ent_inc _ HT5.out) (((call_T g F HF.out).le fun _ => DLe.succ).so ent_call _ HT5.out)).mono ?_; rintro e w6 ⟨h6, rfl, sh6_6, hb6⟩; have q6 := q5.below hb6 q5.lt; have HT6 := Lib.hid (HT5.out.below hb6); have sh1_6 := sh1_5.below hb6; have sh2_6 := sh2_5.below hb6; have sh3_6 := sh3_5.below hb6; have sh4_6 := sh4_5.below hb6; have sh5_6 := sh5_5.below hb6)
        | (go_at_call 107; refine (or_any g (orT emptyT (setT F)) (orT (incT F) (callT F)) h5 h6 _ (sh5_6) (sh6_6)).mono ?_; rintro e w7 ⟨h7, rfl, sh7_7, hb7⟩; have q7 := q6.below hb7 q6.lt; have HT7 := Lib.hid (HT6.out.below hb7); have sh1_7 := sh1_6.below hb7; have sh2_7 := sh2_6.below hb7; have sh3_7 := sh3_6.below hb7; have sh4_7 := sh4_6.below hb7; have sh5_7 := sh5_6.below hb7; have sh6_7 := sh6_6.below hb7)
        | (go_at_call 103; refine (tof_any g [(h3, (orT (orT emptyT (shortT F)) (orT (setT F) (incT F)))), (h4, (orT emptyT F.expr)), (h7, (orT (orT emptyT (setT F)) (orT (incT F) (callT F)))), (⟨106, #[]⟩, F.block)] 31 _ (Nd.mk 31 nt nl np) _ _ 4 rfl (by omega) ((((((((HVD.out.below hb1).below hb2).below hb3).below hb4).below hb5).below hb6).below hb7).below ((Below.refl _ w7).alloc (Nat.le_refl _) _)) HD.out (FvsAt.new _ rfl (Blk.new w7 _ _)) (forall_4 (sh3_7.below ((Below.refl _ w7).alloc (Nat.le_refl _) _)) (sh4_7.below ((Below.refl _ w7).alloc (Nat.le_refl _) _)) (sh7_7.below ((Below.refl _ w7).alloc (Nat.le_refl _) _)) (HF.out.block.so ent_block _ (Tab.below HT7.out ((Below.refl _ w7).alloc (Nat.le_refl _) _))))).mono ?_; rintro e w8 ⟨rfl, hb8⟩; have q8 := (q7.alloc _).below hb8 (q7.alloc _).lt))
    all_goals go_wp2_with fail
    all_goals go_ret
    all_goals
      have hB1 := hB0.trans (hb1.mono hB0.size)
      have hB2 := hB1.trans (hb2.mono hB1.size)
      have hB3 := hB2.trans (hb3.mono hB2.size)
      have hB4 := hB3.trans (hb4.mono hB3.size)
      have hB5 := hB4.trans (hb5.mono hB4.size)
      have hB6 := hB5.trans (hb6.mono hB5.size)
      have hB7 := hB6.trans (hb7.mono hB6.size)
      exact ⟨by rw [HE.out]; rfl, (hB7.alloc hB7.size _).trans (hb8.mono (hB7.alloc hB7.size _).size)⟩
  by_cases hk32 : nk = 32
  · subst hk32
    clear hk5 hk26 hk27 hk28 hk29 hk30 hk31
    have HE := Lib.hid (show stmtT F (Nd.mk 32 nt nl np) = ofT 32 [F.expr, F.block] (namedT rangedT (Nd.mk 32 nt nl np)) from rfl)
    go_enter Tryz.func75, Tryz.ntmps75
    go_wp2_with fail
    refine (named_any _ _ (Nd.mk 32 nt nl np) HV.out ⟨124, #[]⟩ rangedT (ranged_so _ HT.out) HD.out.txt).mono ?_
    rintro e w1 ⟨v1, rfl, hv1, hb1⟩
    have hB1 := hB.trans (hb1.mono hB.size)
    have HT1 := Lib.hid (Tab.below HT.out hb1)
    have HV1 := Lib.hid hv1
    clear hb1 hv1
    go_wp2_with fail
    have hn2 := (Below.refl w1.heap.size w1).alloc (Nat.le_refl _) (.cells #[.func (.func 74) #[] #[], .func (.func 106) #[] #[]] 33)
    have hBn2 := hB1.trans (hn2.mono hB1.size)
    refine (tof_any g [(⟨74, #[]⟩, F.expr), (⟨106, #[]⟩, F.block)] 32 v1 (namedT rangedT (Nd.mk 32 nt nl np)) _ _ 2 rfl (by omega) (HV1.out.below hn2) HD.out.named (FvsAt.new _ rfl (Blk.new w1 _ _)) (forall_2 (HF.out.expr.so ent_expr _ (Tab.below HT1.out hn2)) (HF.out.block.so ent_block _ (Tab.below HT1.out hn2)))).mono ?_
    rintro e w2 ⟨rfl, hb2⟩
    have hB2 := hBn2.trans (hb2.mono hBn2.size)
    have HT2 := Lib.hid (Tab.below (Tab.below HT1.out hn2) hb2)
    clear hn2 hBn2
    clear hb2
    go_wp2_with fail
    go_ret
    exact ⟨by rw [HE.out]; rfl, hB2⟩
  by_cases hk33 : nk = 33
  · subst hk33
    clear hk5 hk26 hk27 hk28 hk29 hk30 hk31 hk32
    have HE := Lib.hid (show stmtT F (Nd.mk 33 nt nl np) = ofT 33 [orT emptyT F.expr] (Nd.mk 33 nt nl np) from rfl)
    go_enter Tryz.func75, Tryz.ntmps75
    go_wp2_with fail
    generalize hW : w.alloc (.cells #[.int .i64 33, .string nt, .slice A nl.length cp, .int .i64 np] 24) = W at *
    clear hW
    have hdr : Below W.heap.size W W.drew := (Below.refl _ _).drew
    have hl0 := b1.lt
    have hB0 := hB.trans (hdr.mono hB.size)
    have HVD := Lib.hid (HV.out.below hdr)
    have HT0 := Lib.hid (HT.out.below hdr)
    have C0 := Lib.hid b1.drew
    clear b1 HV HT hB
    go_region_held3 (fun w' => w'.cell? ⟨w.heap.size, 0, none⟩ = some (.int .i64 33) ∧ w'.cell? ⟨w.heap.size, 1, none⟩ = some (.string nt) ∧ w'.cell? ⟨w.heap.size, 2, none⟩ = some (.slice A nl.length cp) ∧ w'.cell? ⟨w.heap.size, 3, none⟩ = some (.int .i64 np))
      (first | with_reducible exact four q2 | with_reducible exact four (q1.alloc _) | with_reducible exact four q1 | with_reducible exact four C0.out)
      (first
        | (go_at_call 107; refine (or_any g emptyT F.expr ⟨123, #[]⟩ ⟨74, #[]⟩ _ (empty_so g _) (HF.out.expr.so ent_expr _ HT0.out)).mono ?_; rintro e w1 ⟨h1, rfl, sh1_1, hb1⟩; have q1 := C0.out.below hb1 hl0; have HT1 := Lib.hid (HT0.out.below hb1))
        | (go_at_call 103; refine (tof_any g [(h1, (orT emptyT F.expr))] 33 _ (Nd.mk 33 nt nl np) _ _ 1 rfl (by omega) ((HVD.out.below hb1).below ((Below.refl _ w1).alloc (Nat.le_refl _) _)) HD.out (FvsAt.new _ rfl (Blk.new w1 _ _)) (forall_1 (sh1_1.below ((Below.refl _ w1).alloc (Nat.le_refl _) _)))).mono ?_; rintro e w2 ⟨rfl, hb2⟩; have q2 := (q1.alloc _).below hb2 (q1.alloc _).lt))
    all_goals go_wp2_with fail
    all_goals go_ret
    all_goals
      have hB1 := hB0.trans (hb1.mono hB0.size)
      exact ⟨by rw [HE.out]; rfl, (hB1.alloc hB1.size _).trans (hb2.mono (hB1.alloc hB1.size _).size)⟩
  by_cases hk34 : nk = 34
  · subst hk34
    clear hk5 hk26 hk27 hk28 hk29 hk30 hk31 hk32 hk33
    have HE := Lib.hid (show stmtT F (Nd.mk 34 nt nl np) = ofT 34 [] (Nd.mk 34 nt nl np) from rfl)
    go_enter Tryz.func75, Tryz.ntmps75
    go_wp2_with fail
    refine (tof_any g [] 34 _ ((Nd.mk 34 nt nl np)) none _ 0 rfl (by omega) HV.out HD.out (.inl ⟨rfl, rfl⟩) (fun x hx => by cases hx)).mono ?_
    rintro e w1 ⟨rfl, hb1⟩
    have hB1 := hB.trans (hb1.mono hB.size)
    have HT1 := Lib.hid (Tab.below HT.out hb1)
    clear hb1
    go_wp2_with fail
    go_ret
    exact ⟨by rw [HE.out]; rfl, hB1⟩
  by_cases hk35 : nk = 35
  · subst hk35
    clear hk5 hk26 hk27 hk28 hk29 hk30 hk31 hk32 hk33 hk34
    have HE := Lib.hid (show stmtT F (Nd.mk 35 nt nl np) = ofT 35 [] (Nd.mk 35 nt nl np) from rfl)
    go_enter Tryz.func75, Tryz.ntmps75
    go_wp2_with fail
    refine (tof_any g [] 35 _ ((Nd.mk 35 nt nl np)) none _ 0 rfl (by omega) HV.out HD.out (.inl ⟨rfl, rfl⟩) (fun x hx => by cases hx)).mono ?_
    rintro e w1 ⟨rfl, hb1⟩
    have hB1 := hB.trans (hb1.mono hB.size)
    have HT1 := Lib.hid (Tab.below HT.out hb1)
    clear hb1
    go_wp2_with fail
    go_ret
    exact ⟨by rw [HE.out]; rfl, hB1⟩
  have HE := Lib.hid (show stmtT F (Nd.mk nk nt nl np) = blockT F (Nd.mk nk nt nl np) by unfold stmtT; simp only [Nd.kind_mk, or_self, hk5, hk26, hk27, hk28, hk29, hk30, hk31, hk32, hk33, hk34, hk35, if_false])
  have t5 : (nk == 5) = false := by simpa using hk5
  have t26 : (nk == 26) = false := by simpa using hk26
  have t27 : (nk == 27) = false := by simpa using hk27
  have t28 : (nk == 28) = false := by simpa using hk28
  have t29 : (nk == 29) = false := by simpa using hk29
  have t30 : (nk == 30) = false := by simpa using hk30
  have t31 : (nk == 31) = false := by simpa using hk31
  have t32 : (nk == 32) = false := by simpa using hk32
  have t33 : (nk == 33) = false := by simpa using hk33
  have t34 : (nk == 34) = false := by simpa using hk34
  have t35 : (nk == 35) = false := by simpa using hk35
  clear hk5 hk26 hk27 hk28 hk29 hk30 hk31 hk32 hk33 hk34 hk35
  go_enter Tryz.func75, Tryz.ntmps75
  go_wp2_with fail
  refine (block_T g F HF.out _ _ (Nd.mk nk nt nl np) HT.out HV.out HD.out).mono ?_
  rintro e w1 ⟨rfl, hb1⟩
  have hB1 := hB.trans (hb1.mono hB.size)
  clear hb1
  go_wp2_with fail
  go_ret
  exact ⟨by rw [HE.out]; rfl, hB1⟩

/-- The questions are answered, at whatever depth. -/
theorem okT : ∀ g : Nat, OkT g (tfns g)
  | 0 => ⟨fun _ _ _ _ _ h => h.elim, fun _ _ _ _ _ h => h.elim, fun _ _ _ _ _ h => h.elim, fun _ _ _ _ _ h => h.elim, fun _ _ _ _ _ h => h.elim⟩
  | g + 1 => ⟨type_T g _ (okT g), expr_T g _ (okT g), block_T g _ (okT g), stmt_T g _ (okT g), if_T g _ (okT g)⟩
end Go.Proofs.YtnalfjaojcahhaaGreatDoor
namespace Go.Proofs.YtnalfjaojcahhaaGreatDoor
open Go.RowKit Go.Lib Go.Proofs Go.Shelf
attribute [local go_sem ↓] Go.wp_at_zero Go.wp_at_succ
attribute [local go_sem] Oper.semAt_some

/-- What a round keeps: all below a block, and every row of cells but one. -/
structure KpC (n₀ OB : Nat) (W W' : World) : Prop where
  bel : Below n₀ W W'
  row : ∀ k, k ≠ OB → (∃ c t f, W.heap[k]? = some (.cells c t f)) → W'.heap[k]? = W.heap[k]?
theorem KpC.trans {n₀ OB : Nat} {A B C : World} (h : KpC n₀ OB A B) (k : KpC n₀ OB B C) : KpC n₀ OB A C :=
  ⟨h.bel.trans k.bel, fun j hj hc => by
    have e := h.row j hj hc
    obtain ⟨c, t, f, hc⟩ := hc
    exact (k.row j hj ⟨c, t, f, e.trans hc⟩).trans e⟩
theorem KpC.refl (n₀ OB : Nat) (W : World) : KpC n₀ OB W W := ⟨Below.refl _ _, fun _ _ _ => rfl⟩
theorem KpC.alloc {n₀ OB : Nat} {A W : World} (h : KpC n₀ OB A W) (hn : n₀ ≤ W.heap.size) (o : Obj) : KpC n₀ OB A (W.alloc o) :=
  h.trans ⟨(Below.refl _ _).alloc hn o, fun k _ hc => by
    obtain ⟨c, t, f, hc⟩ := hc
    exact Below.heap_alloc W o k (Array.getElem?_eq_some_iff.1 hc).1⟩
theorem KpC.blk {n₀ OB : Nat} {W W' : World} (h : KpC n₀ OB W W') {b : Nat} {t : TypeId} {cs : Array Value} (hb : Blk W b t cs) (hne : b ≠ OB) : Blk W' b t cs :=
  (h.row b hne ⟨cs, t, (0, 0), hb⟩).trans hb
theorem kpC_b {n₀ OB : Nat} {w : World} (hn : n₀ ≤ w.heap.size) (W : World) (l : Nat) (o o' : Obj) (hl : w.heap.size ≤ l) (h : W.heap[l]? = some o) (hc : o.isCells = false) (hw : o.isWalk = false) : KpC n₀ OB W (W.putObj l o') :=
  ⟨belowK_b hn W l o o' hl h hc hw, fun k _ hk => by
    obtain ⟨c, t, f, hk⟩ := hk
    refine World.putObj_heap_other (fun e => ?_)
    subst e
    rw [h] at hk
    injection hk with hk
    subst hk
    cases hc⟩

/-- What a round is handed: a node as a value, and how much depth is left. -/
abbrev YV := Value × { k : Nat // k ≤ 1000 }
def yArgs (x : YV) : Array Value := #[x.1, .int .i64 (x.2.1 : Int)]

set_option maxRecDepth 100000 in
set_option maxHeartbeats 4000000 in
theorem goes_in (l n₀ OB N : Nat) (J Jx : List YV → World → Prop) (hJ : ∀ s W o, J s W → J s (W.alloc o))
    (hY : ∀ m pre x W, J pre W → pre.length < N → YieldAt Fence.wide m Tryz.prog l (yArgs x) W fun e W' => (e = .returned (.bool true) ∧ J (pre ++ [x]) W' ∧ KpC n₀ OB W W') ∨ (e = .returned (.bool false) ∧ Jx (pre ++ [x]) W')) :
    ∀ (g k : Nat) (v : Value) (n : Nd) (pre : List YV) (W : World), g ≤ 1000 → NodeV (· < n₀) W v n → Wee g n → J pre W → n₀ ≤ W.heap.size → OB < W.heap.size → pre.length + (lefts g n).length ≤ N →
      CallsIn Fence.wide k Tryz.prog 126 #[v, .int .i64 (g : Int), .func (.yield l) #[] #[]] W fun e W' =>
        (e = .returned (.bool true) ∧ (∃ ys, ys.map (·.2.1) = lefts g n ∧ J (pre ++ ys) W') ∧ KpC n₀ OB W W') ∨ (e = .returned (.bool false) ∧ ∃ q, Jx q W') := by
  intro g
  induction g with
  | zero =>
    intro k v n pre W _ hv _ hj hn _ _
    obtain ⟨A, cp, rfl, hC⟩ := hv.toC
    have HJ1 := Lib.hid (hJ _ _ (.cells #[.int .i64 n.kind, .string n.text, .slice A n.kids.length cp, .int .i64 n.pos] 24) hj)
    refine callsIn_of_wp Tryz.func126 rfl trivial ?_ rfl
    simp only [Tryz.ntmps126, List.size_toArray, List.length_cons, List.length_nil, Nat.reduceAdd, Nat.reduceSub, Array.replicate_succ, Array.replicate_zero, List.push_toArray, List.append_toArray, List.nil_append, List.cons_append]
    gi_wp2
    go_ret
    exact .inl ⟨rfl, ⟨[], rfl, by simpa using HJ1.out⟩, (KpC.refl _ _ _).alloc hn _⟩
  | succ g ih =>
    intro k v n pre W hg hv hw hj hn hob hN
    have hV0 := hv
    obtain ⟨A, cp, rfl, hC⟩ := hv.toC
    have hdd : ∀ k : Nat, ((Fence.wide).depth.isSome = true → 1 ≤ k) := fun k h => by cases h
    have HJ1 := Lib.hid (hJ _ _ (.cells #[.int .i64 n.kind, .string n.text, .slice A n.kids.length cp, .int .i64 n.pos] 24) hj)
    have b1 : Blk (W.alloc (.cells #[.int .i64 n.kind, .string n.text, .slice A n.kids.length cp, .int .i64 n.pos] 24)) W.heap.size 24 #[.int .i64 n.kind, .string n.text, .slice A n.kids.length cp, .int .i64 n.pos] := Blk.new W _ _
    have hz : ((g : Int) + 1 == 0) = false := by simp; omega
    rw [lefts, List.length_cons] at hN
    obtain ⟨fn, tmps, assign, body, hy, hR⟩ := hY (k - 1) pre (.agg #[.int .i64 n.kind, .string n.text, .slice A n.kids.length cp, .int .i64 n.pos], ⟨g + 1, hg⟩) _ HJ1.out (by omega)
    refine callsIn_of_wp Tryz.func126 rfl trivial ?_ rfl
    simp only [Tryz.ntmps126, List.size_toArray, List.length_cons, List.length_nil, Nat.reduceAdd, Nat.reduceSub, Array.replicate_succ, Array.replicate_zero, List.push_toArray, List.append_toArray, List.nil_append, List.cons_append]
    have hy2 : (Instr.yield l #[.agg #[.int .i64 n.kind, .string n.text, .slice A n.kids.length cp, .int .i64 n.pos], .int .i64 ((g : Int) + 1)]).run Tryz.prog (W.alloc (.cells #[.int .i64 n.kind, .string n.text, .slice A n.kids.length cp, .int .i64 n.pos] 24)) = .ok (.round l fn tmps assign body) (W.alloc (.cells #[.int .i64 n.kind, .string n.text, .slice A n.kids.length cp, .int .i64 n.pos] 24)) := hy
    have HN := Lib.hid hN
    have HW := Lib.hid hw
    have HV := Lib.hid hV0
    have HH := Lib.hid hY
    have HI := Lib.hid ih
    have HJJ := Lib.hid hJ
    have HK1 := Lib.hid ((KpC.refl n₀ OB W).alloc hn (.cells #[.int .i64 n.kind, .string n.text, .slice A n.kids.length cp, .int .i64 n.pos] 24))
    clear hy hV0 hv hC hN hw hj hY ih hJ
    gi_wp2
    refine ⟨hdd _, hR.mono ?_⟩
    rintro e W1 (⟨rfl, hj1, hk1⟩ | ⟨rfl, hx1⟩)
    case inr =>
      have HX1 := Lib.hid hx1
      clear hx1
      gi_wp2
      go_ret
      exact .inr ⟨rfl, _, HX1.out⟩
    have c1 := hk1.blk b1 (by omega)
    obtain ⟨x0, x1, x2, x3, _, _, _, _⟩ := blk4 c1
    have HJ2 := Lib.hid hj1
    have HK2 := Lib.hid (HK1.out.trans hk1)
    have hs1 := hk1.bel.size
    simp at hs1
    clear hR hj1 hk1 HJ1 hy2 b1 HK1
    gi_wp2
    generalize hpre : pre ++ [((.agg #[.int .i64 n.kind, .string n.text, .slice A n.kids.length cp, .int .i64 n.pos] : Value), (⟨g + 1, hg⟩ : { k : Nat // k ≤ 1000 }))] = pre1 at *
    have hlen : pre1.length = pre.length + 1 := by rw [← hpre]; simp
    have HPRE := Lib.hid hpre
    clear hpre
    have hnk := HW.out.1.1
    gi_loopw [8, 19] (fun _ u19 wr => ∃ (i : Nat) (ys : List YV), i ≤ n.kids.length ∧ u19 = .int .i64 (i : Int) ∧ ys.map (·.2.1) = (n.kids.take i).flatMap (lefts g) ∧ J (pre1 ++ ys) wr ∧ KpC n₀ OB W wr) (fun _ u19 _ => n.kids.length - (RowKit.intOf u19).toNat)
    case atStart => exact ⟨0, [], Nat.zero_le _, rfl, rfl, by simpa using HJ2.out, HK2.out⟩
    case round =>
      clear x0 x1 x2 x3 c1
      obtain ⟨i, ys, hi, rfl, hys, hj, hk⟩ := hrel
      have HYS := Lib.hid hys
      have HJ3 := Lib.hid hj
      clear hys hj
      by_cases hlt : i < n.kids.length
      · have hlt2 : (i : Int) < (n.kids.length : Int) := by omega
        have h0 : (0 : Int) ≤ (i : Int) := by omega
        obtain ⟨b, off, A1, cp1, rfl, hbn, hbl, k0, k1, k2, k3, hkn⟩ := (HV.out.keep (fun b hb _ => hk.bel.block b hb)).kidsV.kid i hlt
        have HM := Lib.hid (List.getElem_mem hlt)
        have HTK := Lib.hid (show (n.kids.take (i + 1)).flatMap (lefts g) = (n.kids.take i).flatMap (lefts g) ++ lefts g n.kids[i] by rw [List.take_succ_eq_append_getElem hlt, List.flatMap_append]; simp)
        have hle : ((n.kids.take (i + 1)).flatMap (lefts g)).length ≤ (n.kids.flatMap (lefts g)).length := by
          conv => rhs; rw [← List.take_append_drop (i + 1) n.kids, List.flatMap_append]
          rw [List.length_append]; omega
        generalize n.kids[i] = x at *
        have hyl : ys.length = ((n.kids.take i).flatMap (lefts g)).length := by rw [← HYS.out, List.length_map]
        have hsz := hk.bel.size
        have HC := Lib.hid (HI.out (k - 1) _ x (pre1 ++ ys) _ (by omega) (hkn.keep (w' := wr.alloc (.cells #[.int .i64 x.kind, .string x.text, .slice A1 x.kids.length cp1, .int .i64 x.pos] 24)) (fun b _ hlt => Below.heap_alloc wr _ b hlt)) (HW.out.2 x HM.out) (HJJ.out _ _ (.cells #[.int .i64 x.kind, .string x.text, .slice A1 x.kids.length cp1, .int .i64 x.pos] 24) HJ3.out) (by simp; omega) (by simp; omega) (by
          have := HN.out
          rw [HTK.out, List.length_append] at hle
          rw [List.length_append, hlen, hyl]
          omega))
        clear hkn hle hyl
        gi_wp2
        refine ⟨trivial, hdd _, HC.out.mono ?_⟩
        rintro e W2 (⟨rfl, ⟨zs, hzs, hj4⟩, hk4⟩ | ⟨rfl, q, hx4⟩)
        case inr =>
          have HX4 := Lib.hid hx4
          clear hx4
          gi_wp2
          go_ret
          exact .inr ⟨rfl, _, HX4.out⟩
        have HZ := Lib.hid (show (ys ++ zs).map (·.2.1) = (n.kids.take (i + 1)).flatMap (lefts g) by rw [List.map_append, HYS.out, hzs, HTK.out])
        have HJ5 := Lib.hid (show J (pre1 ++ (ys ++ zs)) W2 by rw [← List.append_assoc]; exact hj4)
        have HK5 := Lib.hid ((hk.alloc (by omega) _).trans hk4)
        clear HC hzs hj4 hk4 HTK k0 k1 k2 k3
        gi_wp2
        go_roundw
        case rel => exact ⟨i + 1, ys ++ zs, by omega, by go_num, HZ.out, HJ5.out, HK5.out⟩
        case measure => simp [RowKit.intOf]; omega
      · have hlt2 : ¬ (i : Int) < (n.kids.length : Int) := by omega
        have ht : n.kids.take i = n.kids := List.take_of_length_le (by omega)
        have HYE := Lib.hid (show (((.agg #[.int .i64 n.kind, .string n.text, .slice A n.kids.length cp, .int .i64 n.pos] : Value), (⟨g + 1, hg⟩ : { k : Nat // k ≤ 1000 })) :: ys).map (·.2.1) = lefts (g + 1) n by rw [lefts, List.map_cons, HYS.out, ht])
        have HJE := Lib.hid (show J (pre ++ ((.agg #[.int .i64 n.kind, .string n.text, .slice A n.kids.length cp, .int .i64 n.pos] : Value), (⟨g + 1, hg⟩ : { k : Nat // k ≤ 1000 })) :: ys) wr by
          have := HJ3.out
          rw [← HPRE.out, List.append_assoc] at this
          simpa using this)
        clear ht
        gi_wp2
        go_ret
        exact .inl ⟨rfl, ⟨_, HYE.out, HJE.out⟩, hk⟩

set_option maxHeartbeats 1000000 in
theorem nodes1_in (l n₀ OB k g : Nat) (v : Value) (n : Nd) (J Jx : List YV → World → Prop) (hJ : ∀ s W o, J s W → J s (W.alloc o))
    (hY : ∀ pre x W, J pre W → pre.length < (lefts g n).length → YieldAt Fence.wide (k - 1) Tryz.prog l (yArgs x) W fun e W' => (e = .returned (.bool true) ∧ J (pre ++ [x]) W' ∧ KpC n₀ OB W W') ∨ (e = .returned (.bool false) ∧ Jx (pre ++ [x]) W'))
    (W : World) (bn bd : Nat) (A : Option Addr) (cp : Nat) (he : v = .agg #[.int .i64 n.kind, .string n.text, .slice A n.kids.length cp, .int .i64 n.pos]) (hg : g ≤ 1000) (hbn : Blk W bn 24 #[.int .i64 n.kind, .string n.text, .slice A n.kids.length cp, .int .i64 n.pos]) (hbd : Blk W bd 3 #[.int .i64 (g : Int)])
    (hv : NodeV (· < n₀) W v n) (hw : Wee g n) (hn : n₀ ≤ W.heap.size) (hob : OB < W.heap.size) (h0 : J [] W) :
    CallsIn Fence.wide k Tryz.prog 125 #[.func (.yield l) #[] #[], .pointer (some ⟨bn, 0, none⟩), .pointer (some ⟨bd, 0, none⟩)] W fun e W' => (∃ v, e = .returned v) ∧ ((∃ ys, ys.map (·.2.1) = lefts g n ∧ J ys W') ∨ (∃ q : List YV, True ∧ Jx q W')) := by
  have hdd : ∀ k : Nat, ((Fence.wide).depth.isSome = true → 1 ≤ k) := fun k h => by cases h
  have hp := Lib.hid (goes_in l n₀ OB (lefts g n).length J Jx hJ (fun m pre x W hj hl => by
    obtain ⟨fn, tmps, assign, body, hy, hR⟩ := hY pre x W hj hl
    exact ⟨fn, tmps, assign, body, hy, ⟨hR.1, fun c cs _ => hR.2 c cs (fun d h => by cases h)⟩⟩) g (k - 1) v n [] W hg hv hw h0 hn hob (by simp))
  obtain ⟨x0, x1, x2, x3, _, _, _, _⟩ := blk4 hbn
  have hd := blk1 hbd
  subst he
  clear hv hY hJ hbn hbd hw
  refine callsIn_of_wp Tryz.func125 rfl trivial ?_ rfl
  simp only [Tryz.ntmps125, List.size_toArray, List.length_cons, List.length_nil, Nat.reduceAdd, Nat.reduceSub, Array.replicate_succ, Array.replicate_zero, List.push_toArray, List.append_toArray, List.nil_append, List.cons_append]
  gi_wp2
  refine ⟨trivial, hdd _, hp.out.mono ?_⟩
  rintro e W1 (⟨rfl, ⟨ys, hys, hj⟩, hk⟩ | ⟨rfl, q, hx⟩)
  · have HYS := Lib.hid hys
    have HJ1 := Lib.hid hj
    clear hys hj hp
    gi_wp2
    go_end0
    exact ⟨⟨_, rfl⟩, .inl ⟨ys, HYS.out, by simpa using HJ1.out⟩⟩
  · have HX := Lib.hid hx
    clear hx hp
    gi_wp2
    go_end0
    exact ⟨⟨_, rfl⟩, .inr ⟨q, trivial, HX.out⟩⟩

theorem nodes_in (k : Nat) (v : Value) (d : Int) (n : Nd) (w : World) (hv : NodeW w v n) :
    CallsIn Fence.wide k Tryz.prog 77 #[v, .int .i64 d] w fun e w' => e = .returned (.func (.func 125) #[] #[.pointer (some ⟨w.heap.size, 0, none⟩), .pointer (some ⟨w.heap.size + 1, 0, none⟩)]) ∧ w' = (w.alloc (.cells v.cells 24)).alloc (.cells #[.int .i64 d] 3) := by
  obtain ⟨A, cp, rfl, hC⟩ := hv.toC
  clear hv hC
  refine callsIn_of_wp Tryz.func77 rfl trivial ?_ rfl
  simp only [Tryz.ntmps77, List.size_toArray, List.length_cons, List.length_nil, Nat.reduceAdd, Nat.reduceSub, Array.replicate_succ, Array.replicate_zero, List.push_toArray, List.append_toArray, List.nil_append, List.cons_append]
  gi_wp2
  go_ret
  exact ⟨rfl, rfl⟩
end Go.Proofs.YtnalfjaojcahhaaGreatDoor
