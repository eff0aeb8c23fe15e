/-
  A row of nodes without its first; the question on a part in [ ]. By an AI agent.
  tree's question on expressions. By an AI agent.
-/
import Derived.Test.YtnalfjaojcahhaaGreatDoorJ16
import Derived.Laws.Slices
namespace Go.Proofs.YtnalfjaojcahhaaGreatDoor
open Go.RowKit Go.Lib Go.Proofs
attribute [local go_sem ↓] Go.wp_at_zero Go.wp_at_succ

theorem elemNd : Tryz.prog.underlying 22 = some (.slice (Tryz.prog.elem 22)) := by kernel_rfl
theorem elemNdE : Tryz.prog.elem 22 = 24 := by kernel_rfl
theorem sizeNd (w : World) : (sizeOf (Tryz.prog.elem 22)).run Tryz.prog w = .ok 4 w := by rw [elemNdE]; exact Tryz.sizeOf24 w
theorem ReadsX.tail {X : Nat → Prop} {w : World} {A : Option Addr} {n c : Nat} {xs : List Value} (h : ReadsX X w 4 A n xs) (hn : 1 ≤ n) (hc : n ≤ c) : ReadsX X w 4 (if c = 1 then A else A.map (·.add 4)) (n - 1) (xs.drop 4) := by
  refine ⟨by rw [List.length_drop, h.1]; omega, fun hp => ?_⟩
  obtain ⟨b, off, rfl, hb, hcell⟩ := h.2 (by omega)
  rw [if_neg (by omega)]
  refine ⟨b, off + 4, by simp [Addr.add], hb, fun j u hu => ?_⟩
  rw [List.getElem?_drop] at hu
  have := hcell _ u hu
  rwa [← Nat.add_assoc] at this
theorem run_tail (A : Option Addr) (q c : Nat) (h1 : 1 ≤ q) (hq : q ≤ c) : ∃ A', (∀ W : World, (Instr.slice 22 (.slice A q c) (some (.int .i64 1)) none none).run Tryz.prog W = .ok (.slice A' (q - 1) (c - 1)) W) ∧
    ∀ (X : Nat → Prop) (w : World) (l : List Nd), NodesV X w (.slice A q c) l → NodesV X w (.slice A' (q - 1) (c - 1)) (l.drop 1) := by
  refine ⟨if c = 1 then A else A.map (·.add 4), fun W => ?_, fun X w l h => ?_⟩
  · rw [run_slice_l (P := Tryz.prog) W 22 A q c elemNd .i64 1 (by omega) (by omega), sizeNd]
    simp [Result.andThen, sliced]
  · obtain ⟨A1, c1, xs, e, h2, h3, h4⟩ := h
    injection e with e1 e2 e3
    subst e1 e2 e3
    refine ⟨_, c - 1, xs.drop 4, by rw [List.length_drop], by rw [List.length_drop]; omega, ?_, ?_⟩
    · rw [List.length_drop]; exact h3.tail h1 hq
    · have := (h4.split 1).2
      simpa using this

theorem ent_part (a : Array Value) (w : World) : (callFunc 117 a).run Tryz.prog w = .ok (.enter 117 a) w := by kernel_rfl
theorem bne_dec (a b : Int) : (a != b) = decide (a ≠ b) := by rw [Bool.eq_iff_iff]; simp

set_option maxHeartbeats 2000000 in
theorem part_T (g : Nat) (F : TFns) (hF : OkT g F) : AskC g (partT F) 117 := by
  intro w v n hT hv hd
  have hV0 := hv
  obtain ⟨A, cp, rfl, hC⟩ := hv.toC
  have hB := (Below.refl w.heap.size w).alloc (Nat.le_refl _) (.cells #[.int .i64 n.kind, .string n.text, .slice A n.kids.length cp, .int .i64 n.pos] 24)
  have b1 : Blk (w.alloc (.cells #[.int .i64 n.kind, .string n.text, .slice A n.kids.length cp, .int .i64 n.pos] 24)) w.heap.size 24 #[.int .i64 n.kind, .string n.text, .slice A n.kids.length cp, .int .i64 n.pos] := Blk.new w _ _
  have HI := Lib.hid (hF.expr _ _ n (hT.below hB) (hV0.below hB) hd)
  have HJ := Lib.hid (fun w' (hb : Below (w.alloc (.cells #[.int .i64 n.kind, .string n.text, .slice A n.kids.length cp, .int .i64 n.pos] 24)).heap.size (w.alloc (.cells #[.int .i64 n.kind, .string n.text, .slice A n.kids.length cp, .int .i64 n.pos] 24)) w') => hF.typ _ _ n ((hT.below hB).below hb) ((hV0.below hB).below hb) hd)
  have hE : partT F n = (F.expr n || ((n.kind != 10) && F.typ n)) := by unfold partT; rw [bne_dec]
  rw [hE]
  clear hE hV0 hv hC hT hF hd
  generalize hq1 : F.expr n = q1 at *
  generalize F.typ n = q2 at *
  clear hq1
  go_enter Tryz.func117, Tryz.ntmps117
  go_wp2_with fail
  refine HI.out.mono ?_
  rintro e w1 ⟨rfl, hb1⟩
  have hB1 := hB.trans (hb1.mono hB.size)
  cases q1 with
  | true =>
    clear hb1
    go_wp2_with fail
    go_ret
    exact ⟨rfl, hB1⟩
  | false =>
    obtain ⟨x0, x1, x2, x3, _, _, _, _⟩ := blk4 (b1.below hb1 (by simp))
    have HJ1 := Lib.hid (HJ.out w1 hb1)
    clear hb1 HJ HI b1
    cases h1 : (n.kind != 10) with
    | false =>
      go_wp2_with fail
      go_ret
      exact ⟨by rw [h1]; rfl, hB1⟩
    | true =>
      go_wp2_with fail
      refine HJ1.out.mono ?_
      rintro e w2 ⟨rfl, hb2⟩
      have hB2 := hB1.trans (hb2.mono hB1.size)
      clear hb2
      go_wp2_with fail
      go_ret
      exact ⟨by rw [h1]; rfl, hB2⟩
end Go.Proofs.YtnalfjaojcahhaaGreatDoor
namespace Go.Proofs.YtnalfjaojcahhaaGreatDoor
open Go.RowKit Go.Lib Go.Proofs
attribute [local go_sem ↓] Go.wp_at_zero Go.wp_at_succ

set_option maxRecDepth 100000 in
set_option maxHeartbeats 8000000 in
theorem expr_T (g : Nat) (F : TFns) (hF : OkT g F) : AskC (g + 1) (exprT F) 74 := by
  intro w v n hT hv hd
  obtain ⟨nk, nt, nl, np⟩ := n
  have hV0 := hv
  obtain ⟨A, cp, rfl, hC⟩ := hv.toC
  simp only [Nd.kind_mk, Nd.text_mk, Nd.kids_mk, Nd.pos_mk] at hV0 ⊢
  have hB := (Below.refl w.heap.size w).alloc (Nat.le_refl _) (.cells #[.int .i64 nk, .string nt, .slice A nl.length cp, .int .i64 np] 24)
  have b1 : Blk (w.alloc (.cells #[.int .i64 nk, .string nt, .slice A nl.length cp, .int .i64 np] 24)) w.heap.size 24 #[.int .i64 nk, .string nt, .slice A nl.length cp, .int .i64 np] := Blk.new w _ _
  have HV := Lib.hid (hV0.below hB)
  have HV0 := Lib.hid hV0
  have HT := Lib.hid (hT.below hB)
  have HF := Lib.hid hF
  have HD := Lib.hid hd
  clear hV0 hv hC hT hF hd
  by_cases hk16 : nk = 16
  · subst hk16
    have HE := Lib.hid (show exprT F (Nd.mk 16 nt nl np) = ofT 16 [] (namedT plainT (Nd.mk 16 nt nl np)) from rfl)
    go_enter Tryz.func74, Tryz.ntmps74
    go_wp2_with fail
    refine (named_any _ _ (Nd.mk 16 nt nl np) HV.out ⟨113, #[]⟩ plainT (plain_so _) HD.out.txt).mono ?_
    rintro e w1 ⟨v1, rfl, hv1, hb1⟩
    have hB1 := hB.trans (hb1.mono hB.size)
    have HT1 := Lib.hid (Tab.below HT.out hb1)
    have HV1 := Lib.hid hv1
    clear hb1 hv1
    go_wp2_with fail
    refine (tof_any g [] 16 v1 (namedT plainT (Nd.mk 16 nt nl np)) none _ 0 rfl (by omega) HV1.out HD.out.named (.inl ⟨rfl, rfl⟩) (fun x hx => by cases hx)).mono ?_
    rintro e w2 ⟨rfl, hb2⟩
    have hB2 := hB1.trans (hb2.mono hB1.size)
    have HT2 := Lib.hid (Tab.below HT1.out hb2)
    clear hb2
    go_wp2_with fail
    go_ret
    exact ⟨by rw [HE.out]; rfl, hB2⟩
  by_cases hk17 : nk = 17
  · subst hk17
    clear hk16
    have HE := Lib.hid (show exprT F (Nd.mk 17 nt nl np) = ofT 17 [] (namedT shortStr (Nd.mk 17 nt nl np)) from rfl)
    go_enter Tryz.func74, Tryz.ntmps74
    go_wp2_with fail
    refine (named_any _ _ (Nd.mk 17 nt nl np) HV.out ⟨114, #[]⟩ shortStr (short_so _) HD.out.txt).mono ?_
    rintro e w1 ⟨v1, rfl, hv1, hb1⟩
    have hB1 := hB.trans (hb1.mono hB.size)
    have HT1 := Lib.hid (Tab.below HT.out hb1)
    have HV1 := Lib.hid hv1
    clear hb1 hv1
    go_wp2_with fail
    refine (tof_any g [] 17 v1 (namedT shortStr (Nd.mk 17 nt nl np)) none _ 0 rfl (by omega) HV1.out HD.out.named (.inl ⟨rfl, rfl⟩) (fun x hx => by cases hx)).mono ?_
    rintro e w2 ⟨rfl, hb2⟩
    have hB2 := hB1.trans (hb2.mono hB1.size)
    have HT2 := Lib.hid (Tab.below HT1.out hb2)
    clear hb2
    go_wp2_with fail
    go_ret
    exact ⟨by rw [HE.out]; rfl, hB2⟩
  by_cases hk18 : nk = 18
  · subst hk18
    clear hk16 hk17
    have HE := Lib.hid (show exprT F (Nd.mk 18 nt nl np) = ofT 18 [] (namedT nameT (Nd.mk 18 nt nl np)) from rfl)
    go_enter Tryz.func74, Tryz.ntmps74
    go_wp2_with fail
    refine (named_any _ _ (Nd.mk 18 nt nl np) HV.out ⟨70, #[]⟩ nameT (name_so _) HD.out.txt).mono ?_
    rintro e w1 ⟨v1, rfl, hv1, hb1⟩
    have hB1 := hB.trans (hb1.mono hB.size)
    have HT1 := Lib.hid (Tab.below HT.out hb1)
    have HV1 := Lib.hid hv1
    clear hb1 hv1
    go_wp2_with fail
    refine (tof_any g [] 18 v1 (namedT nameT (Nd.mk 18 nt nl np)) none _ 0 rfl (by omega) HV1.out HD.out.named (.inl ⟨rfl, rfl⟩) (fun x hx => by cases hx)).mono ?_
    rintro e w2 ⟨rfl, hb2⟩
    have hB2 := hB1.trans (hb2.mono hB1.size)
    have HT2 := Lib.hid (Tab.below HT1.out hb2)
    clear hb2
    go_wp2_with fail
    go_ret
    exact ⟨by rw [HE.out]; rfl, hB2⟩
  by_cases hk19 : nk = 19
  · subst hk19
    clear hk16 hk17 hk18
    have HE := Lib.hid (show exprT F (Nd.mk 19 nt nl np) = ofT 19 [F.expr] (namedT unaryT (Nd.mk 19 nt nl np)) from rfl)
    go_enter Tryz.func74, Tryz.ntmps74
    go_wp2_with fail
    refine (named_any _ _ (Nd.mk 19 nt nl np) HV.out ⟨115, #[]⟩ unaryT (unary_so _) HD.out.txt).mono ?_
    rintro e w1 ⟨v1, rfl, hv1, hb1⟩
    have hB1 := hB.trans (hb1.mono hB.size)
    have HT1 := Lib.hid (Tab.below HT.out hb1)
    have HV1 := Lib.hid hv1
    clear hb1 hv1
    go_wp2_with fail
    have hn2 := (Below.refl w1.heap.size w1).alloc (Nat.le_refl _) (.cells #[.func (.func 74) #[] #[]] 33)
    have hBn2 := hB1.trans (hn2.mono hB1.size)
    refine (tof_any g [(⟨74, #[]⟩, F.expr)] 19 v1 (namedT unaryT (Nd.mk 19 nt nl np)) _ _ 1 rfl (by omega) (HV1.out.below hn2) HD.out.named (FvsAt.new _ rfl (Blk.new w1 _ _)) (forall_1 (HF.out.expr.so ent_expr _ (Tab.below HT1.out hn2)))).mono ?_
    rintro e w2 ⟨rfl, hb2⟩
    have hB2 := hBn2.trans (hb2.mono hBn2.size)
    have HT2 := Lib.hid (Tab.below (Tab.below HT1.out hn2) hb2)
    clear hn2 hBn2
    clear hb2
    go_wp2_with fail
    go_ret
    exact ⟨by rw [HE.out]; rfl, hB2⟩
  by_cases hk20 : nk = 20
  · subst hk20
    clear hk16 hk17 hk18 hk19
    have HE := Lib.hid (show exprT F (Nd.mk 20 nt nl np) = ofT 20 [F.expr, F.expr] (namedT binaryT (Nd.mk 20 nt nl np)) from rfl)
    go_enter Tryz.func74, Tryz.ntmps74
    go_wp2_with fail
    refine (named_any _ _ (Nd.mk 20 nt nl np) HV.out ⟨116, #[]⟩ binaryT (binary_so _ HT.out) HD.out.txt).mono ?_
    rintro e w1 ⟨v1, rfl, hv1, hb1⟩
    have hB1 := hB.trans (hb1.mono hB.size)
    have HT1 := Lib.hid (Tab.below HT.out hb1)
    have HV1 := Lib.hid hv1
    clear hb1 hv1
    go_wp2_with fail
    have hn2 := (Below.refl w1.heap.size w1).alloc (Nat.le_refl _) (.cells #[.func (.func 74) #[] #[], .func (.func 74) #[] #[]] 33)
    have hBn2 := hB1.trans (hn2.mono hB1.size)
    refine (tof_any g [(⟨74, #[]⟩, F.expr), (⟨74, #[]⟩, F.expr)] 20 v1 (namedT binaryT (Nd.mk 20 nt nl np)) _ _ 2 rfl (by omega) (HV1.out.below hn2) HD.out.named (FvsAt.new _ rfl (Blk.new w1 _ _)) (forall_2 (HF.out.expr.so ent_expr _ (Tab.below HT1.out hn2)) (HF.out.expr.so ent_expr _ (Tab.below HT1.out hn2)))).mono ?_
    rintro e w2 ⟨rfl, hb2⟩
    have hB2 := hBn2.trans (hb2.mono hBn2.size)
    have HT2 := Lib.hid (Tab.below (Tab.below HT1.out hn2) hb2)
    clear hn2 hBn2
    clear hb2
    go_wp2_with fail
    go_ret
    exact ⟨by rw [HE.out]; rfl, hB2⟩
  by_cases hk21 : nk = 21
  · subst hk21
    clear hk16 hk17 hk18 hk19 hk20
    have HE := Lib.hid (show exprT F (Nd.mk 21 nt nl np) = (decide (nt = (⟨#[]⟩ : ByteArray)) && (decide (0 < nl.length) && nl.all F.expr)) from rfl)
    have HI := Lib.hid (tall_any g F.expr ⟨74, #[]⟩ A cp nl _ HV.out.kidsV HD.out.2 HD.out.1.1 (HF.out.expr.so ent_expr _ HT.out))
    have hE : exprT F (Nd.mk 21 nt nl np) = (nt.toList.isEmpty && (decide (0 < nl.length) && nl.all F.expr)) := by rw [HE.out, isEmpty_dec]
    rw [hE]
    clear hE HE
    generalize nl.all F.expr = q at *
    cases h1 : nt.toList.isEmpty <;> cases h2 : decide (0 < nl.length)
    all_goals
      go_enter Tryz.func74, Tryz.ntmps74
      go_wp2_with fail
      try
        refine HI.out.mono ?_
        rintro e w1 ⟨rfl, hb1⟩
        replace hB := hB.trans (hb1.mono hB.size)
        clear hb1
        go_wp2_with fail
      go_ret
      exact ⟨rfl, hB⟩
  by_cases hk22 : nk = 22
  · subst hk22
    clear hk16 hk17 hk18 hk19 hk20 hk21
    have HE := Lib.hid (show exprT F (Nd.mk 22 nt nl np) = (decide (nt = (⟨#[]⟩ : ByteArray)) && (decide (1 < nl.length) && (F.expr (nl.getD 0 nd0) && (nl.drop 1).all (partT F)))) from rfl)
    by_cases h1 : nt.toList.isEmpty = true
    case neg =>
      have h1' : nt.toList.isEmpty = false := by simpa using h1
      clear h1
      go_enter Tryz.func74, Tryz.ntmps74
      go_wp2_with fail
      go_ret
      exact ⟨by rw [HE.out, ← isEmpty_dec, h1']; rfl, hB⟩
    by_cases h2 : 1 < nl.length
    case neg =>
      have h2' : decide (1 < nl.length) = false := by simpa using h2
      have h2i : decide ((1 : Int) < (nl.length : Int)) = false := by simp; omega
      clear h2
      go_enter Tryz.func74, Tryz.ntmps74
      go_wp2_with fail
      go_ret
      exact ⟨by rw [HE.out, ← isEmpty_dec, h1, h2']; rfl, hB⟩
    have h2' : decide (1 < nl.length) = true := by simpa using h2
    have h2i : (1 : Int) < (nl.length : Int) := by omega
    have hq0 : 0 < nl.length := by omega
    have hq1 : (0 : Int) < (nl.length : Int) := by omega
    have hcp : nl.length ≤ cp := by
      obtain ⟨_, _, _, e, h, _⟩ := HV.out.kidsV
      injection e with _ _ e3
      rw [e3]; exact h
    obtain ⟨A', hrun, htail⟩ := run_tail A nl.length cp (by omega) hcp
    have HTL := Lib.hid (fun w' (hb : Below (w.alloc (.cells #[.int .i64 22, .string nt, .slice A nl.length cp, .int .i64 np] 24)).heap.size (w.alloc (.cells #[.int .i64 22, .string nt, .slice A nl.length cp, .int .i64 np] 24)) w') => htail _ w' nl (HV.out.below hb).kidsV)
    obtain ⟨-, b, off, A1, cp1, rfl, hbl, k0, k1, k2, k3, hn0⟩ := NodesW.at_ HV0.out.kidsV 0 hq0
    have hbne : b ≠ w.heap.size := by omega
    simp only [Nd.kids_mk, Nat.zero_mul, Nat.add_zero] at k0 k1 k2 k3 hn0
    have K0 := Lib.hid (show nl.getD 0 nd0 = nl[0] by simp [hq0])
    have HM := Lib.hid (List.getElem_mem hq0)
    generalize nl[0] = y0 at *
    have HX := Lib.hid (HF.out.expr _ _ y0 HT.out (hn0.below hB) (HD.out.2 y0 HM.out))
    have HP := Lib.hid (fun w' (hb : Below (w.alloc (.cells #[.int .i64 22, .string nt, .slice (some ⟨b, off, none⟩) nl.length cp, .int .i64 np] 24)).heap.size (w.alloc (.cells #[.int .i64 22, .string nt, .slice (some ⟨b, off, none⟩) nl.length cp, .int .i64 np] 24)) w') => tall_any g (partT F) ⟨117, #[]⟩ A' (cp - 1) (nl.drop 1) w' (by rw [List.length_drop]; exact HTL.out w' hb) (fun x hx => HD.out.2 x (List.mem_of_mem_drop hx)) (by have := HD.out.1.1; simp at this ⊢; omega) ((part_T g F HF.out).so ent_part _ (HT.out.below hb)))
    rw [List.length_drop] at HP
    clear hn0 HTL htail h2 hcp
    go_enter Tryz.func74, Tryz.ntmps74
    go_wp2_with fail
    refine HX.out.mono ?_
    rintro e w1 ⟨rfl, hb1⟩
    have hB1 := hB.trans (hb1.mono hB.size)
    cases hx : F.expr y0 with
    | false =>
      clear hb1
      go_wp2_with fail
      go_ret
      exact ⟨by rw [HE.out, ← isEmpty_dec, h1, h2', K0.out, hx]; rfl, hB1⟩
    | true =>
      obtain ⟨x0, x1, x2, x3, _, _, _, _⟩ := blk4 (b1.below hb1 (by simp))
      have HP1 := Lib.hid (HP.out w1 hb1)
      clear hb1 HP k0 k1 k2 k3 HX
      go_wp2_with fail
      refine HP1.out.mono ?_
      rintro e w2 ⟨rfl, hb2⟩
      have hB2 := hB1.trans (hb2.mono hB1.size)
      clear hb2
      go_wp2_with fail
      go_ret
      exact ⟨by rw [HE.out, ← isEmpty_dec, h1, h2', K0.out, hx, List.drop_one]; rfl, hB2⟩
  by_cases hk23 : nk = 23
  · subst hk23
    clear hk16 hk17 hk18 hk19 hk20 hk21 hk22
    have HE := Lib.hid (show exprT F (Nd.mk 23 nt nl np) = ofT 23 [F.expr] (namedT nameT (Nd.mk 23 nt nl np)) from rfl)
    go_enter Tryz.func74, Tryz.ntmps74
    go_wp2_with fail
    refine (named_any _ _ (Nd.mk 23 nt nl np) HV.out ⟨70, #[]⟩ nameT (name_so _) HD.out.txt).mono ?_
    rintro e w1 ⟨v1, rfl, hv1, hb1⟩
    have hB1 := hB.trans (hb1.mono hB.size)
    have HT1 := Lib.hid (Tab.below HT.out hb1)
    have HV1 := Lib.hid hv1
    clear hb1 hv1
    go_wp2_with fail
    have hn2 := (Below.refl w1.heap.size w1).alloc (Nat.le_refl _) (.cells #[.func (.func 74) #[] #[]] 33)
    have hBn2 := hB1.trans (hn2.mono hB1.size)
    refine (tof_any g [(⟨74, #[]⟩, F.expr)] 23 v1 (namedT nameT (Nd.mk 23 nt nl np)) _ _ 1 rfl (by omega) (HV1.out.below hn2) HD.out.named (FvsAt.new _ rfl (Blk.new w1 _ _)) (forall_1 (HF.out.expr.so ent_expr _ (Tab.below HT1.out hn2)))).mono ?_
    rintro e w2 ⟨rfl, hb2⟩
    have hB2 := hBn2.trans (hb2.mono hBn2.size)
    have HT2 := Lib.hid (Tab.below (Tab.below HT1.out hn2) hb2)
    clear hn2 hBn2
    clear hb2
    go_wp2_with fail
    go_ret
    exact ⟨by rw [HE.out]; rfl, hB2⟩
  by_cases hk24 : nk = 24
  · subst hk24
    clear hk16 hk17 hk18 hk19 hk20 hk21 hk22 hk23
    have HE := Lib.hid (show exprT F (Nd.mk 24 nt nl np) = (decide (nt = (⟨#[]⟩ : ByteArray)) && (decide (0 < nl.length) && (decide ((nl.getD 0 nd0).kind ≠ 12) && (F.typ (nl.getD 0 nd0) && (nl.drop 1).all F.expr)))) from rfl)
    by_cases h1 : nt.toList.isEmpty = true
    case neg =>
      have h1' : nt.toList.isEmpty = false := by simpa using h1
      clear h1
      go_enter Tryz.func74, Tryz.ntmps74
      go_wp2_with fail
      go_ret
      exact ⟨by rw [HE.out, ← isEmpty_dec, h1']; rfl, hB⟩
    by_cases h2 : 0 < nl.length
    case neg =>
      have h2' : decide (0 < nl.length) = false := by simpa using h2
      clear h2
      go_enter Tryz.func74, Tryz.ntmps74
      go_wp2_with fail
      go_ret
      exact ⟨by rw [HE.out, ← isEmpty_dec, h1, h2']; rfl, hB⟩
    have h2' : decide (0 < nl.length) = true := by simpa using h2
    have hq0 : 0 < nl.length := h2
    have hq1 : (0 : Int) < (nl.length : Int) := by omega
    have hcp : nl.length ≤ cp := by
      obtain ⟨_, _, _, e, h, _⟩ := HV.out.kidsV
      injection e with _ _ e3
      rw [e3]; exact h
    obtain ⟨A', hrun, htail⟩ := run_tail A nl.length cp (by omega) hcp
    have HTL := Lib.hid (fun w' (hb : Below (w.alloc (.cells #[.int .i64 24, .string nt, .slice A nl.length cp, .int .i64 np] 24)).heap.size (w.alloc (.cells #[.int .i64 24, .string nt, .slice A nl.length cp, .int .i64 np] 24)) w') => htail _ w' nl (HV.out.below hb).kidsV)
    obtain ⟨-, b, off, A1, cp1, rfl, hbl, k0, k1, k2, k3, hn0⟩ := NodesW.at_ HV0.out.kidsV 0 hq0
    have hbne : b ≠ w.heap.size := by omega
    simp only [Nd.kids_mk, Nat.zero_mul, Nat.add_zero] at k0 k1 k2 k3 hn0
    have K0 := Lib.hid (show nl.getD 0 nd0 = nl[0] by simp [hq0])
    have HM := Lib.hid (List.getElem_mem hq0)
    generalize nl[0] = y0 at *
    have HN0 := Lib.hid hn0
    have HX := Lib.hid (HF.out.typ _ _ y0 HT.out (hn0.below hB) (HD.out.2 y0 HM.out))
    have HP := Lib.hid (fun w' (hb : Below (w.alloc (.cells #[.int .i64 24, .string nt, .slice (some ⟨b, off, none⟩) nl.length cp, .int .i64 np] 24)).heap.size (w.alloc (.cells #[.int .i64 24, .string nt, .slice (some ⟨b, off, none⟩) nl.length cp, .int .i64 np] 24)) w') => tall_any g F.expr ⟨74, #[]⟩ A' (cp - 1) (nl.drop 1) w' (by rw [List.length_drop]; exact HTL.out w' hb) (fun x hx => HD.out.2 x (List.mem_of_mem_drop hx)) (by have := HD.out.1.1; simp at this ⊢; omega) (HF.out.expr.so ent_expr _ (HT.out.below hb)))
    rw [List.length_drop] at HP
    clear hn0 HTL htail h2 hcp
    have hk : decide (y0.kind ≠ 12) = (y0.kind != 12) := by rw [bne_dec]
    have HK := Lib.hid hk
    clear hk
    cases h3 : (y0.kind != 12) with
    | false =>
      go_enter Tryz.func74, Tryz.ntmps74
      go_wp2_with fail
      go_ret
      exact ⟨by rw [HE.out, ← isEmpty_dec, h1, h2', K0.out, HK.out, h3]; rfl, hB⟩
    | true =>
      go_enter Tryz.func74, Tryz.ntmps74
      go_wp2_with fail
      refine HX.out.mono ?_
      rintro e w1 ⟨rfl, hb1⟩
      have hB1 := hB.trans (hb1.mono hB.size)
      cases hx : F.typ y0 with
      | false =>
        clear hb1
        go_wp2_with fail
        go_ret
        exact ⟨by rw [HE.out, ← isEmpty_dec, h1, h2', K0.out, HK.out, h3, hx]; rfl, hB1⟩
      | true =>
        obtain ⟨x0, x1, x2, x3, _, _, _, _⟩ := blk4 (b1.below hb1 (by simp))
        have HP1 := Lib.hid (HP.out w1 hb1)
        clear hb1 HP k0 k1 k2 k3 HX
        go_wp2_with fail
        refine HP1.out.mono ?_
        rintro e w2 ⟨rfl, hb2⟩
        have hB2 := hB1.trans (hb2.mono hB1.size)
        clear hb2
        go_wp2_with fail
        go_ret
        exact ⟨by rw [HE.out, ← isEmpty_dec, h1, h2', K0.out, HK.out, h3, hx, List.drop_one]; rfl, hB2⟩
  have HE := Lib.hid (show exprT F (Nd.mk nk nt nl np) = ofT 25 [isSigT F, F.block] (Nd.mk nk nt nl np) by unfold exprT; simp only [Nd.kind_mk, hk16, hk17, hk18, hk19, hk20, hk21, hk22, hk23, hk24, if_false])
  have t16 : (nk == 16) = false := by simpa using hk16
  have t17 : (nk == 17) = false := by simpa using hk17
  have t18 : (nk == 18) = false := by simpa using hk18
  have t19 : (nk == 19) = false := by simpa using hk19
  have t20 : (nk == 20) = false := by simpa using hk20
  have t21 : (nk == 21) = false := by simpa using hk21
  have t22 : (nk == 22) = false := by simpa using hk22
  have t23 : (nk == 23) = false := by simpa using hk23
  have t24 : (nk == 24) = false := by simpa using hk24
  clear hk16 hk17 hk18 hk19 hk20 hk21 hk22 hk23 hk24
  go_enter Tryz.func74, Tryz.ntmps74
  go_wp2_with fail
  have hn1 := (Below.refl (w.alloc (.cells #[.int .i64 nk, .string nt, .slice A nl.length cp, .int .i64 np] 24)).heap.size (w.alloc (.cells #[.int .i64 nk, .string nt, .slice A nl.length cp, .int .i64 np] 24))).alloc (Nat.le_refl _) (.cells #[.func (.func 76) #[] #[], .func (.func 106) #[] #[]] 33)
  have hBn1 := hB.trans (hn1.mono hB.size)
  refine (tof_any g [(⟨76, #[]⟩, (isSigT F)), (⟨106, #[]⟩, F.block)] 25 _ ((Nd.mk nk nt nl np)) _ _ 2 rfl (by omega) (HV.out.below hn1) HD.out (FvsAt.new _ rfl (Blk.new_at (n := w.heap.size + 1) (by simp) _ _)) (forall_2 (((isig_any g F HF.out).le fun _ => DLe.succ).so ent_isig _ (Tab.below HT.out hn1)) (HF.out.block.so ent_block _ (Tab.below HT.out hn1)))).mono ?_
  rintro e w1 ⟨rfl, hb1⟩
  have hB1 := hBn1.trans (hb1.mono hBn1.size)
  have HT1 := Lib.hid (Tab.below (Tab.below HT.out hn1) hb1)
  clear hn1 hBn1
  clear hb1
  go_wp2_with fail
  go_ret
  exact ⟨by rw [HE.out]; rfl, hB1⟩

end Go.Proofs.YtnalfjaojcahhaaGreatDoor
