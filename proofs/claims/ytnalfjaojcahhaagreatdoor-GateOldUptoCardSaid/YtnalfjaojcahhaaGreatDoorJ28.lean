/-
  demoticref03.Plain: a number that is written plainly. By an AI agent.
  demoticref06.Expr, kind by kind. By an AI agent.
  demoticref06.Expr: functions, composite literals, indices. By an AI agent.
-/
import Derived.Test.YtnalfjaojcahhaaGreatDoorJ24
import Derived.Test.YtnalfjaojcahhaaGreatDoorJ27
import Derived.Test.YtnalfjaojcahhaaGreatDoorJ17
namespace Go.Proofs.YtnalfjaojcahhaaGreatDoor
open Go.RowKit Go.Lib Go.Proofs
attribute [local go_sem ↓] Go.wp_at_zero Go.wp_at_succ

theorem plain_ref (s : ByteArray) : plainT s = true ↔ (∀ j, j < s.size → runeFigure (byteU s j : Int) = true) ∧ 0 < s.size ∧ s.size ≤ 200 ∧ (s.size ≤ 1 ∨ byteU s 0 ≠ 48) := by
  unfold plainT
  rw [Bool.and_eq_true, figures_iff]
  have hsz : s.data.toList.length = s.size := by simp
  constructor
  · rintro ⟨h1, h2⟩
    refine ⟨fun j hj => h1 j (by omega), ?_⟩
    rw [Bool.or_eq_true, Bool.and_eq_true, Bool.and_eq_true, decide_eq_true_iff, decide_eq_true_iff, decide_eq_true_iff, decide_eq_true_iff] at h2
    rcases h2 with h2 | ⟨h2, h3, h4⟩
    · subst h2
      exact ⟨by decide, by decide, .inl (by decide)⟩
    · have hpos : 0 < s.size := by
        rcases Nat.eq_zero_or_pos s.size with h | h
        · exact absurd (by apply ByteArray.ext; exact Array.eq_empty_of_size_eq_zero h) h2
        · exact h
      refine ⟨hpos, h3, .inr fun h => h4 ?_⟩
      have e : s.data.toList.head? = some (s.data.toList.getD 0 0) := by
        rw [List.head?_eq_getElem?, List.getD_eq_getElem?_getD, List.getElem?_eq_getElem (by omega)]
        rfl
      rw [e]
      congr 1
      exact UInt8.toNat_inj.1 h
  · rintro ⟨h1, h2, h3, h4⟩
    refine ⟨fun j hj => h1 j (by omega), ?_⟩
    rw [Bool.or_eq_true, Bool.and_eq_true, Bool.and_eq_true, decide_eq_true_iff, decide_eq_true_iff, decide_eq_true_iff, decide_eq_true_iff]
    have e : s.data.toList.head? = some (s.data.toList.getD 0 0) := by
      rw [List.head?_eq_getElem?, List.getD_eq_getElem?_getD, List.getElem?_eq_getElem (by omega)]
      rfl
    by_cases h0 : byteU s 0 = 48
    · have h5 : s.size = 1 := by omega
      left
      apply ByteArray.ext
      apply Array.toList_inj.1
      rcases hl : s.data.toList with _ | ⟨a, _ | ⟨b, l⟩⟩
      · rw [hl] at hsz; simp at hsz; omega
      · have : a.toNat = 48 := by
          have h0' := h0
          unfold byteU at h0'
          rw [hl] at h0'
          simpa using h0'
        have : a = 48 := UInt8.toNat_inj.1 this
        rw [this]
      · rw [hl] at hsz; simp at hsz; omega
    · right
      refine ⟨fun hs => ?_, h3, ?_⟩
      · subst hs; simp [ByteArray.size] at h2
      · rw [e]
        intro h
        injection h with h
        exact h0 (by unfold byteU; rw [h]; rfl)

set_option maxRecDepth 100000 in
set_option maxHeartbeats 4000000 in
theorem uplain_any (s : ByteArray) (w : World) : Calls Tryz.prog 40 #[.string s] w fun e w' => e = .returned (.bool (plainT s)) ∧ w = w' := by
  have HP := Lib.hid (plain_ref s)
  have hno : ¬ ((∀ j, j < s.size → runeFigure (byteU s j : Int) = true) ∧ 0 < s.size ∧ s.size ≤ 200 ∧ (s.size ≤ 1 ∨ byteU s 0 ≠ 48)) → plainT s = false := by
    intro h
    cases hp : plainT s with
    | false => rfl
    | true => exact absurd (HP.out.1 hp) h
  have HNO := Lib.hid hno
  clear hno
  by_cases h1 : s.size = 0
  · have hz : ((s.size : Int) == 0) = true := by rw [beq_iff_eq]; omega
    have HX := Lib.hid (HNO.out (by rintro ⟨_, h, _⟩; omega))
    clear h1
    go_enter Tryz.func40, Tryz.ntmps40
    go_wp2_with fail
    go_ret
    exact ⟨by rw [HX.out]; rfl, rfl⟩
  have hz : ((s.size : Int) == 0) = false := by rw [beq_eq_false_iff_ne]; omega
  by_cases h2 : s.size ≤ 200
  rotate_left
  · have hz2 : decide ((200 : Int) < (s.size : Int)) = true := by rw [decide_eq_true_iff]; omega
    have HX := Lib.hid (HNO.out (by rintro ⟨_, _, h, _⟩; omega))
    clear h1 h2
    go_enter Tryz.func40, Tryz.ntmps40
    go_wp2_with fail
    go_ret
    exact ⟨by rw [HX.out]; rfl, rfl⟩
  have hz2 : decide ((200 : Int) < (s.size : Int)) = false := by rw [decide_eq_false_iff_not]; omega
  have hpos : 0 < s.size := by omega
  have i0 := fun W => run_byteU s 0 hpos W
  simp only [Int.natCast_zero] at i0
  by_cases h3 : s.size ≤ 1 ∨ byteU s 0 ≠ 48
  rotate_left
  · have g1 : decide ((1 : Int) < (s.size : Int)) = true := by rw [decide_eq_true_iff]; omega
    have g2 : byteU s 0 = 48 := by omega
    have HX := Lib.hid (HNO.out (by rintro ⟨_, _, _, h⟩; exact h3 h))
    rw [g2] at i0
    clear h1 h2 h3 g2
    go_enter Tryz.func40, Tryz.ntmps40
    go_wp2_with fail
    go_ret
    exact ⟨by rw [HX.out]; rfl, rfl⟩
  have HH := Lib.hid h3
  have hcase : decide ((1 : Int) < (s.size : Int)) = false ∨ (decide ((1 : Int) < (s.size : Int)) = true ∧ ((byteU s 0 : Int) == 48) = false) := by
    by_cases g : s.size ≤ 1
    · left; rw [decide_eq_false_iff_not]; omega
    · right; exact ⟨by rw [decide_eq_true_iff]; omega, by rw [beq_eq_false_iff_ne]; omega⟩
  clear h1 h3
  rcases hcase with g1 | ⟨g1, g2⟩
  all_goals
    go_enter Tryz.func40, Tryz.ntmps40
    go_wp2_with fail
    go_loopg [3] s.size (fun k u3 wr => ∃ i : Nat, i ≤ s.size ∧ s.size - i ≤ k ∧ u3 = .int .i64 (i : Int) ∧ w = wr ∧ ∀ j, j < i → runeFigure (byteU s j : Int) = true)
    case atStart => exact ⟨0, Nat.zero_le _, by omega, rfl, rfl, fun j hj => by omega⟩
    case round =>
      obtain ⟨i, hi, hk, rfl, rfl, hall⟩ := hrel
      have HA := Lib.hid hall
      clear hall i0
      by_cases hlt : i < s.size
      · have hlt2 : (i : Int) < (s.size : Int) := by omega
        have hb := fun W => run_byteU s i hlt W
        have HOK := Lib.hid (show runeFigure (byteU s i : Int) = true → ∀ j, j < i + 1 → runeFigure (byteU s j : Int) = true by
          intro h j hj
          by_cases e : j = i
          · subst e; exact h
          · exact HA.out j (by omega))
        have HBAD := Lib.hid (show runeFigure (byteU s i : Int) = false → plainT s = false by
          intro h
          refine HNO.out ?_
          rintro ⟨h', _⟩
          rw [h' i hlt] at h
          cases h)
        generalize byteU s i = c at *
        unfold runeFigure at HOK HBAD
        cases q1 : decide ((c : Int) < 48) with
        | true =>
          have HX := Lib.hid (HBAD.out (by
            have : decide (48 ≤ (c : Int)) = false := by simp at q1 ⊢; omega
            rw [this]; rfl))
          clear HOK HBAD
          go_wp2_with fail
          go_ret
          exact ⟨by rw [HX.out]; rfl, rfl⟩
        | false =>
          have q1' : decide (48 ≤ (c : Int)) = true := by simp at q1 ⊢; omega
          cases q2 : decide ((57 : Int) < (c : Int)) with
          | true =>
            have HX := Lib.hid (HBAD.out (by
              have : decide ((c : Int) ≤ 57) = false := by simp at q2 ⊢; omega
              rw [this, Bool.and_false]))
            clear HOK HBAD q1'
            go_wp2_with fail
            go_ret
            exact ⟨by rw [HX.out]; rfl, rfl⟩
          | false =>
            have HX := Lib.hid (HOK.out (by
              have : decide ((c : Int) ≤ 57) = true := by simp at q2 ⊢; omega
              rw [this, q1']; rfl))
            clear HOK HBAD q1'
            go_wp2_with fail
            go_roundg (s.size - (i + 1))
            case measure => omega
            case rel => exact ⟨i + 1, by omega, Nat.le_refl _, by go_num, rfl, HX.out⟩
      · have hlt2 : ¬ (i : Int) < (s.size : Int) := by omega
        have HX := Lib.hid (show plainT s = true by exact HP.out.2 ⟨fun j hj => HA.out j (by omega), hpos, h2, HH.out⟩)
        go_wp2_with fail
        go_ret
        exact ⟨by rw [HX.out]; rfl, rfl⟩
end Go.Proofs.YtnalfjaojcahhaaGreatDoor
namespace Go.Proofs.YtnalfjaojcahhaaGreatDoor
open Go.RowKit Go.Lib Go.Proofs
attribute [local go_sem ↓] Go.wp_at_zero Go.wp_at_succ

/-- What is known of nodes of so much depth. -/
structure UCtx (d : Nat) : Prop where
  typ : RefC d 18 (tfns d).typ
  expr : RefC d 19 (tfns d).expr
  stmt : RefC d 20 (tfns d).stmt
  block : RefC d 37 (tfns d).block
theorem named0_eq (k : Int) (hk : k ≠ 37) (so : ByteArray → Bool) (l : List Nd) {t : ByteArray} {p : Int} : ofT k [] (namedT so (.mk k t l p)) = (decide (l.length = 0) && so t) := by
  rw [show namedT so (.mk k t l p) = if so t = true then .mk k (⟨#[]⟩ : ByteArray) l p else .mk 37 (⟨#[]⟩ : ByteArray) [] 0 from rfl]
  by_cases hs : so t = true
  · rw [if_pos hs]
    unfold ofT
    rcases l with _ | ⟨x, l⟩ <;> simp [hs, askAll]
  · rw [if_neg hs]
    rw [Bool.not_eq_true] at hs
    unfold ofT
    rw [show decide ((Nd.mk 37 (⟨#[]⟩ : ByteArray) [] 0).kind = k) = false from decide_eq_false (fun h => hk (Eq.symm h))]
    simp [hs]
theorem namedOne_eq (k : Int) (f : Nd → Bool) (so : ByteArray → Bool) (l : List Nd) {t : ByteArray} {p : Int} : ofT k [f] (namedT so (.mk k t l p)) = (oneT f l && so t) := by
  rw [named1_eq]
  simp

set_option maxRecDepth 100000 in
set_option maxHeartbeats 8000000 in
theorem uexpr_16 (d : Nat) (C : UCtx d) (nt : ByteArray) (nl : List Nd) (np : Int) (A : Option Addr) (cp : Nat) (w : World) (hv : NodeW w (.agg #[.int .i64 16, .string nt, .slice A nl.length cp, .int .i64 np]) (.mk 16 nt nl np)) (hd : DLe (d + 1) (.mk 16 nt nl np)) :
    Calls Tryz.prog 19 #[.agg #[.int .i64 16, .string nt, .slice A nl.length cp, .int .i64 np]] w fun e w' => e = .returned (.bool (exprT (tfns d) (.mk 16 nt nl np))) ∧ Below w.heap.size w w' := by
  have HV := Lib.hid hv
  have HD := Lib.hid hd
  have hlen := hd.1.1
  have HT := Lib.hid C.typ
  have HE := Lib.hid C.expr
  have hB := (Below.refl w.heap.size w).alloc (Nat.le_refl _) (.cells #[.int .i64 16, .string nt, .slice A nl.length cp, .int .i64 np] 24)
  have hBn : Blk (w.alloc (.cells #[.int .i64 16, .string nt, .slice A nl.length cp, .int .i64 np] 24)) w.heap.size 24 #[.int .i64 16, .string nt, .slice A nl.length cp, .int .i64 np] := Blk.new w _ _
  clear hv hd C
  generalize tfns d = F at *
  simp only [Nd.kids_mk] at hlen
  have HR := Lib.hid (show exprT F (.mk 16 nt nl np) = (decide (nl.length = 0) && plainT nt) from (by simp [exprT] : exprT F (.mk 16 nt nl np) = ofT 16 [] (namedT plainT (.mk 16 nt nl np))).trans (named0_eq 16 (by decide) _ _))
  by_cases h1 : nl.length = 0
  rotate_left
  · have hne : ((nl.length : Int) == 0) = false := by rw [beq_eq_false_iff_ne]; omega
    have HX := Lib.hid (show exprT F (.mk 16 nt nl np) = false by rw [HR.out, decide_eq_false h1, Bool.false_and])
    clear h1
    generalize nl.length = m at *
    go_enter Tryz.func19, Tryz.ntmps19
    go_wp2_with fail
    go_ret
    exact ⟨by rw [HX.out]; rfl, hB⟩
  have hne : ((nl.length : Int) == 0) = true := by rw [beq_iff_eq]; omega
  have HX := Lib.hid (show exprT F (.mk 16 nt nl np) = plainT nt by rw [HR.out, decide_eq_true h1, Bool.true_and])
  clear h1
  generalize nl.length = m at *
  go_enter Tryz.func19, Tryz.ntmps19
  go_wp2_with fail
  refine (uplain_any _ _).mono ?_
  rintro e w1 ⟨rfl, rfl⟩
  go_wp2_with fail
  go_ret
  exact ⟨by rw [HX.out]; rfl, hB⟩

set_option maxRecDepth 100000 in
set_option maxHeartbeats 8000000 in
theorem uexpr_17 (d : Nat) (C : UCtx d) (nt : ByteArray) (nl : List Nd) (np : Int) (A : Option Addr) (cp : Nat) (w : World) (hv : NodeW w (.agg #[.int .i64 17, .string nt, .slice A nl.length cp, .int .i64 np]) (.mk 17 nt nl np)) (hd : DLe (d + 1) (.mk 17 nt nl np)) :
    Calls Tryz.prog 19 #[.agg #[.int .i64 17, .string nt, .slice A nl.length cp, .int .i64 np]] w fun e w' => e = .returned (.bool (exprT (tfns d) (.mk 17 nt nl np))) ∧ Below w.heap.size w w' := by
  have HV := Lib.hid hv
  have HD := Lib.hid hd
  have hlen := hd.1.1
  have HT := Lib.hid C.typ
  have HE := Lib.hid C.expr
  have hB := (Below.refl w.heap.size w).alloc (Nat.le_refl _) (.cells #[.int .i64 17, .string nt, .slice A nl.length cp, .int .i64 np] 24)
  have hBn : Blk (w.alloc (.cells #[.int .i64 17, .string nt, .slice A nl.length cp, .int .i64 np] 24)) w.heap.size 24 #[.int .i64 17, .string nt, .slice A nl.length cp, .int .i64 np] := Blk.new w _ _
  clear hv hd C
  generalize tfns d = F at *
  simp only [Nd.kids_mk] at hlen
  have HR := Lib.hid (show exprT F (.mk 17 nt nl np) = (decide (nl.length = 0) && shortStr nt) from (by simp [exprT] : exprT F (.mk 17 nt nl np) = ofT 17 [] (namedT shortStr (.mk 17 nt nl np))).trans (named0_eq 17 (by decide) _ _))
  by_cases h1 : nl.length = 0
  rotate_left
  · have hne : ((nl.length : Int) == 0) = false := by rw [beq_eq_false_iff_ne]; omega
    have HX := Lib.hid (show exprT F (.mk 17 nt nl np) = false by rw [HR.out, decide_eq_false h1, Bool.false_and])
    clear h1
    generalize nl.length = m at *
    go_enter Tryz.func19, Tryz.ntmps19
    go_wp2_with fail
    go_ret
    exact ⟨by rw [HX.out]; rfl, hB⟩
  have hne : ((nl.length : Int) == 0) = true := by rw [beq_iff_eq]; omega
  have HX := Lib.hid (show exprT F (.mk 17 nt nl np) = shortStr nt by rw [HR.out, decide_eq_true h1, Bool.true_and])
  clear h1
  generalize nl.length = m at *
  have hd : shortStr nt = decide ((nt.size : Int) ≤ 1000) := by unfold shortStr; rw [decide_eq_decide]; omega
  cases q : decide ((nt.size : Int) ≤ 1000)
  all_goals
    rw [q] at hd
    go_enter Tryz.func19, Tryz.ntmps19
    go_wp2_with fail
    go_ret
    exact ⟨by rw [HX.out, hd]; rfl, hB⟩

set_option maxRecDepth 100000 in
set_option maxHeartbeats 8000000 in
theorem uexpr_18 (d : Nat) (C : UCtx d) (nt : ByteArray) (nl : List Nd) (np : Int) (A : Option Addr) (cp : Nat) (w : World) (hv : NodeW w (.agg #[.int .i64 18, .string nt, .slice A nl.length cp, .int .i64 np]) (.mk 18 nt nl np)) (hd : DLe (d + 1) (.mk 18 nt nl np)) :
    Calls Tryz.prog 19 #[.agg #[.int .i64 18, .string nt, .slice A nl.length cp, .int .i64 np]] w fun e w' => e = .returned (.bool (exprT (tfns d) (.mk 18 nt nl np))) ∧ Below w.heap.size w w' := by
  have HV := Lib.hid hv
  have HD := Lib.hid hd
  have hlen := hd.1.1
  have HT := Lib.hid C.typ
  have HE := Lib.hid C.expr
  have hB := (Below.refl w.heap.size w).alloc (Nat.le_refl _) (.cells #[.int .i64 18, .string nt, .slice A nl.length cp, .int .i64 np] 24)
  have hBn : Blk (w.alloc (.cells #[.int .i64 18, .string nt, .slice A nl.length cp, .int .i64 np] 24)) w.heap.size 24 #[.int .i64 18, .string nt, .slice A nl.length cp, .int .i64 np] := Blk.new w _ _
  clear hv hd C
  generalize tfns d = F at *
  simp only [Nd.kids_mk] at hlen
  have HR := Lib.hid (show exprT F (.mk 18 nt nl np) = (decide (nl.length = 0) && nameT nt) from (by simp [exprT] : exprT F (.mk 18 nt nl np) = ofT 18 [] (namedT nameT (.mk 18 nt nl np))).trans (named0_eq 18 (by decide) _ _))
  by_cases h1 : nl.length = 0
  rotate_left
  · have hne : ((nl.length : Int) == 0) = false := by rw [beq_eq_false_iff_ne]; omega
    have HX := Lib.hid (show exprT F (.mk 18 nt nl np) = false by rw [HR.out, decide_eq_false h1, Bool.false_and])
    clear h1
    generalize nl.length = m at *
    go_enter Tryz.func19, Tryz.ntmps19
    go_wp2_with fail
    go_ret
    exact ⟨by rw [HX.out]; rfl, hB⟩
  have hne : ((nl.length : Int) == 0) = true := by rw [beq_iff_eq]; omega
  have HX := Lib.hid (show exprT F (.mk 18 nt nl np) = nameT nt by rw [HR.out, decide_eq_true h1, Bool.true_and])
  clear h1
  generalize nl.length = m at *
  go_enter Tryz.func19, Tryz.ntmps19
  go_wp2_with fail
  refine (uname_any _ _).mono ?_
  rintro e w1 ⟨rfl, hb1⟩
  go_wp2_with fail
  go_ret
  exact ⟨by rw [HX.out]; rfl, hB.trans (hb1.mono hB.size)⟩

set_option maxRecDepth 100000 in
set_option maxHeartbeats 8000000 in
theorem uexpr_19 (d : Nat) (C : UCtx d) (nt : ByteArray) (nl : List Nd) (np : Int) (A : Option Addr) (cp : Nat) (w : World) (hv : NodeW w (.agg #[.int .i64 19, .string nt, .slice A nl.length cp, .int .i64 np]) (.mk 19 nt nl np)) (hd : DLe (d + 1) (.mk 19 nt nl np)) :
    Calls Tryz.prog 19 #[.agg #[.int .i64 19, .string nt, .slice A nl.length cp, .int .i64 np]] w fun e w' => e = .returned (.bool (exprT (tfns d) (.mk 19 nt nl np))) ∧ Below w.heap.size w w' := by
  have HV := Lib.hid hv
  have HD := Lib.hid hd
  have hlen := hd.1.1
  have HT := Lib.hid C.typ
  have HE := Lib.hid C.expr
  have hB := (Below.refl w.heap.size w).alloc (Nat.le_refl _) (.cells #[.int .i64 19, .string nt, .slice A nl.length cp, .int .i64 np] 24)
  have hBn : Blk (w.alloc (.cells #[.int .i64 19, .string nt, .slice A nl.length cp, .int .i64 np] 24)) w.heap.size 24 #[.int .i64 19, .string nt, .slice A nl.length cp, .int .i64 np] := Blk.new w _ _
  clear hv hd C
  generalize tfns d = F at *
  simp only [Nd.kids_mk] at hlen
  have HR := Lib.hid (show exprT F (.mk 19 nt nl np) = (oneT F.expr nl && unaryT nt) from (by simp [exprT] : exprT F (.mk 19 nt nl np) = ofT 19 [F.expr] (namedT unaryT (.mk 19 nt nl np))).trans (namedOne_eq _ _ _ _))
  by_cases h2 : nl.length = 1
  rotate_left
  · have hne : ((nl.length : Int) == 1) = false := by rw [beq_eq_false_iff_ne]; omega
    have HX := Lib.hid (show exprT F (.mk 19 nt nl np) = false by rw [HR.out, oneT_ne _ h2, Bool.false_and])
    clear h2
    generalize nl.length = m at *
    go_enter Tryz.func19, Tryz.ntmps19
    go_wp2_with fail
    go_ret
    exact ⟨by rw [HX.out]; rfl, hB⟩
  obtain ⟨x, rfl⟩ := one_of h2
  have HX1 := Lib.hid (oneT_one F.expr x)
  have HV1 : NodeW w (.agg #[.int .i64 19, .string nt, .slice A 1 cp, .int .i64 np]) (.mk 19 nt [x] np) := HV.out
  have hB : Below w.heap.size w (w.alloc (.cells #[.int .i64 19, .string nt, .slice A 1 cp, .int .i64 np] 24)) := hB
  have hBn : Blk (w.alloc (.cells #[.int .i64 19, .string nt, .slice A 1 cp, .int .i64 np] 24)) w.heap.size 24 #[.int .i64 19, .string nt, .slice A 1 cp, .int .i64 np] := hBn
  obtain ⟨bx, ox, A1, c1, rfl, hx⟩ := kid_at HV1 0 (by simp)
  simp only [Nd.kids_mk, List.getElem_cons_zero, Nat.zero_mul, Nat.add_zero] at hx
  have HX0 := Lib.hid hx
  have HTX := Lib.hid (fun w' (h : C4 w' bx ox x A1 c1) => HE.out _ x w' h.2.2.2.2 (HD.out.kid (k := x) (by simp)))
  clear hx HV1 HV h2
  cases q : unaryT nt with
  | false =>
    have e1 : (nt.toList == [45]) = false := by
      unfold unaryT at q
      rw [← eq_list nt [45]]
      exact (Bool.or_eq_false_iff.1 q).1
    have e2 : (nt.toList == [33]) = false := by
      unfold unaryT at q
      rw [← eq_list nt [33]]
      exact (Bool.or_eq_false_iff.1 q).2
    have HX := Lib.hid (show exprT F (.mk 19 nt [x] np) = false by rw [HR.out, q, Bool.and_false])
    clear q
    go_enter Tryz.func19, Tryz.ntmps19
    go_wp2_with fail
    go_ret
    exact ⟨by rw [HX.out]; rfl, hB⟩
  | true =>
    have HX := Lib.hid (show exprT F (.mk 19 nt [x] np) = F.expr x by rw [HR.out, q, Bool.and_true, oneT_one])
    have q' : nt = ⟨#[45]⟩ ∨ nt = ⟨#[33]⟩ := by unfold unaryT at q; simpa using q
    obtain ⟨y0, y1, y2, y3, -⟩ := HX0.out.below hB
    clear q HR
    rcases q' with rfl | rfl
    all_goals
      go_enter Tryz.func19, Tryz.ntmps19
      go_wp2_with fail
      refine (HTX.out _ (HX0.out.below hB)).mono ?_
      rintro e w1 ⟨rfl, hb1⟩
      go_wp2_with fail
      go_ret
      exact ⟨by rw [HX.out]; rfl, hB.trans (hb1.mono hB.size)⟩

set_option maxRecDepth 100000 in
set_option maxHeartbeats 8000000 in
theorem uexpr_23 (d : Nat) (C : UCtx d) (nt : ByteArray) (nl : List Nd) (np : Int) (A : Option Addr) (cp : Nat) (w : World) (hv : NodeW w (.agg #[.int .i64 23, .string nt, .slice A nl.length cp, .int .i64 np]) (.mk 23 nt nl np)) (hd : DLe (d + 1) (.mk 23 nt nl np)) :
    Calls Tryz.prog 19 #[.agg #[.int .i64 23, .string nt, .slice A nl.length cp, .int .i64 np]] w fun e w' => e = .returned (.bool (exprT (tfns d) (.mk 23 nt nl np))) ∧ Below w.heap.size w w' := by
  have HV := Lib.hid hv
  have HD := Lib.hid hd
  have hlen := hd.1.1
  have HT := Lib.hid C.typ
  have HE := Lib.hid C.expr
  have hB := (Below.refl w.heap.size w).alloc (Nat.le_refl _) (.cells #[.int .i64 23, .string nt, .slice A nl.length cp, .int .i64 np] 24)
  have hBn : Blk (w.alloc (.cells #[.int .i64 23, .string nt, .slice A nl.length cp, .int .i64 np] 24)) w.heap.size 24 #[.int .i64 23, .string nt, .slice A nl.length cp, .int .i64 np] := Blk.new w _ _
  clear hv hd C
  generalize tfns d = F at *
  simp only [Nd.kids_mk] at hlen
  have HR := Lib.hid (show exprT F (.mk 23 nt nl np) = (oneT F.expr nl && nameT nt) from (by simp [exprT] : exprT F (.mk 23 nt nl np) = ofT 23 [F.expr] (namedT nameT (.mk 23 nt nl np))).trans (namedOne_eq _ _ _ _))
  by_cases h2 : nl.length = 1
  rotate_left
  · have hne : ((nl.length : Int) == 1) = false := by rw [beq_eq_false_iff_ne]; omega
    have HX := Lib.hid (show exprT F (.mk 23 nt nl np) = false by rw [HR.out, oneT_ne _ h2, Bool.false_and])
    clear h2
    generalize nl.length = m at *
    go_enter Tryz.func19, Tryz.ntmps19
    go_wp2_with fail
    go_ret
    exact ⟨by rw [HX.out]; rfl, hB⟩
  obtain ⟨x, rfl⟩ := one_of h2
  have HX1 := Lib.hid (oneT_one F.expr x)
  have HV1 : NodeW w (.agg #[.int .i64 23, .string nt, .slice A 1 cp, .int .i64 np]) (.mk 23 nt [x] np) := HV.out
  have hB : Below w.heap.size w (w.alloc (.cells #[.int .i64 23, .string nt, .slice A 1 cp, .int .i64 np] 24)) := hB
  have hBn : Blk (w.alloc (.cells #[.int .i64 23, .string nt, .slice A 1 cp, .int .i64 np] 24)) w.heap.size 24 #[.int .i64 23, .string nt, .slice A 1 cp, .int .i64 np] := hBn
  obtain ⟨bx, ox, A1, c1, rfl, hx⟩ := kid_at HV1 0 (by simp)
  simp only [Nd.kids_mk, List.getElem_cons_zero, Nat.zero_mul, Nat.add_zero] at hx
  have HX0 := Lib.hid hx
  have HTX := Lib.hid (fun w' (h : C4 w' bx ox x A1 c1) => HE.out _ x w' h.2.2.2.2 (HD.out.kid (k := x) (by simp)))
  clear hx HV1 HV h2
  cases q : nameT nt with
  | false =>
    have HX := Lib.hid (show exprT F (.mk 23 nt [x] np) = false by rw [HR.out, q, Bool.and_false])
    go_enter Tryz.func19, Tryz.ntmps19
    go_wp2_with fail
    refine (uname_any _ _).mono ?_
    rw [q]
    rintro e w1 ⟨rfl, hb1⟩
    go_wp2_with fail
    go_ret
    exact ⟨by rw [HX.out]; rfl, hB.trans (hb1.mono hB.size)⟩
  | true =>
    have HX := Lib.hid (show exprT F (.mk 23 nt [x] np) = F.expr x by rw [HR.out, q, Bool.and_true, oneT_one])
    go_enter Tryz.func19, Tryz.ntmps19
    go_wp2_with fail
    refine (uname_any _ _).mono ?_
    rw [q]
    rintro e w1 ⟨rfl, hb1⟩
    have hB1 := hB.trans (hb1.mono hB.size)
    obtain ⟨y0, y1, y2, y3, -⟩ := HX0.out.below hB1
    go_wp2_with fail
    refine (HTX.out _ (HX0.out.below hB1)).mono ?_
    rintro e w2 ⟨rfl, hb2⟩
    go_wp2_with fail
    go_ret
    exact ⟨by rw [HX.out]; rfl, hB1.trans (hb2.mono hB1.size)⟩

set_option maxRecDepth 100000 in
set_option maxHeartbeats 8000000 in
theorem uexpr_21 (d : Nat) (C : UCtx d) (nt : ByteArray) (nl : List Nd) (np : Int) (A : Option Addr) (cp : Nat) (w : World) (hv : NodeW w (.agg #[.int .i64 21, .string nt, .slice A nl.length cp, .int .i64 np]) (.mk 21 nt nl np)) (hd : DLe (d + 1) (.mk 21 nt nl np)) :
    Calls Tryz.prog 19 #[.agg #[.int .i64 21, .string nt, .slice A nl.length cp, .int .i64 np]] w fun e w' => e = .returned (.bool (exprT (tfns d) (.mk 21 nt nl np))) ∧ Below w.heap.size w w' := by
  have HV := Lib.hid hv
  have HD := Lib.hid hd
  have hlen := hd.1.1
  have HT := Lib.hid C.typ
  have HE := Lib.hid C.expr
  have HXS := Lib.hid (uexprs_any d C.expr)
  have hB := (Below.refl w.heap.size w).alloc (Nat.le_refl _) (.cells #[.int .i64 21, .string nt, .slice A nl.length cp, .int .i64 np] 24)
  have hBn : Blk (w.alloc (.cells #[.int .i64 21, .string nt, .slice A nl.length cp, .int .i64 np] 24)) w.heap.size 24 #[.int .i64 21, .string nt, .slice A nl.length cp, .int .i64 np] := Blk.new w _ _
  clear hv hd C
  generalize tfns d = F at *
  simp only [Nd.kids_mk] at hlen
  have HR := Lib.hid (show exprT F (.mk 21 nt nl np) = (decide (nt = (⟨#[]⟩ : ByteArray)) && (decide (0 < nl.length) && nl.all F.expr)) by (simp [exprT]; rfl))
  by_cases h1 : nt = ⟨#[]⟩
  rotate_left
  · have hne : nt.toList.isEmpty = false := by rw [isEmpty_dec]; simpa using h1
    have HX := Lib.hid (show exprT F (.mk 21 nt nl np) = false by rw [HR.out, decide_eq_false h1, Bool.false_and])
    clear h1
    go_enter Tryz.func19, Tryz.ntmps19
    go_wp2_with fail
    go_ret
    exact ⟨by rw [HX.out]; rfl, hB⟩
  subst h1
  by_cases h2 : 0 < nl.length
  rotate_left
  · have hne : decide ((0 : Int) < (nl.length : Int)) = false := by rw [decide_eq_false_iff_not]; omega
    have hne2 : decide (0 < nl.length) = false := decide_eq_false h2
    have HX := Lib.hid (show exprT F (.mk 21 ⟨#[]⟩ nl np) = false by rw [HR.out, decide_eq_false h2, Bool.false_and, Bool.and_false])
    generalize nl.length = m at *
    go_enter Tryz.func19, Tryz.ntmps19
    go_wp2_with fail
    go_ret
    exact ⟨by rw [HX.out]; rfl, hB⟩
  have hne : decide ((0 : Int) < (nl.length : Int)) = true := by rw [decide_eq_true_iff]; omega
  have HX := Lib.hid (show exprT F (.mk 21 ⟨#[]⟩ nl np) = nl.all F.expr by rw [HR.out, decide_eq_true h2]; simp)
  have HXS := Lib.hid (HXS.out A cp nl _ (NodeV.kidsV (NodeV.below HV.out hB)) (fun n hn => HD.out.kid hn) hlen)
  clear HR
  go_enter Tryz.func19, Tryz.ntmps19
  go_wp2_with fail
  refine (HXS.out).mono ?_
  rintro e w1 ⟨rfl, hb1⟩
  go_wp2_with fail
  go_ret
  exact ⟨by rw [HX.out]; rfl, hB.trans (hb1.mono hB.size)⟩
end Go.Proofs.YtnalfjaojcahhaaGreatDoor
namespace Go.Proofs.YtnalfjaojcahhaaGreatDoor
open Go.RowKit Go.Lib Go.Proofs
attribute [local go_sem ↓] Go.wp_at_zero Go.wp_at_succ

/-- Two nodes, of which something is asked. -/
def twoT (f g : Nd → Bool) : List Nd → Bool
  | [a, b] => f a && g b
  | _ => false
theorem twoT_ne (f g : Nd → Bool) {l : List Nd} (h : l.length ≠ 2) : twoT f g l = false := by
  rcases l with _ | ⟨x, _ | ⟨y, _ | ⟨z, l⟩⟩⟩
  · rfl
  · rfl
  · exact absurd rfl h
  · rfl
theorem two_of {l : List Nd} (h : l.length = 2) : ∃ x y, l = [x, y] := by
  rcases l with _ | ⟨x, _ | ⟨y, _ | ⟨z, l⟩⟩⟩
  · simp at h
  · simp at h
  · exact ⟨x, y, rfl⟩
  · simp at h
theorem of2_eq (k : Int) (f g : Nd → Bool) (n : Nd) : ofT k [f, g] n = (decide (n.kind = k) && (decide (n.text = (⟨#[]⟩ : ByteArray)) && twoT f g n.kids)) := by
  unfold ofT
  congr 2
  rcases n.kids with _ | ⟨x, _ | ⟨y, _ | ⟨z, l⟩⟩⟩
  · rfl
  · simp [askAll, twoT]
  · simp [askAll, twoT]
  · simp [askAll, twoT]
theorem typ_kind {d : Nat} {n : Nd} (h : (tfns d).typ n = true) : n.kind = 10 ∨ n.kind = 11 ∨ n.kind = 12 := by
  cases d with
  | zero => cases h
  | succ d =>
    rw [show (tfns (d + 1)).typ n = typT (tfns d) n from rfl] at h
    obtain ⟨k, t, l, p⟩ := n
    by_cases h1 : k = 10
    · exact .inl h1
    by_cases h2 : k = 11
    · exact .inr (.inl h2)
    by_cases h3 : k = 12
    · exact .inr (.inr h3)
    rw [typT_else _ _ _ _ _ h1 h2 h3] at h
    cases h

set_option maxRecDepth 100000 in
set_option maxHeartbeats 8000000 in
theorem uexpr_25 (d : Nat) (C : UCtx d) (nt : ByteArray) (nl : List Nd) (np : Int) (A : Option Addr) (cp : Nat) (w : World) (hv : NodeW w (.agg #[.int .i64 25, .string nt, .slice A nl.length cp, .int .i64 np]) (.mk 25 nt nl np)) (hd : DLe (d + 1) (.mk 25 nt nl np)) :
    Calls Tryz.prog 19 #[.agg #[.int .i64 25, .string nt, .slice A nl.length cp, .int .i64 np]] w fun e w' => e = .returned (.bool (exprT (tfns d) (.mk 25 nt nl np))) ∧ Below w.heap.size w w' := by
  have HV := Lib.hid hv
  have HD := Lib.hid hd
  have hlen := hd.1.1
  have HT := Lib.hid C.typ
  have HE := Lib.hid C.expr
  have HSG := Lib.hid (usig_any d C.typ true)
  have HBL := Lib.hid C.block
  have hB := (Below.refl w.heap.size w).alloc (Nat.le_refl _) (.cells #[.int .i64 25, .string nt, .slice A nl.length cp, .int .i64 np] 24)
  have hBn : Blk (w.alloc (.cells #[.int .i64 25, .string nt, .slice A nl.length cp, .int .i64 np] 24)) w.heap.size 24 #[.int .i64 25, .string nt, .slice A nl.length cp, .int .i64 np] := Blk.new w _ _
  clear hv hd C
  generalize tfns d = F at *
  simp only [Nd.kids_mk] at hlen
  have HR := Lib.hid (show exprT F (.mk 25 nt nl np) = (decide (nt = (⟨#[]⟩ : ByteArray)) && twoT (isSigT F) F.block nl) from (by simp [exprT] : exprT F (.mk 25 nt nl np) = ofT 25 [isSigT F, F.block] (.mk 25 nt nl np)).trans ((of2_eq _ _ _ _).trans (by simp; rfl)))
  by_cases h1 : nt = ⟨#[]⟩
  rotate_left
  · have hne : nt.toList.isEmpty = false := by rw [isEmpty_dec]; simpa using h1
    have HX := Lib.hid (show exprT F (.mk 25 nt nl np) = false by rw [HR.out, decide_eq_false h1, Bool.false_and])
    clear h1
    go_enter Tryz.func19, Tryz.ntmps19
    go_wp2_with fail
    go_ret
    exact ⟨by rw [HX.out]; rfl, hB⟩
  subst h1
  by_cases h2 : nl.length = 2
  rotate_left
  · have hne : ((nl.length : Int) == 2) = false := by rw [beq_eq_false_iff_ne]; omega
    have HX := Lib.hid (show exprT F (.mk 25 ⟨#[]⟩ nl np) = false by rw [HR.out, twoT_ne _ _ h2, Bool.and_false])
    clear h2
    generalize nl.length = m at *
    go_enter Tryz.func19, Tryz.ntmps19
    go_wp2_with fail
    go_ret
    exact ⟨by rw [HX.out]; rfl, hB⟩
  obtain ⟨x, y, rfl⟩ := two_of h2
  have HV1 : NodeW w (.agg #[.int .i64 25, .string ⟨#[]⟩, .slice A 2 cp, .int .i64 np]) (.mk 25 ⟨#[]⟩ [x, y] np) := HV.out
  have hB : Below w.heap.size w (w.alloc (.cells #[.int .i64 25, .string ⟨#[]⟩, .slice A 2 cp, .int .i64 np] 24)) := hB
  have hBn : Blk (w.alloc (.cells #[.int .i64 25, .string ⟨#[]⟩, .slice A 2 cp, .int .i64 np] 24)) w.heap.size 24 #[.int .i64 25, .string ⟨#[]⟩, .slice A 2 cp, .int .i64 np] := hBn
  obtain ⟨bx, ox, A1, c1, rfl, hx⟩ := kid_at HV1 0 (by simp)
  obtain ⟨bx', ox', A2, c2, e, hy⟩ := kid_at HV1 1 (by simp)
  injection e with e
  injection e with e1 e2
  subst e1 e2
  simp only [Nd.kids_mk, List.getElem_cons_zero, List.getElem_cons_succ, Nat.zero_mul, Nat.add_zero, Nat.one_mul] at hx hy
  have HX0 := Lib.hid hx
  have HY0 := Lib.hid hy
  have hdx := HD.out.kid (k := x) (by simp)
  have hdy := HD.out.kid (k := y) (by simp)
  have HSX := Lib.hid (fun w' (h : C4 w' bx ox x A1 c1) => HSG.out _ x w' h.2.2.2.2 hdx.succ)
  have HBY := Lib.hid (fun w' (h : C4 w' bx (ox + 4) y A2 c2) => HBL.out _ y w' h.2.2.2.2 hdy)
  have HX := Lib.hid (show exprT F (.mk 25 ⟨#[]⟩ [x, y] np) = (sigT F (namesT true) x && F.block y) by rw [HR.out]; simp [twoT, isSigT, namesT])
  clear hx hy HV1 HV h2 HR HSG HBL
  obtain ⟨y0, y1, y2, y3, -⟩ := HX0.out.below hB
  cases q1 : sigT F (namesT true) x with
  | false =>
    rw [q1] at HSX HX
    go_enter Tryz.func19, Tryz.ntmps19
    go_wp2_with fail
    refine (HSX.out _ (HX0.out.below hB)).mono ?_
    rintro e w1 ⟨rfl, hb1⟩
    go_wp2_with fail
    go_ret
    exact ⟨by rw [HX.out]; rfl, hB.trans (hb1.mono hB.size)⟩
  | true =>
    rw [q1] at HSX HX
    go_enter Tryz.func19, Tryz.ntmps19
    go_wp2_with fail
    refine (HSX.out _ (HX0.out.below hB)).mono ?_
    rintro e w1 ⟨rfl, hb1⟩
    have hB1 := hB.trans (hb1.mono hB.size)
    obtain ⟨z0, z1, z2, z3, -⟩ := HY0.out.below hB1
    go_wp2_with fail
    refine (HBY.out _ (HY0.out.below hB1)).mono ?_
    rintro e w2 ⟨rfl, hb2⟩
    go_wp2_with fail
    go_ret
    exact ⟨by rw [HX.out]; rfl, hB1.trans (hb2.mono hB1.size)⟩

set_option maxRecDepth 100000 in
set_option maxHeartbeats 8000000 in
theorem uexpr_24 (d : Nat) (C : UCtx d) (nt : ByteArray) (nl : List Nd) (np : Int) (A : Option Addr) (cp : Nat) (w : World) (hv : NodeW w (.agg #[.int .i64 24, .string nt, .slice A nl.length cp, .int .i64 np]) (.mk 24 nt nl np)) (hd : DLe (d + 1) (.mk 24 nt nl np)) :
    Calls Tryz.prog 19 #[.agg #[.int .i64 24, .string nt, .slice A nl.length cp, .int .i64 np]] w fun e w' => e = .returned (.bool (exprT (tfns d) (.mk 24 nt nl np))) ∧ Below w.heap.size w w' := by
  have HV := Lib.hid hv
  have HD := Lib.hid hd
  have hlen := hd.1.1
  have HT := Lib.hid C.typ
  have HE := Lib.hid C.expr
  have HXS := Lib.hid (uexprs_any d C.expr)
  have HK := Lib.hid (fun n h => typ_kind (d := d) (n := n) h)
  have hB := (Below.refl w.heap.size w).alloc (Nat.le_refl _) (.cells #[.int .i64 24, .string nt, .slice A nl.length cp, .int .i64 np] 24)
  have hBn : Blk (w.alloc (.cells #[.int .i64 24, .string nt, .slice A nl.length cp, .int .i64 np] 24)) w.heap.size 24 #[.int .i64 24, .string nt, .slice A nl.length cp, .int .i64 np] := Blk.new w _ _
  clear hv hd C
  generalize tfns d = F at *
  simp only [Nd.kids_mk] at hlen
  have HR := Lib.hid (show exprT F (.mk 24 nt nl np) = (decide (nt = (⟨#[]⟩ : ByteArray)) && (decide (0 < nl.length) && (decide ((nl.getD 0 nd0).kind ≠ 12) && (F.typ (nl.getD 0 nd0) && (nl.drop 1).all F.expr)))) by (simp [exprT]; rfl))
  by_cases h1 : nt = ⟨#[]⟩
  rotate_left
  · have hne : nt.toList.isEmpty = false := by rw [isEmpty_dec]; simpa using h1
    have HX := Lib.hid (show exprT F (.mk 24 nt nl np) = false by rw [HR.out, decide_eq_false h1, Bool.false_and])
    clear h1
    go_enter Tryz.func19, Tryz.ntmps19
    go_wp2_with fail
    go_ret
    exact ⟨by rw [HX.out]; rfl, hB⟩
  subst h1
  by_cases h2 : 0 < nl.length
  rotate_left
  · have hne : decide ((0 : Int) < (nl.length : Int)) = false := by rw [decide_eq_false_iff_not]; omega
    have hne2 : decide (0 < nl.length) = false := decide_eq_false h2
    have HX := Lib.hid (show exprT F (.mk 24 ⟨#[]⟩ nl np) = false by rw [HR.out, decide_eq_false h2, Bool.false_and, Bool.and_false])
    generalize nl.length = m at *
    go_enter Tryz.func19, Tryz.ntmps19
    go_wp2_with fail
    go_ret
    exact ⟨by rw [HX.out]; rfl, hB⟩
  obtain ⟨x, l, rfl⟩ : ∃ x l, nl = x :: l := by
    rcases nl with _ | ⟨x, l⟩
    · simp at h2
    · exact ⟨x, l, rfl⟩
  have hne : decide ((0 : Int) < ((x :: l).length : Int)) = true := by rw [decide_eq_true_iff]; omega
  have HR2 := Lib.hid (show exprT F (.mk 24 ⟨#[]⟩ (x :: l) np) = (decide (x.kind ≠ 12) && (F.typ x && l.all F.expr)) by rw [HR.out, decide_eq_true h2]; simp)
  obtain ⟨bx, ox, A1, c1, hA, hx⟩ := kid_at HV.out 0 h2
  simp only [Nd.kids_mk, List.getElem_cons_zero, Nat.zero_mul, Nat.add_zero] at hx
  subst hA
  have HX0 := Lib.hid hx
  have hdx := HD.out.kid (k := x) (by simp)
  have HTX := Lib.hid (fun w' (h : C4 w' bx ox x A1 c1) => HT.out _ x w' h.2.2.2.2 hdx)
  have hcap : (x :: l).length ≤ cp := by
    obtain ⟨A9, c9, xs9, e9, h9, -⟩ := NodeV.kidsV HV.out
    injection e9 with _ _ e9
    omega
  obtain ⟨A', hsl, htl⟩ := run_tail (some ⟨bx, ox, none⟩) (x :: l).length cp h2 hcap
  have HXE := Lib.hid (fun w' (hb : Below w.heap.size w w') => HXS.out A' (cp - 1) l w' (by
    have := htl _ w' _ (NodesV.below (NodeV.kidsV HV.out) hb)
    simpa using this) (fun n hn => HD.out.kid (k := n) (by simp [hn])) (by have := hlen; simp at this; omega))
  have hll : (x :: l).length - 1 = l.length := by simp
  rw [hll] at hsl
  obtain ⟨y0, y1, y2, y3, -⟩ := HX0.out.below hB
  clear hx htl HR HXS hll
  generalize hm : (x :: l).length = m at *
  by_cases q0 : x.kind = 10 ∨ x.kind = 11
  rotate_left
  · have g1 : (x.kind == 10) = false := by rw [beq_eq_false_iff_ne]; exact fun h => q0 (.inl h)
    have g2 : (x.kind == 11) = false := by rw [beq_eq_false_iff_ne]; exact fun h => q0 (.inr h)
    have HX := Lib.hid (show exprT F (.mk 24 ⟨#[]⟩ (x :: l) np) = false by
      rw [HR2.out]
      cases ht : F.typ x with
      | false => simp
      | true =>
        have := HK.out x ht
        have h12 : x.kind = 12 := by omega
        simp [h12])
    clear q0
    go_enter Tryz.func19, Tryz.ntmps19
    go_wp2_with fail
    go_ret
    exact ⟨by rw [HX.out]; rfl, hB⟩
  have HR3 := Lib.hid (show exprT F (.mk 24 ⟨#[]⟩ (x :: l) np) = (F.typ x && l.all F.expr) by
    rw [HR2.out, decide_eq_true (show x.kind ≠ 12 by omega), Bool.true_and])
  have q0' : (x.kind == 10) = true ∨ ((x.kind == 10) = false ∧ (x.kind == 11) = true) := by
    rcases q0 with h | h <;> simp [h]
  clear HR2 q0
  cases q1 : F.typ x with
  | false =>
    rw [q1] at HTX HR3
    rcases q0' with g1 | ⟨g1, g2⟩
    all_goals
      go_enter Tryz.func19, Tryz.ntmps19
      go_wp2_with fail
      refine (HTX.out _ (HX0.out.below hB)).mono ?_
      rintro e w1 ⟨rfl, hb1⟩
      go_wp2_with fail
      go_ret
      exact ⟨by rw [HR3.out]; rfl, hB.trans (hb1.mono hB.size)⟩
  | true =>
    rw [q1] at HTX HR3
    rcases q0' with g1 | ⟨g1, g2⟩
    all_goals
      go_enter Tryz.func19, Tryz.ntmps19
      go_wp2_with fail
      refine (HTX.out _ (HX0.out.below hB)).mono ?_
      rintro e w1 ⟨rfl, hb1⟩
      have hB1 := hB.trans (hb1.mono hB.size)
      go_wp2_with fail
      refine (HXE.out _ hB1).mono ?_
      rintro e w2 ⟨rfl, hb2⟩
      go_wp2_with fail
      go_ret
      exact ⟨by rw [HR3.out]; rfl, hB1.trans (hb2.mono hB1.size)⟩
end Go.Proofs.YtnalfjaojcahhaaGreatDoor
