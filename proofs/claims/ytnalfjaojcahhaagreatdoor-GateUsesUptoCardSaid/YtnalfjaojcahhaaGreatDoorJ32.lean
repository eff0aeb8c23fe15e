/-
  demoticref06.Decl: a declaration. By an AI agent.
  demoticref06.Decl: the walk. By an AI agent.
  demoticref06.Depth. By an AI agent.
-/
import Derived.Test.YtnalfjaojcahhaaGreatDoorJ31
import Derived.Test.YtnalfjaojcahhaaGreatDoorJ25
namespace Go.Proofs.YtnalfjaojcahhaaGreatDoor
open Go.RowKit Go.Lib Go.Proofs
attribute [local go_sem ↓] Go.wp_at_zero Go.wp_at_succ

/-- What is asked of a declaration's nodes behind its parameters. -/
def restD (F : TFns) (k : Int) (l : List Nd) : Bool :=
  if k = 2 then twoT (isSigT F) F.block l
  else if k = 3 then oneT (orT (orT F.typ (structT F)) (interT F)) l
  else if k = 4 then oneT F.typ l
  else false
theorem declT_5 (F : TFns) (t : ByteArray) (l : List Nd) (p : Int) : declT F (.mk 5 t l p) = varT F (.mk 5 t l p) := by simp [declT]
theorem namedThree_eq (k : Int) (f g h : Nd → Bool) (so : ByteArray → Bool) (l : List Nd) {t : ByteArray} {p : Int} : ofT k [f, g, h] (namedT so (.mk k t l p)) = (threeT f g h l && so t) := by
  rw [show namedT so (.mk k t l p) = if so t = true then .mk k (⟨#[]⟩ : ByteArray) l p else .mk 37 (⟨#[]⟩ : ByteArray) [] 0 from rfl]
  by_cases hs : so t = true
  · rw [if_pos hs, of3_eq]
    simp [hs]
  · rw [if_neg hs, of3_eq]
    rw [Bool.not_eq_true] at hs
    simp [hs, threeT]
theorem declT_eq (F : TFns) (k : Int) (t : ByteArray) (x : Nd) (l : List Nd) (p : Int) (h5 : k ≠ 5) (hl : 0 < l.length) : declT F (.mk k t (x :: l) p) = (nameT t && (paramsT F x && restD F k l)) := by
  unfold declT restD
  by_cases h2 : k = 2
  · subst h2
    simp only [Nd.kind_mk, if_true, namedThree_eq]
    rw [Bool.and_comm]
    congr 1
    rcases l with _ | ⟨a, _ | ⟨b, _ | ⟨c, l⟩⟩⟩ <;> simp [threeT, twoT]
  by_cases h3 : k = 3
  · subst h3
    simp only [Nd.kind_mk, if_true, if_neg h2, namedTwo_eq]
    rw [Bool.and_comm]
    congr 1
    rcases l with _ | ⟨a, _ | ⟨b, l⟩⟩ <;> simp [twoT, oneT]
  by_cases h4 : k = 4
  · subst h4
    simp only [Nd.kind_mk, if_true, if_neg h2, if_neg h3, namedTwo_eq]
    rw [Bool.and_comm]
    congr 1
    rcases l with _ | ⟨a, _ | ⟨b, l⟩⟩ <;> simp [twoT, oneT]
  · simp [h2, h3, h4, h5, varT_eq]
theorem declT_few (F : TFns) (k : Int) (t : ByteArray) (l : List Nd) (p : Int) (h5 : k ≠ 5) (hl : l.length < 2) : declT F (.mk k t l p) = false := by
  unfold declT
  by_cases h2 : k = 2
  · subst h2
    simp only [Nd.kind_mk, if_true, namedThree_eq]
    rw [threeT_ne _ _ _ (by omega), Bool.false_and]
  by_cases h3 : k = 3
  · subst h3
    simp only [Nd.kind_mk, if_true, if_neg h2, namedTwo_eq]
    rw [twoT_ne _ _ (by omega), Bool.false_and]
  by_cases h4 : k = 4
  · subst h4
    simp only [Nd.kind_mk, if_true, if_neg h2, if_neg h3, namedTwo_eq]
    rw [twoT_ne _ _ (by omega), Bool.false_and]
  · simp [h2, h3, h4, h5, varT_eq]
theorem declT_name (F : TFns) (k : Int) (t : ByteArray) (l : List Nd) (p : Int) (h5 : k ≠ 5) (hn : nameT t = false) : declT F (.mk k t l p) = false := by
  unfold declT
  by_cases h2 : k = 2
  · subst h2
    simp only [Nd.kind_mk, if_true, namedThree_eq, hn, Bool.and_false]
  by_cases h3 : k = 3
  · subst h3
    simp only [Nd.kind_mk, if_true, if_neg h2, namedTwo_eq, hn, Bool.and_false]
  by_cases h4 : k = 4
  · subst h4
    simp only [Nd.kind_mk, if_true, if_neg h2, if_neg h3, namedTwo_eq, hn, Bool.and_false]
  · simp [h2, h3, h4, h5, varT_eq]
end Go.Proofs.YtnalfjaojcahhaaGreatDoor
namespace Go.Proofs.YtnalfjaojcahhaaGreatDoor
open Go.RowKit Go.Lib Go.Proofs
attribute [local go_sem ↓] Go.wp_at_zero Go.wp_at_succ

set_option maxRecDepth 100000 in
set_option maxHeartbeats 8000000 in
theorem udecl_name (d : Nat) (nk : Int) (nt : ByteArray) (nl : List Nd) (np : Int) (A : Option Addr) (cp : Nat) (w : World) (hv : NodeW w (.agg #[.int .i64 nk, .string nt, .slice A nl.length cp, .int .i64 np]) (.mk nk nt nl np)) (hd : DLe (d + 1) (.mk nk nt nl np)) (h5 : nk ≠ 5) (hn : nameT nt = false) :
    Calls Tryz.prog 17 #[.agg #[.int .i64 nk, .string nt, .slice A nl.length cp, .int .i64 np]] w fun e w' => e = .returned (.bool (declT (tfns d) (.mk nk nt nl np))) ∧ Below w.heap.size w w' := by
  have C := uctx d
  have HV := Lib.hid hv
  have HD := Lib.hid hd
  have hlen := hd.1.1
  have HT := Lib.hid C.typ
  have HBL := Lib.hid C.block
  have HPA := Lib.hid (uparams_any d C.typ (fun v n w hv hd => uinter_any d C.typ v n w hv hd.succ))
  have hB := (Below.refl w.heap.size w).alloc (Nat.le_refl _) (.cells #[.int .i64 nk, .string nt, .slice A nl.length cp, .int .i64 np] 24)
  have hBn : Blk (w.alloc (.cells #[.int .i64 nk, .string nt, .slice A nl.length cp, .int .i64 np] 24)) w.heap.size 24 #[.int .i64 nk, .string nt, .slice A nl.length cp, .int .i64 np] := Blk.new w _ _
  clear hv hd C
  generalize tfns d = F at *
  simp only [Nd.kids_mk] at hlen
  have HX := Lib.hid (declT_name F nk nt nl np h5 hn)
  have e5 : (nk == 5) = false := by rw [beq_eq_false_iff_ne]; exact h5
  generalize nl.length = m at *
  clear h5
  go_enter Tryz.func17, Tryz.ntmps17
  go_wp2_with fail
  refine (uname_any _ _).mono ?_
  rw [hn]
  rintro e w1 ⟨rfl, hb1⟩
  have hB1 := hB.trans (hb1.mono hB.size)
  have hBn1 := hBn.below hb1 hBn.lt
  obtain ⟨x0, x1, x2, x3, -, -, -, -⟩ := blk4 hBn1
  go_wp2_with fail
  go_ret
  exact ⟨by rw [HX.out]; rfl, hB1⟩

set_option maxRecDepth 100000 in
set_option maxHeartbeats 8000000 in
theorem udecl_few (d : Nat) (nk : Int) (nt : ByteArray) (nl : List Nd) (np : Int) (A : Option Addr) (cp : Nat) (w : World) (hv : NodeW w (.agg #[.int .i64 nk, .string nt, .slice A nl.length cp, .int .i64 np]) (.mk nk nt nl np)) (hd : DLe (d + 1) (.mk nk nt nl np)) (h5 : nk ≠ 5) (hn : nameT nt = true) (hl : nl.length < 2) :
    Calls Tryz.prog 17 #[.agg #[.int .i64 nk, .string nt, .slice A nl.length cp, .int .i64 np]] w fun e w' => e = .returned (.bool (declT (tfns d) (.mk nk nt nl np))) ∧ Below w.heap.size w w' := by
  have C := uctx d
  have HV := Lib.hid hv
  have HD := Lib.hid hd
  have hlen := hd.1.1
  have HT := Lib.hid C.typ
  have HBL := Lib.hid C.block
  have HPA := Lib.hid (uparams_any d C.typ (fun v n w hv hd => uinter_any d C.typ v n w hv hd.succ))
  have hB := (Below.refl w.heap.size w).alloc (Nat.le_refl _) (.cells #[.int .i64 nk, .string nt, .slice A nl.length cp, .int .i64 np] 24)
  have hBn : Blk (w.alloc (.cells #[.int .i64 nk, .string nt, .slice A nl.length cp, .int .i64 np] 24)) w.heap.size 24 #[.int .i64 nk, .string nt, .slice A nl.length cp, .int .i64 np] := Blk.new w _ _
  clear hv hd C
  generalize tfns d = F at *
  simp only [Nd.kids_mk] at hlen
  have HX := Lib.hid (declT_few F nk nt nl np h5 hl)
  have e5 : (nk == 5) = false := by rw [beq_eq_false_iff_ne]; exact h5
  have hne : decide ((nl.length : Int) < 2) = true := by rw [decide_eq_true_iff]; omega
  clear h5 hl
  generalize nl.length = m at *
  go_enter Tryz.func17, Tryz.ntmps17
  go_wp2_with fail
  refine (uname_any _ _).mono ?_
  rw [hn]
  rintro e w1 ⟨rfl, hb1⟩
  have hB1 := hB.trans (hb1.mono hB.size)
  have hBn1 := hBn.below hb1 hBn.lt
  obtain ⟨x0, x1, x2, x3, -, -, -, -⟩ := blk4 hBn1
  go_wp2_with fail
  go_ret
  exact ⟨by rw [HX.out]; rfl, hB1⟩

set_option maxRecDepth 100000 in
set_option maxHeartbeats 8000000 in
theorem udecl_params (d : Nat) (nk : Int) (nt : ByteArray) (x y : Nd) (l : List Nd) (np : Int) (A : Option Addr) (cp : Nat) (w : World) (hv : NodeW w (.agg #[.int .i64 nk, .string nt, .slice A (x :: y :: l).length cp, .int .i64 np]) (.mk nk nt (x :: y :: l) np)) (hd : DLe (d + 1) (.mk nk nt (x :: y :: l) np)) (h5 : nk ≠ 5) (hn : nameT nt = true) (hp : paramsT (tfns d) x = false) :
    Calls Tryz.prog 17 #[.agg #[.int .i64 nk, .string nt, .slice A (x :: y :: l).length cp, .int .i64 np]] w fun e w' => e = .returned (.bool (declT (tfns d) (.mk nk nt (x :: y :: l) np))) ∧ Below w.heap.size w w' := by
  have C := uctx d
  have HV := Lib.hid hv
  have HD := Lib.hid hd
  have hlen := hd.1.1
  have HT := Lib.hid C.typ
  have HBL := Lib.hid C.block
  have HPA := Lib.hid (uparams_any d C.typ (fun v n w hv hd => uinter_any d C.typ v n w hv hd.succ))
  have hB := (Below.refl w.heap.size w).alloc (Nat.le_refl _) (.cells #[.int .i64 nk, .string nt, .slice A (x :: y :: l).length cp, .int .i64 np] 24)
  have hBn : Blk (w.alloc (.cells #[.int .i64 nk, .string nt, .slice A (x :: y :: l).length cp, .int .i64 np] 24)) w.heap.size 24 #[.int .i64 nk, .string nt, .slice A (x :: y :: l).length cp, .int .i64 np] := Blk.new w _ _
  clear hv hd C
  generalize tfns d = F at *
  simp only [Nd.kids_mk] at hlen
  have HX := Lib.hid (show declT F (.mk nk nt (x :: y :: l) np) = false by rw [declT_eq F nk nt x (y :: l) np h5 (by simp), hp, Bool.false_and, Bool.and_false])
  have e5 : (nk == 5) = false := by rw [beq_eq_false_iff_ne]; exact h5
  have hll : 2 ≤ (x :: y :: l).length := by simp
  have hm0 : 0 < (x :: y :: l).length := by simp
  obtain ⟨bx, ox, A0, c0, hA, hx⟩ := kid_at HV.out 0 hm0
  simp only [Nd.kids_mk, List.getElem_cons_zero, Nat.zero_mul, Nat.add_zero] at hx
  subst hA
  have HC0 := Lib.hid hx
  have hd0 := HD.out.kid (k := x) (by simp)
  have HPX := Lib.hid (fun w' (h : C4 w' bx ox x A0 c0) => HPA.out _ x w' h.2.2.2.2 hd0.succ)
  have hne : decide (((x :: y :: l).length : Int) < 2) = false := by rw [decide_eq_false_iff_not]; omega
  rw [hp] at HPX
  clear h5 hp
  clear hx hd0 hll HD HV
  generalize (x :: y :: l).length = m at *
  go_enter Tryz.func17, Tryz.ntmps17
  go_wp2_with fail
  refine (uname_any _ _).mono ?_
  rw [hn]
  rintro e w1 ⟨rfl, hb1⟩
  have hB1 := hB.trans (hb1.mono hB.size)
  have hBn1 := hBn.below hb1 hBn.lt
  obtain ⟨x0, x1, x2, x3, -, -, -, -⟩ := blk4 hBn1
  obtain ⟨k00, k01, k02, k03, -⟩ := HC0.out.below hB1
  go_wp2_with fail
  refine (HPX.out _ (HC0.out.below hB1)).mono ?_
  rintro e w2 ⟨rfl, hb2⟩
  have hB2 := hB1.trans (hb2.mono hB1.size)
  go_wp2_with fail
  go_ret
  exact ⟨by rw [HX.out]; rfl, hB2⟩

set_option maxRecDepth 100000 in
set_option maxHeartbeats 8000000 in
theorem udecl_none (d : Nat) (nk : Int) (nt : ByteArray) (x y : Nd) (l : List Nd) (np : Int) (A : Option Addr) (cp : Nat) (w : World) (hv : NodeW w (.agg #[.int .i64 nk, .string nt, .slice A (x :: y :: l).length cp, .int .i64 np]) (.mk nk nt (x :: y :: l) np)) (hd : DLe (d + 1) (.mk nk nt (x :: y :: l) np)) (h5 : nk ≠ 5) (hn : nameT nt = true) (hp : paramsT (tfns d) x = true) (e2 : (nk == 2 && (((x :: y :: l).length : Int) == 3)) = false) (e3 : (nk == 3 && (((x :: y :: l).length : Int) == 2)) = false) (e4 : (nk == 4 && (((x :: y :: l).length : Int) == 2)) = false) :
    Calls Tryz.prog 17 #[.agg #[.int .i64 nk, .string nt, .slice A (x :: y :: l).length cp, .int .i64 np]] w fun e w' => e = .returned (.bool (declT (tfns d) (.mk nk nt (x :: y :: l) np))) ∧ Below w.heap.size w w' := by
  have C := uctx d
  have HV := Lib.hid hv
  have HD := Lib.hid hd
  have hlen := hd.1.1
  have HT := Lib.hid C.typ
  have HBL := Lib.hid C.block
  have HPA := Lib.hid (uparams_any d C.typ (fun v n w hv hd => uinter_any d C.typ v n w hv hd.succ))
  have hB := (Below.refl w.heap.size w).alloc (Nat.le_refl _) (.cells #[.int .i64 nk, .string nt, .slice A (x :: y :: l).length cp, .int .i64 np] 24)
  have hBn : Blk (w.alloc (.cells #[.int .i64 nk, .string nt, .slice A (x :: y :: l).length cp, .int .i64 np] 24)) w.heap.size 24 #[.int .i64 nk, .string nt, .slice A (x :: y :: l).length cp, .int .i64 np] := Blk.new w _ _
  clear hv hd C
  generalize tfns d = F at *
  simp only [Nd.kids_mk] at hlen
  have HX := Lib.hid (show declT F (.mk nk nt (x :: y :: l) np) = false by
    rw [declT_eq F nk nt x (y :: l) np h5 (by simp), hp, Bool.true_and]
    unfold restD
    split
    · next h =>
      subst h
      rw [twoT_ne _ _ (by simp at e2 ⊢; omega), Bool.and_false]
    · split
      · next h =>
        subst h
        rw [oneT_ne _ (by simp at e3 ⊢; intro h0; subst h0; exact e3 (by simp)), Bool.and_false]
      · split
        · next h =>
          subst h
          rw [oneT_ne _ (by simp at e4 ⊢; intro h0; subst h0; exact e4 (by simp)), Bool.and_false]
        · rw [Bool.and_false])
  have e5 : (nk == 5) = false := by rw [beq_eq_false_iff_ne]; exact h5
  have hll : 2 ≤ (x :: y :: l).length := by simp
  have hm0 : 0 < (x :: y :: l).length := by simp
  obtain ⟨bx, ox, A0, c0, hA, hx⟩ := kid_at HV.out 0 hm0
  simp only [Nd.kids_mk, List.getElem_cons_zero, Nat.zero_mul, Nat.add_zero] at hx
  subst hA
  have HC0 := Lib.hid hx
  have hd0 := HD.out.kid (k := x) (by simp)
  have HPX := Lib.hid (fun w' (h : C4 w' bx ox x A0 c0) => HPA.out _ x w' h.2.2.2.2 hd0.succ)
  have hne : decide (((x :: y :: l).length : Int) < 2) = false := by rw [decide_eq_false_iff_not]; omega
  rw [hp] at HPX
  clear h5 hp
  clear hx hd0 hll HD HV
  generalize (x :: y :: l).length = m at *
  cases q2 : (nk == 2) with
  | true =>
    rw [q2, Bool.true_and] at e2
    have q5 : nk = 2 := by simpa using q2
    subst q5
    clear e3 e4 q2 e5
    go_enter Tryz.func17, Tryz.ntmps17
    go_wp2_with fail
    refine (uname_any _ _).mono ?_
    rw [hn]
    rintro e w1 ⟨rfl, hb1⟩
    have hB1 := hB.trans (hb1.mono hB.size)
    have hBn1 := hBn.below hb1 hBn.lt
    obtain ⟨x0, x1, x2, x3, -, -, -, -⟩ := blk4 hBn1
    obtain ⟨k00, k01, k02, k03, -⟩ := HC0.out.below hB1
    go_wp2_with fail
    refine (HPX.out _ (HC0.out.below hB1)).mono ?_
    rintro e w2 ⟨rfl, hb2⟩
    have hB2 := hB1.trans (hb2.mono hB1.size)
    have hBn2 := hBn1.below hb2 hBn1.lt
    clear x0 x1 x2 x3
    obtain ⟨x0, x1, x2, x3, -, -, -, -⟩ := blk4 hBn2
    go_wp2_with fail
    go_ret
    exact ⟨by rw [HX.out]; rfl, hB2⟩
  | false =>
  cases q3 : (nk == 3) with
  | true =>
    rw [q3, Bool.true_and] at e3
    have q5 : nk = 3 := by simpa using q3
    subst q5
    clear e2 e4 q2 q3 e5
    go_enter Tryz.func17, Tryz.ntmps17
    go_wp2_with fail
    refine (uname_any _ _).mono ?_
    rw [hn]
    rintro e w1 ⟨rfl, hb1⟩
    have hB1 := hB.trans (hb1.mono hB.size)
    have hBn1 := hBn.below hb1 hBn.lt
    obtain ⟨x0, x1, x2, x3, -, -, -, -⟩ := blk4 hBn1
    obtain ⟨k00, k01, k02, k03, -⟩ := HC0.out.below hB1
    go_wp2_with fail
    refine (HPX.out _ (HC0.out.below hB1)).mono ?_
    rintro e w2 ⟨rfl, hb2⟩
    have hB2 := hB1.trans (hb2.mono hB1.size)
    have hBn2 := hBn1.below hb2 hBn1.lt
    clear x0 x1 x2 x3
    obtain ⟨x0, x1, x2, x3, -, -, -, -⟩ := blk4 hBn2
    go_wp2_with fail
    go_ret
    exact ⟨by rw [HX.out]; rfl, hB2⟩
  | false =>
  cases q4 : (nk == 4) with
  | true =>
    rw [q4, Bool.true_and] at e4
    have q5 : nk = 4 := by simpa using q4
    subst q5
    clear e2 e3 q2 q3 q4 e5
    go_enter Tryz.func17, Tryz.ntmps17
    go_wp2_with fail
    refine (uname_any _ _).mono ?_
    rw [hn]
    rintro e w1 ⟨rfl, hb1⟩
    have hB1 := hB.trans (hb1.mono hB.size)
    have hBn1 := hBn.below hb1 hBn.lt
    obtain ⟨x0, x1, x2, x3, -, -, -, -⟩ := blk4 hBn1
    obtain ⟨k00, k01, k02, k03, -⟩ := HC0.out.below hB1
    go_wp2_with fail
    refine (HPX.out _ (HC0.out.below hB1)).mono ?_
    rintro e w2 ⟨rfl, hb2⟩
    have hB2 := hB1.trans (hb2.mono hB1.size)
    have hBn2 := hBn1.below hb2 hBn1.lt
    clear x0 x1 x2 x3
    obtain ⟨x0, x1, x2, x3, -, -, -, -⟩ := blk4 hBn2
    go_wp2_with fail
    go_ret
    exact ⟨by rw [HX.out]; rfl, hB2⟩
  | false =>
    clear e2 e3 e4
    go_enter Tryz.func17, Tryz.ntmps17
    go_wp2_with fail
    refine (uname_any _ _).mono ?_
    rw [hn]
    rintro e w1 ⟨rfl, hb1⟩
    have hB1 := hB.trans (hb1.mono hB.size)
    have hBn1 := hBn.below hb1 hBn.lt
    obtain ⟨x0, x1, x2, x3, -, -, -, -⟩ := blk4 hBn1
    obtain ⟨k00, k01, k02, k03, -⟩ := HC0.out.below hB1
    go_wp2_with fail
    refine (HPX.out _ (HC0.out.below hB1)).mono ?_
    rintro e w2 ⟨rfl, hb2⟩
    have hB2 := hB1.trans (hb2.mono hB1.size)
    have hBn2 := hBn1.below hb2 hBn1.lt
    clear x0 x1 x2 x3
    obtain ⟨x0, x1, x2, x3, -, -, -, -⟩ := blk4 hBn2
    go_wp2_with fail
    go_ret
    exact ⟨by rw [HX.out]; rfl, hB2⟩

set_option maxRecDepth 100000 in
set_option maxHeartbeats 8000000 in
theorem udecl_2 (d : Nat) (nt : ByteArray) (x y z : Nd) (np : Int) (A : Option Addr) (cp : Nat) (w : World) (hv : NodeW w (.agg #[.int .i64 2, .string nt, .slice A [x, y, z].length cp, .int .i64 np]) (.mk 2 nt [x, y, z] np)) (hd : DLe (d + 1) (.mk 2 nt [x, y, z] np)) (hn : nameT nt = true) (hp : paramsT (tfns d) x = true) :
    Calls Tryz.prog 17 #[.agg #[.int .i64 2, .string nt, .slice A [x, y, z].length cp, .int .i64 np]] w fun e w' => e = .returned (.bool (declT (tfns d) (.mk 2 nt [x, y, z] np))) ∧ Below w.heap.size w w' := by
  have C := uctx d
  have HV := Lib.hid hv
  have HD := Lib.hid hd
  have hlen := hd.1.1
  have HT := Lib.hid C.typ
  have HBL := Lib.hid C.block
  have HPA := Lib.hid (uparams_any d C.typ (fun v n w hv hd => uinter_any d C.typ v n w hv hd.succ))
  have HSG := Lib.hid (usig_any d C.typ true)
  have hB := (Below.refl w.heap.size w).alloc (Nat.le_refl _) (.cells #[.int .i64 2, .string nt, .slice A [x, y, z].length cp, .int .i64 np] 24)
  have hBn : Blk (w.alloc (.cells #[.int .i64 2, .string nt, .slice A [x, y, z].length cp, .int .i64 np] 24)) w.heap.size 24 #[.int .i64 2, .string nt, .slice A [x, y, z].length cp, .int .i64 np] := Blk.new w _ _
  clear hv hd C
  generalize tfns d = F at *
  simp only [Nd.kids_mk] at hlen
  have HV1 : NodeW w (.agg #[.int .i64 2, .string nt, .slice A 3 cp, .int .i64 np]) (.mk 2 nt [x, y, z] np) := HV.out
  have hB : Below w.heap.size w (w.alloc (.cells #[.int .i64 2, .string nt, .slice A 3 cp, .int .i64 np] 24)) := hB
  have hBn : Blk (w.alloc (.cells #[.int .i64 2, .string nt, .slice A 3 cp, .int .i64 np] 24)) w.heap.size 24 #[.int .i64 2, .string nt, .slice A 3 cp, .int .i64 np] := hBn
  obtain ⟨bx, ox, A0, c0, rfl, hk0⟩ := kid_at HV1 0 (by simp)
  obtain ⟨bx1, ox1, A1, c1, e, hk1⟩ := kid_at HV1 1 (by simp)
  injection e with e
  injection e with e1 e2
  subst e1 e2
  obtain ⟨bx2, ox2, A2, c2, e, hk2⟩ := kid_at HV1 2 (by simp)
  injection e with e
  injection e with e1 e2
  subst e1 e2
  simp only [Nd.kids_mk, List.getElem_cons_zero, List.getElem_cons_succ, Nat.zero_mul, Nat.add_zero, Nat.one_mul] at hk0 hk1 hk2
  have HC0 := Lib.hid hk0
  have hd0 := HD.out.kid (k := x) (by simp)
  have HC1 := Lib.hid hk1
  have hd1 := HD.out.kid (k := y) (by simp)
  have HC2 := Lib.hid hk2
  have hd2 := HD.out.kid (k := z) (by simp)
  clear HV1 HV hk0 hk1 hk2
  have HPX := Lib.hid (fun w' (h : C4 w' bx ox x A0 c0) => HPA.out _ x w' h.2.2.2.2 hd0.succ)
  have HSY := Lib.hid (fun w' (h : C4 w' bx (ox + 4) y A1 c1) => HSG.out _ y w' h.2.2.2.2 hd1.succ)
  have HBZ := Lib.hid (fun w' (h : C4 w' bx (ox + 2 * 4) z A2 c2) => HBL.out _ z w' h.2.2.2.2 hd2)
  have HR2 := Lib.hid (show declT F (.mk 2 nt [x, y, z] np) = (sigT F (namesT true) y && F.block z) by
    rw [declT_eq F 2 nt x [y, z] np (by decide) (by simp), hn, hp]
    rfl)
  rw [hp] at HPX
  clear hp
  cases g1 : sigT F (namesT true) y with
  | false =>
    have HX := Lib.hid (show declT F (.mk 2 nt [x, y, z] np) = false by rw [HR2.out, g1]; rfl)
    rw [g1] at HSY
    go_enter Tryz.func17, Tryz.ntmps17
    go_wp2_with fail
    refine (uname_any _ _).mono ?_
    rw [hn]
    rintro e w1 ⟨rfl, hb1⟩
    have hB1 := hB.trans (hb1.mono hB.size)
    have hBn1 := hBn.below hb1 hBn.lt
    obtain ⟨x0, x1, x2, x3, -, -, -, -⟩ := blk4 hBn1
    obtain ⟨k00, k01, k02, k03, -⟩ := HC0.out.below hB1
    go_wp2_with fail
    refine (HPX.out _ (HC0.out.below hB1)).mono ?_
    rintro e w2 ⟨rfl, hb2⟩
    have hB2 := hB1.trans (hb2.mono hB1.size)
    have hBn2 := hBn1.below hb2 hBn1.lt
    clear x0 x1 x2 x3
    obtain ⟨x0, x1, x2, x3, -, -, -, -⟩ := blk4 hBn2
    obtain ⟨k10, k11, k12, k13, -⟩ := HC1.out.below hB2
    go_wp2_with fail
    refine (HSY.out _ (HC1.out.below hB2)).mono ?_
    rintro e w3 ⟨rfl, hb3⟩
    have hB3 := hB2.trans (hb3.mono hB2.size)
    go_wp2_with fail
    go_ret
    exact ⟨by rw [HX.out]; rfl, hB3⟩
  | true =>
    have HX := Lib.hid (show declT F (.mk 2 nt [x, y, z] np) = F.block z by rw [HR2.out, g1]; rfl)
    rw [g1] at HSY
    go_enter Tryz.func17, Tryz.ntmps17
    go_wp2_with fail
    refine (uname_any _ _).mono ?_
    rw [hn]
    rintro e w1 ⟨rfl, hb1⟩
    have hB1 := hB.trans (hb1.mono hB.size)
    have hBn1 := hBn.below hb1 hBn.lt
    obtain ⟨x0, x1, x2, x3, -, -, -, -⟩ := blk4 hBn1
    obtain ⟨k00, k01, k02, k03, -⟩ := HC0.out.below hB1
    go_wp2_with fail
    refine (HPX.out _ (HC0.out.below hB1)).mono ?_
    rintro e w2 ⟨rfl, hb2⟩
    have hB2 := hB1.trans (hb2.mono hB1.size)
    have hBn2 := hBn1.below hb2 hBn1.lt
    clear x0 x1 x2 x3
    obtain ⟨x0, x1, x2, x3, -, -, -, -⟩ := blk4 hBn2
    obtain ⟨k10, k11, k12, k13, -⟩ := HC1.out.below hB2
    go_wp2_with fail
    refine (HSY.out _ (HC1.out.below hB2)).mono ?_
    rintro e w3 ⟨rfl, hb3⟩
    have hB3 := hB2.trans (hb3.mono hB2.size)
    have hBn3 := hBn2.below hb3 hBn2.lt
    clear x0 x1 x2 x3
    obtain ⟨x0, x1, x2, x3, -, -, -, -⟩ := blk4 hBn3
    obtain ⟨k20, k21, k22, k23, -⟩ := HC2.out.below hB3
    go_wp2_with fail
    refine (HBZ.out _ (HC2.out.below hB3)).mono ?_
    rintro e w4 ⟨rfl, hb4⟩
    have hB4 := hB3.trans (hb4.mono hB3.size)
    go_wp2_with fail
    go_ret
    exact ⟨by rw [HX.out]; rfl, hB4⟩

set_option maxRecDepth 100000 in
set_option maxHeartbeats 8000000 in
theorem udecl_3 (d : Nat) (nt : ByteArray) (x y : Nd) (np : Int) (A : Option Addr) (cp : Nat) (w : World) (hv : NodeW w (.agg #[.int .i64 3, .string nt, .slice A [x, y].length cp, .int .i64 np]) (.mk 3 nt [x, y] np)) (hd : DLe (d + 1) (.mk 3 nt [x, y] np)) (hn : nameT nt = true) (hp : paramsT (tfns d) x = true) :
    Calls Tryz.prog 17 #[.agg #[.int .i64 3, .string nt, .slice A [x, y].length cp, .int .i64 np]] w fun e w' => e = .returned (.bool (declT (tfns d) (.mk 3 nt [x, y] np))) ∧ Below w.heap.size w w' := by
  have C := uctx d
  have HV := Lib.hid hv
  have HD := Lib.hid hd
  have hlen := hd.1.1
  have HT := Lib.hid C.typ
  have HBL := Lib.hid C.block
  have HPA := Lib.hid (uparams_any d C.typ (fun v n w hv hd => uinter_any d C.typ v n w hv hd.succ))
  have HFD := Lib.hid (ufields_any d C.typ)
  have HIN := Lib.hid (uinter_any d C.typ)
  have hB := (Below.refl w.heap.size w).alloc (Nat.le_refl _) (.cells #[.int .i64 3, .string nt, .slice A [x, y].length cp, .int .i64 np] 24)
  have hBn : Blk (w.alloc (.cells #[.int .i64 3, .string nt, .slice A [x, y].length cp, .int .i64 np] 24)) w.heap.size 24 #[.int .i64 3, .string nt, .slice A [x, y].length cp, .int .i64 np] := Blk.new w _ _
  clear hv hd C
  generalize tfns d = F at *
  simp only [Nd.kids_mk] at hlen
  have HV1 : NodeW w (.agg #[.int .i64 3, .string nt, .slice A 2 cp, .int .i64 np]) (.mk 3 nt [x, y] np) := HV.out
  have hB : Below w.heap.size w (w.alloc (.cells #[.int .i64 3, .string nt, .slice A 2 cp, .int .i64 np] 24)) := hB
  have hBn : Blk (w.alloc (.cells #[.int .i64 3, .string nt, .slice A 2 cp, .int .i64 np] 24)) w.heap.size 24 #[.int .i64 3, .string nt, .slice A 2 cp, .int .i64 np] := hBn
  obtain ⟨bx, ox, A0, c0, rfl, hk0⟩ := kid_at HV1 0 (by simp)
  obtain ⟨bx1, ox1, A1, c1, e, hk1⟩ := kid_at HV1 1 (by simp)
  injection e with e
  injection e with e1 e2
  subst e1 e2
  simp only [Nd.kids_mk, List.getElem_cons_zero, List.getElem_cons_succ, Nat.zero_mul, Nat.add_zero, Nat.one_mul] at hk0 hk1
  have HC0 := Lib.hid hk0
  have hd0 := HD.out.kid (k := x) (by simp)
  have HC1 := Lib.hid hk1
  have hd1 := HD.out.kid (k := y) (by simp)
  clear HV1 HV hk0 hk1
  have HPX := Lib.hid (fun w' (h : C4 w' bx ox x A0 c0) => HPA.out _ x w' h.2.2.2.2 hd0.succ)
  have HTY := Lib.hid (fun w' (h : C4 w' bx (ox + 4) y A1 c1) => HT.out _ y w' h.2.2.2.2 hd1)
  have HFY := Lib.hid (fun w' (h : C4 w' bx (ox + 4) y A1 c1) => HFD.out _ y w' h.2.2.2.2 hd1.succ)
  have HIY := Lib.hid (fun w' (h : C4 w' bx (ox + 4) y A1 c1) => HIN.out _ y w' h.2.2.2.2 hd1.succ)
  have HR2 := Lib.hid (show declT F (.mk 3 nt [x, y] np) = ((F.typ y || structT F y) || interT F y) by
    rw [declT_eq F 3 nt x [y] np (by decide) (by simp), hn, hp]
    rfl)
  rw [hp] at HPX
  clear hp
  cases g1 : F.typ y with
  | true =>
    have HX := Lib.hid (show declT F (.mk 3 nt [x, y] np) = true by rw [HR2.out, g1]; rfl)
    rw [g1] at HTY
    go_enter Tryz.func17, Tryz.ntmps17
    go_wp2_with fail
    refine (uname_any _ _).mono ?_
    rw [hn]
    rintro e w1 ⟨rfl, hb1⟩
    have hB1 := hB.trans (hb1.mono hB.size)
    have hBn1 := hBn.below hb1 hBn.lt
    obtain ⟨x0, x1, x2, x3, -, -, -, -⟩ := blk4 hBn1
    obtain ⟨k00, k01, k02, k03, -⟩ := HC0.out.below hB1
    go_wp2_with fail
    refine (HPX.out _ (HC0.out.below hB1)).mono ?_
    rintro e w2 ⟨rfl, hb2⟩
    have hB2 := hB1.trans (hb2.mono hB1.size)
    have hBn2 := hBn1.below hb2 hBn1.lt
    clear x0 x1 x2 x3
    obtain ⟨x0, x1, x2, x3, -, -, -, -⟩ := blk4 hBn2
    obtain ⟨k10, k11, k12, k13, -⟩ := HC1.out.below hB2
    go_wp2_with fail
    refine (HTY.out _ (HC1.out.below hB2)).mono ?_
    rintro e w3 ⟨rfl, hb3⟩
    have hB3 := hB2.trans (hb3.mono hB2.size)
    go_wp2_with fail
    go_ret
    exact ⟨by rw [HX.out]; rfl, hB3⟩
  | false =>
    rw [g1] at HTY
    cases g2 : structT F y with
    | true =>
      have HX := Lib.hid (show declT F (.mk 3 nt [x, y] np) = true by rw [HR2.out, g1, g2]; rfl)
      rw [g2] at HFY
      go_enter Tryz.func17, Tryz.ntmps17
      go_wp2_with fail
      refine (uname_any _ _).mono ?_
      rw [hn]
      rintro e w1 ⟨rfl, hb1⟩
      have hB1 := hB.trans (hb1.mono hB.size)
      have hBn1 := hBn.below hb1 hBn.lt
      obtain ⟨x0, x1, x2, x3, -, -, -, -⟩ := blk4 hBn1
      obtain ⟨k00, k01, k02, k03, -⟩ := HC0.out.below hB1
      go_wp2_with fail
      refine (HPX.out _ (HC0.out.below hB1)).mono ?_
      rintro e w2 ⟨rfl, hb2⟩
      have hB2 := hB1.trans (hb2.mono hB1.size)
      have hBn2 := hBn1.below hb2 hBn1.lt
      clear x0 x1 x2 x3
      obtain ⟨x0, x1, x2, x3, -, -, -, -⟩ := blk4 hBn2
      obtain ⟨k10, k11, k12, k13, -⟩ := HC1.out.below hB2
      go_wp2_with fail
      refine (HTY.out _ (HC1.out.below hB2)).mono ?_
      rintro e w3 ⟨rfl, hb3⟩
      have hB3 := hB2.trans (hb3.mono hB2.size)
      have hBn3 := hBn2.below hb3 hBn2.lt
      clear x0 x1 x2 x3
      obtain ⟨x0, x1, x2, x3, -, -, -, -⟩ := blk4 hBn3
      clear k10 k11 k12 k13
      obtain ⟨k10, k11, k12, k13, -⟩ := HC1.out.below hB3
      go_wp2_with fail
      refine (HFY.out _ (HC1.out.below hB3)).mono ?_
      rintro e w4 ⟨rfl, hb4⟩
      have hB4 := hB3.trans (hb4.mono hB3.size)
      go_wp2_with fail
      go_ret
      exact ⟨by rw [HX.out]; rfl, hB4⟩
    | false =>
      have HX := Lib.hid (show declT F (.mk 3 nt [x, y] np) = interT F y by rw [HR2.out, g1, g2]; rfl)
      rw [g2] at HFY
      go_enter Tryz.func17, Tryz.ntmps17
      go_wp2_with fail
      refine (uname_any _ _).mono ?_
      rw [hn]
      rintro e w1 ⟨rfl, hb1⟩
      have hB1 := hB.trans (hb1.mono hB.size)
      have hBn1 := hBn.below hb1 hBn.lt
      obtain ⟨x0, x1, x2, x3, -, -, -, -⟩ := blk4 hBn1
      obtain ⟨k00, k01, k02, k03, -⟩ := HC0.out.below hB1
      go_wp2_with fail
      refine (HPX.out _ (HC0.out.below hB1)).mono ?_
      rintro e w2 ⟨rfl, hb2⟩
      have hB2 := hB1.trans (hb2.mono hB1.size)
      have hBn2 := hBn1.below hb2 hBn1.lt
      clear x0 x1 x2 x3
      obtain ⟨x0, x1, x2, x3, -, -, -, -⟩ := blk4 hBn2
      obtain ⟨k10, k11, k12, k13, -⟩ := HC1.out.below hB2
      go_wp2_with fail
      refine (HTY.out _ (HC1.out.below hB2)).mono ?_
      rintro e w3 ⟨rfl, hb3⟩
      have hB3 := hB2.trans (hb3.mono hB2.size)
      have hBn3 := hBn2.below hb3 hBn2.lt
      clear x0 x1 x2 x3
      obtain ⟨x0, x1, x2, x3, -, -, -, -⟩ := blk4 hBn3
      clear k10 k11 k12 k13
      obtain ⟨k10, k11, k12, k13, -⟩ := HC1.out.below hB3
      go_wp2_with fail
      refine (HFY.out _ (HC1.out.below hB3)).mono ?_
      rintro e w4 ⟨rfl, hb4⟩
      have hB4 := hB3.trans (hb4.mono hB3.size)
      have hBn4 := hBn3.below hb4 hBn3.lt
      clear x0 x1 x2 x3
      obtain ⟨x0, x1, x2, x3, -, -, -, -⟩ := blk4 hBn4
      clear k10 k11 k12 k13
      obtain ⟨k10, k11, k12, k13, -⟩ := HC1.out.below hB4
      go_wp2_with fail
      refine (HIY.out _ (HC1.out.below hB4)).mono ?_
      rintro e w5 ⟨rfl, hb5⟩
      have hB5 := hB4.trans (hb5.mono hB4.size)
      go_wp2_with fail
      go_ret
      exact ⟨by rw [HX.out]; rfl, hB5⟩

set_option maxRecDepth 100000 in
set_option maxHeartbeats 8000000 in
theorem udecl_4 (d : Nat) (nt : ByteArray) (x y : Nd) (np : Int) (A : Option Addr) (cp : Nat) (w : World) (hv : NodeW w (.agg #[.int .i64 4, .string nt, .slice A [x, y].length cp, .int .i64 np]) (.mk 4 nt [x, y] np)) (hd : DLe (d + 1) (.mk 4 nt [x, y] np)) (hn : nameT nt = true) (hp : paramsT (tfns d) x = true) :
    Calls Tryz.prog 17 #[.agg #[.int .i64 4, .string nt, .slice A [x, y].length cp, .int .i64 np]] w fun e w' => e = .returned (.bool (declT (tfns d) (.mk 4 nt [x, y] np))) ∧ Below w.heap.size w w' := by
  have C := uctx d
  have HV := Lib.hid hv
  have HD := Lib.hid hd
  have hlen := hd.1.1
  have HT := Lib.hid C.typ
  have HBL := Lib.hid C.block
  have HPA := Lib.hid (uparams_any d C.typ (fun v n w hv hd => uinter_any d C.typ v n w hv hd.succ))
  have hB := (Below.refl w.heap.size w).alloc (Nat.le_refl _) (.cells #[.int .i64 4, .string nt, .slice A [x, y].length cp, .int .i64 np] 24)
  have hBn : Blk (w.alloc (.cells #[.int .i64 4, .string nt, .slice A [x, y].length cp, .int .i64 np] 24)) w.heap.size 24 #[.int .i64 4, .string nt, .slice A [x, y].length cp, .int .i64 np] := Blk.new w _ _
  clear hv hd C
  generalize tfns d = F at *
  simp only [Nd.kids_mk] at hlen
  have HV1 : NodeW w (.agg #[.int .i64 4, .string nt, .slice A 2 cp, .int .i64 np]) (.mk 4 nt [x, y] np) := HV.out
  have hB : Below w.heap.size w (w.alloc (.cells #[.int .i64 4, .string nt, .slice A 2 cp, .int .i64 np] 24)) := hB
  have hBn : Blk (w.alloc (.cells #[.int .i64 4, .string nt, .slice A 2 cp, .int .i64 np] 24)) w.heap.size 24 #[.int .i64 4, .string nt, .slice A 2 cp, .int .i64 np] := hBn
  obtain ⟨bx, ox, A0, c0, rfl, hk0⟩ := kid_at HV1 0 (by simp)
  obtain ⟨bx1, ox1, A1, c1, e, hk1⟩ := kid_at HV1 1 (by simp)
  injection e with e
  injection e with e1 e2
  subst e1 e2
  simp only [Nd.kids_mk, List.getElem_cons_zero, List.getElem_cons_succ, Nat.zero_mul, Nat.add_zero, Nat.one_mul] at hk0 hk1
  have HC0 := Lib.hid hk0
  have hd0 := HD.out.kid (k := x) (by simp)
  have HC1 := Lib.hid hk1
  have hd1 := HD.out.kid (k := y) (by simp)
  clear HV1 HV hk0 hk1
  have HPX := Lib.hid (fun w' (h : C4 w' bx ox x A0 c0) => HPA.out _ x w' h.2.2.2.2 hd0.succ)
  have HTY := Lib.hid (fun w' (h : C4 w' bx (ox + 4) y A1 c1) => HT.out _ y w' h.2.2.2.2 hd1)
  have HX := Lib.hid (show declT F (.mk 4 nt [x, y] np) = F.typ y by
    rw [declT_eq F 4 nt x [y] np (by decide) (by simp), hn, hp]
    rfl)
  rw [hp] at HPX
  clear hp
  go_enter Tryz.func17, Tryz.ntmps17
  go_wp2_with fail
  refine (uname_any _ _).mono ?_
  rw [hn]
  rintro e w1 ⟨rfl, hb1⟩
  have hB1 := hB.trans (hb1.mono hB.size)
  have hBn1 := hBn.below hb1 hBn.lt
  obtain ⟨x0, x1, x2, x3, -, -, -, -⟩ := blk4 hBn1
  obtain ⟨k00, k01, k02, k03, -⟩ := HC0.out.below hB1
  go_wp2_with fail
  refine (HPX.out _ (HC0.out.below hB1)).mono ?_
  rintro e w2 ⟨rfl, hb2⟩
  have hB2 := hB1.trans (hb2.mono hB1.size)
  have hBn2 := hBn1.below hb2 hBn1.lt
  clear x0 x1 x2 x3
  obtain ⟨x0, x1, x2, x3, -, -, -, -⟩ := blk4 hBn2
  obtain ⟨k10, k11, k12, k13, -⟩ := HC1.out.below hB2
  go_wp2_with fail
  refine (HTY.out _ (HC1.out.below hB2)).mono ?_
  rintro e w3 ⟨rfl, hb3⟩
  have hB3 := hB2.trans (hb3.mono hB2.size)
  go_wp2_with fail
  go_ret
  exact ⟨by rw [HX.out]; rfl, hB3⟩

set_option maxRecDepth 100000 in
set_option maxHeartbeats 4000000 in
theorem udecl_5 (d : Nat) (nt : ByteArray) (nl : List Nd) (np : Int) (A : Option Addr) (cp : Nat) (w : World) (hv : NodeW w (.agg #[.int .i64 5, .string nt, .slice A nl.length cp, .int .i64 np]) (.mk 5 nt nl np)) (hd : DLe (d + 1) (.mk 5 nt nl np)) :
    Calls Tryz.prog 17 #[.agg #[.int .i64 5, .string nt, .slice A nl.length cp, .int .i64 np]] w fun e w' => e = .returned (.bool (declT (tfns d) (.mk 5 nt nl np))) ∧ Below w.heap.size w w' := by
  have hB := (Below.refl w.heap.size w).alloc (Nat.le_refl _) (.cells #[.int .i64 5, .string nt, .slice A nl.length cp, .int .i64 np] 24)
  have hBn : Blk (w.alloc (.cells #[.int .i64 5, .string nt, .slice A nl.length cp, .int .i64 np] 24)) w.heap.size 24 #[.int .i64 5, .string nt, .slice A nl.length cp, .int .i64 np] := Blk.new w _ _
  have HX := Lib.hid (declT_5 (tfns d) nt nl np)
  have HVR := Lib.hid (uvar_any d (uctx d) _ (.mk 5 nt nl np) _ (NodeV.below hv hB) hd)
  obtain ⟨x0, x1, x2, x3, -, -, -, -⟩ := blk4 hBn
  clear hv hd
  generalize nl.length = m at *
  go_enter Tryz.func17, Tryz.ntmps17
  go_wp2_with fail
  refine (HVR.out).mono ?_
  rintro e w1 ⟨rfl, hb1⟩
  go_wp2_with fail
  go_ret
  exact ⟨by rw [HX.out]; rfl, hB.trans (hb1.mono hB.size)⟩

/-- A declaration, whatever it is. -/
theorem udecl_any (d : Nat) (v : Value) (n : Nd) (w : World) (hv : NodeW w v n) (hd : DLe (d + 1) n) :
    Calls Tryz.prog 17 #[v] w fun e w' => e = .returned (.bool (declT (tfns d) n)) ∧ Below w.heap.size w w' := by
  obtain ⟨A, cp, rfl, hC⟩ := hv.toC
  obtain ⟨nk, nt, nl, np⟩ := n
  simp only [Nd.kind_mk, Nd.text_mk, Nd.kids_mk, Nd.pos_mk] at *
  by_cases h5 : nk = 5
  · subst h5
    exact udecl_5 d nt nl np A cp w hv hd
  cases hn : nameT nt with
  | false => exact udecl_name d nk nt nl np A cp w hv hd h5 hn
  | true =>
    rcases nl with _ | ⟨x, _ | ⟨y, l⟩⟩
    · exact udecl_few d nk nt [] np A cp w hv hd h5 hn (by simp)
    · exact udecl_few d nk nt [x] np A cp w hv hd h5 hn (by simp)
    cases hp : paramsT (tfns d) x with
    | false => exact udecl_params d nk nt x y l np A cp w hv hd h5 hn hp
    | true =>
      by_cases q2 : nk = 2 ∧ ∃ z, l = [z]
      · obtain ⟨rfl, z, rfl⟩ := q2
        exact udecl_2 d nt x y z np A cp w hv hd hn hp
      by_cases q3 : nk = 3 ∧ l = []
      · obtain ⟨rfl, rfl⟩ := q3
        exact udecl_3 d nt x y np A cp w hv hd hn hp
      by_cases q4 : nk = 4 ∧ l = []
      · obtain ⟨rfl, rfl⟩ := q4
        exact udecl_4 d nt x y np A cp w hv hd hn hp
      refine udecl_none d nk nt x y l np A cp w hv hd h5 hn hp ?_ ?_ ?_
      · rcases l with _ | ⟨z, _ | ⟨u, l⟩⟩
        · simp
        · have : nk ≠ 2 := fun h => q2 ⟨h, z, rfl⟩
          simp [this]
        · simp
          intro
          omega
      · rcases l with _ | ⟨z, l⟩
        · have : nk ≠ 3 := fun h => q3 ⟨h, rfl⟩
          simp [this]
        · simp
          intro
          omega
      · rcases l with _ | ⟨z, l⟩
        · have : nk ≠ 4 := fun h => q4 ⟨h, rfl⟩
          simp [this]
        · simp
          intro
          omega
end Go.Proofs.YtnalfjaojcahhaaGreatDoor
namespace Go.Proofs.YtnalfjaojcahhaaGreatDoor
open Go.RowKit Go.Lib Go.Proofs
attribute [local go_sem ↓] Go.wp_at_zero Go.wp_at_succ

/-- How many nodes are within one another, to a depth. -/
def depR : Nat → Nd → Nat
  | 0, _ => 0
  | g + 1, n => (n.kids.map (depR g)).foldl max 0 + 1
theorem foldl_max_le {b : Nat} : ∀ (l : List Nat) (a : Nat), a ≤ b → (∀ x ∈ l, x ≤ b) → l.foldl max a ≤ b
  | [], a, h, _ => h
  | x :: l, a, h, hl => foldl_max_le l (max a x) (Nat.max_le.2 ⟨h, hl x (by simp)⟩) fun y hy => hl y (by simp [hy])
theorem depR_le : ∀ (g : Nat) (n : Nd), depR g n ≤ g
  | 0, _ => Nat.le_refl _
  | g + 1, n => by
    have := foldl_max_le (b := g) (n.kids.map (depR g)) 0 (Nat.zero_le _) (fun x hx => by
      obtain ⟨k, _, rfl⟩ := List.mem_map.1 hx
      exact depR_le g k)
    unfold depR
    omega

set_option maxRecDepth 100000 in
set_option maxHeartbeats 2000000 in
theorem udepth_any : ∀ (d : Nat) (v : Value) (n : Nd) (w : World), d ≤ 1000 → NodeW w v n → Wee d n →
    Calls Tryz.prog 15 #[v, .int .i64 (d : Int)] w fun e w' => e = .returned (.int .i64 ((depR d n : Nat) : Int)) ∧ Below w.heap.size w w' := by
  intro d
  induction d with
  | zero =>
    intro v n w _ hv _
    obtain ⟨A, cp, rfl, hC⟩ := hv.toC
    clear hv hC
    have hB := (Below.refl w.heap.size w).alloc (Nat.le_refl _) (.cells #[.int .i64 n.kind, .string n.text, .slice A n.kids.length cp, .int .i64 n.pos] 24)
    go_enter Tryz.func15, Tryz.ntmps15
    go_wp2_with fail
    go_ret
    exact ⟨rfl, hB⟩
  | succ d ih =>
    intro v n w hd hv hw
    have HV := Lib.hid hv
    have HW := Lib.hid hw
    have HI := Lib.hid ih
    have hlk := hw.1.1
    obtain ⟨A, cp, rfl, hC⟩ := hv.toC
    clear hv hC hw ih
    have hB := (Below.refl w.heap.size w).alloc (Nat.le_refl _) (.cells #[.int .i64 n.kind, .string n.text, .slice A n.kids.length cp, .int .i64 n.pos] 24)
    have b1 : Blk (w.alloc (.cells #[.int .i64 n.kind, .string n.text, .slice A n.kids.length cp, .int .i64 n.pos] 24)) w.heap.size 24 #[.int .i64 n.kind, .string n.text, .slice A n.kids.length cp, .int .i64 n.pos] := Blk.new w _ _
    have hz : ((d : Int) + 1 == 0) = false := by simp; omega
    have hT := Lib.hid (show depR (d + 1) n = (n.kids.map (depR d)).foldl max 0 + 1 from rfl)
    go_enter Tryz.func15, Tryz.ntmps15
    go_wp2_with fail
    go_loopg [5, 6] n.kids.length (fun g1 u5 u6 wr => ∃ (i m : Nat), i ≤ n.kids.length ∧ n.kids.length - i ≤ g1 ∧ u6 = .int .i64 (i : Int) ∧ u5 = .int .i64 (m : Int) ∧ m = ((n.kids.take i).map (depR d)).foldl max 0 ∧ m ≤ d ∧ Below w.heap.size w wr ∧ Blk wr w.heap.size 24 #[.int .i64 n.kind, .string n.text, .slice A n.kids.length cp, .int .i64 n.pos])
    case atStart => exact ⟨0, 0, Nat.zero_le _, by omega, rfl, rfl, rfl, Nat.zero_le _, hB, b1⟩
    case round =>
      clear b1 hB
      obtain ⟨i, m, hi, hg, rfl, rfl, hm, hmd, hB, b1⟩ := hrel
      have HM := Lib.hid hm
      clear hm
      obtain ⟨x0, x1, x2, x3, -, -, -, -⟩ := blk4 b1
      by_cases hlt : i < n.kids.length
      · have hlt2 : (i : Int) < (n.kids.length : Int) := by omega
        have h0 : (0 : Int) ≤ (i : Int) := by omega
        obtain ⟨bp, op, A1, cp1, rfl, hp⟩ := kid_at (NodeV.below HV.out hB) i hlt
        have HK := Lib.hid (show max m (depR d n.kids[i]) = ((n.kids.take (i + 1)).map (depR d)).foldl max 0 by
          rw [List.take_succ_eq_append_getElem hlt, List.map_append, List.foldl_append, ← HM.out]
          rfl)
        have hle := depR_le d n.kids[i]
        have HC := Lib.hid (HI.out _ n.kids[i] wr (by omega) hp.2.2.2.2 (HW.out.2 _ (List.getElem_mem hlt)))
        generalize n.kids[i] = x at *
        generalize depR d x = q at *
        obtain ⟨k0, k1, k2, k3, -⟩ := hp
        go_wp2_with fail
        refine HC.out.mono ?_
        rintro e w2 ⟨rfl, hb2⟩
        have hB2 := hB.trans (hb2.mono hB.size)
        have b2 := b1.below hb2 b1.lt
        clear hb2 b1 HC k0 k1 k2 k3 x0 x1 x2 x3
        go_wp2_with fail
        go_roundg (n.kids.length - (i + 1))
        case measure => omega
        case rel => exact ⟨i + 1, max m q, by omega, Nat.le_refl _, by go_num, by go_num, HK.out, by omega, hB2, b2⟩
      · have hlt2 : ¬ (i : Int) < (n.kids.length : Int) := by omega
        have HE := Lib.hid (show m + 1 = depR (d + 1) n by rw [hT.out, HM.out, List.take_of_length_le (by omega)])
        go_wp2_with fail
        go_ret
        exact ⟨by rw [← HE.out]; go_num, hB⟩
end Go.Proofs.YtnalfjaojcahhaaGreatDoor
