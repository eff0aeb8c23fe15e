/-
  demoticref06.Expr: indices; a sign between two. By an AI agent.
  The signs between two: thirteen. By an AI agent.
  demoticref06.Expr: a sign between two. By an AI agent.
  demoticref06.Expr at any node. By an AI agent.
  demoticref06.variable. By an AI agent.
-/
import Derived.Test.YtnalfjaojcahhaaGreatDoorJ28
import Derived.Test.YtnalfjaojcahhaaGreatDoorJ06
import Derived.Lib.IndexBytes
import Derived.Lib.IndexAny
import Derived.Deep.RegionHeld3
namespace Go.Proofs.YtnalfjaojcahhaaGreatDoor
open Go.RowKit Go.Lib Go.Proofs
attribute [local go_sem ↓] Go.wp_at_zero Go.wp_at_succ

set_option maxRecDepth 100000 in
set_option maxHeartbeats 8000000 in
theorem uexpr_22 (d : Nat) (C : UCtx d) (nt : ByteArray) (nl : List Nd) (np : Int) (A : Option Addr) (cp : Nat) (w : World) (hv : NodeW w (.agg #[.int .i64 22, .string nt, .slice A nl.length cp, .int .i64 np]) (.mk 22 nt nl np)) (hd : DLe (d + 1) (.mk 22 nt nl np)) :
    Calls Tryz.prog 19 #[.agg #[.int .i64 22, .string nt, .slice A nl.length cp, .int .i64 np]] w fun e w' => e = .returned (.bool (exprT (tfns d) (.mk 22 nt nl np))) ∧ Below w.heap.size w w' := by
  have HV := Lib.hid hv
  have HD := Lib.hid hd
  have hlen := hd.1.1
  have HT := Lib.hid C.typ
  have HE := Lib.hid C.expr
  have hB := (Below.refl w.heap.size w).alloc (Nat.le_refl _) (.cells #[.int .i64 22, .string nt, .slice A nl.length cp, .int .i64 np] 24)
  have hBn : Blk (w.alloc (.cells #[.int .i64 22, .string nt, .slice A nl.length cp, .int .i64 np] 24)) w.heap.size 24 #[.int .i64 22, .string nt, .slice A nl.length cp, .int .i64 np] := Blk.new w _ _
  clear hv hd C
  generalize tfns d = F at *
  simp only [Nd.kids_mk] at hlen
  have HR := Lib.hid (show exprT F (.mk 22 nt nl np) = (decide (nt = (⟨#[]⟩ : ByteArray)) && (decide (1 < nl.length) && (F.expr (nl.getD 0 nd0) && (nl.drop 1).all (partT F)))) by (simp [exprT]; rfl))
  by_cases h1 : nt = ⟨#[]⟩
  rotate_left
  · have hne : nt.toList.isEmpty = false := by rw [isEmpty_dec]; simpa using h1
    have HX := Lib.hid (show exprT F (.mk 22 nt nl np) = false by rw [HR.out, decide_eq_false h1, Bool.false_and])
    clear h1
    go_enter Tryz.func19, Tryz.ntmps19
    go_wp2_with fail
    go_ret
    exact ⟨by rw [HX.out]; rfl, hB⟩
  subst h1
  by_cases h2 : 1 < nl.length
  rotate_left
  · have hne : decide ((nl.length : Int) < 2) = true := by rw [decide_eq_true_iff]; omega
    have HX := Lib.hid (show exprT F (.mk 22 ⟨#[]⟩ nl np) = false by rw [HR.out, decide_eq_false h2, Bool.false_and, Bool.and_false])
    clear h2
    generalize nl.length = m at *
    go_enter Tryz.func19, Tryz.ntmps19
    go_wp2_with fail
    go_ret
    exact ⟨by rw [HX.out]; rfl, hB⟩
  obtain ⟨x, l, rfl⟩ : ∃ x l, nl = x :: l := by
    rcases nl with _ | ⟨x, l⟩
    · simp at h2
    · exact ⟨x, l, rfl⟩
  have hne : decide (((x :: l).length : Int) < 2) = false := by rw [decide_eq_false_iff_not]; omega
  have HR2 := Lib.hid (show exprT F (.mk 22 ⟨#[]⟩ (x :: l) np) = (F.expr x && l.all (partT F)) by rw [HR.out, decide_eq_true h2]; simp)
  have hm0 : 0 < (x :: l).length := by simp
  obtain ⟨bx, ox, A1, c1, hA, hx⟩ := kid_at HV.out 0 hm0
  simp only [Nd.kids_mk, List.getElem_cons_zero, Nat.zero_mul, Nat.add_zero] at hx
  subst hA
  have HX0 := Lib.hid hx
  have hdx := HD.out.kid (k := x) (by simp)
  have HTX := Lib.hid (fun w' (h : C4 w' bx ox x A1 c1) => HE.out _ x w' h.2.2.2.2 hdx)
  have hll : (x :: l).length = l.length + 1 := by simp
  obtain ⟨y0, y1, y2, y3, -⟩ := HX0.out.below hB
  clear hx HR
  generalize hm : (x :: l).length = m at *
  have HLL := Lib.hid hll
  clear hll hm
  cases q1 : F.expr x with
  | false =>
    have HX := Lib.hid (show exprT F (.mk 22 ⟨#[]⟩ (x :: l) np) = false by rw [HR2.out, q1, Bool.false_and])
    rw [q1] at HTX
    go_enter Tryz.func19, Tryz.ntmps19
    go_wp2_with fail
    refine (HTX.out _ (HX0.out.below hB)).mono ?_
    rintro e w1 ⟨rfl, hb1⟩
    go_wp2_with fail
    go_ret
    exact ⟨by rw [HX.out]; rfl, hB.trans (hb1.mono hB.size)⟩
  | true =>
    have HALL := Lib.hid (show exprT F (.mk 22 ⟨#[]⟩ (x :: l) np) = l.all (partT F) by rw [HR2.out, q1, Bool.true_and])
    rw [q1] at HTX
    clear HR2 q1
    go_enter Tryz.func19, Tryz.ntmps19
    go_wp2_with fail
    refine (HTX.out _ (HX0.out.below hB)).mono ?_
    rintro e w1 ⟨rfl, hb1⟩
    have hB1 := hB.trans (hb1.mono hB.size)
    clear y0 y1 y2 y3 hB hBn hb1 HTX HX0 hne
    go_wp2_with fail
    go_loopg [4] m (fun k u4 wr => ∃ i : Nat, 1 ≤ i ∧ i ≤ m ∧ m - i ≤ k ∧ u4 = .int .i64 (i : Int) ∧ Below w.heap.size w wr ∧ (l.take (i - 1)).all (partT F) = true)
    case atStart => exact ⟨1, Nat.le_refl _, by omega, by omega, rfl, hB1, rfl⟩
    case round =>
      clear hB1
      obtain ⟨i, hi1, hi, hk, rfl, hBr, hall⟩ := hrel
      by_cases hlt : i < m
      · have hlt2 : (i : Int) < (m : Int) := by omega
        have h0 : (0 : Int) ≤ (i : Int) := by omega
        have hil : i - 1 < l.length := by have := HLL.out; omega
        obtain ⟨bp, op, A2, c2, hA0, hp⟩ := kid_at (NodeV.below HV.out hBr) i (by have := HLL.out; simp; omega)
        have hget : (x :: l)[i]'(by have := HLL.out; simp; omega) = l[i - 1] := by
          obtain ⟨j, rfl⟩ : ∃ j, i = j + 1 := ⟨i - 1, by omega⟩
          simp
        simp only [Nd.kids_mk, hget] at hp
        injection hA0 with hA0
        injection hA0 with g1 g2
        subst g1 g2
        have HOK := Lib.hid (show partT F l[i - 1] = true → (l.take (i + 1 - 1)).all (partT F) = true by
          intro h
          rw [show i + 1 - 1 = i - 1 + 1 by omega, List.take_succ_eq_append_getElem hil, List.all_append, hall]
          simp [h])
        have HBAD := Lib.hid (show partT F l[i - 1] = false → exprT F (.mk 22 ⟨#[]⟩ (x :: l) np) = false by
          intro h
          rw [HALL.out, List.all_eq_false]
          exact ⟨_, List.getElem_mem hil, by simp [h]⟩)
        have hdq := HD.out.kid (k := l[i - 1]) (by simp)
        clear hget hall
        generalize l[i - 1] = q at *
        have HP := Lib.hid hp
        have HEQ := Lib.hid (HE.out _ q wr hp.2.2.2.2 hdq)
        have HTQ := Lib.hid (fun w' (h : C4 w' bx (ox + i * 4) q A2 c2) => HT.out _ q w' h.2.2.2.2 hdq)
        obtain ⟨p0, p1, p2, p3, -⟩ := hp
        unfold partT at HOK HBAD
        cases q3 : F.expr q with
        | true =>
          have HX := Lib.hid (HOK.out (by simp [q3]))
          rw [q3] at HEQ
          clear q3 HOK HBAD HTQ
          go_wp2_with fail
          refine (HEQ.out).mono ?_
          rintro e w3 ⟨rfl, hb3⟩
          go_wp2_with fail
          go_roundg (m - (i + 1))
          case measure => omega
          case rel => exact ⟨i + 1, by omega, by omega, Nat.le_refl _, by go_num, hBr.trans (hb3.mono hBr.size), HX.out⟩
        | false =>
          rw [q3] at HEQ
          by_cases q4 : q.kind = 10
          · have hnk : (q.kind == 10) = true := by simpa using q4
            have HX := Lib.hid (HBAD.out (by simp [q3, q4]))
            clear q3 q4 HOK HBAD HTQ
            go_wp2_with fail
            refine (HEQ.out).mono ?_
            rintro e w3 ⟨rfl, hb3⟩
            have hB3 := hBr.trans (hb3.mono hBr.size)
            clear p0 p1 p2 p3
            obtain ⟨p0, p1, p2, p3, -⟩ := HP.out.below hb3
            go_wp2_with fail
            go_ret
            exact ⟨by rw [HX.out]; rfl, hB3⟩
          have hnk : (q.kind == 10) = false := by simpa using q4
          cases q5 : F.typ q with
          | false =>
            have HX := Lib.hid (HBAD.out (by simp [q3, q5]))
            rw [q5] at HTQ
            clear q3 q4 q5 HOK HBAD
            go_wp2_with fail
            refine (HEQ.out).mono ?_
            rintro e w3 ⟨rfl, hb3⟩
            have hB3 := hBr.trans (hb3.mono hBr.size)
            clear p0 p1 p2 p3
            obtain ⟨p0, p1, p2, p3, -⟩ := HP.out.below hb3
            go_wp2_with fail
            refine (HTQ.out _ (HP.out.below hb3)).mono ?_
            rintro e w4 ⟨rfl, hb4⟩
            go_wp2_with fail
            go_ret
            exact ⟨by rw [HX.out]; rfl, hB3.trans (hb4.mono hB3.size)⟩
          | true =>
            have HX := Lib.hid (HOK.out (by simp [q4, q5]))
            rw [q5] at HTQ
            clear q3 q4 q5 HOK HBAD
            go_wp2_with fail
            refine (HEQ.out).mono ?_
            rintro e w3 ⟨rfl, hb3⟩
            have hB3 := hBr.trans (hb3.mono hBr.size)
            clear p0 p1 p2 p3
            obtain ⟨p0, p1, p2, p3, -⟩ := HP.out.below hb3
            go_wp2_with fail
            refine (HTQ.out _ (HP.out.below hb3)).mono ?_
            rintro e w4 ⟨rfl, hb4⟩
            go_wp2_with fail
            go_roundg (m - (i + 1))
            case measure => omega
            case rel => exact ⟨i + 1, by omega, by omega, Nat.le_refl _, by go_num, hB3.trans (hb4.mono hB3.size), HX.out⟩
      · have hlt2 : ¬ (i : Int) < (m : Int) := by omega
        have HX := Lib.hid (show exprT F (.mk 22 ⟨#[]⟩ (x :: l) np) = true by rw [HALL.out, ← hall, List.take_of_length_le (by have := HLL.out; omega)])
        clear hall
        go_wp2_with fail
        go_ret
        exact ⟨by rw [HX.out]; rfl, hBr⟩
end Go.Proofs.YtnalfjaojcahhaaGreatDoor
namespace Go.Proofs.YtnalfjaojcahhaaGreatDoor
open Go.Lib

def signs13 : List ByteArray := [(⟨#[43]⟩ : ByteArray), (⟨#[45]⟩ : ByteArray), (⟨#[42]⟩ : ByteArray), (⟨#[47]⟩ : ByteArray), (⟨#[37]⟩ : ByteArray), (⟨#[61, 61]⟩ : ByteArray), (⟨#[33, 61]⟩ : ByteArray), (⟨#[60]⟩ : ByteArray), (⟨#[60, 61]⟩ : ByteArray), (⟨#[62]⟩ : ByteArray), (⟨#[62, 61]⟩ : ByteArray), (⟨#[38, 38]⟩ : ByteArray), (⟨#[124, 124]⟩ : ByteArray)]
theorem occ_prefix {l sub : List UInt8} {i : Nat} (h : occAt l sub i = true) : ∃ r, l.drop i = sub ++ r := by
  unfold occAt at h
  simp at h
  exact ⟨_, (List.prefix_iff_eq_append.1 h).symm⟩
theorem contains_occ {l sub : List UInt8} (h : Lib.contains l sub = true) : ∃ i, i ≤ l.length ∧ occAt l sub i = true := by
  unfold Lib.contains at h
  rw [decide_eq_true_iff] at h
  rcases index_spec l sub with ⟨e, _⟩ | ⟨i, _, hi, ho, _⟩
  · omega
  · exact ⟨i, hi, ho⟩
theorem contains_byte (l : List UInt8) (c : UInt8) : Lib.contains l [c] = l.contains c := by
  unfold Lib.contains
  rw [index_one, contains_iff_indexByte]

theorem takeWhile_stop {p : UInt8 → Bool} : ∀ {l r : List UInt8} {c : UInt8}, (∀ x ∈ l, p x = true) → p c = false → (l ++ c :: r).takeWhile p = l
  | [], r, c, _, hc => by simp [hc]
  | x :: l, r, c, h, hc => by
    have h1 := h x (by simp)
    rw [List.cons_append, List.takeWhile_cons, if_pos h1, takeWhile_stop (fun y hy => h y (by simp [hy])) hc]
theorem sign_table : ∀ i, i ≤ 60 → (32 :: signText)[i]? = some 32 → (signs13.map (·.data.toList)).contains (((32 :: signText).drop (i + 1)).takeWhile (fun c => c != 32)) = true ∨ ((32 :: signText).drop (i + 1)).takeWhile (fun c => c != 32) = [] := by decide +kernel
theorem binaryT_eq (s : ByteArray) : binaryT s = signs13.any fun x => decide (s = x) := by
  rw [Bool.eq_iff_iff]
  constructor
  · intro h
    unfold binaryT at h
    rw [Bool.and_eq_true, Bool.and_eq_true, decide_eq_true_iff, Bool.not_eq_true'] at h
    obtain ⟨h0, h1, h2⟩ := h
    rw [contains_byte] at h1
    obtain ⟨i, hi, ho⟩ := contains_occ h2
    obtain ⟨r, hr⟩ := occ_prefix ho
    have h32 : (32 :: signText)[i]? = some 32 := by
      have := congrArg (fun l => l[0]?) hr
      simpa using this
    have hd : (32 :: signText).drop (i + 1) = s.data.toList ++ 32 :: r := by
      have := congrArg (fun l => l.drop 1) hr
      simpa [List.drop_drop, Nat.add_comm] using this
    have hno : ∀ x ∈ s.data.toList, (x != 32) = true := by
      intro x hx
      rw [bne_iff_ne]
      rintro rfl
      rw [List.contains_eq_mem, decide_eq_false_iff_not] at h1
      exact h1 hx
    have hlen : (32 :: signText).length ≤ 60 := by decide +kernel
    rcases sign_table i (by omega) h32 with ht | ht
    · rw [hd, takeWhile_stop hno (by decide), List.contains_eq_mem, decide_eq_true_iff, List.mem_map] at ht
      obtain ⟨x, hx, e⟩ := ht
      rw [List.any_eq_true]
      refine ⟨x, hx, ?_⟩
      rw [decide_eq_true_iff]
      apply ByteArray.ext
      exact Array.toList_inj.1 e.symm
    · rw [hd, takeWhile_stop hno (by decide)] at ht
      exact absurd (by apply ByteArray.ext; exact Array.toList_inj.1 ht) h0
  · intro h
    rw [List.any_eq_true] at h
    obtain ⟨x, hx, e⟩ := h
    rw [decide_eq_true_iff] at e
    subst e
    have : ∀ x ∈ signs13, binaryT x = true := by decide +kernel
    exact this s hx
end Go.Proofs.YtnalfjaojcahhaaGreatDoor
namespace Go.Proofs.YtnalfjaojcahhaaGreatDoor
open Go.RowKit Go.Lib Go.Proofs
attribute [local go_sem ↓] Go.wp_at_zero Go.wp_at_succ

theorem namedTwo_eq (k : Int) (f g : Nd → Bool) (so : ByteArray → Bool) (l : List Nd) {t : ByteArray} {p : Int} : ofT k [f, g] (namedT so (.mk k t l p)) = (twoT f g l && so t) := by
  rw [show namedT so (.mk k t l p) = if so t = true then .mk k (⟨#[]⟩ : ByteArray) l p else .mk 37 (⟨#[]⟩ : ByteArray) [] 0 from rfl]
  by_cases hs : so t = true
  · rw [if_pos hs, of2_eq]
    simp [hs]
  · rw [if_neg hs, of2_eq]
    rw [Bool.not_eq_true] at hs
    simp [hs, twoT]
theorem two_all (f : Nd → Bool) (l : List Nd) : twoT f f l = (decide (l.length = 2) && l.all f) := by
  rcases l with _ | ⟨x, _ | ⟨y, _ | ⟨z, l⟩⟩⟩ <;> simp [twoT]

set_option maxRecDepth 100000 in
set_option maxHeartbeats 20000000 in
theorem uexpr_20 (d : Nat) (C : UCtx d) (nt : ByteArray) (nl : List Nd) (np : Int) (A : Option Addr) (cp : Nat) (w : World) (hv : NodeW w (.agg #[.int .i64 20, .string nt, .slice A nl.length cp, .int .i64 np]) (.mk 20 nt nl np)) (hd : DLe (d + 1) (.mk 20 nt nl np)) :
    Calls Tryz.prog 19 #[.agg #[.int .i64 20, .string nt, .slice A nl.length cp, .int .i64 np]] w fun e w' => e = .returned (.bool (exprT (tfns d) (.mk 20 nt nl np))) ∧ Below w.heap.size w w' := by
  have HV := Lib.hid hv
  have HD := Lib.hid hd
  have hlen := hd.1.1
  have HT := Lib.hid C.typ
  have HE := Lib.hid C.expr
  have HXS := Lib.hid (uexprs_any d C.expr)
  have hB := (Below.refl w.heap.size w).alloc (Nat.le_refl _) (.cells #[.int .i64 20, .string nt, .slice A nl.length cp, .int .i64 np] 24)
  have hBn : Blk (w.alloc (.cells #[.int .i64 20, .string nt, .slice A nl.length cp, .int .i64 np] 24)) w.heap.size 24 #[.int .i64 20, .string nt, .slice A nl.length cp, .int .i64 np] := Blk.new w _ _
  clear hv hd C
  generalize tfns d = F at *
  simp only [Nd.kids_mk] at hlen
  have HR := Lib.hid (show exprT F (.mk 20 nt nl np) = (twoT F.expr F.expr nl && binaryT nt) by
    have h : exprT F (.mk 20 nt nl np) = ofT 20 [F.expr, F.expr] (namedT binaryT (.mk 20 nt nl np)) := by simp [exprT]
    rw [h, namedTwo_eq])
  have hll := two_all F.expr nl
  have HXS := Lib.hid (HXS.out A cp nl _ (NodeV.kidsV (NodeV.below HV.out hB)) (fun n hn => HD.out.kid hn) hlen)
  cases hq : binaryT nt with
  | false =>
    have HX := Lib.hid (show exprT F (.mk 20 nt nl np) = false by rw [HR.out, hq, Bool.and_false])
    have hn : ∀ x ∈ signs13, ¬ nt = x := by
      intro x hx e
      rw [binaryT_eq, List.any_eq_false] at hq
      exact hq x hx (by simpa using e)
    have e0 := ne_list (hn (⟨#[43]⟩ : ByteArray) (by simp [signs13]))
    have e1 := ne_list (hn (⟨#[45]⟩ : ByteArray) (by simp [signs13]))
    have e2 := ne_list (hn (⟨#[42]⟩ : ByteArray) (by simp [signs13]))
    have e3 := ne_list (hn (⟨#[47]⟩ : ByteArray) (by simp [signs13]))
    have e4 := ne_list (hn (⟨#[37]⟩ : ByteArray) (by simp [signs13]))
    have e5 := ne_list (hn (⟨#[61, 61]⟩ : ByteArray) (by simp [signs13]))
    have e6 := ne_list (hn (⟨#[33, 61]⟩ : ByteArray) (by simp [signs13]))
    have e7 := ne_list (hn (⟨#[60]⟩ : ByteArray) (by simp [signs13]))
    have e8 := ne_list (hn (⟨#[60, 61]⟩ : ByteArray) (by simp [signs13]))
    have e9 := ne_list (hn (⟨#[62]⟩ : ByteArray) (by simp [signs13]))
    have e10 := ne_list (hn (⟨#[62, 61]⟩ : ByteArray) (by simp [signs13]))
    have e11 := ne_list (hn (⟨#[38, 38]⟩ : ByteArray) (by simp [signs13]))
    have e12 := ne_list (hn (⟨#[124, 124]⟩ : ByteArray) (by simp [signs13]))
    clear hn hq HR hll HXS
    go_enter Tryz.func19, Tryz.ntmps19
    go_wp2_with fail
    go_ret
    exact ⟨by rw [HX.out]; rfl, hB⟩
  | true =>
    have HX := Lib.hid (show exprT F (.mk 20 nt nl np) = (decide (nl.length = 2) && nl.all F.expr) by rw [HR.out, hq, Bool.and_true, hll])
    have hn : ∃ x ∈ signs13, nt = x := by
      rw [binaryT_eq, List.any_eq_true] at hq
      obtain ⟨x, hx, e⟩ := hq
      exact ⟨x, hx, by simpa using e⟩
    clear hq HR hll
    generalize nl.all F.expr = res at *
    have hc : ∃ q : Bool, ((nl.length : Int) == 2) = q ∧ decide (nl.length = 2) = q := by
      refine ⟨_, rfl, ?_⟩
      rw [Bool.eq_iff_iff]
      simp
      omega
    obtain ⟨q, hc1, hc2⟩ := hc
    rw [hc2] at HX
    generalize nl.length = m at *
    clear hc2
    obtain ⟨x, hx, rfl⟩ := hn
    simp only [signs13, List.mem_cons, List.not_mem_nil, or_false] at hx
    cases q
    · rcases hx with rfl | rfl | rfl | rfl | rfl | rfl | rfl | rfl | rfl | rfl | rfl | rfl | rfl
      all_goals
        go_enter Tryz.func19, Tryz.ntmps19
        go_wp2_with fail
        go_ret
        exact ⟨by rw [HX.out]; rfl, hB⟩
    · rcases hx with rfl | rfl | rfl | rfl | rfl | rfl | rfl | rfl | rfl | rfl | rfl | rfl | rfl
      all_goals
        go_enter Tryz.func19, Tryz.ntmps19
        go_wp2_with fail
        refine (HXS.out).mono ?_
        rintro e w1 ⟨rfl, hb1⟩
        go_wp2_with fail
        go_ret
        exact ⟨by rw [HX.out, Bool.true_and]; rfl, hB.trans (hb1.mono hB.size)⟩
end Go.Proofs.YtnalfjaojcahhaaGreatDoor
namespace Go.Proofs.YtnalfjaojcahhaaGreatDoor
open Go.RowKit Go.Lib Go.Proofs
attribute [local go_sem ↓] Go.wp_at_zero Go.wp_at_succ

theorem exprT_else (F : TFns) (k : Int) (t : ByteArray) (l : List Nd) (p : Int) (h : ∀ j : Int, 16 ≤ j → j ≤ 25 → k ≠ j) : exprT F (.mk k t l p) = false := by
  have h16 := h 16 (by decide) (by decide)
  have h17 := h 17 (by decide) (by decide)
  have h18 := h 18 (by decide) (by decide)
  have h19 := h 19 (by decide) (by decide)
  have h20 := h 20 (by decide) (by decide)
  have h21 := h 21 (by decide) (by decide)
  have h22 := h 22 (by decide) (by decide)
  have h23 := h 23 (by decide) (by decide)
  have h24 := h 24 (by decide) (by decide)
  have h25 := h 25 (by decide) (by decide)
  have e : exprT F (.mk k t l p) = ofT 25 [isSigT F, F.block] (.mk k t l p) := by simp [exprT, h16, h17, h18, h19, h20, h21, h22, h23, h24]
  rw [e, of2_eq]
  simp [h25]

set_option maxRecDepth 100000 in
set_option maxHeartbeats 4000000 in
theorem uexpr_any (d : Nat) (C : UCtx d) (v : Value) (n : Nd) (w : World) (hv : NodeW w v n) (hd : DLe (d + 1) n) :
    Calls Tryz.prog 19 #[v] w fun e w' => e = .returned (.bool (exprT (tfns d) n)) ∧ Below w.heap.size w w' := by
  obtain ⟨A, cp, rfl, hC⟩ := hv.toC
  obtain ⟨nk, nt, nl, np⟩ := n
  simp only [Nd.kind_mk, Nd.text_mk, Nd.kids_mk, Nd.pos_mk] at *
  by_cases h16 : nk = 16
  · subst h16
    exact uexpr_16 d C nt nl np A cp w hv hd
  by_cases h17 : nk = 17
  · subst h17
    exact uexpr_17 d C nt nl np A cp w hv hd
  by_cases h18 : nk = 18
  · subst h18
    exact uexpr_18 d C nt nl np A cp w hv hd
  by_cases h19 : nk = 19
  · subst h19
    exact uexpr_19 d C nt nl np A cp w hv hd
  by_cases h20 : nk = 20
  · subst h20
    exact uexpr_20 d C nt nl np A cp w hv hd
  by_cases h21 : nk = 21
  · subst h21
    exact uexpr_21 d C nt nl np A cp w hv hd
  by_cases h22 : nk = 22
  · subst h22
    exact uexpr_22 d C nt nl np A cp w hv hd
  by_cases h23 : nk = 23
  · subst h23
    exact uexpr_23 d C nt nl np A cp w hv hd
  by_cases h24 : nk = 24
  · subst h24
    exact uexpr_24 d C nt nl np A cp w hv hd
  by_cases h25 : nk = 25
  · subst h25
    exact uexpr_25 d C nt nl np A cp w hv hd
  have HX := Lib.hid (exprT_else (tfns d) nk nt nl np (fun j h1 h2 e => by omega))
  have hB := (Below.refl w.heap.size w).alloc (Nat.le_refl _) (.cells #[.int .i64 nk, .string nt, .slice A nl.length cp, .int .i64 np] 24)
  have e16 : (nk == 16) = false := by rw [beq_eq_false_iff_ne]; exact h16
  have e17 : (nk == 17) = false := by rw [beq_eq_false_iff_ne]; exact h17
  have e18 : (nk == 18) = false := by rw [beq_eq_false_iff_ne]; exact h18
  have e19 : (nk == 19) = false := by rw [beq_eq_false_iff_ne]; exact h19
  have e20 : (nk == 20) = false := by rw [beq_eq_false_iff_ne]; exact h20
  have e21 : (nk == 21) = false := by rw [beq_eq_false_iff_ne]; exact h21
  have e22 : (nk == 22) = false := by rw [beq_eq_false_iff_ne]; exact h22
  have e23 : (nk == 23) = false := by rw [beq_eq_false_iff_ne]; exact h23
  have e24 : (nk == 24) = false := by rw [beq_eq_false_iff_ne]; exact h24
  have e25 : (nk == 25) = false := by rw [beq_eq_false_iff_ne]; exact h25
  clear hv hd hC C h16 h17 h18 h19 h20 h21 h22 h23 h24 h25
  generalize nl.length = m at *
  go_enter Tryz.func19, Tryz.ntmps19
  go_wp2_with fail
  go_ret
  exact ⟨by rw [HX.out]; rfl, hB⟩
end Go.Proofs.YtnalfjaojcahhaaGreatDoor
namespace Go.Proofs.YtnalfjaojcahhaaGreatDoor
open Go.RowKit Go.Lib Go.Proofs
attribute [local go_sem ↓] Go.wp_at_zero Go.wp_at_succ

theorem varT_eq (F : TFns) (k : Int) (t : ByteArray) (l : List Nd) (p : Int) : varT F (.mk k t l p) = (decide (k = 5) && (nameT t && (twoT (orT emptyT F.typ) (orT emptyT F.expr) l && (!(emptyT (l.getD 0 nd0)) || !(emptyT (l.getD 1 nd0)))))) := by
  unfold varT
  rw [show namedT nameT (.mk k t l p) = if nameT t = true then .mk k (⟨#[]⟩ : ByteArray) l p else .mk 37 (⟨#[]⟩ : ByteArray) [] 0 from rfl]
  by_cases hs : nameT t = true
  · rw [if_pos hs, of2_eq]
    simp [hs, Bool.and_assoc]
    rfl
  · rw [if_neg hs, of2_eq]
    rw [Bool.not_eq_true] at hs
    simp [hs, twoT]

set_option maxRecDepth 100000 in
set_option maxHeartbeats 8000000 in
theorem uvar_any (d : Nat) (C : UCtx d) (v : Value) (n : Nd) (w : World) (hv : NodeW w v n) (hd : DLe (d + 1) n) :
    Calls Tryz.prog 35 #[v] w fun e w' => e = .returned (.bool (varT (tfns d) n)) ∧ Below w.heap.size w w' := by
  obtain ⟨A, cp, rfl, hC⟩ := hv.toC
  have HV := Lib.hid hv
  have HD := Lib.hid hd
  have hlen := hd.1.1
  have HT := Lib.hid C.typ
  have HE := Lib.hid C.expr
  clear hv hd C hC
  generalize tfns d = F at *
  obtain ⟨nk, nt, nl, np⟩ := n
  simp only [Nd.kind_mk, Nd.text_mk, Nd.kids_mk, Nd.pos_mk] at *
  have HR := Lib.hid (varT_eq F nk nt nl np)
  have hB := (Below.refl w.heap.size w).alloc (Nat.le_refl _) (.cells #[.int .i64 nk, .string nt, .slice A nl.length cp, .int .i64 np] 24)
  have hBn : Blk (w.alloc (.cells #[.int .i64 nk, .string nt, .slice A nl.length cp, .int .i64 np] 24)) w.heap.size 24 #[.int .i64 nk, .string nt, .slice A nl.length cp, .int .i64 np] := Blk.new w _ _
  by_cases h1 : nk = 5
  rotate_left
  · have hne : (nk != 5) = true := by simpa using h1
    have HX := Lib.hid (show varT F (.mk nk nt nl np) = false by rw [HR.out, decide_eq_false h1, Bool.false_and])
    clear h1
    go_enter Tryz.func35, Tryz.ntmps35
    go_wp2_with fail
    go_ret
    exact ⟨by rw [HX.out]; rfl, hB⟩
  subst h1
  cases h2 : nameT nt with
  | false =>
    have HX := Lib.hid (show varT F (.mk 5 nt nl np) = false by rw [HR.out, h2, Bool.false_and, Bool.and_false])
    go_enter Tryz.func35, Tryz.ntmps35
    go_wp2_with fail
    refine (uname_any _ _).mono ?_
    rw [h2]
    rintro e w1 ⟨rfl, hb1⟩
    go_wp2_with fail
    go_ret
    exact ⟨by rw [HX.out]; rfl, hB.trans (hb1.mono hB.size)⟩
  | true =>
    by_cases h3 : nl.length = 2
    rotate_left
    · have hne : ((nl.length : Int) != 2) = true := by rw [bne_iff_ne]; omega
      have HX := Lib.hid (show varT F (.mk 5 nt nl np) = false by rw [HR.out, twoT_ne _ _ h3, Bool.false_and, Bool.and_false, Bool.and_false])
      clear h3
      generalize nl.length = m at *
      go_enter Tryz.func35, Tryz.ntmps35
      go_wp2_with fail
      refine (uname_any _ _).mono ?_
      rw [h2]
      rintro e w1 ⟨rfl, hb1⟩
      have hBn1 := hBn.below hb1 hBn.lt
      obtain ⟨x0, x1, x2, x3, -, -, -, -⟩ := blk4 hBn1
      go_wp2_with fail
      go_ret
      exact ⟨by rw [HX.out]; rfl, hB.trans (hb1.mono hB.size)⟩
    obtain ⟨x, y, rfl⟩ := two_of h3
    have HR2 := Lib.hid (show varT F (.mk 5 nt [x, y] np) = (((emptyT x || F.typ x) && (emptyT y || F.expr y)) && (!(emptyT x) || !(emptyT y))) by rw [HR.out, h2]; simp [twoT, orT])
    have HV1 : NodeW w (.agg #[.int .i64 5, .string nt, .slice A 2 cp, .int .i64 np]) (.mk 5 nt [x, y] np) := HV.out
    have hB : Below w.heap.size w (w.alloc (.cells #[.int .i64 5, .string nt, .slice A 2 cp, .int .i64 np] 24)) := hB
    have hBn : Blk (w.alloc (.cells #[.int .i64 5, .string nt, .slice A 2 cp, .int .i64 np] 24)) w.heap.size 24 #[.int .i64 5, .string nt, .slice A 2 cp, .int .i64 np] := hBn
    obtain ⟨bx, ox, A1, c1, rfl, hx⟩ := kid_at HV1 0 (by simp)
    obtain ⟨bx', ox', A2, c2, e, hy⟩ := kid_at HV1 1 (by simp)
    injection e with e
    injection e with e1 e2
    subst e1 e2
    simp only [Nd.kids_mk, List.getElem_cons_zero, List.getElem_cons_succ, Nat.zero_mul, Nat.add_zero, Nat.one_mul] at hx hy
    have HX0 := Lib.hid hx
    have HY0 := Lib.hid hy
    have hdx := HD.out.kid (k := x) (by simp)
    have hdy := HD.out.kid (k := y) (by simp)
    have HNX := Lib.hid (fun w' (h : C4 w' bx ox x A1 c1) => nothing_any _ x w' h.2.2.2.2)
    have HNY := Lib.hid (fun w' (h : C4 w' bx (ox + 4) y A2 c2) => nothing_any _ y w' h.2.2.2.2)
    have HTX := Lib.hid (fun w' (h : C4 w' bx ox x A1 c1) => HT.out _ x w' h.2.2.2.2 hdx)
    have HEY := Lib.hid (fun w' (h : C4 w' bx (ox + 4) y A2 c2) => HE.out _ y w' h.2.2.2.2 hdy)
    clear hx hy HV1 HV h3 HR hdx hdy
    go_enter Tryz.func35, Tryz.ntmps35
    go_wp2_with fail
    refine (uname_any _ _).mono ?_
    rw [h2]
    rintro e w1 ⟨rfl, hb1⟩
    have hB1 := hB.trans (hb1.mono hB.size)
    have hBn1 := hBn.below hb1 hBn.lt
    obtain ⟨x0, x1, x2, x3, -, -, -, -⟩ := blk4 hBn1
    obtain ⟨p0, p1, p2, p3, -⟩ := HX0.out.below hB1
    obtain ⟨q0, q1, q2, q3, -⟩ := HY0.out.below hB1
    clear hB hBn hb1
    have hbl : bx < w1.heap.size := World.block_lt_of_cell? w1 _ p0
    have hwl : w.heap.size < w1.heap.size := hBn1.lt
    have n1 : w1.heap.size ≠ bx := by omega
    have n2 : w1.heap.size + 1 ≠ bx := by omega
    have n3 : w1.heap.size ≠ w.heap.size := by omega
    have n4 : w1.heap.size + 1 ≠ w.heap.size := by omega
    go_upto_region 3 with fail
    go_cut [3, 4] (fun s3 s4 wx => ∃ b3 b4, s3 = .pointer (some ⟨b3, 0, none⟩) ∧ s4 = .pointer (some ⟨b4, 0, none⟩) ∧ Blk wx b3 24 #[.int .i64 x.kind, .string x.text, .slice A1 x.kids.length c1, .int .i64 x.pos] ∧ Blk wx b4 24 #[.int .i64 y.kind, .string y.text, .slice A2 y.kids.length c2, .int .i64 y.pos] ∧ Below w.heap.size w wx)
    case first =>
      clear x0 x1 x3 HNX HNY HTX HEY HX0 HY0 HR2
      go_region_held3 (fun w' => w'.cell? ⟨w.heap.size, 2, none⟩ = some (.slice (some ⟨bx, ox, none⟩) 2 cp) ∧ w'.cell? ⟨bx, ox, none⟩ = some (.int .i64 x.kind) ∧ w'.cell? ⟨bx, ox + 1, none⟩ = some (.string x.text) ∧ w'.cell? ⟨bx, ox + 2, none⟩ = some (.slice A1 x.kids.length c1) ∧ w'.cell? ⟨bx, ox + 3, none⟩ = some (.int .i64 x.pos) ∧ w'.cell? ⟨bx, ox + 4, none⟩ = some (.int .i64 y.kind) ∧ w'.cell? ⟨bx, ox + 4 + 1, none⟩ = some (.string y.text) ∧ w'.cell? ⟨bx, ox + 4 + 2, none⟩ = some (.slice A2 y.kids.length c2) ∧ w'.cell? ⟨bx, ox + 4 + 3, none⟩ = some (.int .i64 y.pos)) (go_keep) (fail)
      all_goals
        go_wp2_with fail
        go_meet
        first
          | exact ⟨_, _, rfl, rfl, ((Blk.new w1 _ _).alloc _).drew, (Blk.new_at (by simp) _ _).drew, ((hB1.alloc hB1.size _).alloc (by have := hB1.size; simp; omega) _).drew⟩
          | exact ⟨_, _, rfl, rfl, (Blk.new_at (by simp) _ _).drew, ((Blk.new w1 _ _).alloc _).drew, ((hB1.alloc hB1.size _).alloc (by have := hB1.size; simp; omega) _).drew⟩
    case rest =>
      obtain ⟨b3, b4, rfl, rfl, hb3, hb4, hBw⟩ := hcut
      clear x0 x1 x2 x3 p0 p1 p2 p3 q0 q1 q2 q3 hB1 hBn1 n1 n2 n3 n4 hbl hwl
      have HX := Lib.hid HR2.out
      clear HR2
      obtain ⟨z0, z1, z2, z3, -, -, -, -⟩ := blk4 hb3
      obtain ⟨y0, y1, y2, y3, -, -, -, -⟩ := blk4 hb4
      cases g1 : emptyT x with
      | false =>
        rw [g1] at HNX HX
        clear g1
        cases g2 : F.typ x with
        | false =>
          rw [g2] at HTX HX
          clear g2
          go_wp2_with fail
          refine (HNX.out _ (HX0.out.below hBw)).mono ?_
          rintro e wk ⟨rfl, hbk⟩
          replace hb3 := hb3.below hbk hb3.lt
          replace hb4 := hb4.below hbk hb4.lt
          replace hBw := hBw.trans (hbk.mono hBw.size)
          clear z0 z1 z2 z3 y0 y1 y2 y3 hbk
          obtain ⟨z0, z1, z2, z3, -, -, -, -⟩ := blk4 hb3
          obtain ⟨y0, y1, y2, y3, -, -, -, -⟩ := blk4 hb4
          go_wp2_with fail
          refine (HTX.out _ (HX0.out.below hBw)).mono ?_
          rintro e wk ⟨rfl, hbk⟩
          replace hb3 := hb3.below hbk hb3.lt
          replace hb4 := hb4.below hbk hb4.lt
          replace hBw := hBw.trans (hbk.mono hBw.size)
          clear z0 z1 z2 z3 y0 y1 y2 y3 hbk
          obtain ⟨z0, z1, z2, z3, -, -, -, -⟩ := blk4 hb3
          obtain ⟨y0, y1, y2, y3, -, -, -, -⟩ := blk4 hb4
          go_wp2_with fail
          go_ret
          exact ⟨by rw [HX.out]; rfl, hBw⟩
        | true =>
          rw [g2] at HTX HX
          clear g2
          cases g3 : emptyT y with
          | false =>
            rw [g3] at HNY HX
            clear g3
            cases g4 : F.expr y with
            | false =>
              rw [g4] at HEY HX
              clear g4
              go_wp2_with fail
              refine (HNX.out _ (HX0.out.below hBw)).mono ?_
              rintro e wk ⟨rfl, hbk⟩
              replace hb3 := hb3.below hbk hb3.lt
              replace hb4 := hb4.below hbk hb4.lt
              replace hBw := hBw.trans (hbk.mono hBw.size)
              clear z0 z1 z2 z3 y0 y1 y2 y3 hbk
              obtain ⟨z0, z1, z2, z3, -, -, -, -⟩ := blk4 hb3
              obtain ⟨y0, y1, y2, y3, -, -, -, -⟩ := blk4 hb4
              go_wp2_with fail
              refine (HTX.out _ (HX0.out.below hBw)).mono ?_
              rintro e wk ⟨rfl, hbk⟩
              replace hb3 := hb3.below hbk hb3.lt
              replace hb4 := hb4.below hbk hb4.lt
              replace hBw := hBw.trans (hbk.mono hBw.size)
              clear z0 z1 z2 z3 y0 y1 y2 y3 hbk
              obtain ⟨z0, z1, z2, z3, -, -, -, -⟩ := blk4 hb3
              obtain ⟨y0, y1, y2, y3, -, -, -, -⟩ := blk4 hb4
              go_wp2_with fail
              refine (HNY.out _ (HY0.out.below hBw)).mono ?_
              rintro e wk ⟨rfl, hbk⟩
              replace hb3 := hb3.below hbk hb3.lt
              replace hb4 := hb4.below hbk hb4.lt
              replace hBw := hBw.trans (hbk.mono hBw.size)
              clear z0 z1 z2 z3 y0 y1 y2 y3 hbk
              obtain ⟨z0, z1, z2, z3, -, -, -, -⟩ := blk4 hb3
              obtain ⟨y0, y1, y2, y3, -, -, -, -⟩ := blk4 hb4
              go_wp2_with fail
              refine (HEY.out _ (HY0.out.below hBw)).mono ?_
              rintro e wk ⟨rfl, hbk⟩
              replace hb3 := hb3.below hbk hb3.lt
              replace hb4 := hb4.below hbk hb4.lt
              replace hBw := hBw.trans (hbk.mono hBw.size)
              clear z0 z1 z2 z3 y0 y1 y2 y3 hbk
              obtain ⟨z0, z1, z2, z3, -, -, -, -⟩ := blk4 hb3
              obtain ⟨y0, y1, y2, y3, -, -, -, -⟩ := blk4 hb4
              go_wp2_with fail
              go_ret
              exact ⟨by rw [HX.out]; rfl, hBw⟩
            | true =>
              rw [g4] at HEY HX
              clear g4
              go_wp2_with fail
              refine (HNX.out _ (HX0.out.below hBw)).mono ?_
              rintro e wk ⟨rfl, hbk⟩
              replace hb3 := hb3.below hbk hb3.lt
              replace hb4 := hb4.below hbk hb4.lt
              replace hBw := hBw.trans (hbk.mono hBw.size)
              clear z0 z1 z2 z3 y0 y1 y2 y3 hbk
              obtain ⟨z0, z1, z2, z3, -, -, -, -⟩ := blk4 hb3
              obtain ⟨y0, y1, y2, y3, -, -, -, -⟩ := blk4 hb4
              go_wp2_with fail
              refine (HTX.out _ (HX0.out.below hBw)).mono ?_
              rintro e wk ⟨rfl, hbk⟩
              replace hb3 := hb3.below hbk hb3.lt
              replace hb4 := hb4.below hbk hb4.lt
              replace hBw := hBw.trans (hbk.mono hBw.size)
              clear z0 z1 z2 z3 y0 y1 y2 y3 hbk
              obtain ⟨z0, z1, z2, z3, -, -, -, -⟩ := blk4 hb3
              obtain ⟨y0, y1, y2, y3, -, -, -, -⟩ := blk4 hb4
              go_wp2_with fail
              refine (HNY.out _ (HY0.out.below hBw)).mono ?_
              rintro e wk ⟨rfl, hbk⟩
              replace hb3 := hb3.below hbk hb3.lt
              replace hb4 := hb4.below hbk hb4.lt
              replace hBw := hBw.trans (hbk.mono hBw.size)
              clear z0 z1 z2 z3 y0 y1 y2 y3 hbk
              obtain ⟨z0, z1, z2, z3, -, -, -, -⟩ := blk4 hb3
              obtain ⟨y0, y1, y2, y3, -, -, -, -⟩ := blk4 hb4
              go_wp2_with fail
              refine (HEY.out _ (HY0.out.below hBw)).mono ?_
              rintro e wk ⟨rfl, hbk⟩
              replace hb3 := hb3.below hbk hb3.lt
              replace hb4 := hb4.below hbk hb4.lt
              replace hBw := hBw.trans (hbk.mono hBw.size)
              clear z0 z1 z2 z3 y0 y1 y2 y3 hbk
              obtain ⟨z0, z1, z2, z3, -, -, -, -⟩ := blk4 hb3
              obtain ⟨y0, y1, y2, y3, -, -, -, -⟩ := blk4 hb4
              go_wp2_with fail
              refine (HNX.out _ (HX0.out.below hBw)).mono ?_
              rintro e wk ⟨rfl, hbk⟩
              replace hb3 := hb3.below hbk hb3.lt
              replace hb4 := hb4.below hbk hb4.lt
              replace hBw := hBw.trans (hbk.mono hBw.size)
              clear z0 z1 z2 z3 y0 y1 y2 y3 hbk
              obtain ⟨z0, z1, z2, z3, -, -, -, -⟩ := blk4 hb3
              obtain ⟨y0, y1, y2, y3, -, -, -, -⟩ := blk4 hb4
              go_wp2_with fail
              go_ret
              exact ⟨by rw [HX.out]; rfl, hBw⟩
          | true =>
            rw [g3] at HNY HX
            clear g3
            go_wp2_with fail
            refine (HNX.out _ (HX0.out.below hBw)).mono ?_
            rintro e wk ⟨rfl, hbk⟩
            replace hb3 := hb3.below hbk hb3.lt
            replace hb4 := hb4.below hbk hb4.lt
            replace hBw := hBw.trans (hbk.mono hBw.size)
            clear z0 z1 z2 z3 y0 y1 y2 y3 hbk
            obtain ⟨z0, z1, z2, z3, -, -, -, -⟩ := blk4 hb3
            obtain ⟨y0, y1, y2, y3, -, -, -, -⟩ := blk4 hb4
            go_wp2_with fail
            refine (HTX.out _ (HX0.out.below hBw)).mono ?_
            rintro e wk ⟨rfl, hbk⟩
            replace hb3 := hb3.below hbk hb3.lt
            replace hb4 := hb4.below hbk hb4.lt
            replace hBw := hBw.trans (hbk.mono hBw.size)
            clear z0 z1 z2 z3 y0 y1 y2 y3 hbk
            obtain ⟨z0, z1, z2, z3, -, -, -, -⟩ := blk4 hb3
            obtain ⟨y0, y1, y2, y3, -, -, -, -⟩ := blk4 hb4
            go_wp2_with fail
            refine (HNY.out _ (HY0.out.below hBw)).mono ?_
            rintro e wk ⟨rfl, hbk⟩
            replace hb3 := hb3.below hbk hb3.lt
            replace hb4 := hb4.below hbk hb4.lt
            replace hBw := hBw.trans (hbk.mono hBw.size)
            clear z0 z1 z2 z3 y0 y1 y2 y3 hbk
            obtain ⟨z0, z1, z2, z3, -, -, -, -⟩ := blk4 hb3
            obtain ⟨y0, y1, y2, y3, -, -, -, -⟩ := blk4 hb4
            go_wp2_with fail
            refine (HNX.out _ (HX0.out.below hBw)).mono ?_
            rintro e wk ⟨rfl, hbk⟩
            replace hb3 := hb3.below hbk hb3.lt
            replace hb4 := hb4.below hbk hb4.lt
            replace hBw := hBw.trans (hbk.mono hBw.size)
            clear z0 z1 z2 z3 y0 y1 y2 y3 hbk
            obtain ⟨z0, z1, z2, z3, -, -, -, -⟩ := blk4 hb3
            obtain ⟨y0, y1, y2, y3, -, -, -, -⟩ := blk4 hb4
            go_wp2_with fail
            go_ret
            exact ⟨by rw [HX.out]; rfl, hBw⟩
      | true =>
        rw [g1] at HNX HX
        clear g1
        cases g3 : emptyT y with
        | false =>
          rw [g3] at HNY HX
          clear g3
          cases g4 : F.expr y with
          | false =>
            rw [g4] at HEY HX
            clear g4
            go_wp2_with fail
            refine (HNX.out _ (HX0.out.below hBw)).mono ?_
            rintro e wk ⟨rfl, hbk⟩
            replace hb3 := hb3.below hbk hb3.lt
            replace hb4 := hb4.below hbk hb4.lt
            replace hBw := hBw.trans (hbk.mono hBw.size)
            clear z0 z1 z2 z3 y0 y1 y2 y3 hbk
            obtain ⟨z0, z1, z2, z3, -, -, -, -⟩ := blk4 hb3
            obtain ⟨y0, y1, y2, y3, -, -, -, -⟩ := blk4 hb4
            go_wp2_with fail
            refine (HNY.out _ (HY0.out.below hBw)).mono ?_
            rintro e wk ⟨rfl, hbk⟩
            replace hb3 := hb3.below hbk hb3.lt
            replace hb4 := hb4.below hbk hb4.lt
            replace hBw := hBw.trans (hbk.mono hBw.size)
            clear z0 z1 z2 z3 y0 y1 y2 y3 hbk
            obtain ⟨z0, z1, z2, z3, -, -, -, -⟩ := blk4 hb3
            obtain ⟨y0, y1, y2, y3, -, -, -, -⟩ := blk4 hb4
            go_wp2_with fail
            refine (HEY.out _ (HY0.out.below hBw)).mono ?_
            rintro e wk ⟨rfl, hbk⟩
            replace hb3 := hb3.below hbk hb3.lt
            replace hb4 := hb4.below hbk hb4.lt
            replace hBw := hBw.trans (hbk.mono hBw.size)
            clear z0 z1 z2 z3 y0 y1 y2 y3 hbk
            obtain ⟨z0, z1, z2, z3, -, -, -, -⟩ := blk4 hb3
            obtain ⟨y0, y1, y2, y3, -, -, -, -⟩ := blk4 hb4
            go_wp2_with fail
            go_ret
            exact ⟨by rw [HX.out]; rfl, hBw⟩
          | true =>
            rw [g4] at HEY HX
            clear g4
            go_wp2_with fail
            refine (HNX.out _ (HX0.out.below hBw)).mono ?_
            rintro e wk ⟨rfl, hbk⟩
            replace hb3 := hb3.below hbk hb3.lt
            replace hb4 := hb4.below hbk hb4.lt
            replace hBw := hBw.trans (hbk.mono hBw.size)
            clear z0 z1 z2 z3 y0 y1 y2 y3 hbk
            obtain ⟨z0, z1, z2, z3, -, -, -, -⟩ := blk4 hb3
            obtain ⟨y0, y1, y2, y3, -, -, -, -⟩ := blk4 hb4
            go_wp2_with fail
            refine (HNY.out _ (HY0.out.below hBw)).mono ?_
            rintro e wk ⟨rfl, hbk⟩
            replace hb3 := hb3.below hbk hb3.lt
            replace hb4 := hb4.below hbk hb4.lt
            replace hBw := hBw.trans (hbk.mono hBw.size)
            clear z0 z1 z2 z3 y0 y1 y2 y3 hbk
            obtain ⟨z0, z1, z2, z3, -, -, -, -⟩ := blk4 hb3
            obtain ⟨y0, y1, y2, y3, -, -, -, -⟩ := blk4 hb4
            go_wp2_with fail
            refine (HEY.out _ (HY0.out.below hBw)).mono ?_
            rintro e wk ⟨rfl, hbk⟩
            replace hb3 := hb3.below hbk hb3.lt
            replace hb4 := hb4.below hbk hb4.lt
            replace hBw := hBw.trans (hbk.mono hBw.size)
            clear z0 z1 z2 z3 y0 y1 y2 y3 hbk
            obtain ⟨z0, z1, z2, z3, -, -, -, -⟩ := blk4 hb3
            obtain ⟨y0, y1, y2, y3, -, -, -, -⟩ := blk4 hb4
            go_wp2_with fail
            refine (HNX.out _ (HX0.out.below hBw)).mono ?_
            rintro e wk ⟨rfl, hbk⟩
            replace hb3 := hb3.below hbk hb3.lt
            replace hb4 := hb4.below hbk hb4.lt
            replace hBw := hBw.trans (hbk.mono hBw.size)
            clear z0 z1 z2 z3 y0 y1 y2 y3 hbk
            obtain ⟨z0, z1, z2, z3, -, -, -, -⟩ := blk4 hb3
            obtain ⟨y0, y1, y2, y3, -, -, -, -⟩ := blk4 hb4
            go_wp2_with fail
            refine (HNY.out _ (HY0.out.below hBw)).mono ?_
            rintro e wk ⟨rfl, hbk⟩
            replace hb3 := hb3.below hbk hb3.lt
            replace hb4 := hb4.below hbk hb4.lt
            replace hBw := hBw.trans (hbk.mono hBw.size)
            clear z0 z1 z2 z3 y0 y1 y2 y3 hbk
            obtain ⟨z0, z1, z2, z3, -, -, -, -⟩ := blk4 hb3
            obtain ⟨y0, y1, y2, y3, -, -, -, -⟩ := blk4 hb4
            go_wp2_with fail
            go_ret
            exact ⟨by rw [HX.out]; rfl, hBw⟩
        | true =>
          rw [g3] at HNY HX
          clear g3
          go_wp2_with fail
          refine (HNX.out _ (HX0.out.below hBw)).mono ?_
          rintro e wk ⟨rfl, hbk⟩
          replace hb3 := hb3.below hbk hb3.lt
          replace hb4 := hb4.below hbk hb4.lt
          replace hBw := hBw.trans (hbk.mono hBw.size)
          clear z0 z1 z2 z3 y0 y1 y2 y3 hbk
          obtain ⟨z0, z1, z2, z3, -, -, -, -⟩ := blk4 hb3
          obtain ⟨y0, y1, y2, y3, -, -, -, -⟩ := blk4 hb4
          go_wp2_with fail
          refine (HNY.out _ (HY0.out.below hBw)).mono ?_
          rintro e wk ⟨rfl, hbk⟩
          replace hb3 := hb3.below hbk hb3.lt
          replace hb4 := hb4.below hbk hb4.lt
          replace hBw := hBw.trans (hbk.mono hBw.size)
          clear z0 z1 z2 z3 y0 y1 y2 y3 hbk
          obtain ⟨z0, z1, z2, z3, -, -, -, -⟩ := blk4 hb3
          obtain ⟨y0, y1, y2, y3, -, -, -, -⟩ := blk4 hb4
          go_wp2_with fail
          refine (HNX.out _ (HX0.out.below hBw)).mono ?_
          rintro e wk ⟨rfl, hbk⟩
          replace hb3 := hb3.below hbk hb3.lt
          replace hb4 := hb4.below hbk hb4.lt
          replace hBw := hBw.trans (hbk.mono hBw.size)
          clear z0 z1 z2 z3 y0 y1 y2 y3 hbk
          obtain ⟨z0, z1, z2, z3, -, -, -, -⟩ := blk4 hb3
          obtain ⟨y0, y1, y2, y3, -, -, -, -⟩ := blk4 hb4
          go_wp2_with fail
          refine (HNY.out _ (HY0.out.below hBw)).mono ?_
          rintro e wk ⟨rfl, hbk⟩
          replace hb3 := hb3.below hbk hb3.lt
          replace hb4 := hb4.below hbk hb4.lt
          replace hBw := hBw.trans (hbk.mono hBw.size)
          clear z0 z1 z2 z3 y0 y1 y2 y3 hbk
          obtain ⟨z0, z1, z2, z3, -, -, -, -⟩ := blk4 hb3
          obtain ⟨y0, y1, y2, y3, -, -, -, -⟩ := blk4 hb4
          go_wp2_with fail
          go_ret
          exact ⟨by rw [HX.out]; rfl, hBw⟩
end Go.Proofs.YtnalfjaojcahhaaGreatDoor
