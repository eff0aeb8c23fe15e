/-
  Questions on texts: letter, figure, Word, Name. By an AI agent.
  Questions on texts: token.Name, lit.Plain, tree's name, bound and their kin. By an AI agent.
  tree's small questions: empty, named, or. By an AI agent.
  tree's all, list; the library's ContainsFunc at nodes. By an AI agent.
-/
import Derived.Test.YtnalfjaojcahhaaGreatDoorJ06
import Derived.Laws.RangeAny
import Derived.Lib.RuneCount
import Derived.Laws.Entries
namespace Go.Proofs.YtnalfjaojcahhaaGreatDoor
open Go.RowKit Go.Lib Go.Proofs
attribute [local go_sem ↓] Go.wp_at_zero Go.wp_at_succ

/-- A rune is a letter; a figure. -/
def runeLetter (c : Int) : Bool := c == 95 || ((decide (97 ≤ c) && decide (c ≤ 122)) || (decide (65 ≤ c) && decide (c ≤ 90)))
def runeFigure (c : Int) : Bool := decide (48 ≤ c) && decide (c ≤ 57)

theorem letter_any (c : Int) (w : World) : Calls Tryz.prog 158 #[.int .i32 c] w fun e w' => e = .returned (.bool (runeLetter c)) ∧ w = w' := by
  unfold runeLetter
  cases h1 : (c == 95) <;> cases h2 : decide (97 ≤ c) <;> cases h3 : decide (c ≤ 122) <;> cases h4 : decide (65 ≤ c) <;> cases h5 : decide (c ≤ 90)
  all_goals
    go_enter Tryz.func158, Tryz.ntmps158
    go_wp2_with fail
    go_ret
    exact ⟨rfl, rfl⟩
theorem figure_any (c : Int) (w : World) : Calls Tryz.prog 159 #[.int .i32 c] w fun e w' => e = .returned (.bool (runeFigure c)) ∧ w = w' := by
  unfold runeFigure
  cases h1 : decide (48 ≤ c) <;> cases h2 : decide (c ≤ 57)
  all_goals
    go_enter Tryz.func159, Tryz.ntmps159
    go_wp2_with fail
    go_ret
    exact ⟨rfl, rfl⟩

theorem ne_list {s x : ByteArray} (h : ¬ s = x) : (s.toList == x.data.toList) = false := by
  rw [← ByteArray.toList_eq, toList_beq]
  simpa using h
set_option maxHeartbeats 4000000 in
theorem word_any (s : ByteArray) (w : World) : Calls Tryz.prog 160 #[.string s] w fun e w' => e = .returned (.int .i64 (wordN s)) ∧ w = w' := by
  by_cases h0 : s = (⟨#[98, 114, 101, 97, 107]⟩ : ByteArray)
  · subst h0
    rw [show wordN (⟨#[98, 114, 101, 97, 107]⟩ : ByteArray) = 1 by decide +kernel]
    go_enter Tryz.func160, Tryz.ntmps160
    go_wp2_with fail
    go_ret
    exact ⟨rfl, rfl⟩
  by_cases h1 : s = (⟨#[99, 111, 110, 116, 105, 110, 117, 101]⟩ : ByteArray)
  · subst h1
    rw [show wordN (⟨#[99, 111, 110, 116, 105, 110, 117, 101]⟩ : ByteArray) = 1 by decide +kernel]
    clear h0
    go_enter Tryz.func160, Tryz.ntmps160
    go_wp2_with fail
    go_ret
    exact ⟨rfl, rfl⟩
  by_cases h2 : s = (⟨#[101, 108, 115, 101]⟩ : ByteArray)
  · subst h2
    rw [show wordN (⟨#[101, 108, 115, 101]⟩ : ByteArray) = 1 by decide +kernel]
    clear h0 h1
    go_enter Tryz.func160, Tryz.ntmps160
    go_wp2_with fail
    go_ret
    exact ⟨rfl, rfl⟩
  by_cases h3 : s = (⟨#[102, 111, 114]⟩ : ByteArray)
  · subst h3
    rw [show wordN (⟨#[102, 111, 114]⟩ : ByteArray) = 1 by decide +kernel]
    clear h0 h1 h2
    go_enter Tryz.func160, Tryz.ntmps160
    go_wp2_with fail
    go_ret
    exact ⟨rfl, rfl⟩
  by_cases h4 : s = (⟨#[102, 117, 110, 99]⟩ : ByteArray)
  · subst h4
    rw [show wordN (⟨#[102, 117, 110, 99]⟩ : ByteArray) = 1 by decide +kernel]
    clear h0 h1 h2 h3
    go_enter Tryz.func160, Tryz.ntmps160
    go_wp2_with fail
    go_ret
    exact ⟨rfl, rfl⟩
  by_cases h5 : s = (⟨#[105, 102]⟩ : ByteArray)
  · subst h5
    rw [show wordN (⟨#[105, 102]⟩ : ByteArray) = 1 by decide +kernel]
    clear h0 h1 h2 h3 h4
    go_enter Tryz.func160, Tryz.ntmps160
    go_wp2_with fail
    go_ret
    exact ⟨rfl, rfl⟩
  by_cases h6 : s = (⟨#[105, 109, 112, 111, 114, 116]⟩ : ByteArray)
  · subst h6
    rw [show wordN (⟨#[105, 109, 112, 111, 114, 116]⟩ : ByteArray) = 1 by decide +kernel]
    clear h0 h1 h2 h3 h4 h5
    go_enter Tryz.func160, Tryz.ntmps160
    go_wp2_with fail
    go_ret
    exact ⟨rfl, rfl⟩
  by_cases h7 : s = (⟨#[105, 110, 116, 101, 114, 102, 97, 99, 101]⟩ : ByteArray)
  · subst h7
    rw [show wordN (⟨#[105, 110, 116, 101, 114, 102, 97, 99, 101]⟩ : ByteArray) = 1 by decide +kernel]
    clear h0 h1 h2 h3 h4 h5 h6
    go_enter Tryz.func160, Tryz.ntmps160
    go_wp2_with fail
    go_ret
    exact ⟨rfl, rfl⟩
  by_cases h8 : s = (⟨#[112, 97, 99, 107, 97, 103, 101]⟩ : ByteArray)
  · subst h8
    rw [show wordN (⟨#[112, 97, 99, 107, 97, 103, 101]⟩ : ByteArray) = 1 by decide +kernel]
    clear h0 h1 h2 h3 h4 h5 h6 h7
    go_enter Tryz.func160, Tryz.ntmps160
    go_wp2_with fail
    go_ret
    exact ⟨rfl, rfl⟩
  by_cases h9 : s = (⟨#[114, 97, 110, 103, 101]⟩ : ByteArray)
  · subst h9
    rw [show wordN (⟨#[114, 97, 110, 103, 101]⟩ : ByteArray) = 1 by decide +kernel]
    clear h0 h1 h2 h3 h4 h5 h6 h7 h8
    go_enter Tryz.func160, Tryz.ntmps160
    go_wp2_with fail
    go_ret
    exact ⟨rfl, rfl⟩
  by_cases h10 : s = (⟨#[114, 101, 116, 117, 114, 110]⟩ : ByteArray)
  · subst h10
    rw [show wordN (⟨#[114, 101, 116, 117, 114, 110]⟩ : ByteArray) = 1 by decide +kernel]
    clear h0 h1 h2 h3 h4 h5 h6 h7 h8 h9
    go_enter Tryz.func160, Tryz.ntmps160
    go_wp2_with fail
    go_ret
    exact ⟨rfl, rfl⟩
  by_cases h11 : s = (⟨#[115, 116, 114, 117, 99, 116]⟩ : ByteArray)
  · subst h11
    rw [show wordN (⟨#[115, 116, 114, 117, 99, 116]⟩ : ByteArray) = 1 by decide +kernel]
    clear h0 h1 h2 h3 h4 h5 h6 h7 h8 h9 h10
    go_enter Tryz.func160, Tryz.ntmps160
    go_wp2_with fail
    go_ret
    exact ⟨rfl, rfl⟩
  by_cases h12 : s = (⟨#[116, 121, 112, 101]⟩ : ByteArray)
  · subst h12
    rw [show wordN (⟨#[116, 121, 112, 101]⟩ : ByteArray) = 1 by decide +kernel]
    clear h0 h1 h2 h3 h4 h5 h6 h7 h8 h9 h10 h11
    go_enter Tryz.func160, Tryz.ntmps160
    go_wp2_with fail
    go_ret
    exact ⟨rfl, rfl⟩
  by_cases h13 : s = (⟨#[118, 97, 114]⟩ : ByteArray)
  · subst h13
    rw [show wordN (⟨#[118, 97, 114]⟩ : ByteArray) = 1 by decide +kernel]
    clear h0 h1 h2 h3 h4 h5 h6 h7 h8 h9 h10 h11 h12
    go_enter Tryz.func160, Tryz.ntmps160
    go_wp2_with fail
    go_ret
    exact ⟨rfl, rfl⟩
  by_cases h14 : s = (⟨#[99, 97, 115, 101]⟩ : ByteArray)
  · subst h14
    rw [show wordN (⟨#[99, 97, 115, 101]⟩ : ByteArray) = 2 by decide +kernel]
    clear h0 h1 h2 h3 h4 h5 h6 h7 h8 h9 h10 h11 h12 h13
    go_enter Tryz.func160, Tryz.ntmps160
    go_wp2_with fail
    go_ret
    exact ⟨rfl, rfl⟩
  by_cases h15 : s = (⟨#[99, 104, 97, 110]⟩ : ByteArray)
  · subst h15
    rw [show wordN (⟨#[99, 104, 97, 110]⟩ : ByteArray) = 2 by decide +kernel]
    clear h0 h1 h2 h3 h4 h5 h6 h7 h8 h9 h10 h11 h12 h13 h14
    go_enter Tryz.func160, Tryz.ntmps160
    go_wp2_with fail
    go_ret
    exact ⟨rfl, rfl⟩
  by_cases h16 : s = (⟨#[99, 111, 110, 115, 116]⟩ : ByteArray)
  · subst h16
    rw [show wordN (⟨#[99, 111, 110, 115, 116]⟩ : ByteArray) = 2 by decide +kernel]
    clear h0 h1 h2 h3 h4 h5 h6 h7 h8 h9 h10 h11 h12 h13 h14 h15
    go_enter Tryz.func160, Tryz.ntmps160
    go_wp2_with fail
    go_ret
    exact ⟨rfl, rfl⟩
  by_cases h17 : s = (⟨#[100, 101, 102, 97, 117, 108, 116]⟩ : ByteArray)
  · subst h17
    rw [show wordN (⟨#[100, 101, 102, 97, 117, 108, 116]⟩ : ByteArray) = 2 by decide +kernel]
    clear h0 h1 h2 h3 h4 h5 h6 h7 h8 h9 h10 h11 h12 h13 h14 h15 h16
    go_enter Tryz.func160, Tryz.ntmps160
    go_wp2_with fail
    go_ret
    exact ⟨rfl, rfl⟩
  by_cases h18 : s = (⟨#[100, 101, 102, 101, 114]⟩ : ByteArray)
  · subst h18
    rw [show wordN (⟨#[100, 101, 102, 101, 114]⟩ : ByteArray) = 2 by decide +kernel]
    clear h0 h1 h2 h3 h4 h5 h6 h7 h8 h9 h10 h11 h12 h13 h14 h15 h16 h17
    go_enter Tryz.func160, Tryz.ntmps160
    go_wp2_with fail
    go_ret
    exact ⟨rfl, rfl⟩
  by_cases h19 : s = (⟨#[102, 97, 108, 108, 116, 104, 114, 111, 117, 103, 104]⟩ : ByteArray)
  · subst h19
    rw [show wordN (⟨#[102, 97, 108, 108, 116, 104, 114, 111, 117, 103, 104]⟩ : ByteArray) = 2 by decide +kernel]
    clear h0 h1 h2 h3 h4 h5 h6 h7 h8 h9 h10 h11 h12 h13 h14 h15 h16 h17 h18
    go_enter Tryz.func160, Tryz.ntmps160
    go_wp2_with fail
    go_ret
    exact ⟨rfl, rfl⟩
  by_cases h20 : s = (⟨#[103, 111]⟩ : ByteArray)
  · subst h20
    rw [show wordN (⟨#[103, 111]⟩ : ByteArray) = 2 by decide +kernel]
    clear h0 h1 h2 h3 h4 h5 h6 h7 h8 h9 h10 h11 h12 h13 h14 h15 h16 h17 h18 h19
    go_enter Tryz.func160, Tryz.ntmps160
    go_wp2_with fail
    go_ret
    exact ⟨rfl, rfl⟩
  by_cases h21 : s = (⟨#[103, 111, 116, 111]⟩ : ByteArray)
  · subst h21
    rw [show wordN (⟨#[103, 111, 116, 111]⟩ : ByteArray) = 2 by decide +kernel]
    clear h0 h1 h2 h3 h4 h5 h6 h7 h8 h9 h10 h11 h12 h13 h14 h15 h16 h17 h18 h19 h20
    go_enter Tryz.func160, Tryz.ntmps160
    go_wp2_with fail
    go_ret
    exact ⟨rfl, rfl⟩
  by_cases h22 : s = (⟨#[109, 97, 112]⟩ : ByteArray)
  · subst h22
    rw [show wordN (⟨#[109, 97, 112]⟩ : ByteArray) = 2 by decide +kernel]
    clear h0 h1 h2 h3 h4 h5 h6 h7 h8 h9 h10 h11 h12 h13 h14 h15 h16 h17 h18 h19 h20 h21
    go_enter Tryz.func160, Tryz.ntmps160
    go_wp2_with fail
    go_ret
    exact ⟨rfl, rfl⟩
  by_cases h23 : s = (⟨#[115, 101, 108, 101, 99, 116]⟩ : ByteArray)
  · subst h23
    rw [show wordN (⟨#[115, 101, 108, 101, 99, 116]⟩ : ByteArray) = 2 by decide +kernel]
    clear h0 h1 h2 h3 h4 h5 h6 h7 h8 h9 h10 h11 h12 h13 h14 h15 h16 h17 h18 h19 h20 h21 h22
    go_enter Tryz.func160, Tryz.ntmps160
    go_wp2_with fail
    go_ret
    exact ⟨rfl, rfl⟩
  by_cases h24 : s = (⟨#[115, 119, 105, 116, 99, 104]⟩ : ByteArray)
  · subst h24
    rw [show wordN (⟨#[115, 119, 105, 116, 99, 104]⟩ : ByteArray) = 2 by decide +kernel]
    clear h0 h1 h2 h3 h4 h5 h6 h7 h8 h9 h10 h11 h12 h13 h14 h15 h16 h17 h18 h19 h20 h21 h22 h23
    go_enter Tryz.func160, Tryz.ntmps160
    go_wp2_with fail
    go_ret
    exact ⟨rfl, rfl⟩
  have hz : wordN s = 0 := by simp only [wordN, words1, words2, List.any_cons, List.any_nil, h0, h1, h2, h3, h4, h5, h6, h7, h8, h9, h10, h11, h12, h13, h14, h15, h16, h17, h18, h19, h20, h21, h22, h23, h24, decide_false, Bool.or_false, Bool.false_eq_true, if_false]
  have q0 : (s.toList == [98, 114, 101, 97, 107]) = false := ne_list h0
  have q1 : (s.toList == [99, 111, 110, 116, 105, 110, 117, 101]) = false := ne_list h1
  have q2 : (s.toList == [101, 108, 115, 101]) = false := ne_list h2
  have q3 : (s.toList == [102, 111, 114]) = false := ne_list h3
  have q4 : (s.toList == [102, 117, 110, 99]) = false := ne_list h4
  have q5 : (s.toList == [105, 102]) = false := ne_list h5
  have q6 : (s.toList == [105, 109, 112, 111, 114, 116]) = false := ne_list h6
  have q7 : (s.toList == [105, 110, 116, 101, 114, 102, 97, 99, 101]) = false := ne_list h7
  have q8 : (s.toList == [112, 97, 99, 107, 97, 103, 101]) = false := ne_list h8
  have q9 : (s.toList == [114, 97, 110, 103, 101]) = false := ne_list h9
  have q10 : (s.toList == [114, 101, 116, 117, 114, 110]) = false := ne_list h10
  have q11 : (s.toList == [115, 116, 114, 117, 99, 116]) = false := ne_list h11
  have q12 : (s.toList == [116, 121, 112, 101]) = false := ne_list h12
  have q13 : (s.toList == [118, 97, 114]) = false := ne_list h13
  have q14 : (s.toList == [99, 97, 115, 101]) = false := ne_list h14
  have q15 : (s.toList == [99, 104, 97, 110]) = false := ne_list h15
  have q16 : (s.toList == [99, 111, 110, 115, 116]) = false := ne_list h16
  have q17 : (s.toList == [100, 101, 102, 97, 117, 108, 116]) = false := ne_list h17
  have q18 : (s.toList == [100, 101, 102, 101, 114]) = false := ne_list h18
  have q19 : (s.toList == [102, 97, 108, 108, 116, 104, 114, 111, 117, 103, 104]) = false := ne_list h19
  have q20 : (s.toList == [103, 111]) = false := ne_list h20
  have q21 : (s.toList == [103, 111, 116, 111]) = false := ne_list h21
  have q22 : (s.toList == [109, 97, 112]) = false := ne_list h22
  have q23 : (s.toList == [115, 101, 108, 101, 99, 116]) = false := ne_list h23
  have q24 : (s.toList == [115, 119, 105, 116, 99, 104]) = false := ne_list h24
  rw [hz]
  clear hz h0 h1 h2 h3 h4 h5 h6 h7 h8 h9 h10 h11 h12 h13 h14 h15 h16 h17 h18 h19 h20 h21 h22 h23 h24
  go_enter Tryz.func160, Tryz.ntmps160
  go_wp2_with fail
  go_ret
  exact ⟨rfl, rfl⟩
end Go.Proofs.YtnalfjaojcahhaaGreatDoor
namespace Go.Proofs.YtnalfjaojcahhaaGreatDoor
open Go.RowKit Go.Lib Go.Proofs
attribute [local go_sem ↓] Go.wp_at_zero Go.wp_at_succ

theorem iterAt_below {w wr : World} {b : Nat} {s : ByteArray} {k : Nat} {B : Nat} (h : Below B w wr) (hb : B ≤ b) : Below B w (wr.iterAt b s k) :=
  ⟨h.os, h.tape, h.output, by rw [iterAt_size]; exact h.size, fun j hj => (iterAt_other wr _ _ s _ (by omega)).trans (h.block j hj)⟩
theorem decode_pos (s : ByteArray) (i : Nat) (h : i < s.size) : 1 ≤ (Utf8.decode s i).2 ∧ i + (Utf8.decode s i).2 ≤ s.size := by
  simp only [Utf8.decode]
  repeat' split
  all_goals simp_all
  all_goals omega

/-- A byte of a name. -/
def nmOk (s : ByteArray) (j : Nat) : Bool := runeLetter ((s.data.toList.getD j 0).toNat : Int) || (decide (0 < j) && runeFigure ((s.data.toList.getD j 0).toNat : Int))
theorem letterB_rune (c : UInt8) : letterB c = runeLetter (c.toNat : Int) := by
  unfold letterB runeLetter
  rw [Bool.eq_iff_iff]
  simp [UInt8.le_iff_toNat_le, ← UInt8.toNat_inj]
  omega
theorem figureB_rune (c : UInt8) : figureB c = runeFigure (c.toNat : Int) := by
  unfold figureB runeFigure
  rw [Bool.eq_iff_iff]
  simp [UInt8.le_iff_toNat_le]
  omega
theorem nameChars_iff (l : List UInt8) : nameChars l = true ↔ ∀ j, j < l.length → (runeLetter ((l.getD j 0).toNat : Int) || (decide (0 < j) && runeFigure ((l.getD j 0).toNat : Int))) = true := by
  cases l with
  | nil => simp [nameChars]
  | cons c r =>
    unfold nameChars
    rw [Bool.and_eq_true, List.all_eq_true]
    constructor
    · rintro ⟨h1, h2⟩ j hj
      cases j with
      | zero => simp [← letterB_rune, h1]
      | succ j =>
        have hj' : j < r.length := by simpa using hj
        have := h2 r[j] (List.getElem_mem _)
        rw [letterB_rune, figureB_rune] at this
        simpa [hj'] using this
    · intro h
      refine ⟨by have := h 0 (by simp); simpa [← letterB_rune] using this, fun x hx => ?_⟩
      obtain ⟨j, hj, rfl⟩ := List.mem_iff_getElem.1 hx
      have := h (j + 1) (by simpa using hj)
      rw [letterB_rune, figureB_rune]
      simpa [hj] using this

theorem runeLetter_high {c : Int} (h : 128 ≤ c) : runeLetter c = false := by
  unfold runeLetter
  have h1 : (c == 95) = false := by simp; omega
  have h2 : decide (c ≤ 122) = false := by simp; omega
  have h3 : decide (c ≤ 90) = false := by simp; omega
  rw [h1, h2, h3]; simp
theorem runeFigure_high {c : Int} (h : 128 ≤ c) : runeFigure c = false := by
  unfold runeFigure
  have h3 : decide (c ≤ 57) = false := by simp; omega
  rw [h3]; simp
/-- What a range over a text gives at a byte: the byte itself, or something great. -/
theorem decode_cases (s : ByteArray) (i : Nat) (h : i < s.size) : (Utf8.decode s i = ((s.data.toList.getD i 0).toNat, 1) ∧ (s.data.toList.getD i 0).toNat < 128) ∨ (128 ≤ (Utf8.decode s i).1 ∧ 128 ≤ (s.data.toList.getD i 0).toNat) := by
  have e : s.data.toList.getD i 0 = s[i] := by
    rw [List.getD_eq_getElem?_getD, List.getElem?_eq_getElem (by simpa using h)]
    rfl
  rw [e]
  rcases Nat.lt_or_ge s[i].toNat 128 with ha | ha
  · exact .inl ⟨decode_ascii s i h ha, ha⟩
  · exact .inr ⟨(decode_high s i h ha).1, ha⟩

/-- What Name asks, at a rune. -/
def nmRune (i : Nat) (c : Int) : Bool := runeLetter c || (decide (0 < i) && runeFigure c)

set_option maxHeartbeats 2000000 in
theorem tokName_any (s : ByteArray) (w : World) : Calls Tryz.prog 100 #[.string s] w fun e w' => e = .returned (.bool (tokName s)) ∧ Below w.heap.size w w' := by
  have hT : tokName s = (nameChars s.data.toList && (!s.toList.isEmpty && (wordN s == 0))) := by
    unfold tokName
    rw [isEmpty_dec, beq_dec]
    congr 2
    rw [Bool.eq_iff_iff]
    simp
  have hN := nameChars_iff s.data.toList
  rw [hT]
  generalize nameChars s.data.toList = nc at *
  have HN := Lib.hid hN
  clear hT hN
  have i1 := World.iter_heap w s 0
  have i2 : Below w.heap.size w (w.iter s 0) := (Below.refl _ w).alloc (Nat.le_refl _) _
  go_enter Tryz.func100, Tryz.ntmps100
  go_wp2_with fail
  go_loopg [3, 4, 7, 8] s.size (fun g _ _ _ _ wr => ∃ i : Nat, i ≤ s.size ∧ s.size - i ≤ g ∧ wr.heap[w.heap.size]? = some (.stringIter s i) ∧ Below w.heap.size w wr ∧ (∀ j, j < i → nmOk s j = true))
  case atStart => exact ⟨0, Nat.zero_le _, by omega, i1, i2, fun j hj => by omega⟩
  case round =>
    clear i1 i2
    obtain ⟨i, hi, hg, hit, hB, hall⟩ := hrel
    have HIT := Lib.hid hit
    have HA := Lib.hid hall
    clear hit hall
    by_cases hlt : i < s.size
    · have hw := decode_pos s i hlt
      have hdc := decode_cases s i hlt
      have hnext := fun ty => run_next_any_at (P := Tryz.prog) wr w.heap.size s i ty HIT.out hlt
      have hok : nmOk s i = nmRune i ((s.data.toList.getD i 0).toNat : Int) := rfl
      generalize hb : (s.data.toList.getD i 0).toNat = b at *
      generalize hd : Utf8.decode s i = q at *
      obtain ⟨r, k⟩ := q
      simp only at hw hnext hdc
      have hbad : nmRune i (r : Int) = nmRune i (b : Int) ∧ (nmRune i (r : Int) = true → k = 1) := by
        rcases hdc with ⟨e, _⟩ | ⟨h1, h2⟩
        · injection e with e1 e2
          subst e1 e2
          exact ⟨rfl, fun _ => rfl⟩
        · unfold nmRune
          rw [runeLetter_high (by omega), runeLetter_high (by omega), runeFigure_high (by omega), runeFigure_high (by omega)]
          exact ⟨rfl, by simp⟩
      have HOK := Lib.hid hok
      have HBAD := Lib.hid hbad
      have j1 := iterAt_heap wr w.heap.size s i (i + k) HIT.out
      have j2 : Below w.heap.size w (wr.iterAt w.heap.size s (i + k)) := iterAt_below hB (Nat.le_refl _)
      generalize wr.iterAt w.heap.size s (i + k) = W1 at hnext j1 j2
      have J1 := Lib.hid j1
      clear hok hbad hdc j1 hd hb
      have hfin : nmRune i (r : Int) = false → nc = false := by
        intro hf
        cases hn : nc with
        | false => rfl
        | true =>
          have := (HN.out.1 hn) i (by simpa using hlt)
          rw [show (runeLetter ((s.data.toList.getD i 0).toNat : Int) || (decide (0 < i) && runeFigure ((s.data.toList.getD i 0).toNat : Int))) = nmOk s i from rfl, HOK.out, ← HBAD.out.1, hf] at this
          cases this
      have HFIN := Lib.hid hfin
      have hgo : nmRune i (r : Int) = true → k = 1 ∧ ∀ j, j < i + k → nmOk s j = true := by
        intro hf
        have hk := HBAD.out.2 hf
        refine ⟨hk, fun j hj => ?_⟩
        by_cases e : j = i
        · subst e; rw [HOK.out, ← HBAD.out.1, hf]
        · exact HA.out j (by omega)
      have HGO := Lib.hid hgo
      clear hfin hgo HBAD HOK HA
      unfold nmRune at HFIN HGO
      cases hL : runeLetter (r : Int) with
      | true =>
        obtain ⟨_, hnew⟩ := HGO.out (by rw [hL]; rfl)
        have HNEW := Lib.hid hnew
        clear hnew
        go_wp2_with fail
        refine (letter_any _ _).mono ?_
        rw [hL]
        rintro e w1 ⟨rfl, rfl⟩
        go_wp2_with fail
        go_roundg (s.size - (i + k))
        case measure => omega
        case rel => exact ⟨i + k, hw.2, Nat.le_refl _, J1.out, j2, HNEW.out⟩
      | false =>
        by_cases hz : i = 0
        · have HX := Lib.hid (HFIN.out (by rw [hL, hz]; rfl))
          have hz1 : ((i : Int) == 0) = true := by simp [hz]
          clear hz
          go_wp2_with fail
          refine (letter_any _ _).mono ?_
          rw [hL]
          rintro e w1 ⟨rfl, rfl⟩
          go_wp2_with fail
          go_ret
          exact ⟨by rw [HX.out]; rfl, j2⟩
        · have hz1 : ((i : Int) == 0) = false := by simp; omega
          have hz2 : decide (0 < i) = true := by simp; omega
          cases hF : runeFigure (r : Int) with
          | true =>
            obtain ⟨_, hnew⟩ := HGO.out (by rw [hL, hF, hz2]; rfl)
            have HNEW := Lib.hid hnew
            clear hnew hz2 hz
            go_wp2_with fail
            refine (letter_any _ _).mono ?_
            rw [hL]
            rintro e w1 ⟨rfl, rfl⟩
            go_wp2_with fail
            refine (figure_any _ _).mono ?_
            rw [hF]
            rintro e w1 ⟨rfl, rfl⟩
            go_wp2_with fail
            go_roundg (s.size - (i + k))
            case measure => omega
            case rel => exact ⟨i + k, hw.2, Nat.le_refl _, J1.out, j2, HNEW.out⟩
          | false =>
            have HX := Lib.hid (HFIN.out (by rw [hL, hF]; simp))
            clear hz2 hz
            go_wp2_with fail
            refine (letter_any _ _).mono ?_
            rw [hL]
            rintro e w1 ⟨rfl, rfl⟩
            go_wp2_with fail
            refine (figure_any _ _).mono ?_
            rw [hF]
            rintro e w1 ⟨rfl, rfl⟩
            go_wp2_with fail
            go_ret
            exact ⟨by rw [HX.out]; rfl, j2⟩
    · have hend : i = s.size := by omega
      have hnext := fun ty => run_next_end_at (P := Tryz.prog) wr w.heap.size s i ty HIT.out hlt
      have HX := Lib.hid (show nc = true from HN.out.2 fun j hj => HA.out j (by simp at hj; omega))
      clear hend
      cases hE : s.toList.isEmpty with
      | true =>
        go_wp2_with fail
        go_ret
        exact ⟨by rw [HX.out, hE]; rfl, hB⟩
      | false =>
        go_wp2_with fail
        refine (word_any _ _).mono ?_
        rintro e w1 ⟨rfl, rfl⟩
        go_wp2_with fail
        go_ret
        exact ⟨by rw [HX.out, hE]; rfl, hB⟩
end Go.Proofs.YtnalfjaojcahhaaGreatDoor
namespace Go.Proofs.YtnalfjaojcahhaaGreatDoor
open Go.RowKit Go.Lib Go.Proofs
attribute [local go_sem ↓] Go.wp_at_zero Go.wp_at_succ

set_option maxHeartbeats 1000000 in
theorem empty_any (w : World) (v : Value) (n : Nd) (hv : NodeW w v n) : Calls Tryz.prog 123 #[v] w fun e w' => e = .returned (.bool (emptyT n)) ∧ Below w.heap.size w w' := by
  obtain ⟨A, cp, rfl, hC⟩ := hv.toC
  have hE : emptyT n = (n.kind == 0 && (n.text.toList.isEmpty && ((n.kids.length : Int) == 0))) := by
    unfold emptyT
    rw [isEmpty_dec, beq_dec, beq_dec]
    congr 2
    rw [decide_eq_decide]
    omega
  rw [hE]
  generalize hl : (n.kids.length : Int) = m at *
  generalize n.kind = k at *
  generalize n.text = t at *
  clear hE hv hC
  cases h1 : (k == 0) <;> cases h2 : t.toList.isEmpty <;> cases h3 : (m == 0)
  all_goals
    go_enter Tryz.func123, Tryz.ntmps123
    go_wp2_with fail
    go_ret
    refine ⟨rfl, ?_⟩
    (repeat' (first | with_reducible exact Below.refl _ _ | with_reducible refine Below.alloc ?_ ?_ _ | with_reducible refine Below.setCell ?_ ?_ _ | with_reducible refine Below.drew ?_ | with_reducible refine below_drewN ?_ _ | (simp <;> omega) | omega))

theorem NodeV.retext {X : Nat → Prop} {w : World} {k : Value} {t p : Value} {A : Option Addr} {c : Nat} {n : Nd} (h : NodeV X w (.agg #[k, t, .slice A n.kids.length c, p]) n) (x : ByteArray) :
    NodeV X w (.agg #[.int .i64 n.kind, .string x, .slice A n.kids.length c, .int .i64 n.pos]) (.mk n.kind x n.kids n.pos) := by
  obtain ⟨A1, c1, xs, e, h1, h2, h3⟩ := h
  injection e with e
  injection e with e
  simp only [List.cons.injEq, and_true] at e
  obtain ⟨_, _, e, _⟩ := e
  injection e with e1 _ e3
  subst e1 e3
  exact ⟨A, c, xs, rfl, h1, h2, h3⟩
/-- A node is handed back. -/
def PostV (w : World) (n : Nd) (e : Ending) (w' : World) : Prop := ∃ v, e = .returned v ∧ NodeW w' v n ∧ Below w.heap.size w w'

set_option maxHeartbeats 1000000 in
theorem named_any (w : World) (v : Value) (n : Nd) (hv : NodeW w v n) (f : Fv) (P : ByteArray → Bool) (hs : SoS P f w) (ht : n.text.size ≤ 1000000000) :
    Calls Tryz.prog 104 #[v, .func (.func f.k) #[] f.cap] w (PostV w (namedT P n)) := by
  have hV0 := hv
  obtain ⟨A, cp, rfl, hC⟩ := hv.toC
  have he := hs.enter
  have HS := Lib.hid hs
  have hB := ((Below.refl w.heap.size w).alloc (Nat.le_refl _) (.cells #[.int .i64 n.kind, .string n.text, .slice A n.kids.length cp, .int .i64 n.pos] 24)).alloc (by simp) (.cells ndZ 24)
  have b1 : Blk ((w.alloc (.cells #[.int .i64 n.kind, .string n.text, .slice A n.kids.length cp, .int .i64 n.pos] 24)).alloc (.cells ndZ 24)) w.heap.size 24 #[.int .i64 n.kind, .string n.text, .slice A n.kids.length cp, .int .i64 n.pos] := (Blk.new w _ _).alloc _
  have b2 : Blk ((w.alloc (.cells #[.int .i64 n.kind, .string n.text, .slice A n.kids.length cp, .int .i64 n.pos] 24)).alloc (.cells ndZ 24)) (w.heap.size + 1) 24 ndZ := Blk.new_at (by simp) _ _
  have HV0 := Lib.hid hV0
  clear hV0 hv hC hs
  go_enter Tryz.func104, Tryz.ntmps104
  go_wp2_with fail
  refine (HS.out.out _ _ hB ht).mono ?_
  rintro e w1 ⟨rfl, hb1⟩
  have c1 := b1.below hb1 (by simp; omega)
  have c2 := b2.below hb1 (by simp)
  have hB1 := hB.trans (hb1.mono hB.size)
  clear b1 b2 hB hb1 he HS
  obtain ⟨x0, x1, x2, x3, y0, y1, y2, y3⟩ := blk4 c1
  obtain ⟨z0, z1, z2, z3, u0, u1, u2, u3⟩ := blk4 c2
  have hne : w.heap.size + 1 ≠ w.heap.size := by omega
  cases hP : P n.text with
  | true =>
    have HN := Lib.hid (show namedT P n = .mk n.kind (⟨#[]⟩ : ByteArray) n.kids n.pos by unfold namedT; rw [hP]; rfl)
    clear hP
    go_wp2_with fail
    have hb : Blk (put4 (w1.setCell ⟨w.heap.size, 1, none⟩ (.string (⟨#[]⟩ : ByteArray))) (w.heap.size + 1) (.int .i64 n.kind) (.string (⟨#[]⟩ : ByteArray)) (.slice A n.kids.length cp) (.int .i64 n.pos)) (w.heap.size + 1) 24 #[.int .i64 n.kind, .string (⟨#[]⟩ : ByteArray), .slice A n.kids.length cp, .int .i64 n.pos] := put4_blk (c2.far (p := ⟨w.heap.size, 1, none⟩) (by show w.heap.size + 1 ≠ w.heap.size; omega) _) _ _ _ _
    refine bodyPost_ret (results_node rfl _ (by rfl) hb) rfl ?_
    rw [HN.out]
    exact ⟨_, rfl, (NodeV.retext HV0.out (⟨#[]⟩ : ByteArray)).below (by (repeat' (first | with_reducible assumption | with_reducible exact Below.refl _ _ | with_reducible refine Below.alloc ?_ ?_ _ | with_reducible refine Below.setCell ?_ ?_ _ | with_reducible refine Below.drew ?_ | with_reducible refine below_drewN ?_ _ | (simp <;> omega) | omega))), by (repeat' (first | with_reducible assumption | with_reducible exact Below.refl _ _ | with_reducible refine Below.alloc ?_ ?_ _ | with_reducible refine Below.setCell ?_ ?_ _ | with_reducible refine Below.drew ?_ | with_reducible refine below_drewN ?_ _ | (simp <;> omega) | omega))⟩
  | false =>
    have HN := Lib.hid (show namedT P n = .mk 37 (⟨#[]⟩ : ByteArray) [] 0 by unfold namedT; rw [hP]; rfl)
    clear hP
    go_wp2_with fail
    have hb : Blk (put4 w1 (w.heap.size + 1) (.int .i64 37) (.string (⟨#[]⟩ : ByteArray)) (.slice none 0 0) (.int .i64 0)) (w.heap.size + 1) 24 #[.int .i64 37, .string (⟨#[]⟩ : ByteArray), .slice none 0 0, .int .i64 0] := put4_blk c2 _ _ _ _
    refine bodyPost_ret (results_node rfl _ (by rfl) hb) rfl ?_
    rw [HN.out]
    exact ⟨_, rfl, NodeV.leaf _ _ _, by (repeat' (first | with_reducible assumption | with_reducible exact Below.refl _ _ | with_reducible refine Below.alloc ?_ ?_ _ | with_reducible refine Below.setCell ?_ ?_ _ | with_reducible refine Below.drew ?_ | with_reducible refine below_drewN ?_ _ | (simp <;> omega) | omega))⟩

theorem blk1 {w : World} {g : Nat} {t : TypeId} {a : Value} (h : Blk w g t #[a]) : w.cell? ⟨g, 0, none⟩ = some a := by
  have c0 := h.cell 0
  simp at c0
  exact c0

set_option maxHeartbeats 1000000 in
theorem or_part (d : Nat) (P Q : Nd → Bool) (f g : Fv) (w0 : World) (hf : SoC d P f w0) (hg : SoC d Q g w0) (a b : Nat)
    (ha : Blk w0 a 33 #[.func (.func f.k) #[] f.cap]) (hb : Blk w0 b 33 #[.func (.func g.k) #[] g.cap]) :
    SoC d (orT P Q) ⟨165, #[.pointer (some ⟨a, 0, none⟩), .pointer (some ⟨b, 0, none⟩)]⟩ w0 := by
  refine ⟨fun a w => by kernel_rfl, fun w v n hw hv hd => ?_⟩
  have hef := hf.enter
  have heg := hg.enter
  have hV0 := hv
  obtain ⟨A, cp, rfl, hC⟩ := hv.toC
  have hB := (Below.refl w.heap.size w).alloc (Nat.le_refl _) (.cells #[.int .i64 n.kind, .string n.text, .slice A n.kids.length cp, .int .i64 n.pos] 24)
  have hw1 := hw.alloc hw.size (.cells #[.int .i64 n.kind, .string n.text, .slice A n.kids.length cp, .int .i64 n.pos] 24)
  have b1 : Blk (w.alloc (.cells #[.int .i64 n.kind, .string n.text, .slice A n.kids.length cp, .int .i64 n.pos] 24)) w.heap.size 24 #[.int .i64 n.kind, .string n.text, .slice A n.kids.length cp, .int .i64 n.pos] := Blk.new w _ _
  have ca := blk1 (ha.below hw1 ha.lt)
  have HF := Lib.hid (hf.out _ _ n hw1 (hV0.below hB) hd)
  have hlb := hb.lt
  have HV := Lib.hid (hV0.below hB)
  have HG := Lib.hid hg
  have HBB := Lib.hid hb
  have hws := hw.size
  show Calls _ _ _ w fun e w' => e = .returned (.bool (P n || Q n)) ∧ _
  clear hf hg hV0 hv hC ha hb
  go_enter Tryz.func165, Tryz.ntmps165
  go_wp2_with fail
  refine HF.out.mono ?_
  rintro e w1 ⟨rfl, hb1⟩
  have hw2 := hw1.trans (hb1.mono hw1.size)
  have cb := blk1 (HBB.out.below hw2 hlb)
  obtain ⟨x0, x1, x2, x3, _, _, _, _⟩ := blk4 (b1.below hb1 (by simp))
  have HG1 := Lib.hid (HG.out.out _ _ n hw2 (HV.out.below hb1) hd)
  have hB1 := hB.trans (hb1.mono hB.size)
  clear hb1 hB b1 hw1 ca HF
  cases hP : P n with
  | true =>
    go_wp2_with fail
    go_ret
    exact ⟨by rw [hP]; rfl, hB1⟩
  | false =>
    go_wp2_with fail
    refine HG1.out.mono ?_
    rintro e w2 ⟨rfl, hb2⟩
    have hB2 := hB1.trans (hb2.mono hB1.size)
    clear hb2 HG1 hB1
    go_wp2_with fail
    go_ret
    exact ⟨by rw [hP]; rfl, hB2⟩

set_option maxHeartbeats 1000000 in
theorem or_any (d : Nat) (P Q : Nd → Bool) (f g : Fv) (w : World) (hf : SoC d P f w) (hg : SoC d Q g w) :
    Calls Tryz.prog 107 #[.func (.func f.k) #[] f.cap, .func (.func g.k) #[] g.cap] w fun e w' => ∃ h : Fv, e = .returned (.func (.func h.k) #[] h.cap) ∧ SoC d (orT P Q) h w' ∧ Below w.heap.size w w' := by
  have HF := Lib.hid hf
  have HG := Lib.hid hg
  have hB := ((Below.refl w.heap.size w).alloc (Nat.le_refl _) (.cells #[.func (.func f.k) #[] f.cap] 33)).alloc (by simp) (.cells #[.func (.func g.k) #[] g.cap] 33)
  have b1 : Blk ((w.alloc (.cells #[.func (.func f.k) #[] f.cap] 33)).alloc (.cells #[.func (.func g.k) #[] g.cap] 33)) w.heap.size 33 #[.func (.func f.k) #[] f.cap] := (Blk.new w _ _).alloc _
  have b2 : Blk ((w.alloc (.cells #[.func (.func f.k) #[] f.cap] 33)).alloc (.cells #[.func (.func g.k) #[] g.cap] 33)) (w.heap.size + 1) 33 #[.func (.func g.k) #[] g.cap] := Blk.new_at (by simp) _ _
  clear hf hg
  go_enter Tryz.func107, Tryz.ntmps107
  go_wp2_with fail
  go_ret
  exact ⟨⟨165, #[.pointer (some ⟨w.heap.size, 0, none⟩), .pointer (some ⟨w.heap.size + 1, 0, none⟩)]⟩, rfl, or_part d P Q f g _ (HF.out.below hB) (HG.out.below hB) _ _ b1 b2, hB⟩
end Go.Proofs.YtnalfjaojcahhaaGreatDoor
namespace Go.Proofs.YtnalfjaojcahhaaGreatDoor
open Go.RowKit Go.Lib Go.Proofs
attribute [local go_sem ↓] Go.wp_at_zero Go.wp_at_succ

/-- A node's kid, as its four cells. -/
theorem NodesW.at_ {w : World} {A : Option Addr} {n c : Nat} {l : List Nd} (h : NodesW w (.slice A n c) l) (i : Nat) (hi : i < l.length) :
    n = l.length ∧ ∃ b off A1 cp, A = some ⟨b, off, none⟩ ∧ b < w.heap.size ∧ w.cell? ⟨b, off + i * 4, none⟩ = some (.int .i64 l[i].kind) ∧ w.cell? ⟨b, off + i * 4 + 1, none⟩ = some (.string l[i].text) ∧
      w.cell? ⟨b, off + i * 4 + 2, none⟩ = some (.slice A1 l[i].kids.length cp) ∧ w.cell? ⟨b, off + i * 4 + 3, none⟩ = some (.int .i64 l[i].pos) ∧
      NodeW w (.agg #[.int .i64 l[i].kind, .string l[i].text, .slice A1 l[i].kids.length cp, .int .i64 l[i].pos]) l[i] := by
  have hn : n = l.length := by
    obtain ⟨_, _, _, e, _⟩ := h
    injection e
  obtain ⟨b, off, A1, cp, e, _, h1, h2, h3, h4, h5, h6⟩ := h.kid i hi
  exact ⟨hn, b, off, A1, cp, e, h1, h2, h3, h4, h5, h6⟩

/-- The first node of which a question is true. -/
def idxB (P : Nd → Bool) : List Nd → Nat → Int
  | [], _ => -1
  | n :: l, i => if P n then (i : Int) else idxB P l (i + 1)
theorem idxB_any (P : Nd → Bool) : ∀ (l : List Nd) (i : Nat), decide (0 ≤ idxB P l i) = l.any P
  | [], i => rfl
  | n :: l, i => by
    rw [idxB, List.any_cons]
    cases hP : P n with
    | true => simp
    | false => simpa using idxB_any P l (i + 1)
theorem idxB_drop (P : Nd → Bool) (l : List Nd) (i : Nat) (hi : i < l.length) : idxB P (l.drop i) i = if P l[i] then (i : Int) else idxB P (l.drop (i + 1)) (i + 1) := by
  rw [List.drop_eq_getElem_cons hi, idxB]

set_option maxHeartbeats 1000000 in
theorem indexFunc_any (d : Nat) (P : Nd → Bool) (f : Fv) (A : Option Addr) (c : Nat) (l : List Nd) (w : World) (hv : NodesW w (.slice A l.length c) l) (hd : ∀ n ∈ l, DLe d n) (hl : l.length ≤ 1000000000) (hf : SoC d P f w) :
    Calls Tryz.prog 161 #[.slice A l.length c, .func (.func f.k) #[] f.cap] w fun e w' => e = .returned (.int .i64 (idxB P l 0)) ∧ Below w.heap.size w w' := by
  have he := hf.enter
  have HF := Lib.hid hf
  have HV := Lib.hid hv
  have HD := Lib.hid hd
  generalize hI : idxB P l 0 = I
  have HI := Lib.hid hI
  clear hf hv hd hI
  go_enter Tryz.func161, Tryz.ntmps161
  go_wp2_with fail
  go_loopg [5, 8] l.length (fun g _ u8 wr => ∃ i : Nat, i ≤ l.length ∧ l.length - i ≤ g ∧ u8 = .int .i64 (i : Int) ∧ idxB P (l.drop i) i = I ∧ Below w.heap.size w wr)
  case atStart => exact ⟨0, Nat.zero_le _, by omega, rfl, by simpa using HI.out, Below.refl _ _⟩
  case round =>
    obtain ⟨i, hi, hg, rfl, hI, hB⟩ := hrel
    have HI := Lib.hid hI
    clear hI
    by_cases hlt : i < l.length
    · have hlt2 : (i : Int) < (l.length : Int) := by omega
      have h0 : (0 : Int) ≤ (i : Int) := by omega
      obtain ⟨_, b, off, A1, cp, rfl, hb, k0, k1, k2, k3, hn⟩ := NodesW.at_ (HV.out.below hB) i hlt
      have HC := Lib.hid (HF.out.out _ _ l[i] hB hn (HD.out _ (List.getElem_mem hlt)))
      have HE := Lib.hid (idxB_drop P l i hlt)
      generalize l[i] = x at *
      clear hn
      cases hP : P x with
      | true =>
        have HX := Lib.hid (show I = (i : Int) by rw [← HI.out, HE.out, hP]; rfl)
        go_wp2_with fail
        refine HC.out.mono ?_
        rw [hP]
        rintro e w1 ⟨rfl, hb1⟩
        have hB1 := hB.trans (hb1.mono hB.size)
        clear hb1 HC
        go_wp2_with fail
        go_ret
        exact ⟨by rw [HX.out]; rfl, hB1⟩
      | false =>
        have HX := Lib.hid (show idxB P (l.drop (i + 1)) (i + 1) = I by rw [← HI.out, HE.out, hP]; rfl)
        go_wp2_with fail
        refine HC.out.mono ?_
        rw [hP]
        rintro e w1 ⟨rfl, hb1⟩
        have hB1 := hB.trans (hb1.mono hB.size)
        clear hb1 HC
        go_wp2_with fail
        go_roundg (l.length - (i + 1))
        case measure => omega
        case rel => exact ⟨i + 1, by omega, Nat.le_refl _, by go_num, HX.out, hB1⟩
    · have hlt2 : ¬ (i : Int) < (l.length : Int) := by omega
      have hnil : l.drop i = [] := List.drop_of_length_le (by omega)
      have HX := Lib.hid (show I = -1 by rw [← HI.out, hnil]; rfl)
      clear hnil
      go_wp2_with fail
      go_ret
      exact ⟨by rw [HX.out]; rfl, hB⟩

set_option maxHeartbeats 1000000 in
theorem containsFunc_any (d : Nat) (P : Nd → Bool) (f : Fv) (A : Option Addr) (c : Nat) (l : List Nd) (w : World) (hv : NodesW w (.slice A l.length c) l) (hd : ∀ n ∈ l, DLe d n) (hl : l.length ≤ 1000000000) (hf : SoC d P f w) :
    Calls Tryz.prog 101 #[.slice A l.length c, .func (.func f.k) #[] f.cap] w fun e w' => e = .returned (.bool (l.any P)) ∧ Below w.heap.size w w' := by
  have HI := Lib.hid (indexFunc_any d P f A c l w hv hd hl hf)
  rw [← idxB_any P l 0]
  clear hv hd hf
  go_enter Tryz.func101, Tryz.ntmps101
  go_wp2_with fail
  refine HI.out.mono ?_
  rintro e w1 ⟨rfl, hb1⟩
  go_wp2_with fail
  go_ret
  exact ⟨rfl, hb1⟩

/-- 'not so'. -/
theorem all_part (d : Nat) (P : Nd → Bool) (f : Fv) (w0 : World) (hf : SoC d P f w0) (a : Nat) (ha : Blk w0 a 33 #[.func (.func f.k) #[] f.cap]) :
    SoC d (fun n => !P n) ⟨102, #[.pointer (some ⟨a, 0, none⟩)]⟩ w0 := by
  refine ⟨fun a w => by kernel_rfl, fun w v n hw hv hd => ?_⟩
  have hef := hf.enter
  have hV0 := hv
  obtain ⟨A, cp, rfl, hC⟩ := hv.toC
  have hB := (Below.refl w.heap.size w).alloc (Nat.le_refl _) (.cells #[.int .i64 n.kind, .string n.text, .slice A n.kids.length cp, .int .i64 n.pos] 24)
  have hw1 := hw.alloc hw.size (.cells #[.int .i64 n.kind, .string n.text, .slice A n.kids.length cp, .int .i64 n.pos] 24)
  have ca := blk1 (ha.below hw1 ha.lt)
  have HF := Lib.hid (hf.out _ _ n hw1 (hV0.below hB) hd)
  have hla := ha.lt
  have hws := hw.size
  show Calls _ _ _ w fun e w' => e = .returned (.bool (!P n)) ∧ _
  clear hf hV0 hv hC ha
  go_enter Tryz.func102, Tryz.ntmps102
  go_wp2_with fail
  refine HF.out.mono ?_
  rintro e w1 ⟨rfl, hb1⟩
  have hB1 := hB.trans (hb1.mono hB.size)
  clear hb1 hB hw1 ca HF
  go_wp2_with fail
  go_ret
  exact ⟨rfl, hB1⟩

theorem any_not (P : Nd → Bool) (l : List Nd) : (!(l.any fun n => !P n)) = l.all P := by
  induction l with
  | nil => rfl
  | cons n l ih => rw [List.any_cons, List.all_cons, ← ih]; cases P n <;> simp

set_option maxHeartbeats 1000000 in
theorem tall_any (d : Nat) (P : Nd → Bool) (f : Fv) (A : Option Addr) (c : Nat) (l : List Nd) (w : World) (hv : NodesW w (.slice A l.length c) l) (hd : ∀ n ∈ l, DLe d n) (hl : l.length ≤ 1000000000) (hf : SoC d P f w) :
    Calls Tryz.prog 71 #[.slice A l.length c, .func (.func f.k) #[] f.cap] w fun e w' => e = .returned (.bool (l.all P)) ∧ Below w.heap.size w w' := by
  have hB := (Below.refl w.heap.size w).alloc (Nat.le_refl _) (.cells #[.func (.func f.k) #[] f.cap] 33)
  have b1 := Blk.new w 33 #[.func (.func f.k) #[] f.cap]
  have HI := Lib.hid (containsFunc_any d (fun n => !P n) ⟨102, #[.pointer (some ⟨w.heap.size, 0, none⟩)]⟩ A c l _ (hv.below hB) hd hl (all_part d P f _ (hf.below hB) _ b1))
  have he : ∀ a w, (callFunc 102 a).run Tryz.prog w = .ok (.enter 102 a) w := fun a w => by kernel_rfl
  rw [← any_not P l]
  clear hv hd hf b1
  go_enter Tryz.func71, Tryz.ntmps71
  go_wp2_with fail
  refine HI.out.mono ?_
  rintro e w1 ⟨rfl, hb1⟩
  have hB1 := hB.trans (hb1.mono hB.size)
  clear hb1 hB
  go_wp2_with fail
  go_ret
  exact ⟨rfl, hB1⟩

set_option maxHeartbeats 1000000 in
theorem list_any (d : Nat) (P : Nd → Bool) (f : Fv) (v : Value) (n : Nd) (w : World) (hv : NodeW w v n) (hd : DLe (d + 1) n) (hf : SoC d P f w) :
    Calls Tryz.prog 163 #[v, .func (.func f.k) #[] f.cap] w fun e w' => e = .returned (.bool (listT P n)) ∧ Below w.heap.size w w' := by
  have hV0 := hv
  obtain ⟨A, cp, rfl, hC⟩ := hv.toC
  have hB := (Below.refl w.heap.size w).alloc (Nat.le_refl _) (.cells #[.int .i64 n.kind, .string n.text, .slice A n.kids.length cp, .int .i64 n.pos] 24)
  have HI := Lib.hid (tall_any d P f A cp n.kids _ (hV0.below hB).kidsV hd.2 hd.1.1 (hf.below hB))
  have hE : listT P n = (n.kind == 6 && (n.text.toList.isEmpty && n.kids.all P)) := by
    unfold listT
    rw [isEmpty_dec, beq_dec]
  rw [hE]
  clear hE hV0 hv hC hd hf
  generalize n.kids.all P = q at *
  generalize n.kind = k at *
  generalize n.text = t at *
  cases h1 : (k == 6) <;> cases h2 : t.toList.isEmpty
  all_goals
    go_enter Tryz.func163, Tryz.ntmps163
    go_wp2_with fail
    try
      refine HI.out.mono ?_
      rintro e w1 ⟨rfl, hb1⟩
      have hB1 := hB.trans (hb1.mono hB.size)
      clear hb1
      go_wp2_with fail
    go_ret
    exact ⟨rfl, by assumption⟩
end Go.Proofs.YtnalfjaojcahhaaGreatDoor
