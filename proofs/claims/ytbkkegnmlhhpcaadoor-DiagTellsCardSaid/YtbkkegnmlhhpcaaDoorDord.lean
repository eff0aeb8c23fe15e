/-
  Findings in order, in plain Lean: the order is total, a sorted and compacted list holds each of its members once, and hangs on the members alone. By an AI agent.
-/
import Derived.Sort.Walk0
import Derived.Shelf.SlSortCmp.Insertion
import Derived.Lib.SlicesCompact
import Derived.Laws.StructEq
namespace Go.Proofs.YtbkkegnmlhhpcaaDoor
open Go.Sort Go.Lib

theorem toList_inj {a b : ByteArray} : a.toList = b.toList ↔ a = b := by
  constructor
  · intro h
    rw [ByteArray.toList_eq, ByteArray.toList_eq] at h
    cases a; cases b
    congr
    exact Array.ext' h
  · rintro rfl; rfl

/-- Three way comparison of ints. -/
def cmpI (a b : Int) : Int := if a < b then -1 else if b < a then 1 else 0
/-- Three way comparison of strings. -/
def cmpS (a b : ByteArray) : Int := if a.toList < b.toList then -1 else if b.toList < a.toList then 1 else 0
/-- A finding: its tag, its file, its place. -/
abbrev Fnd := ByteArray × ByteArray × Int
/-- Three way comparison of findings. -/
def cmpF (x y : Fnd) : Int := if cmpS x.2.1 y.2.1 ≠ 0 then cmpS x.2.1 y.2.1 else if cmpI x.2.2 y.2.2 ≠ 0 then cmpI x.2.2 y.2.2 else cmpS x.1 y.1
/-- The three cells of a finding. -/
def encF (x : Fnd) : List Value := [.string x.1, .string x.2.1, .int .i64 x.2.2]
/-- One finding is ahead of another. -/
def ltF (x y : Fnd) : Prop := x.2.1.toList < y.2.1.toList ∨ (x.2.1 = y.2.1 ∧ (x.2.2 < y.2.2 ∨ (x.2.2 = y.2.2 ∧ x.1.toList < y.1.toList)))

theorem llt_tri (a b : ByteArray) : a.toList < b.toList ∨ a = b ∨ b.toList < a.toList := by
  by_cases h1 : a.toList < b.toList
  · exact .inl h1
  · by_cases h2 : b.toList < a.toList
    · exact .inr (.inr h2)
    · exact .inr (.inl (toList_inj.1 (List.le_antisymm (List.not_lt.1 h2) (List.not_lt.1 h1))))

theorem cmpS_cases (a b : ByteArray) : (a.toList < b.toList ∧ cmpS a b = -1 ∧ a ≠ b) ∨ (a = b ∧ cmpS a b = 0) ∨ (b.toList < a.toList ∧ ¬ a.toList < b.toList ∧ cmpS a b = 1 ∧ a ≠ b) := by
  rcases llt_tri a b with h | h | h
  · exact .inl ⟨h, by simp [cmpS, h], fun e => by subst e; exact List.lt_irrefl _ h⟩
  · subst h
    exact .inr (.inl ⟨rfl, by simp [cmpS, List.lt_irrefl]⟩)
  · have h' : ¬ a.toList < b.toList := List.lt_asymm h
    exact .inr (.inr ⟨h, h', by simp [cmpS, h, h'], fun e => by subst e; exact List.lt_irrefl _ h⟩)

theorem cmpI_cases (a b : Int) : (a < b ∧ cmpI a b = -1) ∨ (a = b ∧ cmpI a b = 0) ∨ (b < a ∧ cmpI a b = 1) := by
  unfold cmpI
  by_cases h1 : a < b
  · exact .inl ⟨h1, by simp [h1]⟩
  · by_cases h2 : b < a
    · exact .inr (.inr ⟨h2, by simp [h1, h2]⟩)
    · exact .inr (.inl ⟨by omega, by simp [h1, h2]⟩)

theorem ltOf_iff (x y : Fnd) : ltOf cmpF x y = true ↔ ltF x y := by
  unfold ltOf ltF cmpF
  rcases cmpS_cases x.2.1 y.2.1 with ⟨h, e, n⟩ | ⟨h, e⟩ | ⟨h, h', e, n⟩
  · simp [e, h]
  · rw [e]
    have hn : ¬ x.2.1.toList < y.2.1.toList := by rw [h]; exact List.lt_irrefl _
    rcases cmpI_cases x.2.2 y.2.2 with ⟨g, e2⟩ | ⟨g, e2⟩ | ⟨g, e2⟩
    · simp [e2, h, g]
    · rw [e2]
      have hm : ¬ x.2.2 < y.2.2 := by omega
      rcases cmpS_cases x.1 y.1 with ⟨k, e3, n3⟩ | ⟨k, e3⟩ | ⟨k, k', e3, n3⟩
      · simp [e3, h, g, k]
      · rw [e3]; simp [h, g, k, List.lt_irrefl]
      · simp [e3, h, g, k', List.lt_irrefl]
    · have hm : ¬ x.2.2 < y.2.2 := by omega
      have hm' : ¬ x.2.2 = y.2.2 := by omega
      simp [e2, h, hm, hm', List.lt_irrefl]
  · simp [e, h', n]

theorem ltF_irrefl (x : Fnd) : ¬ ltF x x := by
  rintro (h | ⟨_, h | ⟨_, h⟩⟩)
  · exact List.lt_irrefl _ h
  · omega
  · exact List.lt_irrefl _ h
theorem ltF_trans {x y z : Fnd} (h : ltF x y) (k : ltF y z) : ltF x z := by
  rcases h with h | ⟨e, h⟩
  · rcases k with k | ⟨e', _⟩
    · exact .inl (List.lt_trans h k)
    · exact .inl (e' ▸ h)
  · rcases k with k | ⟨e', k⟩
    · exact .inl (e ▸ k)
    · refine .inr ⟨e.trans e', ?_⟩
      rcases h with h | ⟨g, h⟩
      · rcases k with k | ⟨g', k⟩
        · exact .inl (by omega)
        · exact .inl (by omega)
      · rcases k with k | ⟨g', k⟩
        · exact .inl (by omega)
        · exact .inr ⟨by omega, List.lt_trans h k⟩
theorem ltF_tri (x y : Fnd) : ltF x y ∨ x = y ∨ ltF y x := by
  obtain ⟨xt, xf, xa⟩ := x
  obtain ⟨yt, yf, ya⟩ := y
  rcases llt_tri xf yf with h | h | h
  · exact .inl (.inl h)
  · subst h
    rcases Int.lt_trichotomy xa ya with h | h | h
    · exact .inl (.inr ⟨rfl, .inl h⟩)
    · subst h
      rcases llt_tri xt yt with h | h | h
      · exact .inl (.inr ⟨rfl, .inr ⟨rfl, h⟩⟩)
      · subst h; exact .inr (.inl rfl)
      · exact .inr (.inr (.inr ⟨rfl, .inr ⟨rfl, h⟩⟩))
    · exact .inr (.inr (.inr ⟨rfl, .inl h⟩))
  · exact .inr (.inr (.inl h))

theorem ltOf_false (x y : Fnd) : ltOf cmpF x y = false ↔ ¬ ltF x y := by
  rw [← ltOf_iff]; simp

theorem swoF : SWO (ltOf cmpF) where
  irrefl x := by rw [ltOf_false]; exact ltF_irrefl x
  trans x y z h k := by rw [ltOf_iff] at *; exact ltF_trans h k
  ntrans x y z h k := by
    rw [ltOf_false] at *
    intro g
    rcases ltF_tri x y with a | a | a
    · exact h a
    · subst a; exact k g
    · exact k (ltF_trans a g)
theorem totF (x y : Fnd) (h : ltOf cmpF x y = false) (k : ltOf cmpF y x = false) : x = y := by
  rw [ltOf_false] at *
  rcases ltF_tri x y with a | a | a
  · exact absurd a h
  · exact a
  · exact absurd a k

/-- A list of findings, sorted. -/
def srt (l : List Fnd) : List Fnd := l.mergeSort fun x y => !(ltOf cmpF) y x
/-- A list of findings in order, each once. -/
def sd (l : List Fnd) : List Fnd := compactUpTo (srt l).toArray (srt l).length

theorem srt_pair (l : List Fnd) : (srt l).Pairwise fun x y => ¬ ltF y x := by
  have := List.pairwise_mergeSort (le := fun x y => !(ltOf cmpF) y x) (l := l)
    (fun a b c h k => by
      simp only [Bool.not_eq_true', ltOf_false] at *
      intro g
      rcases ltF_tri b a with e | e | e
      · exact h e
      · subst e; exact k g
      · exact k (ltF_trans g e))
    (fun a b => by
      simp only [Bool.or_eq_true, Bool.not_eq_true', ltOf_false]
      by_cases h : ltF b a
      · exact .inr fun g => ltF_irrefl _ (ltF_trans h g)
      · exact .inl h)
  refine List.Pairwise.imp ?_ this
  intro a b h
  simpa [ltOf_false] using h
theorem srt_len (l : List Fnd) : (srt l).length = l.length := by simp [srt]
theorem mem_srt {l : List Fnd} {x : Fnd} : x ∈ srt l ↔ x ∈ l := List.mem_mergeSort

theorem compact_pair (d : List Fnd) (h : d.Pairwise fun x y => ¬ ltF y x) : (compactUpTo d.toArray d.length).Pairwise ltF := by
  unfold compactUpTo
  rw [List.pairwise_map]
  have hr : (List.range d.length).Pairwise (· < ·) := List.pairwise_lt_range
  refine List.Pairwise.imp_of_mem ?_ (hr.filter (keeps d.toArray))
  intro i j hi hj hlt
  simp only [List.mem_filter, List.mem_range] at hi hj
  have hk : d.toArray[j]! ≠ d.toArray[j - 1]! := by
    have := hj.2
    unfold keeps at this
    simp only [decide_eq_true_eq] at this
    rcases this with e | e
    · omega
    · exact e
  rw [getElem!_pos d.toArray j (by simpa using hj.1), getElem!_pos d.toArray (j - 1) (by simp; omega)] at hk
  rw [getElem!_pos d.toArray j (by simpa using hj.1), getElem!_pos d.toArray i (by simpa using hi.1)]
  simp only [List.getElem_toArray] at hk ⊢
  have a : ¬ ltF d[j] d[j - 1] := List.pairwise_iff_getElem.1 h (j - 1) j (by omega) hj.1 (by omega)
  have lt1 : ltF d[j - 1] d[j] := by
    rcases ltF_tri d[j - 1] d[j] with e | e | e
    · exact e
    · exact absurd e.symm hk
    · exact absurd e a
  by_cases hij : i = j - 1
  · subst hij; exact lt1
  · have b : ¬ ltF d[j - 1] d[i] := List.pairwise_iff_getElem.1 h i (j - 1) (by omega) (by omega) (by omega)
    rcases ltF_tri d[i] d[j - 1] with e | e | e
    · exact ltF_trans e lt1
    · rw [e]; exact lt1
    · exact absurd e b

theorem mem_compact (d : List Fnd) (x : Fnd) : x ∈ compactUpTo d.toArray d.length ↔ x ∈ d := by
  unfold compactUpTo
  simp only [List.mem_map, List.mem_filter, List.mem_range]
  constructor
  · rintro ⟨i, ⟨hi, _⟩, rfl⟩
    rw [getElem!_pos d.toArray i (by simpa using hi)]
    simp
  · intro hx
    obtain ⟨i, hi, rfl⟩ := List.mem_iff_getElem.1 hx
    clear hx
    induction i with
    | zero => exact ⟨0, ⟨hi, by simp [keeps]⟩, by rw [getElem!_pos d.toArray 0 (by simpa using hi)]; simp⟩
    | succ i ih =>
      by_cases hk : keeps d.toArray (i + 1) = true
      · exact ⟨i + 1, ⟨hi, hk⟩, by rw [getElem!_pos d.toArray (i + 1) (by simpa using hi)]; simp⟩
      · obtain ⟨j, hj, e⟩ := ih (by omega)
        refine ⟨j, hj, e.trans ?_⟩
        unfold keeps at hk
        simp only [decide_eq_true_eq, not_or, Nat.add_eq_zero_iff, Nat.succ_ne_self, and_false, not_false_eq_true, true_and, Decidable.not_not, Nat.add_sub_cancel] at hk
        rw [getElem!_pos d.toArray (i + 1) (by simpa using hi), getElem!_pos d.toArray i (by simp; omega)] at hk
        simpa using hk.symm

theorem sd_pair (l : List Fnd) : (sd l).Pairwise ltF := compact_pair _ (srt_pair l)
theorem mem_sd {l : List Fnd} {x : Fnd} : x ∈ sd l ↔ x ∈ l := by
  unfold sd; rw [mem_compact, mem_srt]

/-- Two lists in order that have the same members are one. -/
theorem pair_unique : ∀ {l m : List Fnd}, l.Pairwise ltF → m.Pairwise ltF → (∀ x, x ∈ l ↔ x ∈ m) → l = m
  | [], [], _, _, _ => rfl
  | [], b :: m, _, _, h => by have := (h b).2 (by simp); simp at this
  | a :: l, [], _, _, h => by have := (h a).1 (by simp); simp at this
  | a :: l, b :: m, hl, hm, h => by
    obtain ⟨hl1, hl2⟩ := List.pairwise_cons.1 hl
    obtain ⟨hm1, hm2⟩ := List.pairwise_cons.1 hm
    have hab : a = b := by
      rcases List.mem_cons.1 ((h a).1 (by simp)) with e | e
      · exact e
      · rcases List.mem_cons.1 ((h b).2 (by simp)) with e' | e'
        · exact e'.symm
        · exact absurd (ltF_trans (hm1 a e) (hl1 b e')) (ltF_irrefl _)
    subst hab
    congr 1
    refine pair_unique hl2 hm2 fun x => ⟨fun hx => ?_, fun hx => ?_⟩
    · rcases List.mem_cons.1 ((h x).1 (List.mem_cons_of_mem _ hx)) with e | e
      · subst e; exact absurd (hl1 x hx) (ltF_irrefl _)
      · exact e
    · rcases List.mem_cons.1 ((h x).2 (List.mem_cons_of_mem _ hx)) with e | e
      · subst e; exact absurd (hm1 x hx) (ltF_irrefl _)
      · exact e

theorem sd_congr {l m : List Fnd} (h : ∀ x, x ∈ l ↔ x ∈ m) : sd l = sd m :=
  pair_unique (sd_pair l) (sd_pair m) fun x => by rw [mem_sd, mem_sd, h]
theorem sd_sd (l : List Fnd) : sd (sd l) = sd l := sd_congr fun _ => mem_sd
theorem sd_reverse (l : List Fnd) : sd l.reverse = sd l := sd_congr fun _ => by simp
theorem sd_twice (l : List Fnd) : sd (sd l ++ l) = sd l := sd_congr fun x => by simp [mem_sd]
theorem sd_len (l : List Fnd) : (sd l).length ≤ l.length := by
  unfold sd compactUpTo
  rw [List.length_map]
  refine Nat.le_trans (List.length_filter_le _ _) ?_
  rw [List.length_range, srt_len]
  exact Nat.le_refl _
end Go.Proofs.YtbkkegnmlhhpcaaDoor
