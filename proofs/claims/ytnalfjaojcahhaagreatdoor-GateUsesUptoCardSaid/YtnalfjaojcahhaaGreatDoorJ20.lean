/-
  Uses in order, in plain Lean: the order is total, a sorted and compacted list holds each of its members once, and hangs on the members alone. By an AI agent.
  The order of uses: cmp.Compare at ints, cmp.Or, and the two closures of gate.Uses. By an AI agent.
  A row of elements of k cells in a world of the sort's: one element stored, the row's end cleared. By an AI agent.
  The contract of slices.CompactFunc at uses, under the closure of gate.Uses. By an AI agent.
  Rows of uses of the call's own. By an AI agent.
-/
import Derived.Test.YtnalfjaojcahhaaGreatDoorJ15
import Derived.Test.YtnalfjaojcahhaaGreatDoorProg
import Derived.Test.YtnalfjaojcahhaaGreatDoorJ00
import Derived.Test.YtnalfjaojcahhaaGreatDoorJ06
import Derived.Sort.Walk0
import Derived.Shelf.SlSortCmp.Insertion
import Derived.Lib.SlicesCompact
import Derived.Laws.StructEq
import Derived.WalkKit
import Derived.WalkLawsBesides
import Derived.WalkSpells
import Derived.Lib.Hide
import Derived.Deep.RegionHeld3
import Derived.Deep.DrawnRows
import Derived.Sort.Grow
import Derived.Deep.DeepMust
import Derived.Shelf.SlSortCmp.KitK
import Derived.Shelf.SlicesQ.Reverse
import Derived.Laws.IdiomCopy
import Derived.Deep.LoopGhost
import Derived.Lib.Walk
namespace Go.Proofs.YtnalfjaojcahhaaGreatDoor
open Go.Sort Go.Lib

/-- Three way comparison of ints. -/
def cmpI (a b : Int) : Int := if a < b then -1 else if b < a then 1 else 0
abbrev Use1 := Int × Int
/-- Three way comparison of uses: where, then which. -/
def cmpU (x y : Use1) : Int := if cmpI x.2 y.2 ≠ 0 then cmpI x.2 y.2 else cmpI x.1 y.1
/-- One use is ahead of another. -/
def ltU (x y : Use1) : Prop := x.2 < y.2 ∨ (x.2 = y.2 ∧ x.1 < y.1)

theorem cmpI_cases (a b : Int) : (a < b ∧ cmpI a b = -1) ∨ (a = b ∧ cmpI a b = 0) ∨ (b < a ∧ cmpI a b = 1) := by
  unfold cmpI
  by_cases h1 : a < b
  · exact .inl ⟨h1, by simp [h1]⟩
  · by_cases h2 : b < a
    · exact .inr (.inr ⟨h2, by simp [h1, h2]⟩)
    · exact .inr (.inl ⟨by omega, by simp [h1, h2]⟩)

theorem ltOf_iff (x y : Use1) : ltOf cmpU x y = true ↔ ltU x y := by
  unfold ltOf ltU cmpU
  rcases cmpI_cases x.2 y.2 with ⟨g, e2⟩ | ⟨g, e2⟩ | ⟨g, e2⟩
  · simp [e2, g]
  · rw [e2]
    have hm : ¬ x.2 < y.2 := by omega
    rcases cmpI_cases x.1 y.1 with ⟨k, e3⟩ | ⟨k, e3⟩ | ⟨k, e3⟩
    · simp [e3, g, k]
    · rw [e3]; simp [g, k]
    · have : ¬ x.1 < y.1 := by omega
      simp [e3, g, this]
  · have hm : ¬ x.2 < y.2 := by omega
    have hm' : ¬ x.2 = y.2 := by omega
    simp [e2, hm, hm']

theorem ltU_irrefl (x : Use1) : ¬ ltU x x := by
  unfold ltU
  omega
theorem ltU_trans {x y z : Use1} (h : ltU x y) (k : ltU y z) : ltU x z := by
  unfold ltU at *
  omega
theorem ltU_tri (x y : Use1) : ltU x y ∨ x = y ∨ ltU y x := by
  obtain ⟨xm, xa⟩ := x
  obtain ⟨ym, ya⟩ := y
  unfold ltU
  simp only [Prod.mk.injEq]
  omega

theorem ltOf_false (x y : Use1) : ltOf cmpU x y = false ↔ ¬ ltU x y := by
  rw [← ltOf_iff]; simp

theorem swoU : SWO (ltOf cmpU) where
  irrefl x := by rw [ltOf_false]; exact ltU_irrefl x
  trans x y z h k := by rw [ltOf_iff] at *; exact ltU_trans h k
  ntrans x y z h k := by
    rw [ltOf_false] at *
    intro g
    rcases ltU_tri x y with a | a | a
    · exact h a
    · subst a; exact k g
    · exact k (ltU_trans a g)
theorem totU (x y : Use1) (h : ltOf cmpU x y = false) (k : ltOf cmpU y x = false) : x = y := by
  rw [ltOf_false] at *
  rcases ltU_tri x y with a | a | a
  · exact absurd a h
  · exact a
  · exact absurd a k

/-- A list of uses, sorted. -/
def srt (l : List Use1) : List Use1 := l.mergeSort fun x y => !(ltOf cmpU) y x
/-- A list of uses in order, each once. -/
def sd (l : List Use1) : List Use1 := compactUpTo (srt l).toArray (srt l).length

theorem srt_pair (l : List Use1) : (srt l).Pairwise fun x y => ¬ ltU y x := by
  have := List.pairwise_mergeSort (le := fun x y => !(ltOf cmpU) y x) (l := l)
    (fun a b c h k => by
      simp only [Bool.not_eq_true', ltOf_false] at *
      intro g
      rcases ltU_tri b a with e | e | e
      · exact h e
      · subst e; exact k g
      · exact k (ltU_trans g e))
    (fun a b => by
      simp only [Bool.or_eq_true, Bool.not_eq_true', ltOf_false]
      by_cases h : ltU b a
      · exact .inr fun g => ltU_irrefl _ (ltU_trans h g)
      · exact .inl h)
  refine List.Pairwise.imp ?_ this
  intro a b h
  simpa [ltOf_false] using h
theorem srt_len (l : List Use1) : (srt l).length = l.length := by simp [srt]
theorem mem_srt {l : List Use1} {x : Use1} : x ∈ srt l ↔ x ∈ l := List.mem_mergeSort

theorem compact_pair (d : List Use1) (h : d.Pairwise fun x y => ¬ ltU y x) : (compactUpTo d.toArray d.length).Pairwise ltU := by
  unfold compactUpTo
  rw [List.pairwise_map]
  have hr : (List.range d.length).Pairwise (· < ·) := List.pairwise_lt_range
  refine List.Pairwise.imp_of_mem ?_ (hr.filter (keeps d.toArray))
  intro i j hi hj hlt
  simp only [List.mem_filter, List.mem_range] at hi hj
  have hk : d.toArray[j]! ≠ d.toArray[j - 1]! := by
    have := hj.2
    unfold keeps at this
    simp only [decide_eq_true_eq] at this
    rcases this with e | e
    · omega
    · exact e
  rw [getElem!_pos d.toArray j (by simpa using hj.1), getElem!_pos d.toArray (j - 1) (by simp; omega)] at hk
  rw [getElem!_pos d.toArray j (by simpa using hj.1), getElem!_pos d.toArray i (by simpa using hi.1)]
  simp only [List.getElem_toArray] at hk ⊢
  have a : ¬ ltU d[j] d[j - 1] := List.pairwise_iff_getElem.1 h (j - 1) j (by omega) hj.1 (by omega)
  have lt1 : ltU d[j - 1] d[j] := by
    rcases ltU_tri d[j - 1] d[j] with e | e | e
    · exact e
    · exact absurd e.symm hk
    · exact absurd e a
  by_cases hij : i = j - 1
  · subst hij; exact lt1
  · have b : ¬ ltU d[j - 1] d[i] := List.pairwise_iff_getElem.1 h i (j - 1) (by omega) (by omega) (by omega)
    rcases ltU_tri d[i] d[j - 1] with e | e | e
    · exact ltU_trans e lt1
    · rw [e]; exact lt1
    · exact absurd e b

theorem mem_compact (d : List Use1) (x : Use1) : x ∈ compactUpTo d.toArray d.length ↔ x ∈ d := by
  unfold compactUpTo
  simp only [List.mem_map, List.mem_filter, List.mem_range]
  constructor
  · rintro ⟨i, ⟨hi, _⟩, rfl⟩
    rw [getElem!_pos d.toArray i (by simpa using hi)]
    simp
  · intro hx
    obtain ⟨i, hi, rfl⟩ := List.mem_iff_getElem.1 hx
    clear hx
    induction i with
    | zero => exact ⟨0, ⟨hi, by simp [keeps]⟩, by rw [getElem!_pos d.toArray 0 (by simpa using hi)]; simp⟩
    | succ i ih =>
      by_cases hk : keeps d.toArray (i + 1) = true
      · exact ⟨i + 1, ⟨hi, hk⟩, by rw [getElem!_pos d.toArray (i + 1) (by simpa using hi)]; simp⟩
      · obtain ⟨j, hj, e⟩ := ih (by omega)
        refine ⟨j, hj, e.trans ?_⟩
        unfold keeps at hk
        simp only [decide_eq_true_eq, not_or, Nat.add_eq_zero_iff, Nat.succ_ne_self, and_false, not_false_eq_true, true_and, Decidable.not_not, Nat.add_sub_cancel] at hk
        rw [getElem!_pos d.toArray (i + 1) (by simpa using hi), getElem!_pos d.toArray i (by simp; omega)] at hk
        simpa using hk.symm

theorem sd_pair (l : List Use1) : (sd l).Pairwise ltU := compact_pair _ (srt_pair l)
theorem mem_sd {l : List Use1} {x : Use1} : x ∈ sd l ↔ x ∈ l := by
  unfold sd; rw [mem_compact, mem_srt]

/-- Two lists in order that have the same members are one. -/
theorem pair_unique : ∀ {l m : List Use1}, l.Pairwise ltU → m.Pairwise ltU → (∀ x, x ∈ l ↔ x ∈ m) → l = m
  | [], [], _, _, _ => rfl
  | [], b :: m, _, _, h => by have := (h b).2 (by simp); simp at this
  | a :: l, [], _, _, h => by have := (h a).1 (by simp); simp at this
  | a :: l, b :: m, hl, hm, h => by
    obtain ⟨hl1, hl2⟩ := List.pairwise_cons.1 hl
    obtain ⟨hm1, hm2⟩ := List.pairwise_cons.1 hm
    have hab : a = b := by
      rcases List.mem_cons.1 ((h a).1 (by simp)) with e | e
      · exact e
      · rcases List.mem_cons.1 ((h b).2 (by simp)) with e' | e'
        · exact e'.symm
        · exact absurd (ltU_trans (hm1 a e) (hl1 b e')) (ltU_irrefl _)
    subst hab
    congr 1
    refine pair_unique hl2 hm2 fun x => ⟨fun hx => ?_, fun hx => ?_⟩
    · rcases List.mem_cons.1 ((h x).1 (List.mem_cons_of_mem _ hx)) with e | e
      · subst e; exact absurd (hl1 x hx) (ltU_irrefl _)
      · exact e
    · rcases List.mem_cons.1 ((h x).2 (List.mem_cons_of_mem _ hx)) with e | e
      · subst e; exact absurd (hm1 x hx) (ltU_irrefl _)
      · exact e

theorem sd_congr {l m : List Use1} (h : ∀ x, x ∈ l ↔ x ∈ m) : sd l = sd m :=
  pair_unique (sd_pair l) (sd_pair m) fun x => by rw [mem_sd, mem_sd, h]
theorem sd_sd (l : List Use1) : sd (sd l) = sd l := sd_congr fun _ => mem_sd
theorem sd_reverse (l : List Use1) : sd l.reverse = sd l := sd_congr fun _ => by simp
theorem sd_twice (l : List Use1) : sd (sd l ++ l) = sd l := sd_congr fun x => by simp [mem_sd]
theorem sd_len (l : List Use1) : (sd l).length ≤ l.length := by
  unfold sd compactUpTo
  rw [List.length_map]
  refine Nat.le_trans (List.length_filter_le _ _) ?_
  rw [List.length_range, srt_len]
  exact Nat.le_refl _
end Go.Proofs.YtnalfjaojcahhaaGreatDoor
namespace Go.Proofs.YtnalfjaojcahhaaGreatDoor
open Go.RowKit Go.Sort
attribute [local go_sem ↓] Go.wp_at_zero Go.wp_at_succ

theorem isNaN_i (a : Int) (w : World) : Calls Tryz.prog 54 #[.int .i64 a] w fun e w' => e = .returned (.bool false) ∧ w = w' := by
  go_enter Tryz.func54, Tryz.ntmps54
  go_wp2
  go_ret
  exact ⟨by simp, rfl⟩

theorem compare_i (a b : Int) (w : World) : Calls Tryz.prog 28 #[.int .i64 a, .int .i64 b] w fun e w' => e = .returned (.int .i64 (cmpI a b)) ∧ w = w' := by
  go_enter Tryz.func28, Tryz.ntmps28
  go_wp2_with (go_at_call 54; refine (isNaN_i _ _).mono ?_; rintro e w' ⟨rfl, rfl⟩)
  all_goals (go_ret; refine ⟨?_, rfl⟩; unfold cmpI; congr 2; repeat' split)
  all_goals first | rfl | omega

/-- r is the first of two that is not 0. -/
def Or2 (x y r : Int) : Prop := (if x ≠ 0 then x else y) = r

theorem or2 (b : Nat) (x y r : Int) (w : World) (hr : Or2 x y r) (h0 : w.cell? ⟨b, 0, none⟩ = some (.int .i64 x)) (h1 : w.cell? ⟨b, 1, none⟩ = some (.int .i64 y)) :
    Calls Tryz.prog 27 #[.slice (some ⟨b, 0, none⟩) 2 2] w fun e w' => e = .returned (.int .i64 r) ∧ w = w' := by
  unfold Or2 at hr
  by_cases hx : x = 0
  · by_cases hy : y = 0
    · subst hx hy
      obtain rfl : 0 = r := by simpa using hr
      clear hr
      go_enter Tryz.func27, Tryz.ntmps27
      go_wp2
      refine wp_loop_rounds 3 ?_
      rw [rounds_succ]; go_wp2
      rw [rounds_succ]; go_wp2
      rw [rounds_succ]; go_wp2
      go_ret; exact ⟨rfl, rfl⟩
    · subst hx
      obtain rfl : y = r := by simpa [hy] using hr
      clear hr
      have H : (y != 0) = true := by simpa using hy
      clear hy
      go_enter Tryz.func27, Tryz.ntmps27
      go_wp2
      refine wp_loop_rounds 3 ?_
      rw [rounds_succ]; go_wp2
      rw [rounds_succ]; go_wp2
      go_ret; exact ⟨rfl, rfl⟩
  · obtain rfl : x = r := by simpa [hx] using hr
    clear hr
    have H : (x != 0) = true := by simpa using hx
    clear hx
    go_enter Tryz.func27, Tryz.ntmps27
    go_wp2
    refine wp_loop_rounds 3 ?_
    rw [rounds_succ]; go_wp2
    go_ret; exact ⟨rfl, rfl⟩

theorem closure1 (x y : Use1) (w : World) : Calls Tryz.prog 26 #[.agg #[.int .i64 x.1, .int .i64 x.2], .agg #[.int .i64 y.1, .int .i64 y.2]] w fun e w' => e = .returned (.int .i64 (cmpU x y)) ∧ ∃ q os', w' = Go.Sort.grow (w.drewN q) os' := by
  obtain ⟨xm, xa⟩ := x
  obtain ⟨ym, ya⟩ := y
  have hr : Or2 (cmpI xa ya) (cmpI xm ym) (cmpU (xm, xa) (ym, ya)) := rfl
  generalize cmpU (xm, xa) (ym, ya) = r at hr ⊢
  go_enter Tryz.func26, Tryz.ntmps26
  go_wp2_with fail
  go_region_held3 (fun w' => w'.cell? ⟨w.heap.size, 0, none⟩ = some (.int .i64 xm) ∧ w'.cell? ⟨w.heap.size, 1, none⟩ = some (.int .i64 xa) ∧ w'.cell? ⟨w.heap.size + 1, 0, none⟩ = some (.int .i64 ym) ∧ w'.cell? ⟨w.heap.size + 1, 1, none⟩ = some (.int .i64 ya)) (go_keep)
    (first | (go_at_call 28; refine (compare_i _ _ _).mono ?_; rintro e w' ⟨rfl, rfl⟩) | (go_at_call 27; refine (or2 _ (cmpI xa ya) (cmpI xm ym) r _ hr ?h0 ?h1).mono ?hm; (case h0 => go_simp); (case h1 => go_simp); rintro e w' ⟨rfl, rfl⟩))
  go_wp2
  go_ret
  exact ⟨rfl, 1, _, by rw [alloc_eq_grow, alloc_eq_grow, alloc_eq_grow, grow_grow, grow_grow]; rfl⟩

theorem closure2 (x y : Use1) (w : World) : Calls Tryz.prog 30 #[.agg #[.int .i64 x.1, .int .i64 x.2], .agg #[.int .i64 y.1, .int .i64 y.2]] w fun e w' => e = .returned (.bool (decide (x = y))) ∧ ∃ os', w' = Go.Sort.grow w os' := by
  obtain ⟨xm, xa⟩ := x
  obtain ⟨ym, ya⟩ := y
  have hs : decide (((xm, xa) : Use1) = (ym, ya)) = (xm == ym && xa == ya) := by
    rw [Bool.eq_iff_iff]
    simp
  generalize decide (((xm, xa) : Use1) = (ym, ya)) = r at hs ⊢
  go_enter Tryz.func30, Tryz.ntmps30
  go_wp2_with fail
  all_goals (go_ret; refine ⟨by simp [*], _, by rw [alloc_eq_grow, alloc_eq_grow, grow_grow]⟩)
end Go.Proofs.YtnalfjaojcahhaaGreatDoor
namespace Go.Proofs.YtnalfjaojcahhaaGreatDoor
open Go.RowKit Go.Sort Go.Proofs
section
variable {α : Type} [Inhabited α] {enc : α → List Value} {k : Nat}

theorem setMany_set (hk : ∀ x, (enc x).length = k) (d : Array α) (i : Nat) (y : α) (hi : i < d.size) :
    setMany (flatK enc k d) (i * k) (enc y) = flatK enc k (d.setIfInBounds i y) := by
  refine ext_get! (by simp) fun t ht => ?_
  have ht' : t < d.size * k := by simpa using ht
  have k0 : 0 < k := by rcases Nat.eq_zero_or_pos k with h | h; · subst h; simp at ht'
                        · exact h
  have hb : t / k < d.size := Nat.div_lt_of_lt_mul (by rw [Nat.mul_comm]; exact ht')
  rw [get_setMany _ _ _ t (by simpa using ht'), get_flatK _ _ _ t ht', get_flatK _ _ _ t (by simpa using ht'), hk]
  by_cases a : t / k = i
  · rw [if_pos ((blk_iff k i t k0).2 a)]
    have e : t - i * k = t % k := by subst a; rw [Nat.mod_eq_sub_div_mul]
    rw [e, a]
    congr 1
    rw [getElem!_pos (d.setIfInBounds i y) i (by simpa using hi)]
    simp
  · rw [if_neg (fun h => a ((blk_iff k i t k0).1 h))]
    congr 2
    rw [getElem!_pos (d.setIfInBounds i y) (t / k) (by simpa using hb), getElem!_pos d (t / k) hb]
    rw [Array.getElem_setIfInBounds]
    · simp [Ne.symm a]
    · exact hb

theorem SWK.set {w0 W : World} {blk off : Nat} {dk : Array α} (h : SWK enc k w0 blk off dk W) (hk : ∀ x, (enc x).length = k) (hblk : blk < w0.heap.size) (i : Nat) (hi : i < dk.size) (y : α) :
    SWK enc k w0 blk off (dk.setIfInBounds i y) (W.setCells blk (off + i * k) (enc y)) := by
  obtain ⟨n, os, rfl⟩ := h
  refine ⟨n, os, ?_⟩
  unfold sortWorldK
  rw [← putRowK_grow enc k (Sort.ahead w0 n) os blk off dk hblk, ← putRowK_grow enc k (Sort.ahead w0 n) os blk off _ hblk]
  unfold putRowK
  rw [setCells_putRow _ _ _ _ _ _ (by rw [hk, size_flatK]; exact rowK_bnd dk k i hi), setMany_set hk dk i y hi]

theorem setCells_append (w : World) (b : Nat) : ∀ (xs ys : List Value) (o : Nat), w.setCells b o (xs ++ ys) = (w.setCells b o xs).setCells b (o + xs.length) ys
  | [], _, _ => rfl
  | x :: xs, ys, o => by
    rw [List.cons_append, World.setCells, setCells_append _ b xs ys (o + 1), World.setCells, List.length_cons, show o + 1 + xs.length = o + (xs.length + 1) by omega]

theorem SWK.fill {w0 : World} {blk off : Nat} (hk : ∀ x, (enc x).length = k) (hblk : blk < w0.heap.size) (z : α) : ∀ (m i : Nat) (dk : Array α) (W : World), SWK enc k w0 blk off dk W → i + m ≤ dk.size →
    ∃ d', d'.size = dk.size ∧ (∀ j, j < i → d'[j]! = dk[j]!) ∧ SWK enc k w0 blk off d' (W.setCells blk (off + i * k) ((List.replicate m z).flatMap enc))
  | 0, i, dk, W, h, _ => ⟨dk, rfl, fun _ _ => rfl, h⟩
  | m + 1, i, dk, W, h, hm => by
    have h1 := SWK.set h hk hblk i (by omega) z
    obtain ⟨d', hs, hj, hw⟩ := SWK.fill hk hblk z m (i + 1) _ _ h1 (by simp; omega)
    refine ⟨d', by simpa using hs, fun j hji => ?_, ?_⟩
    · rw [hj j (by omega), getElem!_pos (dk.setIfInBounds i z) j (by simp; omega), getElem!_pos dk j (by omega), Array.getElem_setIfInBounds]
      · simp [show i ≠ j by omega]
      · omega
    · rw [List.replicate_succ, List.flatMap_cons, setCells_append, hk]
      rw [Nat.add_mul, Nat.one_mul, ← Nat.add_assoc] at hw
      exact hw

end
section
variable {α : Type} {enc : α → List Value} {k : Nat}
theorem zeroCells_flat (z : α) (hk : (enc z).length = k) (hk0 : 0 < k) : ∀ n : Nat, (Builtin.zeroCells (enc z).toArray n).toList = (List.replicate n z).flatMap enc := by
  intro n
  apply List.ext_getElem?
  intro t
  simp only [Builtin.zeroCells, List.size_toArray, hk]
  by_cases ht : t < n * k
  · have hn : t / k < n := Nat.div_lt_of_lt_mul (by rw [Nat.mul_comm]; exact ht)
    have hmod : t % k < k := Nat.mod_lt _ hk0
    have hf : ∀ (n i : Nat), i < n → ((List.replicate n z).flatMap enc)[i * k + t % k]? = (enc z)[t % k]? := by
      intro n
      induction n with
      | zero => intro i h; omega
      | succ n ih =>
        intro i h
        rw [List.replicate_succ, List.flatMap_cons]
        cases i with
        | zero => rw [Nat.zero_mul, Nat.zero_add, List.getElem?_append_left (by omega)]
        | succ i =>
          rw [List.getElem?_append_right (by rw [hk, Nat.add_mul]; omega), hk, Nat.add_mul, Nat.one_mul, show i * k + k + t % k - k = i * k + t % k by omega]
          exact ih i (by omega)
    have e := hf n (t / k) hn
    rw [Nat.div_mul_self_eq_mod_sub_self, Nat.sub_add_cancel (Nat.mod_le t k)] at e
    rw [e, List.getElem?_eq_getElem (by simpa using ht), List.getElem?_eq_getElem (by omega)]
    simp [hmod, hk]
  · rw [List.getElem?_eq_none (by simp; omega), List.getElem?_eq_none]
    have : ∀ n : Nat, ((List.replicate n z).flatMap enc).length = n * k := by
      intro n
      induction n with
      | zero => simp
      | succ n ih => rw [List.replicate_succ, List.flatMap_cons, List.length_append, ih, hk, Nat.add_mul]; omega
    rw [this]; omega
end
section
variable {α : Type} [Inhabited α] {enc : α → List Value} {k : Nat}
theorem SWK.below {w0 W : World} {blk off : Nat} {dk : Array α} (h : SWK enc k w0 blk off dk W) {B : Nat} (hB : B ≤ blk) (hB' : B ≤ w0.heap.size) : Below B w0 W := by
  have hle := h.le
  obtain ⟨n, os, rfl⟩ := h
  refine ⟨rfl, rfl, rfl, hle, fun j hj => ?_⟩
  unfold sortWorldK
  rw [heap_grow_old _ _ (by rw [size_putRowK]; show j < w0.heap.size; omega)]
  unfold putRowK putRow mapBlock
  simp only [Array.getElem?_modify, heap_ahead]
  rw [if_neg (by omega)]

/-- A row of the call's own, as the sort's kit says it. -/
theorem holdsK_of_own {w : World} {base g n cap : Nat} {e : TypeId} {xs : List α} (hk : ∀ x, (enc x).length = k) (hn : xs.length = n)
    (h : w.ownsRow base e k (.slice (some ⟨g, 0, none⟩) n cap) n (xs.flatMap enc)) : HoldsK enc k w g 0 xs.toArray := by
  intro j hj
  rw [size_flatK] at hj
  have hj' : j < n * k := by simpa [hn] using hj
  have k0 : 0 < k := by rcases Nat.eq_zero_or_pos k with h | h; · subst h; simp at hj'
                        · exact h
  have hb : j / k < xs.length := by rw [hn]; exact Nat.div_lt_of_lt_mul (by rw [Nat.mul_comm]; exact hj')
  have hm : j % k < k := Nat.mod_lt _ k0
  rw [Nat.zero_add, h.cellAt j hj', h.frozenAt j, get_flatK _ _ _ _ hj]
  refine ⟨?_, rfl⟩
  have e := flat_get hk xs (j / k) (j % k) hb hm
  rw [Nat.div_mul_self_eq_mod_sub_self, Nat.sub_add_cancel (Nat.mod_le j k)] at e
  rw [e, getElem!_pos xs.toArray (j / k) (by simpa using hb), List.getElem_toArray, List.getElem?_eq_getElem (by rw [hk]; exact hm)]
  congr 1
  rw [getElem!_pos _ (j % k) (by rw [hk]; exact hm)]; rfl

/-- A row as the sort's kit says it reads as a list. -/
theorem reads_of_holds {w : World} {blk off m : Nat} {d : Array α} {xs : List α} (hk : ∀ x, (enc x).length = k) (H : HoldsK enc k w blk off d) (hm : xs.length = m) (hd : ∀ j, j < m → xs[j]? = some d[j]!) (hs : m ≤ d.size) (hb : blk < w.heap.size) :
    Reads w w.heap.size k (some ⟨blk, off, none⟩) m (xs.flatMap enc) := by
  refine ⟨by rw [flat_len hk, hm], fun hpos => ⟨_, rfl, hb, fun j u hu => ?_⟩⟩
  have hj : j < m * k := by
    have := (List.getElem?_eq_some_iff.1 hu).1
    rwa [flat_len hk, hm] at this
  have k0 : 0 < k := by rcases Nat.eq_zero_or_pos k with h | h; · subst h; simp at hj
                        · exact h
  have hb' : j / k < m := Nat.div_lt_of_lt_mul (by rw [Nat.mul_comm]; exact hj)
  have hmod : j % k < k := Nat.mod_lt _ k0
  have e := flat_get hk xs (j / k) (j % k) (by omega) hmod
  rw [Nat.div_mul_self_eq_mod_sub_self, Nat.sub_add_cancel (Nat.mod_le j k)] at e
  have c := (H.cell (i := j / k) (c := j % k) (by omega) hmod).1
  rw [add_at, show off + j = off + (j / k) * k + j % k by rw [Nat.add_assoc, Nat.div_mul_self_eq_mod_sub_self, Nat.sub_add_cancel (Nat.mod_le j k)], c]
  have hx := hd (j / k) hb'
  rw [List.getElem?_eq_getElem (by omega)] at hx
  injection hx with hx
  rw [hu, List.getElem?_eq_getElem (by rw [hk]; exact hmod)] at e
  injection e with e
  rw [e, getElem!_pos _ (j % k) (by rw [hk]; exact hmod)]
  simp only [hx]
end
end Go.Proofs.YtnalfjaojcahhaaGreatDoor
namespace Go.Proofs.YtnalfjaojcahhaaGreatDoor
open Go.RowKit Go.Sort Go.Lib Go.Proofs
attribute [local go_sem ↓] Go.wp_at_zero Go.wp_at_succ

theorem usC_len (x : Use1) : (usC x).length = 2 := rfl
theorem usC_all (x : Use1) : ∀ v ∈ usC x, v.oneCell' = true := by
  intro v hv
  simp only [usC, List.mem_cons, List.not_mem_nil, or_false] at hv
  rcases hv with rfl | rfl <;> rfl
/-- The zero use. -/
def zU : Use1 := (0, 0)

theorem closure2_same (x : Use1) (w : World) : Calls Tryz.prog 30 #[.agg #[.int .i64 x.1, .int .i64 x.2], .agg #[.int .i64 x.1, .int .i64 x.2]] w fun e w' => e = .returned (.bool true) ∧ ∃ os', w' = Go.Sort.grow w os' := by
  have := closure2 x x w
  simpa using this
theorem closure2_diff (x y : Use1) (h : x ≠ y) (w : World) : Calls Tryz.prog 30 #[.agg #[.int .i64 x.1, .int .i64 x.2], .agg #[.int .i64 y.1, .int .i64 y.2]] w fun e w' => e = .returned (.bool false) ∧ ∃ os', w' = Go.Sort.grow w os' := by
  have := closure2 x y w
  simpa [h] using this

/-- What CompactFunc leaves. -/
def CompactLeaves (d : Array Use1) (blk off cap : Nat) (w : World) (e : Ending) (w' : World) : Prop :=
  e = .returned (.slice (some ⟨blk, off, none⟩) (compactUpTo d d.size).length cap) ∧ ∃ d' : Array Use1, d'.size = d.size ∧ (∀ j, j < (compactUpTo d d.size).length → (compactUpTo d d.size)[j]? = some d'[j]!) ∧ SWK usC 2 w blk off d' w'

theorem leaves_same {d : Array Use1} {blk off cap : Nat} {w w' : World} (hS : SWK usC 2 w blk off d w') (hall : ∀ j, j < d.size → keeps d j = true) : CompactLeaves d blk off cap w (.returned (.slice (some ⟨blk, off, none⟩) d.size cap)) w' := by
  have e : compactUpTo d d.size = d.toList := by rw [compactUpTo_all d _ hall, range_map_get]
  refine ⟨by rw [e]; simp, d, rfl, fun j hj => ?_, hS⟩
  rw [e] at hj ⊢
  have hj' : j < d.size := by simpa using hj
  rw [getElem!_pos d j hj', List.getElem?_eq_getElem (by simpa using hj')]
  simp

theorem hcells {w w' : World} {blk off : Nat} {d dk : Array Use1} (hS : SWK usC 2 w blk off dk w') (hblk : blk < w.heap.size) (hH : HoldsK usC 2 w blk off d) (hs : dk.size = d.size) {i : Nat} (hi : i < dk.size) :
    w'.cell? ⟨blk, off + i * 2, none⟩ = some (.int .i64 dk[i]!.1) ∧ w'.cell? ⟨blk, off + i * 2 + 1, none⟩ = some (.int .i64 dk[i]!.2) := by
  have H := hS.holds hblk hH hs
  exact ⟨(H.cell hi (show 0 < 2 by omega)).1, (H.cell hi (show 1 < 2 by omega)).1⟩
theorem hfrozen {w w' : World} {blk off : Nat} {d dk : Array Use1} (hS : SWK usC 2 w blk off dk w') (hblk : blk < w.heap.size) (hH : HoldsK usC 2 w blk off d) (hs : dk.size = d.size) {i : Nat} (hi : i < dk.size) :
    w'.frozen? ⟨blk, off + i * 2, none⟩ = false ∧ w'.frozen? ⟨blk, off + i * 2 + 1, none⟩ = false := by
  have H := hS.holds hblk hH hs
  exact ⟨(H.cell hi (show 0 < 2 by omega)).2, (H.cell hi (show 1 < 2 by omega)).2⟩

theorem clear_run (a : Addr) (m c : Nat) (ty : TypeId) (w w2 : World) (h : (storeCells a (Builtin.zeroCells (Value.agg #[.int .i64 0, .int .i64 0]).cells (m + 1)).toList 0).run Tryz.prog w = .ok () w2) :
    (Builtin.clear_ #[28] ty #[.slice (some a) (m + 1) c]).run Tryz.prog w = .ok (.tuple #[]) w2 := by
  simp only [Builtin.clear_, List.getElem?_toArray, List.getElem?_cons_zero, Sem.run_bind, Sem.run_pure, run_underlying Tryz.underlying28, Result.andThen_ok, Tryz.zeroValue32, h]

set_option maxHeartbeats 1000000 in
theorem compact_any (blk off cap : Nat) (d : Array Use1) (w : World) (hH : HoldsK usC 2 w blk off d) (hblk : blk < w.heap.size) (hsz : d.size ≤ 2000000) (hcap : d.size ≤ cap) :
    Calls Tryz.prog 29 #[.slice (some ⟨blk, off, none⟩) d.size cap, .func (.func 30) #[] #[]] w fun e w' => CompactLeaves d blk off cap w e w' := by
  have HH : Aside (HoldsK usC 2 w blk off d) := hH
  have hS0 : SWK usC 2 w blk off d w := SWK.start hH
  clear hH
  by_cases h2 : d.size < 2
  · go_enter Tryz.func29, Tryz.ntmps29
    go_wp2
    go_ret
    exact leaves_same hS0 (fun j hj => keeps_lt_one d j (by omega))
  · go_enter Tryz.func29, Tryz.ntmps29
    go_wp2
    go_loopg [5] d.size (fun g s5 wr => ∃ k : Nat, 1 ≤ k ∧ k ≤ d.size ∧ d.size - k ≤ g ∧ s5 = .int .i64 k ∧ SWK usC 2 w blk off d wr ∧ ∀ j, j < k → keeps d j = true)
    case atStart => exact ⟨1, Nat.le_refl _, by omega, by omega, rfl, hS0, keeps_lt_one d⟩
    case round =>
      obtain ⟨k, hk1, hk, hg, rfl, hS, hall⟩ := hrel
      have HS : Aside (SWK usC 2 w blk off d wr) := hS
      have hbw := hS.lt hblk
      clear hS0
      by_cases hlt : k < d.size
      · obtain ⟨a0, a1⟩ := hcells hS hblk HH.out rfl hlt
        obtain ⟨b0, b1⟩ := hcells hS hblk HH.out rfl (i := k - 1) (by omega)
        have AL : Aside (∀ j, j < k → keeps d j = true) := hall
        clear hall hS
        generalize hx : d[k]! = x at a0 a1
        generalize hy : d[k - 1]! = y at b0 b1
        have B : Aside (d[k]! = x ∧ d[k - 1]! = y) := ⟨hx, hy⟩
        clear hx hy
        have p1 : (0 : Int) ≤ (k : Int) - 1 := by omega
        have p3 : (1 : Int) ≤ (k : Int) := by omega
        have p2 : (k : Int) - 1 < (d.size : Int) := by omega
        have q2 : ((k : Int) - 1).toNat = k - 1 := by omega
        have q1 : IntKind.i64.wrap ((k : Int) - 1) = (k : Int) - 1 := IntWalk.i64_in _ (by omega)
        by_cases hdup : x = y
        · subst hdup
          go_wp2_with fail
          go_region_held3 (fun w' => w'.cell? ⟨blk, off + k * 2, none⟩ = some (.int .i64 x.1) ∧ w'.cell? ⟨blk, off + k * 2 + 1, none⟩ = some (.int .i64 x.2) ∧ w'.cell? ⟨blk, off + (k - 1) * 2, none⟩ = some (.int .i64 x.1) ∧ w'.cell? ⟨blk, off + (k - 1) * 2 + 1, none⟩ = some (.int .i64 x.2))
            (first | go_keep | (go_split_ands; refine ⟨?_, ?_, ?_, ?_⟩ <;> (rw [cell?_grow _ _ _ hbw]; assumption)))
            (first | (go_at_call 30; refine (closure2_same _ _).mono ?_; rintro e w' ⟨rfl, os, rfl⟩))
          have HW : Aside (SWK usC 2 w blk off d (Go.Sort.grow wr os).drew) := (SWK.grown HS.out 0 os).drew
          have AK : Aside (keeps d k = false) := keeps_neg (by omega) (by rw [B.out.1, B.out.2])
          clear a0 a1 b0 b1 p1 p2 p3 q1 q2 B
          go_wp2_with fail
          go_loopg [5, 7] d.size (fun g s5 s7 wx => ∃ (kk k2 : Nat) (dk : Array Use1), s5 = .int .i64 kk ∧ s7 = .int .i64 k2 ∧ 1 ≤ k2 ∧ k + k2 ≤ d.size ∧ d.size - (k + k2) ≤ g ∧ SWK usC 2 w blk off dk wx ∧ CompInv d (k + k2) kk dk)
          case atStart => exact ⟨k, 1, d, rfl, rfl, Nat.le_refl _, by omega, by omega, HW.out, CompInv.start AL.out AK.out⟩
          case round =>
            obtain ⟨kk, k2, dk, rfl, rfl, h1, hle, hg2, hS2, hI⟩ := hrel
            have hkk := hI.lt
            have hds := hI.size
            have H2 : Aside (SWK usC 2 w blk off dk wr) := hS2
            have I2 : Aside (CompInv d (k + k2) kk dk) := hI
            have hbx := hS2.lt hblk
            by_cases hlt2 : k + k2 < d.size
            · obtain ⟨a0, a1⟩ := hcells hS2 hblk HH.out hds (i := k + k2) (by omega)
              obtain ⟨b0, b1⟩ := hcells hS2 hblk HH.out hds (i := k + k2 - 1) (by omega)
              rw [hI.high (k + k2) (by omega), show off + (k + k2) * 2 = off + k * 2 + k2 * 2 by omega] at a0 a1
              rw [hI.high (k + k2 - 1) (by omega), show off + (k + k2 - 1) * 2 = off + k * 2 + (k2 - 1) * 2 by omega] at b0 b1
              clear hS2 hI
              generalize hu : d[k + k2]! = u at a0 a1
              generalize hv : d[k + k2 - 1]! = v at b0 b1
              have C : Aside (d[k + k2]! = u ∧ d[k + k2 - 1]! = v) := ⟨hu, hv⟩
              clear hu hv
              have p0 : (k2 : Int) < ((d.size - k : Nat) : Int) := by omega
              have p1 : (0 : Int) ≤ (k2 : Int) - 1 := by omega
              have p3 : (1 : Int) ≤ (k2 : Int) := by omega
              have p2 : (k2 : Int) - 1 < ((d.size - k : Nat) : Int) := by omega
              have q2 : ((k2 : Int) - 1).toNat = k2 - 1 := by omega
              have q1 : IntKind.i64.wrap ((k2 : Int) - 1) = (k2 : Int) - 1 := IntWalk.i64_in _ (by omega)
              by_cases huv : u = v
              · subst huv
                go_wp2_with fail
                go_region_held3 (fun w' => w'.cell? ⟨blk, off + k * 2 + k2 * 2, none⟩ = some (.int .i64 u.1) ∧ w'.cell? ⟨blk, off + k * 2 + k2 * 2 + 1, none⟩ = some (.int .i64 u.2) ∧ w'.cell? ⟨blk, off + k * 2 + (k2 - 1) * 2, none⟩ = some (.int .i64 u.1) ∧ w'.cell? ⟨blk, off + k * 2 + (k2 - 1) * 2 + 1, none⟩ = some (.int .i64 u.2))
                  (first | go_keep | (go_split_ands; refine ⟨?_, ?_, ?_, ?_⟩ <;> (rw [cell?_grow _ _ _ hbx]; assumption)))
                  (first | (go_at_call 30; refine (closure2_same _ _).mono ?_; rintro e w' ⟨rfl, os2, rfl⟩))
                go_wp2_with fail
                go_roundg (d.size - (k + (k2 + 1)))
                case measure => omega
                case rel => exact ⟨kk, k2 + 1, dk, rfl, by go_num, by omega, by omega, Nat.le_refl _, (SWK.grown H2.out 0 os2).drew, I2.out.skip (keeps_neg (by omega) (by rw [C.out.1, C.out.2]))⟩
              · go_wp2_with fail
                go_region_held3 (fun w' => w'.cell? ⟨blk, off + k * 2 + k2 * 2, none⟩ = some (.int .i64 u.1) ∧ w'.cell? ⟨blk, off + k * 2 + k2 * 2 + 1, none⟩ = some (.int .i64 u.2) ∧ w'.cell? ⟨blk, off + k * 2 + (k2 - 1) * 2, none⟩ = some (.int .i64 v.1) ∧ w'.cell? ⟨blk, off + k * 2 + (k2 - 1) * 2 + 1, none⟩ = some (.int .i64 v.2))
                  (first | go_keep | (go_split_ands; refine ⟨?_, ?_, ?_, ?_⟩ <;> (rw [cell?_grow _ _ _ hbx]; assumption)))
                  (first | (go_at_call 30; refine (closure2_diff _ _ huv _).mono ?_; rintro e w' ⟨rfl, os2, rfl⟩))
                have hS3 : SWK usC 2 w blk off dk (Go.Sort.grow wr.drew os2) := (SWK.grown H2.out 0 os2).drew
                generalize Go.Sort.grow wr.drew os2 = W2 at hS3 ⊢
                clear a0 a1 b0 b1
                obtain ⟨a0, a1⟩ := hcells hS3 hblk HH.out hds (i := k + k2) (by omega)
                rw [I2.out.high (k + k2) (by omega), show off + (k + k2) * 2 = off + k * 2 + k2 * 2 by omega, C.out.1] at a0 a1
                obtain ⟨k0, k1⟩ := hcells hS3 hblk HH.out hds (i := kk) (by omega)
                obtain ⟨f0, f1⟩ := hfrozen hS3 hblk HH.out hds (i := kk) (by omega)
                generalize dk[kk]! = old at k0 k1
                have H3 : Aside (SWK usC 2 w blk off dk W2) := hS3
                clear hS3
                go_wp2_with fail
                go_roundg (d.size - (k + (k2 + 1)))
                case measure => omega
                case rel =>
                  refine ⟨kk + 1, k2 + 1, dk.setIfInBounds kk u, by go_num, by go_num, by omega, by omega, Nat.le_refl _, ?_, ?_⟩
                  · exact SWK.set H3.out usC_len hblk kk (by omega) u
                  · have := I2.out.keep hlt2 (keeps_pos (by rw [C.out.1, C.out.2]; exact huv)); rwa [C.out.1] at this
            · have hend : k + k2 = d.size := by omega
              have hst : ∀ ty, (Builtin.clear_ #[28] ty #[.slice (some ⟨blk, off + kk * 2, none⟩) (d.size - kk) (cap - kk)]).run Tryz.prog wr = .ok (.tuple #[]) (wr.setCells blk (off + kk * 2) ((List.replicate (d.size - kk) zU).flatMap usC)) := by
                intro ty
                have hz : (Builtin.zeroCells (Value.agg #[.int .i64 0, .int .i64 0]).cells (d.size - kk)).toList = (List.replicate (d.size - kk) zU).flatMap usC :=
                  zeroCells_flat (enc := usC) zU (usC_len _) (by omega) _
                have hone : ∀ v ∈ (List.replicate (d.size - kk) zU).flatMap usC, v.oneCell' = true := by
                  intro v hv
                  obtain ⟨x, _, hx⟩ := List.mem_flatMap.1 hv
                  exact usC_all x v hx
                have hst := stores_of_holds Tryz.prog (hS2.holds hblk HH.out hds) (kk * 2) ((List.replicate (d.size - kk) zU).flatMap usC) (by rw [flat_len usC_len, size_flatK, List.length_replicate, ← Nat.add_mul]; exact Nat.mul_le_mul_right 2 (by omega)) hone
                obtain ⟨m, hm⟩ : ∃ m, d.size - kk = m + 1 := ⟨d.size - kk - 1, by omega⟩
                rw [hm] at hz hst ⊢
                exact clear_run _ _ _ _ _ _ (by rw [hz]; exact hst)
              have hfill := SWK.fill usC_len hblk zU (d.size - kk) kk dk wr hS2 (by omega)
              have HF : Aside (∃ d' : Array Use1, d'.size = dk.size ∧ (∀ j, j < kk → d'[j]! = dk[j]!) ∧ SWK usC 2 w blk off d' (wr.setCells blk (off + kk * 2) ((List.replicate (d.size - kk) zU).flatMap usC))) := hfill
              clear hS2 hI hfill
              go_wp2_with fail
              go_ret
              obtain ⟨d', hd1, hd2, hd3⟩ := HF.out
              have hI := I2.out
              rw [hend] at hI
              refine ⟨by rw [hI.len]; rfl, d', by omega, fun j hj => ?_, hd3⟩
              rw [hI.len] at hj
              rw [hI.low j hj, hd2 j hj]
        · go_wp2_with fail
          go_region_held3 (fun w' => w'.cell? ⟨blk, off + k * 2, none⟩ = some (.int .i64 x.1) ∧ w'.cell? ⟨blk, off + k * 2 + 1, none⟩ = some (.int .i64 x.2) ∧ w'.cell? ⟨blk, off + (k - 1) * 2, none⟩ = some (.int .i64 y.1) ∧ w'.cell? ⟨blk, off + (k - 1) * 2 + 1, none⟩ = some (.int .i64 y.2))
            (first | go_keep | (go_split_ands; refine ⟨?_, ?_, ?_, ?_⟩ <;> (rw [cell?_grow _ _ _ hbw]; assumption)))
            (first | (go_at_call 30; refine (closure2_diff _ _ hdup _).mono ?_; rintro e w' ⟨rfl, os, rfl⟩))
          go_wp2_with fail
          go_roundg (d.size - (k + 1))
          case measure => omega
          case rel =>
            refine ⟨k + 1, by omega, by omega, Nat.le_refl _, by go_num, (SWK.grown HS.out 0 os).drew, fun j hj => ?_⟩
            by_cases e : j = k
            · subst e
              exact keeps_pos (by rw [B.out.1, B.out.2]; exact hdup)
            · exact AL.out j (by omega)
      · have hkd : k = d.size := by omega
        have HL : Aside (CompactLeaves d blk off cap w (.returned (.slice (some ⟨blk, off, none⟩) d.size cap)) wr) := leaves_same hS (by rw [← hkd]; exact hall)
        clear hS hall hkd
        go_wp2_with fail
        go_ret
        exact HL.out
end Go.Proofs.YtnalfjaojcahhaaGreatDoor
namespace Go.Proofs.YtnalfjaojcahhaaGreatDoor
open Go.RowKit Go.Lib Go.Proofs

theorem infoUs : (Tryz.prog.info? 32).map (fun i => (i.zero, i.size, i.bytes)) = some (some (.agg #[.int .i64 0, .int .i64 0]), 2, 16) := by kernel_rfl
/-- A row of the call's own, of uses. -/
def OwnU (B : Nat) (w : World) (v : Value) (l : Us) : Prop := w.ownsRow B 32 2 v l.length (usesC l)
section
variable {B : Nat} {w w' : World} {v : Value} {l : Us}
theorem OwnU.nil (B : Nat) (w : World) : OwnU B w (.slice none 0 0) [] := World.ownsRow_nil _ _ _ _
theorem OwnU.keep (h : OwnU B w v l) (hk : ∀ b, B ≤ b → b < w.heap.size → w'.heap[b]? = w.heap[b]?) : OwnU B w' v l := by
  refine ⟨h.1, ?_⟩
  rcases h.2 with h0 | ⟨g, cap, cur, e, hg, hh, r⟩
  · exact .inl h0
  · refine .inr ⟨g, cap, cur, e, hg, ?_, r⟩
    have hlt : g < w.heap.size := by
      rcases Nat.lt_or_ge g w.heap.size with hlt | hge
      · exact hlt
      · rw [Array.getElem?_eq_none hge] at hh; cases hh
    exact (hk g hg hlt).trans hh
theorem OwnU.below (h : OwnU B w v l) (hb : Below w.heap.size w w') : OwnU B w' v l := h.keep fun b _ hlt => hb.block b hlt
theorem OwnU.less {B' : Nat} (h : OwnU B w v l) (hB : B' ≤ B) : OwnU B' w v l := by
  refine ⟨h.1, ?_⟩
  rcases h.2 with h0 | ⟨g, cap, cur, e, hg, r⟩
  · exact .inl h0
  · exact .inr ⟨g, cap, cur, e, Nat.le_trans hB hg, r⟩
theorem OwnU.lt (h : OwnU B w v l) : ∀ g, v.ownBlock = some g → B ≤ g ∧ g < w.heap.size := fun g hg => World.ownsRow.lt h g hg
/-- The form of a row's value. -/
theorem OwnU.form (h : OwnU B w v l) : ∃ A c, v = .slice A l.length c ∧ l.length ≤ c := by
  rcases h.2 with ⟨rfl, h0⟩ | ⟨g, cap, cur, rfl, _, _, hnc, _⟩
  · exact ⟨none, 0, by rw [h0], by omega⟩
  · exact ⟨_, cap, rfl, hnc⟩
end
theorem usC_one (l : Us) : ∀ u ∈ usesC l, u.oneCell' = true := by
  intro u hu
  obtain ⟨x, _, hx⟩ := List.mem_flatMap.1 hu
  unfold usC at hx
  simp only [List.mem_cons, List.not_mem_nil, or_false] at hx
  rcases hx with rfl | rfl <;> rfl
theorem grownBy_of_row {w w' : World} {r : Option Nat} {B : Nat} (h : w.grownBy w' r) (hr : ∀ g, r = some g → B ≤ g) (hB : B ≤ w.heap.size) : Below B w w' :=
  ⟨h.os, h.tape, h.output, h.size, fun k hk => h.block k (by omega) (fun e => by have := hr k e.symm; omega)⟩
theorem wp_pushU {o : Oper} {a : Act} {K : Act → World → Prop} {Q : Exit → Act → World → Prop} (s x : Operand)
    (ho : o.op = .call { callee := .builtin .append, args := #[s, x], argTypes := #[28, 28] })
    (B : Nat) (w1 : World) (u : Value) (l : Us) (m p : Int) (hs : a.eval s = u) (S : Nat) (hx : a.eval x = .slice (some ⟨S, 0, none⟩) 1 1) (hS : w1.heap.size = S)
    (hO : OwnU B w1 u l) (hB : B ≤ w1.heap.size) (hl : l.length ≤ 1000000)
    (h : ∀ g c w2, OwnU B w2 (.slice (some ⟨g, 0, none⟩) (l.length + 1) c) (l ++ [(m, p)]) → Below B w1 w2 → K (a.put o.dst (.slice (some ⟨g, 0, none⟩) (l.length + 1) c)) w2) :
    o.wp Tryz.prog a (w1.alloc (.cells #[.int .i64 m, .int .i64 p] 32)) K Q := by
  subst hS
  obtain ⟨i0, hi, hz0, hz1, hz2⟩ := info_parts infoUs
  refine wp_append_lies _ s x 28 ho B 32 i0 _ 2 16 Tryz.underlying28 hi hz0 hz1 hz2 rfl (by omega) u l.length _ hs (World.ownsRow.alloc hO _) ⟨w1.heap.size, 0, none⟩ 1 1 [.int .i64 m, .int .i64 p] hx rfl
    (World.news_of_block (cs := #[.int .i64 m, .int .i64 p]) (heap_alloc_new _ _)) (usC_one [(m, p)]) (by omega) (by unfold maxLen; omega) (by omega) (by rw [World.size_alloc]; omega) _ rfl ?_
  intro g c w2 hown1 hg hat _
  have e : usesC (l ++ [(m, p)]) = usesC l ++ [.int .i64 m, .int .i64 p] := by unfold usesC; rw [List.flatMap_append]; rfl
  refine h g c w2 ?_ (((Below.refl B w1).alloc hB _).trans (grownBy_of_row hg (fun g hg => (hO.lt g hg).1) (by rw [World.size_alloc]; omega)))
  unfold OwnU
  rw [e, List.length_append]
  exact hown1
theorem wpList_pushU {ops : Array Oper} {rest : List Oper} {o : Oper} {a : Act} {Q : Exit → Act → World → Prop} (hgd : o.guard = none) (s x : Operand)
    (ho : o.op = .call { callee := .builtin .append, args := #[s, x], argTypes := #[28, 28] })
    (B : Nat) (w1 : World) (u : Value) (l : Us) (m p : Int) (hs : a.eval s = u) (S : Nat) (hx : a.eval x = .slice (some ⟨S, 0, none⟩) 1 1) (hS : w1.heap.size = S)
    (hO : OwnU B w1 u l) (hB : B ≤ w1.heap.size) (hl : l.length ≤ 1000000)
    (h : ∀ g c w2, OwnU B w2 (.slice (some ⟨g, 0, none⟩) (l.length + 1) c) (l ++ [(m, p)]) → Below B w1 w2 → wpList Tryz.prog ops Q rest (a.put o.dst (.slice (some ⟨g, 0, none⟩) (l.length + 1) c)) w2) :
    wpList Tryz.prog ops Q (o :: rest) a (w1.alloc (.cells #[.int .i64 m, .int .i64 p] 32)) :=
  wpList_plain hgd fun _ hK => wp_pushU s x ho B w1 u l m p hs S hx hS hO hB hl fun g c w2 h1 h2 => hK _ _ (h g c w2 h1 h2)
/-- A row of uses is appended. -/
theorem wpList_appU {ops : Array Oper} {rest : List Oper} {o : Oper} {a : Act} {Q : Exit → Act → World → Prop} (hgd : o.guard = none) (s x : Operand)
    (ho : o.op = .call { callee := .builtin .append, args := #[s, x], argTypes := #[28, 28] })
    (B B1 : Nat) (w1 : World) (u v : Value) (l m : Us) (hs : a.eval s = u) (hx : a.eval x = v)
    (hO : OwnU B w1 u l) (hV : OwnU B1 w1 v m) (hB : B ≤ w1.heap.size) (hl : l.length + m.length ≤ 1000000)
    (h : ∀ v' w2, OwnU B w2 v' (l ++ m) → Below B w1 w2 → wpList Tryz.prog ops Q rest (a.put o.dst v') w2) :
    wpList Tryz.prog ops Q (o :: rest) a w1 := by
  obtain ⟨i0, hi, hz0, hz1, hz2⟩ := info_parts infoUs
  obtain ⟨A, c, rfl, _⟩ := hV.form
  refine wpList_append_any w1 hgd s x 28 ho B 32 i0 _ 2 16 Tryz.underlying28 hi hz0 hz1 hz2 rfl (by omega) u l.length _ hs hO w1.heap.size A m.length c (usesC m) hx (Reads.of_own hV) (usC_one m) (by unfold maxLen; omega) (by omega) hB ?_
  intro v' w2 hown1 hg _
  refine h v' w2 ?_ (grownBy_of_row hg (fun g hg => (hO.lt g hg).1) hB)
  unfold OwnU usesC
  rw [List.flatMap_append, List.length_append]
  exact hown1
end Go.Proofs.YtnalfjaojcahhaaGreatDoor
