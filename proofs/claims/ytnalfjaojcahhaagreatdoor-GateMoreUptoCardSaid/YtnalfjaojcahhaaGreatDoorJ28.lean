/-
  Uses in order, in plain Lean: the order is total, a sorted and compacted list holds each of its members once, and hangs on the members alone. By an AI agent.
  The order of uses: cmp.Compare at ints, cmp.Or, and the two closures of gate.Uses. By an AI agent.
  A row of elements of k cells in a world of the sort's: one element stored, the row's end cleared. By an AI agent.
-/
import Derived.Test.YtnalfjaojcahhaaGreatDoorJ21
import Derived.Test.YtnalfjaojcahhaaGreatDoorProg
import Derived.Test.YtnalfjaojcahhaaGreatDoorJ00
import Derived.Sort.Walk0
import Derived.Shelf.SlSortCmp.Insertion
import Derived.Lib.SlicesCompact
import Derived.Laws.StructEq
import Derived.WalkKit
import Derived.WalkLawsBesides
import Derived.WalkSpells
import Derived.Lib.Hide
import Derived.Deep.RegionHeld3
import Derived.Deep.DrawnRows
import Derived.Sort.Grow
import Derived.Deep.DeepMust
import Derived.Shelf.SlSortCmp.KitK
import Derived.Shelf.SlicesQ.Reverse
import Derived.Laws.IdiomCopy
namespace Go.Proofs.YtnalfjaojcahhaaGreatDoor
open Go.Sort Go.Lib

/-- Three way comparison of ints. -/
def cmpI (a b : Int) : Int := if a < b then -1 else if b < a then 1 else 0
abbrev Use1 := Int × Int
/-- Three way comparison of uses: where, then which. -/
def cmpU (x y : Use1) : Int := if cmpI x.2 y.2 ≠ 0 then cmpI x.2 y.2 else cmpI x.1 y.1
/-- One use is ahead of another. -/
def ltU (x y : Use1) : Prop := x.2 < y.2 ∨ (x.2 = y.2 ∧ x.1 < y.1)

theorem cmpI_cases (a b : Int) : (a < b ∧ cmpI a b = -1) ∨ (a = b ∧ cmpI a b = 0) ∨ (b < a ∧ cmpI a b = 1) := by
  unfold cmpI
  by_cases h1 : a < b
  · exact .inl ⟨h1, by simp [h1]⟩
  · by_cases h2 : b < a
    · exact .inr (.inr ⟨h2, by simp [h1, h2]⟩)
    · exact .inr (.inl ⟨by omega, by simp [h1, h2]⟩)

theorem ltOf_iff (x y : Use1) : ltOf cmpU x y = true ↔ ltU x y := by
  unfold ltOf ltU cmpU
  rcases cmpI_cases x.2 y.2 with ⟨g, e2⟩ | ⟨g, e2⟩ | ⟨g, e2⟩
  · simp [e2, g]
  · rw [e2]
    have hm : ¬ x.2 < y.2 := by omega
    rcases cmpI_cases x.1 y.1 with ⟨k, e3⟩ | ⟨k, e3⟩ | ⟨k, e3⟩
    · simp [e3, g, k]
    · rw [e3]; simp [g, k]
    · have : ¬ x.1 < y.1 := by omega
      simp [e3, g, this]
  · have hm : ¬ x.2 < y.2 := by omega
    have hm' : ¬ x.2 = y.2 := by omega
    simp [e2, hm, hm']

theorem ltU_irrefl (x : Use1) : ¬ ltU x x := by
  unfold ltU
  omega
theorem ltU_trans {x y z : Use1} (h : ltU x y) (k : ltU y z) : ltU x z := by
  unfold ltU at *
  omega
theorem ltU_tri (x y : Use1) : ltU x y ∨ x = y ∨ ltU y x := by
  obtain ⟨xm, xa⟩ := x
  obtain ⟨ym, ya⟩ := y
  unfold ltU
  simp only [Prod.mk.injEq]
  omega

theorem ltOf_false (x y : Use1) : ltOf cmpU x y = false ↔ ¬ ltU x y := by
  rw [← ltOf_iff]; simp

theorem swoU : SWO (ltOf cmpU) where
  irrefl x := by rw [ltOf_false]; exact ltU_irrefl x
  trans x y z h k := by rw [ltOf_iff] at *; exact ltU_trans h k
  ntrans x y z h k := by
    rw [ltOf_false] at *
    intro g
    rcases ltU_tri x y with a | a | a
    · exact h a
    · subst a; exact k g
    · exact k (ltU_trans a g)
theorem totU (x y : Use1) (h : ltOf cmpU x y = false) (k : ltOf cmpU y x = false) : x = y := by
  rw [ltOf_false] at *
  rcases ltU_tri x y with a | a | a
  · exact absurd a h
  · exact a
  · exact absurd a k

/-- A list of uses, sorted. -/
def srt (l : List Use1) : List Use1 := l.mergeSort fun x y => !(ltOf cmpU) y x
/-- A list of uses in order, each once. -/
def sd (l : List Use1) : List Use1 := compactUpTo (srt l).toArray (srt l).length

theorem srt_pair (l : List Use1) : (srt l).Pairwise fun x y => ¬ ltU y x := by
  have := List.pairwise_mergeSort (le := fun x y => !(ltOf cmpU) y x) (l := l)
    (fun a b c h k => by
      simp only [Bool.not_eq_true', ltOf_false] at *
      intro g
      rcases ltU_tri b a with e | e | e
      · exact h e
      · subst e; exact k g
      · exact k (ltU_trans g e))
    (fun a b => by
      simp only [Bool.or_eq_true, Bool.not_eq_true', ltOf_false]
      by_cases h : ltU b a
      · exact .inr fun g => ltU_irrefl _ (ltU_trans h g)
      · exact .inl h)
  refine List.Pairwise.imp ?_ this
  intro a b h
  simpa [ltOf_false] using h
theorem srt_len (l : List Use1) : (srt l).length = l.length := by simp [srt]
theorem mem_srt {l : List Use1} {x : Use1} : x ∈ srt l ↔ x ∈ l := List.mem_mergeSort

theorem compact_pair (d : List Use1) (h : d.Pairwise fun x y => ¬ ltU y x) : (compactUpTo d.toArray d.length).Pairwise ltU := by
  unfold compactUpTo
  rw [List.pairwise_map]
  have hr : (List.range d.length).Pairwise (· < ·) := List.pairwise_lt_range
  refine List.Pairwise.imp_of_mem ?_ (hr.filter (keeps d.toArray))
  intro i j hi hj hlt
  simp only [List.mem_filter, List.mem_range] at hi hj
  have hk : d.toArray[j]! ≠ d.toArray[j - 1]! := by
    have := hj.2
    unfold keeps at this
    simp only [decide_eq_true_eq] at this
    rcases this with e | e
    · omega
    · exact e
  rw [getElem!_pos d.toArray j (by simpa using hj.1), getElem!_pos d.toArray (j - 1) (by simp; omega)] at hk
  rw [getElem!_pos d.toArray j (by simpa using hj.1), getElem!_pos d.toArray i (by simpa using hi.1)]
  simp only [List.getElem_toArray] at hk ⊢
  have a : ¬ ltU d[j] d[j - 1] := List.pairwise_iff_getElem.1 h (j - 1) j (by omega) hj.1 (by omega)
  have lt1 : ltU d[j - 1] d[j] := by
    rcases ltU_tri d[j - 1] d[j] with e | e | e
    · exact e
    · exact absurd e.symm hk
    · exact absurd e a
  by_cases hij : i = j - 1
  · subst hij; exact lt1
  · have b : ¬ ltU d[j - 1] d[i] := List.pairwise_iff_getElem.1 h i (j - 1) (by omega) (by omega) (by omega)
    rcases ltU_tri d[i] d[j - 1] with e | e | e
    · exact ltU_trans e lt1
    · rw [e]; exact lt1
    · exact absurd e b

theorem mem_compact (d : List Use1) (x : Use1) : x ∈ compactUpTo d.toArray d.length ↔ x ∈ d := by
  unfold compactUpTo
  simp only [List.mem_map, List.mem_filter, List.mem_range]
  constructor
  · rintro ⟨i, ⟨hi, _⟩, rfl⟩
    rw [getElem!_pos d.toArray i (by simpa using hi)]
    simp
  · intro hx
    obtain ⟨i, hi, rfl⟩ := List.mem_iff_getElem.1 hx
    clear hx
    induction i with
    | zero => exact ⟨0, ⟨hi, by simp [keeps]⟩, by rw [getElem!_pos d.toArray 0 (by simpa using hi)]; simp⟩
    | succ i ih =>
      by_cases hk : keeps d.toArray (i + 1) = true
      · exact ⟨i + 1, ⟨hi, hk⟩, by rw [getElem!_pos d.toArray (i + 1) (by simpa using hi)]; simp⟩
      · obtain ⟨j, hj, e⟩ := ih (by omega)
        refine ⟨j, hj, e.trans ?_⟩
        unfold keeps at hk
        simp only [decide_eq_true_eq, not_or, Nat.add_eq_zero_iff, Nat.succ_ne_self, and_false, not_false_eq_true, true_and, Decidable.not_not, Nat.add_sub_cancel] at hk
        rw [getElem!_pos d.toArray (i + 1) (by simpa using hi), getElem!_pos d.toArray i (by simp; omega)] at hk
        simpa using hk.symm

theorem sd_pair (l : List Use1) : (sd l).Pairwise ltU := compact_pair _ (srt_pair l)
theorem mem_sd {l : List Use1} {x : Use1} : x ∈ sd l ↔ x ∈ l := by
  unfold sd; rw [mem_compact, mem_srt]

/-- Two lists in order that have the same members are one. -/
theorem pair_unique : ∀ {l m : List Use1}, l.Pairwise ltU → m.Pairwise ltU → (∀ x, x ∈ l ↔ x ∈ m) → l = m
  | [], [], _, _, _ => rfl
  | [], b :: m, _, _, h => by have := (h b).2 (by simp); simp at this
  | a :: l, [], _, _, h => by have := (h a).1 (by simp); simp at this
  | a :: l, b :: m, hl, hm, h => by
    obtain ⟨hl1, hl2⟩ := List.pairwise_cons.1 hl
    obtain ⟨hm1, hm2⟩ := List.pairwise_cons.1 hm
    have hab : a = b := by
      rcases List.mem_cons.1 ((h a).1 (by simp)) with e | e
      · exact e
      · rcases List.mem_cons.1 ((h b).2 (by simp)) with e' | e'
        · exact e'.symm
        · exact absurd (ltU_trans (hm1 a e) (hl1 b e')) (ltU_irrefl _)
    subst hab
    congr 1
    refine pair_unique hl2 hm2 fun x => ⟨fun hx => ?_, fun hx => ?_⟩
    · rcases List.mem_cons.1 ((h x).1 (List.mem_cons_of_mem _ hx)) with e | e
      · subst e; exact absurd (hl1 x hx) (ltU_irrefl _)
      · exact e
    · rcases List.mem_cons.1 ((h x).2 (List.mem_cons_of_mem _ hx)) with e | e
      · subst e; exact absurd (hm1 x hx) (ltU_irrefl _)
      · exact e

theorem sd_congr {l m : List Use1} (h : ∀ x, x ∈ l ↔ x ∈ m) : sd l = sd m :=
  pair_unique (sd_pair l) (sd_pair m) fun x => by rw [mem_sd, mem_sd, h]
theorem sd_sd (l : List Use1) : sd (sd l) = sd l := sd_congr fun _ => mem_sd
theorem sd_reverse (l : List Use1) : sd l.reverse = sd l := sd_congr fun _ => by simp
theorem sd_twice (l : List Use1) : sd (sd l ++ l) = sd l := sd_congr fun x => by simp [mem_sd]
theorem sd_len (l : List Use1) : (sd l).length ≤ l.length := by
  unfold sd compactUpTo
  rw [List.length_map]
  refine Nat.le_trans (List.length_filter_le _ _) ?_
  rw [List.length_range, srt_len]
  exact Nat.le_refl _
end Go.Proofs.YtnalfjaojcahhaaGreatDoor
namespace Go.Proofs.YtnalfjaojcahhaaGreatDoor
open Go.RowKit Go.Sort
attribute [local go_sem ↓] Go.wp_at_zero Go.wp_at_succ

theorem isNaN_i (a : Int) (w : World) : Calls Tryz.prog 54 #[.int .i64 a] w fun e w' => e = .returned (.bool false) ∧ w = w' := by
  go_enter Tryz.func54, Tryz.ntmps54
  go_wp2
  go_ret
  exact ⟨by simp, rfl⟩

theorem compare_i (a b : Int) (w : World) : Calls Tryz.prog 28 #[.int .i64 a, .int .i64 b] w fun e w' => e = .returned (.int .i64 (cmpI a b)) ∧ w = w' := by
  go_enter Tryz.func28, Tryz.ntmps28
  go_wp2_with (go_at_call 54; refine (isNaN_i _ _).mono ?_; rintro e w' ⟨rfl, rfl⟩)
  all_goals (go_ret; refine ⟨?_, rfl⟩; unfold cmpI; congr 2; repeat' split)
  all_goals first | rfl | omega

/-- r is the first of two that is not 0. -/
def Or2 (x y r : Int) : Prop := (if x ≠ 0 then x else y) = r

theorem or2 (b : Nat) (x y r : Int) (w : World) (hr : Or2 x y r) (h0 : w.cell? ⟨b, 0, none⟩ = some (.int .i64 x)) (h1 : w.cell? ⟨b, 1, none⟩ = some (.int .i64 y)) :
    Calls Tryz.prog 27 #[.slice (some ⟨b, 0, none⟩) 2 2] w fun e w' => e = .returned (.int .i64 r) ∧ w = w' := by
  unfold Or2 at hr
  by_cases hx : x = 0
  · by_cases hy : y = 0
    · subst hx hy
      obtain rfl : 0 = r := by simpa using hr
      clear hr
      go_enter Tryz.func27, Tryz.ntmps27
      go_wp2
      refine wp_loop_rounds 3 ?_
      rw [rounds_succ]; go_wp2
      rw [rounds_succ]; go_wp2
      rw [rounds_succ]; go_wp2
      go_ret; exact ⟨rfl, rfl⟩
    · subst hx
      obtain rfl : y = r := by simpa [hy] using hr
      clear hr
      have H : (y != 0) = true := by simpa using hy
      clear hy
      go_enter Tryz.func27, Tryz.ntmps27
      go_wp2
      refine wp_loop_rounds 3 ?_
      rw [rounds_succ]; go_wp2
      rw [rounds_succ]; go_wp2
      go_ret; exact ⟨rfl, rfl⟩
  · obtain rfl : x = r := by simpa [hx] using hr
    clear hr
    have H : (x != 0) = true := by simpa using hx
    clear hx
    go_enter Tryz.func27, Tryz.ntmps27
    go_wp2
    refine wp_loop_rounds 3 ?_
    rw [rounds_succ]; go_wp2
    go_ret; exact ⟨rfl, rfl⟩

theorem closure1 (x y : Use1) (w : World) : Calls Tryz.prog 26 #[.agg #[.int .i64 x.1, .int .i64 x.2], .agg #[.int .i64 y.1, .int .i64 y.2]] w fun e w' => e = .returned (.int .i64 (cmpU x y)) ∧ ∃ q os', w' = Go.Sort.grow (w.drewN q) os' := by
  obtain ⟨xm, xa⟩ := x
  obtain ⟨ym, ya⟩ := y
  have hr : Or2 (cmpI xa ya) (cmpI xm ym) (cmpU (xm, xa) (ym, ya)) := rfl
  generalize cmpU (xm, xa) (ym, ya) = r at hr ⊢
  go_enter Tryz.func26, Tryz.ntmps26
  go_wp2_with fail
  go_region_held3 (fun w' => w'.cell? ⟨w.heap.size, 0, none⟩ = some (.int .i64 xm) ∧ w'.cell? ⟨w.heap.size, 1, none⟩ = some (.int .i64 xa) ∧ w'.cell? ⟨w.heap.size + 1, 0, none⟩ = some (.int .i64 ym) ∧ w'.cell? ⟨w.heap.size + 1, 1, none⟩ = some (.int .i64 ya)) (go_keep)
    (first | (go_at_call 28; refine (compare_i _ _ _).mono ?_; rintro e w' ⟨rfl, rfl⟩) | (go_at_call 27; refine (or2 _ (cmpI xa ya) (cmpI xm ym) r _ hr ?h0 ?h1).mono ?hm; (case h0 => go_simp); (case h1 => go_simp); rintro e w' ⟨rfl, rfl⟩))
  go_wp2
  go_ret
  exact ⟨rfl, 1, _, by rw [alloc_eq_grow, alloc_eq_grow, alloc_eq_grow, grow_grow, grow_grow]; rfl⟩

theorem closure2 (x y : Use1) (w : World) : Calls Tryz.prog 30 #[.agg #[.int .i64 x.1, .int .i64 x.2], .agg #[.int .i64 y.1, .int .i64 y.2]] w fun e w' => e = .returned (.bool (decide (x = y))) ∧ ∃ os', w' = Go.Sort.grow w os' := by
  obtain ⟨xm, xa⟩ := x
  obtain ⟨ym, ya⟩ := y
  have hs : decide (((xm, xa) : Use1) = (ym, ya)) = (xm == ym && xa == ya) := by
    rw [Bool.eq_iff_iff]
    simp
  generalize decide (((xm, xa) : Use1) = (ym, ya)) = r at hs ⊢
  go_enter Tryz.func30, Tryz.ntmps30
  go_wp2_with fail
  all_goals (go_ret; refine ⟨by simp [*], _, by rw [alloc_eq_grow, alloc_eq_grow, grow_grow]⟩)
end Go.Proofs.YtnalfjaojcahhaaGreatDoor
namespace Go.Proofs.YtnalfjaojcahhaaGreatDoor
open Go.RowKit Go.Sort Go.Proofs
section
variable {α : Type} [Inhabited α] {enc : α → List Value} {k : Nat}

theorem setMany_set (hk : ∀ x, (enc x).length = k) (d : Array α) (i : Nat) (y : α) (hi : i < d.size) :
    setMany (flatK enc k d) (i * k) (enc y) = flatK enc k (d.setIfInBounds i y) := by
  refine ext_get! (by simp) fun t ht => ?_
  have ht' : t < d.size * k := by simpa using ht
  have k0 : 0 < k := by rcases Nat.eq_zero_or_pos k with h | h; · subst h; simp at ht'
                        · exact h
  have hb : t / k < d.size := Nat.div_lt_of_lt_mul (by rw [Nat.mul_comm]; exact ht')
  rw [get_setMany _ _ _ t (by simpa using ht'), get_flatK _ _ _ t ht', get_flatK _ _ _ t (by simpa using ht'), hk]
  by_cases a : t / k = i
  · rw [if_pos ((blk_iff k i t k0).2 a)]
    have e : t - i * k = t % k := by subst a; rw [Nat.mod_eq_sub_div_mul]
    rw [e, a]
    congr 1
    rw [getElem!_pos (d.setIfInBounds i y) i (by simpa using hi)]
    simp
  · rw [if_neg (fun h => a ((blk_iff k i t k0).1 h))]
    congr 2
    rw [getElem!_pos (d.setIfInBounds i y) (t / k) (by simpa using hb), getElem!_pos d (t / k) hb]
    rw [Array.getElem_setIfInBounds]
    · simp [Ne.symm a]
    · exact hb

theorem SWK.set {w0 W : World} {blk off : Nat} {dk : Array α} (h : SWK enc k w0 blk off dk W) (hk : ∀ x, (enc x).length = k) (hblk : blk < w0.heap.size) (i : Nat) (hi : i < dk.size) (y : α) :
    SWK enc k w0 blk off (dk.setIfInBounds i y) (W.setCells blk (off + i * k) (enc y)) := by
  obtain ⟨n, os, rfl⟩ := h
  refine ⟨n, os, ?_⟩
  unfold sortWorldK
  rw [← putRowK_grow enc k (Sort.ahead w0 n) os blk off dk hblk, ← putRowK_grow enc k (Sort.ahead w0 n) os blk off _ hblk]
  unfold putRowK
  rw [setCells_putRow _ _ _ _ _ _ (by rw [hk, size_flatK]; exact rowK_bnd dk k i hi), setMany_set hk dk i y hi]

theorem setCells_append (w : World) (b : Nat) : ∀ (xs ys : List Value) (o : Nat), w.setCells b o (xs ++ ys) = (w.setCells b o xs).setCells b (o + xs.length) ys
  | [], _, _ => rfl
  | x :: xs, ys, o => by
    rw [List.cons_append, World.setCells, setCells_append _ b xs ys (o + 1), World.setCells, List.length_cons, show o + 1 + xs.length = o + (xs.length + 1) by omega]

theorem SWK.fill {w0 : World} {blk off : Nat} (hk : ∀ x, (enc x).length = k) (hblk : blk < w0.heap.size) (z : α) : ∀ (m i : Nat) (dk : Array α) (W : World), SWK enc k w0 blk off dk W → i + m ≤ dk.size →
    ∃ d', d'.size = dk.size ∧ (∀ j, j < i → d'[j]! = dk[j]!) ∧ SWK enc k w0 blk off d' (W.setCells blk (off + i * k) ((List.replicate m z).flatMap enc))
  | 0, i, dk, W, h, _ => ⟨dk, rfl, fun _ _ => rfl, h⟩
  | m + 1, i, dk, W, h, hm => by
    have h1 := SWK.set h hk hblk i (by omega) z
    obtain ⟨d', hs, hj, hw⟩ := SWK.fill hk hblk z m (i + 1) _ _ h1 (by simp; omega)
    refine ⟨d', by simpa using hs, fun j hji => ?_, ?_⟩
    · rw [hj j (by omega), getElem!_pos (dk.setIfInBounds i z) j (by simp; omega), getElem!_pos dk j (by omega), Array.getElem_setIfInBounds]
      · simp [show i ≠ j by omega]
      · omega
    · rw [List.replicate_succ, List.flatMap_cons, setCells_append, hk]
      rw [Nat.add_mul, Nat.one_mul, ← Nat.add_assoc] at hw
      exact hw

end
section
variable {α : Type} {enc : α → List Value} {k : Nat}
theorem zeroCells_flat (z : α) (hk : (enc z).length = k) (hk0 : 0 < k) : ∀ n : Nat, (Builtin.zeroCells (enc z).toArray n).toList = (List.replicate n z).flatMap enc := by
  intro n
  apply List.ext_getElem?
  intro t
  simp only [Builtin.zeroCells, List.size_toArray, hk]
  by_cases ht : t < n * k
  · have hn : t / k < n := Nat.div_lt_of_lt_mul (by rw [Nat.mul_comm]; exact ht)
    have hmod : t % k < k := Nat.mod_lt _ hk0
    have hf : ∀ (n i : Nat), i < n → ((List.replicate n z).flatMap enc)[i * k + t % k]? = (enc z)[t % k]? := by
      intro n
      induction n with
      | zero => intro i h; omega
      | succ n ih =>
        intro i h
        rw [List.replicate_succ, List.flatMap_cons]
        cases i with
        | zero => rw [Nat.zero_mul, Nat.zero_add, List.getElem?_append_left (by omega)]
        | succ i =>
          rw [List.getElem?_append_right (by rw [hk, Nat.add_mul]; omega), hk, Nat.add_mul, Nat.one_mul, show i * k + k + t % k - k = i * k + t % k by omega]
          exact ih i (by omega)
    have e := hf n (t / k) hn
    rw [Nat.div_mul_self_eq_mod_sub_self, Nat.sub_add_cancel (Nat.mod_le t k)] at e
    rw [e, List.getElem?_eq_getElem (by simpa using ht), List.getElem?_eq_getElem (by omega)]
    simp [hmod, hk]
  · rw [List.getElem?_eq_none (by simp; omega), List.getElem?_eq_none]
    have : ∀ n : Nat, ((List.replicate n z).flatMap enc).length = n * k := by
      intro n
      induction n with
      | zero => simp
      | succ n ih => rw [List.replicate_succ, List.flatMap_cons, List.length_append, ih, hk, Nat.add_mul]; omega
    rw [this]; omega
end
section
variable {α : Type} [Inhabited α] {enc : α → List Value} {k : Nat}
theorem SWK.below {w0 W : World} {blk off : Nat} {dk : Array α} (h : SWK enc k w0 blk off dk W) {B : Nat} (hB : B ≤ blk) (hB' : B ≤ w0.heap.size) : Below B w0 W := by
  have hle := h.le
  obtain ⟨n, os, rfl⟩ := h
  refine ⟨rfl, rfl, rfl, hle, fun j hj => ?_⟩
  unfold sortWorldK
  rw [heap_grow_old _ _ (by rw [size_putRowK]; show j < w0.heap.size; omega)]
  unfold putRowK putRow mapBlock
  simp only [Array.getElem?_modify, heap_ahead]
  rw [if_neg (by omega)]

/-- A row of the call's own, as the sort's kit says it. -/
theorem holdsK_of_own {w : World} {base g n cap : Nat} {e : TypeId} {xs : List α} (hk : ∀ x, (enc x).length = k) (hn : xs.length = n)
    (h : w.ownsRow base e k (.slice (some ⟨g, 0, none⟩) n cap) n (xs.flatMap enc)) : HoldsK enc k w g 0 xs.toArray := by
  intro j hj
  rw [size_flatK] at hj
  have hj' : j < n * k := by simpa [hn] using hj
  have k0 : 0 < k := by rcases Nat.eq_zero_or_pos k with h | h; · subst h; simp at hj'
                        · exact h
  have hb : j / k < xs.length := by rw [hn]; exact Nat.div_lt_of_lt_mul (by rw [Nat.mul_comm]; exact hj')
  have hm : j % k < k := Nat.mod_lt _ k0
  rw [Nat.zero_add, h.cellAt j hj', h.frozenAt j, get_flatK _ _ _ _ hj]
  refine ⟨?_, rfl⟩
  have e := flat_get hk xs (j / k) (j % k) hb hm
  rw [Nat.div_mul_self_eq_mod_sub_self, Nat.sub_add_cancel (Nat.mod_le j k)] at e
  rw [e, getElem!_pos xs.toArray (j / k) (by simpa using hb), List.getElem_toArray, List.getElem?_eq_getElem (by rw [hk]; exact hm)]
  congr 1
  rw [getElem!_pos _ (j % k) (by rw [hk]; exact hm)]; rfl

/-- A row as the sort's kit says it reads as a list. -/
theorem reads_of_holds {w : World} {blk off m : Nat} {d : Array α} {xs : List α} (hk : ∀ x, (enc x).length = k) (H : HoldsK enc k w blk off d) (hm : xs.length = m) (hd : ∀ j, j < m → xs[j]? = some d[j]!) (hs : m ≤ d.size) (hb : blk < w.heap.size) :
    Reads w w.heap.size k (some ⟨blk, off, none⟩) m (xs.flatMap enc) := by
  refine ⟨by rw [flat_len hk, hm], fun hpos => ⟨_, rfl, hb, fun j u hu => ?_⟩⟩
  have hj : j < m * k := by
    have := (List.getElem?_eq_some_iff.1 hu).1
    rwa [flat_len hk, hm] at this
  have k0 : 0 < k := by rcases Nat.eq_zero_or_pos k with h | h; · subst h; simp at hj
                        · exact h
  have hb' : j / k < m := Nat.div_lt_of_lt_mul (by rw [Nat.mul_comm]; exact hj)
  have hmod : j % k < k := Nat.mod_lt _ k0
  have e := flat_get hk xs (j / k) (j % k) (by omega) hmod
  rw [Nat.div_mul_self_eq_mod_sub_self, Nat.sub_add_cancel (Nat.mod_le j k)] at e
  have c := (H.cell (i := j / k) (c := j % k) (by omega) hmod).1
  rw [add_at, show off + j = off + (j / k) * k + j % k by rw [Nat.add_assoc, Nat.div_mul_self_eq_mod_sub_self, Nat.sub_add_cancel (Nat.mod_le j k)], c]
  have hx := hd (j / k) hb'
  rw [List.getElem?_eq_getElem (by omega)] at hx
  injection hx with hx
  rw [hu, List.getElem?_eq_getElem (by rw [hk]; exact hmod)] at e
  injection e with e
  rw [e, getElem!_pos _ (j % k) (by rw [hk]; exact hmod)]
  simp only [hx]
end
end Go.Proofs.YtnalfjaojcahhaaGreatDoor
