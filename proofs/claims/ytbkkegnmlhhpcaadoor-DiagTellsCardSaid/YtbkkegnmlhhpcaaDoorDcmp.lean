/-
  The order of findings: cmp.Compare at strings and ints, cmp.Or, and the two closures of diag.Sorted. By an AI agent.
-/
import Derived.Test.YtbkkegnmlhhpcaaDoorProg
import Derived.Test.YtbkkegnmlhhpcaaDoorDord
import Derived.WalkKit
import Derived.WalkLawsBesides
import Derived.WalkSpells
import Derived.Lib.Hide
import Derived.Deep.RegionHeld3
import Derived.Deep.DrawnRows
import Derived.Sort.Walk0
import Derived.Sort.Grow
import Derived.Deep.DeepMust
namespace Go.Proofs.YtbkkegnmlhhpcaaDoor
open Go.RowKit Go.Sort
attribute [local go_sem ↓] Go.wp_at_zero Go.wp_at_succ

theorem isNaN_s (a : ByteArray) (w : World) : Calls Tryd.prog 31 #[.string a] w fun e w' => e = .returned (.bool false) ∧ w = w' := by
  go_enter Tryd.func31, Tryd.ntmps31
  go_wp2
  go_ret
  exact ⟨by simp, rfl⟩

theorem isNaN_i (a : Int) (w : World) : Calls Tryd.prog 32 #[.int .i64 a] w fun e w' => e = .returned (.bool false) ∧ w = w' := by
  go_enter Tryd.func32, Tryd.ntmps32
  go_wp2
  go_ret
  exact ⟨by simp, rfl⟩

theorem compare_i (a b : Int) (w : World) : Calls Tryd.prog 19 #[.int .i64 a, .int .i64 b] w fun e w' => e = .returned (.int .i64 (cmpI a b)) ∧ w = w' := by
  go_enter Tryd.func19, Tryd.ntmps19
  go_wp2_with (go_at_call 32; refine (isNaN_i _ _).mono ?_; rintro e w' ⟨rfl, rfl⟩)
  all_goals (go_ret; refine ⟨?_, rfl⟩; unfold cmpI; congr 2; repeat' split)
  all_goals first | rfl | omega

theorem compare_s (a b : ByteArray) (w : World) : Calls Tryd.prog 18 #[.string a, .string b] w fun e w' => e = .returned (.int .i64 (cmpS a b)) ∧ w = w' := by
  have hb := bytesLess_eq a.toList b.toList
  have hn : ¬ a.toList < b.toList → ¬ b.toList < a.toList → a.toList = b.toList := fun h1 h2 => List.le_antisymm (List.not_lt.1 h2) (List.not_lt.1 h1)
  have hi : a.toList = b.toList → ¬ b.toList < a.toList := fun h h2 => List.lt_irrefl _ (h ▸ h2)
  by_cases h1 : a.toList < b.toList
  · have H1 : Op.bytesLess a.toList b.toList = true := by simp [hb, h1]
    have e1 : cmpS a b = -1 := by simp [cmpS, h1]
    rw [e1]
    clear hb hn hi h1 e1
    go_enter Tryd.func18, Tryd.ntmps18
    go_wp2_with (go_at_call 31; refine (isNaN_s _ _).mono ?_; rintro e w' ⟨rfl, rfl⟩)
    go_ret; exact ⟨rfl, rfl⟩
  · have H1 : Op.bytesLess a.toList b.toList = false := by simp [hb, h1]
    by_cases h2 : a.toList = b.toList
    · have H2 : (a.toList == b.toList) = true := by simp [h2]
      have e1 : cmpS a b = 0 := by simp [cmpS, h1, hi h2]
      rw [e1]
      clear hb hn hi h1 h2 e1
      go_enter Tryd.func18, Tryd.ntmps18
      go_wp2_with (go_at_call 31; refine (isNaN_s _ _).mono ?_; rintro e w' ⟨rfl, rfl⟩)
      go_ret; exact ⟨rfl, rfl⟩
    · have H2 : (a.toList == b.toList) = false := by simp [h2]
      have h3 : b.toList < a.toList := by
        by_cases h3 : b.toList < a.toList
        · exact h3
        · exact absurd (hn h1 h3) h2
      have e1 : cmpS a b = 1 := by simp [cmpS, h1, h3]
      rw [e1]
      clear hb hn hi h1 h2 h3 e1
      go_enter Tryd.func18, Tryd.ntmps18
      go_wp2_with (go_at_call 31; refine (isNaN_s _ _).mono ?_; rintro e w' ⟨rfl, rfl⟩)
      go_ret; exact ⟨rfl, rfl⟩

/-- r is the first of three that is not 0. -/
def Or3 (x y z r : Int) : Prop := (if x ≠ 0 then x else if y ≠ 0 then y else z) = r

theorem or3 (b : Nat) (x y z r : Int) (w : World) (hr : Or3 x y z r) (h0 : w.cell? ⟨b, 0, none⟩ = some (.int .i64 x)) (h1 : w.cell? ⟨b, 1, none⟩ = some (.int .i64 y)) (h2 : w.cell? ⟨b, 2, none⟩ = some (.int .i64 z)) :
    Calls Tryd.prog 17 #[.slice (some ⟨b, 0, none⟩) 3 3] w fun e w' => e = .returned (.int .i64 r) ∧ w = w' := by
  unfold Or3 at hr
  by_cases hx : x = 0
  · by_cases hy : y = 0
    · by_cases hz : z = 0
      · subst hx hy hz
        obtain rfl : 0 = r := by simpa using hr
        clear hr
        go_enter Tryd.func17, Tryd.ntmps17
        go_wp2
        refine wp_loop_rounds 4 ?_
        rw [rounds_succ]; go_wp2
        rw [rounds_succ]; go_wp2
        rw [rounds_succ]; go_wp2
        rw [rounds_succ]; go_wp2
        go_ret; exact ⟨rfl, rfl⟩
      · subst hx hy
        obtain rfl : z = r := by simpa using hr
        clear hr
        have H : (z != 0) = true := by simpa using hz
        clear hz
        go_enter Tryd.func17, Tryd.ntmps17
        go_wp2
        refine wp_loop_rounds 4 ?_
        rw [rounds_succ]; go_wp2
        rw [rounds_succ]; go_wp2
        rw [rounds_succ]; go_wp2
        go_ret; exact ⟨rfl, rfl⟩
    · subst hx
      obtain rfl : y = r := by simpa [hy] using hr
      clear hr
      have H : (y != 0) = true := by simpa using hy
      clear hy
      go_enter Tryd.func17, Tryd.ntmps17
      go_wp2
      refine wp_loop_rounds 4 ?_
      rw [rounds_succ]; go_wp2
      rw [rounds_succ]; go_wp2
      go_ret; exact ⟨rfl, rfl⟩
  · obtain rfl : x = r := by simpa [hx] using hr
    clear hr
    have H : (x != 0) = true := by simpa using hx
    clear hx
    go_enter Tryd.func17, Tryd.ntmps17
    go_wp2
    refine wp_loop_rounds 4 ?_
    rw [rounds_succ]; go_wp2
    go_ret; exact ⟨rfl, rfl⟩

theorem closure1 (x y : Fnd) (w : World) : Calls Tryd.prog 16 #[.agg #[.string x.1, .string x.2.1, .int .i64 x.2.2], .agg #[.string y.1, .string y.2.1, .int .i64 y.2.2]] w fun e w' => e = .returned (.int .i64 (cmpF x y)) ∧ ∃ q os', w' = Go.Sort.grow (w.drewN q) os' := by
  obtain ⟨xt, xf, xa⟩ := x
  obtain ⟨yt, yf, ya⟩ := y
  have hr : Or3 (cmpS xf yf) (cmpI xa ya) (cmpS xt yt) (cmpF (xt, xf, xa) (yt, yf, ya)) := rfl
  generalize cmpF (xt, xf, xa) (yt, yf, ya) = r at hr ⊢
  go_enter Tryd.func16, Tryd.ntmps16
  go_wp2_with fail
  go_region_held3 (fun w' => w'.cell? ⟨w.heap.size, 0, none⟩ = some (.string xt) ∧ w'.cell? ⟨w.heap.size, 1, none⟩ = some (.string xf) ∧ w'.cell? ⟨w.heap.size, 2, none⟩ = some (.int .i64 xa) ∧ w'.cell? ⟨w.heap.size + 1, 0, none⟩ = some (.string yt) ∧ w'.cell? ⟨w.heap.size + 1, 1, none⟩ = some (.string yf) ∧ w'.cell? ⟨w.heap.size + 1, 2, none⟩ = some (.int .i64 ya)) (go_keep)
    (first | (go_at_call 18; refine (compare_s _ _ _).mono ?_; rintro e w' ⟨rfl, rfl⟩) | (go_at_call 19; refine (compare_i _ _ _).mono ?_; rintro e w' ⟨rfl, rfl⟩) | (go_at_call 17; refine (or3 _ (cmpS xf yf) (cmpI xa ya) (cmpS xt yt) r _ hr ?h0 ?h1 ?h2).mono ?hm; (case h0 => go_simp); (case h1 => go_simp); (case h2 => go_simp); rintro e w' ⟨rfl, rfl⟩))
  go_wp2
  go_ret
  exact ⟨rfl, 1, _, by rw [alloc_eq_grow, alloc_eq_grow, alloc_eq_grow, grow_grow, grow_grow]; rfl⟩

theorem closure2 (x y : Fnd) (w : World) : Calls Tryd.prog 21 #[.agg #[.string x.1, .string x.2.1, .int .i64 x.2.2], .agg #[.string y.1, .string y.2.1, .int .i64 y.2.2]] w fun e w' => e = .returned (.bool (decide (x = y))) ∧ ∃ os', w' = Go.Sort.grow w os' := by
  obtain ⟨xt, xf, xa⟩ := x
  obtain ⟨yt, yf, ya⟩ := y
  have hs : decide (((xt, xf, xa) : Fnd) = (yt, yf, ya)) = (xt.toList == yt.toList && (xf.toList == yf.toList && xa == ya)) := by
    rw [Bool.eq_iff_iff]
    simp [toList_inj]
  generalize decide (((xt, xf, xa) : Fnd) = (yt, yf, ya)) = r at hs ⊢
  go_enter Tryd.func21, Tryd.ntmps21
  go_wp2_with fail
  all_goals (go_ret; refine ⟨by simp [*], _, by rw [alloc_eq_grow, alloc_eq_grow, grow_grow]⟩)
end Go.Proofs.YtbkkegnmlhhpcaaDoor

