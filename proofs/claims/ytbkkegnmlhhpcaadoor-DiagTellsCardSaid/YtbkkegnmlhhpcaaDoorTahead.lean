/-
  The document's own order of findings: ahead; its digits; its worst tag. By an AI agent.
-/
import Derived.Test.YtbkkegnmlhhpcaaDoorDcmp
import Derived.Test.YtbkkegnmlhhpcaaDoorDworst
import Derived.Test.YtbkkegnmlhhpcaaDoorDlines
import Derived.Deep.QuietTactic
import Derived.BigQuiet
namespace Go.Proofs.YtbkkegnmlhhpcaaDoor
open Go.RowKit Go.Sort Go.Lib Go.Proofs
attribute [local go_sem ↓] Go.wp_at_zero Go.wp_at_succ

theorem ahead_any (a b : Fnd) (w : World) :
    Calls Tryd.prog 22 #[.agg #[.string a.1, .string a.2.1, .int .i64 a.2.2], .agg #[.string b.1, .string b.2.1, .int .i64 b.2.2]] w fun e w' => e = .returned (.bool (ltOf cmpF a b)) ∧ Below w.heap.size w w' := by
  have hA := Lib.hid (ltOf_iff a b)
  obtain ⟨at_, af, aa⟩ := a
  obtain ⟨bt, bf, ba⟩ := b
  have hb := bytesLess_eq af.toList bf.toList
  have hb2 := bytesLess_eq at_.toList bt.toList
  simp only at hA ⊢
  generalize hv : ltOf cmpF (at_, af, aa) (bt, bf, ba) = v at hA ⊢
  clear hv
  have HA := Lib.hid (show v = true ↔ af.toList < bf.toList ∨ (af = bf ∧ (aa < ba ∨ (aa = ba ∧ at_.toList < bt.toList))) from hA.out)
  clear hA
  by_cases h1 : af = bf
  · have H1 : (af.toList == bf.toList) = true := by rw [toList_beq]; simpa using h1
    have h1' : ¬ af.toList < bf.toList := by rw [h1]; exact List.lt_irrefl _
    by_cases h2 : aa = ba
    · have hv : v = Op.bytesLess at_.toList bt.toList := by
        rw [Bool.eq_iff_iff, HA.out, hb2]
        simp [h1, h2]; exact fun h => absurd h (List.lt_irrefl _)
      subst hv
      clear HA h1 h1' hb hb2
      go_enter Tryd.func22, Tryd.ntmps22
      go_wp2_with fail
      go_ret
      exact ⟨rfl, ((Below.refl _ _).alloc (Nat.le_refl _) _).alloc (by simp) _⟩
    · have hv : v = decide (aa < ba) := by
        rw [Bool.eq_iff_iff, HA.out]
        simp [h1, h2]; exact fun h => absurd h (List.lt_irrefl _)
      subst hv
      clear HA h1 h1' hb hb2
      go_enter Tryd.func22, Tryd.ntmps22
      go_wp2_with fail
      go_ret
      exact ⟨rfl, ((Below.refl _ _).alloc (Nat.le_refl _) _).alloc (by simp) _⟩
  · have H1 : (af.toList == bf.toList) = false := by rw [toList_beq]; simpa using h1
    have hv : v = Op.bytesLess af.toList bf.toList := by
      rw [Bool.eq_iff_iff, HA.out, hb]
      simp [h1]
    subst hv
    clear HA h1 hb hb2
    go_enter Tryd.func22, Tryd.ntmps22
    go_wp2_with fail
    go_ret
    exact ⟨rfl, ((Below.refl _ _).alloc (Nat.le_refl _) _).alloc (by simp) _⟩
end Go.Proofs.YtbkkegnmlhhpcaaDoor
