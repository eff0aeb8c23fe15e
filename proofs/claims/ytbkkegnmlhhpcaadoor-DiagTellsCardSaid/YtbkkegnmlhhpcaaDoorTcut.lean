/-
  Slices of findings cut in two. By an AI agent.
-/
import Derived.Test.YtbkkegnmlhhpcaaDoorProg
import Derived.Test.YtbkkegnmlhhpcaaDoorWords
import Derived.Laws.Slices
namespace Go.Proofs.YtbkkegnmlhhpcaaDoor
open Go.RowKit

theorem elem22 : Tryd.prog.underlying 22 = some (.slice (Tryd.prog.elem 22)) := by kernel_rfl
theorem elem22e : Tryd.prog.elem 22 = 27 := by kernel_rfl
theorem size27 (w : World) : (sizeOf (Tryd.prog.elem 22)).run Tryd.prog w = .ok 3 w := by rw [elem22e]; exact Tryd.sizeOf27 w
theorem add_zero_ (A : Option Addr) : A.map (·.add 0) = A := by cases A <;> rfl
theorem run_front (A : Option Addr) (q c k : Nat) (hk : k ≤ q) (hq : q ≤ c) (W : World) : (Instr.slice 22 (.slice A q c) none (some (.int .i64 (k : Int))) none).run Tryd.prog W = .ok (.slice A k c) W := by
  rw [run_slice_h (P := Tryd.prog) W 22 A q c elem22 .i64 (k : Int) (by omega) (by omega), size27]
  simp only [Result.andThen, sliced, Nat.zero_mul, add_zero_, ite_self, Int.toNat_natCast, Nat.sub_zero]
theorem run_back (A : Option Addr) (q c k : Nat) (hk : k ≤ q) (hq : q ≤ c) : ∃ A', (∀ W : World, (Instr.slice 22 (.slice A q c) (some (.int .i64 (k : Int))) none none).run Tryd.prog W = .ok (.slice A' (q - k) (c - k)) W) ∧
    ∀ (w : World) (B : Nat) (xs : List Value), Reads w B 3 A q xs → Reads w B 3 A' (q - k) (xs.drop (k * 3)) := by
  refine ⟨if c = k then A else A.map (·.add (k * 3)), fun W => ?_, fun w B xs h => h.cut hk hq⟩
  rw [run_slice_l (P := Tryd.prog) W 22 A q c elem22 .i64 (k : Int) (by omega) (by omega), size27]
  simp only [Result.andThen, sliced, Int.toNat_natCast]
end Go.Proofs.YtbkkegnmlhhpcaaDoor
