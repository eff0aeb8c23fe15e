/-
  The listed tables, and a world for the witnesses. By an AI agent.
-/
import Derived.Test.YtbkkegnmlhhpcaaDoorCards
import Derived.Test.YtbkkegnmlhhpcaaDoorTie
import Derived.Test.YtbkkegnmlhhpcaaDoorLaw
import Derived.Test.YtbkkegnmlhhpcaaDoorDlines
namespace Go.Proofs.YtbkkegnmlhhpcaaDoor
open Go.ChangeShapes Go.WideShapes Go.ChangeAt Go.RowKit

theorem gTabType : (Tryd.prog.globals[0]?).map (·.type) = some 99 := by kernel_rfl
theorem cellsTab : Tryd.prog.cellsOf 99 = 20 := by kernel_rfl
theorem cellsU64 : Tryd.prog.cellsOf 81 = 1 := by kernel_rfl

/-- The table of powers, out of the rows' list. -/
theorem tab_of_laid {W : World} {a b : String × DataW Unit} (h : laidMet Tryd.prog [a, b, ("internal/strconv.uint64pow10", Rows.laid_internal_strconv_uint64pow10)] W) : Tab W := by
  obtain ⟨ps, ⟨_, _, _, _, _, _, _, _, _, _, ⟨_, _, _, _, _, _, _, _, _, _, ⟨g', t', cs, fuel, p, q, hg', ht', hvar, hd, _, _⟩, _⟩, _⟩, _⟩ := h
  obtain rfl := Option.some.inj (gTab.symm.trans hg')
  obtain rfl := Option.some.inj (gTabType.symm.trans ht')
  have e : (Rows.laid_internal_strconv_uint64pow10 : DataW Unit) = Lib.tabData .u64 Lib.pow10Tab := by kernel_rfl
  rw [e] at hd
  unfold Tab Lib.TabIs
  rw [hvar, ← Lib.cells_of_tab Tryd.underlying99 Tryd.underlying81 cellsU64 cellsTab hd]

/-- The cells of a listed table. -/
def cellsOfData : DataW Unit → Array Value
  | .agg l => (l.map fun | .lit (.int k n) => Value.int k n | _ => Value.bool false).toArray
  | _ => #[]
def setTab (c : Array Value) : Obj → Obj
  | .cells _ t frozen => .cells c t frozen
  | o => o
noncomputable def laidWorld (os : Os) : World :=
  { World.holding Tryd.prog os ⟨#[], #[], []⟩ with heap := (((World.holding Tryd.prog os ⟨#[], #[], []⟩).heap.modify 0 (setTab (cellsOfData Rows.laid_internal_strconv_uint64pow10))).modify 1 (setTab (cellsOfData Rows.laid_math_bits_deBruijn32tab))).modify 2 (setTab (cellsOfData Rows.laid_math_bits_deBruijn64tab)) }
end Go.Proofs.YtbkkegnmlhhpcaaDoor
