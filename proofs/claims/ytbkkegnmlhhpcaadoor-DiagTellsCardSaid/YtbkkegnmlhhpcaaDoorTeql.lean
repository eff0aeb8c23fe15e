/-
  Findings compared. By an AI agent.
-/
import Derived.Test.YtbkkegnmlhhpcaaDoorDcmp
namespace Go.Proofs.YtbkkegnmlhhpcaaDoor
open Go.RowKit Go.Sort

theorem eql27 (x y : Fnd) (W : World) : (binOp .eql 27 (.agg #[.string x.1, .string x.2.1, .int .i64 x.2.2]) (.agg #[.string y.1, .string y.2.1, .int .i64 y.2.2])).run Tryd.prog W = .ok (.bool (decide (x = y))) W := by
  obtain ⟨xt, xf, xa⟩ := x
  obtain ⟨yt, yf, ya⟩ := y
  have hs : decide (((xt, xf, xa) : Fnd) = (yt, yf, ya)) = (xt.toList == yt.toList && (xf.toList == yf.toList && xa == ya)) := by
    rw [Bool.eq_iff_iff]
    simp [toList_inj]
  rw [hs, run_eql_struct]
  cases h1 : (xt.toList == yt.toList) <;> cases h2 : (xf.toList == yf.toList) <;> cases h3 : (xa == ya) <;> simp [go_sem, h1, h2, h3]
end Go.Proofs.YtbkkegnmlhhpcaaDoor
