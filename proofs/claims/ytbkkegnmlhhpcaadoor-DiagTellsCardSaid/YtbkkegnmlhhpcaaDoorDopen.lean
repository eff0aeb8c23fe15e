/-
  The argument of a law on findings, opened: a slice that reads as a list. By an AI agent.
-/
import Derived.Test.YtbkkegnmlhhpcaaDoorProg
import Derived.Test.YtbkkegnmlhhpcaaDoorDord
import Derived.Test.YtbkkegnmlhhpcaaDoorOpen
namespace Go.Proofs.YtbkkegnmlhhpcaaDoor
open Go.RowKit Go.ChangeShapes Go.WideShapes Go.Deep

theorem cells27 : Tryd.prog.cellsOf 27 = 3 := by kernel_rfl

theorem weights_str {H : Type} (t : TypeId) (l : List UInt8) : l.length ∈ (DataW.lit (.string l) : DataW H).weights Tryd.prog t := by
  unfold DataW.weights
  exact List.mem_singleton.2 rfl

/-- What is known of an argument that is a slice of findings. -/
def FindingsIn (w : World) {H : Type} (cs : List Value) (d : DataW H) : Prop :=
  ∃ (A : Option Addr) (n c : Nat) (l : List Fnd), cs = [.slice A n c] ∧ l.length = n ∧ n ≤ maxLen ∧ Reads w w.heap.size 3 A n (l.flatMap encF) ∧
    ((∀ m ∈ d.weights Tryd.prog 22, m ≤ reachBytes) → ∀ y ∈ l, y.1.size ≤ reachBytes ∧ y.2.1.size ≤ reachBytes)

theorem open_findings {H : Type} {enc : TypeId × Value → H} {w : World} {base : Nat} {spare : Nat → Bool} {held : Bool} {fuel : Nat} {cs : List Value} {x : DataW H × List MemPlace}
    (h : DataW.trod enc Tryd.prog w base spare held fuel 22 cs = some x) : FindingsIn w cs x.1 := by
  rcases open_slice_fields Tryd.underlying22 Tryd.underlying27 (by kernel_rfl) cells27 h with ⟨rfl, rfl⟩ | ⟨a, len, cap, m, D, Pl, rfl, _, hlc, hcm, hm, rfl, hi⟩
  · exact ⟨none, 0, 0, [], rfl, rfl, Nat.zero_le _, Reads.none_, fun _ y hy => by simp at hy⟩
  · have hlm : len ≤ m := by rw [hm]; split <;> omega
    have hel : ∀ i, i < len → ∃ y : Fnd, (∀ j u, (encF y)[j]? = some u → w.cell? (a.add (i * 3 + j)) = some u) ∧ ((∀ m ∈ (D i).weights Tryd.prog 27, m ≤ reachBytes) → y.1.size ≤ reachBytes ∧ y.2.1.size ≤ reachBytes) := by
      intro i hil
      obtain ⟨ys, n', hD, _, hlen, hf⟩ := hi i (by omega)
      obtain ⟨v0, y0, c0, q0, t0⟩ := hf 0 _ rfl
      obtain ⟨v1, y1, c1, q1, t1⟩ := hf 1 _ rfl
      obtain ⟨v2, y2, c2, q2, t2⟩ := hf 2 _ rfl
      obtain ⟨s0, e0, f0, _⟩ := DataW.trod_string Tryd.underlying9 t0
      obtain ⟨s1, e1, f1, _⟩ := DataW.trod_string Tryd.underlying9 t1
      obtain ⟨z, e2, f2, _⟩ := DataW.trod_int Tryd.underlying3 t2
      simp only [List.cons.injEq, and_true] at e0 e1 e2
      subst e0 e1 e2 f0 f1
      refine ⟨(s0, s1, z), fun j u hu => ?_, fun hw => ?_⟩
      · match j, hu with
        | 0, hu => simp [encF] at hu; subst hu; exact c0
        | 1, hu => simp [encF] at hu; subst hu; exact c1
        | 2, hu => simp [encF] at hu; subst hu; exact c2
        | j + 3, hu => simp [encF] at hu
      · rw [hD] at hw
        have w0 := weights_agg (P := Tryd.prog) (parts := ys.map (·.1)) Tryd.underlying27 (j := 0) (d := .lit (.string s0.data.toList)) rfl (by simp [q0])
        have w1 := weights_agg (P := Tryd.prog) (parts := ys.map (·.1)) Tryd.underlying27 (j := 1) (d := .lit (.string s1.data.toList)) rfl (by simp [q1])
        constructor
        · have := hw _ (w0 s0.data.toList.length (weights_str _ _))
          simpa using this
        · have := hw _ (w1 s1.data.toList.length (weights_str _ _))
          simpa using this
    obtain ⟨l, hl, hp⟩ := exists_list len hel
    refine ⟨some a, len, cap, l, rfl, hl, by omega, reads_of_cells (fun _ => rfl) (by omega) hl (fun i h j u hu => (hp i h).1 j u hu), fun hw y hy => ?_⟩
    obtain ⟨i, hi', rfl⟩ := List.mem_iff_getElem.1 hy
    refine (hp i hi').2 fun m hm => hw m ?_
    exact weights_slice Tryd.underlying22 (List.mem_map.2 ⟨i, by simp; omega, rfl⟩) m hm
end Go.Proofs.YtbkkegnmlhhpcaaDoor
