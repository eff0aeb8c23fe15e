/-
  The argument 'files' of a law, opened: files with bytes. By an AI agent.
-/
import Derived.Test.YtbkkegnmlhhpcaaDoorDopen
import Derived.Test.YtbkkegnmlhhpcaaDoorModPlace
namespace Go.Proofs.YtbkkegnmlhhpcaaDoor
open Go.RowKit Go.ChangeShapes Go.WideShapes Go.Deep

theorem cells35 : Tryd.prog.cellsOf 35 = 2 := by kernel_rfl
theorem cells5 : Tryd.prog.cellsOf 5 = 1 := by kernel_rfl

/-- A slice of bytes is a list of them. -/
theorem open_bytes {H : Type} {enc : TypeId × Value → H} {w : World} {base : Nat} {spare : Nat → Bool} {held : Bool} {fuel : Nat} {v : Value} {x : DataW H × List MemPlace}
    (h : DataW.trod enc Tryd.prog w base spare held fuel 33 [v] = some x) :
    ∃ (A : Option Addr) (c : Nat) (s : ByteArray), v = .slice A s.size c ∧ s.size ≤ maxLen ∧ Reads w w.heap.size 1 A s.size (s.data.toList.flatMap byteV) := by
  rcases open_slice Tryd.underlying33 h with ⟨e, _⟩ | ⟨a, len, cap, m, n, D, Pl, e, _, hlc, hcm, hm, _, hi⟩
  · simp only [List.cons.injEq, and_true] at e
    exact ⟨none, 0, ⟨#[]⟩, e, Nat.zero_le _, Reads.none_⟩
  · simp only [List.cons.injEq, and_true] at e
    have hlm : len ≤ m := by rw [hm]; split <;> omega
    have hel : ∀ i, i < len → ∃ u : UInt8, ∀ j v, (byteV u)[j]? = some v → w.cell? (a.add (i * 1 + j)) = some v := by
      intro i hil
      obtain ⟨cs', hc, ht⟩ := hi i (by omega)
      rw [cells5] at hc
      obtain ⟨z, e1, _, hwf⟩ := DataW.trod_int Tryd.underlying5 ht
      subst e1
      obtain ⟨_, _, hat⟩ := World.cells?_some hc
      have h0 := hat 0 (by omega)
      simp only [Lit.wf, Bool.and_eq_true, decide_eq_true_eq] at hwf
      have hz : (0 : Int) ≤ z ∧ z ≤ 255 := hwf
      refine ⟨UInt8.ofNat z.toNat, fun j v hv => ?_⟩
      match j, hv with
      | 0, hv =>
        simp only [byteV, List.getElem?_cons_zero, Option.some.injEq] at hv
        subst hv
        have e2 : ((UInt8.ofNat z.toNat).toNat : Int) = z := by
          rw [UInt8.toNat_ofNat']
          omega
        rw [e2, Nat.add_zero]
        rw [Go.Deep.add_add] at h0
        simpa using h0
      | j + 1, hv => simp [byteV] at hv
    obtain ⟨l, hl, hp⟩ := exists_list len hel
    have hs : (⟨l.toArray⟩ : ByteArray).size = len := by simp [ByteArray.size, hl]
    refine ⟨some a, cap, ⟨l.toArray⟩, by rw [hs]; exact e, by rw [hs]; omega, ?_⟩
    rw [hs]
    exact reads_of_cells (fun _ => rfl) (by omega) hl (fun i h j u hu => hp i h j u hu)

/-- What is known of an argument that is a slice of files. -/
def FilesIn (w : World) (cs : List Value) : Prop :=
  ∃ (A : Option Addr) (n c : Nat) (l : List Src), cs = [.slice A n c] ∧ l.length = n ∧ n ≤ maxLen ∧ Reads w w.heap.size 2 A n (l.flatMap encS) ∧
    (∀ x ∈ l, Reads w w.heap.size 1 x.2.1 x.2.2.2.size (x.2.2.2.data.toList.flatMap byteV)) ∧ ∀ x ∈ l, x.1.size ≤ maxLen ∧ x.2.2.2.size ≤ maxLen

theorem open_files {H : Type} {enc : TypeId × Value → H} {w : World} {base : Nat} {spare : Nat → Bool} {held : Bool} {fuel : Nat} {cs : List Value} {x : DataW H × List MemPlace}
    (h : DataW.trod enc Tryd.prog w base spare held fuel 31 cs = some x) : FilesIn w cs := by
  rcases open_slice_fields Tryd.underlying31 Tryd.underlying35 (by kernel_rfl) cells35 h with ⟨rfl, rfl⟩ | ⟨a, len, cap, m, D, Pl, rfl, _, hlc, hcm, hm, rfl, hi⟩
  · exact ⟨none, 0, 0, [], rfl, rfl, Nat.zero_le _, Reads.none_, fun y hy => by simp at hy, fun y hy => by simp at hy⟩
  · have hlm : len ≤ m := by rw [hm]; split <;> omega
    have hel : ∀ i, i < len → ∃ y : Src, (∀ j u, (encS y)[j]? = some u → w.cell? (a.add (i * 2 + j)) = some u) ∧ Reads w w.heap.size 1 y.2.1 y.2.2.2.size (y.2.2.2.data.toList.flatMap byteV) ∧ y.1.size ≤ maxLen ∧ y.2.2.2.size ≤ maxLen := by
      intro i hil
      obtain ⟨ys, n', hD, _, hlen, hf⟩ := hi i (by omega)
      obtain ⟨v0, y0, c0, q0, t0⟩ := hf 0 _ rfl
      obtain ⟨v1, y1, c1, q1, t1⟩ := hf 1 _ rfl
      obtain ⟨s0, e0, f0, hs0⟩ := DataW.trod_string Tryd.underlying9 t0
      obtain ⟨A, c, s, e1, hs, hr⟩ := open_bytes t1
      simp only [List.cons.injEq, and_true] at e0
      subst e0 e1
      refine ⟨(s0, A, c, s), fun j u hu => ?_, hr, ?_, hs⟩
      · match j, hu with
        | 0, hu => simp [encS] at hu; subst hu; exact c0
        | 1, hu => simp [encS] at hu; subst hu; exact c1
        | j + 2, hu => simp [encS] at hu
      · exact hs0
    obtain ⟨l, hl, hp⟩ := exists_list len hel
    refine ⟨some a, len, cap, l, rfl, hl, by omega, reads_of_cells (fun _ => rfl) (by omega) hl (fun i h j u hu => (hp i h).1 j u hu), fun y hy => ?_, fun y hy => ?_⟩
    · obtain ⟨i, hi', rfl⟩ := List.mem_iff_getElem.1 hy
      exact (hp i hi').2.1
    · obtain ⟨i, hi', rfl⟩ := List.mem_iff_getElem.1 hy
      exact (hp i hi').2.2
end Go.Proofs.YtbkkegnmlhhpcaaDoor
