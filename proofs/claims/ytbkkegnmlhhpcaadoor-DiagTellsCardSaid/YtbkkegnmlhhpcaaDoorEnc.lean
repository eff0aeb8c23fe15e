/-
  Lists of elements of several cells each, in memory: a slice that reads as a list, the cells of one element. By an AI agent.
-/
import Derived.Test.YtbkkegnmlhhpcaaDoorWords
namespace Go.Proofs.YtbkkegnmlhhpcaaDoor
open Go.RowKit
section
variable {α : Type} {enc : α → List Value} {sz : Nat}

theorem flat_len (hs : ∀ x, (enc x).length = sz) (xs : List α) : (xs.flatMap enc).length = xs.length * sz := by
  induction xs with
  | nil => simp
  | cons x xs ih => simp [List.flatMap_cons, ih, hs, Nat.add_mul, Nat.add_comm]

theorem flat_get (hs : ∀ x, (enc x).length = sz) : ∀ (xs : List α) (i j : Nat) (h : i < xs.length), j < sz → (xs.flatMap enc)[i * sz + j]? = (enc xs[i])[j]?
  | [], i, j, h, _ => by simp at h
  | x :: xs, 0, j, _, hj => by
    rw [List.flatMap_cons, List.getElem?_append_left (by rw [hs]; omega)]
    simp
  | x :: xs, i + 1, j, h, hj => by
    have h' : i < xs.length := by simpa using h
    rw [List.flatMap_cons, List.getElem?_append_right (by rw [hs, Nat.add_mul]; omega), hs, Nat.add_mul, Nat.one_mul,
      show i * sz + sz + j - sz = i * sz + j by omega, flat_get hs xs i j h' hj]
    simp

theorem flat_take_succ (xs : List α) (k : Nat) (h : k < xs.length) : (xs.take (k + 1)).flatMap enc = (xs.take k).flatMap enc ++ enc xs[k] := by
  rw [List.take_succ_eq_append_getElem h, List.flatMap_append]
  simp

theorem spot_of_cell {w : World} {a : Addr} {v : Value} (h : w.cell? a = some v) : a = ⟨a.block, a.off, none⟩ := by
  obtain ⟨b, o, s⟩ := a
  cases s with
  | none => rfl
  | some s =>
    unfold World.cell? at h
    simp at h
    split at h <;> simp at h

theorem add_at (b o i : Nat) : (⟨b, o, none⟩ : Addr).add i = ⟨b, o + i, none⟩ := by
  unfold Addr.add
  split
  · rename_i h; subst h; rfl
  · rfl

theorem grownBy_set (w : World) (b o : Nat) (v : Value) : w.grownBy (w.setCell ⟨b, o, none⟩ v) (some b) :=
  ⟨rfl, rfl, rfl, by simp [World.setCell], fun k _ hne => Below.heap_setCell w ⟨b, o, none⟩ v k (fun e => hne (by rw [e]))⟩
theorem grownBy_drew (w : World) (r : Option Nat) : w.grownBy w.drew r := ⟨rfl, rfl, rfl, Nat.le_refl _, fun _ _ _ => rfl⟩
theorem grownBy_below {w w' : World} {b B : Nat} (h : w.grownBy w' (some b)) (hb : B ≤ b) (hB : B ≤ w.heap.size) : Below B w w' :=
  ⟨h.os, h.tape, h.output, h.size, fun k hk => h.block k (by omega) (fun e => by injection e with e; omega)⟩
theorem grownBy_of_below {w w' : World} (r : Option Nat) (h : Below w.heap.size w w') : w.grownBy w' r := ⟨h.os, h.tape, h.output, h.size, fun k hk _ => h.block k hk⟩

theorem grownBy_setNew {w w1 : World} {r : Option Nat} (h : w.grownBy w1 r) {b : Nat} (hb : w.heap.size ≤ b) (o : Nat) (v : Value) : w.grownBy (w1.setCell ⟨b, o, none⟩ v) r :=
  ⟨h.os, h.tape, h.output, by simpa [World.setCell] using h.size, fun k hk hne => (Below.heap_setCell w1 ⟨b, o, none⟩ v k (by show k ≠ b; omega)).trans (h.block k hk hne)⟩

theorem Blk.new_at {w : World} {n : Nat} (h : w.heap.size = n) (t : TypeId) (cs : Array Value) : Blk (w.alloc (.cells cs t)) n t cs := by
  subst h; exact Blk.new w t cs

/-- The cells of element i of a slice that reads as a list. -/
theorem Reads.el {w : World} {B n : Nat} {A : Option Addr} {xs : List α} (h : Reads w B sz A n (xs.flatMap enc)) (hs : ∀ x, (enc x).length = sz) (h0 : 0 < sz) (hn : xs.length = n) {i : Nat} (hi : i < n) :
    ∃ b off, A = some ⟨b, off, none⟩ ∧ b < B ∧ ∀ k (hk : k < xs.length) j u, (enc xs[k])[j]? = some u → w.cell? ⟨b, off + k * sz + j, none⟩ = some u := by
  obtain ⟨ad, hA, hb, hc⟩ := h.2 (by omega)
  have key : ∀ k (hk : k < xs.length) j u, (enc xs[k])[j]? = some u → w.cell? (ad.add (k * sz + j)) = some u := by
    intro k hk j u hu
    have hj : j < sz := by
      have := (List.getElem?_eq_some_iff.1 hu).1
      rw [hs] at this; exact this
    exact hc _ u (by rw [flat_get hs xs k j hk hj]; exact hu)
  have h00 : ∃ u, (enc (xs[0]'(by omega)))[0]? = some u := ⟨(enc (xs[0]'(by omega)))[0]'(by rw [hs]; exact h0), List.getElem?_eq_getElem _⟩
  obtain ⟨u, hu⟩ := h00
  have hsp := key 0 (by omega) 0 u hu
  rw [show 0 * sz + 0 = 0 by omega, show ad.add 0 = ad from rfl] at hsp
  have hsp := spot_of_cell hsp
  obtain ⟨b, o, s⟩ := ad
  have hs' : s = none := by simpa using hsp
  subst hs'
  refine ⟨b, o, hA, hb, fun k hk j u hu => ?_⟩
  have := key k hk j u hu
  rw [add_at, ← Nat.add_assoc] at this
  exact this

theorem reads_of_block {w : World} {g n B size : Nat} {t : TypeId} {fr : Nat × Nat} {cs : List Value} (h : w.heap[g]? = some (.cells cs.toArray t fr)) (hn : cs.length = n * size) (hB : g < B) : Reads w B size (some ⟨g, 0, none⟩) n cs :=
  ⟨hn, fun _ => ⟨_, rfl, hB, fun j u hu => World.news_of_block h j u (by simpa using hu)⟩⟩
theorem heap_new_at {w : World} {n : Nat} (h : w.heap.size = n) (o : Obj) : (w.alloc o).heap[n]? = some o := by
  subst h; exact heap_alloc_new w o
theorem heap_past {w : World} {n : Nat} {o : Obj} (h : w.heap[n]? = some o) (o' : Obj) : (w.alloc o').heap[n]? = some o :=
  (Below.heap_alloc w o' n (Array.getElem?_eq_some_iff.1 h).1).trans h

theorem Reads.len {w : World} {B n : Nat} {A : Option Addr} {xs : List α} (h : Reads w B sz A n (xs.flatMap enc)) (hs : ∀ x, (enc x).length = sz) (h0 : 0 < sz) : xs.length = n := by
  have := h.1
  rw [flat_len hs] at this
  exact Nat.eq_of_mul_eq_mul_right h0 this
end
end Go.Proofs.YtbkkegnmlhhpcaaDoor
