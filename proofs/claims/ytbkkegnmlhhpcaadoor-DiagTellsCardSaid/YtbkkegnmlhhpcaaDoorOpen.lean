/-
  Slices of structs that came in, opened to their cells (after the kit's page extra-structs); what the reach says of their strings. By an AI agent.
-/
import Derived.Test.YtbkkegnmlhhpcaaDoorEnc
import Derived.Deep.Slices
import Derived.Deep.Fields
import Derived.ChangeSame
import Derived.ProofKit
import Derived.OpenShut
import Derived.Deep.DeepHandedRow
import Derived.Lib.LaidTab
import Derived.SizedLaws
namespace Go.Proofs.YtbkkegnmlhhpcaaDoor
open Go.RowKit Go.ChangeShapes Go.WideShapes Go.Deep

section
variable {H : Type} {enc : TypeId × Value → H} {P : Program} {w : World} {base : Nat} {spare : Nat → Bool} {held : Bool}
theorem open_slice_fields {t e : TypeId} {fs : Array Field} {fuel : Nat} {cs : List Value} {x : DataW H × List MemPlace} (ht : P.underlying t = some (.slice e)) (he : P.underlying e = some (.struct fs))
    (hone : oneCellFields P fs = true) (hC : P.cellsOf e = fs.size) (h : DataW.trod enc P w base spare held fuel t cs = some x) :
    (cs = [.slice none 0 0] ∧ x = (.nil, [])) ∨
    ∃ (a : Addr) (len cap m : Nat) (D : Nat → DataW H) (Pl : Nat → List MemPlace), cs = [.slice (some a) len cap] ∧ base ≤ a.block ∧ len ≤ cap ∧ cap ≤ maxLen ∧ m = (if spare a.block then cap else len) ∧
      x = (.slice ((List.range len).map D) ((List.range (m - len)).map fun j => D (len + j)), MemPlace.row a (m * fs.size) ++ (List.range m).flatMap Pl) ∧
      ∀ i, i < m → ∃ (ys : List (DataW H × List MemPlace)) (n : Nat), D i = .agg (ys.map (·.1)) ∧ Pl i = ys.flatMap (·.2) ∧ ys.length = fs.size ∧
        ∀ (j : Nat) (f : Field), fs[j]? = some f → ∃ (v : Value) (y : DataW H × List MemPlace), w.cell? (a.add (i * fs.size + j)) = some v ∧ ys[j]? = some y ∧ DataW.trod enc P w base spare held n f.type [v] = some y := by
  rcases open_slice ht h with h0 | ⟨a, len, cap, m, n, D, Pl, hcs, hb, hl, hm, hmm, hx, hi⟩
  · exact .inl h0
  · refine .inr ⟨a, len, cap, m, D, Pl, hcs, hb, hl, hm, hmm, by rw [hC] at hx; exact hx, fun i him => ?_⟩
    obtain ⟨cs', hc, ht'⟩ := hi i him
    rw [hC] at hc
    obtain ⟨ys, n', hn', hy, hlen, hyl, hf⟩ := DataW.trod_struct he ht'
    obtain ⟨_, hcl, hat⟩ := World.cells?_some hc
    simp only [Prod.mk.injEq] at hy
    refine ⟨ys, n', hy.1, hy.2, hyl, fun j f hj => ?_⟩
    obtain ⟨ho, hk⟩ := hone_of hone j f hj
    have hjl : j < fs.size := (Array.getElem?_eq_some_iff.1 hj).1
    have hcell := hat j hjl
    have hv : cs'[j]? = some (cs'[j]'(by omega)) := List.getElem?_eq_getElem (by omega)
    have h1 := hf j f hj
    rw [ho, hk] at h1
    have hone' : (cs'.drop j).take 1 = [cs'[j]'(by omega)] := by
      rw [List.drop_eq_getElem_cons (by omega)]
      rfl
    rw [hone'] at h1
    have hys : ys[j]? = some (ys[j]'(by omega)) := List.getElem?_eq_getElem (by omega)
    refine ⟨_, _, ?_, hys, h1.trans hys⟩
    rw [← Go.Deep.add_add, hcell, hv]
end

theorem exists_list {α : Type} {P : Nat → α → Prop} : ∀ n : Nat, (∀ i, i < n → ∃ x, P i x) → ∃ l : List α, l.length = n ∧ ∀ i (h : i < l.length), P i l[i]
  | 0, _ => ⟨[], rfl, fun i h => absurd h (by simp)⟩
  | n + 1, h => by
    obtain ⟨l, hl, hp⟩ := exists_list n (fun i hi => h i (by omega))
    obtain ⟨x, hx⟩ := h n (by omega)
    refine ⟨l ++ [x], by simp [hl], fun i hi => ?_⟩
    by_cases e : i < l.length
    · rw [List.getElem_append_left e]; exact hp i e
    · have : i = n := by simp at hi; omega
      subst this
      rw [List.getElem_append_right (by omega)]
      simpa [hl] using hx

/-- A slice whose elements' cells are known reads as the list of them. -/
theorem reads_of_cells {α : Type} {enc : α → List Value} {sz : Nat} {w : World} {a : Addr} {n : Nat} {l : List α} (hs : ∀ x, (enc x).length = sz) (h0 : 0 < sz) (hn : l.length = n)
    (hc : ∀ i (h : i < l.length) j u, (enc l[i])[j]? = some u → w.cell? (a.add (i * sz + j)) = some u) : Reads w w.heap.size sz (some a) n (l.flatMap enc) := by
  refine ⟨by rw [flat_len hs, hn], fun hpos => ⟨a, rfl, ?_, fun j u hu => ?_⟩⟩
  · have hl : 0 < l.length := by omega
    have hu : (enc l[0])[0]? = some ((enc l[0])[0]'(by rw [hs]; exact h0)) := List.getElem?_eq_getElem _
    have := World.block_lt_of_cell? w _ (hc 0 hl 0 _ hu)
    rwa [block_of_add] at this
  · have hj : j < l.length * sz := by
      have := (List.getElem?_eq_some_iff.1 hu).1
      rwa [flat_len hs] at this
    have hb : j / sz < l.length := Nat.div_lt_of_lt_mul (by rw [Nat.mul_comm]; exact hj)
    have hm : j % sz < sz := Nat.mod_lt _ h0
    have e := flat_get hs l (j / sz) (j % sz) hb hm
    have e2 : j / sz * sz + j % sz = j := by rw [Nat.div_mul_self_eq_mod_sub_self, Nat.sub_add_cancel (Nat.mod_le j sz)]
    rw [e2] at e
    have := hc (j / sz) hb (j % sz) u (by rw [← e]; exact hu)
    rwa [e2] at this

section
variable {H : Type} {P : Program}
theorem weights_all {e : TypeId} : ∀ {elems : List (DataW H)} {d : DataW H}, d ∈ elems → ∀ m ∈ d.weights P e, m ∈ DataW.weightsAll P e elems
  | d' :: r, d, h, m, hm => by
    unfold DataW.weightsAll
    rcases List.mem_cons.1 h with rfl | h
    · exact List.mem_append.2 (.inl hm)
    · exact List.mem_append.2 (.inr (weights_all h m hm))
theorem weights_slice {t e : TypeId} {elems spare : List (DataW H)} (hu : P.underlying t = some (.slice e)) {d : DataW H} (hd : d ∈ elems) : ∀ m ∈ d.weights P e, m ∈ (DataW.slice elems spare).weights P t := by
  intro m hm
  unfold DataW.weights
  rw [hu]
  exact List.mem_cons.2 (.inr (List.mem_append.2 (.inl (weights_all hd m hm))))
theorem weights_agg {t : TypeId} {fs : Array Field} {parts : List (DataW H)} (hu : P.underlying t = some (.struct fs)) {j : Nat} {f : Field} {d : DataW H} (hf : fs[j]? = some f) (hd : parts[j]? = some d) : ∀ m ∈ d.weights P f.type, m ∈ (DataW.agg parts).weights P t := by
  intro m hm
  unfold DataW.weights
  rw [hu]
  exact DataW.weights_mem_each (j := j) (by simp [hf]) hd m hm
end
end Go.Proofs.YtbkkegnmlhhpcaaDoor
