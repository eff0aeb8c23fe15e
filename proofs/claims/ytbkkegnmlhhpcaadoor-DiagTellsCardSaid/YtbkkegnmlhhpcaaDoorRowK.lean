/-
  A row of elements of k cells in a world of the sort's: one element stored, the row's end cleared. By an AI agent.
-/
import Derived.Test.YtbkkegnmlhhpcaaDoorEnc
import Derived.Shelf.SlSortCmp.KitK
import Derived.Shelf.SlicesQ.Reverse
import Derived.Laws.IdiomCopy
namespace Go.Proofs.YtbkkegnmlhhpcaaDoor
open Go.RowKit Go.Sort Go.Proofs
section
variable {α : Type} [Inhabited α] {enc : α → List Value} {k : Nat}

theorem setMany_set (hk : ∀ x, (enc x).length = k) (d : Array α) (i : Nat) (y : α) (hi : i < d.size) :
    setMany (flatK enc k d) (i * k) (enc y) = flatK enc k (d.setIfInBounds i y) := by
  refine ext_get! (by simp) fun t ht => ?_
  have ht' : t < d.size * k := by simpa using ht
  have k0 : 0 < k := by rcases Nat.eq_zero_or_pos k with h | h; · subst h; simp at ht'
                        · exact h
  have hb : t / k < d.size := Nat.div_lt_of_lt_mul (by rw [Nat.mul_comm]; exact ht')
  rw [get_setMany _ _ _ t (by simpa using ht'), get_flatK _ _ _ t ht', get_flatK _ _ _ t (by simpa using ht'), hk]
  by_cases a : t / k = i
  · rw [if_pos ((blk_iff k i t k0).2 a)]
    have e : t - i * k = t % k := by subst a; rw [Nat.mod_eq_sub_div_mul]
    rw [e, a]
    congr 1
    rw [getElem!_pos (d.setIfInBounds i y) i (by simpa using hi)]
    simp
  · rw [if_neg (fun h => a ((blk_iff k i t k0).1 h))]
    congr 2
    rw [getElem!_pos (d.setIfInBounds i y) (t / k) (by simpa using hb), getElem!_pos d (t / k) hb]
    rw [Array.getElem_setIfInBounds]
    · simp [Ne.symm a]
    · exact hb

theorem SWK.set {w0 W : World} {blk off : Nat} {dk : Array α} (h : SWK enc k w0 blk off dk W) (hk : ∀ x, (enc x).length = k) (hblk : blk < w0.heap.size) (i : Nat) (hi : i < dk.size) (y : α) :
    SWK enc k w0 blk off (dk.setIfInBounds i y) (W.setCells blk (off + i * k) (enc y)) := by
  obtain ⟨n, os, rfl⟩ := h
  refine ⟨n, os, ?_⟩
  unfold sortWorldK
  rw [← putRowK_grow enc k (Sort.ahead w0 n) os blk off dk hblk, ← putRowK_grow enc k (Sort.ahead w0 n) os blk off _ hblk]
  unfold putRowK
  rw [setCells_putRow _ _ _ _ _ _ (by rw [hk, size_flatK]; exact rowK_bnd dk k i hi), setMany_set hk dk i y hi]

theorem setCells_append (w : World) (b : Nat) : ∀ (xs ys : List Value) (o : Nat), w.setCells b o (xs ++ ys) = (w.setCells b o xs).setCells b (o + xs.length) ys
  | [], _, _ => rfl
  | x :: xs, ys, o => by
    rw [List.cons_append, World.setCells, setCells_append _ b xs ys (o + 1), World.setCells, List.length_cons, show o + 1 + xs.length = o + (xs.length + 1) by omega]

theorem SWK.fill {w0 : World} {blk off : Nat} (hk : ∀ x, (enc x).length = k) (hblk : blk < w0.heap.size) (z : α) : ∀ (m i : Nat) (dk : Array α) (W : World), SWK enc k w0 blk off dk W → i + m ≤ dk.size →
    ∃ d', d'.size = dk.size ∧ (∀ j, j < i → d'[j]! = dk[j]!) ∧ SWK enc k w0 blk off d' (W.setCells blk (off + i * k) ((List.replicate m z).flatMap enc))
  | 0, i, dk, W, h, _ => ⟨dk, rfl, fun _ _ => rfl, h⟩
  | m + 1, i, dk, W, h, hm => by
    have h1 := SWK.set h hk hblk i (by omega) z
    obtain ⟨d', hs, hj, hw⟩ := SWK.fill hk hblk z m (i + 1) _ _ h1 (by simp; omega)
    refine ⟨d', by simpa using hs, fun j hji => ?_, ?_⟩
    · rw [hj j (by omega), getElem!_pos (dk.setIfInBounds i z) j (by simp; omega), getElem!_pos dk j (by omega), Array.getElem_setIfInBounds]
      · simp [show i ≠ j by omega]
      · omega
    · rw [List.replicate_succ, List.flatMap_cons, setCells_append, hk]
      rw [Nat.add_mul, Nat.one_mul, ← Nat.add_assoc] at hw
      exact hw

omit [Inhabited α] in
theorem zeroCells_flat (z : α) (hk : (enc z).length = k) (hk0 : 0 < k) : ∀ n : Nat, (Builtin.zeroCells (enc z).toArray n).toList = (List.replicate n z).flatMap enc := by
  intro n
  apply List.ext_getElem?
  intro t
  simp only [Builtin.zeroCells, List.size_toArray, hk]
  by_cases ht : t < n * k
  · have hn : t / k < n := Nat.div_lt_of_lt_mul (by rw [Nat.mul_comm]; exact ht)
    have hmod : t % k < k := Nat.mod_lt _ hk0
    have hf : ∀ (n i : Nat), i < n → ((List.replicate n z).flatMap enc)[i * k + t % k]? = (enc z)[t % k]? := by
      intro n
      induction n with
      | zero => intro i h; omega
      | succ n ih =>
        intro i h
        rw [List.replicate_succ, List.flatMap_cons]
        cases i with
        | zero => rw [Nat.zero_mul, Nat.zero_add, List.getElem?_append_left (by omega)]
        | succ i =>
          rw [List.getElem?_append_right (by rw [hk, Nat.add_mul]; omega), hk, Nat.add_mul, Nat.one_mul, show i * k + k + t % k - k = i * k + t % k by omega]
          exact ih i (by omega)
    have e := hf n (t / k) hn
    rw [Nat.div_mul_self_eq_mod_sub_self, Nat.sub_add_cancel (Nat.mod_le t k)] at e
    rw [e, List.getElem?_eq_getElem (by simpa using ht), List.getElem?_eq_getElem (by omega)]
    simp [hmod, hk]
  · rw [List.getElem?_eq_none (by simp; omega), List.getElem?_eq_none]
    have : ∀ n : Nat, ((List.replicate n z).flatMap enc).length = n * k := by
      intro n
      induction n with
      | zero => simp
      | succ n ih => rw [List.replicate_succ, List.flatMap_cons, List.length_append, ih, hk, Nat.add_mul]; omega
    rw [this]; omega

theorem SWK.below {w0 W : World} {blk off : Nat} {dk : Array α} (h : SWK enc k w0 blk off dk W) {B : Nat} (hB : B ≤ blk) (hB' : B ≤ w0.heap.size) : Below B w0 W := by
  have hle := h.le
  obtain ⟨n, os, rfl⟩ := h
  refine ⟨rfl, rfl, rfl, hle, fun j hj => ?_⟩
  unfold sortWorldK
  rw [heap_grow_old _ _ (by rw [size_putRowK]; show j < w0.heap.size; omega)]
  unfold putRowK putRow mapBlock
  simp only [Array.getElem?_modify, heap_ahead]
  rw [if_neg (by omega)]

/-- A row of the call's own, as the sort's kit says it. -/
theorem holdsK_of_own {w : World} {base g n cap : Nat} {e : TypeId} {xs : List α} (hk : ∀ x, (enc x).length = k) (hn : xs.length = n)
    (h : w.ownsRow base e k (.slice (some ⟨g, 0, none⟩) n cap) n (xs.flatMap enc)) : HoldsK enc k w g 0 xs.toArray := by
  intro j hj
  rw [size_flatK] at hj
  have hj' : j < n * k := by simpa [hn] using hj
  have k0 : 0 < k := by rcases Nat.eq_zero_or_pos k with h | h; · subst h; simp at hj'
                        · exact h
  have hb : j / k < xs.length := by rw [hn]; exact Nat.div_lt_of_lt_mul (by rw [Nat.mul_comm]; exact hj')
  have hm : j % k < k := Nat.mod_lt _ k0
  rw [Nat.zero_add, h.cellAt j hj', h.frozenAt j, get_flatK _ _ _ _ hj]
  refine ⟨?_, rfl⟩
  have e := flat_get hk xs (j / k) (j % k) hb hm
  rw [Nat.div_mul_self_eq_mod_sub_self, Nat.sub_add_cancel (Nat.mod_le j k)] at e
  rw [e, getElem!_pos xs.toArray (j / k) (by simpa using hb), List.getElem_toArray, List.getElem?_eq_getElem (by rw [hk]; exact hm)]
  congr 1
  rw [getElem!_pos _ (j % k) (by rw [hk]; exact hm)]; rfl

/-- A row as the sort's kit says it reads as a list. -/
theorem reads_of_holds {w : World} {blk off m : Nat} {d : Array α} {xs : List α} (hk : ∀ x, (enc x).length = k) (H : HoldsK enc k w blk off d) (hm : xs.length = m) (hd : ∀ j, j < m → xs[j]? = some d[j]!) (hs : m ≤ d.size) (hb : blk < w.heap.size) :
    Reads w w.heap.size k (some ⟨blk, off, none⟩) m (xs.flatMap enc) := by
  refine ⟨by rw [flat_len hk, hm], fun hpos => ⟨_, rfl, hb, fun j u hu => ?_⟩⟩
  have hj : j < m * k := by
    have := (List.getElem?_eq_some_iff.1 hu).1
    rwa [flat_len hk, hm] at this
  have k0 : 0 < k := by rcases Nat.eq_zero_or_pos k with h | h; · subst h; simp at hj
                        · exact h
  have hb' : j / k < m := Nat.div_lt_of_lt_mul (by rw [Nat.mul_comm]; exact hj)
  have hmod : j % k < k := Nat.mod_lt _ k0
  have e := flat_get hk xs (j / k) (j % k) (by omega) hmod
  rw [Nat.div_mul_self_eq_mod_sub_self, Nat.sub_add_cancel (Nat.mod_le j k)] at e
  have c := (H.cell (i := j / k) (c := j % k) (by omega) hmod).1
  rw [add_at, show off + j = off + (j / k) * k + j % k by rw [Nat.add_assoc, Nat.div_mul_self_eq_mod_sub_self, Nat.sub_add_cancel (Nat.mod_le j k)], c]
  have hx := hd (j / k) hb'
  rw [List.getElem?_eq_getElem (by omega)] at hx
  injection hx with hx
  rw [hu, List.getElem?_eq_getElem (by rw [hk]; exact hmod)] at e
  injection e with e
  rw [e, getElem!_pos _ (j % k) (by rw [hk]; exact hmod)]
  simp only [hx]
end
end Go.Proofs.YtbkkegnmlhhpcaaDoor
