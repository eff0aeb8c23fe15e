/-
  Words for memory, after the kit's page extra-words: a slice that reads as a list of cells, a block that is known whole, append onto a row of the call's own. By an AI agent.
  Lists of elements of several cells each, in memory: a slice that reads as a list, the cells of one element. By an AI agent.
  Slices of structs that came in, opened to their cells (after the kit's page extra-structs); what the reach says of their strings. By an AI agent.
  What every law's row asks behind its walk: true is told, the arguments read as they did. By an AI agent.
  Trees of nodes in memory: a node's four cells, its kids' row, and all below it; what keeps it. By an AI agent.
-/
import Derived.Test.YtnalfjaojcahhaaGreatDoorChecked
import Derived.Below
import Derived.Laws.OwnMore
import Derived.Deep.AppendLies
import Derived.Deep.Draws
import Derived.Maps.AppendAt
import Derived.RegionTactic
import Derived.OwnWalk
import Derived.Laws.Rows
import Derived.Deep.Slices
import Derived.Deep.Fields
import Derived.ChangeSame
import Derived.ProofKit
import Derived.OpenShut
import Derived.Deep.DeepHandedRow
import Derived.Lib.LaidTab
import Derived.SizedLaws
namespace Go.Proofs.YtnalfjaojcahhaaGreatDoor
open Go.RowKit

theorem block_of_add (a : Addr) (n : Nat) : (a.add n).block = a.block := by unfold Addr.add; split <;> rfl
theorem add_of_add (a : Addr) (i j : Nat) : (a.add i).add j = a.add (i + j) := by
  unfold Addr.add
  by_cases hi : i = 0 <;> by_cases hj : j = 0 <;> simp [hi, hj, Nat.add_assoc]

def Reads (w : World) (B size : Nat) (A : Option Addr) (n : Nat) (xs : List Value) : Prop :=
  xs.length = n * size ∧ (0 < n → ∃ ad, A = some ad ∧ ad.block < B ∧ ∀ j u, xs[j]? = some u → w.cell? (ad.add j) = some u)

section
variable {w w' : World} {B B' size n : Nat} {A : Option Addr} {xs : List Value}
theorem Reads.none_ : Reads w B size A 0 [] := ⟨by simp, fun h => absurd h (by omega)⟩
theorem Reads.at_ {k : Nat} (h : Reads w B 1 A n xs) (hk : k < n) : ∃ ad u, A = some ad ∧ ad.block < B ∧ xs[k]? = some u ∧ w.cell? (ad.add k) = some u := by
  obtain ⟨ad, e, hb, hc⟩ := h.2 (by omega)
  have hl : k < xs.length := by have := h.1; omega
  exact ⟨ad, xs[k], e, hb, List.getElem?_eq_getElem hl, hc k _ (List.getElem?_eq_getElem hl)⟩
theorem Reads.keep (h : Reads w B size A n xs) (hk : ∀ p : Addr, p.block < B → w'.cell? p = w.cell? p) : Reads w' B size A n xs :=
  ⟨h.1, fun hn => by
    obtain ⟨ad, e, hb, hc⟩ := h.2 hn
    exact ⟨ad, e, hb, fun j u hu => (hk _ (by rw [block_of_add]; exact hb)).trans (hc j u hu)⟩⟩
theorem Reads.more (h : Reads w B size A n xs) (hB : B ≤ B') : Reads w B' size A n xs :=
  ⟨h.1, fun hn => by
    obtain ⟨ad, e, hb, hc⟩ := h.2 hn
    exact ⟨ad, e, by omega, hc⟩⟩
theorem Reads.below (h : Reads w B size A n xs) (hb : Below B w w') : Reads w' B size A n xs := h.keep fun _ hp => hb.cell hp
theorem Reads.drew (h : Reads w B size A n xs) : Reads w.drew B size A n xs := h
theorem Reads.drewN (h : Reads w B size A n xs) (k : Nat) : Reads (w.drewN k) B size A n xs := h
theorem Reads.alloc (h : Reads w B size A n xs) (hB : B ≤ w.heap.size) (o : Obj) : Reads (w.alloc o) B size A n xs := h.keep fun p hp => World.cell?_alloc_lt w o p (by omega)
theorem Reads.setCell (h : Reads w B size A n xs) {p : Addr} (hB : B ≤ p.block) (u : Value) : Reads (w.setCell p u) B size A n xs :=
  h.keep fun q hq => World.cell?_setCell_other w p q u (fun e => by subst e; omega)
theorem Reads.grown (h : Reads w B size A n xs) {row : Option Nat} (hg : w.grownBy w' row) (hB : B ≤ w.heap.size) (hr : ∀ g, row = some g → B ≤ g) : Reads w' B size A n xs :=
  h.keep fun p hp => World.cell?_of_block (hg.block p.block (by omega) (fun e => by have := hr _ e.symm; omega))
theorem Reads.cut (h : Reads w B size A n xs) {k cap : Nat} (hk : k ≤ n) (hc : n ≤ cap) :
    Reads w B size (if cap = k then A else A.map (·.add (k * size))) (n - k) (xs.drop (k * size)) := by
  refine ⟨by rw [List.length_drop, h.1, Nat.sub_mul], fun hn => ?_⟩
  obtain ⟨ad, rfl, hb, hcell⟩ := h.2 (by omega)
  rw [if_neg (by omega)]
  refine ⟨ad.add (k * size), rfl, by rw [block_of_add]; exact hb, fun j u hu => ?_⟩
  rw [add_of_add]
  exact hcell _ u (by rw [← hu, List.getElem?_drop])
theorem Reads.of_own {base : Nat} {e : TypeId} {c : Nat} (h : w.ownsRow base e size (.slice A n c) n xs) : Reads w w.heap.size size A n xs := by
  refine ⟨h.1, fun hn => ?_⟩
  obtain ⟨g, cap, hv, _, hlt⟩ := h.form hn
  have hA : A = some ⟨g, 0, none⟩ := by injection hv
  subst hA
  exact ⟨_, rfl, hlt, h.cells (g := g) rfl⟩
end

def Blk (w : World) (g : Nat) (t : TypeId) (cs : Array Value) : Prop := w.heap[g]? = some (.cells cs t (0, 0))

section
variable {w w' : World} {g : Nat} {t : TypeId} {cs : Array Value}
theorem Blk.lt (h : Blk w g t cs) : g < w.heap.size := by
  rcases Nat.lt_or_ge g w.heap.size with hlt | hge
  · exact hlt
  · unfold Blk at h; rw [Array.getElem?_eq_none hge] at h; cases h
theorem Blk.cell (h : Blk w g t cs) (i : Nat) : w.cell? ⟨g, i, none⟩ = cs[i]? := cell_of_row w g i cs t (0, 0) h
theorem Blk.frozen (h : Blk w g t cs) (i : Nat) : w.frozen? ⟨g, i, none⟩ = false := by
  unfold Blk at h
  simp [World.frozen?, h]
theorem Blk.new (w : World) (t : TypeId) (cs : Array Value) : Blk (w.alloc (.cells cs t)) w.heap.size t cs := heap_alloc_new w _
theorem Blk.drew (h : Blk w g t cs) : Blk w.drew g t cs := h
theorem Blk.drewN (h : Blk w g t cs) (n : Nat) : Blk (w.drewN n) g t cs := h
theorem Blk.alloc (h : Blk w g t cs) (o : Obj) : Blk (w.alloc o) g t cs := (Below.heap_alloc w o g h.lt).trans h
theorem Blk.set_ (h : Blk w g t cs) (i : Nat) (u : Value) : Blk (w.setCell ⟨g, i, none⟩ u) g t (cs.setIfInBounds i u) := by
  unfold Blk at h ⊢
  simp [World.setCell, Array.getElem?_modify, h]
theorem Blk.far (h : Blk w g t cs) {p : Addr} (hp : g ≠ p.block) (u : Value) : Blk (w.setCell p u) g t cs := (Below.heap_setCell w p u g hp).trans h
theorem Blk.below {B : Nat} (h : Blk w g t cs) (hb : Below B w w') (hg : g < B) : Blk w' g t cs := (hb.block g hg).trans h
theorem Blk.grown {row : Option Nat} (h : Blk w g t cs) (hb : w.grownBy w' row) (hg : some g ≠ row) : Blk w' g t cs := (hb.block g h.lt hg).trans h
theorem Blk.ne_ {g' : Nat} {t' : TypeId} {cs' : Array Value} (h : Blk w g t cs) (h' : Blk w g' t' cs') (hne : t ≠ t') : g ≠ g' := by
  rintro rfl
  unfold Blk at h h'
  rw [h] at h'
  injection h' with h'
  injection h' with _ ht
  exact hne ht
theorem own_blk_ne {base : Nat} {e : TypeId} {size n : Nat} {v : Value} {xs : List Value} (h : w.ownsRow base e size v n xs) (hg : Blk w g t cs) (hne : e ≠ t) : v.ownBlock ≠ some g := by
  rcases h.2 with ⟨rfl, _⟩ | ⟨g', cap, cur, rfl, _, hh, _⟩
  · simp [Value.ownBlock]
  · intro he
    have : g' = g := by simpa [Value.ownBlock] using he
    subst this
    exact Blk.ne_ (t := e) hh hg hne rfl
end

section
variable {P : Program} (w : World)

theorem run_append_of_nil (base : Nat) (t ty e : TypeId) (i : TypeInfo) (size : Nat) (ht : P.underlying t = some (.slice e)) (hi : P.info? e = some i)
    (v : Value) (n : Nat) (xs : List Value) (hown : w.ownsRow base e size v n xs) (c : Nat) : (Builtin.append_ #[t, t] ty #[v, .slice none 0 c]).run P w = .ok v w := by
  rcases hown.2 with ⟨rfl, rfl⟩ | ⟨g, cap, cur, rfl, _, _, hnc, _⟩
  · simp [Builtin.append_, run_underlying ht, sizeOf, typeInfo, hi, Builtin.lenOf, Builtin.firstCells]
  · simp [Builtin.append_, run_underlying ht, sizeOf, typeInfo, hi, Builtin.lenOf, Builtin.firstCells, hnc, storeCells]

theorem run_append_any (base : Nat) (t ty e : TypeId) (i : TypeInfo) (z : Value) (size bytes : Nat) (ht : P.underlying t = some (.slice e)) (hi : P.info? e = some i) (hz : i.zero = some z)
    (hsize : i.size = size) (hby : i.bytes = bytes) (hzs : z.cells.size = size) (hsz : 0 < size)
    (v : Value) (n : Nat) (xs : List Value) (hown : w.ownsRow base e size v n xs)
    (B : Nat) (A : Option Addr) (m c : Nat) (news : List Value) (hr : Reads w B size A m news) (h1 : ∀ u ∈ news, u.oneCell' = true)
    (h63 : n + m ≤ maxLen) (hbytes : (n + m) * bytes ≤ 140737488355328) (hbase : base ≤ w.heap.size) :
    ∃ v' w', (Builtin.append_ #[t, t] ty #[v, .slice A m c]).run P w = .ok v' w' ∧ w'.ownsRow base e size v' (n + m) (xs ++ news) ∧ w.grownBy w' v.ownBlock ∧
      (v'.ownBlock = v.ownBlock ∨ v'.ownBlock = some w.heap.size) := by
  rcases A with _ | ad
  · have hm : m = 0 := by
      rcases Nat.eq_zero_or_pos m with h0 | h0
      · exact h0
      · obtain ⟨ad, h, _⟩ := hr.2 h0
        cases h
    subst hm
    have hn : news = [] := List.eq_nil_of_length_eq_zero (by simpa using hr.1)
    subst hn
    exact ⟨v, w, run_append_of_nil w base t ty e i size ht hi v n xs hown c, by simpa using hown, World.grownBy.refl w _, .inl rfl⟩
  · have hcells : ∀ j u, news[j]? = some u → w.cell? (ad.add j) = some u := by
      intro j u hu
      rcases Nat.eq_zero_or_pos m with h0 | h0
      · subst h0
        have hn : news = [] := List.eq_nil_of_length_eq_zero (by simpa using hr.1)
        subst hn
        simp at hu
      · obtain ⟨ad', h, _, hc⟩ := hr.2 h0
        injection h with h
        subst h
        exact hc j u hu
    obtain ⟨v', w', hrun, h2, h3, _, h5⟩ := run_append_own_at (P := P) w base t ty e i z size bytes ht hi hz hsize hby hzs hsz v n xs hown ad m c news hr.1 hcells h1 h63 hbytes hbase
    exact ⟨v', w', hrun, h2, h3, h5⟩

theorem wp_append_any {o : Oper} {a : Act} {K : Act → World → Prop} {Q : Exit → Act → World → Prop} (s x : Operand) (t : TypeId)
    (ho : o.op = .call { callee := .builtin .append, args := #[s, x], argTypes := #[t, t] })
    (base : Nat) (e : TypeId) (i : TypeInfo) (z : Value) (size bytes : Nat) (ht : P.underlying t = some (.slice e)) (hi : P.info? e = some i) (hz : i.zero = some z)
    (hsize : i.size = size) (hby : i.bytes = bytes) (hzs : z.cells.size = size) (hsz : 0 < size)
    (v : Value) (n : Nat) (xs : List Value) (hs : a.eval s = v) (hown : w.ownsRow base e size v n xs)
    (B : Nat) (A : Option Addr) (m c : Nat) (news : List Value) (hx : a.eval x = .slice A m c) (hr : Reads w B size A m news) (h1 : ∀ u ∈ news, u.oneCell' = true)
    (h63 : n + m ≤ maxLen) (hbytes : (n + m) * bytes ≤ 140737488355328) (hbase : base ≤ w.heap.size)
    (h : ∀ v' w', w'.ownsRow base e size v' (n + m) (xs ++ news) → w.grownBy w' v.ownBlock → (v'.ownBlock = v.ownBlock ∨ v'.ownBlock = some w.heap.size) → K (a.put o.dst v') w') : o.wp P a w K Q := by
  obtain ⟨v', w', hrun, h2, h3, h4⟩ := run_append_any (P := P) w base t o.type e i z size bytes ht hi hz hsize hby hzs hsz v n xs hown B A m c news hr h1 h63 hbytes hbase
  unfold Oper.wp execOp
  simp only [ho, resolve, invoke, builtin, Sem.run_bind, Sem.run_pure, Result.andThen_ok, List.map_toArray, List.map_cons, List.map_nil, hs, hx, hrun]
  exact h v' w' h2 h3 h4

theorem wpList_append_any {ops : Array Oper} {rest : List Oper} {o : Oper} {a : Act} {Q : Exit → Act → World → Prop} (hgd : o.guard = none) (s x : Operand) (t : TypeId)
    (ho : o.op = .call { callee := .builtin .append, args := #[s, x], argTypes := #[t, t] })
    (base : Nat) (e : TypeId) (i : TypeInfo) (z : Value) (size bytes : Nat) (ht : P.underlying t = some (.slice e)) (hi : P.info? e = some i) (hz : i.zero = some z)
    (hsize : i.size = size) (hby : i.bytes = bytes) (hzs : z.cells.size = size) (hsz : 0 < size)
    (v : Value) (n : Nat) (xs : List Value) (hs : a.eval s = v) (hown : w.ownsRow base e size v n xs)
    (B : Nat) (A : Option Addr) (m c : Nat) (news : List Value) (hx : a.eval x = .slice A m c) (hr : Reads w B size A m news) (h1 : ∀ u ∈ news, u.oneCell' = true)
    (h63 : n + m ≤ maxLen) (hbytes : (n + m) * bytes ≤ 140737488355328) (hbase : base ≤ w.heap.size)
    (h : ∀ v' w', w'.ownsRow base e size v' (n + m) (xs ++ news) → w.grownBy w' v.ownBlock → (v'.ownBlock = v.ownBlock ∨ v'.ownBlock = some w.heap.size) → wpList P ops Q rest (a.put o.dst v') w') : wpList P ops Q (o :: rest) a w :=
  wpList_plain hgd fun _ hK => wp_append_any w s x t ho base e i z size bytes ht hi hz hsize hby hzs hsz v n xs hs hown B A m c news hx hr h1 h63 hbytes hbase fun v' w' h2 h3 h4 => hK _ _ (h v' w' h2 h3 h4)

theorem step_append_any {ops : Array Oper} {o : Oper} {a : Act} {K : Act → World → Prop} {Q : Exit → Act → World → Prop} {E : Prop} (hgd : o.guard = none) (s x : Operand) (t : TypeId)
    (ho : o.op = .call { callee := .builtin .append, args := #[s, x], argTypes := #[t, t] })
    (base : Nat) (e : TypeId) (i : TypeInfo) (z : Value) (size bytes : Nat) (ht : P.underlying t = some (.slice e)) (hi : P.info? e = some i) (hz : i.zero = some z)
    (hsize : i.size = size) (hby : i.bytes = bytes) (hzs : z.cells.size = size) (hsz : 0 < size)
    (v : Value) (n : Nat) (xs : List Value) (hs : a.eval s = v) (hown : w.ownsRow base e size v n xs)
    (B : Nat) (A : Option Addr) (m c : Nat) (news : List Value) (hx : a.eval x = .slice A m c) (hr : Reads w B size A m news) (h1 : ∀ u ∈ news, u.oneCell' = true)
    (h63 : n + m ≤ maxLen) (hbytes : (n + m) * bytes ≤ 140737488355328) (hbase : base ≤ w.heap.size)
    (h : ∀ v' w', w'.ownsRow base e size v' (n + m) (xs ++ news) → w.grownBy w' v.ownBlock → (v'.ownBlock = v.ownBlock ∨ v'.ownBlock = some w.heap.size) → K (a.put o.dst v') w') :
    if Region.wanted o (yielded ops a.tmps) = true then Oper.wp P o a w K Q else E := by
  have hw : Region.wanted o (yielded ops a.tmps) = true := by simp [Region.wanted, hgd]
  rw [if_pos hw]
  exact wp_append_any w s x t ho base e i z size bytes ht hi hz hsize hby hzs hsz v n xs hs hown B A m c news hx hr h1 h63 hbytes hbase h
end

end Go.Proofs.YtnalfjaojcahhaaGreatDoor
namespace Go.Proofs.YtnalfjaojcahhaaGreatDoor
open Go.RowKit
section
variable {α : Type} {enc : α → List Value} {sz : Nat}

theorem flat_len (hs : ∀ x, (enc x).length = sz) (xs : List α) : (xs.flatMap enc).length = xs.length * sz := by
  induction xs with
  | nil => simp
  | cons x xs ih => simp [List.flatMap_cons, ih, hs, Nat.add_mul, Nat.add_comm]

theorem flat_get (hs : ∀ x, (enc x).length = sz) : ∀ (xs : List α) (i j : Nat) (h : i < xs.length), j < sz → (xs.flatMap enc)[i * sz + j]? = (enc xs[i])[j]?
  | [], i, j, h, _ => by simp at h
  | x :: xs, 0, j, _, hj => by
    rw [List.flatMap_cons, List.getElem?_append_left (by rw [hs]; omega)]
    simp
  | x :: xs, i + 1, j, h, hj => by
    have h' : i < xs.length := by simpa using h
    rw [List.flatMap_cons, List.getElem?_append_right (by rw [hs, Nat.add_mul]; omega), hs, Nat.add_mul, Nat.one_mul,
      show i * sz + sz + j - sz = i * sz + j by omega, flat_get hs xs i j h' hj]
    simp

theorem flat_take_succ (xs : List α) (k : Nat) (h : k < xs.length) : (xs.take (k + 1)).flatMap enc = (xs.take k).flatMap enc ++ enc xs[k] := by
  rw [List.take_succ_eq_append_getElem h, List.flatMap_append]
  simp

theorem spot_of_cell {w : World} {a : Addr} {v : Value} (h : w.cell? a = some v) : a = ⟨a.block, a.off, none⟩ := by
  obtain ⟨b, o, s⟩ := a
  cases s with
  | none => rfl
  | some s =>
    unfold World.cell? at h
    simp at h
    split at h <;> simp at h

theorem add_at (b o i : Nat) : (⟨b, o, none⟩ : Addr).add i = ⟨b, o + i, none⟩ := by
  unfold Addr.add
  split
  · rename_i h; subst h; rfl
  · rfl

theorem grownBy_set (w : World) (b o : Nat) (v : Value) : w.grownBy (w.setCell ⟨b, o, none⟩ v) (some b) :=
  ⟨rfl, rfl, rfl, by simp [World.setCell], fun k _ hne => Below.heap_setCell w ⟨b, o, none⟩ v k (fun e => hne (by rw [e]))⟩
theorem grownBy_drew (w : World) (r : Option Nat) : w.grownBy w.drew r := ⟨rfl, rfl, rfl, Nat.le_refl _, fun _ _ _ => rfl⟩
theorem grownBy_below {w w' : World} {b B : Nat} (h : w.grownBy w' (some b)) (hb : B ≤ b) (hB : B ≤ w.heap.size) : Below B w w' :=
  ⟨h.os, h.tape, h.output, h.size, fun k hk => h.block k (by omega) (fun e => by injection e with e; omega)⟩
theorem grownBy_of_below {w w' : World} (r : Option Nat) (h : Below w.heap.size w w') : w.grownBy w' r := ⟨h.os, h.tape, h.output, h.size, fun k hk _ => h.block k hk⟩

theorem grownBy_setNew {w w1 : World} {r : Option Nat} (h : w.grownBy w1 r) {b : Nat} (hb : w.heap.size ≤ b) (o : Nat) (v : Value) : w.grownBy (w1.setCell ⟨b, o, none⟩ v) r :=
  ⟨h.os, h.tape, h.output, by simpa [World.setCell] using h.size, fun k hk hne => (Below.heap_setCell w1 ⟨b, o, none⟩ v k (by show k ≠ b; omega)).trans (h.block k hk hne)⟩

theorem Blk.new_at {w : World} {n : Nat} (h : w.heap.size = n) (t : TypeId) (cs : Array Value) : Blk (w.alloc (.cells cs t)) n t cs := by
  subst h; exact Blk.new w t cs

/-- The cells of element i of a slice that reads as a list. -/
theorem Reads.el {w : World} {B n : Nat} {A : Option Addr} {xs : List α} (h : Reads w B sz A n (xs.flatMap enc)) (hs : ∀ x, (enc x).length = sz) (h0 : 0 < sz) (hn : xs.length = n) {i : Nat} (hi : i < n) :
    ∃ b off, A = some ⟨b, off, none⟩ ∧ b < B ∧ ∀ k (hk : k < xs.length) j u, (enc xs[k])[j]? = some u → w.cell? ⟨b, off + k * sz + j, none⟩ = some u := by
  obtain ⟨ad, hA, hb, hc⟩ := h.2 (by omega)
  have key : ∀ k (hk : k < xs.length) j u, (enc xs[k])[j]? = some u → w.cell? (ad.add (k * sz + j)) = some u := by
    intro k hk j u hu
    have hj : j < sz := by
      have := (List.getElem?_eq_some_iff.1 hu).1
      rw [hs] at this; exact this
    exact hc _ u (by rw [flat_get hs xs k j hk hj]; exact hu)
  have h00 : ∃ u, (enc (xs[0]'(by omega)))[0]? = some u := ⟨(enc (xs[0]'(by omega)))[0]'(by rw [hs]; exact h0), List.getElem?_eq_getElem _⟩
  obtain ⟨u, hu⟩ := h00
  have hsp := key 0 (by omega) 0 u hu
  rw [show 0 * sz + 0 = 0 by omega, show ad.add 0 = ad from rfl] at hsp
  have hsp := spot_of_cell hsp
  obtain ⟨b, o, s⟩ := ad
  have hs' : s = none := by simpa using hsp
  subst hs'
  refine ⟨b, o, hA, hb, fun k hk j u hu => ?_⟩
  have := key k hk j u hu
  rw [add_at, ← Nat.add_assoc] at this
  exact this

theorem reads_of_block {w : World} {g n B size : Nat} {t : TypeId} {fr : Nat × Nat} {cs : List Value} (h : w.heap[g]? = some (.cells cs.toArray t fr)) (hn : cs.length = n * size) (hB : g < B) : Reads w B size (some ⟨g, 0, none⟩) n cs :=
  ⟨hn, fun _ => ⟨_, rfl, hB, fun j u hu => World.news_of_block h j u (by simpa using hu)⟩⟩
theorem heap_new_at {w : World} {n : Nat} (h : w.heap.size = n) (o : Obj) : (w.alloc o).heap[n]? = some o := by
  subst h; exact heap_alloc_new w o
theorem heap_past {w : World} {n : Nat} {o : Obj} (h : w.heap[n]? = some o) (o' : Obj) : (w.alloc o').heap[n]? = some o :=
  (Below.heap_alloc w o' n (Array.getElem?_eq_some_iff.1 h).1).trans h

theorem Reads.len {w : World} {B n : Nat} {A : Option Addr} {xs : List α} (h : Reads w B sz A n (xs.flatMap enc)) (hs : ∀ x, (enc x).length = sz) (h0 : 0 < sz) : xs.length = n := by
  have := h.1
  rw [flat_len hs] at this
  exact Nat.eq_of_mul_eq_mul_right h0 this
end
end Go.Proofs.YtnalfjaojcahhaaGreatDoor
namespace Go.Proofs.YtnalfjaojcahhaaGreatDoor
open Go.RowKit Go.ChangeShapes Go.WideShapes Go.Deep

section
variable {H : Type} {enc : TypeId × Value → H} {P : Program} {w : World} {base : Nat} {spare : Nat → Bool} {held : Bool}
theorem open_slice_fields {t e : TypeId} {fs : Array Field} {fuel : Nat} {cs : List Value} {x : DataW H × List MemPlace} (ht : P.underlying t = some (.slice e)) (he : P.underlying e = some (.struct fs))
    (hone : oneCellFields P fs = true) (hC : P.cellsOf e = fs.size) (h : DataW.trod enc P w base spare held fuel t cs = some x) :
    (cs = [.slice none 0 0] ∧ x = (.nil, [])) ∨
    ∃ (a : Addr) (len cap m : Nat) (D : Nat → DataW H) (Pl : Nat → List MemPlace), cs = [.slice (some a) len cap] ∧ base ≤ a.block ∧ len ≤ cap ∧ cap ≤ maxLen ∧ m = (if spare a.block then cap else len) ∧
      x = (.slice ((List.range len).map D) ((List.range (m - len)).map fun j => D (len + j)), MemPlace.row a (m * fs.size) ++ (List.range m).flatMap Pl) ∧
      ∀ i, i < m → ∃ (ys : List (DataW H × List MemPlace)) (n : Nat), D i = .agg (ys.map (·.1)) ∧ Pl i = ys.flatMap (·.2) ∧ ys.length = fs.size ∧
        ∀ (j : Nat) (f : Field), fs[j]? = some f → ∃ (v : Value) (y : DataW H × List MemPlace), w.cell? (a.add (i * fs.size + j)) = some v ∧ ys[j]? = some y ∧ DataW.trod enc P w base spare held n f.type [v] = some y := by
  rcases open_slice ht h with h0 | ⟨a, len, cap, m, n, D, Pl, hcs, hb, hl, hm, hmm, hx, hi⟩
  · exact .inl h0
  · refine .inr ⟨a, len, cap, m, D, Pl, hcs, hb, hl, hm, hmm, by rw [hC] at hx; exact hx, fun i him => ?_⟩
    obtain ⟨cs', hc, ht'⟩ := hi i him
    rw [hC] at hc
    obtain ⟨ys, n', hn', hy, hlen, hyl, hf⟩ := DataW.trod_struct he ht'
    obtain ⟨_, hcl, hat⟩ := World.cells?_some hc
    simp only [Prod.mk.injEq] at hy
    refine ⟨ys, n', hy.1, hy.2, hyl, fun j f hj => ?_⟩
    obtain ⟨ho, hk⟩ := hone_of hone j f hj
    have hjl : j < fs.size := (Array.getElem?_eq_some_iff.1 hj).1
    have hcell := hat j hjl
    have hv : cs'[j]? = some (cs'[j]'(by omega)) := List.getElem?_eq_getElem (by omega)
    have h1 := hf j f hj
    rw [ho, hk] at h1
    have hone' : (cs'.drop j).take 1 = [cs'[j]'(by omega)] := by
      rw [List.drop_eq_getElem_cons (by omega)]
      rfl
    rw [hone'] at h1
    have hys : ys[j]? = some (ys[j]'(by omega)) := List.getElem?_eq_getElem (by omega)
    refine ⟨_, _, ?_, hys, h1.trans hys⟩
    rw [← Go.Deep.add_add, hcell, hv]
end

theorem exists_list {α : Type} {P : Nat → α → Prop} : ∀ n : Nat, (∀ i, i < n → ∃ x, P i x) → ∃ l : List α, l.length = n ∧ ∀ i (h : i < l.length), P i l[i]
  | 0, _ => ⟨[], rfl, fun i h => absurd h (by simp)⟩
  | n + 1, h => by
    obtain ⟨l, hl, hp⟩ := exists_list n (fun i hi => h i (by omega))
    obtain ⟨x, hx⟩ := h n (by omega)
    refine ⟨l ++ [x], by simp [hl], fun i hi => ?_⟩
    by_cases e : i < l.length
    · rw [List.getElem_append_left e]; exact hp i e
    · have : i = n := by simp at hi; omega
      subst this
      rw [List.getElem_append_right (by omega)]
      simpa [hl] using hx

/-- A slice whose elements' cells are known reads as the list of them. -/
theorem reads_of_cells {α : Type} {enc : α → List Value} {sz : Nat} {w : World} {a : Addr} {n : Nat} {l : List α} (hs : ∀ x, (enc x).length = sz) (h0 : 0 < sz) (hn : l.length = n)
    (hc : ∀ i (h : i < l.length) j u, (enc l[i])[j]? = some u → w.cell? (a.add (i * sz + j)) = some u) : Reads w w.heap.size sz (some a) n (l.flatMap enc) := by
  refine ⟨by rw [flat_len hs, hn], fun hpos => ⟨a, rfl, ?_, fun j u hu => ?_⟩⟩
  · have hl : 0 < l.length := by omega
    have hu : (enc l[0])[0]? = some ((enc l[0])[0]'(by rw [hs]; exact h0)) := List.getElem?_eq_getElem _
    have := World.block_lt_of_cell? w _ (hc 0 hl 0 _ hu)
    rwa [block_of_add] at this
  · have hj : j < l.length * sz := by
      have := (List.getElem?_eq_some_iff.1 hu).1
      rwa [flat_len hs] at this
    have hb : j / sz < l.length := Nat.div_lt_of_lt_mul (by rw [Nat.mul_comm]; exact hj)
    have hm : j % sz < sz := Nat.mod_lt _ h0
    have e := flat_get hs l (j / sz) (j % sz) hb hm
    have e2 : j / sz * sz + j % sz = j := by rw [Nat.div_mul_self_eq_mod_sub_self, Nat.sub_add_cancel (Nat.mod_le j sz)]
    rw [e2] at e
    have := hc (j / sz) hb (j % sz) u (by rw [← e]; exact hu)
    rwa [e2] at this

section
variable {H : Type} {P : Program}
theorem weights_all {e : TypeId} : ∀ {elems : List (DataW H)} {d : DataW H}, d ∈ elems → ∀ m ∈ d.weights P e, m ∈ DataW.weightsAll P e elems
  | d' :: r, d, h, m, hm => by
    unfold DataW.weightsAll
    rcases List.mem_cons.1 h with rfl | h
    · exact List.mem_append.2 (.inl hm)
    · exact List.mem_append.2 (.inr (weights_all h m hm))
theorem weights_slice {t e : TypeId} {elems spare : List (DataW H)} (hu : P.underlying t = some (.slice e)) {d : DataW H} (hd : d ∈ elems) : ∀ m ∈ d.weights P e, m ∈ (DataW.slice elems spare).weights P t := by
  intro m hm
  unfold DataW.weights
  rw [hu]
  exact List.mem_cons.2 (.inr (List.mem_append.2 (.inl (weights_all hd m hm))))
theorem weights_agg {t : TypeId} {fs : Array Field} {parts : List (DataW H)} (hu : P.underlying t = some (.struct fs)) {j : Nat} {f : Field} {d : DataW H} (hf : fs[j]? = some f) (hd : parts[j]? = some d) : ∀ m ∈ d.weights P f.type, m ∈ (DataW.agg parts).weights P t := by
  intro m hm
  unfold DataW.weights
  rw [hu]
  exact DataW.weights_mem_each (j := j) (by simp [hf]) hd m hm
end
end Go.Proofs.YtnalfjaojcahhaaGreatDoor
namespace Go.Proofs.YtnalfjaojcahhaaGreatDoor
open Go.ChangeShapes Go.WideShapes Go.ChangeAt Go.RowKit

theorem laidOut : laidOutB Tryz.prog = true := by kernel_rfl
theorem own : ownKnob Tryz.prog.godebug = none := by kernel_rfl

section
variable {H : Type} {enc : TypeId × Value → H}
theorem trodAll_stays {W W' : World} (hb : Below W.heap.size W W') : ∀ {ts : List TypeId} {vs : List Value} {ds : List (DataW H)} {ps : List MemPlace}, (∀ t ∈ ts, Tryz.prog.readableRec t = true ∧ t < Tryz.prog.types.size) →
    DataW.TrodAll enc Tryz.prog W 0 (fun _ => true) true ts vs ds ps → (∀ x ∈ ps, x.block < W.heap.size) → DataW.TrodAll enc Tryz.prog W' 0 (fun b => decide (b < W.heap.size)) true ts vs ds ps
  | [], vs, ds, ps, _, h, _ => by
    obtain ⟨rfl, rfl, rfl⟩ := trodAll_nil h
    exact trodAll_mk0
  | t :: ts, vs, ds, ps, hr, h, hp => by
    obtain ⟨v, vs', d, ds', p, q, rfl, rfl, rfl, h1, h2⟩ := trodAll_cons h
    have ht := hr t (by simp)
    exact trodAll_cons_mk (Below.trod laidOut ht.1 ht.2 h1 hb (fun x hx => hp x (by simp [hx]))) (trodAll_stays hb (fun t' ht' => hr t' (by simp [ht'])) h2 (fun x hx => hp x (by simp [hx])))

/-- What a law's row asks of the world behind the call. -/
theorem law_post {fn : Func} {s : ChangeSpec} {W W' : World} {args : Array Value} {ds gs : List (DataW H)} {before : List MemPlace} {fresh handsOn : Bool}
    (hW : DataW.Whole enc Tryz.prog fn.params.toList s.vars false W args.toList ds gs before) (hv : s.vars = [])
    (hres : (s.fn H (ds ++ [])).results = [.lit (.bool true)]) (hargs : (s.fn H (ds ++ [])).args = ds) (hvars : (s.fn H (ds ++ [])).vars = [])
    (hrt : fn.resultTypes = #[4]) (hr : ∀ t ∈ fn.params.toList, Tryz.prog.readableRec t = true ∧ t < Tryz.prog.types.size) (hb : Below W.heap.size W W') :
    s.post enc Tryz.prog fn false fresh handsOn false W args (.bool true) W' := by
  have hlt := hW.lt
  have hW' := hW
  obtain ⟨p, q, hA, hV, rfl, hfz, hnd⟩ := hW
  rw [hv] at hV
  obtain ⟨rfl, rfl⟩ := trodVars_none hV
  refine ⟨ds, [], p ++ [], [], p, [], hW', ?_, ?_, ?_, hb.frame _, fun h => by cases h⟩
  · rw [hres, hrt]
    exact trodAll_cons_mk (shut_bool Tryz.underlying4 true) trodAll_mk0
  · rw [hargs]
    exact trodAll_stays hb hr hA (fun x hx => hlt x (by simp [hx]))
  · rw [hv, hvars]; rfl
end
end Go.Proofs.YtnalfjaojcahhaaGreatDoor
namespace Go.Proofs.YtnalfjaojcahhaaGreatDoor
open Go.RowKit

/-- A node: its kind, its text, its kids, its byte. -/
inductive Nd where
  | mk (kind : Int) (text : ByteArray) (kids : List Nd) (pos : Int)
namespace Nd
def kind : Nd → Int | .mk k _ _ _ => k
def text : Nd → ByteArray | .mk _ t _ _ => t
def kids : Nd → List Nd | .mk _ _ l _ => l
def pos : Nd → Int | .mk _ _ _ a => a
@[simp] theorem kind_mk (k t l a) : (Nd.mk k t l a).kind = k := rfl
@[simp] theorem text_mk (k t l a) : (Nd.mk k t l a).text = t := rfl
@[simp] theorem kids_mk (k t l a) : (Nd.mk k t l a).kids = l := rfl
@[simp] theorem pos_mk (k t l a) : (Nd.mk k t l a).pos = a := rfl
theorem eta (n : Nd) : n = .mk n.kind n.text n.kids n.pos := by cases n; rfl
end Nd
def nd0 : Nd := .mk 0 ⟨#[]⟩ [] 0

/-- A row of cells in a block of X. -/
def ReadsX (X : Nat → Prop) (w : World) (size : Nat) (A : Option Addr) (n : Nat) (xs : List Value) : Prop :=
  xs.length = n * size ∧ (0 < n → ∃ b off, A = some ⟨b, off, none⟩ ∧ X b ∧ ∀ j u, xs[j]? = some u → w.cell? ⟨b, off + j, none⟩ = some u)

mutual
/-- The four cells of a node; all that hangs at them lies in blocks of X. -/
def NodeC (X : Nat → Prop) (w : World) : Nd → List Value → Prop
  | .mk k t l a, cs => ∃ A cap xs, cs = [.int .i64 k, .string t, .slice A l.length cap, .int .i64 a] ∧ l.length ≤ cap ∧ ReadsX X w 4 A l.length xs ∧ NodesC X w l xs
def NodesC (X : Nat → Prop) (w : World) : List Nd → List Value → Prop
  | [], xs => xs = []
  | n :: l, xs => ∃ ys zs, xs = ys ++ zs ∧ NodeC X w n ys ∧ NodesC X w l zs
end

section
variable {X Y : Nat → Prop} {w w' : World}
theorem ReadsX.mono {size n : Nat} {A : Option Addr} {xs : List Value} (hXY : ∀ b, X b → b < w.heap.size → Y b) (h : ReadsX X w size A n xs) (hs : 0 < size) : ReadsX Y w size A n xs :=
  ⟨h.1, fun hn => by
    obtain ⟨b, off, e, hb, hc⟩ := h.2 hn
    have hl : 0 < xs.length := by rw [h.1]; exact Nat.mul_pos hn hs
    have h0 := hc 0 xs[0] (List.getElem?_eq_getElem hl)
    exact ⟨b, off, e, hXY b hb (World.block_lt_of_cell? w _ h0), hc⟩⟩
theorem ReadsX.keep {size n : Nat} {A : Option Addr} {xs : List Value} (hk : ∀ b, X b → b < w.heap.size → w'.heap[b]? = w.heap[b]?) (h : ReadsX X w size A n xs) : ReadsX X w' size A n xs :=
  ⟨h.1, fun hn => by
    obtain ⟨b, off, e, hb, hc⟩ := h.2 hn
    refine ⟨b, off, e, hb, fun j u hu => ?_⟩
    have h0 := hc j u hu
    have hlt := World.block_lt_of_cell? w _ h0
    exact (World.cell?_of_block (a := ⟨b, off + j, none⟩) (hk b hb hlt)).trans h0⟩

mutual
theorem NodeC.mono (hXY : ∀ b, X b → b < w.heap.size → Y b) : ∀ (n : Nd) (cs : List Value), NodeC X w n cs → NodeC Y w n cs
  | .mk k t l a, cs, h => by
    unfold NodeC at h ⊢
    obtain ⟨A, cap, xs, e, hl, hr, hn⟩ := h
    exact ⟨A, cap, xs, e, hl, hr.mono hXY (by omega), NodesC.mono hXY l xs hn⟩
theorem NodesC.mono (hXY : ∀ b, X b → b < w.heap.size → Y b) : ∀ (l : List Nd) (xs : List Value), NodesC X w l xs → NodesC Y w l xs
  | [], xs, h => by unfold NodesC at h ⊢; exact h
  | n :: l, xs, h => by
    unfold NodesC at h ⊢
    obtain ⟨ys, zs, e, h1, h2⟩ := h
    exact ⟨ys, zs, e, NodeC.mono hXY n ys h1, NodesC.mono hXY l zs h2⟩
end
mutual
theorem NodeC.keep (hk : ∀ b, X b → b < w.heap.size → w'.heap[b]? = w.heap[b]?) : ∀ (n : Nd) (cs : List Value), NodeC X w n cs → NodeC X w' n cs
  | .mk k t l a, cs, h => by
    unfold NodeC at h ⊢
    obtain ⟨A, cap, xs, e, hl, hr, hn⟩ := h
    exact ⟨A, cap, xs, e, hl, hr.keep hk, NodesC.keep hk l xs hn⟩
theorem NodesC.keep (hk : ∀ b, X b → b < w.heap.size → w'.heap[b]? = w.heap[b]?) : ∀ (l : List Nd) (xs : List Value), NodesC X w l xs → NodesC X w' l xs
  | [], xs, h => by unfold NodesC at h ⊢; exact h
  | n :: l, xs, h => by
    unfold NodesC at h ⊢
    obtain ⟨ys, zs, e, h1, h2⟩ := h
    exact ⟨ys, zs, e, NodeC.keep hk n ys h1, NodesC.keep hk l zs h2⟩
end
theorem NodeC.len {n : Nd} {cs : List Value} (h : NodeC X w n cs) : cs.length = 4 := by
  cases n
  unfold NodeC at h
  obtain ⟨A, cap, xs, e, _⟩ := h
  simp [e]
theorem NodesC.len : ∀ {l : List Nd} {xs : List Value}, NodesC X w l xs → xs.length = l.length * 4
  | [], xs, h => by unfold NodesC at h; simp [h]
  | n :: l, xs, h => by
    unfold NodesC at h
    obtain ⟨ys, zs, rfl, h1, h2⟩ := h
    rw [List.length_append, h1.len, h2.len, List.length_cons]
    omega
theorem NodesC.nil : NodesC X w [] [] := by unfold NodesC; rfl
theorem NodesC.cons {n : Nd} {l : List Nd} {ys zs : List Value} (h1 : NodeC X w n ys) (h2 : NodesC X w l zs) : NodesC X w (n :: l) (ys ++ zs) := by
  unfold NodesC
  exact ⟨ys, zs, rfl, h1, h2⟩
theorem NodesC.one {n : Nd} {ys : List Value} (h1 : NodeC X w n ys) : NodesC X w [n] ys := by
  have := NodesC.cons h1 (NodesC.nil (X := X) (w := w))
  rwa [List.append_nil] at this
theorem NodesC.app : ∀ {l m : List Nd} {xs ys : List Value}, NodesC X w l xs → NodesC X w m ys → NodesC X w (l ++ m) (xs ++ ys)
  | [], m, xs, ys, h1, h2 => by unfold NodesC at h1; subst h1; exact h2
  | n :: l, m, xs, ys, h1, h2 => by
    unfold NodesC at h1
    obtain ⟨us, bs, rfl, h3, h4⟩ := h1
    rw [List.append_assoc]
    exact NodesC.cons h3 (NodesC.app h4 h2)
theorem NodesC.get : ∀ {l : List Nd} {xs : List Value} (i : Nat) (hi : i < l.length), NodesC X w l xs → ∃ ys, NodeC X w l[i] ys ∧ (∀ j, j < 4 → xs[i * 4 + j]? = ys[j]?)
  | [], xs, i, hi, h => absurd hi (by simp)
  | n :: l, xs, 0, hi, h => by
    unfold NodesC at h
    obtain ⟨ys, zs, rfl, h1, h2⟩ := h
    refine ⟨ys, h1, fun j hj => ?_⟩
    rw [List.getElem?_append_left (by rw [h1.len]; omega)]
    simp
  | n :: l, xs, i + 1, hi, h => by
    unfold NodesC at h
    obtain ⟨ys, zs, rfl, h1, h2⟩ := h
    obtain ⟨us, h3, h4⟩ := NodesC.get i (by simpa using hi) h2
    refine ⟨us, h3, fun j hj => ?_⟩
    rw [List.getElem?_append_right (by rw [h1.len]; omega), h1.len, show (i + 1) * 4 + j - 4 = i * 4 + j by omega]
    exact h4 j hj
theorem NodesC.split : ∀ {l : List Nd} {xs : List Value} (k : Nat), NodesC X w l xs → NodesC X w (l.take k) (xs.take (k * 4)) ∧ NodesC X w (l.drop k) (xs.drop (k * 4))
  | l, xs, 0, h => by simpa using ⟨NodesC.nil, h⟩
  | [], xs, k + 1, h => by
    unfold NodesC at h
    subst h
    constructor <;> simpa using NodesC.nil
  | n :: l, xs, k + 1, h => by
    unfold NodesC at h
    obtain ⟨ys, zs, rfl, h1, h2⟩ := h
    obtain ⟨h3, h4⟩ := NodesC.split k h2
    have e1 : (ys ++ zs).take ((k + 1) * 4) = ys ++ zs.take (k * 4) := by
      rw [List.take_append, h1.len, List.take_of_length_le (by rw [h1.len]; omega), show (k + 1) * 4 - 4 = k * 4 by omega]
    have e2 : (ys ++ zs).drop ((k + 1) * 4) = zs.drop (k * 4) := by
      rw [List.drop_append, h1.len, List.drop_of_length_le (by rw [h1.len]; omega), show (k + 1) * 4 - 4 = k * 4 by omega, List.nil_append]
    rw [e1, e2, List.take_succ_cons, List.drop_succ_cons]
    exact ⟨NodesC.cons h1 h3, h4⟩

/-- A node as a value. -/
def NodeV (X : Nat → Prop) (w : World) (v : Value) (n : Nd) : Prop :=
  ∃ A cap xs, v = .agg #[.int .i64 n.kind, .string n.text, .slice A n.kids.length cap, .int .i64 n.pos] ∧ n.kids.length ≤ cap ∧ ReadsX X w 4 A n.kids.length xs ∧ NodesC X w n.kids xs
theorem NodeV.toC {v : Value} {n : Nd} (h : NodeV X w v n) : ∃ A cap, v = .agg #[.int .i64 n.kind, .string n.text, .slice A n.kids.length cap, .int .i64 n.pos] ∧ NodeC X w n [.int .i64 n.kind, .string n.text, .slice A n.kids.length cap, .int .i64 n.pos] := by
  obtain ⟨A, cap, xs, e, h1, h2, h3⟩ := h
  refine ⟨A, cap, e, ?_⟩
  cases n
  unfold NodeC
  exact ⟨A, cap, xs, rfl, h1, h2, h3⟩
theorem NodeC.toV {n : Nd} {cs : List Value} (h : NodeC X w n cs) : ∃ A cap xs, cs = [.int .i64 n.kind, .string n.text, .slice A n.kids.length cap, .int .i64 n.pos] ∧ n.kids.length ≤ cap ∧ ReadsX X w 4 A n.kids.length xs ∧ NodesC X w n.kids xs := by
  cases n
  unfold NodeC at h
  exact h
theorem NodeV.mono {v : Value} {n : Nd} (hXY : ∀ b, X b → b < w.heap.size → Y b) (h : NodeV X w v n) : NodeV Y w v n := by
  obtain ⟨A, cap, xs, e, h1, h2, h3⟩ := h
  exact ⟨A, cap, xs, e, h1, h2.mono hXY (by omega), h3.mono hXY⟩
theorem NodeV.keep {v : Value} {n : Nd} (hk : ∀ b, X b → b < w.heap.size → w'.heap[b]? = w.heap[b]?) (h : NodeV X w v n) : NodeV X w' v n := by
  obtain ⟨A, cap, xs, e, h1, h2, h3⟩ := h
  exact ⟨A, cap, xs, e, h1, h2.keep hk, h3.keep hk⟩
theorem NodeV.zero : NodeV X w (.agg #[.int .i64 0, .string ⟨#[]⟩, .slice none 0 0, .int .i64 0]) nd0 :=
  ⟨none, 0, [], rfl, Nat.le_refl _, ⟨rfl, fun h => absurd h (by simp [nd0])⟩, NodesC.nil⟩
end
end Go.Proofs.YtnalfjaojcahhaaGreatDoor
