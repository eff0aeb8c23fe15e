/-
  tree.Size, tree.Depth: how many nodes there are; how many are within one another. By an AI agent.
  tree.Right: is it a right file? By an AI agent.
  all: a text that is read whole, a deferred function beside it. By an AI agent.
  read.File at a text that is read whole and right. By an AI agent.
-/
import Derived.Test.YtnalfjaojcahhaaGreatDoorJ18
import Derived.Test.YtnalfjaojcahhaaGreatDoorJ15
import Derived.BigQuiet
import Derived.Defers
import Derived.Recover
namespace Go.Proofs.YtnalfjaojcahhaaGreatDoor
open Go.RowKit Go.Lib Go.Proofs Go.Shelf
attribute [local go_sem ↓] Go.wp_at_zero Go.wp_at_succ
attribute [local go_sem] Oper.semAt_some

theorem ent_nodes1 (a : Array Value) (w : World) : (callFunc 125 a).run Tryz.prog w = .ok (.enter 125 a) w := by kernel_rfl

theorem zip2 (p q : Nat) (a b : Value) (t : Array Value) : ((#[p, q] : Array Nat).zip #[a, b]).foldl (fun t x => t.setIfInBounds x.fst x.snd) t = (t.setIfInBounds p a).setIfInBounds q b := by simp

set_option maxRecDepth 100000 in
set_option maxHeartbeats 4000000 in
theorem tsize_in (v : Value) (n : Nd) (w : World) (hv : NodeW w v n) (hw : Wee 100 n) (hc : (lefts 100 n).length ≤ 1000000000) :
    CallsIn Fence.wide 9 Tryz.prog 51 #[v] w fun e w' => e = .returned (.int .i64 ((lefts 100 n).length : Int)) ∧ Below w.heap.size w w' := by
  have hV0 := hv
  obtain ⟨A, cp, rfl, hC⟩ := hv.toC
  have hV1 : NodeV (· < w.heap.size) w _ n := hV0.mono fun b _ h => h
  have HV := Lib.hid hV1
  have HW := Lib.hid hw
  have HC := Lib.hid hc
  clear hV0 hv hC hV1 hw hc
  refine callsIn_of_wp_marks Tryz.func51 rfl trivial ?_ rfl
  simp only [Tryz.ntmps51, List.size_toArray, List.length_cons, List.length_nil, Nat.reduceAdd, Nat.reduceSub, Array.replicate_succ, Array.replicate_zero, List.push_toArray, List.append_toArray, List.nil_append, List.cons_append]
  gi_wp2
  refine ⟨trivial, (nodes_in 8 _ 100 n _ ((HV.out.wide).below (by (repeat' (first | with_reducible assumption | with_reducible exact Below.refl _ _ | with_reducible refine Below.alloc ?_ ?_ _ | with_reducible refine Below.setCell ?_ ?_ _ | with_reducible refine Below.drew ?_ | with_reducible refine below_drewN ?_ _ | (simp <;> omega) | omega))))).mono ?_⟩
  simp only [Value.cells]
  rintro e w1 ⟨rfl, rfl⟩
  have o1 : Blk ((((w.alloc (.cells #[.int .i64 n.kind, .string n.text, .slice A n.kids.length cp, .int .i64 n.pos] 24)).alloc (.cells #[.int .i64 0] 3)).alloc (.cells #[.int .i64 n.kind, .string n.text, .slice A n.kids.length cp, .int .i64 n.pos] 24)).alloc (.cells #[.int .i64 100] 3)) (w.heap.size + 1) 3 #[.int .i64 0] := ((Blk.new_at (by simp) _ _).alloc _).alloc _
  have o2 : Blk ((((w.alloc (.cells #[.int .i64 n.kind, .string n.text, .slice A n.kids.length cp, .int .i64 n.pos] 24)).alloc (.cells #[.int .i64 0] 3)).alloc (.cells #[.int .i64 n.kind, .string n.text, .slice A n.kids.length cp, .int .i64 n.pos] 24)).alloc (.cells #[.int .i64 100] 3)) (w.heap.size + 1 + 1) 24 #[.int .i64 n.kind, .string n.text, .slice A n.kids.length cp, .int .i64 n.pos] := (Blk.new_at (by simp) _ _).alloc _
  have o3 : Blk ((((w.alloc (.cells #[.int .i64 n.kind, .string n.text, .slice A n.kids.length cp, .int .i64 n.pos] 24)).alloc (.cells #[.int .i64 0] 3)).alloc (.cells #[.int .i64 n.kind, .string n.text, .slice A n.kids.length cp, .int .i64 n.pos] 24)).alloc (.cells #[.int .i64 100] 3)) (w.heap.size + 1 + 1 + 1) 3 #[.int .i64 100] := Blk.new_at (by simp) _ _
  have hB : Below w.heap.size w ((((w.alloc (.cells #[.int .i64 n.kind, .string n.text, .slice A n.kids.length cp, .int .i64 n.pos] 24)).alloc (.cells #[.int .i64 0] 3)).alloc (.cells #[.int .i64 n.kind, .string n.text, .slice A n.kids.length cp, .int .i64 n.pos] 24)).alloc (.cells #[.int .i64 100] 3)) := by (repeat' (first | with_reducible assumption | with_reducible exact Below.refl _ _ | with_reducible refine Below.alloc ?_ ?_ _ | with_reducible refine Below.setCell ?_ ?_ _ | with_reducible refine Below.drew ?_ | with_reducible refine below_drewN ?_ _ | (simp <;> omega) | omega))
  have hz : ((((w.alloc (.cells #[.int .i64 n.kind, .string n.text, .slice A n.kids.length cp, .int .i64 n.pos] 24)).alloc (.cells #[.int .i64 0] 3)).alloc (.cells #[.int .i64 n.kind, .string n.text, .slice A n.kids.length cp, .int .i64 n.pos] 24)).alloc (.cells #[.int .i64 100] 3)).heap.size = w.heap.size + 4 := by simp
  gi_wp2
  generalize (((w.alloc (.cells #[.int .i64 n.kind, .string n.text, .slice A n.kids.length cp, .int .i64 n.pos] 24)).alloc (.cells #[.int .i64 0] 3)).alloc (.cells #[.int .i64 n.kind, .string n.text, .slice A n.kids.length cp, .int .i64 n.pos] 24)).alloc (.cells #[.int .i64 100] 3) = W0 at *
  have hseq : SeqStopsK Fence.wide (9 - 1) Tryz.prog 125 #[.pointer (some ⟨w.heap.size + 1 + 1, 0, none⟩), .pointer (some ⟨w.heap.size + 1 + 1 + 1, 0, none⟩)] yArgs (KpC w.heap.size (w.heap.size + 1)) (fun ys => ys.map (·.2.1) = lefts 100 n) (fun _ => True) (lefts 100 n).length W0 :=
    fun l J Jx W hW hJ hJx hY h0 => nodes1_in l w.heap.size (w.heap.size + 1) 8 100 _ n J Jx (fun s W o hs => hJ s W _ none hs (World.grownBy_alloc W o none) (fun r e => by cases e)) hY W _ _ A cp rfl (by omega) (o2.below hW (by omega)) (o3.below hW (by omega))
      (HV.out.keep fun b hb _ => (hW.block b (by omega)).trans (hB.block b hb)) HW.out (Nat.le_trans hB.size hW.size) (by have := hW.size; omega) h0
  have HSEQ := Lib.hid hseq
  obtain ⟨oc, of⟩ : W0.cell? ⟨w.heap.size + 1, 0, none⟩ = some (.int .i64 0) ∧ W0.frozen? ⟨w.heap.size + 1, 0, none⟩ = false := ⟨blk1 o1, o1.frozen 0⟩
  clear hseq o1 o2 o3
  refine wpIn_rangeFunc_ownF (w0 := W0) rfl (by omega) (gf := 125) (lb := #[.pointer (some ⟨w.heap.size + 1 + 1, 0, none⟩), .pointer (some ⟨w.heap.size + 1 + 1 + 1, 0, none⟩)]) rfl trivial ent_nodes1 HSEQ.out (fun h k => h.trans k) (fun W l o o' => kpC_b hB.size W l o o') (Below.refl _ _) (fun _ => rfl)
    (fun pre W => (W.cell? ⟨w.heap.size + 1, 0, none⟩ = some (.int .i64 (pre.length : Int)) ∧ W.frozen? ⟨w.heap.size + 1, 0, none⟩ = false) ∧ Below w.heap.size w W) (fun _ _ _ => False)
    (OwnFrom.and (Own.from (fun s A B row hs hg hr => ⟨Go.cell_kept hs.1 hg hr, (Go.frozen_kept hs.1 hg hr).trans hs.2⟩) _) (ownFrom_below (Nat.le_refl _) (by omega)))
    (fun _ _ _ _ _ hs _ _ => hs) ⟨⟨oc, of⟩, hB⟩
    (fun x => { tmps := #[.agg #[.int .i64 n.kind, .string n.text, .slice A n.kids.length cp, .int .i64 n.pos], .pointer (some ⟨w.heap.size, 0, none⟩), .int .i64 0, .pointer (some ⟨w.heap.size + 1, 0, none⟩), .agg #[.int .i64 n.kind, .string n.text, .slice A n.kids.length cp, .int .i64 n.pos],
      .func (.func 125) #[] #[.pointer (some ⟨w.heap.size + 1 + 1, 0, none⟩), .pointer (some ⟨w.heap.size + 1 + 1 + 1, 0, none⟩)], x.1, .int .i64 (x.2.1 : Int), undef, undef, undef], defers := [] }) ?assign ?body ?done ?stop
  case assign =>
    intro l x W K hK
    unfold yArgs
    gi_wp2
    rw [zip2]
    exact hK
  case body =>
    rintro l pre x W ⟨⟨hc, hf⟩, hb⟩ hl
    have hl2 := Nat.lt_of_lt_of_le hl HC.out
    have HB := Lib.hid hb
    have hbs := hb.size
    clear hb hl
    gi_wp2
    refine ⟨KeepsOthers.setCell _ _ _, ⟨(Below.refl _ _).setCell (p := ⟨w.heap.size + 1, 0, none⟩) (by show w.heap.size ≤ w.heap.size + 1; omega) _, fun k hk _ => Below.heap_setCell W ⟨w.heap.size + 1, 0, none⟩ _ k hk⟩, ⟨?_, ?_⟩, HB.out.setCell (p := ⟨w.heap.size + 1, 0, none⟩) (by show w.heap.size ≤ w.heap.size + 1; omega) _⟩
    · rw [World.cell?_setCell_same' _ _ _ (by rw [hc]; rfl)]
      simp
    · rw [World.frozen?_setCell]; exact hf
  case done =>
    rintro D ys W hD hys ⟨⟨hc, hf⟩, hb⟩ hK
    have HB := Lib.hid (hb.trans (kpC_b (OB := 0) hB.size W D _ (.deferred none) hD hK rfl rfl).bel)
    have HY := Lib.hid (show ys.length = (lefts 100 n).length by rw [← hys, List.length_map])
    clear hb hys
    gi_wp2
    refine ⟨by simp, .inl ⟨_, _, rfl, run_takeDeferred hK, ?_⟩⟩
    exact ⟨_, results_tmp rfl _ _ _, by rw [← HY.out]; rfl, HB.out⟩
  case stop =>
    rintro D c pre W _ _ h _
    exact h.elim
/-- The greatest depth, of how much is left. -/
def dpt (l : List Nat) : Nat := l.foldl (fun d l => max d (102 - l)) 0
theorem dpt_snoc (l : List Nat) (x : Nat) : dpt (l ++ [x]) = max (dpt l) (102 - x) := by unfold dpt; rw [List.foldl_append]; rfl
theorem dpt_le (l : List Nat) : dpt l ≤ 102 := ((foldl_max_iff l 0 102).2 ⟨by omega, fun _ _ => by omega⟩)

set_option maxRecDepth 100000 in
set_option maxHeartbeats 4000000 in
theorem tdepth_in (v : Value) (n : Nd) (w : World) (hv : NodeW w v n) (hw : Wee 101 n) :
    CallsIn Fence.wide 9 Tryz.prog 50 #[v] w fun e w' => e = .returned (.int .i64 (depthT n : Int)) ∧ Below w.heap.size w w' := by
  have hV0 := hv
  obtain ⟨A, cp, rfl, hC⟩ := hv.toC
  have hV1 : NodeV (· < w.heap.size) w _ n := hV0.mono fun b _ h => h
  have HV := Lib.hid hV1
  have HW := Lib.hid hw
  clear hV0 hv hC hV1 hw
  refine callsIn_of_wp_marks Tryz.func50 rfl trivial ?_ rfl
  simp only [Tryz.ntmps50, List.size_toArray, List.length_cons, List.length_nil, Nat.reduceAdd, Nat.reduceSub, Array.replicate_succ, Array.replicate_zero, List.push_toArray, List.append_toArray, List.nil_append, List.cons_append]
  gi_wp2
  refine ⟨trivial, (nodes_in 8 _ 101 n _ ((HV.out.wide).below (by (repeat' (first | with_reducible assumption | with_reducible exact Below.refl _ _ | with_reducible refine Below.alloc ?_ ?_ _ | with_reducible refine Below.setCell ?_ ?_ _ | with_reducible refine Below.drew ?_ | with_reducible refine below_drewN ?_ _ | (simp <;> omega) | omega))))).mono ?_⟩
  simp only [Value.cells]
  rintro e w1 ⟨rfl, rfl⟩
  have o1 : Blk ((((w.alloc (.cells #[.int .i64 n.kind, .string n.text, .slice A n.kids.length cp, .int .i64 n.pos] 24)).alloc (.cells #[.int .i64 0] 3)).alloc (.cells #[.int .i64 n.kind, .string n.text, .slice A n.kids.length cp, .int .i64 n.pos] 24)).alloc (.cells #[.int .i64 101] 3)) (w.heap.size + 1) 3 #[.int .i64 0] := ((Blk.new_at (by simp) _ _).alloc _).alloc _
  have o2 : Blk ((((w.alloc (.cells #[.int .i64 n.kind, .string n.text, .slice A n.kids.length cp, .int .i64 n.pos] 24)).alloc (.cells #[.int .i64 0] 3)).alloc (.cells #[.int .i64 n.kind, .string n.text, .slice A n.kids.length cp, .int .i64 n.pos] 24)).alloc (.cells #[.int .i64 101] 3)) (w.heap.size + 1 + 1) 24 #[.int .i64 n.kind, .string n.text, .slice A n.kids.length cp, .int .i64 n.pos] := (Blk.new_at (by simp) _ _).alloc _
  have o3 : Blk ((((w.alloc (.cells #[.int .i64 n.kind, .string n.text, .slice A n.kids.length cp, .int .i64 n.pos] 24)).alloc (.cells #[.int .i64 0] 3)).alloc (.cells #[.int .i64 n.kind, .string n.text, .slice A n.kids.length cp, .int .i64 n.pos] 24)).alloc (.cells #[.int .i64 101] 3)) (w.heap.size + 1 + 1 + 1) 3 #[.int .i64 101] := Blk.new_at (by simp) _ _
  have hB : Below w.heap.size w ((((w.alloc (.cells #[.int .i64 n.kind, .string n.text, .slice A n.kids.length cp, .int .i64 n.pos] 24)).alloc (.cells #[.int .i64 0] 3)).alloc (.cells #[.int .i64 n.kind, .string n.text, .slice A n.kids.length cp, .int .i64 n.pos] 24)).alloc (.cells #[.int .i64 101] 3)) := by (repeat' (first | with_reducible assumption | with_reducible exact Below.refl _ _ | with_reducible refine Below.alloc ?_ ?_ _ | with_reducible refine Below.setCell ?_ ?_ _ | with_reducible refine Below.drew ?_ | with_reducible refine below_drewN ?_ _ | (simp <;> omega) | omega))
  have hz : ((((w.alloc (.cells #[.int .i64 n.kind, .string n.text, .slice A n.kids.length cp, .int .i64 n.pos] 24)).alloc (.cells #[.int .i64 0] 3)).alloc (.cells #[.int .i64 n.kind, .string n.text, .slice A n.kids.length cp, .int .i64 n.pos] 24)).alloc (.cells #[.int .i64 101] 3)).heap.size = w.heap.size + 4 := by simp
  gi_wp2
  generalize (((w.alloc (.cells #[.int .i64 n.kind, .string n.text, .slice A n.kids.length cp, .int .i64 n.pos] 24)).alloc (.cells #[.int .i64 0] 3)).alloc (.cells #[.int .i64 n.kind, .string n.text, .slice A n.kids.length cp, .int .i64 n.pos] 24)).alloc (.cells #[.int .i64 101] 3) = W0 at *
  have hseq : SeqStopsK Fence.wide (9 - 1) Tryz.prog 125 #[.pointer (some ⟨w.heap.size + 1 + 1, 0, none⟩), .pointer (some ⟨w.heap.size + 1 + 1 + 1, 0, none⟩)] yArgs (KpC w.heap.size (w.heap.size + 1)) (fun ys => ys.map (·.2.1) = lefts 101 n) (fun _ => True) (lefts 101 n).length W0 :=
    fun l J Jx W hW hJ hJx hY h0 => nodes1_in l w.heap.size (w.heap.size + 1) 8 101 _ n J Jx (fun s W o hs => hJ s W _ none hs (World.grownBy_alloc W o none) (fun r e => by cases e)) hY W _ _ A cp rfl (by omega) (o2.below hW (by omega)) (o3.below hW (by omega))
      (HV.out.keep fun b hb _ => (hW.block b (by omega)).trans (hB.block b hb)) HW.out (Nat.le_trans hB.size hW.size) (by have := hW.size; omega) h0
  have HSEQ := Lib.hid hseq
  obtain ⟨oc, of⟩ : W0.cell? ⟨w.heap.size + 1, 0, none⟩ = some (.int .i64 0) ∧ W0.frozen? ⟨w.heap.size + 1, 0, none⟩ = false := ⟨blk1 o1, o1.frozen 0⟩
  clear hseq o1 o2 o3
  refine wpIn_rangeFunc_ownF (w0 := W0) rfl (by omega) (gf := 125) (lb := #[.pointer (some ⟨w.heap.size + 1 + 1, 0, none⟩), .pointer (some ⟨w.heap.size + 1 + 1 + 1, 0, none⟩)]) rfl trivial ent_nodes1 HSEQ.out (fun h k => h.trans k) (fun W l o o' => kpC_b hB.size W l o o') (Below.refl _ _) (fun _ => rfl)
    (fun pre W => (W.cell? ⟨w.heap.size + 1, 0, none⟩ = some (.int .i64 (dpt (pre.map (·.2.1)) : Int)) ∧ W.frozen? ⟨w.heap.size + 1, 0, none⟩ = false) ∧ Below w.heap.size w W) (fun _ _ _ => False)
    (OwnFrom.and (Own.from (fun s A B row hs hg hr => ⟨Go.cell_kept hs.1 hg hr, (Go.frozen_kept hs.1 hg hr).trans hs.2⟩) _) (ownFrom_below (Nat.le_refl _) (by omega)))
    (fun _ _ _ _ _ hs _ _ => hs) ⟨⟨oc, of⟩, hB⟩
    (fun x => { tmps := #[.agg #[.int .i64 n.kind, .string n.text, .slice A n.kids.length cp, .int .i64 n.pos], .pointer (some ⟨w.heap.size, 0, none⟩), .int .i64 0, .pointer (some ⟨w.heap.size + 1, 0, none⟩), undef, .int .i64 (x.2.1 : Int), .agg #[.int .i64 n.kind, .string n.text, .slice A n.kids.length cp, .int .i64 n.pos],
      .func (.func 125) #[] #[.pointer (some ⟨w.heap.size + 1 + 1, 0, none⟩), .pointer (some ⟨w.heap.size + 1 + 1 + 1, 0, none⟩)], x.1, .int .i64 (x.2.1 : Int), undef, undef, undef, undef, undef], defers := [] }) ?assign ?body ?done ?stop
  case assign =>
    intro l x W K hK
    unfold yArgs
    gi_wp2
    exact hK
  case body =>
    rintro l pre x W ⟨⟨hc, hf⟩, hb⟩ hl
    have hx2 := x.2.2
    have hdp := dpt_le (pre.map (·.2.1))
    have HS := Lib.hid (dpt_snoc (pre.map (·.2.1)) x.2.1)
    generalize dpt (pre.map (·.2.1)) = dd at *
    have HB := Lib.hid hb
    have hbs := hb.size
    clear hb hl
    gi_wp2
    refine ⟨KeepsOthers.setCell _ _ _, ⟨(Below.refl _ _).setCell (p := ⟨w.heap.size + 1, 0, none⟩) (by show w.heap.size ≤ w.heap.size + 1; omega) _, fun k hk _ => Below.heap_setCell W ⟨w.heap.size + 1, 0, none⟩ _ k hk⟩, ⟨?_, ?_⟩, HB.out.setCell (p := ⟨w.heap.size + 1, 0, none⟩) (by show w.heap.size ≤ w.heap.size + 1; omega) _⟩
    · rw [World.cell?_setCell_same' _ _ _ (by rw [hc]; rfl), List.map_append, List.map_singleton, HS.out]
      rw [show max (dd : Int) (102 - (x.2.1 : Int)) = ((max dd (102 - x.2.1) : Nat) : Int) by omega]
    · rw [World.frozen?_setCell]; exact hf
  case done =>
    rintro D ys W hD hys ⟨⟨hc, hf⟩, hb⟩ hK
    have HB := Lib.hid (hb.trans (kpC_b (OB := 0) hB.size W D _ (.deferred none) hD hK rfl rfl).bel)
    have HY := Lib.hid (show dpt (ys.map (·.2.1)) = depthT n by rw [hys]; rfl)
    clear hb hys
    gi_wp2
    refine ⟨by simp, .inl ⟨_, _, rfl, run_takeDeferred hK, ?_⟩⟩
    exact ⟨_, results_tmp rfl _ _ _, by rw [← HY.out]; rfl, HB.out⟩
  case stop =>
    rintro D c pre W _ _ h _
    exact h.elim
end Go.Proofs.YtnalfjaojcahhaaGreatDoor
namespace Go.Proofs.YtnalfjaojcahhaaGreatDoor
open Go.RowKit Go.Lib Go.Proofs
attribute [local go_sem ↓] Go.wp_at_zero Go.wp_at_succ

theorem run_mkMap (t : TypeId) (w : World) : (Instr.makeMap t none).run Tryz.prog w = .ok (.map (some w.heap.size)) (w.alloc (.map #[] 0)) := rfl
theorem set_push {α : Type} (a : Array α) (x y : α) : (a.push x).setIfInBounds a.size y = a.push y := by
  rw [Array.push_eq_append, Array.push_eq_append, ← Array.toList_inj]
  simp [Array.toList_setIfInBounds]
theorem run_ck (e : Bool) (k : ByteArray) (w : World) : (Instr.checkKey e 10000 9 (.string k)).run Tryz.prog w = .ok () w := by
  show (Instr.checkKey e (9999 + 1) 9 (.string k)).run Tryz.prog w = .ok () w
  rw [Instr.checkKey]
  simp only [Sem.run_bind, run_underlying Tryz.underlying9, Result.andThen_ok, Sem.run_pure]
theorem run_update_new (w : World) (es : Array MapEntry) (clock : Nat) (key : ByteArray) (v : Value) (hn : Instr.findNow .string (.string key) es.toList 0 = some none) :
    (Instr.mapUpdate 65 (.map (some w.heap.size)) (.string key) v).run Tryz.prog (w.alloc (.map es clock)) = .ok () (w.alloc (.map (es.push ⟨.string key, v, clock⟩) (clock + 1))) := by
  have hb : (w.alloc (.map es clock)).heap[w.heap.size]? = some (.map es clock) := heap_alloc_new w _
  have hg : (getObj w.heap.size).run Tryz.prog (w.alloc (.map es clock)) = .ok (.map es clock) (w.alloc (.map es clock)) := by rw [getObj, Sem.run, hb]; rfl
  have hs : (setObj w.heap.size (.map (es.push ⟨.string key, v, clock⟩) (clock + 1))).run Tryz.prog (w.alloc (.map es clock)) = .ok () (w.alloc (.map (es.push ⟨.string key, v, clock⟩) (clock + 1))) := by
    rw [setObj, Sem.run, hb]
    exact congrArg (fun h => Result.ok () { w with heap := h }) (set_push w.heap _ _)
  unfold Instr.mapUpdate
  simp only [run_underlying Tryz.underlying65, Sem.run_bind, Result.andThen_ok, hg, run_ck, run_underlying Tryz.underlying9, Instr.findKey, hn, Sem.run_pure, hs]

/-- The questions of all sorts, as they lie in memory. -/
def sortsEs : Array MapEntry := #[⟨.string (⟨#[102, 105, 108, 101]⟩ : ByteArray), .func (.func 69) #[] #[], 0⟩, ⟨.string (⟨#[100, 101, 99, 108, 97, 114, 97, 116, 105, 111, 110]⟩ : ByteArray), .func (.func 72) #[] #[], 1⟩, ⟨.string (⟨#[116, 121, 112, 101]⟩ : ByteArray), .func (.func 73) #[] #[], 2⟩,
  ⟨.string (⟨#[101, 120, 112, 114, 101, 115, 115, 105, 111, 110]⟩ : ByteArray), .func (.func 74) #[] #[], 3⟩, ⟨.string (⟨#[115, 116, 97, 116, 101, 109, 101, 110, 116]⟩ : ByteArray), .func (.func 75) #[] #[], 4⟩, ⟨.string (⟨#[115, 105, 103, 110, 97, 116, 117, 114, 101]⟩ : ByteArray), .func (.func 76) #[] #[], 5⟩]
set_option maxRecDepth 100000 in
theorem sorts_any (w : World) : Calls Tryz.prog 49 #[] w fun e w' => e = .returned (.map (some w.heap.size)) ∧ w' = w.alloc (.map sortsEs 6) := by
  have hmm := run_mkMap
  have u1 := run_update_new w #[] 0 (⟨#[102, 105, 108, 101]⟩ : ByteArray) (.func (.func 69) #[] #[]) rfl
  have u2 := run_update_new w #[⟨.string (⟨#[102, 105, 108, 101]⟩ : ByteArray), .func (.func 69) #[] #[], 0⟩] 1 (⟨#[100, 101, 99, 108, 97, 114, 97, 116, 105, 111, 110]⟩ : ByteArray) (.func (.func 72) #[] #[]) rfl
  have u3 := run_update_new w #[⟨.string (⟨#[102, 105, 108, 101]⟩ : ByteArray), .func (.func 69) #[] #[], 0⟩, ⟨.string (⟨#[100, 101, 99, 108, 97, 114, 97, 116, 105, 111, 110]⟩ : ByteArray), .func (.func 72) #[] #[], 1⟩] 2 (⟨#[116, 121, 112, 101]⟩ : ByteArray) (.func (.func 73) #[] #[]) rfl
  have u4 := run_update_new w #[⟨.string (⟨#[102, 105, 108, 101]⟩ : ByteArray), .func (.func 69) #[] #[], 0⟩, ⟨.string (⟨#[100, 101, 99, 108, 97, 114, 97, 116, 105, 111, 110]⟩ : ByteArray), .func (.func 72) #[] #[], 1⟩, ⟨.string (⟨#[116, 121, 112, 101]⟩ : ByteArray), .func (.func 73) #[] #[], 2⟩] 3 (⟨#[101, 120, 112, 114, 101, 115, 115, 105, 111, 110]⟩ : ByteArray) (.func (.func 74) #[] #[]) rfl
  have u5 := run_update_new w #[⟨.string (⟨#[102, 105, 108, 101]⟩ : ByteArray), .func (.func 69) #[] #[], 0⟩, ⟨.string (⟨#[100, 101, 99, 108, 97, 114, 97, 116, 105, 111, 110]⟩ : ByteArray), .func (.func 72) #[] #[], 1⟩, ⟨.string (⟨#[116, 121, 112, 101]⟩ : ByteArray), .func (.func 73) #[] #[], 2⟩, ⟨.string (⟨#[101, 120, 112, 114, 101, 115, 115, 105, 111, 110]⟩ : ByteArray), .func (.func 74) #[] #[], 3⟩] 4 (⟨#[115, 116, 97, 116, 101, 109, 101, 110, 116]⟩ : ByteArray) (.func (.func 75) #[] #[]) rfl
  have u6 := run_update_new w #[⟨.string (⟨#[102, 105, 108, 101]⟩ : ByteArray), .func (.func 69) #[] #[], 0⟩, ⟨.string (⟨#[100, 101, 99, 108, 97, 114, 97, 116, 105, 111, 110]⟩ : ByteArray), .func (.func 72) #[] #[], 1⟩, ⟨.string (⟨#[116, 121, 112, 101]⟩ : ByteArray), .func (.func 73) #[] #[], 2⟩, ⟨.string (⟨#[101, 120, 112, 114, 101, 115, 115, 105, 111, 110]⟩ : ByteArray), .func (.func 74) #[] #[], 3⟩, ⟨.string (⟨#[115, 116, 97, 116, 101, 109, 101, 110, 116]⟩ : ByteArray), .func (.func 75) #[] #[], 4⟩] 5 (⟨#[115, 105, 103, 110, 97, 116, 117, 114, 101]⟩ : ByteArray) (.func (.func 76) #[] #[]) rfl
  go_enter Tryz.func49, Tryz.ntmps49
  go_wp2_with fail
  go_ret
  exact ⟨rfl, rfl⟩

/-- A look-up among the questions. -/
theorem run_look (w : World) (b : Nat) (key : ByteArray) (v : Value) (i : Nat) (hb : w.heap[b]? = some (.map sortsEs 6)) (hn : Instr.findNow .string (.string key) sortsEs.toList 0 = some (some (i, v))) :
    (Instr.lookup 65 (.map (some b)) (.string key) true).run Tryz.prog w = .ok (.tuple #[v, .bool true]) w := by
  have hg : (getObj b).run Tryz.prog w = .ok (.map sortsEs 6) w := by rw [getObj, Sem.run, hb]; rfl
  unfold Instr.lookup
  simp only [run_underlying Tryz.underlying65, Sem.run_bind, Result.andThen_ok, hg, run_ck, run_underlying Tryz.underlying9, Instr.findKey, hn, Sem.run_pure, if_true]

theorem ent_decl (a : Array Value) (w : World) : (callFunc 72 a).run Tryz.prog w = .ok (.enter 72 a) w := by kernel_rfl
theorem ent_file (a : Array Value) (w : World) : (callFunc 69 a).run Tryz.prog w = .ok (.enter 69 a) w := by kernel_rfl
theorem decl_at (g : Nat) (F : TFns) (hF : OkT g F) : AskC g (declT F) 72 := by
  cases g with
  | zero => exact fun _ _ _ _ _ h => h.elim
  | succ d => exact decl_T d F hF.pred

set_option maxHeartbeats 2000000 in
theorem file_T (g : Nat) (F : TFns) (hF : OkT g F) : AskC (g + 1) (fileT F) 69 := by
  intro w v n hT hv hd
  have hV0 := hv
  obtain ⟨A, cp, rfl, hC⟩ := hv.toC
  have hB := (Below.refl w.heap.size w).alloc (Nat.le_refl _) (.cells #[.int .i64 n.kind, .string n.text, .slice A n.kids.length cp, .int .i64 n.pos] 24)
  have b1 : Blk (w.alloc (.cells #[.int .i64 n.kind, .string n.text, .slice A n.kids.length cp, .int .i64 n.pos] 24)) w.heap.size 24 #[.int .i64 n.kind, .string n.text, .slice A n.kids.length cp, .int .i64 n.pos] := Blk.new w _ _
  have HI := Lib.hid (fun w' (hb : Below (w.alloc (.cells #[.int .i64 n.kind, .string n.text, .slice A n.kids.length cp, .int .i64 n.pos] 24)).heap.size (w.alloc (.cells #[.int .i64 n.kind, .string n.text, .slice A n.kids.length cp, .int .i64 n.pos] 24)) w') => tall_any g (declT F) ⟨72, #[]⟩ A cp n.kids _ ((hV0.below hB).below hb).kidsV hd.2 hd.1.1 ((decl_at g F hF).so ent_decl _ ((hT.below hB).below hb)))
  have hE : fileT F n = ((n.kind == 1) && (nameT n.text && n.kids.all (declT F))) := by unfold fileT; rw [beq_dec]
  rw [hE]
  clear hE hV0 hv hC hT hF hd
  generalize n.kids.all (declT F) = q at *
  generalize n.kind = k at *
  cases h1 : (k == 1) with
  | false =>
    go_enter Tryz.func69, Tryz.ntmps69
    go_wp2_with fail
    go_ret
    exact ⟨rfl, hB⟩
  | true =>
    rw [beq_iff_eq] at h1
    subst h1
    cases hq : nameT n.text with
    | false =>
      go_enter Tryz.func69, Tryz.ntmps69
      go_wp2_with fail
      refine (name_T _ _).mono ?_
      rw [hq]
      rintro e w1 ⟨rfl, hb1⟩
      have hB1 := hB.trans (hb1.mono hB.size)
      clear hb1
      go_wp2_with fail
      go_ret
      exact ⟨rfl, hB1⟩
    | true =>
      go_enter Tryz.func69, Tryz.ntmps69
      go_wp2_with fail
      refine (name_T _ _).mono ?_
      rw [hq]
      rintro e w1 ⟨rfl, hb1⟩
      have hB1 := hB.trans (hb1.mono hB.size)
      have HI1 := Lib.hid (HI.out _ hb1)
      obtain ⟨x0, x1, x2, x3, _, _, _, _⟩ := blk4 (b1.below hb1 (by simp))
      clear hb1 HI
      go_wp2_with fail
      refine HI1.out.mono ?_
      rintro e w2 ⟨rfl, hb2⟩
      have hB2 := hB1.trans (hb2.mono hB1.size)
      clear hb2
      go_wp2_with fail
      go_ret
      exact ⟨rfl, hB2⟩

theorem tdepth_any (v : Value) (n : Nd) (w : World) (hv : NodeW w v n) (hw : Wee 101 n) :
    Calls Tryz.prog 50 #[v] w fun e w' => e = .returned (.int .i64 (depthT n : Int)) ∧ Below w.heap.size w w' := callsIn_wide.1 (tdepth_in v n w hv hw)
theorem tsize_any (v : Value) (n : Nd) (w : World) (hv : NodeW w v n) (hw : Wee 100 n) (hc : (lefts 100 n).length ≤ 1000000000) :
    Calls Tryz.prog 51 #[v] w fun e w' => e = .returned (.int .i64 ((lefts 100 n).length : Int)) ∧ Below w.heap.size w w' := callsIn_wide.1 (tsize_in v n w hv hw hc)
theorem Wee.pred : ∀ {g : Nat} {n : Nd}, Wee (g + 1) n → Wee g n
  | 0, _, _ => trivial
  | _ + 1, _, h => ⟨h.1, fun k hk => Wee.pred (h.2 k hk)⟩

theorem rightFile_eq (n : Nd) : rightFile n = (decide ((depthT n : Int) ≤ 100) && (decide (((lefts 100 n).length : Int) ≤ 65536) && fileT (tfns 100) n)) := by
  have e1 : decide ((depthT n : Int) ≤ 100) = decide (depthT n ≤ 100) := by rw [decide_eq_decide]; omega
  have e2 : decide (((lefts 100 n).length : Int) ≤ 65536) = decide ((lefts 100 n).length ≤ 65536) := by rw [decide_eq_decide]; omega
  rw [e1, e2]
  unfold rightFile sizeT
  generalize fileT (tfns 100) n = q
  rfl

set_option maxRecDepth 100000 in
set_option maxHeartbeats 2000000 in
theorem right_any (v : Value) (n : Nd) (w : World) (hT : Tab w) (hv : NodeW w v n) (hw : Wee 101 n) (hc : (lefts 100 n).length ≤ 1000000000) :
    Calls Tryz.prog 23 #[v, .string (⟨#[102, 105, 108, 101]⟩ : ByteArray)] w fun e w' => e = .returned (.bool (rightFile n)) ∧ Below w.heap.size w w' := by
  have hV0 := hv
  obtain ⟨A, cp, rfl, hC⟩ := hv.toC
  have hB := ((Below.refl w.heap.size w).alloc (Nat.le_refl _) (.cells #[.int .i64 n.kind, .string n.text, .slice A n.kids.length cp, .int .i64 n.pos] 24)).alloc (by simp) (.map sortsEs 6)
  have b1 : Blk ((w.alloc (.cells #[.int .i64 n.kind, .string n.text, .slice A n.kids.length cp, .int .i64 n.pos] 24)).alloc (.map sortsEs 6)) w.heap.size 24 #[.int .i64 n.kind, .string n.text, .slice A n.kids.length cp, .int .i64 n.pos] := (Blk.new w _ _).alloc _
  have hlk := run_look ((w.alloc (.cells #[.int .i64 n.kind, .string n.text, .slice A n.kids.length cp, .int .i64 n.pos] 24)).alloc (.map sortsEs 6)) (w.heap.size + 1) (⟨#[102, 105, 108, 101]⟩ : ByteArray) (.func (.func 69) #[] #[]) 0 (heap_new_at (by simp) _) rfl
  have HV := Lib.hid (hV0.below hB)
  have HT := Lib.hid (hT.below hB)
  have HW := Lib.hid hw
  have HC := Lib.hid hc
  have he := ent_file
  clear hV0 hv hC hT hw hc
  go_enter Tryz.func23, Tryz.ntmps23
  go_wp2_with fail
  refine (sorts_any _).mono ?_
  rintro e w1 ⟨rfl, rfl⟩
  go_wp2_with fail
  refine (tdepth_any _ n _ HV.out HW.out).mono ?_
  rintro e w1 ⟨rfl, hb1⟩
  have HE := Lib.hid (rightFile_eq n)
  have hB1 := hB.trans (hb1.mono hB.size)
  have c1 := b1.below hb1 (by simp; omega)
  obtain ⟨x0, x1, x2, x3, _, _, _, _⟩ := blk4 c1
  have HV1 := Lib.hid (HV.out.below hb1)
  have HT1 := Lib.hid (HT.out.below hb1)
  clear hb1 b1 hB
  cases hd : decide ((depthT n : Int) ≤ 100) with
  | false =>
    go_wp2_with fail
    go_ret
    exact ⟨by rw [HE.out, hd]; rfl, hB1⟩
  | true =>
    have HD := Lib.hid (dle_of_depth (HW.out.pred) (by have := of_decide_eq_true hd; omega))
    go_wp2_with fail
    refine (tsize_any _ n _ HV1.out HW.out.pred HC.out).mono ?_
    rintro e w2 ⟨rfl, hb2⟩
    have hB2 := hB1.trans (hb2.mono hB1.size)
    have c2 := c1.below hb2 c1.lt
    obtain ⟨y0, y1, y2, y3, _, _, _, _⟩ := blk4 c2
    have HV2 := Lib.hid (HV1.out.below hb2)
    have HT2 := Lib.hid (HT1.out.below hb2)
    clear hb2 c1 c2 x0 x1 x2 x3
    cases hs : decide (((lefts 100 n).length : Int) ≤ 65536) with
    | false =>
      go_wp2_with fail
      go_ret
      exact ⟨by rw [HE.out, hd, hs]; rfl, hB2⟩
    | true =>
      go_wp2_with fail
      refine (file_T 100 (tfns 100) (okT 100) _ _ n HT2.out HV2.out HD.out.succ).mono ?_
      rintro e w3 ⟨rfl, hb3⟩
      have hB3 := hB2.trans (hb3.mono hB2.size)
      clear hb3
      go_wp2_with fail
      go_ret
      exact ⟨by rw [HE.out, hd, hs]; rfl, hB3⟩
end Go.Proofs.YtnalfjaojcahhaaGreatDoor
namespace Go.Proofs.YtnalfjaojcahhaaGreatDoor
open Go.RowKit Go.Lib Go.Proofs
attribute [local go_sem ↓] Go.wp_at_zero Go.wp_at_succ
attribute [local go_sem] fld_tok0 fld_tok1 fld_tok2 fld_nd0 fld_nd1 fld_nd2 fld_nd3

/-- The deferred function, where nothing went wrong. -/
theorem all_idle (p q r : Addr) (w : World) :
    CallsD Tryz.prog 60 #[.pointer (some p), .pointer (some q), .pointer (some r)] .returning w fun e u' w' => e = .returned (.tuple #[]) ∧ u' = .returning ∧ w' = w := by
  refine callsD_of_wpS Tryz.func60 rfl fun c₀ cs hu => ?_
  apply wpS_seq
  apply wpS_region
  simp [wpOpsS, go_sem, recoverD, hu, Tryz.ntmps60, Exit.thenS]
  apply wpS_seq
  apply wpS_region
  simp [wpOpsS, go_sem, Exit.thenS]
  refine wpS_cond (t := false) (by simp [Act.eval, Array.replicate]) ?_
  simp only [Bool.false_eq_true, if_false]
  refine wpS_of_wp (wp_skip ?_)
  cases c₀
  simp_all [bodyPostS, results, Tryz.results60]

theorem Tab.grown {w w' : World} {R : Nat} (h : Tab w) (hg : w.grownBy w' (some R)) (hne : 0 ≠ R) : Tab w' := by
  obtain ⟨m, h⟩ := h
  exact ⟨m, (World.cell?_of_block (hg.block _ (World.block_lt_of_cell? w _ h) (fun e => hne (by injection e)))).trans h⟩

/-- A text that is read whole and right. -/
def Whole (E : Env) (w : World) (n : Nd) (e : Ending) (w' : World) : Prop :=
  (∃ v, e = .returned (.tuple #[v, .int .i64 0, .int .i64 0]) ∧ NodeV (fun b => w.heap.size ≤ b) w' v n) ∧ w.grownBy w' (some E.R)

set_option maxRecDepth 100000 in
set_option maxHeartbeats 4000000 in
theorem all_ok (E : Env) (k : FuncId) (first cap : Array Value) (part : R Nd) (s s1 : St) (n : Nd) (w : World) (h : RdAt E w s)
    (hk : ∀ a w, (callFunc k a).run Tryz.prog w = .ok (.enter k a) w) (hp : PartC E k (first ++ cap) part w) (hP : part E.c s = .ok n s1) (hat : s1.at_ = E.c.toks.length) (hr : rightFile n = true) (hT : Tab w) (hR : 0 ≠ E.R)
    (hw : Wee 101 n) (hc : (lefts 100 n).length ≤ 1000000000) :
    Calls Tryz.prog 47 #[.pointer (some ⟨E.R, 0, none⟩), .string (⟨#[102, 105, 108, 101]⟩ : ByteArray), .func (.func k) first cap] w (Whole E w n) := by
  have hmf : ∀ (fn : Fn) (first cap : Array Value) (w : World), (Instr.makeFunc fn first cap).run Tryz.prog w = .ok (.func fn first cap) w := fun _ _ _ _ => rfl
  have hltR := h.lt
  have hM0 := (((Moved.refl h).alloc (.cells ndZ 24)).alloc (.cells #[.int .i64 0] 3)).alloc (.cells #[.int .i64 0] 44)
  have hG0 : Blk (((w.alloc (.cells ndZ 24)).alloc (.cells #[.int .i64 0] 3)).alloc (.cells #[.int .i64 0] 44)) w.heap.size 24 ndZ := ((Blk.new w _ _).alloc _).alloc _
  have hG1 : Blk (((w.alloc (.cells ndZ 24)).alloc (.cells #[.int .i64 0] 3)).alloc (.cells #[.int .i64 0] 44)) (w.heap.size + 1) 3 #[.int .i64 0] := (Blk.new_at (by simp) _ _).alloc _
  have hG2 : Blk (((w.alloc (.cells ndZ 24)).alloc (.cells #[.int .i64 0] 3)).alloc (.cells #[.int .i64 0] 44)) (w.heap.size + 2) 44 #[.int .i64 0] := Blk.new_at (by simp) _ _
  have HC := Lib.hid (hp _ s hM0.gr hM0.rd (by rw [hP]; exact nofun))
  rw [hP] at HC
  have HRF := Lib.hid hr
  have HTAB := Lib.hid hT
  have HW := Lib.hid hw
  have HL := Lib.hid hc
  have HRN := Lib.hid hR
  have HAT := Lib.hid hat
  clear hp hP hr hT hw hc hR hat
  go_enter_defers Tryz.func47, Tryz.ntmps47
  go_wp2_with fail
  refine HC.out.mono ?_
  rintro e w1 ⟨⟨v, rfl, hv⟩, hm1⟩
  obtain ⟨A, cp, rfl, hC⟩ := hv.toC
  have hG01 := hG0.grown hm1.gr (fun e => by injection e with e; omega)
  have hG11 := hG1.grown hm1.gr (fun e => by injection e with e; omega)
  have hG21 := hG2.grown hm1.gr (fun e => by injection e with e; omega)
  have hM1 := hM0.trans hm1
  have hS0 : (((w.alloc (.cells ndZ 24)).alloc (.cells #[.int .i64 0] 3)).alloc (.cells #[.int .i64 0] 44)).heap.size = w.heap.size + 3 := by simp
  have hs1 := hm1.gr.size
  rw [hS0] at hs1 hv
  obtain ⟨d0, d1, d2, d3, e0, e1, e2, e3⟩ := blk4 hG01
  have hG02 := put4_blk hG01 (.int .i64 n.kind) (.string n.text) (.slice A n.kids.length cp) (.int .i64 n.pos)
  have hM2 := put4_moved hM1 (Nat.le_refl _) hltR (.int .i64 n.kind) (.string n.text) (.slice A n.kids.length cp) (.int .i64 n.pos)
  have hv2 := hv.kept (put4_keeps (X := fun b => w.heap.size + 3 ≤ b) (wk := w1) (g := w.heap.size) (fun b hb => by have hb : w.heap.size + 3 ≤ b := hb; omega) (.int .i64 n.kind) (.string n.text) (.slice A n.kids.length cp) (.int .i64 n.pos))
  have hG12 := (((hG11.far (p := ⟨w.heap.size, 0, none⟩) (by show w.heap.size + 1 ≠ w.heap.size; omega) (.int .i64 n.kind)).far (p := ⟨w.heap.size, 1, none⟩) (by show w.heap.size + 1 ≠ w.heap.size; omega) (.string n.text)).far (p := ⟨w.heap.size, 2, none⟩) (by show w.heap.size + 1 ≠ w.heap.size; omega) (.slice A n.kids.length cp)).far (p := ⟨w.heap.size, 3, none⟩) (by show w.heap.size + 1 ≠ w.heap.size; omega) (.int .i64 n.pos)
  have hG22 := (((hG21.far (p := ⟨w.heap.size, 0, none⟩) (by show w.heap.size + 2 ≠ w.heap.size; omega) (.int .i64 n.kind)).far (p := ⟨w.heap.size, 1, none⟩) (by show w.heap.size + 2 ≠ w.heap.size; omega) (.string n.text)).far (p := ⟨w.heap.size, 2, none⟩) (by show w.heap.size + 2 ≠ w.heap.size; omega) (.slice A n.kids.length cp)).far (p := ⟨w.heap.size, 3, none⟩) (by show w.heap.size + 2 ≠ w.heap.size; omega) (.int .i64 n.pos)
  have hG12 : Blk (put4 w1 w.heap.size (.int .i64 n.kind) (.string n.text) (.slice A n.kids.length cp) (.int .i64 n.pos)) (w.heap.size + 1) 3 #[.int .i64 0] := hG12
  have hG22 : Blk (put4 w1 w.heap.size (.int .i64 n.kind) (.string n.text) (.slice A n.kids.length cp) (.int .i64 n.pos)) (w.heap.size + 2) 44 #[.int .i64 0] := hG22
  obtain ⟨c0, c1, -, -, -, -⟩ := hM2.rd.cells
  rw [HAT.out] at c1
  unfold put4 at c0 c1 hG02 hG12 hG22 hM2 hv2
  clear hM1
  clear hG01 hG11 hG21 hm1
  clear hG0 hG1 hG2
  clear hM0
  clear HC hC
  clear hv
  go_upto_region 3 with fail
  generalize (((w1.setCell ⟨w.heap.size, 0, none⟩ (.int .i64 n.kind)).setCell ⟨w.heap.size, 1, none⟩ (.string n.text)).setCell ⟨w.heap.size, 2, none⟩ (.slice A n.kids.length cp)).setCell ⟨w.heap.size, 3, none⟩ (.int .i64 n.pos) = w2 at *
  clear d0 d1 d2 d3 e0 e1 e2 e3
  go_wp2_with fail
  go_quiet (fail)
  have hv3 := hv2.below ((below_drewN (Below.refl _ w2) nq))
  have hM3 := hM2.drewN nq
  have HTB := Lib.hid (HTAB.out.grown hM3.gr HRN.out)
  obtain ⟨x0, x1, x2, x3, -, -, -, -⟩ := blk4 (hG02.drewN nq)
  have hG13 := hG12.drewN nq
  have hG23 := hG22.drewN nq
  have hG03 := hG02.drewN nq
  have HV3 := Lib.hid hv3
  clear hv2 hM2 hG02 hG12 hG22 c0 c1 hv3
  generalize w2.drewN nq = w3 at *
  go_wp2_with fail
  refine (right_any _ n _ HTB.out HV3.out.wide HW.out HL.out).mono ?_
  rw [HRF.out]
  rintro e w4 ⟨rfl, hb4⟩
  have HV4 := Lib.hid (HV3.out.below hb4)
  have hM4 := hM3.step hb4
  have hG04 := hG03.below hb4 hG03.lt
  have hG14 := hG13.below hb4 hG13.lt
  have hG24 := hG23.below hb4 hG23.lt
  have hs4 := hM4.gr.size
  clear hb4 hM3 hG03 hG13 hG23 HV3 HTB x0 x1 x2 x3
  obtain ⟨x0, x1, x2, x3, y0, y1, y2, y3⟩ := blk4 hG04
  have z0 := blk1 hG14
  have z1 := hG14.frozen 0
  have u0 := blk1 hG24
  have u1 := hG24.frozen 0
  go_wp2_with fail
  have hG05 := put4_blk hG04 (.int .i64 n.kind) (.string n.text) (.slice A n.kids.length cp) (.int .i64 n.pos)
  have hM5 := put4_moved hM4 (Nat.le_refl _) hltR (.int .i64 n.kind) (.string n.text) (.slice A n.kids.length cp) (.int .i64 n.pos)
  have HV5 := Lib.hid (HV4.out.kept (put4_keeps (X := fun b => w.heap.size + 3 ≤ b) (wk := w4) (g := w.heap.size) (fun b hb => by have hb : w.heap.size + 3 ≤ b := hb; omega) (.int .i64 n.kind) (.string n.text) (.slice A n.kids.length cp) (.int .i64 n.pos)))
  have hG15 : Blk (put4 w4 w.heap.size (.int .i64 n.kind) (.string n.text) (.slice A n.kids.length cp) (.int .i64 n.pos)) (w.heap.size + 1) 3 #[.int .i64 0] :=
    (((hG14.far (p := ⟨w.heap.size, 0, none⟩) (by show w.heap.size + 1 ≠ w.heap.size; omega) (.int .i64 n.kind)).far (p := ⟨w.heap.size, 1, none⟩) (by show w.heap.size + 1 ≠ w.heap.size; omega) (.string n.text)).far (p := ⟨w.heap.size, 2, none⟩) (by show w.heap.size + 1 ≠ w.heap.size; omega) (.slice A n.kids.length cp)).far (p := ⟨w.heap.size, 3, none⟩) (by show w.heap.size + 1 ≠ w.heap.size; omega) (.int .i64 n.pos)
  have hG25 : Blk (put4 w4 w.heap.size (.int .i64 n.kind) (.string n.text) (.slice A n.kids.length cp) (.int .i64 n.pos)) (w.heap.size + 2) 44 #[.int .i64 0] :=
    (((hG24.far (p := ⟨w.heap.size, 0, none⟩) (by show w.heap.size + 2 ≠ w.heap.size; omega) (.int .i64 n.kind)).far (p := ⟨w.heap.size, 1, none⟩) (by show w.heap.size + 2 ≠ w.heap.size; omega) (.string n.text)).far (p := ⟨w.heap.size, 2, none⟩) (by show w.heap.size + 2 ≠ w.heap.size; omega) (.slice A n.kids.length cp)).far (p := ⟨w.heap.size, 3, none⟩) (by show w.heap.size + 2 ≠ w.heap.size; omega) (.int .i64 n.pos)
  unfold put4 at hG05 hM5 HV5 hG15 hG25
  generalize (((w4.setCell ⟨w.heap.size, 0, none⟩ (.int .i64 n.kind)).setCell ⟨w.heap.size, 1, none⟩ (.string n.text)).setCell ⟨w.heap.size, 2, none⟩ (.slice A n.kids.length cp)).setCell ⟨w.heap.size, 3, none⟩ (.int .i64 n.pos) = w5 at *
  have hG16 : Blk (w5.setCell ⟨w.heap.size + 1, 0, none⟩ (.int .i64 0)) (w.heap.size + 1) 3 #[.int .i64 0] := by simpa using hG15.set_ 0 (.int .i64 0)
  have hG06 := hG05.far (p := ⟨w.heap.size + 1, 0, none⟩) (by show w.heap.size ≠ w.heap.size + 1; omega) (.int .i64 0)
  have hG26 := hG25.far (p := ⟨w.heap.size + 1, 0, none⟩) (by show w.heap.size + 2 ≠ w.heap.size + 1; omega) (.int .i64 0)
  have hM6 := hM5.own (p := ⟨w.heap.size + 1, 0, none⟩) (by show w.heap.size ≤ w.heap.size + 1; omega) (by show E.R < w.heap.size + 1; omega) (.int .i64 0)
  have HV6 := Lib.hid (HV5.out.kept ((KeepsX.refl (fun b => w.heap.size + 3 ≤ b) w5).setCell (p := ⟨w.heap.size + 1, 0, none⟩) (fun hb => by have hb : w.heap.size + 3 ≤ w.heap.size + 1 := hb; omega) (.int .i64 0)))
  generalize w5.setCell ⟨w.heap.size + 1, 0, none⟩ (.int .i64 0) = w6 at *
  have hG27 : Blk (w6.setCell ⟨w.heap.size + 1 + 1, 0, none⟩ (.int .i64 0)) (w.heap.size + 2) 44 #[.int .i64 0] := by simpa using hG26.set_ 0 (.int .i64 0)
  have hG07 := hG06.far (p := ⟨w.heap.size + 1 + 1, 0, none⟩) (by show w.heap.size ≠ w.heap.size + 1 + 1; omega) (.int .i64 0)
  have hG17 := hG16.far (p := ⟨w.heap.size + 1 + 1, 0, none⟩) (by show w.heap.size + 1 ≠ w.heap.size + 1 + 1; omega) (.int .i64 0)
  have hM7 := hM6.own (p := ⟨w.heap.size + 1 + 1, 0, none⟩) (by show w.heap.size ≤ w.heap.size + 1 + 1; omega) (by show E.R < w.heap.size + 1 + 1; omega) (.int .i64 0)
  have HV7 := Lib.hid (HV6.out.kept ((KeepsX.refl (fun b => w.heap.size + 3 ≤ b) w6).setCell (p := ⟨w.heap.size + 1 + 1, 0, none⟩) (fun hb => by have hb : w.heap.size + 3 ≤ w.heap.size + 1 + 1 := hb; omega) (.int .i64 0)))
  generalize w6.setCell ⟨w.heap.size + 1 + 1, 0, none⟩ (.int .i64 0) = w7 at *
  refine leaves_cons (f := 60) (args := #[.pointer (some ⟨w.heap.size, 0, none⟩), .pointer (some ⟨w.heap.size + 1, 0, none⟩), .pointer (some ⟨w.heap.size + 1 + 1, 0, none⟩)]) (by simp) (by simp [go_sem]) ?_
  refine (all_idle _ _ _ _).mono ?_
  rintro e u' w8 ⟨rfl, rfl, rfl⟩
  clear x0 x1 x2 x3 y0 y1 y2 y3 z0 z1 u0 u1
  obtain ⟨x0, x1, x2, x3, -, -, -, -⟩ := blk4 hG07
  have z0 := blk1 hG17
  have u0 : w8.cell? ⟨w.heap.size + 1 + 1, 0, none⟩ = some (.int .i64 0) := blk1 hG27
  simp [Leaves, settle, results, Tryz.results47, go_sem, x0, x1, x2, x3, z0, u0]
  exact ⟨⟨_, rfl, HV7.out.mono fun b hb _ => by have hb : w.heap.size + 3 ≤ b := hb; omega⟩, hM7.gr⟩
end Go.Proofs.YtnalfjaojcahhaaGreatDoor
namespace Go.Proofs.YtnalfjaojcahhaaGreatDoor
open Go.RowKit Go.Lib Go.Proofs
attribute [local go_sem ↓] Go.wp_at_zero Go.wp_at_succ
attribute [local go_sem] fld_nd0 fld_nd1 fld_nd2 fld_nd3

theorem results_node3 {fn : Func} {q r1 r2 : Tmp} (hfn : fn.results = #[.cell q 24, .tmp r1, .tmp r2]) (tmps : Array Value) {w : World} {g : Nat} {a b c d v1 v2 : Value} (ht : tmps.getD q undef = .pointer (some ⟨g, 0, none⟩)) (h1 : tmps.getD r1 undef = v1) (h2 : tmps.getD r2 undef = v2) (hb : Blk w g 24 #[a, b, c, d]) :
    (results fn tmps).run Tryz.prog w = .ok (.tuple #[.agg #[a, b, c, d], v1, v2]) w := by
  obtain ⟨d0, d1, d2, d3, -, -, -, -⟩ := blk4 hb
  unfold results
  rw [hfn]
  have ht' : tmps[q]?.getD undef = .pointer (some ⟨g, 0, none⟩) := by simpa using ht
  have h1' : tmps[r1]?.getD undef = v1 := by simpa using h1
  have h2' : tmps[r2]?.getD undef = v2 := by simpa using h2
  simp [ht', h1', h2', go_sem, d0, d1, d2, d3]
theorem enter_file (a : Array Value) (w : World) : (callFunc 48 a).run Tryz.prog w = .ok (.enter 48 a) w := by kernel_rfl

set_option maxRecDepth 100000 in
set_option maxHeartbeats 4000000 in
theorem readFile_ok (g o c : Nat) (s : ByteArray) (w : World) (G : Nat) (L : List Tok) (hG : Goes s G L) (hb : Lib.Bytes w g o s) (hg : g < w.heap.size) (hc : s.size ≤ c) (hT : Tab w)
    (F : Fns) (hF : ∀ E, OkF E F) (n : Nd) (s1 : St) (hP : fileR F ⟨L, (s.size : Int)⟩ ⟨0, false, -1⟩ = .ok n s1) (hat : s1.at_ = L.length) (hr : rightFile n = true) (hw : Wee 101 n) (hcz : (lefts 100 n).length ≤ 1000000000) :
    Calls Tryz.prog 22 #[.slice (some ⟨g, o, none⟩) s.size c] w fun e w' => ∃ v, e = .returned (.tuple #[v, .int .i64 0, .int .i64 0]) ∧ NodeV (fun b => w.heap.size < b) w' v n ∧ Below w.heap.size w w' := by
  have hmf : ∀ (fn : Fn) (first cap : Array Value) (w : World), (Instr.makeFunc fn first cap).run Tryz.prog w = .ok (.func fn first cap) w := fun _ _ _ _ => rfl
  have hB0 : Below w.heap.size w (w.alloc (.cells ndZ 24)) := (Below.refl _ _).alloc (Nat.le_refl _) _
  have hG0 : Blk (w.alloc (.cells ndZ 24)) w.heap.size 24 ndZ := Blk.new w _ _
  have HBG := Lib.hid (begin_ok g o c s (w.alloc (.cells ndZ 24)) G L hG (bytes_below hb hg hB0) (by simp; omega) hc (hT.below hB0))
  have hml : 0 < w.heap.size := by
    obtain ⟨m, h⟩ := hT
    exact World.block_lt_of_cell? w _ h
  have HALL := Lib.hid (fun (E : Env) (w1 : World) (hEc : E.c = ⟨L, (s.size : Int)⟩) (hrd : RdAt E w1 ⟨0, false, -1⟩) (hb1 : Below w.heap.size w w1) (hR : w.heap.size ≤ E.R) =>
    all_ok E 48 #[.pointer (some ⟨E.R, 0, none⟩)] #[] (fileR F) ⟨0, false, -1⟩ s1 n w1 hrd enter_file (by simpa using (file_any E F (hF E)).part w1) (by rw [hEc]; exact hP) (by rw [hEc]; exact hat) hr (hT.below hb1) (by omega) hw hcz)
  clear hP hat hr hw hcz hT hG hF hb
  go_enter Tryz.func22, Tryz.ntmps22
  go_wp2_with fail
  refine HBG.out.mono ?_
  rintro e w1 ⟨E, rfl, hEc, hrd, hER, hb1⟩
  have hs0 : (w.alloc (.cells ndZ 24)).heap.size = w.heap.size + 1 := by simp
  rw [hs0] at hER
  have hB1 := hB0.trans (hb1.mono hB0.size)
  have hG1 := hG0.below hb1 hG0.lt
  have hs1 := hb1.size
  rw [hs0] at hs1
  have HAL := Lib.hid (HALL.out E w1 hEc hrd hB1 (by omega))
  clear HBG HALL hG0 hB0 hs0 hb1 hEc
  go_wp2_with fail
  refine HAL.out.mono ?_
  rintro e w2 ⟨⟨v, rfl, hv⟩, hgr⟩
  have hB2 := hB1.trans (grownBy_below hgr (B := w.heap.size) (by omega) (by omega))
  have hG2 := hG1.grown hgr (fun e => by injection e with e; omega)
  obtain ⟨A, cp, rfl, hC⟩ := hv.toC
  obtain ⟨d0, d1, d2, d3, e0, e1, e2, e3⟩ := blk4 hG2
  clear hG1 hB1 HAL hC
  go_wp2_with fail
  have hG3 := put4_blk hG2 (.int .i64 n.kind) (.string n.text) (.slice A n.kids.length cp) (.int .i64 n.pos)
  have hv3 := hv.kept (put4_keeps (X := fun b => w1.heap.size ≤ b) (wk := w2) (g := w.heap.size) (fun b hb => by have hb : w1.heap.size ≤ b := hb; omega) (.int .i64 n.kind) (.string n.text) (.slice A n.kids.length cp) (.int .i64 n.pos))
  have hB3 : Below w.heap.size w (put4 w2 w.heap.size (.int .i64 n.kind) (.string n.text) (.slice A n.kids.length cp) (.int .i64 n.pos)) := by
    unfold put4
    exact (((hB2.setCell (Nat.le_refl _) _).setCell (Nat.le_refl _) _).setCell (Nat.le_refl _) _).setCell (Nat.le_refl _) _
  unfold put4 at hG3 hv3 hB3
  refine bodyPost_ret (results_node3 rfl _ (by rfl) (by rfl) (by rfl) hG3) rfl ?_
  exact ⟨_, rfl, hv3.mono fun b hb _ => by have hb : w1.heap.size ≤ b := hb; omega, hB3⟩
end Go.Proofs.YtnalfjaojcahhaaGreatDoor
