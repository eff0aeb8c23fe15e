/-
  tree.walk: it goes through a node and all in it, to a depth, and calls what the loop's round is. By an AI agent.
  tree.Size, tree.Depth: how many nodes there are; how many are within one another. By an AI agent.
-/
import Derived.Test.YtnalfjaojcahhaaGreatDoorJ25
import Derived.RangeFuncNested
import Derived.RangeFuncBound
import Derived.RangeFuncCalls
import Derived.RangeFuncLeaves
import Derived.RangeFuncFrom
import Derived.RangeFuncKeeps
import Derived.Shelf.Abstract
import Derived.Shelf.RegionOpen
import Derived.WalkKit
import Derived.OwnWalkIn
import Derived.TacticsInMore
import Derived.LoopNIn
import Derived.LoopIn
namespace Go.Proofs.YtnalfjaojcahhaaGreatDoor
open Go.RowKit Go.Lib Go.Proofs Go.Shelf
attribute [local go_sem ↓] Go.wp_at_zero Go.wp_at_succ
attribute [local go_sem] Oper.semAt_some

/-- What a round keeps: all below a block, and every row of cells but one. -/
structure KpC (n₀ OB : Nat) (W W' : World) : Prop where
  bel : Below n₀ W W'
  row : ∀ k, k ≠ OB → (∃ c t f, W.heap[k]? = some (.cells c t f)) → W'.heap[k]? = W.heap[k]?
theorem KpC.trans {n₀ OB : Nat} {A B C : World} (h : KpC n₀ OB A B) (k : KpC n₀ OB B C) : KpC n₀ OB A C :=
  ⟨h.bel.trans k.bel, fun j hj hc => by
    have e := h.row j hj hc
    obtain ⟨c, t, f, hc⟩ := hc
    exact (k.row j hj ⟨c, t, f, e.trans hc⟩).trans e⟩
theorem KpC.refl (n₀ OB : Nat) (W : World) : KpC n₀ OB W W := ⟨Below.refl _ _, fun _ _ _ => rfl⟩
theorem KpC.alloc {n₀ OB : Nat} {A W : World} (h : KpC n₀ OB A W) (hn : n₀ ≤ W.heap.size) (o : Obj) : KpC n₀ OB A (W.alloc o) :=
  h.trans ⟨(Below.refl _ _).alloc hn o, fun k _ hc => by
    obtain ⟨c, t, f, hc⟩ := hc
    exact Below.heap_alloc W o k (Array.getElem?_eq_some_iff.1 hc).1⟩
theorem KpC.blk {n₀ OB : Nat} {W W' : World} (h : KpC n₀ OB W W') {b : Nat} {t : TypeId} {cs : Array Value} (hb : Blk W b t cs) (hne : b ≠ OB) : Blk W' b t cs :=
  (h.row b hne ⟨cs, t, (0, 0), hb⟩).trans hb
theorem kpC_b {n₀ OB : Nat} {w : World} (hn : n₀ ≤ w.heap.size) (W : World) (l : Nat) (o o' : Obj) (hl : w.heap.size ≤ l) (h : W.heap[l]? = some o) (hc : o.isCells = false) (hw : o.isWalk = false) : KpC n₀ OB W (W.putObj l o') :=
  ⟨belowK_b hn W l o o' hl h hc hw, fun k _ hk => by
    obtain ⟨c, t, f, hk⟩ := hk
    refine World.putObj_heap_other (fun e => ?_)
    subst e
    rw [h] at hk
    injection hk with hk
    subst hk
    cases hc⟩

/-- What a round is handed: a node as a value, and how much depth is left. -/
abbrev YV := Value × { k : Nat // k ≤ 1000 }
def yArgs (x : YV) : Array Value := #[x.1, .int .i64 (x.2.1 : Int)]

set_option maxRecDepth 100000 in
set_option maxHeartbeats 4000000 in
theorem goes_in (l n₀ OB N : Nat) (J Jx : List YV → World → Prop) (hJ : ∀ s W o, J s W → J s (W.alloc o))
    (hY : ∀ m pre x W, J pre W → pre.length < N → YieldAt Fence.wide m Tryz.prog l (yArgs x) W fun e W' => (e = .returned (.bool true) ∧ J (pre ++ [x]) W' ∧ KpC n₀ OB W W') ∨ (e = .returned (.bool false) ∧ Jx (pre ++ [x]) W')) :
    ∀ (g k : Nat) (v : Value) (n : Nd) (pre : List YV) (W : World), g ≤ 1000 → NodeV (· < n₀) W v n → Wee g n → J pre W → n₀ ≤ W.heap.size → OB < W.heap.size → pre.length + (lefts g n).length ≤ N →
      CallsIn Fence.wide k Tryz.prog 126 #[v, .int .i64 (g : Int), .func (.yield l) #[] #[]] W fun e W' =>
        (e = .returned (.bool true) ∧ (∃ ys, ys.map (·.2.1) = lefts g n ∧ J (pre ++ ys) W') ∧ KpC n₀ OB W W') ∨ (e = .returned (.bool false) ∧ ∃ q, Jx q W') := by
  intro g
  induction g with
  | zero =>
    intro k v n pre W _ hv _ hj hn _ _
    obtain ⟨A, cp, rfl, hC⟩ := hv.toC
    have HJ1 := Lib.hid (hJ _ _ (.cells #[.int .i64 n.kind, .string n.text, .slice A n.kids.length cp, .int .i64 n.pos] 24) hj)
    refine callsIn_of_wp Tryz.func126 rfl trivial ?_ rfl
    simp only [Tryz.ntmps126, List.size_toArray, List.length_cons, List.length_nil, Nat.reduceAdd, Nat.reduceSub, Array.replicate_succ, Array.replicate_zero, List.push_toArray, List.append_toArray, List.nil_append, List.cons_append]
    gi_wp2
    go_ret
    exact .inl ⟨rfl, ⟨[], rfl, by simpa using HJ1.out⟩, (KpC.refl _ _ _).alloc hn _⟩
  | succ g ih =>
    intro k v n pre W hg hv hw hj hn hob hN
    have hV0 := hv
    obtain ⟨A, cp, rfl, hC⟩ := hv.toC
    have hdd : ∀ k : Nat, ((Fence.wide).depth.isSome = true → 1 ≤ k) := fun k h => by cases h
    have HJ1 := Lib.hid (hJ _ _ (.cells #[.int .i64 n.kind, .string n.text, .slice A n.kids.length cp, .int .i64 n.pos] 24) hj)
    have b1 : Blk (W.alloc (.cells #[.int .i64 n.kind, .string n.text, .slice A n.kids.length cp, .int .i64 n.pos] 24)) W.heap.size 24 #[.int .i64 n.kind, .string n.text, .slice A n.kids.length cp, .int .i64 n.pos] := Blk.new W _ _
    have hz : ((g : Int) + 1 == 0) = false := by simp; omega
    rw [lefts, List.length_cons] at hN
    obtain ⟨fn, tmps, assign, body, hy, hR⟩ := hY (k - 1) pre (.agg #[.int .i64 n.kind, .string n.text, .slice A n.kids.length cp, .int .i64 n.pos], ⟨g + 1, hg⟩) _ HJ1.out (by omega)
    refine callsIn_of_wp Tryz.func126 rfl trivial ?_ rfl
    simp only [Tryz.ntmps126, List.size_toArray, List.length_cons, List.length_nil, Nat.reduceAdd, Nat.reduceSub, Array.replicate_succ, Array.replicate_zero, List.push_toArray, List.append_toArray, List.nil_append, List.cons_append]
    have hy2 : (Instr.yield l #[.agg #[.int .i64 n.kind, .string n.text, .slice A n.kids.length cp, .int .i64 n.pos], .int .i64 ((g : Int) + 1)]).run Tryz.prog (W.alloc (.cells #[.int .i64 n.kind, .string n.text, .slice A n.kids.length cp, .int .i64 n.pos] 24)) = .ok (.round l fn tmps assign body) (W.alloc (.cells #[.int .i64 n.kind, .string n.text, .slice A n.kids.length cp, .int .i64 n.pos] 24)) := hy
    have HN := Lib.hid hN
    have HW := Lib.hid hw
    have HV := Lib.hid hV0
    have HH := Lib.hid hY
    have HI := Lib.hid ih
    have HJJ := Lib.hid hJ
    have HK1 := Lib.hid ((KpC.refl n₀ OB W).alloc hn (.cells #[.int .i64 n.kind, .string n.text, .slice A n.kids.length cp, .int .i64 n.pos] 24))
    clear hy hV0 hv hC hN hw hj hY ih hJ
    gi_wp2
    refine ⟨hdd _, hR.mono ?_⟩
    rintro e W1 (⟨rfl, hj1, hk1⟩ | ⟨rfl, hx1⟩)
    case inr =>
      have HX1 := Lib.hid hx1
      clear hx1
      gi_wp2
      go_ret
      exact .inr ⟨rfl, _, HX1.out⟩
    have c1 := hk1.blk b1 (by omega)
    obtain ⟨x0, x1, x2, x3, _, _, _, _⟩ := blk4 c1
    have HJ2 := Lib.hid hj1
    have HK2 := Lib.hid (HK1.out.trans hk1)
    have hs1 := hk1.bel.size
    simp at hs1
    clear hR hj1 hk1 HJ1 hy2 b1 HK1
    gi_wp2
    generalize hpre : pre ++ [((.agg #[.int .i64 n.kind, .string n.text, .slice A n.kids.length cp, .int .i64 n.pos] : Value), (⟨g + 1, hg⟩ : { k : Nat // k ≤ 1000 }))] = pre1 at *
    have hlen : pre1.length = pre.length + 1 := by rw [← hpre]; simp
    have HPRE := Lib.hid hpre
    clear hpre
    have hnk := HW.out.1.1
    gi_loopw [8, 19] (fun _ u19 wr => ∃ (i : Nat) (ys : List YV), i ≤ n.kids.length ∧ u19 = .int .i64 (i : Int) ∧ ys.map (·.2.1) = (n.kids.take i).flatMap (lefts g) ∧ J (pre1 ++ ys) wr ∧ KpC n₀ OB W wr) (fun _ u19 _ => n.kids.length - (RowKit.intOf u19).toNat)
    case atStart => exact ⟨0, [], Nat.zero_le _, rfl, rfl, by simpa using HJ2.out, HK2.out⟩
    case round =>
      clear x0 x1 x2 x3 c1
      obtain ⟨i, ys, hi, rfl, hys, hj, hk⟩ := hrel
      have HYS := Lib.hid hys
      have HJ3 := Lib.hid hj
      clear hys hj
      by_cases hlt : i < n.kids.length
      · have hlt2 : (i : Int) < (n.kids.length : Int) := by omega
        have h0 : (0 : Int) ≤ (i : Int) := by omega
        obtain ⟨b, off, A1, cp1, rfl, hbn, hbl, k0, k1, k2, k3, hkn⟩ := (HV.out.keep (fun b hb _ => hk.bel.block b hb)).kidsV.kid i hlt
        have HM := Lib.hid (List.getElem_mem hlt)
        have HTK := Lib.hid (show (n.kids.take (i + 1)).flatMap (lefts g) = (n.kids.take i).flatMap (lefts g) ++ lefts g n.kids[i] by rw [List.take_succ_eq_append_getElem hlt, List.flatMap_append]; simp)
        have hle : ((n.kids.take (i + 1)).flatMap (lefts g)).length ≤ (n.kids.flatMap (lefts g)).length := by
          conv => rhs; rw [← List.take_append_drop (i + 1) n.kids, List.flatMap_append]
          rw [List.length_append]; omega
        generalize n.kids[i] = x at *
        have hyl : ys.length = ((n.kids.take i).flatMap (lefts g)).length := by rw [← HYS.out, List.length_map]
        have hsz := hk.bel.size
        have HC := Lib.hid (HI.out (k - 1) _ x (pre1 ++ ys) _ (by omega) (hkn.keep (w' := wr.alloc (.cells #[.int .i64 x.kind, .string x.text, .slice A1 x.kids.length cp1, .int .i64 x.pos] 24)) (fun b _ hlt => Below.heap_alloc wr _ b hlt)) (HW.out.2 x HM.out) (HJJ.out _ _ (.cells #[.int .i64 x.kind, .string x.text, .slice A1 x.kids.length cp1, .int .i64 x.pos] 24) HJ3.out) (by simp; omega) (by simp; omega) (by
          have := HN.out
          rw [HTK.out, List.length_append] at hle
          rw [List.length_append, hlen, hyl]
          omega))
        clear hkn hle hyl
        gi_wp2
        refine ⟨trivial, hdd _, HC.out.mono ?_⟩
        rintro e W2 (⟨rfl, ⟨zs, hzs, hj4⟩, hk4⟩ | ⟨rfl, q, hx4⟩)
        case inr =>
          have HX4 := Lib.hid hx4
          clear hx4
          gi_wp2
          go_ret
          exact .inr ⟨rfl, _, HX4.out⟩
        have HZ := Lib.hid (show (ys ++ zs).map (·.2.1) = (n.kids.take (i + 1)).flatMap (lefts g) by rw [List.map_append, HYS.out, hzs, HTK.out])
        have HJ5 := Lib.hid (show J (pre1 ++ (ys ++ zs)) W2 by rw [← List.append_assoc]; exact hj4)
        have HK5 := Lib.hid ((hk.alloc (by omega) _).trans hk4)
        clear HC hzs hj4 hk4 HTK k0 k1 k2 k3
        gi_wp2
        go_roundw
        case rel => exact ⟨i + 1, ys ++ zs, by omega, by go_num, HZ.out, HJ5.out, HK5.out⟩
        case measure => simp [RowKit.intOf]; omega
      · have hlt2 : ¬ (i : Int) < (n.kids.length : Int) := by omega
        have ht : n.kids.take i = n.kids := List.take_of_length_le (by omega)
        have HYE := Lib.hid (show (((.agg #[.int .i64 n.kind, .string n.text, .slice A n.kids.length cp, .int .i64 n.pos] : Value), (⟨g + 1, hg⟩ : { k : Nat // k ≤ 1000 })) :: ys).map (·.2.1) = lefts (g + 1) n by rw [lefts, List.map_cons, HYS.out, ht])
        have HJE := Lib.hid (show J (pre ++ ((.agg #[.int .i64 n.kind, .string n.text, .slice A n.kids.length cp, .int .i64 n.pos] : Value), (⟨g + 1, hg⟩ : { k : Nat // k ≤ 1000 })) :: ys) wr by
          have := HJ3.out
          rw [← HPRE.out, List.append_assoc] at this
          simpa using this)
        clear ht
        gi_wp2
        go_ret
        exact .inl ⟨rfl, ⟨_, HYE.out, HJE.out⟩, hk⟩

set_option maxHeartbeats 1000000 in
theorem nodes1_in (l n₀ OB k g : Nat) (v : Value) (n : Nd) (J Jx : List YV → World → Prop) (hJ : ∀ s W o, J s W → J s (W.alloc o))
    (hY : ∀ pre x W, J pre W → pre.length < (lefts g n).length → YieldAt Fence.wide (k - 1) Tryz.prog l (yArgs x) W fun e W' => (e = .returned (.bool true) ∧ J (pre ++ [x]) W' ∧ KpC n₀ OB W W') ∨ (e = .returned (.bool false) ∧ Jx (pre ++ [x]) W'))
    (W : World) (bn bd : Nat) (A : Option Addr) (cp : Nat) (he : v = .agg #[.int .i64 n.kind, .string n.text, .slice A n.kids.length cp, .int .i64 n.pos]) (hg : g ≤ 1000) (hbn : Blk W bn 24 #[.int .i64 n.kind, .string n.text, .slice A n.kids.length cp, .int .i64 n.pos]) (hbd : Blk W bd 3 #[.int .i64 (g : Int)])
    (hv : NodeV (· < n₀) W v n) (hw : Wee g n) (hn : n₀ ≤ W.heap.size) (hob : OB < W.heap.size) (h0 : J [] W) :
    CallsIn Fence.wide k Tryz.prog 125 #[.func (.yield l) #[] #[], .pointer (some ⟨bn, 0, none⟩), .pointer (some ⟨bd, 0, none⟩)] W fun e W' => (∃ v, e = .returned v) ∧ ((∃ ys, ys.map (·.2.1) = lefts g n ∧ J ys W') ∨ (∃ q : List YV, True ∧ Jx q W')) := by
  have hdd : ∀ k : Nat, ((Fence.wide).depth.isSome = true → 1 ≤ k) := fun k h => by cases h
  have hp := Lib.hid (goes_in l n₀ OB (lefts g n).length J Jx hJ (fun m pre x W hj hl => by
    obtain ⟨fn, tmps, assign, body, hy, hR⟩ := hY pre x W hj hl
    exact ⟨fn, tmps, assign, body, hy, ⟨hR.1, fun c cs _ => hR.2 c cs (fun d h => by cases h)⟩⟩) g (k - 1) v n [] W hg hv hw h0 hn hob (by simp))
  obtain ⟨x0, x1, x2, x3, _, _, _, _⟩ := blk4 hbn
  have hd := blk1 hbd
  subst he
  clear hv hY hJ hbn hbd hw
  refine callsIn_of_wp Tryz.func125 rfl trivial ?_ rfl
  simp only [Tryz.ntmps125, List.size_toArray, List.length_cons, List.length_nil, Nat.reduceAdd, Nat.reduceSub, Array.replicate_succ, Array.replicate_zero, List.push_toArray, List.append_toArray, List.nil_append, List.cons_append]
  gi_wp2
  refine ⟨trivial, hdd _, hp.out.mono ?_⟩
  rintro e W1 (⟨rfl, ⟨ys, hys, hj⟩, hk⟩ | ⟨rfl, q, hx⟩)
  · have HYS := Lib.hid hys
    have HJ1 := Lib.hid hj
    clear hys hj hp
    gi_wp2
    go_end0
    exact ⟨⟨_, rfl⟩, .inl ⟨ys, HYS.out, by simpa using HJ1.out⟩⟩
  · have HX := Lib.hid hx
    clear hx hp
    gi_wp2
    go_end0
    exact ⟨⟨_, rfl⟩, .inr ⟨q, trivial, HX.out⟩⟩

theorem nodes_in (k : Nat) (v : Value) (d : Int) (n : Nd) (w : World) (hv : NodeW w v n) :
    CallsIn Fence.wide k Tryz.prog 77 #[v, .int .i64 d] w fun e w' => e = .returned (.func (.func 125) #[] #[.pointer (some ⟨w.heap.size, 0, none⟩), .pointer (some ⟨w.heap.size + 1, 0, none⟩)]) ∧ w' = (w.alloc (.cells v.cells 24)).alloc (.cells #[.int .i64 d] 3) := by
  obtain ⟨A, cp, rfl, hC⟩ := hv.toC
  clear hv hC
  refine callsIn_of_wp Tryz.func77 rfl trivial ?_ rfl
  simp only [Tryz.ntmps77, List.size_toArray, List.length_cons, List.length_nil, Nat.reduceAdd, Nat.reduceSub, Array.replicate_succ, Array.replicate_zero, List.push_toArray, List.append_toArray, List.nil_append, List.cons_append]
  gi_wp2
  go_ret
  exact ⟨rfl, rfl⟩
end Go.Proofs.YtnalfjaojcahhaaGreatDoor
namespace Go.Proofs.YtnalfjaojcahhaaGreatDoor
open Go.RowKit Go.Lib Go.Proofs Go.Shelf
attribute [local go_sem ↓] Go.wp_at_zero Go.wp_at_succ
attribute [local go_sem] Oper.semAt_some

theorem ent_nodes1 (a : Array Value) (w : World) : (callFunc 125 a).run Tryz.prog w = .ok (.enter 125 a) w := by kernel_rfl

theorem zip2 (p q : Nat) (a b : Value) (t : Array Value) : ((#[p, q] : Array Nat).zip #[a, b]).foldl (fun t x => t.setIfInBounds x.fst x.snd) t = (t.setIfInBounds p a).setIfInBounds q b := by simp

set_option maxRecDepth 100000 in
set_option maxHeartbeats 4000000 in
theorem tsize_in (v : Value) (n : Nd) (w : World) (hv : NodeW w v n) (hw : Wee 100 n) (hc : (lefts 100 n).length ≤ 1000000000) :
    CallsIn Fence.wide 9 Tryz.prog 51 #[v] w fun e w' => e = .returned (.int .i64 ((lefts 100 n).length : Int)) ∧ Below w.heap.size w w' := by
  have hV0 := hv
  obtain ⟨A, cp, rfl, hC⟩ := hv.toC
  have hV1 : NodeV (· < w.heap.size) w _ n := hV0.mono fun b _ h => h
  have HV := Lib.hid hV1
  have HW := Lib.hid hw
  have HC := Lib.hid hc
  clear hV0 hv hC hV1 hw hc
  refine callsIn_of_wp_marks Tryz.func51 rfl trivial ?_ rfl
  simp only [Tryz.ntmps51, List.size_toArray, List.length_cons, List.length_nil, Nat.reduceAdd, Nat.reduceSub, Array.replicate_succ, Array.replicate_zero, List.push_toArray, List.append_toArray, List.nil_append, List.cons_append]
  gi_wp2
  refine ⟨trivial, (nodes_in 8 _ 100 n _ ((HV.out.wide).below (by (repeat' (first | with_reducible assumption | with_reducible exact Below.refl _ _ | with_reducible refine Below.alloc ?_ ?_ _ | with_reducible refine Below.setCell ?_ ?_ _ | with_reducible refine Below.drew ?_ | with_reducible refine below_drewN ?_ _ | (simp <;> omega) | omega))))).mono ?_⟩
  simp only [Value.cells]
  rintro e w1 ⟨rfl, rfl⟩
  have o1 : Blk ((((w.alloc (.cells #[.int .i64 n.kind, .string n.text, .slice A n.kids.length cp, .int .i64 n.pos] 24)).alloc (.cells #[.int .i64 0] 3)).alloc (.cells #[.int .i64 n.kind, .string n.text, .slice A n.kids.length cp, .int .i64 n.pos] 24)).alloc (.cells #[.int .i64 100] 3)) (w.heap.size + 1) 3 #[.int .i64 0] := ((Blk.new_at (by simp) _ _).alloc _).alloc _
  have o2 : Blk ((((w.alloc (.cells #[.int .i64 n.kind, .string n.text, .slice A n.kids.length cp, .int .i64 n.pos] 24)).alloc (.cells #[.int .i64 0] 3)).alloc (.cells #[.int .i64 n.kind, .string n.text, .slice A n.kids.length cp, .int .i64 n.pos] 24)).alloc (.cells #[.int .i64 100] 3)) (w.heap.size + 1 + 1) 24 #[.int .i64 n.kind, .string n.text, .slice A n.kids.length cp, .int .i64 n.pos] := (Blk.new_at (by simp) _ _).alloc _
  have o3 : Blk ((((w.alloc (.cells #[.int .i64 n.kind, .string n.text, .slice A n.kids.length cp, .int .i64 n.pos] 24)).alloc (.cells #[.int .i64 0] 3)).alloc (.cells #[.int .i64 n.kind, .string n.text, .slice A n.kids.length cp, .int .i64 n.pos] 24)).alloc (.cells #[.int .i64 100] 3)) (w.heap.size + 1 + 1 + 1) 3 #[.int .i64 100] := Blk.new_at (by simp) _ _
  have hB : Below w.heap.size w ((((w.alloc (.cells #[.int .i64 n.kind, .string n.text, .slice A n.kids.length cp, .int .i64 n.pos] 24)).alloc (.cells #[.int .i64 0] 3)).alloc (.cells #[.int .i64 n.kind, .string n.text, .slice A n.kids.length cp, .int .i64 n.pos] 24)).alloc (.cells #[.int .i64 100] 3)) := by (repeat' (first | with_reducible assumption | with_reducible exact Below.refl _ _ | with_reducible refine Below.alloc ?_ ?_ _ | with_reducible refine Below.setCell ?_ ?_ _ | with_reducible refine Below.drew ?_ | with_reducible refine below_drewN ?_ _ | (simp <;> omega) | omega))
  have hz : ((((w.alloc (.cells #[.int .i64 n.kind, .string n.text, .slice A n.kids.length cp, .int .i64 n.pos] 24)).alloc (.cells #[.int .i64 0] 3)).alloc (.cells #[.int .i64 n.kind, .string n.text, .slice A n.kids.length cp, .int .i64 n.pos] 24)).alloc (.cells #[.int .i64 100] 3)).heap.size = w.heap.size + 4 := by simp
  gi_wp2
  generalize (((w.alloc (.cells #[.int .i64 n.kind, .string n.text, .slice A n.kids.length cp, .int .i64 n.pos] 24)).alloc (.cells #[.int .i64 0] 3)).alloc (.cells #[.int .i64 n.kind, .string n.text, .slice A n.kids.length cp, .int .i64 n.pos] 24)).alloc (.cells #[.int .i64 100] 3) = W0 at *
  have hseq : SeqStopsK Fence.wide (9 - 1) Tryz.prog 125 #[.pointer (some ⟨w.heap.size + 1 + 1, 0, none⟩), .pointer (some ⟨w.heap.size + 1 + 1 + 1, 0, none⟩)] yArgs (KpC w.heap.size (w.heap.size + 1)) (fun ys => ys.map (·.2.1) = lefts 100 n) (fun _ => True) (lefts 100 n).length W0 :=
    fun l J Jx W hW hJ hJx hY h0 => nodes1_in l w.heap.size (w.heap.size + 1) 8 100 _ n J Jx (fun s W o hs => hJ s W _ none hs (World.grownBy_alloc W o none) (fun r e => by cases e)) hY W _ _ A cp rfl (by omega) (o2.below hW (by omega)) (o3.below hW (by omega))
      (HV.out.keep fun b hb _ => (hW.block b (by omega)).trans (hB.block b hb)) HW.out (Nat.le_trans hB.size hW.size) (by have := hW.size; omega) h0
  have HSEQ := Lib.hid hseq
  obtain ⟨oc, of⟩ : W0.cell? ⟨w.heap.size + 1, 0, none⟩ = some (.int .i64 0) ∧ W0.frozen? ⟨w.heap.size + 1, 0, none⟩ = false := ⟨blk1 o1, o1.frozen 0⟩
  clear hseq o1 o2 o3
  refine wpIn_rangeFunc_ownF (w0 := W0) rfl (by omega) (gf := 125) (lb := #[.pointer (some ⟨w.heap.size + 1 + 1, 0, none⟩), .pointer (some ⟨w.heap.size + 1 + 1 + 1, 0, none⟩)]) rfl trivial ent_nodes1 HSEQ.out (fun h k => h.trans k) (fun W l o o' => kpC_b hB.size W l o o') (Below.refl _ _) (fun _ => rfl)
    (fun pre W => (W.cell? ⟨w.heap.size + 1, 0, none⟩ = some (.int .i64 (pre.length : Int)) ∧ W.frozen? ⟨w.heap.size + 1, 0, none⟩ = false) ∧ Below w.heap.size w W) (fun _ _ _ => False)
    (OwnFrom.and (Own.from (fun s A B row hs hg hr => ⟨Go.cell_kept hs.1 hg hr, (Go.frozen_kept hs.1 hg hr).trans hs.2⟩) _) (ownFrom_below (Nat.le_refl _) (by omega)))
    (fun _ _ _ _ _ hs _ _ => hs) ⟨⟨oc, of⟩, hB⟩
    (fun x => { tmps := #[.agg #[.int .i64 n.kind, .string n.text, .slice A n.kids.length cp, .int .i64 n.pos], .pointer (some ⟨w.heap.size, 0, none⟩), .int .i64 0, .pointer (some ⟨w.heap.size + 1, 0, none⟩), .agg #[.int .i64 n.kind, .string n.text, .slice A n.kids.length cp, .int .i64 n.pos],
      .func (.func 125) #[] #[.pointer (some ⟨w.heap.size + 1 + 1, 0, none⟩), .pointer (some ⟨w.heap.size + 1 + 1 + 1, 0, none⟩)], x.1, .int .i64 (x.2.1 : Int), undef, undef, undef], defers := [] }) ?assign ?body ?done ?stop
  case assign =>
    intro l x W K hK
    unfold yArgs
    gi_wp2
    rw [zip2]
    exact hK
  case body =>
    rintro l pre x W ⟨⟨hc, hf⟩, hb⟩ hl
    have hl2 := Nat.lt_of_lt_of_le hl HC.out
    have HB := Lib.hid hb
    have hbs := hb.size
    clear hb hl
    gi_wp2
    refine ⟨KeepsOthers.setCell _ _ _, ⟨(Below.refl _ _).setCell (p := ⟨w.heap.size + 1, 0, none⟩) (by show w.heap.size ≤ w.heap.size + 1; omega) _, fun k hk _ => Below.heap_setCell W ⟨w.heap.size + 1, 0, none⟩ _ k hk⟩, ⟨?_, ?_⟩, HB.out.setCell (p := ⟨w.heap.size + 1, 0, none⟩) (by show w.heap.size ≤ w.heap.size + 1; omega) _⟩
    · rw [World.cell?_setCell_same' _ _ _ (by rw [hc]; rfl)]
      simp
    · rw [World.frozen?_setCell]; exact hf
  case done =>
    rintro D ys W hD hys ⟨⟨hc, hf⟩, hb⟩ hK
    have HB := Lib.hid (hb.trans (kpC_b (OB := 0) hB.size W D _ (.deferred none) hD hK rfl rfl).bel)
    have HY := Lib.hid (show ys.length = (lefts 100 n).length by rw [← hys, List.length_map])
    clear hb hys
    gi_wp2
    refine ⟨by simp, .inl ⟨_, _, rfl, run_takeDeferred hK, ?_⟩⟩
    exact ⟨_, results_tmp rfl _ _ _, by rw [← HY.out]; rfl, HB.out⟩
  case stop =>
    rintro D c pre W _ _ h _
    exact h.elim
/-- The greatest depth, of how much is left. -/
def dpt (l : List Nat) : Nat := l.foldl (fun d l => max d (102 - l)) 0
theorem dpt_snoc (l : List Nat) (x : Nat) : dpt (l ++ [x]) = max (dpt l) (102 - x) := by unfold dpt; rw [List.foldl_append]; rfl
theorem dpt_le (l : List Nat) : dpt l ≤ 102 := ((foldl_max_iff l 0 102).2 ⟨by omega, fun _ _ => by omega⟩)

set_option maxRecDepth 100000 in
set_option maxHeartbeats 4000000 in
theorem tdepth_in (v : Value) (n : Nd) (w : World) (hv : NodeW w v n) (hw : Wee 101 n) :
    CallsIn Fence.wide 9 Tryz.prog 50 #[v] w fun e w' => e = .returned (.int .i64 (depthT n : Int)) ∧ Below w.heap.size w w' := by
  have hV0 := hv
  obtain ⟨A, cp, rfl, hC⟩ := hv.toC
  have hV1 : NodeV (· < w.heap.size) w _ n := hV0.mono fun b _ h => h
  have HV := Lib.hid hV1
  have HW := Lib.hid hw
  clear hV0 hv hC hV1 hw
  refine callsIn_of_wp_marks Tryz.func50 rfl trivial ?_ rfl
  simp only [Tryz.ntmps50, List.size_toArray, List.length_cons, List.length_nil, Nat.reduceAdd, Nat.reduceSub, Array.replicate_succ, Array.replicate_zero, List.push_toArray, List.append_toArray, List.nil_append, List.cons_append]
  gi_wp2
  refine ⟨trivial, (nodes_in 8 _ 101 n _ ((HV.out.wide).below (by (repeat' (first | with_reducible assumption | with_reducible exact Below.refl _ _ | with_reducible refine Below.alloc ?_ ?_ _ | with_reducible refine Below.setCell ?_ ?_ _ | with_reducible refine Below.drew ?_ | with_reducible refine below_drewN ?_ _ | (simp <;> omega) | omega))))).mono ?_⟩
  simp only [Value.cells]
  rintro e w1 ⟨rfl, rfl⟩
  have o1 : Blk ((((w.alloc (.cells #[.int .i64 n.kind, .string n.text, .slice A n.kids.length cp, .int .i64 n.pos] 24)).alloc (.cells #[.int .i64 0] 3)).alloc (.cells #[.int .i64 n.kind, .string n.text, .slice A n.kids.length cp, .int .i64 n.pos] 24)).alloc (.cells #[.int .i64 101] 3)) (w.heap.size + 1) 3 #[.int .i64 0] := ((Blk.new_at (by simp) _ _).alloc _).alloc _
  have o2 : Blk ((((w.alloc (.cells #[.int .i64 n.kind, .string n.text, .slice A n.kids.length cp, .int .i64 n.pos] 24)).alloc (.cells #[.int .i64 0] 3)).alloc (.cells #[.int .i64 n.kind, .string n.text, .slice A n.kids.length cp, .int .i64 n.pos] 24)).alloc (.cells #[.int .i64 101] 3)) (w.heap.size + 1 + 1) 24 #[.int .i64 n.kind, .string n.text, .slice A n.kids.length cp, .int .i64 n.pos] := (Blk.new_at (by simp) _ _).alloc _
  have o3 : Blk ((((w.alloc (.cells #[.int .i64 n.kind, .string n.text, .slice A n.kids.length cp, .int .i64 n.pos] 24)).alloc (.cells #[.int .i64 0] 3)).alloc (.cells #[.int .i64 n.kind, .string n.text, .slice A n.kids.length cp, .int .i64 n.pos] 24)).alloc (.cells #[.int .i64 101] 3)) (w.heap.size + 1 + 1 + 1) 3 #[.int .i64 101] := Blk.new_at (by simp) _ _
  have hB : Below w.heap.size w ((((w.alloc (.cells #[.int .i64 n.kind, .string n.text, .slice A n.kids.length cp, .int .i64 n.pos] 24)).alloc (.cells #[.int .i64 0] 3)).alloc (.cells #[.int .i64 n.kind, .string n.text, .slice A n.kids.length cp, .int .i64 n.pos] 24)).alloc (.cells #[.int .i64 101] 3)) := by (repeat' (first | with_reducible assumption | with_reducible exact Below.refl _ _ | with_reducible refine Below.alloc ?_ ?_ _ | with_reducible refine Below.setCell ?_ ?_ _ | with_reducible refine Below.drew ?_ | with_reducible refine below_drewN ?_ _ | (simp <;> omega) | omega))
  have hz : ((((w.alloc (.cells #[.int .i64 n.kind, .string n.text, .slice A n.kids.length cp, .int .i64 n.pos] 24)).alloc (.cells #[.int .i64 0] 3)).alloc (.cells #[.int .i64 n.kind, .string n.text, .slice A n.kids.length cp, .int .i64 n.pos] 24)).alloc (.cells #[.int .i64 101] 3)).heap.size = w.heap.size + 4 := by simp
  gi_wp2
  generalize (((w.alloc (.cells #[.int .i64 n.kind, .string n.text, .slice A n.kids.length cp, .int .i64 n.pos] 24)).alloc (.cells #[.int .i64 0] 3)).alloc (.cells #[.int .i64 n.kind, .string n.text, .slice A n.kids.length cp, .int .i64 n.pos] 24)).alloc (.cells #[.int .i64 101] 3) = W0 at *
  have hseq : SeqStopsK Fence.wide (9 - 1) Tryz.prog 125 #[.pointer (some ⟨w.heap.size + 1 + 1, 0, none⟩), .pointer (some ⟨w.heap.size + 1 + 1 + 1, 0, none⟩)] yArgs (KpC w.heap.size (w.heap.size + 1)) (fun ys => ys.map (·.2.1) = lefts 101 n) (fun _ => True) (lefts 101 n).length W0 :=
    fun l J Jx W hW hJ hJx hY h0 => nodes1_in l w.heap.size (w.heap.size + 1) 8 101 _ n J Jx (fun s W o hs => hJ s W _ none hs (World.grownBy_alloc W o none) (fun r e => by cases e)) hY W _ _ A cp rfl (by omega) (o2.below hW (by omega)) (o3.below hW (by omega))
      (HV.out.keep fun b hb _ => (hW.block b (by omega)).trans (hB.block b hb)) HW.out (Nat.le_trans hB.size hW.size) (by have := hW.size; omega) h0
  have HSEQ := Lib.hid hseq
  obtain ⟨oc, of⟩ : W0.cell? ⟨w.heap.size + 1, 0, none⟩ = some (.int .i64 0) ∧ W0.frozen? ⟨w.heap.size + 1, 0, none⟩ = false := ⟨blk1 o1, o1.frozen 0⟩
  clear hseq o1 o2 o3
  refine wpIn_rangeFunc_ownF (w0 := W0) rfl (by omega) (gf := 125) (lb := #[.pointer (some ⟨w.heap.size + 1 + 1, 0, none⟩), .pointer (some ⟨w.heap.size + 1 + 1 + 1, 0, none⟩)]) rfl trivial ent_nodes1 HSEQ.out (fun h k => h.trans k) (fun W l o o' => kpC_b hB.size W l o o') (Below.refl _ _) (fun _ => rfl)
    (fun pre W => (W.cell? ⟨w.heap.size + 1, 0, none⟩ = some (.int .i64 (dpt (pre.map (·.2.1)) : Int)) ∧ W.frozen? ⟨w.heap.size + 1, 0, none⟩ = false) ∧ Below w.heap.size w W) (fun _ _ _ => False)
    (OwnFrom.and (Own.from (fun s A B row hs hg hr => ⟨Go.cell_kept hs.1 hg hr, (Go.frozen_kept hs.1 hg hr).trans hs.2⟩) _) (ownFrom_below (Nat.le_refl _) (by omega)))
    (fun _ _ _ _ _ hs _ _ => hs) ⟨⟨oc, of⟩, hB⟩
    (fun x => { tmps := #[.agg #[.int .i64 n.kind, .string n.text, .slice A n.kids.length cp, .int .i64 n.pos], .pointer (some ⟨w.heap.size, 0, none⟩), .int .i64 0, .pointer (some ⟨w.heap.size + 1, 0, none⟩), undef, .int .i64 (x.2.1 : Int), .agg #[.int .i64 n.kind, .string n.text, .slice A n.kids.length cp, .int .i64 n.pos],
      .func (.func 125) #[] #[.pointer (some ⟨w.heap.size + 1 + 1, 0, none⟩), .pointer (some ⟨w.heap.size + 1 + 1 + 1, 0, none⟩)], x.1, .int .i64 (x.2.1 : Int), undef, undef, undef, undef, undef], defers := [] }) ?assign ?body ?done ?stop
  case assign =>
    intro l x W K hK
    unfold yArgs
    gi_wp2
    exact hK
  case body =>
    rintro l pre x W ⟨⟨hc, hf⟩, hb⟩ hl
    have hx2 := x.2.2
    have hdp := dpt_le (pre.map (·.2.1))
    have HS := Lib.hid (dpt_snoc (pre.map (·.2.1)) x.2.1)
    generalize dpt (pre.map (·.2.1)) = dd at *
    have HB := Lib.hid hb
    have hbs := hb.size
    clear hb hl
    gi_wp2
    refine ⟨KeepsOthers.setCell _ _ _, ⟨(Below.refl _ _).setCell (p := ⟨w.heap.size + 1, 0, none⟩) (by show w.heap.size ≤ w.heap.size + 1; omega) _, fun k hk _ => Below.heap_setCell W ⟨w.heap.size + 1, 0, none⟩ _ k hk⟩, ⟨?_, ?_⟩, HB.out.setCell (p := ⟨w.heap.size + 1, 0, none⟩) (by show w.heap.size ≤ w.heap.size + 1; omega) _⟩
    · rw [World.cell?_setCell_same' _ _ _ (by rw [hc]; rfl), List.map_append, List.map_singleton, HS.out]
      rw [show max (dd : Int) (102 - (x.2.1 : Int)) = ((max dd (102 - x.2.1) : Nat) : Int) by omega]
    · rw [World.frozen?_setCell]; exact hf
  case done =>
    rintro D ys W hD hys ⟨⟨hc, hf⟩, hb⟩ hK
    have HB := Lib.hid (hb.trans (kpC_b (OB := 0) hB.size W D _ (.deferred none) hD hK rfl rfl).bel)
    have HY := Lib.hid (show dpt (ys.map (·.2.1)) = depthT n by rw [hys]; rfl)
    clear hb hys
    gi_wp2
    refine ⟨by simp, .inl ⟨_, _, rfl, run_takeDeferred hK, ?_⟩⟩
    exact ⟨_, results_tmp rfl _ _ _, by rw [← HY.out]; rfl, HB.out⟩
  case stop =>
    rintro D c pre W _ _ h _
    exact h.elim
end Go.Proofs.YtnalfjaojcahhaaGreatDoor
