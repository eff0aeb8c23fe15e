/-
  The reader's free, inHead, slice, result's helpers. By an AI agent.
  A region that draws its order, whose operations yield one value each in every world of a class, and leave a world of the class. By an AI agent.
  The reader's slice, named. By an AI agent.
  How a function that reads a node ends; a node out of kids that were just read. By an AI agent.
  Types: result, funcType, signature, typ. By an AI agent.
-/
import Derived.Test.YtnalfjaojcahhaaGreatDoorJ02
import Derived.BigQuiet
import Derived.Deep.Draws
import Derived.Defers
import Derived.Recover
import Derived.IntWalk
namespace Go.Proofs.YtnalfjaojcahhaaGreatDoor
open Go.RowKit Go.Lib Go.Proofs
attribute [local go_sem ↓] Go.wp_at_zero Go.wp_at_succ

/-- What lies in blocks of X stays. -/
structure KeepsX (X : Nat → Prop) (w w' : World) : Prop where
  size : w.heap.size ≤ w'.heap.size
  block : ∀ b, X b → b < w.heap.size → w'.heap[b]? = w.heap[b]?
section
variable {X : Nat → Prop} {w w' w'' : World}
theorem KeepsX.refl (X : Nat → Prop) (w : World) : KeepsX X w w := ⟨Nat.le_refl _, fun _ _ _ => rfl⟩
theorem KeepsX.trans (h : KeepsX X w w') (h' : KeepsX X w' w'') : KeepsX X w w'' :=
  ⟨Nat.le_trans h.size h'.size, fun b hb hlt => (h'.block b hb (Nat.lt_of_lt_of_le hlt h.size)).trans (h.block b hb hlt)⟩
theorem KeepsX.alloc (h : KeepsX X w w') (o : Obj) : KeepsX X w (w'.alloc o) :=
  h.trans ⟨by rw [World.size_alloc]; omega, fun b _ hlt => Below.heap_alloc w' o b hlt⟩
theorem KeepsX.drew (h : KeepsX X w w') : KeepsX X w w'.drew := h.trans ⟨Nat.le_refl _, fun _ _ _ => rfl⟩
theorem KeepsX.drewN (h : KeepsX X w w') (n : Nat) : KeepsX X w (w'.drewN n) := h.trans ⟨(below_drewN (Below.refl 0 _) n).size, fun b _ hlt => (below_drewN (Below.refl w'.heap.size w') n).block b hlt⟩
theorem KeepsX.setCell (h : KeepsX X w w') {p : Addr} (hp : X p.block → False) (u : Value) : KeepsX X w (w'.setCell p u) :=
  h.trans ⟨by simp [World.setCell], fun b hb _ => Below.heap_setCell w' p u b (fun e => hp (e ▸ hb))⟩
theorem KeepsX.of_grown {r : Option Nat} (hg : w.grownBy w' r) (hr : ∀ g, r = some g → X g → False) : KeepsX X w w' :=
  ⟨hg.size, fun b hb hlt => hg.block b hlt (fun e => hr b e.symm hb)⟩
theorem KeepsX.of_below {B : Nat} (hg : Below B w w') (hr : ∀ b, X b → b < w.heap.size → b < B) : KeepsX X w w' :=
  ⟨hg.size, fun b hb hlt => hg.block b (hr b hb hlt)⟩
theorem NodeV.kept {v : Value} {n : Nd} (h : NodeV X w v n) (hk : KeepsX X w w') : NodeV X w' v n := h.keep hk.block
theorem NodesV.kept {v : Value} {l : List Nd} (h : NodesV X w v l) (hk : KeepsX X w w') : NodesV X w' v l := by
  obtain ⟨A, cap, xs, e, h1, h2, h3⟩ := h
  exact ⟨A, cap, xs, e, h1, h2.keep hk.block, h3.keep hk.block⟩
theorem NodesV.mono {Y : Nat → Prop} {v : Value} {l : List Nd} (h : NodesV X w v l) (hXY : ∀ b, X b → b < w.heap.size → Y b) : NodesV Y w v l := by
  obtain ⟨A, cap, xs, e, h1, h2, h3⟩ := h
  exact ⟨A, cap, xs, e, h1, h2.mono hXY (by omega), h3.mono hXY⟩
/-- A block of four cells. -/
theorem blk4 {g : Nat} {t : TypeId} {a b c d : Value} (h : Blk w g t #[a, b, c, d]) : w.cell? ⟨g, 0, none⟩ = some a ∧ w.cell? ⟨g, 1, none⟩ = some b ∧ w.cell? ⟨g, 2, none⟩ = some c ∧ w.cell? ⟨g, 3, none⟩ = some d ∧
    w.frozen? ⟨g, 0, none⟩ = false ∧ w.frozen? ⟨g, 1, none⟩ = false ∧ w.frozen? ⟨g, 2, none⟩ = false ∧ w.frozen? ⟨g, 3, none⟩ = false := by
  have c0 := h.cell 0
  have c1 := h.cell 1
  have c2 := h.cell 2
  have c3 := h.cell 3
  simp at c0 c1 c2 c3
  exact ⟨c0, c1, c2, c3, h.frozen 0, h.frozen 1, h.frozen 2, h.frozen 3⟩
end
def ndZ : Array Value := #[.int .i64 0, .string ⟨#[]⟩, .slice none 0 0, .int .i64 0]

/-- A result that lies in a cell. -/
theorem results_node {fn : Func} {q : Tmp} (hfn : fn.results = #[.cell q 24]) (tmps : Array Value) {w : World} {g : Nat} {a b c d : Value} (ht : tmps.getD q undef = .pointer (some ⟨g, 0, none⟩)) (hb : Blk w g 24 #[a, b, c, d]) :
    (results fn tmps).run Tryz.prog w = .ok (.agg #[a, b, c, d]) w := by
  obtain ⟨d0, d1, d2, d3, _, _, _, _⟩ := blk4 hb
  unfold results
  rw [hfn]
  have ht' : tmps[q]?.getD undef = .pointer (some ⟨g, 0, none⟩) := by simpa using ht
  simp [ht', go_sem, d0, d1, d2, d3]
set_option maxRecDepth 100000 in
set_option maxHeartbeats 4000000 in
theorem free_any (E : Env) (k : FuncId) (first cap : Array Value) (part : R Nd) (s : St) (w : World) (h : RdAt E w s)
    (hk : ∀ a w, (callFunc k a).run Tryz.prog w = .ok (.enter k a) w) (hp : PartC E k (first ++ cap) part w) (hne : freeR part E.c s ≠ .out) :
    Calls Tryz.prog 152 #[.pointer (some ⟨E.R, 0, none⟩), .func (.func k) first cap] w (PostN E w (freeR part E.c s)) := by
  generalize hres : freeR part E.c s = res at *
  have HRES := Lib.hid hres
  have HP := Lib.hid hp
  have HNE := Lib.hid hne
  obtain ⟨c0, c1, c2, c3, c4, f0⟩ := h.cells
  have f3 := f0 3
  have hltR := h.lt
  have hneR := Nat.ne_of_lt hltR
  clear hres hp hne f0
  go_enter Tryz.func152, Tryz.ntmps152
  go_wp2_with fail
  have hm1 : Moved E { s with head := false } w ((w.setCell ⟨E.R, 3, none⟩ (.bool false)).alloc (.cells ndZ 24)) := ((Moved.refl h).setHead false).alloc _
  have hb1 : Blk ((w.setCell ⟨E.R, 3, none⟩ (.bool false)).alloc (.cells ndZ 24)) w.heap.size 24 ndZ := by
    have := Blk.new (w.setCell ⟨E.R, 3, none⟩ (.bool false)) 24 ndZ
    simpa [World.setCell] using this
  cases hP : part E.c { s with head := false } with
  | out => exact absurd HRES.out.symm (by rw [freeR, hP]; exact HNE.out)
  | fail p =>
    have HF := Lib.hid (show res = .fail p by rw [← HRES.out, freeR, hP]; rfl)
    refine (HP.out _ _ hm1.gr hm1.rd (by rw [hP]; exact nofun)).mono ?_
    rw [hP]
    rintro e w2 ⟨rfl, hg2⟩
    unfold wrongV
    refine ⟨rfl, ?_⟩
    rw [HF.out]
    exact ⟨rfl, hm1.gr.trans hg2⟩
  | ok n s1 =>
    have HF := Lib.hid (show res = .ok n { s1 with head := s.head } by rw [← HRES.out, freeR, hP]; rfl)
    refine (HP.out _ _ hm1.gr hm1.rd (by rw [hP]; exact nofun)).mono ?_
    rw [hP]
    rintro e w2 ⟨⟨v, rfl, hv⟩, hm2⟩
    obtain ⟨A, cp, rfl, hC⟩ := hv.toC
    have hb2 := hb1.grown hm2.gr (fun e => by injection e with e; omega)
    obtain ⟨d0, d1, d2, d3, e0, e1, e2, e3⟩ := blk4 hb2
    obtain ⟨x0, x1, x2, x3, x4, y0⟩ := hm2.rd.cells
    have y3 := y0 3
    have hlt2 := hm2.rd.lt
    have hlt3 := hb2.lt
    have hs2 := hm2.gr.size
    have hm3 := hm1.trans hm2
    simp only [World.size_alloc] at hs2
    clear hP HRES HP y0
    go_wp2_with fail
    have hb3 := ((((hb2.far (p := ⟨E.R, 3, none⟩) (by show w.heap.size ≠ E.R; omega) (.bool s.head)).set_ 0 (.int .i64 n.kind)).set_ 1 (.string n.text)).set_ 2 (.slice A n.kids.length cp)).set_ 3 (.int .i64 n.pos) |>.alloc (.cells #[.int .i64 n.kind, .string n.text, .slice A n.kids.length cp, .int .i64 n.pos] 24)
    refine bodyPost_ret (results_node rfl _ (by rfl) (by simpa [ndZ] using hb3)) rfl ?_
    rw [HF.out]
    refine ⟨⟨_, rfl, (hv.kept ?_).mono ?_⟩, ?_⟩
    · (repeat' (first | with_reducible exact KeepsX.refl _ _ | with_reducible refine KeepsX.alloc ?_ _ | with_reducible refine KeepsX.setCell ?_ ?_ _ | with_reducible refine KeepsX.drew ?_ | with_reducible refine KeepsX.drewN ?_ _ | (intro hX; simp at hX; omega)))
    · intro b hb _
      simp at hb
      omega
    · have hm4 := hm3.setHead s.head
      (repeat' (first | with_reducible assumption | with_reducible refine Moved.alloc ?_ _ | with_reducible refine Moved.own ?_ ?_ ?_ _ | with_reducible refine Moved.drew ?_ | with_reducible refine Moved.drewN ?_ _ | (simp <;> omega) | omega))
set_option maxRecDepth 100000 in
set_option maxHeartbeats 4000000 in
theorem inHead_any (E : Env) (k : FuncId) (first cap : Array Value) (part : R Nd) (s : St) (w : World) (h : RdAt E w s)
    (hk : ∀ a w, (callFunc k a).run Tryz.prog w = .ok (.enter k a) w) (hp : PartC E k (first ++ cap) part w) (hne : headR part E.c s ≠ .out) :
    Calls Tryz.prog 218 #[.pointer (some ⟨E.R, 0, none⟩), .func (.func k) first cap] w (PostN E w (headR part E.c s)) := by
  generalize hres : headR part E.c s = res at *
  have HRES := Lib.hid hres
  have HP := Lib.hid hp
  have HNE := Lib.hid hne
  obtain ⟨c0, c1, c2, c3, c4, f0⟩ := h.cells
  have f3 := f0 3
  have hltR := h.lt
  have hneR := Nat.ne_of_lt hltR
  clear hres hp hne f0
  go_enter Tryz.func218, Tryz.ntmps218
  go_wp2_with fail
  have hm1 : Moved E { s with head := true } w ((w.setCell ⟨E.R, 3, none⟩ (.bool true)).alloc (.cells ndZ 24)) := ((Moved.refl h).setHead true).alloc _
  have hb1 : Blk ((w.setCell ⟨E.R, 3, none⟩ (.bool true)).alloc (.cells ndZ 24)) w.heap.size 24 ndZ := by
    have := Blk.new (w.setCell ⟨E.R, 3, none⟩ (.bool true)) 24 ndZ
    simpa [World.setCell] using this
  cases hP : part E.c { s with head := true } with
  | out => exact absurd HRES.out.symm (by rw [headR, hP]; exact HNE.out)
  | fail p =>
    have HF := Lib.hid (show res = .fail p by rw [← HRES.out, headR, hP]; rfl)
    refine (HP.out _ _ hm1.gr hm1.rd (by rw [hP]; exact nofun)).mono ?_
    rw [hP]
    rintro e w2 ⟨rfl, hg2⟩
    unfold wrongV
    refine ⟨rfl, ?_⟩
    rw [HF.out]
    exact ⟨rfl, hm1.gr.trans hg2⟩
  | ok n s1 =>
    have HF := Lib.hid (show res = .ok n { s1 with head := s.head } by rw [← HRES.out, headR, hP]; rfl)
    refine (HP.out _ _ hm1.gr hm1.rd (by rw [hP]; exact nofun)).mono ?_
    rw [hP]
    rintro e w2 ⟨⟨v, rfl, hv⟩, hm2⟩
    obtain ⟨A, cp, rfl, hC⟩ := hv.toC
    have hb2 := hb1.grown hm2.gr (fun e => by injection e with e; omega)
    obtain ⟨d0, d1, d2, d3, e0, e1, e2, e3⟩ := blk4 hb2
    obtain ⟨x0, x1, x2, x3, x4, y0⟩ := hm2.rd.cells
    have y3 := y0 3
    have hlt2 := hm2.rd.lt
    have hlt3 := hb2.lt
    have hs2 := hm2.gr.size
    have hm3 := hm1.trans hm2
    simp only [World.size_alloc] at hs2
    clear hP HRES HP y0
    go_wp2_with fail
    have hb3 := ((((hb2.far (p := ⟨E.R, 3, none⟩) (by show w.heap.size ≠ E.R; omega) (.bool s.head)).set_ 0 (.int .i64 n.kind)).set_ 1 (.string n.text)).set_ 2 (.slice A n.kids.length cp)).set_ 3 (.int .i64 n.pos) |>.alloc (.cells #[.int .i64 n.kind, .string n.text, .slice A n.kids.length cp, .int .i64 n.pos] 24)
    refine bodyPost_ret (results_node rfl _ (by rfl) (by simpa [ndZ] using hb3)) rfl ?_
    rw [HF.out]
    refine ⟨⟨_, rfl, (hv.kept ?_).mono ?_⟩, ?_⟩
    · (repeat' (first | with_reducible exact KeepsX.refl _ _ | with_reducible refine KeepsX.alloc ?_ _ | with_reducible refine KeepsX.setCell ?_ ?_ _ | with_reducible refine KeepsX.drew ?_ | with_reducible refine KeepsX.drewN ?_ _ | (intro hX; simp at hX; omega)))
    · intro b hb _
      simp at hb
      omega
    · have hm4 := hm3.setHead s.head
      (repeat' (first | with_reducible assumption | with_reducible refine Moved.alloc ?_ _ | with_reducible refine Moved.own ?_ ?_ ?_ _ | with_reducible refine Moved.drew ?_ | with_reducible refine Moved.drewN ?_ _ | (simp <;> omega) | omega))

/-- A function value that reads nodes. -/
def PartLC (E : Env) (k : FuncId) (args : Array Value) (m : R (List Nd)) (w0 : World) : Prop :=
  ∀ (w : World) (s : St), w0.grownBy w (some E.R) → RdAt E w s → m E.c s ≠ .out → Calls Tryz.prog k args w (PostL E w (m E.c s))

set_option maxRecDepth 100000 in
set_option maxHeartbeats 4000000 in
theorem freeL_any (E : Env) (k : FuncId) (first cap : Array Value) (part : R (List Nd)) (s : St) (w : World) (h : RdAt E w s)
    (hk : ∀ a w, (callFunc k a).run Tryz.prog w = .ok (.enter k a) w) (hp : PartLC E k (first ++ cap) part w) (hne : freeR part E.c s ≠ .out) :
    Calls Tryz.prog 240 #[.pointer (some ⟨E.R, 0, none⟩), .func (.func k) first cap] w (PostL E w (freeR part E.c s)) := by
  generalize hres : freeR part E.c s = res at *
  have HRES := Lib.hid hres
  have HP := Lib.hid hp
  have HNE := Lib.hid hne
  obtain ⟨c0, c1, c2, c3, c4, f0⟩ := h.cells
  have f3 := f0 3
  clear hres hp hne f0
  go_enter Tryz.func240, Tryz.ntmps240
  go_wp2_with fail
  have hm1 := (Moved.refl h).setHead false
  cases hP : part E.c { s with head := false } with
  | out => exact absurd HRES.out.symm (by rw [freeR, hP]; exact HNE.out)
  | fail p =>
    have HF := Lib.hid (show res = .fail p by rw [← HRES.out, freeR, hP]; rfl)
    refine (HP.out _ _ hm1.gr hm1.rd (by rw [hP]; exact nofun)).mono ?_
    rw [hP]
    rintro e w2 ⟨rfl, hg2⟩
    unfold wrongV
    refine ⟨rfl, ?_⟩
    rw [HF.out]
    exact ⟨rfl, hm1.gr.trans hg2⟩
  | ok n s1 =>
    have HF := Lib.hid (show res = .ok n { s1 with head := s.head } by rw [← HRES.out, freeR, hP]; rfl)
    refine (HP.out _ _ hm1.gr hm1.rd (by rw [hP]; exact nofun)).mono ?_
    rw [hP]
    rintro e w2 ⟨⟨v, rfl, hv⟩, hm2⟩
    obtain ⟨x0, x1, x2, x3, x4, y0⟩ := hm2.rd.cells
    have y3 := y0 3
    have hm3 := hm1.trans hm2
    have hltR := h.lt
    have hs2 := hm1.gr.size
    clear hP HRES HP y0
    go_wp2_with fail
    go_ret
    rw [HF.out]
    refine ⟨⟨_, rfl, (hv.kept ?_).mono ?_⟩, ?_⟩
    · (repeat' (first | with_reducible exact KeepsX.refl _ _ | with_reducible refine KeepsX.alloc ?_ _ | with_reducible refine KeepsX.setCell ?_ ?_ _ | with_reducible refine KeepsX.drew ?_ | with_reducible refine KeepsX.drewN ?_ _ | (intro hX; simp at hX; omega)))
    · intro b hb _
      exact Nat.le_trans hs2 hb
    · exact hm3.setHead s.head
end Go.Proofs.YtnalfjaojcahhaaGreatDoor
namespace Go.Proofs.YtnalfjaojcahhaaGreatDoor

/-- A world of a class. -/
structure Wd (S : World → Prop) where
  wd : World
  ok : S wd
theorem wp_region_class {P : Program} (S : World → Prop) {id : Nat} {Q : Exit → Act → World → Prop} {a : Act} {w : World} {l : List Oper} (hm : P.follows .mixedOrders = true) (hB : Region.lexB .any l.toArray = true) (h0 : S w.drew)
    (h : wpQuiet P l.toArray (fun w' => ∃ n : Wd S, w' = n.wd) (fun a' => ∀ n : Wd S, Q .normal a' n.wd) l a) : (Code.region id l.toArray true).wp P Q a w :=
  wp_region_quiet (C := fun w' => ∃ n : Wd S, w' = n.wd) hm hB ⟨⟨w.drew, h0⟩, rfl⟩ (by
    have e : (fun a' => ∀ w', (∃ n : Wd S, w' = n.wd) → Q .normal a' w') = fun a' => ∀ n : Wd S, Q .normal a' n.wd := by
      funext a'
      exact propext ⟨fun h n => h _ ⟨n, rfl⟩, fun h w' ⟨n, e⟩ => e ▸ h n⟩
    rw [e]
    simpa using h)
end Go.Proofs.YtnalfjaojcahhaaGreatDoor
namespace Go.Proofs.YtnalfjaojcahhaaGreatDoor
open Go.RowKit Go.Lib Go.Proofs
attribute [local go_sem ↓] Go.wp_at_zero Go.wp_at_succ

/-- The reader's cells that 'slice' reads. -/
def SlC (E : Env) (s : St) (b off : Nat) (k : Int) (x : ByteArray) (w : World) : Prop :=
  w.cell? ⟨E.R, 0, none⟩ = some (.slice (some ⟨b, off, none⟩) E.c.toks.length E.cap) ∧ w.cell? ⟨E.R, 1, none⟩ = some (.int .i64 s.at_) ∧
  w.cell? ⟨b, off + (s.at_ + 1) * 3, none⟩ = some (.int .i64 k) ∧ w.cell? ⟨b, off + (s.at_ + 1) * 3 + 1, none⟩ = some (.string x)
theorem slC_of {E : Env} {s : St} {w : World} (h : RdAt E w s) (hlt : s.at_ + 1 < E.c.toks.length) : ∃ b off, ∀ w', RdAt E w' s → SlC E s b off (tokAt E.c (s.at_ + 1)).kind (tokAt E.c (s.at_ + 1)).text w' := by
  obtain ⟨b, off, eA, hb, t0, t1, t2⟩ := h.tok _ hlt
  refine ⟨b, off, fun w' h' => ?_⟩
  obtain ⟨c0, c1, _, _, _, _⟩ := h'.cells
  obtain ⟨b', off', eA', hb', t0', t1', t2'⟩ := h'.tok _ hlt
  rw [eA] at eA' c0
  injection eA' with e
  injection e with e1 e2
  subst e1 e2
  exact ⟨c0, c1, t0', t1'⟩

set_option maxRecDepth 100000 in
set_option maxHeartbeats 4000000 in
theorem slice_any (E : Env) (s : St) (w : World) (h : RdAt E w s) : Calls Tryz.prog 145 #[.pointer (some ⟨E.R, 0, none⟩)] w fun e w' => e = .returned (.bool (sliceB E.c s)) ∧ Seen E s w w' := by
  have HI := Lib.hid (fun w' (h : RdAt E w' s) => is_any E s (⟨#[91]⟩ : ByteArray) w' h)
  have hmost := h.most
  have hq := Seen.refl h
  by_cases hA : isS E.c s (⟨#[91]⟩ : ByteArray) = true
  · have hlt0 := isS_lt h hA
    by_cases hlt : s.at_ + 1 < E.c.toks.length
    · obtain ⟨b, off, hS⟩ := slC_of h hlt
      have HS := Lib.hid hS
      have hs : sliceB E.c s = ((tokAt E.c (s.at_ + 1)).kind == 6 && ((tokAt E.c (s.at_ + 1)).text.toList == (⟨#[93]⟩ : ByteArray).toList)) := by
        unfold sliceB
        rw [hA, List.getElem?_eq_getElem hlt, toList_beq]
        unfold tokAt
        rw [List.getElem?_eq_getElem hlt]
        rfl
      rw [hs]
      have g1 : decide ((s.at_ : Int) + 1 < (E.c.toks.length : Int)) = true := by simp; omega
      have g2 : (0 : Int) ≤ (s.at_ : Int) + 1 := by omega
      have g3 : (s.at_ : Int) + 1 < (E.c.toks.length : Int) := by omega
      have g4 : IntKind.i64.wrap ((s.at_ : Int) + 1) = (s.at_ : Int) + 1 := IntWalk.i64_in _ (by omega)
      have g5 : ((s.at_ : Int) + 1).toNat = s.at_ + 1 := by omega
      rw [hA] at HI
      clear hs hS hA
      generalize tokAt E.c (s.at_ + 1) = t at *
      obtain ⟨tk, tt, tp⟩ := t
      simp only at *
      have k0 : ∀ n : Wd (Seen E s w), n.wd.cell? ⟨E.R, 0, none⟩ = some (.slice (some ⟨b, off, none⟩) E.c.toks.length E.cap) := fun n => (HS.out _ n.ok.rd).1
      have k1 : ∀ n : Wd (Seen E s w), n.wd.cell? ⟨E.R, 1, none⟩ = some (.int .i64 s.at_) := fun n => (HS.out _ n.ok.rd).2.1
      have k2 : ∀ n : Wd (Seen E s w), n.wd.cell? ⟨b, off + (s.at_ + 1) * 3, none⟩ = some (.int .i64 tk) := fun n => (HS.out _ n.ok.rd).2.2.1
      have k3 : ∀ n : Wd (Seen E s w), n.wd.cell? ⟨b, off + (s.at_ + 1) * 3 + 1, none⟩ = some (.string tt) := fun n => (HS.out _ n.ok.rd).2.2.2
      have z1 : (⟨#[93]⟩ : ByteArray).toList = [93] := by decide +kernel
      rw [z1]
      cases h1 : (tk == 6) <;> cases h2 : (tt.toList == [93])
      all_goals
        go_enter Tryz.func145, Tryz.ntmps145
        go_wp2_with fail
        haveI : Nonempty (Wd (Seen E s w)) := ⟨⟨w, hq⟩⟩
        refine wp_region_class (Seen E s w) (by kernel_rfl) (by kernel_rfl) hq.drew ?_
        repeat (go_big_quiet_step ((go_at_call 67; rename_i n; refine (HI.out _ n.ok.rd).mono ?_; rintro e w' ⟨rfl, hb⟩; exact ⟨rfl, ⟨w', n.ok.step hb⟩, rfl⟩)))
        refine wpQuiet_nil ?_
        intro n
        go_wp2_with fail
        go_ret
        exact ⟨rfl, n.ok⟩
    · have hs : sliceB E.c s = false := by
        unfold sliceB
        rw [hA, List.getElem?_eq_none (by omega)]
        rfl
      rw [hs]
      have g1 : decide ((s.at_ : Int) + 1 < (E.c.toks.length : Int)) = false := by simp; omega
      have g4 : IntKind.i64.wrap ((s.at_ : Int) + 1) = (s.at_ : Int) + 1 := IntWalk.i64_in _ (by omega)
      have k0 : ∀ n : Wd (Seen E s w), n.wd.cell? ⟨E.R, 0, none⟩ = some (.slice E.A E.c.toks.length E.cap) := fun n => n.ok.rd.cells.1
      have k1 : ∀ n : Wd (Seen E s w), n.wd.cell? ⟨E.R, 1, none⟩ = some (.int .i64 s.at_) := fun n => n.ok.rd.cells.2.1
      rw [hA] at HI
      clear hs hA
      · go_enter Tryz.func145, Tryz.ntmps145
        go_wp2_with fail
        haveI : Nonempty (Wd (Seen E s w)) := ⟨⟨w, hq⟩⟩
        refine wp_region_class (Seen E s w) (by kernel_rfl) (by kernel_rfl) hq.drew ?_
        repeat (go_big_quiet_step ((go_at_call 67; rename_i n; refine (HI.out _ n.ok.rd).mono ?_; rintro e w' ⟨rfl, hb⟩; exact ⟨rfl, ⟨w', n.ok.step hb⟩, rfl⟩)))
        refine wpQuiet_nil ?_
        intro n
        go_wp2_with fail
        go_ret
        exact ⟨rfl, n.ok⟩
  · have hs : sliceB E.c s = false := by
      unfold sliceB
      simp [hA]
    rw [hs]
    rw [show isS E.c s (⟨#[91]⟩ : ByteArray) = false by simpa using hA] at HI
    clear hs hA
    · go_enter Tryz.func145, Tryz.ntmps145
      · go_wp2_with fail
        haveI : Nonempty (Wd (Seen E s w)) := ⟨⟨w, hq⟩⟩
        refine wp_region_class (Seen E s w) (by kernel_rfl) (by kernel_rfl) hq.drew ?_
        repeat (go_big_quiet_step ((go_at_call 67; rename_i n; refine (HI.out _ n.ok.rd).mono ?_; rintro e w' ⟨rfl, hb⟩; exact ⟨rfl, ⟨w', n.ok.step hb⟩, rfl⟩)))
        refine wpQuiet_nil ?_
        intro n
        go_wp2_with fail
        go_ret
        exact ⟨rfl, n.ok⟩
end Go.Proofs.YtnalfjaojcahhaaGreatDoor
namespace Go.Proofs.YtnalfjaojcahhaaGreatDoor
open Go.RowKit Go.Lib Go.Proofs

/-- A method of the reader that reads a node. -/
def ReadC (E : Env) (m : R Nd) (f : FuncId) : Prop :=
  ∀ (w : World) (s : St), RdAt E w s → m E.c s ≠ .out → Calls Tryz.prog f #[.pointer (some ⟨E.R, 0, none⟩)] w (PostN E w (m E.c s))
/-- What is met again is as it is said. -/
structure OkF (E : Env) (F : Fns) : Prop where
  typ : ReadC E F.typ 150
  expr : ReadC E F.expr 157
  unary : ReadC E F.unary 223
  stmt : ReadC E F.stmt 154
  ifS : ReadC E F.ifS 196
  g : F.g ≤ 1000000
theorem ReadC.part {E : Env} {m : R Nd} {f : FuncId} (h : ReadC E m f) (w0 : World) : PartC E f #[.pointer (some ⟨E.R, 0, none⟩)] m w0 := fun w s _ hr hm => h w s hr hm

theorem NodeV.make {X : Nat → Prop} {wj w2 : World} {l : List Nd} {xs : List Value} (k : Nat) (hk : l.length = k) (hn : NodesC X wj l xs) (kind : Int) (t : ByteArray) (pos : Int)
    (hb : Below (wj.alloc (.cells xs.toArray 24)).heap.size (wj.alloc (.cells xs.toArray 24)) w2) :
    NodeV (fun b => (X b ∧ b < wj.heap.size) ∨ b = wj.heap.size) w2 (.agg #[.int .i64 kind, .string t, .slice (some ⟨wj.heap.size, 0, none⟩) k k, .int .i64 pos]) (.mk kind t l pos) := by
  subst hk
  have hblk : Blk w2 wj.heap.size 24 xs.toArray := (Blk.new wj 24 xs.toArray).below hb (by simp)
  refine ⟨some ⟨wj.heap.size, 0, none⟩, l.length, xs, rfl, Nat.le_refl _, ⟨hn.len, fun _ => ⟨wj.heap.size, 0, rfl, .inr rfl, fun j u hu => ?_⟩⟩, ?_⟩
  · have := hblk.cell (0 + j)
    rw [this, Nat.zero_add]
    simpa using hu
  · refine ((hn.mono (Y := fun b => X b ∧ b < wj.heap.size) fun b hb hlt => ⟨hb, hlt⟩).keep (w' := w2) fun b hx hlt => ?_).mono fun b hb _ => .inl hb
    exact (hb.block b (by simp; omega)).trans (Below.heap_alloc wj _ b hlt)
/-- A node without kids. -/
theorem NodeV.leaf {X : Nat → Prop} {w : World} (kind : Int) (t : ByteArray) (pos : Int) : NodeV X w (.agg #[.int .i64 kind, .string t, .slice none 0 0, .int .i64 pos]) (.mk kind t [] pos) :=
  ⟨none, 0, [], rfl, Nat.le_refl _, ⟨rfl, fun h => absurd h (by simp)⟩, NodesC.nil⟩
/-- A node of kids that were read as a slice. -/
theorem NodeV.of_slice {X : Nat → Prop} {w : World} {v : Value} {l : List Nd} (h : NodesV X w v l) (kind : Int) (t : ByteArray) (pos : Int) : NodeV X w (.agg #[.int .i64 kind, .string t, v, .int .i64 pos]) (.mk kind t l pos) := by
  obtain ⟨A, cap, xs, rfl, h1, h2, h3⟩ := h
  exact ⟨A, cap, xs, rfl, h1, h2, h3⟩

theorem cell_kept {w w' : World} (hb : Below w.heap.size w w') {a : Addr} {v : Value} (hc : w.cell? a = some v) : w'.cell? a = some v := (hb.cell (World.block_lt_of_cell? w a hc)).trans hc
/-- Five cells. -/
abbrev Five (a0 a1 a2 a3 a4 : Addr) (v0 v1 v2 v3 v4 : Value) (w : World) : Prop := w.cell? a0 = some v0 ∧ w.cell? a1 = some v1 ∧ w.cell? a2 = some v2 ∧ w.cell? a3 = some v3 ∧ w.cell? a4 = some v4
section
variable {a0 a1 a2 a3 a4 : Addr} {v0 v1 v2 v3 v4 : Value} {w w' : World}
theorem Five.below (h : Five a0 a1 a2 a3 a4 v0 v1 v2 v3 v4 w) (hb : Below w.heap.size w w') : Five a0 a1 a2 a3 a4 v0 v1 v2 v3 v4 w' :=
  ⟨cell_kept hb h.1, cell_kept hb h.2.1, cell_kept hb h.2.2.1, cell_kept hb h.2.2.2.1, cell_kept hb h.2.2.2.2⟩
theorem Five.drew (h : Five a0 a1 a2 a3 a4 v0 v1 v2 v3 v4 w) : Five a0 a1 a2 a3 a4 v0 v1 v2 v3 v4 w.drew := h.below (Below.refl _ _).drew
theorem Five.alloc (h : Five a0 a1 a2 a3 a4 v0 v1 v2 v3 v4 w) (o : Obj) : Five a0 a1 a2 a3 a4 v0 v1 v2 v3 v4 (w.alloc o) := h.below ((Below.refl _ _).alloc (Nat.le_refl _) o)
theorem Five.far (h : Five a0 a1 a2 a3 a4 v0 v1 v2 v3 v4 w) {p : Addr} (u : Value) (h0 : a0.block ≠ p.block) (h1 : a1.block ≠ p.block) (h2 : a2.block ≠ p.block) (h3 : a3.block ≠ p.block) (h4 : a4.block ≠ p.block) : Five a0 a1 a2 a3 a4 v0 v1 v2 v3 v4 (w.setCell p u) :=
  have k : ∀ (a : Addr) (v : Value), w.cell? a = some v → a.block ≠ p.block → (w.setCell p u).cell? a = some v := fun a _ hc hn => (World.cell?_of_block (Below.heap_setCell w p u a.block hn)).trans hc
  ⟨k _ _ h.1 h0, k _ _ h.2.1 h1, k _ _ h.2.2.1 h2, k _ _ h.2.2.2.1 h3, k _ _ h.2.2.2.2 h4⟩
theorem Five.put (h : Five a0 a1 a2 a3 a4 v0 v1 v2 v3 v4 w) (g : Nat) (h0 : a0.block ≠ g) (h1 : a1.block ≠ g) (h2 : a2.block ≠ g) (h3 : a3.block ≠ g) (h4 : a4.block ≠ g) (a b c d : Value) :
    Five a0 a1 a2 a3 a4 v0 v1 v2 v3 v4 ((((w.setCell ⟨g, 0, none⟩ a).setCell ⟨g, 1, none⟩ b).setCell ⟨g, 2, none⟩ c).setCell ⟨g, 3, none⟩ d) :=
  (((h.far (p := ⟨g, 0, none⟩) a h0 h1 h2 h3 h4).far (p := ⟨g, 1, none⟩) b h0 h1 h2 h3 h4).far (p := ⟨g, 2, none⟩) c h0 h1 h2 h3 h4).far (p := ⟨g, 3, none⟩) d h0 h1 h2 h3 h4
theorem Five.grown {R : Nat} (h : Five a0 a1 a2 a3 a4 v0 v1 v2 v3 v4 w) (hg : w.grownBy w' (some R)) (h0 : a0.block ≠ R) (h1 : a1.block ≠ R) (h2 : a2.block ≠ R) (h3 : a3.block ≠ R) (h4 : a4.block ≠ R) : Five a0 a1 a2 a3 a4 v0 v1 v2 v3 v4 w' :=
  have k : ∀ (a : Addr) (v : Value), w.cell? a = some v → a.block ≠ R → w'.cell? a = some v := fun a _ hc hn =>
    (World.cell?_of_block (hg.block a.block (World.block_lt_of_cell? w a hc) (fun e => hn (by injection e)))).trans hc
  ⟨k _ _ h.1 h0, k _ _ h.2.1 h1, k _ _ h.2.2.1 h2, k _ _ h.2.2.2.1 h3, k _ _ h.2.2.2.2 h4⟩
end

/-- The four cells of a result are set. -/
def put4 (w : World) (g : Nat) (a b c d : Value) : World := (((w.setCell ⟨g, 0, none⟩ a).setCell ⟨g, 1, none⟩ b).setCell ⟨g, 2, none⟩ c).setCell ⟨g, 3, none⟩ d
theorem put4_blk {w : World} {g : Nat} {z0 z1 z2 z3 : Value} (h : Blk w g 24 #[z0, z1, z2, z3]) (a b c d : Value) : Blk (put4 w g a b c d) g 24 #[a, b, c, d] := by
  unfold put4
  have := (((h.set_ 0 a).set_ 1 b).set_ 2 c).set_ 3 d
  simpa using this
theorem put4_moved {E : Env} {s : St} {w wk : World} {g : Nat} (h : Moved E s w wk) (hg : w.heap.size ≤ g) (hR : E.R < g) (a b c d : Value) : Moved E s w (put4 wk g a b c d) :=
  (((h.own (p := ⟨g, 0, none⟩) hg hR a).own (p := ⟨g, 1, none⟩) hg hR b).own (p := ⟨g, 2, none⟩) hg hR c).own (p := ⟨g, 3, none⟩) hg hR d
theorem put4_keeps {X : Nat → Prop} {wk : World} {g : Nat} (hX : ∀ b, X b → b ≠ g) (a b c d : Value) : KeepsX X wk (put4 wk g a b c d) :=
  ((((KeepsX.refl X wk).setCell (p := ⟨g, 0, none⟩) (fun h => hX g h rfl) a).setCell (p := ⟨g, 1, none⟩) (fun h => hX g h rfl) b).setCell (p := ⟨g, 2, none⟩) (fun h => hX g h rfl) c).setCell (p := ⟨g, 3, none⟩) (fun h => hX g h rfl) d

/-- The result's cell is set to the node, and that is told. -/
theorem end_node {E : Env} {w wk : World} {res : Res Nd} {n : Nd} {s : St} {X : Nat → Prop} {a0 a1 a2 a3 z0 z1 z2 z3 : Value} {g q : Nat} {fn : Func} {a : Act} (hr : res = .ok n s)
    (hv : NodeV X wk (.agg #[a0, a1, a2, a3]) n) (hm : Moved E s w wk) (hb : Blk wk g 24 #[z0, z1, z2, z3]) (hg : w.heap.size ≤ g) (hR : E.R < g) (hX : ∀ b, X b → w.heap.size ≤ b ∧ b ≠ g)
    (hfn : fn.results = #[.cell q 24]) (ht : a.tmps.getD q undef = .pointer (some ⟨g, 0, none⟩)) (hd : a.defers = []) :
    bodyPost Tryz.prog fn (PostN E w res) .ret a (put4 wk g a0 a1 a2 a3) := by
  refine bodyPost_ret (results_node hfn _ ht (put4_blk hb a0 a1 a2 a3)) hd ?_
  rw [hr]
  exact ⟨⟨_, rfl, (hv.kept (put4_keeps (fun b hb => (hX b hb).2) _ _ _ _)).mono fun b hb _ => (hX b hb).1⟩, put4_moved hm hg hR _ _ _ _⟩
/-- A part fails: so does the whole. -/
theorem end_fail {E : Env} {w w1 w2 : World} {res : Res Nd} {p : Int} (hr : res = .fail p) (h1 : w.grownBy w1 (some E.R)) (h2 : w1.grownBy w2 (some E.R)) : PostN E w res (wrongV p) w2 := by
  rw [hr]
  exact ⟨rfl, h1.trans h2⟩
end Go.Proofs.YtnalfjaojcahhaaGreatDoor
namespace Go.Proofs.YtnalfjaojcahhaaGreatDoor
open Go.RowKit Go.Lib Go.Proofs
attribute [local go_sem ↓] Go.wp_at_zero Go.wp_at_succ
attribute [local go_sem] fld_tok0 fld_tok1 fld_tok2 fld_nd0 fld_nd1 fld_nd2 fld_nd3

set_option maxRecDepth 100000 in
set_option maxHeartbeats 4000000 in
theorem ft_part (E : Env) (F : Fns) (hF : OkF E F) (B : Nat) (w0 : World) (hB : Blk w0 B 59 #[.pointer (some ⟨E.R, 0, none⟩)]) (hne : B ≠ E.R) :
    PartC E 217 #[.pointer (some ⟨B, 0, none⟩)] (ftPart F) w0 := by
  intro w s hw h hno
  generalize hres : ftPart F E.c s = res at *
  have HRES := Lib.hid hres
  have HNE := Lib.hid hno
  have hB1 := hB.grown hw (fun e => hne (by injection e))
  have b0 := hB1.cell 0
  have hltB := hB1.lt
  have hltR := h.lt
  simp at b0
  clear hres hno hB hw
  go_enter Tryz.func217, Tryz.ntmps217
  go_wp2_with fail
  refine (next_any E s _ (h.alloc _)).mono ?_
  unfold tokV
  rintro e w1 ⟨rfl, hb1⟩
  have hq1 := ((Seen.refl h).alloc _).step hb1
  have hG1 := (Blk.new w 24 ndZ).below hb1 (by simp)
  have b1 := ((hB1.alloc _).below hb1 (by simp; omega)).cell 0
  simp at b1
  clear hb1
  go_wp2_with fail
  cases hP : F.typ E.c s with
  | out => exact absurd HRES.out.symm (by rw [ftPart, hP]; exact HNE.out)
  | fail p =>
    refine (hF.typ w1 s hq1.rd (by rw [hP]; exact nofun)).mono ?_
    rw [hP]
    rintro e w2 ⟨rfl, hg2⟩
    unfold wrongV
    exact ⟨rfl, end_fail (by rw [← HRES.out, ftPart, hP]; rfl) hq1.moved.gr hg2⟩
  | ok n s1 =>
    have HF := Lib.hid (show res = .ok (.mk 8 (⟨#[]⟩ : ByteArray) [n] (posS E.c s)) s1 by rw [← HRES.out, ftPart, hP]; rfl)
    refine (hF.typ w1 s hq1.rd (by rw [hP]; exact nofun)).mono ?_
    rw [hP]
    rintro e w2 ⟨⟨v, rfl, hv⟩, hm2⟩
    obtain ⟨A, cp, rfl, hC⟩ := hv.toC
    have hG2 := hG1.grown hm2.gr (fun e => by injection e with e; omega)
    have hltG := hG1.lt
    have hltG2 := hG2.lt
    clear hP HRES
    go_wp2_with fail
    refine (node_any _ _ _ _ _ ⟨_, _, _, rfl⟩).mono ?_
    rintro e w3 ⟨rfl, hb3⟩
    have hV := NodeV.make 1 rfl (NodesC.one hC) 8 (⟨#[]⟩ : ByteArray) (posS E.c s) hb3
    have hG3 := (hG2.alloc _).below hb3 (by simp; omega)
    have hm3 := ((hq1.moved.trans hm2).alloc _).step hb3
    obtain ⟨d0, d1, d2, d3, e0, e1, e2, e3⟩ := blk4 hG3
    clear hb3
    go_wp2_with fail
    refine end_node HF.out hV hm3 hG3 (Nat.le_refl _) hltR ?_ rfl (by rfl) rfl
    rintro b (⟨hb, _⟩ | rfl) <;> constructor <;> omega

set_option maxRecDepth 100000 in
set_option maxHeartbeats 4000000 in
theorem sig_part (E : Env) (F : Fns) (hF : OkF E F)  (B : Nat) (w0 : World) (hB : Blk w0 B 59 #[.pointer (some ⟨E.R, 0, none⟩)]) (hne : B ≠ E.R) :
    PartC E 149 #[.pointer (some ⟨B, 0, none⟩)] (sigPart F) w0 := by
  intro w s hw h hno
  generalize hres : sigPart F E.c s = res at *
  have HRES := Lib.hid hres
  have HNE := Lib.hid hno
  have hB1 := hB.grown hw (fun e => hne (by injection e))
  have b0 := hB1.cell 0
  have hltB := hB1.lt
  have hltR := h.lt
  simp at b0
  clear hres hno hB hw
  go_enter Tryz.func149, Tryz.ntmps149
  go_wp2_with fail
  refine (next_any E s _ (h.alloc _)).mono ?_
  unfold tokV
  rintro e w1 ⟨rfl, hb1⟩
  have hq1 := ((Seen.refl h).alloc _).step hb1
  have hG1 := (Blk.new w 24 ndZ).below hb1 (by simp)
  have hB2 := (hB1.alloc _).below hb1 (by simp; omega)
  have b1 := hB2.cell 0
  simp at b1
  clear hb1
  go_wp2_with fail
  by_cases hK : (tokAt E.c s.at_).kind = 1
  · have HK := Lib.hid hK
    refine (name_yes E s w1 hq1.rd hK).mono ?_
    rintro e w2 ⟨rfl, hm2⟩
    have hG2 := hG1.grown hm2.gr (fun e => by injection e with e; omega)
    have b2 := (hB2.grown hm2.gr (fun e => hne (by injection e))).cell 0
    simp at b2
    have hltG1 := hG1.lt
    clear hK
    go_wp2_with fail
    cases hP : F.typ E.c (adv s) with
    | out => exact absurd HRES.out.symm (by rw [sigPart, nameR, if_pos HK.out, Res.bind_ok, hP]; exact HNE.out)
    | fail p =>
      refine (hF.typ w2 (adv s) hm2.rd (by rw [hP]; exact nofun)).mono ?_
      rw [hP]
      rintro e w3 ⟨rfl, hg3⟩
      unfold wrongV
      exact ⟨rfl, end_fail (by rw [← HRES.out, sigPart, nameR, if_pos HK.out, Res.bind_ok, hP]; rfl) (hq1.moved.trans hm2).gr hg3⟩
    | ok n s1 =>
      have HF := Lib.hid (show res = .ok (.mk 8 (tokAt E.c s.at_).text [n] (posS E.c s)) s1 by rw [← HRES.out, sigPart, nameR, if_pos HK.out, Res.bind_ok, hP]; rfl)
      refine (hF.typ w2 (adv s) hm2.rd (by rw [hP]; exact nofun)).mono ?_
      rw [hP]
      rintro e w3 ⟨⟨v, rfl, hv⟩, hm3⟩
      obtain ⟨A, cp, rfl, hC⟩ := hv.toC
      have hG3 := hG2.grown hm3.gr (fun e => by injection e with e; omega)
      have hltG := hG1.lt
      have hltG2 := hG2.lt
      have hltG3 := hG3.lt
      have hs2 := hm2.gr.size
      clear hP HRES HK
      go_wp2_with fail
      refine (node_any _ _ _ _ _ ⟨_, _, _, rfl⟩).mono ?_
      rintro e w4 ⟨rfl, hb4⟩
      have hV := NodeV.make 1 rfl (NodesC.one hC) 8 (tokAt E.c s.at_).text (posS E.c s) hb4
      have hG4 := (hG3.alloc _).below hb4 (by simp; omega)
      have hm4 := ((hq1.moved.trans (hm2.trans hm3)).alloc _).step hb4
      obtain ⟨d0, d1, d2, d3, e0, e1, e2, e3⟩ := blk4 hG4
      clear hb4
      go_wp2_with fail
      refine end_node HF.out hV hm4 hG4 (Nat.le_refl _) hltR ?_ rfl (by rfl) rfl
      rintro b (⟨hb, _⟩ | rfl) <;> constructor <;> omega
  · refine (name_no E s w1 hq1.rd hK).mono ?_
    rintro e w2 ⟨rfl, hb2⟩
    unfold wrongV
    exact ⟨rfl, end_fail (by rw [← HRES.out, sigPart, nameR, if_neg hK]; rfl) hq1.moved.gr (grownBy_of_below _ hb2)⟩

set_option maxRecDepth 100000 in
set_option maxHeartbeats 4000000 in
theorem param_part (E : Env) (F : Fns) (hK0 : ReadC E (constraintR F) 148) (B : Nat) (w0 : World) (hB : Blk w0 B 59 #[.pointer (some ⟨E.R, 0, none⟩)]) (hne : B ≠ E.R) :
    PartC E 147 #[.pointer (some ⟨B, 0, none⟩)] (paramPart F) w0 := by
  intro w s hw h hno
  generalize hres : paramPart F E.c s = res at *
  have HRES := Lib.hid hres
  have HNE := Lib.hid hno
  have hB1 := hB.grown hw (fun e => hne (by injection e))
  have b0 := hB1.cell 0
  have hltB := hB1.lt
  have hltR := h.lt
  simp at b0
  clear hres hno hB hw
  go_enter Tryz.func147, Tryz.ntmps147
  go_wp2_with fail
  refine (next_any E s _ (h.alloc _)).mono ?_
  unfold tokV
  rintro e w1 ⟨rfl, hb1⟩
  have hq1 := ((Seen.refl h).alloc _).step hb1
  have hG1 := (Blk.new w 24 ndZ).below hb1 (by simp)
  have hB2 := (hB1.alloc _).below hb1 (by simp; omega)
  have b1 := hB2.cell 0
  simp at b1
  clear hb1
  go_wp2_with fail
  by_cases hK : (tokAt E.c s.at_).kind = 1
  · have HK := Lib.hid hK
    refine (name_yes E s w1 hq1.rd hK).mono ?_
    rintro e w2 ⟨rfl, hm2⟩
    have hG2 := hG1.grown hm2.gr (fun e => by injection e with e; omega)
    have b2 := (hB2.grown hm2.gr (fun e => hne (by injection e))).cell 0
    simp at b2
    have hltG1 := hG1.lt
    clear hK
    go_wp2_with fail
    cases hP : constraintR F E.c (adv s) with
    | out => exact absurd HRES.out.symm (by rw [paramPart, nameR, if_pos HK.out, Res.bind_ok, hP]; exact HNE.out)
    | fail p =>
      refine (hK0 w2 (adv s) hm2.rd (by rw [hP]; exact nofun)).mono ?_
      rw [hP]
      rintro e w3 ⟨rfl, hg3⟩
      unfold wrongV
      exact ⟨rfl, end_fail (by rw [← HRES.out, paramPart, nameR, if_pos HK.out, Res.bind_ok, hP]; rfl) (hq1.moved.trans hm2).gr hg3⟩
    | ok n s1 =>
      have HF := Lib.hid (show res = .ok (.mk 7 (tokAt E.c s.at_).text [n] (posS E.c s)) s1 by rw [← HRES.out, paramPart, nameR, if_pos HK.out, Res.bind_ok, hP]; rfl)
      refine (hK0 w2 (adv s) hm2.rd (by rw [hP]; exact nofun)).mono ?_
      rw [hP]
      rintro e w3 ⟨⟨v, rfl, hv⟩, hm3⟩
      obtain ⟨A, cp, rfl, hC⟩ := hv.toC
      have hG3 := hG2.grown hm3.gr (fun e => by injection e with e; omega)
      have hltG := hG1.lt
      have hltG2 := hG2.lt
      have hltG3 := hG3.lt
      have hs2 := hm2.gr.size
      clear hP HRES HK
      go_wp2_with fail
      refine (node_any _ _ _ _ _ ⟨_, _, _, rfl⟩).mono ?_
      rintro e w4 ⟨rfl, hb4⟩
      have hV := NodeV.make 1 rfl (NodesC.one hC) 7 (tokAt E.c s.at_).text (posS E.c s) hb4
      have hG4 := (hG3.alloc _).below hb4 (by simp; omega)
      have hm4 := ((hq1.moved.trans (hm2.trans hm3)).alloc _).step hb4
      obtain ⟨d0, d1, d2, d3, e0, e1, e2, e3⟩ := blk4 hG4
      clear hb4
      go_wp2_with fail
      refine end_node HF.out hV hm4 hG4 (Nat.le_refl _) hltR ?_ rfl (by rfl) rfl
      rintro b (⟨hb, _⟩ | rfl) <;> constructor <;> omega
  · refine (name_no E s w1 hq1.rd hK).mono ?_
    rintro e w2 ⟨rfl, hb2⟩
    unfold wrongV
    exact ⟨rfl, end_fail (by rw [← HRES.out, paramPart, nameR, if_neg hK]; rfl) hq1.moved.gr (grownBy_of_below _ hb2)⟩

set_option maxRecDepth 100000 in
set_option maxHeartbeats 4000000 in
theorem result_any (E : Env) (F : Fns) (hF : OkF E F) : ReadC E (resultR F) 151 := by
  intro w s h hno
  generalize hres : resultR F E.c s = res at *
  have HRES := Lib.hid hres
  have HNE := Lib.hid hno
  have hltR := h.lt
  clear hres hno
  go_enter Tryz.func151, Tryz.ntmps151
  go_wp2_with fail
  refine (types_any E s _ (h.alloc _)).mono ?_
  rintro e w1 ⟨rfl, hq0⟩
  have hq1 := ((Seen.refl h).alloc _).step hq0.bel
  have hG1 := (Blk.new w 24 ndZ).below hq0.bel (by simp)
  have hltG := hG1.lt
  clear hq0
  cases hT : typesB E.c s with
  | false =>
    have HF := Lib.hid (show res = .ok nd0 s by rw [← HRES.out, resultR, hT]; rfl)
    obtain ⟨d0, d1, d2, d3, e0, e1, e2, e3⟩ := blk4 hG1
    go_wp2_with fail
    refine end_node (X := fun _ => False) HF.out NodeV.zero hq1.moved hG1 (Nat.le_refl _) hltR ?_ rfl (by rfl) rfl
    exact fun _ h => h.elim
  | true =>
    go_wp2_with fail
    cases hP : F.typ E.c s with
    | out => exact absurd HRES.out.symm (by rw [resultR, hT, if_pos rfl, hP]; exact HNE.out)
    | fail p =>
      refine (hF.typ w1 s hq1.rd (by rw [hP]; exact nofun)).mono ?_
      rw [hP]
      rintro e w2 ⟨rfl, hg2⟩
      unfold wrongV
      exact ⟨rfl, end_fail (by rw [← HRES.out, resultR, hT, if_pos rfl, hP]) hq1.moved.gr hg2⟩
    | ok n s1 =>
      have HF := Lib.hid (show res = .ok n s1 by rw [← HRES.out, resultR, hT, if_pos rfl, hP])
      refine (hF.typ w1 s hq1.rd (by rw [hP]; exact nofun)).mono ?_
      rw [hP]
      rintro e w2 ⟨⟨v, rfl, hv⟩, hm2⟩
      obtain ⟨A, cp, rfl, hC⟩ := hv.toC
      have hG2 := hG1.grown hm2.gr (fun e => by injection e with e; omega)
      obtain ⟨d0, d1, d2, d3, e0, e1, e2, e3⟩ := blk4 hG2
      clear hP HRES
      go_wp2_with fail
      refine end_node HF.out hv (hq1.moved.trans hm2) hG2 (Nat.le_refl _) hltR ?_ rfl (by rfl) rfl
      intro b hb
      constructor <;> omega
end Go.Proofs.YtnalfjaojcahhaaGreatDoor
