/-
  The reader's slice, named. By an AI agent.
  How a function that reads a node ends; a node out of kids that were just read. By an AI agent.
  Types: result, funcType, signature, typ. By an AI agent.
-/
import Derived.Test.YtnalfjaojcahhaaGreatDoorJ03
import Derived.Defers
import Derived.Recover
import Derived.IntWalk
namespace Go.Proofs.YtnalfjaojcahhaaGreatDoor
open Go.RowKit Go.Lib Go.Proofs
attribute [local go_sem ↓] Go.wp_at_zero Go.wp_at_succ

/-- The reader's cells that 'slice' reads. -/
def SlC (E : Env) (s : St) (b off : Nat) (k : Int) (x : ByteArray) (w : World) : Prop :=
  w.cell? ⟨E.R, 0, none⟩ = some (.slice (some ⟨b, off, none⟩) E.c.toks.length E.cap) ∧ w.cell? ⟨E.R, 1, none⟩ = some (.int .i64 s.at_) ∧
  w.cell? ⟨b, off + (s.at_ + 1) * 3, none⟩ = some (.int .i64 k) ∧ w.cell? ⟨b, off + (s.at_ + 1) * 3 + 1, none⟩ = some (.string x)
theorem slC_of {E : Env} {s : St} {w : World} (h : RdAt E w s) (hlt : s.at_ + 1 < E.c.toks.length) : ∃ b off, ∀ w', RdAt E w' s → SlC E s b off (tokAt E.c (s.at_ + 1)).kind (tokAt E.c (s.at_ + 1)).text w' := by
  obtain ⟨b, off, eA, hb, t0, t1, t2⟩ := h.tok _ hlt
  refine ⟨b, off, fun w' h' => ?_⟩
  obtain ⟨c0, c1, _, _, _, _⟩ := h'.cells
  obtain ⟨b', off', eA', hb', t0', t1', t2'⟩ := h'.tok _ hlt
  rw [eA] at eA' c0
  injection eA' with e
  injection e with e1 e2
  subst e1 e2
  exact ⟨c0, c1, t0', t1'⟩

set_option maxRecDepth 100000 in
set_option maxHeartbeats 4000000 in
theorem slice_any (E : Env) (s : St) (w : World) (h : RdAt E w s) : Calls Tryz.prog 145 #[.pointer (some ⟨E.R, 0, none⟩)] w fun e w' => e = .returned (.bool (sliceB E.c s)) ∧ Seen E s w w' := by
  have HI := Lib.hid (fun w' (h : RdAt E w' s) => is_any E s (⟨#[91]⟩ : ByteArray) w' h)
  have hmost := h.most
  have hq := Seen.refl h
  by_cases hA : isS E.c s (⟨#[91]⟩ : ByteArray) = true
  · have hlt0 := isS_lt h hA
    by_cases hlt : s.at_ + 1 < E.c.toks.length
    · obtain ⟨b, off, hS⟩ := slC_of h hlt
      have HS := Lib.hid hS
      have hs : sliceB E.c s = ((tokAt E.c (s.at_ + 1)).kind == 6 && ((tokAt E.c (s.at_ + 1)).text.toList == (⟨#[93]⟩ : ByteArray).toList)) := by
        unfold sliceB
        rw [hA, List.getElem?_eq_getElem hlt, toList_beq]
        unfold tokAt
        rw [List.getElem?_eq_getElem hlt]
        rfl
      rw [hs]
      have g1 : decide ((s.at_ : Int) + 1 < (E.c.toks.length : Int)) = true := by simp; omega
      have g2 : (0 : Int) ≤ (s.at_ : Int) + 1 := by omega
      have g3 : (s.at_ : Int) + 1 < (E.c.toks.length : Int) := by omega
      have g4 : IntKind.i64.wrap ((s.at_ : Int) + 1) = (s.at_ : Int) + 1 := IntWalk.i64_in _ (by omega)
      have g5 : ((s.at_ : Int) + 1).toNat = s.at_ + 1 := by omega
      rw [hA] at HI
      clear hs hS hA
      generalize tokAt E.c (s.at_ + 1) = t at *
      obtain ⟨tk, tt, tp⟩ := t
      simp only at *
      have k0 : ∀ n : Wd (Seen E s w), n.wd.cell? ⟨E.R, 0, none⟩ = some (.slice (some ⟨b, off, none⟩) E.c.toks.length E.cap) := fun n => (HS.out _ n.ok.rd).1
      have k1 : ∀ n : Wd (Seen E s w), n.wd.cell? ⟨E.R, 1, none⟩ = some (.int .i64 s.at_) := fun n => (HS.out _ n.ok.rd).2.1
      have k2 : ∀ n : Wd (Seen E s w), n.wd.cell? ⟨b, off + (s.at_ + 1) * 3, none⟩ = some (.int .i64 tk) := fun n => (HS.out _ n.ok.rd).2.2.1
      have k3 : ∀ n : Wd (Seen E s w), n.wd.cell? ⟨b, off + (s.at_ + 1) * 3 + 1, none⟩ = some (.string tt) := fun n => (HS.out _ n.ok.rd).2.2.2
      have z1 : (⟨#[93]⟩ : ByteArray).toList = [93] := by decide +kernel
      rw [z1]
      cases h1 : (tk == 6) <;> cases h2 : (tt.toList == [93])
      all_goals
        go_enter Tryz.func145, Tryz.ntmps145
        go_wp2_with fail
        haveI : Nonempty (Wd (Seen E s w)) := ⟨⟨w, hq⟩⟩
        refine wp_region_class (Seen E s w) (by kernel_rfl) (by kernel_rfl) hq.drew ?_
        repeat (go_big_quiet_step ((go_at_call 67; rename_i n; refine (HI.out _ n.ok.rd).mono ?_; rintro e w' ⟨rfl, hb⟩; exact ⟨rfl, ⟨w', n.ok.step hb⟩, rfl⟩)))
        refine wpQuiet_nil ?_
        intro n
        go_wp2_with fail
        go_ret
        exact ⟨rfl, n.ok⟩
    · have hs : sliceB E.c s = false := by
        unfold sliceB
        rw [hA, List.getElem?_eq_none (by omega)]
        rfl
      rw [hs]
      have g1 : decide ((s.at_ : Int) + 1 < (E.c.toks.length : Int)) = false := by simp; omega
      have g4 : IntKind.i64.wrap ((s.at_ : Int) + 1) = (s.at_ : Int) + 1 := IntWalk.i64_in _ (by omega)
      have k0 : ∀ n : Wd (Seen E s w), n.wd.cell? ⟨E.R, 0, none⟩ = some (.slice E.A E.c.toks.length E.cap) := fun n => n.ok.rd.cells.1
      have k1 : ∀ n : Wd (Seen E s w), n.wd.cell? ⟨E.R, 1, none⟩ = some (.int .i64 s.at_) := fun n => n.ok.rd.cells.2.1
      rw [hA] at HI
      clear hs hA
      · go_enter Tryz.func145, Tryz.ntmps145
        go_wp2_with fail
        haveI : Nonempty (Wd (Seen E s w)) := ⟨⟨w, hq⟩⟩
        refine wp_region_class (Seen E s w) (by kernel_rfl) (by kernel_rfl) hq.drew ?_
        repeat (go_big_quiet_step ((go_at_call 67; rename_i n; refine (HI.out _ n.ok.rd).mono ?_; rintro e w' ⟨rfl, hb⟩; exact ⟨rfl, ⟨w', n.ok.step hb⟩, rfl⟩)))
        refine wpQuiet_nil ?_
        intro n
        go_wp2_with fail
        go_ret
        exact ⟨rfl, n.ok⟩
  · have hs : sliceB E.c s = false := by
      unfold sliceB
      simp [hA]
    rw [hs]
    rw [show isS E.c s (⟨#[91]⟩ : ByteArray) = false by simpa using hA] at HI
    clear hs hA
    · go_enter Tryz.func145, Tryz.ntmps145
      · go_wp2_with fail
        haveI : Nonempty (Wd (Seen E s w)) := ⟨⟨w, hq⟩⟩
        refine wp_region_class (Seen E s w) (by kernel_rfl) (by kernel_rfl) hq.drew ?_
        repeat (go_big_quiet_step ((go_at_call 67; rename_i n; refine (HI.out _ n.ok.rd).mono ?_; rintro e w' ⟨rfl, hb⟩; exact ⟨rfl, ⟨w', n.ok.step hb⟩, rfl⟩)))
        refine wpQuiet_nil ?_
        intro n
        go_wp2_with fail
        go_ret
        exact ⟨rfl, n.ok⟩
end Go.Proofs.YtnalfjaojcahhaaGreatDoor
namespace Go.Proofs.YtnalfjaojcahhaaGreatDoor
open Go.RowKit Go.Lib Go.Proofs

/-- A method of the reader that reads a node. -/
def ReadC (E : Env) (m : R Nd) (f : FuncId) : Prop :=
  ∀ (w : World) (s : St), RdAt E w s → m E.c s ≠ .out → Calls Tryz.prog f #[.pointer (some ⟨E.R, 0, none⟩)] w (PostN E w (m E.c s))
/-- What is met again is as it is said. -/
structure OkF (E : Env) (F : Fns) : Prop where
  typ : ReadC E F.typ 150
  expr : ReadC E F.expr 157
  unary : ReadC E F.unary 223
  stmt : ReadC E F.stmt 154
  ifS : ReadC E F.ifS 196
  g : F.g ≤ 1000000
theorem ReadC.part {E : Env} {m : R Nd} {f : FuncId} (h : ReadC E m f) (w0 : World) : PartC E f #[.pointer (some ⟨E.R, 0, none⟩)] m w0 := fun w s _ hr hm => h w s hr hm

theorem NodeV.make {X : Nat → Prop} {wj w2 : World} {l : List Nd} {xs : List Value} (k : Nat) (hk : l.length = k) (hn : NodesC X wj l xs) (kind : Int) (t : ByteArray) (pos : Int)
    (hb : Below (wj.alloc (.cells xs.toArray 24)).heap.size (wj.alloc (.cells xs.toArray 24)) w2) :
    NodeV (fun b => (X b ∧ b < wj.heap.size) ∨ b = wj.heap.size) w2 (.agg #[.int .i64 kind, .string t, .slice (some ⟨wj.heap.size, 0, none⟩) k k, .int .i64 pos]) (.mk kind t l pos) := by
  subst hk
  have hblk : Blk w2 wj.heap.size 24 xs.toArray := (Blk.new wj 24 xs.toArray).below hb (by simp)
  refine ⟨some ⟨wj.heap.size, 0, none⟩, l.length, xs, rfl, Nat.le_refl _, ⟨hn.len, fun _ => ⟨wj.heap.size, 0, rfl, .inr rfl, fun j u hu => ?_⟩⟩, ?_⟩
  · have := hblk.cell (0 + j)
    rw [this, Nat.zero_add]
    simpa using hu
  · refine ((hn.mono (Y := fun b => X b ∧ b < wj.heap.size) fun b hb hlt => ⟨hb, hlt⟩).keep (w' := w2) fun b hx hlt => ?_).mono fun b hb _ => .inl hb
    exact (hb.block b (by simp; omega)).trans (Below.heap_alloc wj _ b hlt)
/-- A node without kids. -/
theorem NodeV.leaf {X : Nat → Prop} {w : World} (kind : Int) (t : ByteArray) (pos : Int) : NodeV X w (.agg #[.int .i64 kind, .string t, .slice none 0 0, .int .i64 pos]) (.mk kind t [] pos) :=
  ⟨none, 0, [], rfl, Nat.le_refl _, ⟨rfl, fun h => absurd h (by simp)⟩, NodesC.nil⟩
/-- A node of kids that were read as a slice. -/
theorem NodeV.of_slice {X : Nat → Prop} {w : World} {v : Value} {l : List Nd} (h : NodesV X w v l) (kind : Int) (t : ByteArray) (pos : Int) : NodeV X w (.agg #[.int .i64 kind, .string t, v, .int .i64 pos]) (.mk kind t l pos) := by
  obtain ⟨A, cap, xs, rfl, h1, h2, h3⟩ := h
  exact ⟨A, cap, xs, rfl, h1, h2, h3⟩

theorem cell_kept {w w' : World} (hb : Below w.heap.size w w') {a : Addr} {v : Value} (hc : w.cell? a = some v) : w'.cell? a = some v := (hb.cell (World.block_lt_of_cell? w a hc)).trans hc
/-- Five cells. -/
abbrev Five (a0 a1 a2 a3 a4 : Addr) (v0 v1 v2 v3 v4 : Value) (w : World) : Prop := w.cell? a0 = some v0 ∧ w.cell? a1 = some v1 ∧ w.cell? a2 = some v2 ∧ w.cell? a3 = some v3 ∧ w.cell? a4 = some v4
section
variable {a0 a1 a2 a3 a4 : Addr} {v0 v1 v2 v3 v4 : Value} {w w' : World}
theorem Five.below (h : Five a0 a1 a2 a3 a4 v0 v1 v2 v3 v4 w) (hb : Below w.heap.size w w') : Five a0 a1 a2 a3 a4 v0 v1 v2 v3 v4 w' :=
  ⟨cell_kept hb h.1, cell_kept hb h.2.1, cell_kept hb h.2.2.1, cell_kept hb h.2.2.2.1, cell_kept hb h.2.2.2.2⟩
theorem Five.drew (h : Five a0 a1 a2 a3 a4 v0 v1 v2 v3 v4 w) : Five a0 a1 a2 a3 a4 v0 v1 v2 v3 v4 w.drew := h.below (Below.refl _ _).drew
theorem Five.alloc (h : Five a0 a1 a2 a3 a4 v0 v1 v2 v3 v4 w) (o : Obj) : Five a0 a1 a2 a3 a4 v0 v1 v2 v3 v4 (w.alloc o) := h.below ((Below.refl _ _).alloc (Nat.le_refl _) o)
theorem Five.far (h : Five a0 a1 a2 a3 a4 v0 v1 v2 v3 v4 w) {p : Addr} (u : Value) (h0 : a0.block ≠ p.block) (h1 : a1.block ≠ p.block) (h2 : a2.block ≠ p.block) (h3 : a3.block ≠ p.block) (h4 : a4.block ≠ p.block) : Five a0 a1 a2 a3 a4 v0 v1 v2 v3 v4 (w.setCell p u) :=
  have k : ∀ (a : Addr) (v : Value), w.cell? a = some v → a.block ≠ p.block → (w.setCell p u).cell? a = some v := fun a _ hc hn => (World.cell?_of_block (Below.heap_setCell w p u a.block hn)).trans hc
  ⟨k _ _ h.1 h0, k _ _ h.2.1 h1, k _ _ h.2.2.1 h2, k _ _ h.2.2.2.1 h3, k _ _ h.2.2.2.2 h4⟩
theorem Five.put (h : Five a0 a1 a2 a3 a4 v0 v1 v2 v3 v4 w) (g : Nat) (h0 : a0.block ≠ g) (h1 : a1.block ≠ g) (h2 : a2.block ≠ g) (h3 : a3.block ≠ g) (h4 : a4.block ≠ g) (a b c d : Value) :
    Five a0 a1 a2 a3 a4 v0 v1 v2 v3 v4 ((((w.setCell ⟨g, 0, none⟩ a).setCell ⟨g, 1, none⟩ b).setCell ⟨g, 2, none⟩ c).setCell ⟨g, 3, none⟩ d) :=
  (((h.far (p := ⟨g, 0, none⟩) a h0 h1 h2 h3 h4).far (p := ⟨g, 1, none⟩) b h0 h1 h2 h3 h4).far (p := ⟨g, 2, none⟩) c h0 h1 h2 h3 h4).far (p := ⟨g, 3, none⟩) d h0 h1 h2 h3 h4
theorem Five.grown {R : Nat} (h : Five a0 a1 a2 a3 a4 v0 v1 v2 v3 v4 w) (hg : w.grownBy w' (some R)) (h0 : a0.block ≠ R) (h1 : a1.block ≠ R) (h2 : a2.block ≠ R) (h3 : a3.block ≠ R) (h4 : a4.block ≠ R) : Five a0 a1 a2 a3 a4 v0 v1 v2 v3 v4 w' :=
  have k : ∀ (a : Addr) (v : Value), w.cell? a = some v → a.block ≠ R → w'.cell? a = some v := fun a _ hc hn =>
    (World.cell?_of_block (hg.block a.block (World.block_lt_of_cell? w a hc) (fun e => hn (by injection e)))).trans hc
  ⟨k _ _ h.1 h0, k _ _ h.2.1 h1, k _ _ h.2.2.1 h2, k _ _ h.2.2.2.1 h3, k _ _ h.2.2.2.2 h4⟩
end

/-- The four cells of a result are set. -/
def put4 (w : World) (g : Nat) (a b c d : Value) : World := (((w.setCell ⟨g, 0, none⟩ a).setCell ⟨g, 1, none⟩ b).setCell ⟨g, 2, none⟩ c).setCell ⟨g, 3, none⟩ d
theorem put4_blk {w : World} {g : Nat} {z0 z1 z2 z3 : Value} (h : Blk w g 24 #[z0, z1, z2, z3]) (a b c d : Value) : Blk (put4 w g a b c d) g 24 #[a, b, c, d] := by
  unfold put4
  have := (((h.set_ 0 a).set_ 1 b).set_ 2 c).set_ 3 d
  simpa using this
theorem put4_moved {E : Env} {s : St} {w wk : World} {g : Nat} (h : Moved E s w wk) (hg : w.heap.size ≤ g) (hR : E.R < g) (a b c d : Value) : Moved E s w (put4 wk g a b c d) :=
  (((h.own (p := ⟨g, 0, none⟩) hg hR a).own (p := ⟨g, 1, none⟩) hg hR b).own (p := ⟨g, 2, none⟩) hg hR c).own (p := ⟨g, 3, none⟩) hg hR d
theorem put4_keeps {X : Nat → Prop} {wk : World} {g : Nat} (hX : ∀ b, X b → b ≠ g) (a b c d : Value) : KeepsX X wk (put4 wk g a b c d) :=
  ((((KeepsX.refl X wk).setCell (p := ⟨g, 0, none⟩) (fun h => hX g h rfl) a).setCell (p := ⟨g, 1, none⟩) (fun h => hX g h rfl) b).setCell (p := ⟨g, 2, none⟩) (fun h => hX g h rfl) c).setCell (p := ⟨g, 3, none⟩) (fun h => hX g h rfl) d

/-- The result's cell is set to the node, and that is told. -/
theorem end_node {E : Env} {w wk : World} {res : Res Nd} {n : Nd} {s : St} {X : Nat → Prop} {a0 a1 a2 a3 z0 z1 z2 z3 : Value} {g q : Nat} {fn : Func} {a : Act} (hr : res = .ok n s)
    (hv : NodeV X wk (.agg #[a0, a1, a2, a3]) n) (hm : Moved E s w wk) (hb : Blk wk g 24 #[z0, z1, z2, z3]) (hg : w.heap.size ≤ g) (hR : E.R < g) (hX : ∀ b, X b → w.heap.size ≤ b ∧ b ≠ g)
    (hfn : fn.results = #[.cell q 24]) (ht : a.tmps.getD q undef = .pointer (some ⟨g, 0, none⟩)) (hd : a.defers = []) :
    bodyPost Tryz.prog fn (PostN E w res) .ret a (put4 wk g a0 a1 a2 a3) := by
  refine bodyPost_ret (results_node hfn _ ht (put4_blk hb a0 a1 a2 a3)) hd ?_
  rw [hr]
  exact ⟨⟨_, rfl, (hv.kept (put4_keeps (fun b hb => (hX b hb).2) _ _ _ _)).mono fun b hb _ => (hX b hb).1⟩, put4_moved hm hg hR _ _ _ _⟩
/-- A part fails: so does the whole. -/
theorem end_fail {E : Env} {w w1 w2 : World} {res : Res Nd} {p : Int} (hr : res = .fail p) (h1 : w.grownBy w1 (some E.R)) (h2 : w1.grownBy w2 (some E.R)) : PostN E w res (wrongV p) w2 := by
  rw [hr]
  exact ⟨rfl, h1.trans h2⟩
end Go.Proofs.YtnalfjaojcahhaaGreatDoor
namespace Go.Proofs.YtnalfjaojcahhaaGreatDoor
open Go.RowKit Go.Lib Go.Proofs
attribute [local go_sem ↓] Go.wp_at_zero Go.wp_at_succ
attribute [local go_sem] fld_tok0 fld_tok1 fld_tok2 fld_nd0 fld_nd1 fld_nd2 fld_nd3

set_option maxRecDepth 100000 in
set_option maxHeartbeats 4000000 in
theorem ft_part (E : Env) (F : Fns) (hF : OkF E F) (B : Nat) (w0 : World) (hB : Blk w0 B 59 #[.pointer (some ⟨E.R, 0, none⟩)]) (hne : B ≠ E.R) :
    PartC E 217 #[.pointer (some ⟨B, 0, none⟩)] (ftPart F) w0 := by
  intro w s hw h hno
  generalize hres : ftPart F E.c s = res at *
  have HRES := Lib.hid hres
  have HNE := Lib.hid hno
  have hB1 := hB.grown hw (fun e => hne (by injection e))
  have b0 := hB1.cell 0
  have hltB := hB1.lt
  have hltR := h.lt
  simp at b0
  clear hres hno hB hw
  go_enter Tryz.func217, Tryz.ntmps217
  go_wp2_with fail
  refine (next_any E s _ (h.alloc _)).mono ?_
  unfold tokV
  rintro e w1 ⟨rfl, hb1⟩
  have hq1 := ((Seen.refl h).alloc _).step hb1
  have hG1 := (Blk.new w 24 ndZ).below hb1 (by simp)
  have b1 := ((hB1.alloc _).below hb1 (by simp; omega)).cell 0
  simp at b1
  clear hb1
  go_wp2_with fail
  cases hP : F.typ E.c s with
  | out => exact absurd HRES.out.symm (by rw [ftPart, hP]; exact HNE.out)
  | fail p =>
    refine (hF.typ w1 s hq1.rd (by rw [hP]; exact nofun)).mono ?_
    rw [hP]
    rintro e w2 ⟨rfl, hg2⟩
    unfold wrongV
    exact ⟨rfl, end_fail (by rw [← HRES.out, ftPart, hP]; rfl) hq1.moved.gr hg2⟩
  | ok n s1 =>
    have HF := Lib.hid (show res = .ok (.mk 8 (⟨#[]⟩ : ByteArray) [n] (posS E.c s)) s1 by rw [← HRES.out, ftPart, hP]; rfl)
    refine (hF.typ w1 s hq1.rd (by rw [hP]; exact nofun)).mono ?_
    rw [hP]
    rintro e w2 ⟨⟨v, rfl, hv⟩, hm2⟩
    obtain ⟨A, cp, rfl, hC⟩ := hv.toC
    have hG2 := hG1.grown hm2.gr (fun e => by injection e with e; omega)
    have hltG := hG1.lt
    have hltG2 := hG2.lt
    clear hP HRES
    go_wp2_with fail
    refine (node_any _ _ _ _ _ ⟨_, _, _, rfl⟩).mono ?_
    rintro e w3 ⟨rfl, hb3⟩
    have hV := NodeV.make 1 rfl (NodesC.one hC) 8 (⟨#[]⟩ : ByteArray) (posS E.c s) hb3
    have hG3 := (hG2.alloc _).below hb3 (by simp; omega)
    have hm3 := ((hq1.moved.trans hm2).alloc _).step hb3
    obtain ⟨d0, d1, d2, d3, e0, e1, e2, e3⟩ := blk4 hG3
    clear hb3
    go_wp2_with fail
    refine end_node HF.out hV hm3 hG3 (Nat.le_refl _) hltR ?_ rfl (by rfl) rfl
    rintro b (⟨hb, _⟩ | rfl) <;> constructor <;> omega

set_option maxRecDepth 100000 in
set_option maxHeartbeats 4000000 in
theorem sig_part (E : Env) (F : Fns) (hF : OkF E F)  (B : Nat) (w0 : World) (hB : Blk w0 B 59 #[.pointer (some ⟨E.R, 0, none⟩)]) (hne : B ≠ E.R) :
    PartC E 149 #[.pointer (some ⟨B, 0, none⟩)] (sigPart F) w0 := by
  intro w s hw h hno
  generalize hres : sigPart F E.c s = res at *
  have HRES := Lib.hid hres
  have HNE := Lib.hid hno
  have hB1 := hB.grown hw (fun e => hne (by injection e))
  have b0 := hB1.cell 0
  have hltB := hB1.lt
  have hltR := h.lt
  simp at b0
  clear hres hno hB hw
  go_enter Tryz.func149, Tryz.ntmps149
  go_wp2_with fail
  refine (next_any E s _ (h.alloc _)).mono ?_
  unfold tokV
  rintro e w1 ⟨rfl, hb1⟩
  have hq1 := ((Seen.refl h).alloc _).step hb1
  have hG1 := (Blk.new w 24 ndZ).below hb1 (by simp)
  have hB2 := (hB1.alloc _).below hb1 (by simp; omega)
  have b1 := hB2.cell 0
  simp at b1
  clear hb1
  go_wp2_with fail
  by_cases hK : (tokAt E.c s.at_).kind = 1
  · have HK := Lib.hid hK
    refine (name_yes E s w1 hq1.rd hK).mono ?_
    rintro e w2 ⟨rfl, hm2⟩
    have hG2 := hG1.grown hm2.gr (fun e => by injection e with e; omega)
    have b2 := (hB2.grown hm2.gr (fun e => hne (by injection e))).cell 0
    simp at b2
    have hltG1 := hG1.lt
    clear hK
    go_wp2_with fail
    cases hP : F.typ E.c (adv s) with
    | out => exact absurd HRES.out.symm (by rw [sigPart, nameR, if_pos HK.out, Res.bind_ok, hP]; exact HNE.out)
    | fail p =>
      refine (hF.typ w2 (adv s) hm2.rd (by rw [hP]; exact nofun)).mono ?_
      rw [hP]
      rintro e w3 ⟨rfl, hg3⟩
      unfold wrongV
      exact ⟨rfl, end_fail (by rw [← HRES.out, sigPart, nameR, if_pos HK.out, Res.bind_ok, hP]; rfl) (hq1.moved.trans hm2).gr hg3⟩
    | ok n s1 =>
      have HF := Lib.hid (show res = .ok (.mk 8 (tokAt E.c s.at_).text [n] (posS E.c s)) s1 by rw [← HRES.out, sigPart, nameR, if_pos HK.out, Res.bind_ok, hP]; rfl)
      refine (hF.typ w2 (adv s) hm2.rd (by rw [hP]; exact nofun)).mono ?_
      rw [hP]
      rintro e w3 ⟨⟨v, rfl, hv⟩, hm3⟩
      obtain ⟨A, cp, rfl, hC⟩ := hv.toC
      have hG3 := hG2.grown hm3.gr (fun e => by injection e with e; omega)
      have hltG := hG1.lt
      have hltG2 := hG2.lt
      have hltG3 := hG3.lt
      have hs2 := hm2.gr.size
      clear hP HRES HK
      go_wp2_with fail
      refine (node_any _ _ _ _ _ ⟨_, _, _, rfl⟩).mono ?_
      rintro e w4 ⟨rfl, hb4⟩
      have hV := NodeV.make 1 rfl (NodesC.one hC) 8 (tokAt E.c s.at_).text (posS E.c s) hb4
      have hG4 := (hG3.alloc _).below hb4 (by simp; omega)
      have hm4 := ((hq1.moved.trans (hm2.trans hm3)).alloc _).step hb4
      obtain ⟨d0, d1, d2, d3, e0, e1, e2, e3⟩ := blk4 hG4
      clear hb4
      go_wp2_with fail
      refine end_node HF.out hV hm4 hG4 (Nat.le_refl _) hltR ?_ rfl (by rfl) rfl
      rintro b (⟨hb, _⟩ | rfl) <;> constructor <;> omega
  · refine (name_no E s w1 hq1.rd hK).mono ?_
    rintro e w2 ⟨rfl, hb2⟩
    unfold wrongV
    exact ⟨rfl, end_fail (by rw [← HRES.out, sigPart, nameR, if_neg hK]; rfl) hq1.moved.gr (grownBy_of_below _ hb2)⟩

set_option maxRecDepth 100000 in
set_option maxHeartbeats 4000000 in
theorem param_part (E : Env) (F : Fns) (hK0 : ReadC E (constraintR F) 148) (B : Nat) (w0 : World) (hB : Blk w0 B 59 #[.pointer (some ⟨E.R, 0, none⟩)]) (hne : B ≠ E.R) :
    PartC E 147 #[.pointer (some ⟨B, 0, none⟩)] (paramPart F) w0 := by
  intro w s hw h hno
  generalize hres : paramPart F E.c s = res at *
  have HRES := Lib.hid hres
  have HNE := Lib.hid hno
  have hB1 := hB.grown hw (fun e => hne (by injection e))
  have b0 := hB1.cell 0
  have hltB := hB1.lt
  have hltR := h.lt
  simp at b0
  clear hres hno hB hw
  go_enter Tryz.func147, Tryz.ntmps147
  go_wp2_with fail
  refine (next_any E s _ (h.alloc _)).mono ?_
  unfold tokV
  rintro e w1 ⟨rfl, hb1⟩
  have hq1 := ((Seen.refl h).alloc _).step hb1
  have hG1 := (Blk.new w 24 ndZ).below hb1 (by simp)
  have hB2 := (hB1.alloc _).below hb1 (by simp; omega)
  have b1 := hB2.cell 0
  simp at b1
  clear hb1
  go_wp2_with fail
  by_cases hK : (tokAt E.c s.at_).kind = 1
  · have HK := Lib.hid hK
    refine (name_yes E s w1 hq1.rd hK).mono ?_
    rintro e w2 ⟨rfl, hm2⟩
    have hG2 := hG1.grown hm2.gr (fun e => by injection e with e; omega)
    have b2 := (hB2.grown hm2.gr (fun e => hne (by injection e))).cell 0
    simp at b2
    have hltG1 := hG1.lt
    clear hK
    go_wp2_with fail
    cases hP : constraintR F E.c (adv s) with
    | out => exact absurd HRES.out.symm (by rw [paramPart, nameR, if_pos HK.out, Res.bind_ok, hP]; exact HNE.out)
    | fail p =>
      refine (hK0 w2 (adv s) hm2.rd (by rw [hP]; exact nofun)).mono ?_
      rw [hP]
      rintro e w3 ⟨rfl, hg3⟩
      unfold wrongV
      exact ⟨rfl, end_fail (by rw [← HRES.out, paramPart, nameR, if_pos HK.out, Res.bind_ok, hP]; rfl) (hq1.moved.trans hm2).gr hg3⟩
    | ok n s1 =>
      have HF := Lib.hid (show res = .ok (.mk 7 (tokAt E.c s.at_).text [n] (posS E.c s)) s1 by rw [← HRES.out, paramPart, nameR, if_pos HK.out, Res.bind_ok, hP]; rfl)
      refine (hK0 w2 (adv s) hm2.rd (by rw [hP]; exact nofun)).mono ?_
      rw [hP]
      rintro e w3 ⟨⟨v, rfl, hv⟩, hm3⟩
      obtain ⟨A, cp, rfl, hC⟩ := hv.toC
      have hG3 := hG2.grown hm3.gr (fun e => by injection e with e; omega)
      have hltG := hG1.lt
      have hltG2 := hG2.lt
      have hltG3 := hG3.lt
      have hs2 := hm2.gr.size
      clear hP HRES HK
      go_wp2_with fail
      refine (node_any _ _ _ _ _ ⟨_, _, _, rfl⟩).mono ?_
      rintro e w4 ⟨rfl, hb4⟩
      have hV := NodeV.make 1 rfl (NodesC.one hC) 7 (tokAt E.c s.at_).text (posS E.c s) hb4
      have hG4 := (hG3.alloc _).below hb4 (by simp; omega)
      have hm4 := ((hq1.moved.trans (hm2.trans hm3)).alloc _).step hb4
      obtain ⟨d0, d1, d2, d3, e0, e1, e2, e3⟩ := blk4 hG4
      clear hb4
      go_wp2_with fail
      refine end_node HF.out hV hm4 hG4 (Nat.le_refl _) hltR ?_ rfl (by rfl) rfl
      rintro b (⟨hb, _⟩ | rfl) <;> constructor <;> omega
  · refine (name_no E s w1 hq1.rd hK).mono ?_
    rintro e w2 ⟨rfl, hb2⟩
    unfold wrongV
    exact ⟨rfl, end_fail (by rw [← HRES.out, paramPart, nameR, if_neg hK]; rfl) hq1.moved.gr (grownBy_of_below _ hb2)⟩

set_option maxRecDepth 100000 in
set_option maxHeartbeats 4000000 in
theorem result_any (E : Env) (F : Fns) (hF : OkF E F) : ReadC E (resultR F) 151 := by
  intro w s h hno
  generalize hres : resultR F E.c s = res at *
  have HRES := Lib.hid hres
  have HNE := Lib.hid hno
  have hltR := h.lt
  clear hres hno
  go_enter Tryz.func151, Tryz.ntmps151
  go_wp2_with fail
  refine (types_any E s _ (h.alloc _)).mono ?_
  rintro e w1 ⟨rfl, hq0⟩
  have hq1 := ((Seen.refl h).alloc _).step hq0.bel
  have hG1 := (Blk.new w 24 ndZ).below hq0.bel (by simp)
  have hltG := hG1.lt
  clear hq0
  cases hT : typesB E.c s with
  | false =>
    have HF := Lib.hid (show res = .ok nd0 s by rw [← HRES.out, resultR, hT]; rfl)
    obtain ⟨d0, d1, d2, d3, e0, e1, e2, e3⟩ := blk4 hG1
    go_wp2_with fail
    refine end_node (X := fun _ => False) HF.out NodeV.zero hq1.moved hG1 (Nat.le_refl _) hltR ?_ rfl (by rfl) rfl
    exact fun _ h => h.elim
  | true =>
    go_wp2_with fail
    cases hP : F.typ E.c s with
    | out => exact absurd HRES.out.symm (by rw [resultR, hT, if_pos rfl, hP]; exact HNE.out)
    | fail p =>
      refine (hF.typ w1 s hq1.rd (by rw [hP]; exact nofun)).mono ?_
      rw [hP]
      rintro e w2 ⟨rfl, hg2⟩
      unfold wrongV
      exact ⟨rfl, end_fail (by rw [← HRES.out, resultR, hT, if_pos rfl, hP]) hq1.moved.gr hg2⟩
    | ok n s1 =>
      have HF := Lib.hid (show res = .ok n s1 by rw [← HRES.out, resultR, hT, if_pos rfl, hP])
      refine (hF.typ w1 s hq1.rd (by rw [hP]; exact nofun)).mono ?_
      rw [hP]
      rintro e w2 ⟨⟨v, rfl, hv⟩, hm2⟩
      obtain ⟨A, cp, rfl, hC⟩ := hv.toC
      have hG2 := hG1.grown hm2.gr (fun e => by injection e with e; omega)
      obtain ⟨d0, d1, d2, d3, e0, e1, e2, e3⟩ := blk4 hG2
      clear hP HRES
      go_wp2_with fail
      refine end_node HF.out hv (hq1.moved.trans hm2) hG2 (Nat.le_refl _) hltR ?_ rfl (by rfl) rfl
      intro b hb
      constructor <;> omega
end Go.Proofs.YtnalfjaojcahhaaGreatDoor
