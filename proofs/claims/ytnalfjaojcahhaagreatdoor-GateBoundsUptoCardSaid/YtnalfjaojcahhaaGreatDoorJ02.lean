/-
  The reader in memory; its small functions: next, fail, is, takes, need, semi, takeSemi, name. By an AI agent.
  The reader's small functions: fail, is, takes, need, semi, takeSemi, name, slice, node. By an AI agent.
-/
import Derived.Test.YtnalfjaojcahhaaGreatDoorJ01
import Derived.Test.YtnalfjaojcahhaaGreatDoorJ00
import Derived.Test.YtnalfjaojcahhaaGreatDoorProg
import Derived.WalkKit
import Derived.Lib.Hide
import Derived.WalkLawsBesides
import Derived.WalkSpells
import Derived.RegionTactic
import Derived.Deep.QuietTactic
import Derived.BigQuiet
import Derived.Deep.DeepCutAuto
import Derived.Deep.CutBlock
import Derived.Deep.RegionHeld3
import Derived.Deep.RegionWith
import Derived.StillTailTactics
import Derived.Outline
import Derived.Deep.DrawnRows
import Derived.Deep.Draws
namespace Go.Proofs.YtnalfjaojcahhaaGreatDoor
open Go.RowKit Go.Lib Go.Proofs
attribute [local go_sem ↓] Go.wp_at_zero Go.wp_at_succ

/-- The three cells of a token. -/
def encT (t : Tok) : List Value := [.int .i64 t.kind, .string t.text, .int .i64 t.pos]
theorem encT_len (t : Tok) : (encT t).length = 3 := rfl

/-- Where the reader lies, and where its tokens. -/
structure Env where
  R : Nat
  A : Option Addr
  cap : Nat
  c : Cx
def Env.ptr (E : Env) : Value := .pointer (some ⟨E.R, 0, none⟩)
def rdCells (E : Env) (s : St) : Array Value := #[.slice E.A E.c.toks.length E.cap, .int .i64 s.at_, .int .i64 E.c.fin, .bool s.head, .int .i64 s.part]
/-- The reader is in a state. -/
structure RdAt (E : Env) (w : World) (s : St) : Prop where
  blk : Blk w E.R 81 (rdCells E s)
  toks : ReadsX (· < E.R) w 3 E.A E.c.toks.length (E.c.toks.flatMap encT)
  le : s.at_ ≤ E.c.toks.length
  most : E.c.toks.length ≤ 1000000
  fits : E.c.toks.length ≤ E.cap
section
variable {E : Env} {w w' : World} {s s' : St}
theorem RdAt.lt (h : RdAt E w s) : E.R < w.heap.size := h.blk.lt
theorem RdAt.keep (h : RdAt E w s) (hk : ∀ b, b ≤ E.R → w'.heap[b]? = w.heap[b]?) : RdAt E w' s :=
  ⟨(hk _ (Nat.le_refl _)).trans h.blk, h.toks.keep (fun b hb _ => hk b (Nat.le_of_lt hb)), h.le, h.most, h.fits⟩
theorem RdAt.below (h : RdAt E w s) (hb : Below w.heap.size w w') : RdAt E w' s := h.keep fun b hbR => hb.block b (Nat.lt_of_le_of_lt hbR h.lt)
theorem RdAt.drew (h : RdAt E w s) : RdAt E w.drew s := h.below (Below.refl _ _).drew
theorem RdAt.drewN (h : RdAt E w s) (n : Nat) : RdAt E (w.drewN n) s := h.below (below_drewN (Below.refl _ _) n)
theorem RdAt.alloc (h : RdAt E w s) (o : Obj) : RdAt E (w.alloc o) s := h.below ((Below.refl _ _).alloc (Nat.le_refl _) o)
theorem RdAt.far (h : RdAt E w s) {p : Addr} (hp : E.R < p.block) (u : Value) : RdAt E (w.setCell p u) s :=
  h.keep fun b hb => Below.heap_setCell w p u b (by omega)
theorem RdAt.grown (h : RdAt E w s) {row : Option Nat} (hg : w.grownBy w' row) (hr : ∀ g, row = some g → E.R < g) : RdAt E w' s :=
  h.keep fun b hb => hg.block b (Nat.lt_of_le_of_lt hb h.lt) (fun e => by have := hr b e.symm; omega)
theorem RdAt.toks_keep (h : RdAt E w s) (hg : w.grownBy w' (some E.R)) : ReadsX (· < E.R) w' 3 E.A E.c.toks.length (E.c.toks.flatMap encT) :=
  h.toks.keep fun b hb hlt => hg.block b hlt (fun e => by injection e with e; omega)
/-- The reader's place is set. -/
theorem RdAt.setAt (h : RdAt E w s) (n : Nat) (hn : n ≤ E.c.toks.length) : RdAt E (w.setCell ⟨E.R, 1, none⟩ (.int .i64 (n : Int))) { s with at_ := n } :=
  ⟨by simpa [rdCells] using h.blk.set_ 1 (.int .i64 (n : Int)), h.toks_keep (grownBy_set _ _ _ _), hn, h.most, h.fits⟩
theorem RdAt.setHead (h : RdAt E w s) (b : Bool) : RdAt E (w.setCell ⟨E.R, 3, none⟩ (.bool b)) { s with head := b } :=
  ⟨by simpa [rdCells] using h.blk.set_ 3 (.bool b), h.toks_keep (grownBy_set _ _ _ _), h.le, h.most, h.fits⟩
theorem RdAt.setPart (h : RdAt E w s) (n : Int) : RdAt E (w.setCell ⟨E.R, 4, none⟩ (.int .i64 n)) { s with part := n } :=
  ⟨by simpa [rdCells] using h.blk.set_ 4 (.int .i64 n), h.toks_keep (grownBy_set _ _ _ _), h.le, h.most, h.fits⟩
/-- The reader's cells. -/
theorem RdAt.cells (h : RdAt E w s) : w.cell? ⟨E.R, 0, none⟩ = some (.slice E.A E.c.toks.length E.cap) ∧ w.cell? ⟨E.R, 1, none⟩ = some (.int .i64 s.at_) ∧ w.cell? ⟨E.R, 2, none⟩ = some (.int .i64 E.c.fin) ∧
    w.cell? ⟨E.R, 3, none⟩ = some (.bool s.head) ∧ w.cell? ⟨E.R, 4, none⟩ = some (.int .i64 s.part) ∧ (∀ i, w.frozen? ⟨E.R, i, none⟩ = false) := by
  have c0 := h.blk.cell 0
  have c1 := h.blk.cell 1
  have c2 := h.blk.cell 2
  have c3 := h.blk.cell 3
  have c4 := h.blk.cell 4
  simp [rdCells] at c0 c1 c2 c3 c4
  exact ⟨c0, c1, c2, c3, c4, h.blk.frozen⟩
/-- A token's cells. -/
theorem RdAt.tok (h : RdAt E w s) (i : Nat) (hi : i < E.c.toks.length) : ∃ b off, E.A = some ⟨b, off, none⟩ ∧ b < E.R ∧ w.cell? ⟨b, off + i * 3, none⟩ = some (.int .i64 (tokAt E.c i).kind) ∧
    w.cell? ⟨b, off + i * 3 + 1, none⟩ = some (.string (tokAt E.c i).text) ∧ w.cell? ⟨b, off + i * 3 + 2, none⟩ = some (.int .i64 (tokAt E.c i).pos) := by
  obtain ⟨b, off, e, hb, hc⟩ := h.toks.2 (by omega)
  have ht : tokAt E.c i = E.c.toks[i] := by unfold tokAt; rw [List.getElem?_eq_getElem hi]
  rw [ht]
  refine ⟨b, off, e, hb, hc (i * 3) _ ?_, hc (i * 3 + 1) _ ?_, hc (i * 3 + 2) _ ?_⟩
  · have := flat_get encT_len E.c.toks i 0 hi (by omega)
    rw [Nat.add_zero] at this; rw [this]; rfl
  · rw [flat_get encT_len E.c.toks i 1 hi (by omega)]; rfl
  · rw [flat_get encT_len E.c.toks i 2 hi (by omega)]; rfl
theorem tokAt_end (c : Cx) (i : Nat) (h : c.toks.length ≤ i) : tokAt c i = ⟨0, ⟨#[]⟩, c.fin⟩ := by
  unfold tokAt; rw [List.getElem?_eq_none h]
end

def tokV (t : Tok) : Value := .agg #[.int .i64 t.kind, .string t.text, .int .i64 t.pos]

theorem below_drewN {B : Nat} {a w : World} (h : Below B a w) (n : Nat) : Below B a (w.drewN n) := h.trans ⟨rfl, rfl, rfl, Nat.le_refl _, fun _ _ => rfl⟩

set_option maxHeartbeats 1000000 in
theorem next_any (E : Env) (s : St) (w : World) (h : RdAt E w s) : Calls Tryz.prog 62 #[.pointer (some ⟨E.R, 0, none⟩)] w fun e w' => e = .returned (tokV (tokAt E.c s.at_)) ∧ Below w.heap.size w w' := by
  obtain ⟨c0, c1, c2, _, _, _⟩ := h.cells
  have hlt := h.lt
  have hne := Nat.ne_of_lt hlt
  have hmost := h.most
  by_cases hat : s.at_ = E.c.toks.length
  · have ht := tokAt_end E.c s.at_ (by omega)
    rw [ht]
    rw [hat] at c1
    clear ht hat h
    go_enter Tryz.func62, Tryz.ntmps62
    go_wp2_with fail
    go_quiet (fail)
    go_wp2_with fail
    refine bodyPost_ret (v := tokV ⟨0, ⟨#[]⟩, E.c.fin⟩) (by simp [results, tokV, Tryz.results62, go_sem]) rfl ⟨rfl, ?_⟩
    (repeat' (first | with_reducible exact Below.refl _ _ | with_reducible refine Below.alloc ?_ ?_ _ | with_reducible refine Below.setCell ?_ ?_ _ | with_reducible refine Below.drew ?_ | with_reducible refine below_drewN ?_ _ | (simp <;> omega) | omega))
  · have hlt2 : s.at_ < E.c.toks.length := by have := h.le; omega
    obtain ⟨b, off, eA, hb, t0, t1, t2⟩ := h.tok s.at_ hlt2
    rw [eA] at c0
    have g1 : ((s.at_ : Int) == (E.c.toks.length : Int)) = false := by simp; omega
    have g2 : (0 : Int) ≤ (s.at_ : Int) := by omega
    have g3 : (s.at_ : Int) < (E.c.toks.length : Int) := by omega
    have hlt3 : b < w.heap.size := by omega
    have hne2 : b ≠ w.heap.size := by omega
    clear hat h eA
    go_enter Tryz.func62, Tryz.ntmps62
    go_wp2_with fail
    go_quiet (fail)
    go_wp2_with fail
    go_region
    go_wp2_with fail
    refine bodyPost_ret (v := tokV (tokAt E.c s.at_)) (by simp [results, tokV, Tryz.results62, go_sem]) rfl ⟨rfl, ?_⟩
    (repeat' (first | with_reducible exact Below.refl _ _ | with_reducible refine Below.alloc ?_ ?_ _ | with_reducible refine Below.setCell ?_ ?_ _ | with_reducible refine Below.drew ?_ | with_reducible refine below_drewN ?_ _ | (simp <;> omega) | omega))
end Go.Proofs.YtnalfjaojcahhaaGreatDoor
namespace Go.Proofs.YtnalfjaojcahhaaGreatDoor
open Go.RowKit Go.Lib Go.Proofs
attribute [local go_sem ↓] Go.wp_at_zero Go.wp_at_succ

theorem toList_inj {a b : ByteArray} : a.toList = b.toList ↔ a = b := by
  constructor
  · intro h
    rw [ByteArray.toList_eq, ByteArray.toList_eq] at h
    cases a; cases b
    congr
    exact Array.ext' h
  · rintro rfl; rfl
theorem toList_beq (a b : ByteArray) : (a.toList == b.toList) = decide (a = b) := by
  rw [Bool.eq_iff_iff]
  simp only [beq_iff_eq, decide_eq_true_eq]
  exact toList_inj
theorem isEmpty_dec (f : ByteArray) : f.toList.isEmpty = decide (f = ⟨#[]⟩) := by
  have h := toList_beq f ⟨#[]⟩
  rw [← h]
  have e : (⟨#[]⟩ : ByteArray).toList = [] := by rw [ByteArray.toList_eq]
  rw [e]
  cases f.toList <;> rfl

section
variable (a b c d : Value) (w : World)
theorem fld_tok0 : (Instr.field 86 (.agg #[a, b, c]) 0).run Tryz.prog w = .ok a w := by kernel_rfl
theorem fld_tok1 : (Instr.field 86 (.agg #[a, b, c]) 1).run Tryz.prog w = .ok b w := by kernel_rfl
theorem fld_tok2 : (Instr.field 86 (.agg #[a, b, c]) 2).run Tryz.prog w = .ok c w := by kernel_rfl
theorem fld_nd0 : (Instr.field 24 (.agg #[a, b, c, d]) 0).run Tryz.prog w = .ok a w := by kernel_rfl
theorem fld_nd1 : (Instr.field 24 (.agg #[a, b, c, d]) 1).run Tryz.prog w = .ok b w := by kernel_rfl
theorem fld_nd2 : (Instr.field 24 (.agg #[a, b, c, d]) 2).run Tryz.prog w = .ok c w := by kernel_rfl
theorem fld_nd3 : (Instr.field 24 (.agg #[a, b, c, d]) 3).run Tryz.prog w = .ok d w := by kernel_rfl
end
attribute [local go_sem] fld_tok0 fld_tok1 fld_tok2 fld_nd0 fld_nd1 fld_nd2 fld_nd3

/-- What 'fail' panics with. -/
def wrongV (p : Int) : Ending := .panicked [{ v := .iface 83 (.agg #[.int .i64 p, .int .i64 5]), recovered := false }]

theorem fail_any (E : Env) (s : St) (w : World) (h : RdAt E w s) : Calls Tryz.prog 61 #[.pointer (some ⟨E.R, 0, none⟩)] w fun e w' => e = wrongV (posS E.c s) ∧ Below w.heap.size w w' := by
  have HR := Lib.hid h
  clear h
  go_enter Tryz.func61, Tryz.ntmps61
  go_wp2_with fail
  refine (next_any E s w HR.out).mono ?_
  rintro e w' ⟨rfl, hb⟩
  unfold tokV
  have HB := Lib.hid hb
  clear hb
  go_wp2_with fail
  exact ⟨rfl, rfl, HB.out⟩

theorem is_any (E : Env) (s : St) (x : ByteArray) (w : World) (h : RdAt E w s) : Calls Tryz.prog 67 #[.pointer (some ⟨E.R, 0, none⟩), .string x] w fun e w' => e = .returned (.bool (isS E.c s x)) ∧ Below w.heap.size w w' := by
  have HR := Lib.hid h
  have hT : isS E.c s x = (((tokAt E.c s.at_).kind == 2 || (tokAt E.c s.at_).kind == 6) && ((tokAt E.c s.at_).text.toList == x.toList)) := by
    unfold isS isT; rw [toList_beq]
  rw [hT]
  have HN := Lib.hid (next_any E s w h)
  clear hT h HR
  generalize tokAt E.c s.at_ = t at *
  obtain ⟨tk, tt, tp⟩ := t
  unfold tokV at HN
  simp only at *
  cases h1 : (tk == 2) <;> cases h2 : (tk == 6) <;> cases h3 : (tt.toList == x.toList)
  all_goals
    go_enter Tryz.func67, Tryz.ntmps67
    go_wp2_with fail
    refine HN.out.mono ?_
    rintro e w' ⟨rfl, hb⟩
    have HB := Lib.hid hb
    clear hb
    go_wp2_with fail
    go_ret
    have hb := HB.out
    exact ⟨rfl, (((hb.alloc hb.size _)))⟩

/-- The reader has been looked at alone. -/
structure Seen (E : Env) (s : St) (w w' : World) : Prop where
  rd : RdAt E w' s
  bel : Below w.heap.size w w'
theorem Seen.refl {E : Env} {s : St} {w : World} (h : RdAt E w s) : Seen E s w w := ⟨h, Below.refl _ _⟩
theorem Seen.step {E : Env} {s : St} {w w1 w2 : World} (h : Seen E s w w1) (hb : Below w1.heap.size w1 w2) : Seen E s w w2 := ⟨h.rd.below hb, h.bel.trans (hb.mono h.bel.size)⟩
theorem Seen.alloc {E : Env} {s : St} {w w1 : World} (h : Seen E s w w1) (o : Obj) : Seen E s w (w1.alloc o) := h.step ((Below.refl _ _).alloc (Nat.le_refl _) o)
theorem Seen.drew {E : Env} {s : St} {w w1 : World} (h : Seen E s w w1) : Seen E s w w1.drew := h.step (Below.refl _ _).drew
/-- The reader has moved to a state. -/
structure Moved (E : Env) (s : St) (w w' : World) : Prop where
  rd : RdAt E w' s
  gr : w.grownBy w' (some E.R)
theorem Seen.moved {E : Env} {s : St} {w w' : World} (h : Seen E s w w') : Moved E s w w' := ⟨h.rd, grownBy_of_below _ h.bel⟩
theorem Moved.refl {E : Env} {s : St} {w : World} (h : RdAt E w s) : Moved E s w w := ⟨h, World.grownBy.refl w _⟩
theorem Moved.setAt {E : Env} {s : St} {w w' : World} (h : Moved E s w w') (n : Nat) (hn : n ≤ E.c.toks.length) : Moved E { s with at_ := n } w (w'.setCell ⟨E.R, 1, none⟩ (.int .i64 (n : Int))) :=
  ⟨h.rd.setAt n hn, h.gr.trans (grownBy_set _ _ _ _)⟩
theorem Moved.setHead {E : Env} {s : St} {w w' : World} (h : Moved E s w w') (b : Bool) : Moved E { s with head := b } w (w'.setCell ⟨E.R, 3, none⟩ (.bool b)) :=
  ⟨h.rd.setHead b, h.gr.trans (grownBy_set _ _ _ _)⟩
theorem Moved.setPart {E : Env} {s : St} {w w' : World} (h : Moved E s w w') (n : Int) : Moved E { s with part := n } w (w'.setCell ⟨E.R, 4, none⟩ (.int .i64 n)) :=
  ⟨h.rd.setPart n, h.gr.trans (grownBy_set _ _ _ _)⟩
theorem Moved.trans {E : Env} {s s' : St} {w w1 w2 : World} (h : Moved E s w w1) (h' : Moved E s' w1 w2) : Moved E s' w w2 := ⟨h'.rd, h.gr.trans h'.gr⟩
theorem Moved.step {E : Env} {s : St} {w w1 w2 : World} (h : Moved E s w w1) (hb : Below w1.heap.size w1 w2) : Moved E s w w2 := h.trans ⟨h.rd.below hb, grownBy_of_below _ hb⟩

theorem Moved.alloc {E : Env} {s : St} {w w1 : World} (h : Moved E s w w1) (o : Obj) : Moved E s w (w1.alloc o) := h.step ((Below.refl _ _).alloc (Nat.le_refl _) o)
theorem Moved.drew {E : Env} {s : St} {w w1 : World} (h : Moved E s w w1) : Moved E s w w1.drew := h.step (Below.refl _ _).drew
theorem Moved.drewN {E : Env} {s : St} {w w1 : World} (h : Moved E s w w1) (n : Nat) : Moved E s w (w1.drewN n) := h.step (below_drewN (Below.refl _ _) n)
theorem Seen.drewN {E : Env} {s : St} {w w1 : World} (h : Seen E s w w1) (n : Nat) : Seen E s w (w1.drewN n) := h.step (below_drewN (Below.refl _ _) n)
/-- A store into what is new. -/
theorem Moved.own {E : Env} {s : St} {w w1 : World} (h : Moved E s w w1) {p : Addr} (hp : w.heap.size ≤ p.block) (hR : E.R < p.block) (u : Value) : Moved E s w (w1.setCell p u) :=
  ⟨h.rd.far hR u, by obtain ⟨b, o, z⟩ := p; exact ⟨h.gr.os, h.gr.tape, h.gr.output, by simpa using h.gr.size, fun k hk hne => (Below.heap_setCell w1 ⟨b, o, z⟩ u k (by simp at hp ⊢; omega)).trans (h.gr.block k hk hne)⟩⟩

theorem isS_lt {E : Env} {s : St} {w : World} (_h : RdAt E w s) {x : ByteArray} (hx : isS E.c s x = true) : s.at_ < E.c.toks.length := by
  rcases Nat.lt_or_ge s.at_ E.c.toks.length with h | h
  · exact h
  · unfold isS at hx
    rw [tokAt_end E.c s.at_ h] at hx
    simp [isT] at hx
theorem adv_eq (s : St) : adv s = { s with at_ := s.at_ + 1 } := rfl

theorem takes_yes (E : Env) (s : St) (x : ByteArray) (w : World) (h : RdAt E w s) (hx : isS E.c s x = true) : Calls Tryz.prog 93 #[.pointer (some ⟨E.R, 0, none⟩), .string x] w fun e w' => e = .returned (.bool true) ∧ Moved E (adv s) w w' := by
  have hlt := isS_lt h hx
  have hmost := h.most
  have HX := Lib.hid hx
  have HI := Lib.hid (is_any E s x w h)
  clear hx
  go_enter Tryz.func93, Tryz.ntmps93
  go_wp2_with fail
  refine HI.out.mono ?_
  rw [HX.out]
  rintro e w' ⟨rfl, hb⟩
  have hq := (Seen.refl h).step hb
  obtain ⟨c0, c1, c2, c3, c4, f0⟩ := hq.rd.cells
  have HF := Lib.hid f0
  have f1 := f0 1
  clear hb f0
  go_wp2_with fail
  go_ret
  exact ⟨rfl, hq.moved.setAt (s.at_ + 1) (by omega)⟩
theorem takes_no (E : Env) (s : St) (x : ByteArray) (w : World) (h : RdAt E w s) (hx : isS E.c s x = false) : Calls Tryz.prog 93 #[.pointer (some ⟨E.R, 0, none⟩), .string x] w fun e w' => e = .returned (.bool false) ∧ Seen E s w w' := by
  have HX := Lib.hid hx
  have HI := Lib.hid (is_any E s x w h)
  clear hx
  go_enter Tryz.func93, Tryz.ntmps93
  go_wp2_with fail
  refine HI.out.mono ?_
  rw [HX.out]
  rintro e w' ⟨rfl, hb⟩
  have hq := (Seen.refl h).step hb
  clear hb
  go_wp2_with fail
  go_ret
  exact ⟨rfl, hq⟩

theorem need_yes (E : Env) (s : St) (x : ByteArray) (w : World) (h : RdAt E w s) (hx : isS E.c s x = true) : Calls Tryz.prog 63 #[.pointer (some ⟨E.R, 0, none⟩), .string x] w fun e w' => e = .returned (.tuple #[]) ∧ Moved E (adv s) w w' := by
  have HI := Lib.hid (takes_yes E s x w h hx)
  clear hx h
  go_enter Tryz.func63, Tryz.ntmps63
  go_wp2_with fail
  refine HI.out.mono ?_
  rintro e w' ⟨rfl, hq⟩
  go_wp2_with fail
  go_end0
  exact ⟨rfl, hq⟩
theorem need_no (E : Env) (s : St) (x : ByteArray) (w : World) (h : RdAt E w s) (hx : isS E.c s x = false) : Calls Tryz.prog 63 #[.pointer (some ⟨E.R, 0, none⟩), .string x] w fun e w' => e = wrongV (posS E.c s) ∧ Below w.heap.size w w' := by
  have HI := Lib.hid (takes_no E s x w h hx)
  clear hx h
  go_enter Tryz.func63, Tryz.ntmps63
  go_wp2_with fail
  refine HI.out.mono ?_
  rintro e w' ⟨rfl, hq⟩
  go_wp2_with fail
  refine (fail_any E s w' hq.rd).mono ?_
  rintro e w2 ⟨rfl, hb⟩
  unfold wrongV
  exact ⟨rfl, rfl, hq.bel.trans (hb.mono hq.bel.size)⟩

theorem semi_any (E : Env) (s : St) (w : World) (h : RdAt E w s) : Calls Tryz.prog 94 #[.pointer (some ⟨E.R, 0, none⟩)] w fun e w' => e = .returned (.bool (semiB E.c s)) ∧ Seen E s w w' := by
  have hq := Seen.refl h
  have hs : semiB E.c s = (isS E.c s (⟨#[59]⟩ : ByteArray) || isS E.c s (⟨#[10]⟩ : ByteArray)) := rfl
  have HI := Lib.hid (fun w' (h : RdAt E w' s) => is_any E s (⟨#[59]⟩ : ByteArray) w' h)
  have HJ := Lib.hid (fun w' (h : RdAt E w' s) => is_any E s (⟨#[10]⟩ : ByteArray) w' h)
  rw [hs]
  clear hs
  generalize isS E.c s (⟨#[59]⟩ : ByteArray) = a at *
  generalize isS E.c s (⟨#[10]⟩ : ByteArray) = b at *
  cases a <;> cases b
  all_goals
    go_enter Tryz.func94, Tryz.ntmps94
    go_wp2_with fail
    refine (HI.out _ h).mono ?_
    rintro e w' ⟨rfl, hb⟩
    replace hq := hq.step hb
    clear hb
    go_wp2_with (go_at_call 67; refine (HJ.out _ hq.rd).mono ?_; rintro e w' ⟨rfl, hb⟩; replace hq := hq.step hb; clear hb)
    go_ret
    exact ⟨rfl, hq⟩
theorem ends_any (E : Env) (s : St) (w : World) (h : RdAt E w s) : Calls Tryz.prog 250 #[.pointer (some ⟨E.R, 0, none⟩)] w fun e w' => e = .returned (.bool (endsB E.c s)) ∧ Seen E s w w' := by
  have hq := Seen.refl h
  have hs : endsB E.c s = (isS E.c s (⟨#[44]⟩ : ByteArray) || isS E.c s (⟨#[93]⟩ : ByteArray)) := rfl
  have HI := Lib.hid (fun w' (h : RdAt E w' s) => is_any E s (⟨#[44]⟩ : ByteArray) w' h)
  have HJ := Lib.hid (fun w' (h : RdAt E w' s) => is_any E s (⟨#[93]⟩ : ByteArray) w' h)
  rw [hs]
  clear hs
  generalize isS E.c s (⟨#[44]⟩ : ByteArray) = a at *
  generalize isS E.c s (⟨#[93]⟩ : ByteArray) = b at *
  cases a <;> cases b
  all_goals
    go_enter Tryz.func250, Tryz.ntmps250
    go_wp2_with fail
    refine (HI.out _ h).mono ?_
    rintro e w' ⟨rfl, hb⟩
    replace hq := hq.step hb
    clear hb
    go_wp2_with (go_at_call 67; refine (HJ.out _ hq.rd).mono ?_; rintro e w' ⟨rfl, hb⟩; replace hq := hq.step hb; clear hb)
    go_ret
    exact ⟨rfl, hq⟩
theorem takeSemi_any (E : Env) (s : St) (w : World) (h : RdAt E w s) : Calls Tryz.prog 66 #[.pointer (some ⟨E.R, 0, none⟩)] w fun e w' => e = .returned (.bool (semiB E.c s)) ∧ Moved E (semiS E.c s) w w' := by
  have HI := Lib.hid (semi_any E s w h)
  have hs : semiS E.c s = if semiB E.c s = true then adv s else s := rfl
  have hl : semiB E.c s = true → s.at_ < E.c.toks.length := fun hb => by
    unfold semiB at hb
    rcases Bool.or_eq_true_iff.1 hb with h1 | h1
    · exact isS_lt h h1
    · exact isS_lt h h1
  have hmost := h.most
  rw [hs]
  clear hs
  generalize semiB E.c s = a at *
  cases a
  · go_enter Tryz.func66, Tryz.ntmps66
    go_wp2_with fail
    refine HI.out.mono ?_
    rintro e w' ⟨rfl, hq⟩
    go_wp2_with fail
    go_ret
    exact ⟨rfl, hq.moved⟩
  · have hlt := hl rfl
    clear hl
    go_enter Tryz.func66, Tryz.ntmps66
    go_wp2_with fail
    refine HI.out.mono ?_
    rintro e w' ⟨rfl, hq⟩
    obtain ⟨c0, c1, c2, c3, c4, f0⟩ := hq.rd.cells
    have f1 := f0 1
    clear f0
    go_wp2_with fail
    go_ret
    exact ⟨rfl, hq.moved.setAt (s.at_ + 1) (by omega)⟩

theorem nameK_lt (E : Env) (s : St) (hk : (tokAt E.c s.at_).kind = 1) : s.at_ < E.c.toks.length := by
  rcases Nat.lt_or_ge s.at_ E.c.toks.length with h | h
  · exact h
  · rw [tokAt_end E.c s.at_ h] at hk
    simp at hk
theorem name_yes (E : Env) (s : St) (w : World) (h : RdAt E w s) (hk : (tokAt E.c s.at_).kind = 1) : Calls Tryz.prog 65 #[.pointer (some ⟨E.R, 0, none⟩)] w fun e w' => e = .returned (.string (tokAt E.c s.at_).text) ∧ Moved E (adv s) w w' := by
  have hlt := nameK_lt E s hk
  have hmost := h.most
  have HN := Lib.hid (next_any E s w h)
  generalize tokAt E.c s.at_ = t at *
  obtain ⟨tk, tt, tp⟩ := t
  unfold tokV at HN
  simp only at *
  subst hk
  go_enter Tryz.func65, Tryz.ntmps65
  go_wp2_with fail
  refine HN.out.mono ?_
  rintro e w' ⟨rfl, hb⟩
  have hq := (Seen.refl h).step hb
  obtain ⟨c0, c1, c2, c3, c4, f0⟩ := hq.rd.cells
  have f1 := f0 1
  have hltR := hq.rd.lt
  have hneR := Nat.ne_of_lt hltR
  clear f0
  go_wp2_with fail
  go_ret
  exact ⟨rfl, (hq.moved.setAt (s.at_ + 1) (by omega)).alloc _⟩
theorem name_no (E : Env) (s : St) (w : World) (h : RdAt E w s) (hk : ¬ (tokAt E.c s.at_).kind = 1) : Calls Tryz.prog 65 #[.pointer (some ⟨E.R, 0, none⟩)] w fun e w' => e = wrongV (posS E.c s) ∧ Below w.heap.size w w' := by
  have HN := Lib.hid (next_any E s w h)
  generalize tokAt E.c s.at_ = t at *
  obtain ⟨tk, tt, tp⟩ := t
  unfold tokV at HN
  simp only at *
  go_enter Tryz.func65, Tryz.ntmps65
  go_wp2_with fail
  refine HN.out.mono ?_
  rintro e w' ⟨rfl, hb⟩
  have hq := ((Seen.refl h).step hb).alloc (.cells #[.int .i64 tk, .string tt, .int .i64 tp] 86)
  have hk2 : (tk != 1) = true := by simpa using hk
  go_wp2_with fail
  refine (fail_any E s _ hq.rd).mono ?_
  rintro e w2 ⟨rfl, hb⟩
  unfold wrongV
  exact ⟨rfl, rfl, hq.bel.trans (hb.mono hq.bel.size)⟩

theorem types_any (E : Env) (s : St) (w : World) (h : RdAt E w s) : Calls Tryz.prog 195 #[.pointer (some ⟨E.R, 0, none⟩)] w fun e w' => e = .returned (.bool (typesB E.c s)) ∧ Seen E s w w' := by
  have hq := Seen.refl h
  have hs : typesB E.c s = ((tokAt E.c s.at_).kind == 1 || (isS E.c s (⟨#[91]⟩ : ByteArray) || (isS E.c s (⟨#[40]⟩ : ByteArray) || isS E.c s (⟨#[102, 117, 110, 99]⟩ : ByteArray)))) := rfl
  have HN := Lib.hid (next_any E s w h)
  have HI := Lib.hid (fun w' (h : RdAt E w' s) => is_any E s (⟨#[91]⟩ : ByteArray) w' h)
  have HJ := Lib.hid (fun w' (h : RdAt E w' s) => is_any E s (⟨#[40]⟩ : ByteArray) w' h)
  have HK := Lib.hid (fun w' (h : RdAt E w' s) => is_any E s (⟨#[102, 117, 110, 99]⟩ : ByteArray) w' h)
  rw [hs]
  clear hs
  generalize isS E.c s (⟨#[91]⟩ : ByteArray) = a at *
  generalize isS E.c s (⟨#[40]⟩ : ByteArray) = b at *
  generalize isS E.c s (⟨#[102, 117, 110, 99]⟩ : ByteArray) = d at *
  generalize tokAt E.c s.at_ = t at *
  obtain ⟨tk, tt, tp⟩ := t
  unfold tokV at HN
  simp only at *
  cases h1 : (tk == 1) <;> cases a <;> cases b <;> cases d
  all_goals
    go_enter Tryz.func195, Tryz.ntmps195
    go_wp2_with fail
    refine HN.out.mono ?_
    rintro e w' ⟨rfl, hb⟩
    replace hq := hq.step hb
    clear hb
    go_wp2_with (first
      | (go_at_call 67; with_reducible refine (HI.out _ hq.rd).mono ?_; rintro e w' ⟨rfl, hb⟩; replace hq := hq.step hb; clear hb)
      | (go_at_call 67; with_reducible refine (HJ.out _ hq.rd).mono ?_; rintro e w' ⟨rfl, hb⟩; replace hq := hq.step hb; clear hb)
      | (go_at_call 67; with_reducible refine (HK.out _ hq.rd).mono ?_; rintro e w' ⟨rfl, hb⟩; replace hq := hq.step hb; clear hb))
    go_ret
    exact ⟨rfl, hq⟩

set_option maxHeartbeats 1000000 in
/-- A node is made. -/
theorem node_any (a k : Int) (t : ByteArray) (v : Value) (w : World) (hv : ∃ A n c, v = .slice A n c) : Calls Tryz.prog 64 #[.int .i64 a, .int .i64 k, .string t, v] w fun e w' => e = .returned (.agg #[.int .i64 k, .string t, v, .int .i64 a]) ∧ Below w.heap.size w w' := by
  obtain ⟨A, n, c, rfl⟩ := hv
  go_enter Tryz.func64, Tryz.ntmps64
  go_wp2_with fail
  refine bodyPost_ret (v := .agg #[.int .i64 k, .string t, .slice A n c, .int .i64 a]) (by simp [results, Tryz.results64, go_sem]) rfl ⟨rfl, ?_⟩
  (repeat' (first | with_reducible exact Below.refl _ _ | with_reducible refine Below.alloc ?_ ?_ _ | with_reducible refine Below.setCell ?_ ?_ _ | with_reducible refine Below.drew ?_ | with_reducible refine below_drewN ?_ _ | (simp <;> omega) | omega))
end Go.Proofs.YtnalfjaojcahhaaGreatDoor
