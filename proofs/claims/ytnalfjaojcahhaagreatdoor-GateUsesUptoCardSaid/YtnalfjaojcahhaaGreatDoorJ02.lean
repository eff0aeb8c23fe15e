/-
  The reader's small functions: fail, is, takes, need, semi, takeSemi, name, slice, node. By an AI agent.
  The reader's rows: what a part is, row, free, inHead. By an AI agent.
-/
import Derived.Test.YtnalfjaojcahhaaGreatDoorJ01
namespace Go.Proofs.YtnalfjaojcahhaaGreatDoor
open Go.RowKit Go.Lib Go.Proofs
attribute [local go_sem ↓] Go.wp_at_zero Go.wp_at_succ

theorem toList_inj {a b : ByteArray} : a.toList = b.toList ↔ a = b := by
  constructor
  · intro h
    rw [ByteArray.toList_eq, ByteArray.toList_eq] at h
    cases a; cases b
    congr
    exact Array.ext' h
  · rintro rfl; rfl
theorem toList_beq (a b : ByteArray) : (a.toList == b.toList) = decide (a = b) := by
  rw [Bool.eq_iff_iff]
  simp only [beq_iff_eq, decide_eq_true_eq]
  exact toList_inj
theorem isEmpty_dec (f : ByteArray) : f.toList.isEmpty = decide (f = ⟨#[]⟩) := by
  have h := toList_beq f ⟨#[]⟩
  rw [← h]
  have e : (⟨#[]⟩ : ByteArray).toList = [] := by rw [ByteArray.toList_eq]
  rw [e]
  cases f.toList <;> rfl

section
variable (a b c d : Value) (w : World)
theorem fld_tok0 : (Instr.field 86 (.agg #[a, b, c]) 0).run Tryz.prog w = .ok a w := by kernel_rfl
theorem fld_tok1 : (Instr.field 86 (.agg #[a, b, c]) 1).run Tryz.prog w = .ok b w := by kernel_rfl
theorem fld_tok2 : (Instr.field 86 (.agg #[a, b, c]) 2).run Tryz.prog w = .ok c w := by kernel_rfl
theorem fld_nd0 : (Instr.field 24 (.agg #[a, b, c, d]) 0).run Tryz.prog w = .ok a w := by kernel_rfl
theorem fld_nd1 : (Instr.field 24 (.agg #[a, b, c, d]) 1).run Tryz.prog w = .ok b w := by kernel_rfl
theorem fld_nd2 : (Instr.field 24 (.agg #[a, b, c, d]) 2).run Tryz.prog w = .ok c w := by kernel_rfl
theorem fld_nd3 : (Instr.field 24 (.agg #[a, b, c, d]) 3).run Tryz.prog w = .ok d w := by kernel_rfl
end
attribute [local go_sem] fld_tok0 fld_tok1 fld_tok2 fld_nd0 fld_nd1 fld_nd2 fld_nd3

/-- What 'fail' panics with. -/
def wrongV (p : Int) : Ending := .panicked [{ v := .iface 83 (.agg #[.int .i64 p, .int .i64 5]), recovered := false }]

theorem fail_any (E : Env) (s : St) (w : World) (h : RdAt E w s) : Calls Tryz.prog 61 #[.pointer (some ⟨E.R, 0, none⟩)] w fun e w' => e = wrongV (posS E.c s) ∧ Below w.heap.size w w' := by
  have HR := Lib.hid h
  clear h
  go_enter Tryz.func61, Tryz.ntmps61
  go_wp2_with fail
  refine (next_any E s w HR.out).mono ?_
  rintro e w' ⟨rfl, hb⟩
  unfold tokV
  have HB := Lib.hid hb
  clear hb
  go_wp2_with fail
  exact ⟨rfl, rfl, HB.out⟩

theorem is_any (E : Env) (s : St) (x : ByteArray) (w : World) (h : RdAt E w s) : Calls Tryz.prog 67 #[.pointer (some ⟨E.R, 0, none⟩), .string x] w fun e w' => e = .returned (.bool (isS E.c s x)) ∧ Below w.heap.size w w' := by
  have HR := Lib.hid h
  have hT : isS E.c s x = (((tokAt E.c s.at_).kind == 2 || (tokAt E.c s.at_).kind == 6) && ((tokAt E.c s.at_).text.toList == x.toList)) := by
    unfold isS isT; rw [toList_beq]
  rw [hT]
  have HN := Lib.hid (next_any E s w h)
  clear hT h HR
  generalize tokAt E.c s.at_ = t at *
  obtain ⟨tk, tt, tp⟩ := t
  unfold tokV at HN
  simp only at *
  cases h1 : (tk == 2) <;> cases h2 : (tk == 6) <;> cases h3 : (tt.toList == x.toList)
  all_goals
    go_enter Tryz.func67, Tryz.ntmps67
    go_wp2_with fail
    refine HN.out.mono ?_
    rintro e w' ⟨rfl, hb⟩
    have HB := Lib.hid hb
    clear hb
    go_wp2_with fail
    go_ret
    have hb := HB.out
    exact ⟨rfl, (((hb.alloc hb.size _)))⟩

/-- The reader has been looked at alone. -/
structure Seen (E : Env) (s : St) (w w' : World) : Prop where
  rd : RdAt E w' s
  bel : Below w.heap.size w w'
theorem Seen.refl {E : Env} {s : St} {w : World} (h : RdAt E w s) : Seen E s w w := ⟨h, Below.refl _ _⟩
theorem Seen.step {E : Env} {s : St} {w w1 w2 : World} (h : Seen E s w w1) (hb : Below w1.heap.size w1 w2) : Seen E s w w2 := ⟨h.rd.below hb, h.bel.trans (hb.mono h.bel.size)⟩
theorem Seen.alloc {E : Env} {s : St} {w w1 : World} (h : Seen E s w w1) (o : Obj) : Seen E s w (w1.alloc o) := h.step ((Below.refl _ _).alloc (Nat.le_refl _) o)
theorem Seen.drew {E : Env} {s : St} {w w1 : World} (h : Seen E s w w1) : Seen E s w w1.drew := h.step (Below.refl _ _).drew
/-- The reader has moved to a state. -/
structure Moved (E : Env) (s : St) (w w' : World) : Prop where
  rd : RdAt E w' s
  gr : w.grownBy w' (some E.R)
theorem Seen.moved {E : Env} {s : St} {w w' : World} (h : Seen E s w w') : Moved E s w w' := ⟨h.rd, grownBy_of_below _ h.bel⟩
theorem Moved.refl {E : Env} {s : St} {w : World} (h : RdAt E w s) : Moved E s w w := ⟨h, World.grownBy.refl w _⟩
theorem Moved.setAt {E : Env} {s : St} {w w' : World} (h : Moved E s w w') (n : Nat) (hn : n ≤ E.c.toks.length) : Moved E { s with at_ := n } w (w'.setCell ⟨E.R, 1, none⟩ (.int .i64 (n : Int))) :=
  ⟨h.rd.setAt n hn, h.gr.trans (grownBy_set _ _ _ _)⟩
theorem Moved.setHead {E : Env} {s : St} {w w' : World} (h : Moved E s w w') (b : Bool) : Moved E { s with head := b } w (w'.setCell ⟨E.R, 3, none⟩ (.bool b)) :=
  ⟨h.rd.setHead b, h.gr.trans (grownBy_set _ _ _ _)⟩
theorem Moved.setPart {E : Env} {s : St} {w w' : World} (h : Moved E s w w') (n : Int) : Moved E { s with part := n } w (w'.setCell ⟨E.R, 4, none⟩ (.int .i64 n)) :=
  ⟨h.rd.setPart n, h.gr.trans (grownBy_set _ _ _ _)⟩
theorem Moved.trans {E : Env} {s s' : St} {w w1 w2 : World} (h : Moved E s w w1) (h' : Moved E s' w1 w2) : Moved E s' w w2 := ⟨h'.rd, h.gr.trans h'.gr⟩
theorem Moved.step {E : Env} {s : St} {w w1 w2 : World} (h : Moved E s w w1) (hb : Below w1.heap.size w1 w2) : Moved E s w w2 := h.trans ⟨h.rd.below hb, grownBy_of_below _ hb⟩

theorem Moved.alloc {E : Env} {s : St} {w w1 : World} (h : Moved E s w w1) (o : Obj) : Moved E s w (w1.alloc o) := h.step ((Below.refl _ _).alloc (Nat.le_refl _) o)
theorem Moved.drew {E : Env} {s : St} {w w1 : World} (h : Moved E s w w1) : Moved E s w w1.drew := h.step (Below.refl _ _).drew
theorem Moved.drewN {E : Env} {s : St} {w w1 : World} (h : Moved E s w w1) (n : Nat) : Moved E s w (w1.drewN n) := h.step (below_drewN (Below.refl _ _) n)
theorem Seen.drewN {E : Env} {s : St} {w w1 : World} (h : Seen E s w w1) (n : Nat) : Seen E s w (w1.drewN n) := h.step (below_drewN (Below.refl _ _) n)
/-- A store into what is new. -/
theorem Moved.own {E : Env} {s : St} {w w1 : World} (h : Moved E s w w1) {p : Addr} (hp : w.heap.size ≤ p.block) (hR : E.R < p.block) (u : Value) : Moved E s w (w1.setCell p u) :=
  ⟨h.rd.far hR u, by obtain ⟨b, o, z⟩ := p; exact ⟨h.gr.os, h.gr.tape, h.gr.output, by simpa using h.gr.size, fun k hk hne => (Below.heap_setCell w1 ⟨b, o, z⟩ u k (by simp at hp ⊢; omega)).trans (h.gr.block k hk hne)⟩⟩

theorem isS_lt {E : Env} {s : St} {w : World} (_h : RdAt E w s) {x : ByteArray} (hx : isS E.c s x = true) : s.at_ < E.c.toks.length := by
  rcases Nat.lt_or_ge s.at_ E.c.toks.length with h | h
  · exact h
  · unfold isS at hx
    rw [tokAt_end E.c s.at_ h] at hx
    simp [isT] at hx
theorem adv_eq (s : St) : adv s = { s with at_ := s.at_ + 1 } := rfl

theorem takes_yes (E : Env) (s : St) (x : ByteArray) (w : World) (h : RdAt E w s) (hx : isS E.c s x = true) : Calls Tryz.prog 93 #[.pointer (some ⟨E.R, 0, none⟩), .string x] w fun e w' => e = .returned (.bool true) ∧ Moved E (adv s) w w' := by
  have hlt := isS_lt h hx
  have hmost := h.most
  have HX := Lib.hid hx
  have HI := Lib.hid (is_any E s x w h)
  clear hx
  go_enter Tryz.func93, Tryz.ntmps93
  go_wp2_with fail
  refine HI.out.mono ?_
  rw [HX.out]
  rintro e w' ⟨rfl, hb⟩
  have hq := (Seen.refl h).step hb
  obtain ⟨c0, c1, c2, c3, c4, f0⟩ := hq.rd.cells
  have HF := Lib.hid f0
  have f1 := f0 1
  clear hb f0
  go_wp2_with fail
  go_ret
  exact ⟨rfl, hq.moved.setAt (s.at_ + 1) (by omega)⟩
theorem takes_no (E : Env) (s : St) (x : ByteArray) (w : World) (h : RdAt E w s) (hx : isS E.c s x = false) : Calls Tryz.prog 93 #[.pointer (some ⟨E.R, 0, none⟩), .string x] w fun e w' => e = .returned (.bool false) ∧ Seen E s w w' := by
  have HX := Lib.hid hx
  have HI := Lib.hid (is_any E s x w h)
  clear hx
  go_enter Tryz.func93, Tryz.ntmps93
  go_wp2_with fail
  refine HI.out.mono ?_
  rw [HX.out]
  rintro e w' ⟨rfl, hb⟩
  have hq := (Seen.refl h).step hb
  clear hb
  go_wp2_with fail
  go_ret
  exact ⟨rfl, hq⟩

theorem need_yes (E : Env) (s : St) (x : ByteArray) (w : World) (h : RdAt E w s) (hx : isS E.c s x = true) : Calls Tryz.prog 63 #[.pointer (some ⟨E.R, 0, none⟩), .string x] w fun e w' => e = .returned (.tuple #[]) ∧ Moved E (adv s) w w' := by
  have HI := Lib.hid (takes_yes E s x w h hx)
  clear hx h
  go_enter Tryz.func63, Tryz.ntmps63
  go_wp2_with fail
  refine HI.out.mono ?_
  rintro e w' ⟨rfl, hq⟩
  go_wp2_with fail
  go_end0
  exact ⟨rfl, hq⟩
theorem need_no (E : Env) (s : St) (x : ByteArray) (w : World) (h : RdAt E w s) (hx : isS E.c s x = false) : Calls Tryz.prog 63 #[.pointer (some ⟨E.R, 0, none⟩), .string x] w fun e w' => e = wrongV (posS E.c s) ∧ Below w.heap.size w w' := by
  have HI := Lib.hid (takes_no E s x w h hx)
  clear hx h
  go_enter Tryz.func63, Tryz.ntmps63
  go_wp2_with fail
  refine HI.out.mono ?_
  rintro e w' ⟨rfl, hq⟩
  go_wp2_with fail
  refine (fail_any E s w' hq.rd).mono ?_
  rintro e w2 ⟨rfl, hb⟩
  unfold wrongV
  exact ⟨rfl, rfl, hq.bel.trans (hb.mono hq.bel.size)⟩

theorem semi_any (E : Env) (s : St) (w : World) (h : RdAt E w s) : Calls Tryz.prog 94 #[.pointer (some ⟨E.R, 0, none⟩)] w fun e w' => e = .returned (.bool (semiB E.c s)) ∧ Seen E s w w' := by
  have hq := Seen.refl h
  have hs : semiB E.c s = (isS E.c s (⟨#[59]⟩ : ByteArray) || isS E.c s (⟨#[10]⟩ : ByteArray)) := rfl
  have HI := Lib.hid (fun w' (h : RdAt E w' s) => is_any E s (⟨#[59]⟩ : ByteArray) w' h)
  have HJ := Lib.hid (fun w' (h : RdAt E w' s) => is_any E s (⟨#[10]⟩ : ByteArray) w' h)
  rw [hs]
  clear hs
  generalize isS E.c s (⟨#[59]⟩ : ByteArray) = a at *
  generalize isS E.c s (⟨#[10]⟩ : ByteArray) = b at *
  cases a <;> cases b
  all_goals
    go_enter Tryz.func94, Tryz.ntmps94
    go_wp2_with fail
    refine (HI.out _ h).mono ?_
    rintro e w' ⟨rfl, hb⟩
    replace hq := hq.step hb
    clear hb
    go_wp2_with (go_at_call 67; refine (HJ.out _ hq.rd).mono ?_; rintro e w' ⟨rfl, hb⟩; replace hq := hq.step hb; clear hb)
    go_ret
    exact ⟨rfl, hq⟩
theorem ends_any (E : Env) (s : St) (w : World) (h : RdAt E w s) : Calls Tryz.prog 250 #[.pointer (some ⟨E.R, 0, none⟩)] w fun e w' => e = .returned (.bool (endsB E.c s)) ∧ Seen E s w w' := by
  have hq := Seen.refl h
  have hs : endsB E.c s = (isS E.c s (⟨#[44]⟩ : ByteArray) || isS E.c s (⟨#[93]⟩ : ByteArray)) := rfl
  have HI := Lib.hid (fun w' (h : RdAt E w' s) => is_any E s (⟨#[44]⟩ : ByteArray) w' h)
  have HJ := Lib.hid (fun w' (h : RdAt E w' s) => is_any E s (⟨#[93]⟩ : ByteArray) w' h)
  rw [hs]
  clear hs
  generalize isS E.c s (⟨#[44]⟩ : ByteArray) = a at *
  generalize isS E.c s (⟨#[93]⟩ : ByteArray) = b at *
  cases a <;> cases b
  all_goals
    go_enter Tryz.func250, Tryz.ntmps250
    go_wp2_with fail
    refine (HI.out _ h).mono ?_
    rintro e w' ⟨rfl, hb⟩
    replace hq := hq.step hb
    clear hb
    go_wp2_with (go_at_call 67; refine (HJ.out _ hq.rd).mono ?_; rintro e w' ⟨rfl, hb⟩; replace hq := hq.step hb; clear hb)
    go_ret
    exact ⟨rfl, hq⟩
theorem takeSemi_any (E : Env) (s : St) (w : World) (h : RdAt E w s) : Calls Tryz.prog 66 #[.pointer (some ⟨E.R, 0, none⟩)] w fun e w' => e = .returned (.bool (semiB E.c s)) ∧ Moved E (semiS E.c s) w w' := by
  have HI := Lib.hid (semi_any E s w h)
  have hs : semiS E.c s = if semiB E.c s = true then adv s else s := rfl
  have hl : semiB E.c s = true → s.at_ < E.c.toks.length := fun hb => by
    unfold semiB at hb
    rcases Bool.or_eq_true_iff.1 hb with h1 | h1
    · exact isS_lt h h1
    · exact isS_lt h h1
  have hmost := h.most
  rw [hs]
  clear hs
  generalize semiB E.c s = a at *
  cases a
  · go_enter Tryz.func66, Tryz.ntmps66
    go_wp2_with fail
    refine HI.out.mono ?_
    rintro e w' ⟨rfl, hq⟩
    go_wp2_with fail
    go_ret
    exact ⟨rfl, hq.moved⟩
  · have hlt := hl rfl
    clear hl
    go_enter Tryz.func66, Tryz.ntmps66
    go_wp2_with fail
    refine HI.out.mono ?_
    rintro e w' ⟨rfl, hq⟩
    obtain ⟨c0, c1, c2, c3, c4, f0⟩ := hq.rd.cells
    have f1 := f0 1
    clear f0
    go_wp2_with fail
    go_ret
    exact ⟨rfl, hq.moved.setAt (s.at_ + 1) (by omega)⟩

theorem nameK_lt (E : Env) (s : St) (hk : (tokAt E.c s.at_).kind = 1) : s.at_ < E.c.toks.length := by
  rcases Nat.lt_or_ge s.at_ E.c.toks.length with h | h
  · exact h
  · rw [tokAt_end E.c s.at_ h] at hk
    simp at hk
theorem name_yes (E : Env) (s : St) (w : World) (h : RdAt E w s) (hk : (tokAt E.c s.at_).kind = 1) : Calls Tryz.prog 65 #[.pointer (some ⟨E.R, 0, none⟩)] w fun e w' => e = .returned (.string (tokAt E.c s.at_).text) ∧ Moved E (adv s) w w' := by
  have hlt := nameK_lt E s hk
  have hmost := h.most
  have HN := Lib.hid (next_any E s w h)
  generalize tokAt E.c s.at_ = t at *
  obtain ⟨tk, tt, tp⟩ := t
  unfold tokV at HN
  simp only at *
  subst hk
  go_enter Tryz.func65, Tryz.ntmps65
  go_wp2_with fail
  refine HN.out.mono ?_
  rintro e w' ⟨rfl, hb⟩
  have hq := (Seen.refl h).step hb
  obtain ⟨c0, c1, c2, c3, c4, f0⟩ := hq.rd.cells
  have f1 := f0 1
  have hltR := hq.rd.lt
  have hneR := Nat.ne_of_lt hltR
  clear f0
  go_wp2_with fail
  go_ret
  exact ⟨rfl, (hq.moved.setAt (s.at_ + 1) (by omega)).alloc _⟩
theorem name_no (E : Env) (s : St) (w : World) (h : RdAt E w s) (hk : ¬ (tokAt E.c s.at_).kind = 1) : Calls Tryz.prog 65 #[.pointer (some ⟨E.R, 0, none⟩)] w fun e w' => e = wrongV (posS E.c s) ∧ Below w.heap.size w w' := by
  have HN := Lib.hid (next_any E s w h)
  generalize tokAt E.c s.at_ = t at *
  obtain ⟨tk, tt, tp⟩ := t
  unfold tokV at HN
  simp only at *
  go_enter Tryz.func65, Tryz.ntmps65
  go_wp2_with fail
  refine HN.out.mono ?_
  rintro e w' ⟨rfl, hb⟩
  have hq := ((Seen.refl h).step hb).alloc (.cells #[.int .i64 tk, .string tt, .int .i64 tp] 86)
  have hk2 : (tk != 1) = true := by simpa using hk
  go_wp2_with fail
  refine (fail_any E s _ hq.rd).mono ?_
  rintro e w2 ⟨rfl, hb⟩
  unfold wrongV
  exact ⟨rfl, rfl, hq.bel.trans (hb.mono hq.bel.size)⟩

theorem types_any (E : Env) (s : St) (w : World) (h : RdAt E w s) : Calls Tryz.prog 195 #[.pointer (some ⟨E.R, 0, none⟩)] w fun e w' => e = .returned (.bool (typesB E.c s)) ∧ Seen E s w w' := by
  have hq := Seen.refl h
  have hs : typesB E.c s = ((tokAt E.c s.at_).kind == 1 || (isS E.c s (⟨#[91]⟩ : ByteArray) || (isS E.c s (⟨#[40]⟩ : ByteArray) || isS E.c s (⟨#[102, 117, 110, 99]⟩ : ByteArray)))) := rfl
  have HN := Lib.hid (next_any E s w h)
  have HI := Lib.hid (fun w' (h : RdAt E w' s) => is_any E s (⟨#[91]⟩ : ByteArray) w' h)
  have HJ := Lib.hid (fun w' (h : RdAt E w' s) => is_any E s (⟨#[40]⟩ : ByteArray) w' h)
  have HK := Lib.hid (fun w' (h : RdAt E w' s) => is_any E s (⟨#[102, 117, 110, 99]⟩ : ByteArray) w' h)
  rw [hs]
  clear hs
  generalize isS E.c s (⟨#[91]⟩ : ByteArray) = a at *
  generalize isS E.c s (⟨#[40]⟩ : ByteArray) = b at *
  generalize isS E.c s (⟨#[102, 117, 110, 99]⟩ : ByteArray) = d at *
  generalize tokAt E.c s.at_ = t at *
  obtain ⟨tk, tt, tp⟩ := t
  unfold tokV at HN
  simp only at *
  cases h1 : (tk == 1) <;> cases a <;> cases b <;> cases d
  all_goals
    go_enter Tryz.func195, Tryz.ntmps195
    go_wp2_with fail
    refine HN.out.mono ?_
    rintro e w' ⟨rfl, hb⟩
    replace hq := hq.step hb
    clear hb
    go_wp2_with (first
      | (go_at_call 67; with_reducible refine (HI.out _ hq.rd).mono ?_; rintro e w' ⟨rfl, hb⟩; replace hq := hq.step hb; clear hb)
      | (go_at_call 67; with_reducible refine (HJ.out _ hq.rd).mono ?_; rintro e w' ⟨rfl, hb⟩; replace hq := hq.step hb; clear hb)
      | (go_at_call 67; with_reducible refine (HK.out _ hq.rd).mono ?_; rintro e w' ⟨rfl, hb⟩; replace hq := hq.step hb; clear hb))
    go_ret
    exact ⟨rfl, hq⟩

set_option maxHeartbeats 1000000 in
/-- A node is made. -/
theorem node_any (a k : Int) (t : ByteArray) (v : Value) (w : World) (hv : ∃ A n c, v = .slice A n c) : Calls Tryz.prog 64 #[.int .i64 a, .int .i64 k, .string t, v] w fun e w' => e = .returned (.agg #[.int .i64 k, .string t, v, .int .i64 a]) ∧ Below w.heap.size w w' := by
  obtain ⟨A, n, c, rfl⟩ := hv
  go_enter Tryz.func64, Tryz.ntmps64
  go_wp2_with fail
  refine bodyPost_ret (v := .agg #[.int .i64 k, .string t, .slice A n c, .int .i64 a]) (by simp [results, Tryz.results64, go_sem]) rfl ⟨rfl, ?_⟩
  (repeat' (first | with_reducible exact Below.refl _ _ | with_reducible refine Below.alloc ?_ ?_ _ | with_reducible refine Below.setCell ?_ ?_ _ | with_reducible refine Below.drew ?_ | with_reducible refine below_drewN ?_ _ | (simp <;> omega) | omega))
end Go.Proofs.YtnalfjaojcahhaaGreatDoor
namespace Go.Proofs.YtnalfjaojcahhaaGreatDoor
open Go.RowKit Go.Lib Go.Proofs
attribute [local go_sem ↓] Go.wp_at_zero Go.wp_at_succ

/-- How a function that reads a node ends. -/
def PostN (E : Env) (w : World) (r : Res Nd) (e : Ending) (w' : World) : Prop :=
  match r with
  | .ok n s => (∃ v, e = .returned v ∧ NodeV (fun b => w.heap.size ≤ b) w' v n) ∧ Moved E s w w'
  | .fail p => e = wrongV p ∧ w.grownBy w' (some E.R)
  | .out => False
/-- Nodes as a slice. -/
def NodesV (X : Nat → Prop) (w : World) (v : Value) (l : List Nd) : Prop :=
  ∃ A cap xs, v = .slice A l.length cap ∧ l.length ≤ cap ∧ ReadsX X w 4 A l.length xs ∧ NodesC X w l xs
def PostL (E : Env) (w : World) (r : Res (List Nd)) (e : Ending) (w' : World) : Prop :=
  match r with
  | .ok l s => (∃ v, e = .returned v ∧ NodesV (fun b => w.heap.size ≤ b) w' v l) ∧ Moved E s w w'
  | .fail p => e = wrongV p ∧ w.grownBy w' (some E.R)
  | .out => False
/-- A function value that reads a part. -/
def PartC (E : Env) (k : FuncId) (args : Array Value) (m : R Nd) (w0 : World) : Prop :=
  ∀ (w : World) (s : St), w0.grownBy w (some E.R) → RdAt E w s → m E.c s ≠ .out → Calls Tryz.prog k args w (PostN E w (m E.c s))
theorem PartC.grown {E : Env} {k : FuncId} {args : Array Value} {m : R Nd} {w0 w1 : World} (h : PartC E k args m w0) (hg : w0.grownBy w1 (some E.R)) : PartC E k args m w1 :=
  fun w s hw hr hm => h w s (hg.trans hw) hr hm

theorem infoNd : (Tryz.prog.info? 24).map (fun i => (i.zero, i.size, i.bytes)) = some (some (.agg #[.int .i64 0, .string ⟨#[]⟩, .slice none 0 0, .int .i64 0]), 4, 56) := by kernel_rfl

/-- A row of the call's own, of nodes. -/
structure OwnN (B : Nat) (w : World) (v : Value) (l : List Nd) : Prop where
  out : ∃ xs, w.ownsRow B 24 4 v l.length xs ∧ NodesC (fun b => B ≤ b ∧ some b ≠ v.ownBlock) w l xs
theorem OwnN.nil (B : Nat) (w : World) : OwnN B w (.slice none 0 0) [] := ⟨[], World.ownsRow_nil _ _ _ _, NodesC.nil⟩
theorem OwnN.keep {B : Nat} {w w' : World} {v : Value} {l : List Nd} (h : OwnN B w v l) (hk : ∀ b, B ≤ b → b < w.heap.size → w'.heap[b]? = w.heap[b]?) : OwnN B w' v l := by
  obtain ⟨xs, h1, h2⟩ := h.out
  refine ⟨xs, ⟨h1.1, ?_⟩, h2.keep fun b hb hlt => hk b hb.1 hlt⟩
  rcases h1.2 with h0 | ⟨g, cap, cur, e, hg, hh, r⟩
  · exact .inl h0
  · refine .inr ⟨g, cap, cur, e, hg, ?_, r⟩
    have hlt : g < w.heap.size := by
      rcases Nat.lt_or_ge g w.heap.size with hlt | hge
      · exact hlt
      · rw [Array.getElem?_eq_none hge] at hh; cases hh
    exact (hk g hg hlt).trans hh
theorem OwnN.grown {B R : Nat} {w w' : World} {v : Value} {l : List Nd} (h : OwnN B w v l) (hg : w.grownBy w' (some R)) (hR : R < B) : OwnN B w' v l :=
  h.keep fun b hb hlt => hg.block b hlt (fun e => by injection e; omega)
theorem OwnN.values {B : Nat} {w : World} {v : Value} {l : List Nd} (h : OwnN B w v l) : NodesV (fun b => B ≤ b) w v l := by
  obtain ⟨xs, h1, h2⟩ := h.out
  rcases h1.2 with ⟨rfl, h0⟩ | ⟨g, cap, cur, rfl, hg, hh, hnc, _, hsz, ht⟩
  · exact ⟨none, 0, xs, by rw [h0], by omega, ⟨h1.1, fun h => by omega⟩, h2.mono fun b hb _ => hb.1⟩
  · refine ⟨_, cap, xs, rfl, hnc, ⟨h1.1, fun _ => ⟨g, 0, rfl, hg, fun j u hu => ?_⟩⟩, h2.mono fun b hb _ => hb.1⟩
    have hj : j < l.length * 4 := by have := (List.getElem?_eq_some_iff.1 hu).1; rw [h1.1] at this; exact this
    rw [Nat.zero_add]
    unfold World.cell?
    rw [hh]
    simp only [Option.isSome_none, Bool.false_eq_true, if_false]
    rw [← ht, List.getElem?_take_of_lt hj] at hu
    rw [← hu]; simp
/-- A node is appended. -/
theorem OwnN.push {B S : Nat} {w1 w2 : World} {u v' : Value} {l : List Nd} {n : Nd} {o : Obj} {cs : List Value} {xs : List Value}
    (hn : NodesC (fun b => B ≤ b ∧ some b ≠ u.ownBlock) w1 l xs)
    (hV : NodeC (fun b => S ≤ b) w1 n cs) (hB : B ≤ S) (hu : ∀ g, u.ownBlock = some g → g < S)
    (hown : w2.ownsRow B 24 4 v' (l.length + 1) (xs ++ cs)) (hg : (w1.alloc o).grownBy w2 u.ownBlock) (hat : v'.ownBlock = u.ownBlock ∨ v'.ownBlock = some (w1.alloc o).heap.size) : OwnN B w2 v' (l ++ [n]) := by
  refine ⟨xs ++ cs, by rw [List.length_append]; exact hown, ?_⟩
  have h1 : NodesC (fun b => B ≤ b ∧ some b ≠ u.ownBlock ∧ b < w1.heap.size) w1 (l ++ [n]) (xs ++ cs) :=
    (hn.mono fun b hb hlt => ⟨hb.1, hb.2, hlt⟩).app (NodesC.one (hV.mono fun b hb hlt => ⟨Nat.le_trans hB hb, fun e => by have := hu b e.symm; omega, hlt⟩))
  have h2 := h1.keep (w' := w2) fun b hb hlt => (hg.block b (by rw [World.size_alloc]; omega) hb.2.1).trans (Below.heap_alloc w1 o b hlt)
  refine h2.mono fun b hb _ => ⟨hb.1, ?_⟩
  rcases hat with e | e
  · rw [e]; exact hb.2.1
  · rw [e, World.size_alloc]; intro e2; injection e2 with e2; omega

theorem one_node (n : Nd) (A : Option Addr) (cap : Nat) : ∀ u ∈ [Value.int .i64 n.kind, .string n.text, .slice A n.kids.length cap, .int .i64 n.pos], u.oneCell' = true := by
  intro u hu
  simp only [List.mem_cons, List.not_mem_nil, or_false] at hu
  rcases hu with rfl | rfl | rfl | rfl <;> rfl
theorem OwnN.lt {B : Nat} {w : World} {v : Value} {l : List Nd} (h : OwnN B w v l) : ∀ g, v.ownBlock = some g → B ≤ g ∧ g < w.heap.size := by
  obtain ⟨xs, h1, _⟩ := h.out
  exact fun g hg => h1.lt g hg
/-- What is left behind an append of a node. -/
structure Pushed (E : Env) (s : St) (B : Nat) (w w1 w2 : World) (v' : Value) (l : List Nd) : Prop where
  own : OwnN B w2 v' l
  mov : Moved E s w w2
  old : ∀ b, b < w1.heap.size → (B ≤ b → False) → w2.heap[b]? = w1.heap[b]?
  le : w1.heap.size ≤ w2.heap.size
theorem wp_push {o : Oper} {a : Act} {K : Act → World → Prop} {Q : Exit → Act → World → Prop} (s x : Operand)
    (ho : o.op = .call { callee := .builtin .append, args := #[s, x], argTypes := #[22, 22] })
    (E : Env) (st : St) (B S : Nat) (w w1 : World) (u : Value) (l : List Nd) (n : Nd) (A : Option Addr) (cap : Nat) (hs : a.eval s = u) (hx : a.eval x = .slice (some ⟨w1.heap.size, 0, none⟩) 1 1)
    (hO : OwnN B w1 u l) (hm : Moved E st w w1) (hwB : w.heap.size ≤ B) (hR : E.R < B) (hB : B ≤ S) (hS : S ≤ w1.heap.size) (hu : ∀ g, u.ownBlock = some g → g < S) (hl : l.length ≤ 1000000)
    (hV : NodeC (fun b => S ≤ b) w1 n [.int .i64 n.kind, .string n.text, .slice A n.kids.length cap, .int .i64 n.pos])
    (h : ∀ g c w2, Pushed E st B w w1 w2 (.slice (some ⟨g, 0, none⟩) (l.length + 1) c) (l ++ [n]) → K (a.put o.dst (.slice (some ⟨g, 0, none⟩) (l.length + 1) c)) w2) :
    o.wp Tryz.prog a (w1.alloc (.cells #[.int .i64 n.kind, .string n.text, .slice A n.kids.length cap, .int .i64 n.pos] 24)) K Q := by
  obtain ⟨i0, hi, hz0, hz1, hz2⟩ := info_parts infoNd
  obtain ⟨xs, hown, hnc⟩ := hO.out
  refine wp_append_lies _ s x 22 ho B 24 i0 _ 4 56 Tryz.underlying22 hi hz0 hz1 hz2 rfl (by omega) u l.length xs hs (hown.alloc _) ⟨w1.heap.size, 0, none⟩ 1 1 [.int .i64 n.kind, .string n.text, .slice A n.kids.length cap, .int .i64 n.pos] hx rfl
    (World.news_of_block (cs := #[.int .i64 n.kind, .string n.text, .slice A n.kids.length cap, .int .i64 n.pos]) (heap_alloc_new _ _)) (one_node n A cap) (by omega) (by unfold maxLen; omega) (by omega) (by rw [World.size_alloc]; omega) _ rfl ?_
  intro g c w2 hown1 hg hat _
  have hul : ∀ g, u.ownBlock = some g → B ≤ g := fun g hg => (hO.lt g hg).1
  have hold : ∀ b, b < w1.heap.size → (B ≤ b → False) → w2.heap[b]? = w1.heap[b]? := fun b hb hBb => (hg.block b (by rw [World.size_alloc]; omega) (fun e => hBb (hul b e.symm))).trans (Below.heap_alloc w1 _ b hb)
  have hle : w1.heap.size ≤ w2.heap.size := Nat.le_trans (by rw [World.size_alloc]; omega) hg.size
  refine h g c w2 ⟨OwnN.push hnc hV hB hu hown1 hg ?_, ⟨hm.rd.keep fun b hb => ?_, ?_⟩, hold, hle⟩
  · rcases hat with e | e
    · exact .inl (by rw [e]; rfl)
    · exact .inr (by rw [e]; rfl)
  · exact hold b (Nat.lt_of_le_of_lt hb hm.rd.lt) (fun h2 => by omega)
  · refine ⟨hg.os.trans hm.gr.os, hg.tape.trans hm.gr.tape, hg.output.trans hm.gr.output, Nat.le_trans hm.gr.size hle, fun k hk hne => ?_⟩
    exact (hold k (Nat.lt_of_lt_of_le hk hm.gr.size) (fun h2 => by omega)).trans (hm.gr.block k hk hne)
theorem wpList_push {ops : Array Oper} {rest : List Oper} {o : Oper} {a : Act} {Q : Exit → Act → World → Prop} (hgd : o.guard = none) (s x : Operand)
    (ho : o.op = .call { callee := .builtin .append, args := #[s, x], argTypes := #[22, 22] })
    (E : Env) (st : St) (B S : Nat) (w w1 : World) (u : Value) (l : List Nd) (n : Nd) (A : Option Addr) (cap : Nat) (hs : a.eval s = u) (hx : a.eval x = .slice (some ⟨w1.heap.size, 0, none⟩) 1 1)
    (hO : OwnN B w1 u l) (hm : Moved E st w w1) (hwB : w.heap.size ≤ B) (hR : E.R < B) (hB : B ≤ S) (hS : S ≤ w1.heap.size) (hu : ∀ g, u.ownBlock = some g → g < S) (hl : l.length ≤ 1000000)
    (hV : NodeC (fun b => S ≤ b) w1 n [.int .i64 n.kind, .string n.text, .slice A n.kids.length cap, .int .i64 n.pos])
    (h : ∀ g c w2, Pushed E st B w w1 w2 (.slice (some ⟨g, 0, none⟩) (l.length + 1) c) (l ++ [n]) → wpList Tryz.prog ops Q rest (a.put o.dst (.slice (some ⟨g, 0, none⟩) (l.length + 1) c)) w2) :
    wpList Tryz.prog ops Q (o :: rest) a (w1.alloc (.cells #[.int .i64 n.kind, .string n.text, .slice A n.kids.length cap, .int .i64 n.pos] 24)) :=
  wpList_plain hgd fun _ hK => wp_push s x ho E st B S w w1 u l n A cap hs hx hO hm hwB hR hB hS hu hl hV fun g c w2 hp => hK _ _ (h g c w2 hp)

set_option maxRecDepth 100000 in
set_option maxHeartbeats 4000000 in
theorem row_any (E : Env) (k : FuncId) (first cap : Array Value) (part : R Nd) (en : ByteArray) (g : Nat) (s : St) (w : World) (h : RdAt E w s)
    (hk : ∀ a w, (callFunc k a).run Tryz.prog w = .ok (.enter k a) w) (hp : PartC E k (first ++ cap) part w) (hne : rowGo part en g [] E.c s ≠ .out) (hg0 : g ≤ 1000000) :
    Calls Tryz.prog 146 #[.pointer (some ⟨E.R, 0, none⟩), .string en, .func (.func k) first cap] w (PostL E w (rowGo part en g [] E.c s)) := by
  generalize hres : rowGo part en g [] E.c s = res at *
  have HRES := Lib.hid hres
  have HP := Lib.hid hp
  have HNE := Lib.hid hne
  obtain ⟨i0, hi, hz0, hz1, hz2⟩ := info_parts infoNd
  clear hres hp hne
  go_enter Tryz.func146, Tryz.ntmps146
  go_wp2_with fail
  go_loopg [7] g (fun g u7 wr => ∃ (acc : List Nd) (s' : St), OwnN w.heap.size wr u7 acc ∧ acc.length + g ≤ 1000000 ∧ rowGo part en g acc E.c s' = res ∧ Moved E s' w wr)
  case atStart => exact ⟨[], s, OwnN.nil _ _, by simpa using hg0, HRES.out, Moved.refl h⟩
  case round =>
    obtain ⟨acc, s1, hown, hlen, hr, hm⟩ := hrel
    have HR := Lib.hid hr
    have HO := Lib.hid hown
    clear hr hown HRES
    cases gk with
    | zero => exact absurd HR.out.symm (by rw [rowGo]; exact HNE.out)
    | succ g1 =>
      cases hA : isS E.c s1 en with
      | true =>
        have HF := Lib.hid (show res = .ok acc (adv s1) by rw [← HR.out, rowGo]; simp only [hA, if_true])
        go_wp2_with fail
        refine (takes_yes E s1 en _ hm.rd hA).mono ?_
        rintro e w1 ⟨rfl, hm1⟩
        clear hA
        go_wp2_with fail
        go_ret
        rw [HF.out]
        exact ⟨⟨_, rfl, (HO.out.grown hm1.gr (h.lt)).values⟩, hm.trans hm1⟩
      | false =>
        have HE := Lib.hid (show (part E.c s1).bind (fun n s2 => if isS E.c s2 en then .ok (acc ++ [n]) (adv s2) else (need (⟨#[44]⟩ : ByteArray) E.c s2).bind fun _ s3 => rowGo part en g1 (acc ++ [n]) E.c s3) = res by rw [← HR.out, rowGo]; simp only [hA, Bool.false_eq_true, if_false])
        clear HR
        go_wp2_with fail
        refine (takes_no E s1 en _ hm.rd hA).mono ?_
        rintro e w1 ⟨rfl, hq1⟩
        clear hA
        have hm1 := hm.trans hq1.moved
        have HO1 := Lib.hid (HO.out.grown hq1.moved.gr h.lt)
        clear HO hm hq1
        go_wp2_with fail
        cases hP : part E.c s1 with
        | out => exact absurd HE.out.symm (by rw [hP]; exact HNE.out)
        | fail p =>
          have HF := Lib.hid (show res = .fail p by rw [← HE.out, hP]; rfl)
          refine (HP.out w1 s1 hm1.gr hm1.rd (by rw [hP]; exact nofun)).mono ?_
          rw [hP]
          rintro e w2 ⟨rfl, hg2⟩
          unfold wrongV
          refine ⟨rfl, ?_⟩
          rw [HF.out]
          exact ⟨rfl, hm1.gr.trans hg2⟩
        | ok n s2 =>
          have HE2 := Lib.hid (show (if isS E.c s2 en then .ok (acc ++ [n]) (adv s2) else (need (⟨#[44]⟩ : ByteArray) E.c s2).bind fun _ s3 => rowGo part en g1 (acc ++ [n]) E.c s3) = res by rw [← HE.out, hP]; rfl)
          refine (HP.out w1 s1 hm1.gr hm1.rd (by rw [hP]; exact nofun)).mono ?_
          rw [hP]
          rintro e w2 ⟨⟨v, rfl, hv⟩, hm2⟩
          obtain ⟨A, cp, rfl, hC⟩ := hv.toC
          have hgs := hm1.gr.size
          have hgs2 := hm2.gr.size
          have hRlt := h.lt
          have HU := Lib.hid (show ∀ g, u7.ownBlock = some g → g < w1.heap.size from fun g hg => (HO1.out.lt g hg).2)
          have HO2 := Lib.hid (HO1.out.grown hm2.gr hRlt)
          have HC := Lib.hid hC
          have HM2 := Lib.hid (hm1.trans hm2)
          have hlen2 : acc.length ≤ 1000000 := by omega
          clear hP HE HP hv hC hm1 hm2 HO1
          go_wp2_with (at_builtin; refine wpList_push rfl (.tmp 12) (.tmp 15) rfl E s2 w.heap.size w1.heap.size w w2 u7 acc n A cp rfl rfl HO2.out HM2.out (Nat.le_refl _) hRlt hgs hgs2 HU.out hlen2 HC.out ?_; intro g3 c3 w3 hp3)
          have hm3 := hp3.mov
          have HO3 := Lib.hid hp3.own
          clear hp3 HO2 HM2 HC HU
          cases hB : isS E.c s2 en with
          | true =>
            have HF := Lib.hid (show res = .ok (acc ++ [n]) (adv s2) by rw [← HE2.out]; simp only [hB, if_true])
            refine (takes_yes E s2 en _ hm3.rd hB).mono ?_
            rintro e w4 ⟨rfl, hm4⟩
            clear hB HE2
            go_wp2_with fail
            go_ret
            rw [HF.out]
            exact ⟨⟨_, rfl, (HO3.out.grown hm4.gr hRlt).values⟩, hm3.trans hm4⟩
          | false =>
            have HE3 := Lib.hid (show (need (⟨#[44]⟩ : ByteArray) E.c s2).bind (fun _ s3 => rowGo part en g1 (acc ++ [n]) E.c s3) = res by rw [← HE2.out]; simp only [hB, Bool.false_eq_true, if_false])
            refine (takes_no E s2 en _ hm3.rd hB).mono ?_
            rintro e w4 ⟨rfl, hq4⟩
            have hm4 := hm3.trans hq4.moved
            have HO4 := Lib.hid (HO3.out.grown hq4.moved.gr hRlt)
            clear hB HE2 HO3 hq4 hm3
            go_wp2_with fail
            cases hD : isS E.c s2 (⟨#[44]⟩ : ByteArray) with
            | true =>
              have HE4 := Lib.hid (show rowGo part en g1 (acc ++ [n]) E.c (adv s2) = res by rw [← HE3.out, need]; simp only [hD, if_true, Res.bind_ok])
              refine (need_yes E s2 (⟨#[44]⟩ : ByteArray) _ hm4.rd hD).mono ?_
              rintro e w5 ⟨rfl, hm5⟩
              clear hD HE3
              go_wp2_with fail
              go_roundg g1
              case measure => omega
              case rel => exact ⟨acc ++ [n], adv s2, HO4.out.grown hm5.gr hRlt, by rw [List.length_append]; simp; omega, HE4.out, hm4.trans hm5⟩
            | false =>
              have HF := Lib.hid (show res = .fail (posS E.c s2) by rw [← HE3.out, need]; simp only [hD, Bool.false_eq_true, if_false, Res.bind_fail])
              refine (need_no E s2 (⟨#[44]⟩ : ByteArray) _ hm4.rd hD).mono ?_
              rintro e w5 ⟨rfl, hb5⟩
              unfold wrongV
              refine ⟨rfl, ?_⟩
              rw [HF.out]
              exact ⟨rfl, hm4.gr.trans (grownBy_of_below _ hb5)⟩
end Go.Proofs.YtnalfjaojcahhaaGreatDoor
