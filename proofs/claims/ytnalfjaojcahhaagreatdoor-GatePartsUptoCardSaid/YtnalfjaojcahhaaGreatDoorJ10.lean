/-
  The scanner: scan and Scan at a text that it goes through, a deferred function beside it. By an AI agent.
  looked, at tokens that are names, words but 'import', and signs that a rule names. By an AI agent.
  Scan and begin at a text that the scanner goes through. By an AI agent.
  Parameters of types: params. By an AI agent.
-/
import Derived.Test.YtnalfjaojcahhaaGreatDoorJ09
import Derived.Test.YtnalfjaojcahhaaGreatDoorJ06
import Derived.Test.YtnalfjaojcahhaaGreatDoorJ08
import Derived.Test.YtnalfjaojcahhaaGreatDoorJ05
import Derived.BigQuiet
import Derived.Defers
import Derived.Recover
import Derived.Deep.LoopGhost
namespace Go.Proofs.YtnalfjaojcahhaaGreatDoor
open Go.RowKit Go.Lib Go.Proofs
attribute [local go_sem ↓] Go.wp_at_zero Go.wp_at_succ

/-- The deferred function, where nothing went wrong. -/
theorem scan_idle (p q r : Addr) (w : World) :
    CallsD Tryz.prog 133 #[.pointer (some p), .pointer (some q), .pointer (some r)] .returning w fun e u' w' => e = .returned (.tuple #[]) ∧ u' = .returning ∧ w' = w := by
  refine callsD_of_wpS Tryz.func133 rfl fun c₀ cs hu => ?_
  apply wpS_seq
  apply wpS_region
  simp [wpOpsS, go_sem, recoverD, hu, Tryz.ntmps133, Exit.thenS]
  apply wpS_seq
  apply wpS_region
  simp [wpOpsS, go_sem, Exit.thenS]
  refine wpS_cond (t := false) (by simp [Act.eval, Array.replicate]) ?_
  simp only [Bool.false_eq_true, if_false]
  refine wpS_of_wp (wp_skip ?_)
  cases c₀
  simp_all [bodyPostS, results, Tryz.results133]

theorem ScAt.keep {w w' : World} {X : Nat} {s : ByteArray} {i : Nat} {l : List Tok} {nv : Value} (h : ScAt w X s i l nv) (hk : ∀ b, X ≤ b → w'.heap[b]? = w.heap[b]?) : ScAt w' X s i l nv := by
  obtain ⟨lv, h1, h2⟩ := h.out
  exact ⟨⟨lv, (hk X (Nat.le_refl _)).trans h1, h2.keep fun b hb _ => hk b (by omega)⟩, h.le, h.most, h.few⟩
theorem bytes_below {w w' : World} {g o : Nat} {s : ByteArray} (h : Lib.Bytes w g o s) (hg : g < w.heap.size) (hb : Below w.heap.size w w') : Lib.Bytes w' g o s :=
  fun i hi => (World.cell?_of_block (a := ⟨g, o + i, none⟩) (hb.block g hg)).trans (h i hi)

/-- What follows, where nothing is left but the code's own end. -/
def onlyN (Q : Exit → Act → World → Prop) : Exit → Act → World → Prop := fun x a w => match x with
  | .normal => Q .normal a w
  | _ => False
theorem wp_onlyN {P : Program} {c : Code} {Q : Exit → Act → World → Prop} {a : Act} {w : World} (h : c.wp P (onlyN Q) a w) : c.wp P Q a w :=
  Code.wp_mono (fun e a w h => by
    cases e with
    | normal => exact h
    | _ => exact h.elim) h

set_option maxRecDepth 100000 in
set_option maxHeartbeats 4000000 in
theorem scan_ok (g o c : Nat) (s : ByteArray) (w : World) (hb : Lib.Bytes w g o s) (hg : g < w.heap.size) (hc : s.size ≤ c) (hA : ∀ j, j < s.size → 0 < (s.data.toList.getD j 0).toNat ∧ (s.data.toList.getD j 0).toNat < 128)
    (hT : Tab w) (hmo : s.size ≤ 65536) (hm : Lib.hasPrefix s.data.toList [239, 187, 191] = false) (G : Nat) (L : List Tok) (hS : scFrom s (G + 1) 0 [] = some L) :
    Calls Tryz.prog 89 #[.slice (some ⟨g, o, none⟩) s.size c] w fun e w' => ∃ X i nv, e = .returned (.tuple #[.pointer (some ⟨X, 0, none⟩), .int .i64 0, .int .i64 0]) ∧ ScAt w' X s i L nv ∧ w.heap.size ≤ X ∧ Below w.heap.size w w' := by
  have hmf : ∀ (fn : Fn) (first cap : Array Value) (w : World), (Instr.makeFunc fn first cap).run Tryz.prog w = .ok (.func fn first cap) w := fun _ _ _ _ => rfl
  have hB0 : Below w.heap.size w (((w.alloc (.cells #[.pointer none] 109)).alloc (.cells #[.int .i64 0] 3)).alloc (.cells #[.int .i64 0] 44)) := by (repeat' (first | with_reducible exact Below.refl _ _ | with_reducible refine Below.alloc ?_ ?_ _ | with_reducible refine Below.setCell ?_ ?_ _ | with_reducible refine Below.drew ?_ | with_reducible refine below_drewN ?_ _ | (simp <;> omega) | omega))
  have hX0 : Blk (((w.alloc (.cells #[.pointer none] 109)).alloc (.cells #[.int .i64 0] 3)).alloc (.cells #[.int .i64 0] 44)) w.heap.size 109 #[.pointer none] := ((Blk.new w _ _).alloc _).alloc _
  have hY0 : Blk (((w.alloc (.cells #[.pointer none] 109)).alloc (.cells #[.int .i64 0] 3)).alloc (.cells #[.int .i64 0] 44)) (w.heap.size + 1) 3 #[.int .i64 0] := (Blk.new_at (by simp) _ _).alloc _
  have hZ0 : Blk (((w.alloc (.cells #[.pointer none] 109)).alloc (.cells #[.int .i64 0] 3)).alloc (.cells #[.int .i64 0] 44)) (w.heap.size + 2) 44 #[.int .i64 0] := Blk.new_at (by simp) _ _
  have HW := Lib.hid (fun w' (hb' : Below w.heap.size w w') => wrong_ascii g o c s w' (bytes_below hb hg hb') (Nat.lt_of_lt_of_le hg hb'.size) hc hA)
  have HCV := Lib.hid (fun w' (hb' : Below w.heap.size w w') => run_convert_whole (P := Tryz.prog) w' 47 5 9 Tryz.underlying47 Tryz.underlying5 Tryz.underlying9 g o s (bytes_below hb hg hb') c)
  have HT := Lib.hid hT
  have HM := Lib.hid hm
  have HS := Lib.hid hS
  have hlen : decide ((65536 : Int) < (s.size : Int)) = false := by rw [decide_eq_false_iff_not]; omega
  clear hA hT hm hS hb
  go_enter_defers Tryz.func89, Tryz.ntmps89
  go_wp2_with fail
  refine (HW.out _ hB0).mono ?_
  rintro e w1 ⟨rfl, hb1⟩
  have hS0 : (((w.alloc (.cells #[.pointer none] 109)).alloc (.cells #[.int .i64 0] 3)).alloc (.cells #[.int .i64 0] 44)).heap.size = w.heap.size + 3 := by simp
  have hX1 := hX0.below hb1 (by rw [hS0]; omega)
  have hY1 := hY0.below hb1 (by rw [hS0]; omega)
  have hZ1 := hZ0.below hb1 (by rw [hS0]; omega)
  have hs1 := hb1.size
  rw [hS0] at hs1
  have hB1 := hB0.trans (hb1.mono hB0.size)
  clear hX0 hY0 hZ0 hb1 hB0 hS0
  have hcv := HCV.out _ hB1
  have x0 := blk1 (hX1.alloc (.cells #[.string s, .int .i64 0, .slice none 0 0, .slice none 0 0] 113))
  have xf := (hX1.alloc (.cells #[.string s, .int .i64 0, .slice none 0 0, .slice none 0 0] 113)).frozen 0
  go_wp2_with fail
  have hX2 : Blk ((w1.alloc (.cells #[.string s, .int .i64 0, .slice none 0 0, .slice none 0 0] 113)).setCell ⟨w.heap.size, 0, none⟩ (.pointer (some ⟨w1.heap.size, 0, none⟩))) w.heap.size 109 #[.pointer (some ⟨w1.heap.size, 0, none⟩)] := by simpa using (hX1.alloc _).set_ 0 _
  have hY2 : Blk ((w1.alloc (.cells #[.string s, .int .i64 0, .slice none 0 0, .slice none 0 0] 113)).setCell ⟨w.heap.size, 0, none⟩ (.pointer (some ⟨w1.heap.size, 0, none⟩))) (w.heap.size + 1) 3 #[.int .i64 0] := (hY1.alloc _).far (p := ⟨w.heap.size, 0, none⟩) (by show w.heap.size + 1 ≠ w.heap.size; omega) _
  have hZ2 : Blk ((w1.alloc (.cells #[.string s, .int .i64 0, .slice none 0 0, .slice none 0 0] 113)).setCell ⟨w.heap.size, 0, none⟩ (.pointer (some ⟨w1.heap.size, 0, none⟩))) (w.heap.size + 2) 44 #[.int .i64 0] := (hZ1.alloc _).far (p := ⟨w.heap.size, 0, none⟩) (by show w.heap.size + 2 ≠ w.heap.size; omega) _
  have hB2 : Below w.heap.size w ((w1.alloc (.cells #[.string s, .int .i64 0, .slice none 0 0, .slice none 0 0] 113)).setCell ⟨w.heap.size, 0, none⟩ (.pointer (some ⟨w1.heap.size, 0, none⟩))) := (hB1.alloc (by omega) _).setCell (Nat.le_refl _) _
  have hSC : ScAt ((w1.alloc (.cells #[.string s, .int .i64 0, .slice none 0 0, .slice none 0 0] 113)).setCell ⟨w.heap.size, 0, none⟩ (.pointer (some ⟨w1.heap.size, 0, none⟩))) w1.heap.size s 0 [] (.slice none 0 0) :=
    ⟨⟨.slice none 0 0, (Blk.new w1 _ _).far (p := ⟨w.heap.size, 0, none⟩) (by show w1.heap.size ≠ w.heap.size; omega) _, OwnT.nil _ _⟩, Nat.zero_le _, hmo, by simp⟩
  generalize (w1.alloc (.cells #[.string s, .int .i64 0, .slice none 0 0, .slice none 0 0] 113)).setCell ⟨w.heap.size, 0, none⟩ (.pointer (some ⟨w1.heap.size, 0, none⟩)) = w2 at *
  generalize w1.heap.size = X at *
  clear hX1 hY1 hZ1 hB1 x0 xf hcv HCV HW
  go_loopg [28] G (fun gg _ wr => ∃ (i : Nat) (l : List Tok), ScAt wr X s i l (.slice none 0 0) ∧ Blk wr w.heap.size 109 #[.pointer (some ⟨X, 0, none⟩)] ∧ Blk wr (w.heap.size + 1) 3 #[.int .i64 0] ∧ Blk wr (w.heap.size + 2) 44 #[.int .i64 0] ∧ Below w.heap.size w wr ∧ scFrom s (gg + 1) i l = some L)
  case atStart => exact ⟨0, [], hSC, hX2, hY2, hZ2, hB2, HS.out⟩
  case round =>
    clear hSC hX2 hY2 hZ2 hB2
    obtain ⟨i, l, hsc, hX2, hY2, hZ2, hB2, hfr⟩ := hrel
    have hle := hsc.le
    obtain ⟨lv, hblk, -⟩ := hsc.out
    obtain ⟨x0, x1, x2, x3, -, -, -, -⟩ := blk4 hblk
    have y0 := blk1 hX2
    unfold scFrom at hfr
    by_cases hi : i < s.size
    · rw [if_pos hi] at hfr
      cases hst : scStep s i l with
      | none => rw [hst] at hfr; cases hfr
      | some q =>
        rw [hst] at hfr
        have hii : (i : Int) < (s.size : Int) := by omega
        have HF := Lib.hid hfr
        have HNX := Lib.hid (fun w' (hb' : Below wr.heap.size wr w') (hb2 : Below w.heap.size w w') => next_step X s i l (.slice none 0 0) w' (hsc.below hb') (HT.out.below hb2) hi HM.out q hst)
        have hg0 : gk ≠ 0 := by
          rintro rfl
          unfold scFrom at hfr
          cases hfr
        clear hfr hst hblk
        go_wp2_with fail
        go_quiet (fail)
        have hb3 := below_drewN (Below.refl wr.heap.size wr) nq
        have hB3 := below_drewN hB2 nq
        have hX3 := hX2.drewN nq
        have hY3 := hY2.drewN nq
        have hZ3 := hZ2.drewN nq
        have y3 := blk1 hX3
        generalize wr.drewN nq = w3 at *
        clear x0 x1 x2 x3 y0 hX2 hY2 hZ2 hB2
        go_wp2_with fail
        refine (HNX.out _ hb3 hB3).mono ?_
        rintro e w4 ⟨rfl, hs4, hb4⟩
        go_wp2_with fail
        go_roundg (gk - 1)
        case measure => omega
        case rel => exact ⟨q.1, q.2, hs4, hX3.below hb4 (by omega), hY3.below hb4 (by omega), hZ3.below hb4 (by omega), hB3.trans (hb4.mono (by omega)), by rw [show gk - 1 + 1 = gk by omega]; exact HF.out⟩
    · rw [if_neg hi] at hfr
      have hok : scOk l = true ∧ L = lineT l (s.size : Int) := by
        split at hfr
        · rename_i h
          injection hfr with hfr
          exact ⟨h, hfr.symm⟩
        · cases hfr
      obtain ⟨hok, rfl⟩ := hok
      obtain ⟨hl, hsz⟩ := scOk_spec hok
      have hii : ¬ (i : Int) < (s.size : Int) := by omega
      have HLN := Lib.hid (fun w' (hb' : Below wr.heap.size wr w') (hb2 : Below w.heap.size w w') => line_any X s i l (.slice none 0 0) (s.size : Int) hl w' (hsc.below hb') (HT.out.below hb2) hsz)
      clear hfr hblk hok hsz
      go_wp2_with fail
      go_quiet (fail)
      have hb3 := below_drewN (Below.refl wr.heap.size wr) nq
      have hB3 := below_drewN hB2 nq
      have hX3 := hX2.drewN nq
      have hY3 := hY2.drewN nq
      have hZ3 := hZ2.drewN nq
      have y3 := blk1 hX3
      have x03 : (wr.drewN nq).cell? ⟨X, 0, none⟩ = some (.string s) := x0
      generalize wr.drewN nq = w3 at *
      clear x0 x1 x2 x3 y0 hX2 hY2 hZ2 hB2
      go_wp2_with fail
      refine wp_onlyN ?_
      go_region_law (first
        | (go_simp; go_at_call 135; refine (HLN.out _ hb3.drew hB3.drew).mono ?_; rintro e w4 ⟨rfl, hs4, hb4⟩; have hX4 := hX3.drew.below hb4 (by omega); have y4 := blk1 hX4))
      all_goals
        unfold onlyN
        have hY4 := hY3.drew.below hb4 (by omega)
        have hZ4 := hZ3.drew.below hb4 (by omega)
        have hB4 := hB3.drew.trans (hb4.mono (by omega))
        have yf := hX4.frozen 0
        have u4 := blk1 hY4
        have uf := hY4.frozen 0
        have v4 := blk1 hZ4
        have vf := hZ4.frozen 0
        go_wp2_with fail
        have hX5 : Blk (w4.setCell ⟨w.heap.size, 0, none⟩ (.pointer (some ⟨X, 0, none⟩))) w.heap.size 109 #[.pointer (some ⟨X, 0, none⟩)] := by simpa using hX4.set_ 0 (.pointer (some ⟨X, 0, none⟩))
        have hY5 := hY4.far (p := ⟨w.heap.size, 0, none⟩) (by show w.heap.size + 1 ≠ w.heap.size; omega) (.pointer (some ⟨X, 0, none⟩))
        have hZ5 := hZ4.far (p := ⟨w.heap.size, 0, none⟩) (by show w.heap.size + 2 ≠ w.heap.size; omega) (.pointer (some ⟨X, 0, none⟩))
        have hK5 : ∀ b, X ≤ b → (w4.setCell ⟨w.heap.size, 0, none⟩ (.pointer (some ⟨X, 0, none⟩))).heap[b]? = w4.heap[b]? := fun b hb => Below.heap_setCell w4 ⟨w.heap.size, 0, none⟩ _ b (by show b ≠ w.heap.size; omega)
        have hB5 := hB4.setCell (p := ⟨w.heap.size, 0, none⟩) (Nat.le_refl _) (.pointer (some ⟨X, 0, none⟩))
        generalize w4.setCell ⟨w.heap.size, 0, none⟩ (.pointer (some ⟨X, 0, none⟩)) = w5 at *
        have hY6 : Blk (w5.setCell ⟨w.heap.size + 1, 0, none⟩ (.int .i64 0)) (w.heap.size + 1) 3 #[.int .i64 0] := by simpa using hY5.set_ 0 (.int .i64 0)
        have hX6 := hX5.far (p := ⟨w.heap.size + 1, 0, none⟩) (by show w.heap.size ≠ w.heap.size + 1; omega) (.int .i64 0)
        have hZ6 := hZ5.far (p := ⟨w.heap.size + 1, 0, none⟩) (by show w.heap.size + 2 ≠ w.heap.size + 1; omega) (.int .i64 0)
        have hK6 : ∀ b, X ≤ b → (w5.setCell ⟨w.heap.size + 1, 0, none⟩ (.int .i64 0)).heap[b]? = w4.heap[b]? := fun b hb => (Below.heap_setCell w5 ⟨w.heap.size + 1, 0, none⟩ _ b (by show b ≠ w.heap.size + 1; omega)).trans (hK5 b hb)
        have hB6 := hB5.setCell (p := ⟨w.heap.size + 1, 0, none⟩) (Nat.le_succ _) (.int .i64 0)
        generalize w5.setCell ⟨w.heap.size + 1, 0, none⟩ (.int .i64 0) = w6 at *
        have hZ7 : Blk (w6.setCell ⟨w.heap.size + 1 + 1, 0, none⟩ (.int .i64 0)) (w.heap.size + 2) 44 #[.int .i64 0] := by simpa using hZ6.set_ 0 (.int .i64 0)
        have hX7 := hX6.far (p := ⟨w.heap.size + 1 + 1, 0, none⟩) (by show w.heap.size ≠ w.heap.size + 1 + 1; omega) (.int .i64 0)
        have hY7 := hY6.far (p := ⟨w.heap.size + 1 + 1, 0, none⟩) (by show w.heap.size + 1 ≠ w.heap.size + 1 + 1; omega) (.int .i64 0)
        have hK7 : ∀ b, X ≤ b → (w6.setCell ⟨w.heap.size + 1 + 1, 0, none⟩ (.int .i64 0)).heap[b]? = w4.heap[b]? := fun b hb => (Below.heap_setCell w6 ⟨w.heap.size + 1 + 1, 0, none⟩ _ b (by show b ≠ w.heap.size + 1 + 1; omega)).trans (hK6 b hb)
        have hB7 := hB6.setCell (p := ⟨w.heap.size + 1 + 1, 0, none⟩) (show w.heap.size ≤ w.heap.size + 1 + 1 by omega) (.int .i64 0)
        generalize w6.setCell ⟨w.heap.size + 1 + 1, 0, none⟩ (.int .i64 0) = w7 at *
        have hSC := hs4.keep hK7
        refine leaves_cons (f := 133) (args := #[.pointer (some ⟨w.heap.size, 0, none⟩), .pointer (some ⟨w.heap.size + 1, 0, none⟩), .pointer (some ⟨w.heap.size + 1 + 1, 0, none⟩)]) (by simp) (by simp [go_sem]) ?_
        refine (scan_idle _ _ _ _).mono ?_
        rintro e u' w8 ⟨rfl, rfl, rfl⟩
        have z0 := blk1 hX7
        have z1 := blk1 hY7
        have z2 : w8.cell? ⟨w.heap.size + 1 + 1, 0, none⟩ = some (.int .i64 0) := blk1 hZ7
        clear y4 u4 v4 yf uf vf
        simp [Leaves, settle, results, Tryz.results89, go_sem, z0, z1, z2]
        exact ⟨⟨i, _, hSC⟩, by omega, hB7⟩
end Go.Proofs.YtnalfjaojcahhaaGreatDoor
namespace Go.Proofs.YtnalfjaojcahhaaGreatDoor
open Go.RowKit Go.Lib Go.Proofs
attribute [local go_sem ↓] Go.wp_at_zero Go.wp_at_succ
attribute [local go_sem] fld_tok0 fld_tok1 fld_tok2

def othersB : ByteArray := (⟨#[32, 60, 60, 61, 32, 62, 62, 61, 32, 38, 94, 61, 32, 46, 46, 46, 32, 43, 61, 32, 45, 61, 32, 42, 61, 32, 47, 61, 32, 37, 61, 32, 38, 61, 32, 124, 61, 32, 94, 61, 32, 60, 60, 32, 62, 62, 32, 38, 94, 32, 60, 45, 32, 38, 32, 94, 32, 58, 32]⟩ : ByteArray)
/-- A token that is let by. -/
def lookOk (t : Tok) : Bool :=
  decide (t.text.size ≤ 65536) && (decide (t.kind = 1) || ((decide (t.kind = 2) && !(t.text.toList == [105, 109, 112, 111, 114, 116])) || (decide (t.kind = 6) && !(Lib.contains othersB.data.toList ((⟨#[32]⟩ ++ t.text ++ ⟨#[32]⟩ : ByteArray)).data.toList))))
theorem lookOk_cases {k : Int} {tx : ByteArray} {p : Int} (h : lookOk ⟨k, tx, p⟩ = true) : tx.size ≤ 65536 ∧ (k = 1 ∨ (k = 2 ∧ (tx.toList == [105, 109, 112, 111, 114, 116]) = false) ∨ (k = 6 ∧ Lib.contains othersB.data.toList ((⟨#[32]⟩ ++ tx ++ ⟨#[32]⟩ : ByteArray)).data.toList = false)) := by
  unfold lookOk at h
  rw [Bool.and_eq_true, Bool.or_eq_true, Bool.or_eq_true, Bool.and_eq_true, Bool.and_eq_true, decide_eq_true_iff, decide_eq_true_iff, decide_eq_true_iff, decide_eq_true_iff, Bool.not_eq_true', Bool.not_eq_true'] at h
  exact h

set_option maxRecDepth 100000 in
set_option maxHeartbeats 8000000 in
theorem looked_ok (A : Option Addr) (c : Nat) (l : List Tok) (w : World) (hr : Reads w w.heap.size 3 A l.length (l.flatMap encT)) (hl : l.length ≤ 1000000) (hT : Tab w) (hk : ∀ t ∈ l, lookOk t = true) :
    Calls Tryz.prog 59 #[.slice A l.length c] w fun e w' => e = .returned (.tuple #[.int .i64 0, .int .i64 0]) ∧ Below w.heap.size w w' := by
  have HR := Lib.hid hr
  have HT := Lib.hid hT
  have HK := Lib.hid hk
  clear hr hT hk
  go_enter Tryz.func59, Tryz.ntmps59
  go_wp2_with fail
  go_loopg [5, 12] l.length (fun g _ u12 wr => ∃ i : Nat, i ≤ l.length ∧ l.length - i ≤ g ∧ u12 = .int .i64 (i : Int) ∧ Below w.heap.size w wr)
  case atStart => exact ⟨0, Nat.zero_le _, by omega, rfl, Below.refl _ _⟩
  case round =>
    obtain ⟨i, hi, hg, rfl, hB⟩ := hrel
    by_cases hlt : i < l.length
    · have hlt2 : (i : Int) < (l.length : Int) := by omega
      have hBs := hB.size
      have h0 : (0 : Int) ≤ (i : Int) := by omega
      obtain ⟨bk, off, hA1, hbk, hcc⟩ := (HR.out.below hB).el encT_len (by omega) rfl hlt
      subst hA1
      have k0 := hcc i hlt 0 _ rfl
      have k1 := hcc i hlt 1 _ rfl
      have k2 := hcc i hlt 2 _ rfl
      simp only [Nat.add_zero] at k0
      have hx := HK.out _ (List.getElem_mem hlt)
      clear hcc
      generalize l[i] = t at *
      obtain ⟨tk, tt, tp⟩ := t
      obtain ⟨hsz, hx⟩ := lookOk_cases hx
      have HCO := Lib.hid (fun w' (hb : Below w.heap.size w w') => contains_any othersB (⟨#[32]⟩ ++ tt ++ ⟨#[32]⟩) w' (HT.out.below hb) (Nat.le_trans (show othersB.size ≤ 100 by decide +kernel) (by omega)))
      simp only at k0 k1 k2
      rcases hx with rfl | ⟨rfl, hne⟩ | ⟨rfl, hco⟩
      · clear HCO
        go_wp2_with fail
        go_roundg (l.length - (i + 1))
        case measure => omega
        case rel => exact ⟨i + 1, by omega, Nat.le_refl _, by go_num, by (repeat' (first | with_reducible assumption | with_reducible exact Below.refl _ _ | with_reducible refine Below.alloc ?_ ?_ _ | with_reducible refine Below.setCell ?_ ?_ _ | with_reducible refine Below.drew ?_ | with_reducible refine below_drewN ?_ _ | (simp <;> omega) | omega))⟩
      · clear HCO
        go_wp2_with fail
        go_roundg (l.length - (i + 1))
        case measure => omega
        case rel => exact ⟨i + 1, by omega, Nat.le_refl _, by go_num, by (repeat' (first | with_reducible assumption | with_reducible exact Below.refl _ _ | with_reducible refine Below.alloc ?_ ?_ _ | with_reducible refine Below.setCell ?_ ?_ _ | with_reducible refine Below.drew ?_ | with_reducible refine below_drewN ?_ _ | (simp <;> omega) | omega))⟩
      · rw [hco] at HCO
        go_wp2_with fail
        refine (HCO.out _ (by (repeat' (first | with_reducible assumption | with_reducible exact Below.refl _ _ | with_reducible refine Below.alloc ?_ ?_ _ | with_reducible refine Below.setCell ?_ ?_ _ | with_reducible refine Below.drew ?_ | with_reducible refine below_drewN ?_ _ | (simp <;> omega) | omega)))).mono ?_
        rintro e w2 ⟨rfl, rfl⟩
        go_wp2_with fail
        go_roundg (l.length - (i + 1))
        case measure => omega
        case rel => exact ⟨i + 1, by omega, Nat.le_refl _, by go_num, by (repeat' (first | with_reducible assumption | with_reducible exact Below.refl _ _ | with_reducible refine Below.alloc ?_ ?_ _ | with_reducible refine Below.setCell ?_ ?_ _ | with_reducible refine Below.drew ?_ | with_reducible refine below_drewN ?_ _ | (simp <;> omega) | omega))⟩
    · have hlt2 : ¬ (i : Int) < (l.length : Int) := by omega
      clear hi hlt
      go_wp2_with fail
      go_loopg [7, 8, 9, 46] l.length (fun g _ _ _ u46 wy => ∃ i : Nat, i ≤ l.length ∧ l.length - i ≤ g ∧ u46 = .int .i64 (i : Int) ∧ Below w.heap.size w wy)
      case atStart => exact ⟨0, Nat.zero_le _, by omega, rfl, hB⟩
      case round =>
        clear hlt2 hB
        obtain ⟨i, hi, hg, rfl, hB⟩ := hrel
        by_cases hlt : i < l.length
        · have hlt2 : (i : Int) < (l.length : Int) := by omega
          have hBs := hB.size
          have h0 : (0 : Int) ≤ (i : Int) := by omega
          obtain ⟨bk, off, hA1, hbk, hcc⟩ := (HR.out.below hB).el encT_len (by omega) rfl hlt
          subst hA1
          have k0 := hcc i hlt 0 _ rfl
          have k1 := hcc i hlt 1 _ rfl
          have k2 := hcc i hlt 2 _ rfl
          simp only [Nat.add_zero] at k0
          have hx := HK.out _ (List.getElem_mem hlt)
          clear hcc
          generalize l[i] = t at *
          obtain ⟨tk, tt, tp⟩ := t
          obtain ⟨hsz, hx⟩ := lookOk_cases hx
          have hx : tk = 1 ∨ tk = 2 ∨ tk = 6 := by rcases hx with h | ⟨h, -⟩ | ⟨h, -⟩ <;> simp [h]
          simp only at k0 k1 k2
          rcases hx with rfl | rfl | rfl
          all_goals
            go_wp2_with fail
            go_roundg (l.length - (i + 1))
            case measure => omega
            case rel => exact ⟨i + 1, by omega, Nat.le_refl _, by go_num, by (repeat' (first | with_reducible assumption | with_reducible exact Below.refl _ _ | with_reducible refine Below.alloc ?_ ?_ _ | with_reducible refine Below.setCell ?_ ?_ _ | with_reducible refine Below.drew ?_ | with_reducible refine below_drewN ?_ _ | (simp <;> omega) | omega))⟩
        · have hlt2 : ¬ (i : Int) < (l.length : Int) := by omega
          go_wp2_with fail
          go_ret2
          exact ⟨rfl, hB⟩
end Go.Proofs.YtnalfjaojcahhaaGreatDoor
namespace Go.Proofs.YtnalfjaojcahhaaGreatDoor
open Go.RowKit Go.Lib Go.Proofs
attribute [local go_sem ↓] Go.wp_at_zero Go.wp_at_succ

theorem OwnT.reads {B : Nat} {w : World} {v : Value} {l : List Tok} (h : OwnT B w v l) : ∃ A c, v = .slice A l.length c ∧ l.length ≤ c ∧ Reads w w.heap.size 3 A l.length (l.flatMap encT) := by
  obtain ⟨A, c, hv, hle⟩ := h.form
  refine ⟨A, c, hv, hle, ?_⟩
  by_cases h0 : l.length = 0
  · exact ⟨by rw [flat_len encT_len], fun hp => by omega⟩
  · obtain ⟨g, c', hv', hg, hlt⟩ := World.ownsRow.form h (by omega)
    rw [hv] at hv'
    injection hv' with e1 e2 e3
    subst e1 e3
    exact Reads.of_own (hv ▸ h : w.ownsRow B _ 3 (.slice (some ⟨g, 0, none⟩) l.length c) l.length (l.flatMap encT))
theorem readsX_of {w : World} {A : Option Addr} {B n R : Nat} {xs : List Value} (h : Reads w B 3 A n xs) (hR : B ≤ R) : ReadsX (· < R) w 3 A n xs := by
  refine ⟨h.1, fun hn => ?_⟩
  obtain ⟨ad, hA, hb, hc⟩ := h.2 hn
  have hl : 0 < xs.length := by rw [h.1]; omega
  have h0 := hc 0 xs[0] (List.getElem?_eq_getElem hl)
  have hsp := spot_of_cell (show w.cell? ad = some xs[0] from h0)
  obtain ⟨b, o, s⟩ := ad
  have hs' : s = none := by simpa using hsp
  subst hs'
  refine ⟨b, o, hA, Nat.lt_of_lt_of_le hb hR, fun j u hu => ?_⟩
  have := hc j u hu
  rwa [add_at] at this

section
variable (g o c : Nat) (s : ByteArray) (G : Nat) (L : List Tok)
/-- A text that the scanner goes through. -/
structure Goes : Prop where
  ascii : ∀ j, j < s.size → 0 < (s.data.toList.getD j 0).toNat ∧ (s.data.toList.getD j 0).toNat < 128
  most : s.size ≤ 65536
  mark : Lib.hasPrefix s.data.toList [239, 187, 191] = false
  toks : scFrom s (G + 1) 0 [] = some L
  look : ∀ t ∈ L, lookOk t = true
end

set_option maxRecDepth 100000 in
set_option maxHeartbeats 4000000 in
theorem scanAll_ok (g o c : Nat) (s : ByteArray) (w : World) (G : Nat) (L : List Tok) (hG : Goes s G L) (hb : Lib.Bytes w g o s) (hg : g < w.heap.size) (hc : s.size ≤ c) (hT : Tab w) :
    Calls Tryz.prog 58 #[.slice (some ⟨g, o, none⟩) s.size c] w fun e w' => ∃ A cp, e = .returned (.tuple #[.slice A L.length cp, .int .i64 0, .int .i64 0]) ∧ L.length ≤ cp ∧ L.length ≤ 65537 ∧ Reads w' w'.heap.size 3 A L.length (L.flatMap encT) ∧ Below w.heap.size w w' := by
  have HS := Lib.hid (scan_ok g o c s w hb hg hc hG.ascii hT hG.most hG.mark G L hG.toks)
  go_enter Tryz.func58, Tryz.ntmps58
  go_wp2_with fail
  refine HS.out.mono ?_
  rintro e w1 ⟨X, i, nv, rfl, hsc, hX, hB⟩
  obtain ⟨lv, hblk, hO⟩ := hsc.out
  obtain ⟨x0, x1, x2, x3, -, -, -, -⟩ := blk4 hblk
  obtain ⟨A, cp, rfl, hle, hr⟩ := hO.reads
  have hfew := hsc.few
  clear hsc hblk HS
  go_wp2_with fail
  go_ret3
  exact ⟨A, cp, rfl, hle, hfew, hr, hB⟩

set_option maxRecDepth 100000 in
set_option maxHeartbeats 4000000 in
theorem begin_ok (g o c : Nat) (s : ByteArray) (w : World) (G : Nat) (L : List Tok) (hG : Goes s G L) (hb : Lib.Bytes w g o s) (hg : g < w.heap.size) (hc : s.size ≤ c) (hT : Tab w) :
    Calls Tryz.prog 46 #[.slice (some ⟨g, o, none⟩) s.size c] w fun e w' => ∃ E : Env, e = .returned (.tuple #[.pointer (some ⟨E.R, 0, none⟩), .int .i64 0, .int .i64 0]) ∧ E.c = ⟨L, (s.size : Int)⟩ ∧ RdAt E w' ⟨0, false, -1⟩ ∧ w.heap.size ≤ E.R ∧ Below w.heap.size w w' := by
  have HS := Lib.hid (scanAll_ok g o c s w G L hG hb hg hc hT)
  have HT := Lib.hid hT
  have HL := Lib.hid hG.look
  clear hT hG hb
  go_enter Tryz.func46, Tryz.ntmps46
  go_wp2_with fail
  refine HS.out.mono ?_
  rintro e w1 ⟨A, cp, rfl, hle, hfew, hr, hB⟩
  have HLK := Lib.hid (looked_ok A cp L w1 hr (by omega) (HT.out.below hB) HL.out)
  have HR := Lib.hid hr
  clear HS hr
  go_wp2_with fail
  refine HLK.out.mono ?_
  rintro e w2 ⟨rfl, hb2⟩
  have hB2 := hB.trans (hb2.mono hB.size)
  have HR2 := Lib.hid (HR.out.below hb2)
  clear HLK HR
  go_wp2_with fail
  go_ret3
  refine ⟨⟨w2.heap.size, A, cp, ⟨L, (s.size : Int)⟩⟩, rfl, rfl, ⟨Blk.new _ _ _, ?_, Nat.zero_le _, by show L.length ≤ 1000000; omega, hle⟩, hB2.size, hB2.alloc hB2.size _⟩
  exact readsX_of (HR2.out.below ((Below.refl w1.heap.size w2).alloc hb2.size _)) hb2.size
end Go.Proofs.YtnalfjaojcahhaaGreatDoor
namespace Go.Proofs.YtnalfjaojcahhaaGreatDoor
open Go.RowKit Go.Lib Go.Proofs
attribute [local go_sem ↓] Go.wp_at_zero Go.wp_at_succ
attribute [local go_sem] fld_tok0 fld_tok1 fld_tok2 fld_nd0 fld_nd1 fld_nd2 fld_nd3

theorem enter_pp (a : Array Value) (w : World) : (callFunc 147 a).run Tryz.prog w = .ok (.enter 147 a) w := by kernel_rfl

set_option maxRecDepth 100000 in
set_option maxHeartbeats 4000000 in
theorem rparams_any (E : Env) (F : Fns) (hF : OkF E F) : ReadC E (paramsR F) 95 := by
  intro w s h hno
  generalize hres : paramsR F E.c s = res at *
  have HRES := Lib.hid hres
  have HNE := Lib.hid hno
  have hltR := h.lt
  have hmost := h.most
  clear hres hno
  go_enter Tryz.func95, Tryz.ntmps95
  go_wp2_with fail
  have hB0 : Blk ((w.alloc (.cells #[.pointer (some ⟨E.R, 0, none⟩)] 59)).alloc (.cells ndZ 24)) w.heap.size 59 #[.pointer (some ⟨E.R, 0, none⟩)] := (Blk.new w _ _).alloc _
  have hG0 : Blk ((w.alloc (.cells #[.pointer (some ⟨E.R, 0, none⟩)] 59)).alloc (.cells ndZ 24)) (w.heap.size + 1) 24 ndZ := by
    have := Blk.new (w.alloc (.cells #[.pointer (some ⟨E.R, 0, none⟩)] 59)) 24 ndZ
    simpa using this
  refine (next_any E s _ ((h.alloc _).alloc _)).mono ?_
  unfold tokV
  rintro e w1 ⟨rfl, hb1⟩
  have hq1 := (((Seen.refl h).alloc _).alloc _).step hb1
  have hG1 := hG0.below hb1 (by simp)
  have hB1 := hB0.below hb1 (by simp; omega)
  have hltG1 := hG1.lt
  clear hb1 hG0 hB0
  go_wp2_with fail
  refine (node_any _ _ _ _ _ ⟨_, _, _, rfl⟩).mono ?_
  rintro e w2 ⟨rfl, hb2⟩
  have hM2 := hq1.moved.step hb2
  have hG2 := hG1.below hb2 hltG1
  have hB2 := hB1.below hb2 (by omega)
  have hs2 := hb2.size
  have b2 := hB2.cell 0
  simp at b2
  have hltB2 := hB2.lt
  have hneB2 := Nat.ne_of_lt hltB2
  clear hb2 hG1 hB1 hq1
  go_wp2_with fail
  have hL3 := Blk.new w2 24 #[.int .i64 6, .string (⟨#[]⟩ : ByteArray), .slice none 0 0, .int .i64 (posS E.c s)]
  have hG3 := hG2.alloc (.cells #[.int .i64 6, .string (⟨#[]⟩ : ByteArray), .slice none 0 0, .int .i64 (posS E.c s)] 24)
  have hB3 := hB2.alloc (.cells #[.int .i64 6, .string (⟨#[]⟩ : ByteArray), .slice none 0 0, .int .i64 (posS E.c s)] 24)
  have hM3 := hM2.alloc (.cells #[.int .i64 6, .string (⟨#[]⟩ : ByteArray), .slice none 0 0, .int .i64 (posS E.c s)] 24)
  refine (is_any E s _ _ hM3.rd).mono ?_
  rintro e w4 ⟨rfl, hb4⟩
  have hs4 : w2.heap.size + 1 ≤ w4.heap.size := by have := hb4.size; simp at this; omega
  have hL4 := hL3.below hb4 (by simp)
  have hG4 := hG3.below hb4 (by simp; omega)
  have hB4 := hB3.below hb4 (by simp; omega)
  have hM4 := hM3.step hb4
  have b4 := hB4.cell 0
  simp at b4
  clear hL3 hG3 hB3 hM3 hb4 hG2 hB2 hM2 b2
  cases hI : isS E.c s (⟨#[91]⟩ : ByteArray) with
  | false =>
    have HF := Lib.hid (show res = .ok (.mk 6 (⟨#[]⟩ : ByteArray) [] 0) s by rw [← HRES.out, paramsR]; simp [hI])
    obtain ⟨x0, x1, x2, x3, y0, y1, y2, y3⟩ := blk4 hL4
    obtain ⟨d0, d1, d2, d3, e0, e1, e2, e3⟩ := blk4 hG4
    have hneLG : w2.heap.size ≠ w.heap.size + 1 := by omega
    clear HRES
    go_wp2_with fail
    refine end_node (X := fun _ => False) HF.out (NodeV.leaf _ _ _) (hM4.own (p := ⟨w2.heap.size, 3, none⟩) (by show w.heap.size ≤ w2.heap.size; omega) (by show E.R < w2.heap.size; omega) _) (hG4.far (p := ⟨w2.heap.size, 3, none⟩) (by show w.heap.size + 1 ≠ w2.heap.size; omega) _) (by omega) (by omega) ?_ rfl (by rfl) rfl
    exact fun _ h => h.elim
  | true =>
    go_wp2_with fail
    refine (slice_any E s _ hM4.rd).mono ?_
    rintro e w5 ⟨rfl, hq5⟩
    have hL5 := hL4.below hq5.bel (by omega)
    have hG5 := hG4.below hq5.bel (by omega)
    have hB5 := hB4.below hq5.bel (by omega)
    have hM5 := hM4.trans hq5.moved
    have hs5 := hq5.bel.size
    clear hL4 hG4 hB4 hM4 hq5 b4
    cases hJ : sliceB E.c s with
    | true =>
      have HF := Lib.hid (show res = .ok (.mk 6 (⟨#[]⟩ : ByteArray) [] 0) s by rw [← HRES.out, paramsR]; simp [hI, hJ])
      obtain ⟨x0, x1, x2, x3, y0, y1, y2, y3⟩ := blk4 hL5
      obtain ⟨d0, d1, d2, d3, e0, e1, e2, e3⟩ := blk4 hG5
      have hneLG : w2.heap.size ≠ w.heap.size + 1 := by omega
      clear HRES
      go_wp2_with fail
      refine end_node (X := fun _ => False) HF.out (NodeV.leaf _ _ _) (hM5.own (p := ⟨w2.heap.size, 3, none⟩) (by show w.heap.size ≤ w2.heap.size; omega) (by show E.R < w2.heap.size; omega) _) (hG5.far (p := ⟨w2.heap.size, 3, none⟩) (by show w.heap.size + 1 ≠ w2.heap.size; omega) _) (by omega) (by omega) ?_ rfl (by rfl) rfl
      exact fun _ h => h.elim
    | false =>
      have HE3 := Lib.hid (show (rowGo (paramPart F) (⟨#[93]⟩ : ByteArray) F.g [] E.c (adv s)).bind (fun l s1 => if l.length = 0 then .fail (posS E.c s1) else .ok (.mk 6 (⟨#[]⟩ : ByteArray) l (posS E.c s)) s1) = res by rw [← HRES.out, paramsR]; simp [hI, hJ])
      have hlt1 := isS_lt hM5.rd hI
      obtain ⟨c0, c1, c2, c3, c4, f0⟩ := hM5.rd.cells
      have f1 := f0 1
      have hltR5 := hM5.rd.lt
      have b5 := hB5.cell 0
      simp at b5
      have hneBR : w.heap.size ≠ E.R := by omega
      clear HRES hI hJ f0
      go_wp2_with fail
      have hM6 := hM5.setAt (s.at_ + 1) (by omega)
      have hL6 := hL5.far (p := ⟨E.R, 1, none⟩) (by show w2.heap.size ≠ E.R; omega) (.int .i64 ((s.at_ + 1 : Nat) : Int))
      have hG6 := hG5.far (p := ⟨E.R, 1, none⟩) (by show w.heap.size + 1 ≠ E.R; omega) (.int .i64 ((s.at_ + 1 : Nat) : Int))
      have hB6 := hB5.far (p := ⟨E.R, 1, none⟩) (by show w.heap.size ≠ E.R; omega) (.int .i64 ((s.at_ + 1 : Nat) : Int))
      have hs6 : w5.heap.size ≤ (w5.setCell ⟨E.R, 1, none⟩ (.int .i64 ((s.at_ + 1 : Nat) : Int))).heap.size := by simp
      clear hL5 hG5 hB5 hM5 c0 c1 c2 c3 c4 f1 b5
      cases hP : rowGo (paramPart F) (⟨#[93]⟩ : ByteArray) F.g [] E.c (adv s) with
      | out => exact absurd HE3.out.symm (by rw [hP]; exact HNE.out)
      | fail q =>
        refine (row_any E 147 #[] #[.pointer (some ⟨w.heap.size, 0, none⟩)] (paramPart F) (⟨#[93]⟩ : ByteArray) F.g (adv s) _ hM6.rd enter_pp (param_part E F (constraint_any E F hF) w.heap.size _ hB6 hneBR) (by rw [hP]; exact nofun) hF.g).mono ?_
        rw [hP]
        rintro e w7 ⟨rfl, hg7⟩
        unfold wrongV
        exact ⟨rfl, end_fail (by rw [← HE3.out, hP]; rfl) hM6.gr hg7⟩
      | ok l s2 =>
        have HE4 := Lib.hid (show (if l.length = 0 then .fail (posS E.c s2) else .ok (.mk 6 (⟨#[]⟩ : ByteArray) l (posS E.c s)) s2) = res by rw [← HE3.out, hP]; rfl)
        refine (row_any E 147 #[] #[.pointer (some ⟨w.heap.size, 0, none⟩)] (paramPart F) (⟨#[93]⟩ : ByteArray) F.g (adv s) _ hM6.rd enter_pp (param_part E F (constraint_any E F hF) w.heap.size _ hB6 hneBR) (by rw [hP]; exact nofun) hF.g).mono ?_
        rw [hP]
        rintro e w7 ⟨⟨v, rfl, hv⟩, hm7⟩
        have hL7 := hL6.grown hm7.gr (fun e => by injection e with e; omega)
        have hG7 := hG6.grown hm7.gr (fun e => by injection e with e; omega)
        have hB7 := hB6.grown hm7.gr (fun e => by injection e with e; omega)
        have hM7 := hM6.trans hm7
        have hs7 := hm7.gr.size
        have hvk := hv.mono (Y := fun b => w2.heap.size + 1 ≤ b) (fun b hb _ => by omega)
        obtain ⟨A, cp, xs, rfl, _, _, _⟩ := hv
        obtain ⟨x0, x1, x2, x3, y0, y1, y2, y3⟩ := blk4 hL7
        have hltL := hL7.lt
        have b7 := hB7.cell 0
        simp at b7
        have hneBL : w.heap.size ≠ w2.heap.size := by omega
        clear HE3 hP hL6 hG6 hB6 hM6 hm7
        by_cases hz : l.length = 0
        · have HF := Lib.hid (show res = .fail (posS E.c s2) by rw [← HE4.out, if_pos hz])
          have hzz : ((l.length : Int) == 0) = true := by rw [hz]; rfl
          clear HE4 hz
          go_wp2_with fail
          have hM8 := hM7.own (p := ⟨w2.heap.size, 2, none⟩) (by show w.heap.size ≤ w2.heap.size; omega) (by show E.R < w2.heap.size; omega) (.slice A l.length cp)
          refine (fail_any E s2 _ hM8.rd).mono ?_
          rintro e w9 ⟨rfl, hb9⟩
          unfold wrongV
          exact ⟨rfl, end_fail HF.out hM8.gr (grownBy_of_below _ hb9)⟩
        · have HF := Lib.hid (show res = .ok (.mk 6 (⟨#[]⟩ : ByteArray) l (posS E.c s)) s2 by rw [← HE4.out, if_neg hz])
          have hzz : ((l.length : Int) == 0) = false := by rw [beq_eq_false_iff_ne]; omega
          obtain ⟨d0, d1, d2, d3, e0, e1, e2, e3⟩ := blk4 hG7
          have hneG : w.heap.size + 1 ≠ w2.heap.size := by omega
          clear HE4 hz
          go_wp2_with fail
          have hM8 := hM7.own (p := ⟨w2.heap.size, 2, none⟩) (by show w.heap.size ≤ w2.heap.size; omega) (by show E.R < w2.heap.size; omega) (.slice A l.length cp)
          refine end_node (X := fun b => w2.heap.size + 1 ≤ b) HF.out ?_ hM8 (hG7.far (p := ⟨w2.heap.size, 2, none⟩) (by show w.heap.size + 1 ≠ w2.heap.size; omega) (.slice A l.length cp)) (by omega) (by omega) ?_ rfl (by rfl) rfl
          · exact (NodeV.of_slice hvk 6 (⟨#[]⟩ : ByteArray) (posS E.c s)).kept ((KeepsX.refl _ _).setCell (fun hX => by simp at hX; omega) _)
          · intro b hb
            constructor <;> omega
end Go.Proofs.YtnalfjaojcahhaaGreatDoor
