/-
  The walks of ref01.Sign and ref01.Of. By an AI agent.
-/
import Derived.Test.YtbkkegnmlhhpcaaDoorRsign
import Derived.Deep.QuietTactic
import Derived.BigQuiet
namespace Go.Proofs.YtbkkegnmlhhpcaaDoor
open Go.RowKit Go.Lib Go.Proofs

theorem byte_cells {A : Option Addr} {B : Nat} {s : ByteArray} {w : World} (h : Reads w B 1 A s.size (s.data.toList.flatMap byteV)) (hp : 0 < s.size) :
    ∃ b off, A = some ⟨b, off, none⟩ ∧ b < B ∧ ∀ j, j < s.size → w.cell? ⟨b, off + j, none⟩ = some (.int .u8 (byteAt s j : Int)) := by
  obtain ⟨b, off, rfl, hb, hc⟩ := h.el byteV_len (by omega) (by simp) hp
  refine ⟨b, off, rfl, hb, fun j hj => ?_⟩
  have hj' : j < s.data.toList.length := by simpa using hj
  have := hc j hj' 0 _ rfl
  rw [Nat.mul_one, Nat.add_zero, ← byteAt_get s j hj'] at this
  exact this

/-- What Sign hands back. -/
def SignOf (d : Nat × Nat) (w : World) (e : Ending) (w' : World) : Prop := e = .returned (.tuple #[.int .i64 (d.2 : Int), .int .i64 (signV d)]) ∧ w = w'

set_option maxRecDepth 100000 in
set_option maxHeartbeats 4000000 in
theorem sign_any (A : Option Addr) (c : Nat) (s : ByteArray) (i : Nat) (w : World) (hsz : s.size ≤ 100000) (hi : i < s.size) (h : Reads w w.heap.size 1 A s.size (s.data.toList.flatMap byteV)) :
    Calls Tryd.prog 35 #[.slice A s.size c, .int .i64 i] w (SignOf (Utf8.decode s i) w) := by
  obtain ⟨b, off, rfl, hb, hc⟩ := byte_cells h (by omega)
  have c0 := hc i hi
  have c1 := hc (i + 1)
  have c2 := hc (i + 2)
  have c3 := hc (i + 3)
  clear h hc
  have b0 := byteAt_lt s i
  have b1 := byteAt_lt s (i + 1)
  have b2 := byteAt_lt s (i + 2)
  have b3 := byteAt_lt s (i + 3)
  have HI : Hid (i < s.size) := Lib.hid hi
  have l1 : ((i : Int) + 1).toNat = i + 1 := by omega
  have l2 : ((i : Int) + 2).toNat = i + 2 := by omega
  have l3 : ((i : Int) + 3).toNat = i + 3 := by omega
  by_cases h1 : byteAt s i < 128
  · rw [dec_ascii h1]
    generalize hz : ((byteAt s i : Nat) : Int) = z0 at *
    have z0a : 0 ≤ z0 := by omega
    have z0b : z0 < 128 := by omega
    have HV := Lib.hid (show signV (byteAt s i, 1) = z0 by unfold signV; rw [if_neg (fun e => by simp only [Prod.mk.injEq] at e; omega)]; exact hz)
    clear hz c1 c2 c3 b0 b1 b2 b3 h1 l1 l2 l3
    (go_enter Tryd.func35, Tryd.ntmps35; go_wp2_with fail)
    go_ret2
    exact ⟨by rw [HV.out]; rfl, rfl⟩
  by_cases h2 : byteAt s i < 194 ∨ 244 < byteAt s i
  · rw [dec_other (by omega) h2]
    have h2a : ((byteAt s i : Nat) : Int) < 194 ∨ 244 < ((byteAt s i : Nat) : Int) := by omega
    have h1a : ¬ ((byteAt s i : Nat) : Int) < 128 := by omega
    have h0a : ((byteAt s i : Nat) : Int) < 256 := by omega
    have h0b : 0 ≤ ((byteAt s i : Nat) : Int) := by omega
    generalize ((byteAt s i : Nat) : Int) = z0 at *
    clear c1 c2 c3 b0 b1 b2 b3 h1 h2 l1 l2 l3
    rcases h2a with h2a | h2a
    · (go_enter Tryd.func35, Tryd.ntmps35; go_wp2_with fail)
      go_ret2
      exact ⟨rfl, rfl⟩
    · (go_enter Tryd.func35, Tryd.ntmps35; go_wp2_with fail)
      go_ret2
      exact ⟨rfl, rfl⟩
  have h0a : ((byteAt s i : Nat) : Int) < 256 := by omega
  have h0b : ¬ ((byteAt s i : Nat) : Int) < 128 := by omega
  have h0c : 194 ≤ ((byteAt s i : Nat) : Int) := by omega
  have h0d : ((byteAt s i : Nat) : Int) ≤ 244 := by omega
  have y1a : 0 ≤ ((byteAt s (i + 1) : Nat) : Int) := by omega
  have y1b : ((byteAt s (i + 1) : Nat) : Int) < 256 := by omega
  have y2a : 0 ≤ ((byteAt s (i + 2) : Nat) : Int) := by omega
  have y2b : ((byteAt s (i + 2) : Nat) : Int) < 256 := by omega
  have y3a : 0 ≤ ((byteAt s (i + 3) : Nat) : Int) := by omega
  have y3b : ((byteAt s (i + 3) : Nat) : Int) < 256 := by omega
  by_cases h3 : byteAt s i ≤ 223
  · skip
    have h0e : ((byteAt s i : Nat) : Int) ≤ 223 := by omega
    have h0f : 194 ≤ ((byteAt s i : Nat) : Int) := by omega
    by_cases hk : i + 1 < s.size
    · replace c1 := c1 (by omega)
      clear c2 c3
      by_cases u1 : byteAt s (i + 1) < 128
      · rw [dec_two_bad (by omega) (by omega) (by omega)]
        have x1 : ((byteAt s (i + 1) : Nat) : Int) < 128 := by omega
        generalize ((byteAt s i : Nat) : Int) = z0 at *
        generalize ((byteAt s (i + 1) : Nat) : Int) = z1 at *
        clear h1 h2 b0 b1 b2 b3
        (go_enter Tryd.func35, Tryd.ntmps35; go_wp2_with fail)
        refine wp_loop_rounds 4 ?_
        (rw [rounds_succ]; go_wp2_with fail)
        go_ret2
        exact ⟨rfl, rfl⟩
      by_cases t1 : 191 < byteAt s (i + 1)
      · rw [dec_two_bad (by omega) (by omega) (by omega)]
        have x1 : 191 < ((byteAt s (i + 1) : Nat) : Int) := by omega
        generalize ((byteAt s i : Nat) : Int) = z0 at *
        generalize ((byteAt s (i + 1) : Nat) : Int) = z1 at *
        clear h1 h2 b0 b1 b2 b3
        (go_enter Tryd.func35, Tryd.ntmps35; go_wp2_with fail)
        refine wp_loop_rounds 4 ?_
        (rw [rounds_succ]; go_wp2_with fail)
        go_ret2
        exact ⟨rfl, rfl⟩
      have x1 : 128 ≤ ((byteAt s (i + 1) : Nat) : Int) := by omega
      have x1' : ((byteAt s (i + 1) : Nat) : Int) ≤ 191 := by omega
      obtain ⟨v, hv⟩ : ∃ v, v = (byteAt s i - 192) * 64 + (byteAt s (i + 1) - 128) := ⟨_, rfl⟩
      have HZ := Lib.hid (show (v : Int) = 64 * (((byteAt s i : Nat) : Int) - 192) + ((byteAt s (i + 1) : Nat) : Int) - 128 by omega)
      rw [dec_two (by omega) (by omega) hk (by omega) (by omega), ← hv]
      have HV := Lib.hid (show signV (v, 2) = (v : Int) by unfold signV; rw [if_neg (fun e => by simp only [Prod.mk.injEq] at e; omega)])
      clear hv
      generalize ((byteAt s i : Nat) : Int) = z0 at *
      generalize ((byteAt s (i + 1) : Nat) : Int) = z1 at *
      clear h1 h2 b0 b1 b2 b3
      (go_enter Tryd.func35, Tryd.ntmps35; go_wp2_with fail)
      refine wp_loop_rounds 4 ?_
      (rw [rounds_succ]; go_wp2_with fail)
      (rw [rounds_succ]; go_wp2_with fail)
      go_ret2
      refine ⟨?_, rfl⟩; rw [HV.out, HZ.out]; rfl
    · rw [dec_two_bad (by omega) (by omega) (by omega)]
      clear c1 c2 c3
      generalize ((byteAt s i : Nat) : Int) = z0 at *
      generalize ((byteAt s (i + 1) : Nat) : Int) = z1 at *
      clear h1 h2 b0 b1 b2 b3
      (go_enter Tryd.func35, Tryd.ntmps35; go_wp2_with fail)
      go_ret2
      exact ⟨rfl, rfl⟩
  by_cases h4 : byteAt s i ≤ 239
  · skip
    have h0e : ((byteAt s i : Nat) : Int) ≤ 239 := by omega
    have h0f : 224 ≤ ((byteAt s i : Nat) : Int) := by omega
    by_cases hk : i + 2 < s.size
    · replace c1 := c1 (by omega); replace c2 := c2 (by omega)
      clear c3
      by_cases u1 : byteAt s (i + 1) < 128
      · rw [dec_three_bad (by omega) (by omega) (by omega)]
        have x1 : ((byteAt s (i + 1) : Nat) : Int) < 128 := by omega
        generalize ((byteAt s i : Nat) : Int) = z0 at *
        generalize ((byteAt s (i + 1) : Nat) : Int) = z1 at *
        generalize ((byteAt s (i + 2) : Nat) : Int) = z2 at *
        clear h1 h2 b0 b1 b2 b3
        (go_enter Tryd.func35, Tryd.ntmps35; go_wp2_with fail)
        refine wp_loop_rounds 4 ?_
        (rw [rounds_succ]; go_wp2_with fail)
        go_ret2
        exact ⟨rfl, rfl⟩
      by_cases t1 : 191 < byteAt s (i + 1)
      · rw [dec_three_bad (by omega) (by omega) (by omega)]
        have x1 : 191 < ((byteAt s (i + 1) : Nat) : Int) := by omega
        generalize ((byteAt s i : Nat) : Int) = z0 at *
        generalize ((byteAt s (i + 1) : Nat) : Int) = z1 at *
        generalize ((byteAt s (i + 2) : Nat) : Int) = z2 at *
        clear h1 h2 b0 b1 b2 b3
        (go_enter Tryd.func35, Tryd.ntmps35; go_wp2_with fail)
        refine wp_loop_rounds 4 ?_
        (rw [rounds_succ]; go_wp2_with fail)
        go_ret2
        exact ⟨rfl, rfl⟩
      have x1 : 128 ≤ ((byteAt s (i + 1) : Nat) : Int) := by omega
      have x1' : ((byteAt s (i + 1) : Nat) : Int) ≤ 191 := by omega
      by_cases u2 : byteAt s (i + 2) < 128
      · rw [dec_three_bad (by omega) (by omega) (by omega)]
        have x2 : ((byteAt s (i + 2) : Nat) : Int) < 128 := by omega
        generalize ((byteAt s i : Nat) : Int) = z0 at *
        generalize ((byteAt s (i + 1) : Nat) : Int) = z1 at *
        generalize ((byteAt s (i + 2) : Nat) : Int) = z2 at *
        clear h1 h2 b0 b1 b2 b3
        (go_enter Tryd.func35, Tryd.ntmps35; go_wp2_with fail)
        refine wp_loop_rounds 4 ?_
        (rw [rounds_succ]; go_wp2_with fail)
        (rw [rounds_succ]; go_wp2_with fail)
        go_ret2
        exact ⟨rfl, rfl⟩
      by_cases t2 : 191 < byteAt s (i + 2)
      · rw [dec_three_bad (by omega) (by omega) (by omega)]
        have x2 : 191 < ((byteAt s (i + 2) : Nat) : Int) := by omega
        generalize ((byteAt s i : Nat) : Int) = z0 at *
        generalize ((byteAt s (i + 1) : Nat) : Int) = z1 at *
        generalize ((byteAt s (i + 2) : Nat) : Int) = z2 at *
        clear h1 h2 b0 b1 b2 b3
        (go_enter Tryd.func35, Tryd.ntmps35; go_wp2_with fail)
        refine wp_loop_rounds 4 ?_
        (rw [rounds_succ]; go_wp2_with fail)
        (rw [rounds_succ]; go_wp2_with fail)
        go_ret2
        exact ⟨rfl, rfl⟩
      have x2 : 128 ≤ ((byteAt s (i + 2) : Nat) : Int) := by omega
      have x2' : ((byteAt s (i + 2) : Nat) : Int) ≤ 191 := by omega
      obtain ⟨v, hv⟩ : ∃ v, v = (byteAt s i - 224) * 4096 + (byteAt s (i + 1) - 128) * 64 + (byteAt s (i + 2) - 128) := ⟨_, rfl⟩
      have HZ := Lib.hid (show (v : Int) = 64 * (64 * (((byteAt s i : Nat) : Int) - 224) + ((byteAt s (i + 1) : Nat) : Int) - 128) + ((byteAt s (i + 2) : Nat) : Int) - 128 by omega)
      rw [dec_three (by omega) (by omega) hk (by omega) (by omega) (by omega) (by omega) v hv]
      have HV := Lib.hid (show signV (v, 3) = (v : Int) by unfold signV; rw [if_neg (fun e => by simp only [Prod.mk.injEq] at e; omega)])
      by_cases g1 : v < 2048
      · rw [if_neg (by omega)]
        have g1' : 64 * (64 * (((byteAt s i : Nat) : Int) - 224) + ((byteAt s (i + 1) : Nat) : Int) - 128) + ((byteAt s (i + 2) : Nat) : Int) - 128 < 2048 := by omega
        clear hv g1 HV HZ
        generalize ((byteAt s i : Nat) : Int) = z0 at *
        generalize ((byteAt s (i + 1) : Nat) : Int) = z1 at *
        generalize ((byteAt s (i + 2) : Nat) : Int) = z2 at *
        clear h1 h2 b0 b1 b2 b3
        (go_enter Tryd.func35, Tryd.ntmps35; go_wp2_with fail)
        refine wp_loop_rounds 4 ?_
        (rw [rounds_succ]; go_wp2_with fail)
        (rw [rounds_succ]; go_wp2_with fail)
        (rw [rounds_succ]; go_wp2_with fail)
        go_ret2
        exact ⟨rfl, rfl⟩
      have g1' : ¬ 64 * (64 * (((byteAt s i : Nat) : Int) - 224) + ((byteAt s (i + 1) : Nat) : Int) - 128) + ((byteAt s (i + 2) : Nat) : Int) - 128 < 2048 := by omega
      by_cases g2 : 55296 ≤ v ∧ v ≤ 57343
      · rw [if_neg (by omega)]
        have g2' : 55296 ≤ 64 * (64 * (((byteAt s i : Nat) : Int) - 224) + ((byteAt s (i + 1) : Nat) : Int) - 128) + ((byteAt s (i + 2) : Nat) : Int) - 128 := by omega
        have g3' : 64 * (64 * (((byteAt s i : Nat) : Int) - 224) + ((byteAt s (i + 1) : Nat) : Int) - 128) + ((byteAt s (i + 2) : Nat) : Int) - 128 ≤ 57343 := by omega
        clear hv g1 g2 HV HZ
        generalize ((byteAt s i : Nat) : Int) = z0 at *
        generalize ((byteAt s (i + 1) : Nat) : Int) = z1 at *
        generalize ((byteAt s (i + 2) : Nat) : Int) = z2 at *
        clear h1 h2 b0 b1 b2 b3
        (go_enter Tryd.func35, Tryd.ntmps35; go_wp2_with fail)
        refine wp_loop_rounds 4 ?_
        (rw [rounds_succ]; go_wp2_with fail)
        (rw [rounds_succ]; go_wp2_with fail)
        (rw [rounds_succ]; go_wp2_with fail)
        go_ret2
        exact ⟨rfl, rfl⟩
      rw [if_pos (by omega)]
      by_cases g3 : v < 55296
      · have g2' : ¬ 55296 ≤ 64 * (64 * (((byteAt s i : Nat) : Int) - 224) + ((byteAt s (i + 1) : Nat) : Int) - 128) + ((byteAt s (i + 2) : Nat) : Int) - 128 := by omega
        clear hv g1 g2 g3
        generalize ((byteAt s i : Nat) : Int) = z0 at *
        generalize ((byteAt s (i + 1) : Nat) : Int) = z1 at *
        generalize ((byteAt s (i + 2) : Nat) : Int) = z2 at *
        clear h1 h2 b0 b1 b2 b3
        (go_enter Tryd.func35, Tryd.ntmps35; go_wp2_with fail)
        refine wp_loop_rounds 4 ?_
        (rw [rounds_succ]; go_wp2_with fail)
        (rw [rounds_succ]; go_wp2_with fail)
        (rw [rounds_succ]; go_wp2_with fail)
        go_ret2
        refine ⟨?_, rfl⟩; rw [HV.out, HZ.out]; rfl
      · have g2' : ¬ 64 * (64 * (((byteAt s i : Nat) : Int) - 224) + ((byteAt s (i + 1) : Nat) : Int) - 128) + ((byteAt s (i + 2) : Nat) : Int) - 128 ≤ 57343 := by omega
        have g3' : 55296 ≤ 64 * (64 * (((byteAt s i : Nat) : Int) - 224) + ((byteAt s (i + 1) : Nat) : Int) - 128) + ((byteAt s (i + 2) : Nat) : Int) - 128 := by omega
        clear hv g1 g2 g3
        generalize ((byteAt s i : Nat) : Int) = z0 at *
        generalize ((byteAt s (i + 1) : Nat) : Int) = z1 at *
        generalize ((byteAt s (i + 2) : Nat) : Int) = z2 at *
        clear h1 h2 b0 b1 b2 b3
        (go_enter Tryd.func35, Tryd.ntmps35; go_wp2_with fail)
        refine wp_loop_rounds 4 ?_
        (rw [rounds_succ]; go_wp2_with fail)
        (rw [rounds_succ]; go_wp2_with fail)
        (rw [rounds_succ]; go_wp2_with fail)
        go_ret2
        refine ⟨?_, rfl⟩; rw [HV.out, HZ.out]; rfl
    · rw [dec_three_bad (by omega) (by omega) (by omega)]
      clear c1 c2 c3
      generalize ((byteAt s i : Nat) : Int) = z0 at *
      generalize ((byteAt s (i + 1) : Nat) : Int) = z1 at *
      generalize ((byteAt s (i + 2) : Nat) : Int) = z2 at *
      clear h1 h2 b0 b1 b2 b3
      (go_enter Tryd.func35, Tryd.ntmps35; go_wp2_with fail)
      go_ret2
      exact ⟨rfl, rfl⟩
  have h0e : ((byteAt s i : Nat) : Int) ≤ 244 := by omega
  have h0f : 240 ≤ ((byteAt s i : Nat) : Int) := by omega
  by_cases hk : i + 3 < s.size
  · replace c1 := c1 (by omega); replace c2 := c2 (by omega); replace c3 := c3 (by omega)
    by_cases u1 : byteAt s (i + 1) < 128
    · rw [dec_four_bad (by omega) (by omega) (by omega)]
      have x1 : ((byteAt s (i + 1) : Nat) : Int) < 128 := by omega
      generalize ((byteAt s i : Nat) : Int) = z0 at *
      generalize ((byteAt s (i + 1) : Nat) : Int) = z1 at *
      generalize ((byteAt s (i + 2) : Nat) : Int) = z2 at *
      generalize ((byteAt s (i + 3) : Nat) : Int) = z3 at *
      clear h1 h2 b0 b1 b2 b3
      (go_enter Tryd.func35, Tryd.ntmps35; go_wp2_with fail)
      refine wp_loop_rounds 4 ?_
      (rw [rounds_succ]; go_wp2_with fail)
      go_ret2
      exact ⟨rfl, rfl⟩
    by_cases t1 : 191 < byteAt s (i + 1)
    · rw [dec_four_bad (by omega) (by omega) (by omega)]
      have x1 : 191 < ((byteAt s (i + 1) : Nat) : Int) := by omega
      generalize ((byteAt s i : Nat) : Int) = z0 at *
      generalize ((byteAt s (i + 1) : Nat) : Int) = z1 at *
      generalize ((byteAt s (i + 2) : Nat) : Int) = z2 at *
      generalize ((byteAt s (i + 3) : Nat) : Int) = z3 at *
      clear h1 h2 b0 b1 b2 b3
      (go_enter Tryd.func35, Tryd.ntmps35; go_wp2_with fail)
      refine wp_loop_rounds 4 ?_
      (rw [rounds_succ]; go_wp2_with fail)
      go_ret2
      exact ⟨rfl, rfl⟩
    have x1 : 128 ≤ ((byteAt s (i + 1) : Nat) : Int) := by omega
    have x1' : ((byteAt s (i + 1) : Nat) : Int) ≤ 191 := by omega
    by_cases u2 : byteAt s (i + 2) < 128
    · rw [dec_four_bad (by omega) (by omega) (by omega)]
      have x2 : ((byteAt s (i + 2) : Nat) : Int) < 128 := by omega
      generalize ((byteAt s i : Nat) : Int) = z0 at *
      generalize ((byteAt s (i + 1) : Nat) : Int) = z1 at *
      generalize ((byteAt s (i + 2) : Nat) : Int) = z2 at *
      generalize ((byteAt s (i + 3) : Nat) : Int) = z3 at *
      clear h1 h2 b0 b1 b2 b3
      (go_enter Tryd.func35, Tryd.ntmps35; go_wp2_with fail)
      refine wp_loop_rounds 4 ?_
      (rw [rounds_succ]; go_wp2_with fail)
      (rw [rounds_succ]; go_wp2_with fail)
      go_ret2
      exact ⟨rfl, rfl⟩
    by_cases t2 : 191 < byteAt s (i + 2)
    · rw [dec_four_bad (by omega) (by omega) (by omega)]
      have x2 : 191 < ((byteAt s (i + 2) : Nat) : Int) := by omega
      generalize ((byteAt s i : Nat) : Int) = z0 at *
      generalize ((byteAt s (i + 1) : Nat) : Int) = z1 at *
      generalize ((byteAt s (i + 2) : Nat) : Int) = z2 at *
      generalize ((byteAt s (i + 3) : Nat) : Int) = z3 at *
      clear h1 h2 b0 b1 b2 b3
      (go_enter Tryd.func35, Tryd.ntmps35; go_wp2_with fail)
      refine wp_loop_rounds 4 ?_
      (rw [rounds_succ]; go_wp2_with fail)
      (rw [rounds_succ]; go_wp2_with fail)
      go_ret2
      exact ⟨rfl, rfl⟩
    have x2 : 128 ≤ ((byteAt s (i + 2) : Nat) : Int) := by omega
    have x2' : ((byteAt s (i + 2) : Nat) : Int) ≤ 191 := by omega
    by_cases u3 : byteAt s (i + 3) < 128
    · rw [dec_four_bad (by omega) (by omega) (by omega)]
      have x3 : ((byteAt s (i + 3) : Nat) : Int) < 128 := by omega
      generalize ((byteAt s i : Nat) : Int) = z0 at *
      generalize ((byteAt s (i + 1) : Nat) : Int) = z1 at *
      generalize ((byteAt s (i + 2) : Nat) : Int) = z2 at *
      generalize ((byteAt s (i + 3) : Nat) : Int) = z3 at *
      clear h1 h2 b0 b1 b2 b3
      (go_enter Tryd.func35, Tryd.ntmps35; go_wp2_with fail)
      refine wp_loop_rounds 4 ?_
      (rw [rounds_succ]; go_wp2_with fail)
      (rw [rounds_succ]; go_wp2_with fail)
      (rw [rounds_succ]; go_wp2_with fail)
      go_ret2
      exact ⟨rfl, rfl⟩
    by_cases t3 : 191 < byteAt s (i + 3)
    · rw [dec_four_bad (by omega) (by omega) (by omega)]
      have x3 : 191 < ((byteAt s (i + 3) : Nat) : Int) := by omega
      generalize ((byteAt s i : Nat) : Int) = z0 at *
      generalize ((byteAt s (i + 1) : Nat) : Int) = z1 at *
      generalize ((byteAt s (i + 2) : Nat) : Int) = z2 at *
      generalize ((byteAt s (i + 3) : Nat) : Int) = z3 at *
      clear h1 h2 b0 b1 b2 b3
      (go_enter Tryd.func35, Tryd.ntmps35; go_wp2_with fail)
      refine wp_loop_rounds 4 ?_
      (rw [rounds_succ]; go_wp2_with fail)
      (rw [rounds_succ]; go_wp2_with fail)
      (rw [rounds_succ]; go_wp2_with fail)
      go_ret2
      exact ⟨rfl, rfl⟩
    have x3 : 128 ≤ ((byteAt s (i + 3) : Nat) : Int) := by omega
    have x3' : ((byteAt s (i + 3) : Nat) : Int) ≤ 191 := by omega
    obtain ⟨v, hv⟩ : ∃ v, v = (byteAt s i - 240) * 262144 + (byteAt s (i + 1) - 128) * 4096 + (byteAt s (i + 2) - 128) * 64 + (byteAt s (i + 3) - 128) := ⟨_, rfl⟩
    have HZ := Lib.hid (show (v : Int) = 64 * (64 * (64 * (((byteAt s i : Nat) : Int) - 240) + ((byteAt s (i + 1) : Nat) : Int) - 128) + ((byteAt s (i + 2) : Nat) : Int) - 128) + ((byteAt s (i + 3) : Nat) : Int) - 128 by omega)
    rw [dec_four (by omega) (by omega) hk (by omega) (by omega) (by omega) (by omega) (by omega) (by omega) v hv]
    have HV := Lib.hid (show signV (v, 4) = (v : Int) by unfold signV; rw [if_neg (fun e => by simp only [Prod.mk.injEq] at e; omega)])
    by_cases g1 : v < 65536
    · rw [if_neg (by omega)]
      have g1' : 64 * (64 * (64 * (((byteAt s i : Nat) : Int) - 240) + ((byteAt s (i + 1) : Nat) : Int) - 128) + ((byteAt s (i + 2) : Nat) : Int) - 128) + ((byteAt s (i + 3) : Nat) : Int) - 128 < 65536 := by omega
      clear hv g1 HV HZ
      generalize ((byteAt s i : Nat) : Int) = z0 at *
      generalize ((byteAt s (i + 1) : Nat) : Int) = z1 at *
      generalize ((byteAt s (i + 2) : Nat) : Int) = z2 at *
      generalize ((byteAt s (i + 3) : Nat) : Int) = z3 at *
      clear h1 h2 b0 b1 b2 b3
      (go_enter Tryd.func35, Tryd.ntmps35; go_wp2_with fail)
      refine wp_loop_rounds 4 ?_
      (rw [rounds_succ]; go_wp2_with fail)
      (rw [rounds_succ]; go_wp2_with fail)
      (rw [rounds_succ]; go_wp2_with fail)
      (rw [rounds_succ]; go_wp2_with fail)
      go_ret2
      exact ⟨rfl, rfl⟩
    have g1' : ¬ 64 * (64 * (64 * (((byteAt s i : Nat) : Int) - 240) + ((byteAt s (i + 1) : Nat) : Int) - 128) + ((byteAt s (i + 2) : Nat) : Int) - 128) + ((byteAt s (i + 3) : Nat) : Int) - 128 < 65536 := by omega
    by_cases g2 : v ≤ 1114111
    · rw [if_pos (by omega)]
      have g2' : ¬ 1114111 < 64 * (64 * (64 * (((byteAt s i : Nat) : Int) - 240) + ((byteAt s (i + 1) : Nat) : Int) - 128) + ((byteAt s (i + 2) : Nat) : Int) - 128) + ((byteAt s (i + 3) : Nat) : Int) - 128 := by omega
      have g3' : 57343 < 64 * (64 * (64 * (((byteAt s i : Nat) : Int) - 240) + ((byteAt s (i + 1) : Nat) : Int) - 128) + ((byteAt s (i + 2) : Nat) : Int) - 128) + ((byteAt s (i + 3) : Nat) : Int) - 128 := by omega
      clear hv g1 g2
      generalize ((byteAt s i : Nat) : Int) = z0 at *
      generalize ((byteAt s (i + 1) : Nat) : Int) = z1 at *
      generalize ((byteAt s (i + 2) : Nat) : Int) = z2 at *
      generalize ((byteAt s (i + 3) : Nat) : Int) = z3 at *
      clear h1 h2 b0 b1 b2 b3
      (go_enter Tryd.func35, Tryd.ntmps35; go_wp2_with fail)
      refine wp_loop_rounds 4 ?_
      (rw [rounds_succ]; go_wp2_with fail)
      (rw [rounds_succ]; go_wp2_with fail)
      (rw [rounds_succ]; go_wp2_with fail)
      (rw [rounds_succ]; go_wp2_with fail)
      go_ret2
      refine ⟨?_, rfl⟩; rw [HV.out, HZ.out]; rfl
    · rw [if_neg (by omega)]
      have g2' : 1114111 < 64 * (64 * (64 * (((byteAt s i : Nat) : Int) - 240) + ((byteAt s (i + 1) : Nat) : Int) - 128) + ((byteAt s (i + 2) : Nat) : Int) - 128) + ((byteAt s (i + 3) : Nat) : Int) - 128 := by omega
      clear hv g1 g2 HV HZ
      generalize ((byteAt s i : Nat) : Int) = z0 at *
      generalize ((byteAt s (i + 1) : Nat) : Int) = z1 at *
      generalize ((byteAt s (i + 2) : Nat) : Int) = z2 at *
      generalize ((byteAt s (i + 3) : Nat) : Int) = z3 at *
      clear h1 h2 b0 b1 b2 b3
      (go_enter Tryd.func35, Tryd.ntmps35; go_wp2_with fail)
      refine wp_loop_rounds 4 ?_
      (rw [rounds_succ]; go_wp2_with fail)
      (rw [rounds_succ]; go_wp2_with fail)
      (rw [rounds_succ]; go_wp2_with fail)
      (rw [rounds_succ]; go_wp2_with fail)
      go_ret2
      exact ⟨rfl, rfl⟩
  · rw [dec_four_bad (by omega) (by omega) (by omega)]
    clear c1 c2 c3
    generalize ((byteAt s i : Nat) : Int) = z0 at *
    generalize ((byteAt s (i + 1) : Nat) : Int) = z1 at *
    generalize ((byteAt s (i + 2) : Nat) : Int) = z2 at *
    generalize ((byteAt s (i + 3) : Nat) : Int) = z3 at *
    clear h1 h2 b0 b1 b2 b3
    (go_enter Tryd.func35, Tryd.ntmps35; go_wp2_with fail)
    go_ret2
    exact ⟨rfl, rfl⟩
end Go.Proofs.YtbkkegnmlhhpcaaDoor
