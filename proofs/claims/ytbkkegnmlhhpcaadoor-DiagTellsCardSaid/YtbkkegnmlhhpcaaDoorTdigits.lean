/-
  The document's own numbers in decimal: digits. By an AI agent.
-/
import Derived.Test.YtbkkegnmlhhpcaaDoorDlines
import Derived.Deep.QuietTactic
import Derived.BigQuiet
import Derived.IntWalk
namespace Go.Proofs.YtbkkegnmlhhpcaaDoor
open Go.RowKit Go.Sort Go.Lib Go.Proofs
attribute [local go_sem ↓] Go.wp_at_zero Go.wp_at_succ

theorem ten_piece : ∀ i : Fin 10, ((⟨#[48, 49, 50, 51, 52, 53, 54, 55, 56, 57]⟩ : ByteArray).extract i.val (i.val + 1)).data = #[UInt8.ofNat (48 + i.val)] := by decide +kernel
theorem piece_run (i : Nat) (h : i < 10) : ∃ s : ByteArray, s = ⟨#[UInt8.ofNat (48 + i)]⟩ ∧ s.size = 1 ∧ ∀ w : World, (Instr.slice 9 (.string ⟨#[48, 49, 50, 51, 52, 53, 54, 55, 56, 57]⟩) (some (.int .i64 (i : Int))) (some (.int .i64 ((i : Int) + 1))) none).run Tryd.prog w = .ok (.string s) w := by
  refine ⟨_, rfl, rfl, fun w => ?_⟩
  rw [run_slice_string (P := Tryd.prog) w 9 _ .i64 .i64 (i : Int) ((i : Int) + 1) Tryd.underlying9 (by omega) (by omega) (by have e : ((⟨#[48, 49, 50, 51, 52, 53, 54, 55, 56, 57]⟩ : ByteArray)).size = 10 := rfl; rw [e]; omega)]
  have := ten_piece ⟨i, h⟩
  simp only at this
  rw [show ((i : Int) + 1).toNat = i + 1 by omega, Int.toNat_natCast]
  congr 2
  exact ByteArray.ext this
theorem itoaB_small (n : Nat) (h : n < 10) : itoaB (n : Int) = ⟨#[UInt8.ofNat (48 + n)]⟩ := by
  rw [itoaB, Lib.itoa_nonneg, Lib.decDigits_one h]
theorem itoaB_step (n : Nat) (h : ¬ n < 10) : itoaB (n : Int) = itoaB ((n / 10 : Nat) : Int) ++ ⟨#[UInt8.ofNat (48 + n % 10)]⟩ := by
  rw [itoaB, itoaB, Lib.itoa_nonneg, Lib.itoa_nonneg, Lib.decDigits, dif_neg h]
  apply ByteArray.ext
  simp [ByteArray.data_append]

theorem digits_any : ∀ (n : Nat) (w : World), n ≤ 200000 → Calls Tryd.prog 26 #[.int .i64 (n : Int)] w fun e w' => e = .returned (.string (itoaB n)) ∧ ∃ k, w' = w.drewN k := by
  intro n
  induction n using Nat.strongRecOn with
  | _ n ih =>
  intro w hn
  by_cases h : n < 10
  · obtain ⟨pc, e0, z0, hp⟩ := piece_run n h
    rw [itoaB_small n h, ← e0]
    clear e0
    go_enter Tryd.func26, Tryd.ntmps26
    go_wp2_with fail
    go_ret
    exact ⟨rfl, 0, rfl⟩
  · obtain ⟨pc, e0, z0, hp⟩ := piece_run (n % 10) (Nat.mod_lt _ (by omega))
    rw [itoaB_step n h, ← e0]
    clear e0
    have hz := itoaB_size ((n / 10 : Nat) : Int) (by omega) (by omega)
    have hq : (n : Int).tdiv 10 = ((n / 10 : Nat) : Int) := by rw [Int.tdiv_eq_ediv_of_nonneg (by omega)]; omega
    have hr : (n : Int).tmod 10 = ((n % 10 : Nat) : Int) := by rw [Int.tmod_eq_emod_of_nonneg (by omega)]; omega
    have hw0 : IntKind.i64.wrap ((n / 10 : Nat) : Int) = ((n / 10 : Nat) : Int) := IntWalk.i64_in _ (by omega)
    have hw1 : IntKind.i64.wrap ((n % 10 : Nat) : Int) = ((n % 10 : Nat) : Int) := IntWalk.i64_in _ (by omega)
    have hw2 : IntKind.i64.wrap (((n % 10 : Nat) : Int) + 1) = ((n % 10 : Nat) : Int) + 1 := IntWalk.i64_in _ (by omega)
    obtain ⟨t1, e1, y1, z1⟩ := str_add (itoaB ((n / 10 : Nat) : Int)) pc (by rw [z0]; omega)
    have HI := Lib.hid (fun w => ih (n / 10) (by omega) w (by omega))
    rw [← e1]
    clear ih
    generalize hQ : ((n / 10 : Nat) : Int) = q at *
    generalize hR : ((n % 10 : Nat) : Int) = r at *
    generalize itoaB q = sq at *
    have q0 : 0 ≤ r := by omega
    have q1 : r ≤ 9 := by omega
    clear hQ hR hw1 e1
    go_enter Tryd.func26, Tryd.ntmps26
    go_wp2_with fail
    go_quiet ((go_at_call 26; exact Calls.quiet_of (HI.out _)))
    go_wp2_with fail
    go_ret
    exact ⟨rfl, _, rfl⟩
end Go.Proofs.YtbkkegnmlhhpcaaDoor
