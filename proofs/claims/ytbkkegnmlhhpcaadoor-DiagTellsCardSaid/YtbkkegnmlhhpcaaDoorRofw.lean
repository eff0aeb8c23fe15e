/-
  The contract of ref01.Of: it is place.Of's. By an AI agent.
-/
import Derived.Test.YtbkkegnmlhhpcaaDoorRof
namespace Go.Proofs.YtbkkegnmlhhpcaaDoor
open Go.RowKit Go.Lib Go.Proofs

theorem signV_ten (d : Nat × Nat) : signV d = 10 ↔ d.1 = 10 := by
  unfold signV
  split
  · rename_i h; rw [h]; simp
  · omega

set_option maxRecDepth 100000 in
set_option maxHeartbeats 4000000 in
theorem refOf_any (A : Option Addr) (cp : Nat) (s : ByteArray) (n : Int) (w : World) (hsz : s.size ≤ 100000) (h : Reads w w.heap.size 1 A s.size (s.data.toList.flatMap byteV)) :
    Calls Tryd.prog 25 #[.slice A s.size cp, .int .i64 n] w fun e w' => e = .returned (.tuple #[.int .i64 (placeOf s n).1, .int .i64 (placeOf s n).2]) ∧ w = w' := by
  have HR := Lib.hid h
  clear h
  by_cases h0 : n < 0
  · rw [placeOf_bad (.inl h0)]
    go_enter Tryd.func25, Tryd.ntmps25
    go_wp2_with fail
    go_ret2
    exact ⟨rfl, rfl⟩
  by_cases h1 : (s.size : Int) < n
  · rw [placeOf_bad (.inr h1)]
    go_enter Tryd.func25, Tryd.ntmps25
    go_wp2_with fail
    go_ret2
    exact ⟨rfl, rfl⟩
  rw [placeOf_good (by omega)]
  obtain ⟨m, rfl⟩ : ∃ m : Nat, n = m := ⟨n.toNat, by omega⟩
  have hm : m ≤ s.size := by omega
  rw [Int.toNat_natCast]
  generalize hP : placeGo s m s.size 0 (1, 1) = P
  have HP := Lib.hid hP
  clear hP
  go_enter Tryd.func25, Tryd.ntmps25
  go_wp2_with fail
  go_loopw [6, 7, 8] (fun s6 s7 s8 wr => ∃ (i : Nat) (l c : Int), i ≤ s.size ∧ s6 = .int .i64 l ∧ s7 = .int .i64 c ∧ s8 = .int .i64 i ∧ wr = w ∧ placeGo s m (s.size - i) i (l, c) = P ∧ 1 ≤ l ∧ l ≤ i + 1 ∧ 1 ≤ c ∧ c ≤ i + 1) (fun _ _ s8 _ => s.size - (RowKit.intOf s8).toNat)
  case atStart => exact ⟨0, 1, 1, Nat.zero_le _, rfl, rfl, rfl, rfl, HP.out, by omega, by omega, by omega, by omega⟩
  case round =>
    obtain ⟨i, l, c, hi, rfl, rfl, rfl, rfl, hp, l1, l2, c1, c2⟩ := hrel
    have HPI := Lib.hid hp
    clear hp
    by_cases hlt : i < m
    · have his : i < s.size := by omega
      have hst := placeGo_step s m i (l, c) hlt his
      have hd := decode_in s i his
      have HS := Lib.hid (sign_any A cp s i wr hsz his HR.out)
      have hten := signV_ten (Utf8.decode s i)
      generalize hdd : Utf8.decode s i = d at hst hd HS hten
      have HDD := Lib.hid hdd
      clear hdd
      have HST := Lib.hid hst
      clear hst
      go_wp2_with fail
      refine HS.out.mono ?_
      rintro e w' ⟨rfl, rfl⟩
      by_cases hv : signV d = 10
      · have HP2 := Lib.hid (HST.out.symm.trans HPI.out)
        have HSP := Lib.hid (show stepP s i (l, c) = (l + 1, 1) by unfold stepP; rw [HDD.out, if_pos (hten.1 hv)])
        rw [HSP.out] at HP2
        rw [hv]
        clear hten hv
        go_wp2_with fail
        go_roundw
        case rel => exact ⟨i + d.2, l + 1, 1, hd.2, by go_num, rfl, by go_num, trivial, HP2.out, by omega, by omega, by omega, by omega⟩
        case measure => simp [RowKit.intOf]; omega
      · have HP2 := Lib.hid (HST.out.symm.trans HPI.out)
        have HSP := Lib.hid (show stepP s i (l, c) = (l, c + 1) by unfold stepP; rw [HDD.out, if_neg (fun h => hv (hten.2 h))])
        rw [HSP.out] at HP2
        generalize signV d = v at hten hv ⊢
        clear hten
        go_wp2_with fail
        go_roundw
        case rel => exact ⟨i + d.2, l, c + 1, hd.2, rfl, by go_num, by go_num, trivial, HP2.out, by omega, by omega, by omega, by omega⟩
        case measure => simp [RowKit.intOf]; omega
    · have HE := Lib.hid (placeGo_stop s m (s.size - i) i (l, c) (.inl (by omega)))
      go_wp2_with fail
      go_ret2
      refine ⟨?_, rfl⟩
      rw [← HPI.out, HE.out]
      rfl
end Go.Proofs.YtbkkegnmlhhpcaaDoor
