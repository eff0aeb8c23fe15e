/-
  The contract of slices.CompactFunc at findings, under the closure of diag.Sorted. By an AI agent.
-/
import Derived.Test.YtbkkegnmlhhpcaaDoorDcmp
import Derived.Test.YtbkkegnmlhhpcaaDoorRowK
import Derived.Test.YtbkkegnmlhhpcaaDoorEnc
import Derived.Deep.LoopGhost
import Derived.Lib.Walk
import Derived.Lib.SlicesCompact
namespace Go.Proofs.YtbkkegnmlhhpcaaDoor
open Go.RowKit Go.Sort Go.Lib Go.Proofs
attribute [local go_sem ↓] Go.wp_at_zero Go.wp_at_succ

theorem encF_len (x : Fnd) : (encF x).length = 3 := rfl
theorem encF_one (x : Fnd) : ∀ v ∈ encF x, v.oneCell' = true := by
  intro v hv
  simp only [encF, List.mem_cons, List.not_mem_nil, or_false] at hv
  rcases hv with rfl | rfl | rfl <;> rfl
/-- The zero finding. -/
def zF : Fnd := (⟨#[]⟩, ⟨#[]⟩, 0)

theorem closure2_same (x : Fnd) (w : World) : Calls Tryd.prog 21 #[.agg #[.string x.1, .string x.2.1, .int .i64 x.2.2], .agg #[.string x.1, .string x.2.1, .int .i64 x.2.2]] w fun e w' => e = .returned (.bool true) ∧ ∃ os', w' = Go.Sort.grow w os' := by
  have := closure2 x x w
  simpa using this
theorem closure2_diff (x y : Fnd) (h : x ≠ y) (w : World) : Calls Tryd.prog 21 #[.agg #[.string x.1, .string x.2.1, .int .i64 x.2.2], .agg #[.string y.1, .string y.2.1, .int .i64 y.2.2]] w fun e w' => e = .returned (.bool false) ∧ ∃ os', w' = Go.Sort.grow w os' := by
  have := closure2 x y w
  simpa [h] using this

/-- What CompactFunc leaves. -/
def CompactLeaves (d : Array Fnd) (blk off cap : Nat) (w : World) (e : Ending) (w' : World) : Prop :=
  e = .returned (.slice (some ⟨blk, off, none⟩) (compactUpTo d d.size).length cap) ∧ ∃ d' : Array Fnd, d'.size = d.size ∧ (∀ j, j < (compactUpTo d d.size).length → (compactUpTo d d.size)[j]? = some d'[j]!) ∧ SWK encF 3 w blk off d' w'

theorem leaves_same {d : Array Fnd} {blk off cap : Nat} {w w' : World} (hS : SWK encF 3 w blk off d w') (hall : ∀ j, j < d.size → keeps d j = true) : CompactLeaves d blk off cap w (.returned (.slice (some ⟨blk, off, none⟩) d.size cap)) w' := by
  have e : compactUpTo d d.size = d.toList := by rw [compactUpTo_all d _ hall, range_map_get]
  refine ⟨by rw [e]; simp, d, rfl, fun j hj => ?_, hS⟩
  rw [e] at hj ⊢
  have hj' : j < d.size := by simpa using hj
  rw [getElem!_pos d j hj', List.getElem?_eq_getElem (by simpa using hj')]
  simp

theorem hcells {w w' : World} {blk off : Nat} {d dk : Array Fnd} (hS : SWK encF 3 w blk off dk w') (hblk : blk < w.heap.size) (hH : HoldsK encF 3 w blk off d) (hs : dk.size = d.size) {i : Nat} (hi : i < dk.size) :
    w'.cell? ⟨blk, off + i * 3, none⟩ = some (.string dk[i]!.1) ∧ w'.cell? ⟨blk, off + i * 3 + 1, none⟩ = some (.string dk[i]!.2.1) ∧ w'.cell? ⟨blk, off + i * 3 + 2, none⟩ = some (.int .i64 dk[i]!.2.2) := by
  have H := hS.holds hblk hH hs
  exact ⟨(H.cell hi (show 0 < 3 by omega)).1, (H.cell hi (show 1 < 3 by omega)).1, (H.cell hi (show 2 < 3 by omega)).1⟩
theorem hfrozen {w w' : World} {blk off : Nat} {d dk : Array Fnd} (hS : SWK encF 3 w blk off dk w') (hblk : blk < w.heap.size) (hH : HoldsK encF 3 w blk off d) (hs : dk.size = d.size) {i : Nat} (hi : i < dk.size) :
    w'.frozen? ⟨blk, off + i * 3, none⟩ = false ∧ w'.frozen? ⟨blk, off + i * 3 + 1, none⟩ = false ∧ w'.frozen? ⟨blk, off + i * 3 + 2, none⟩ = false := by
  have H := hS.holds hblk hH hs
  exact ⟨(H.cell hi (show 0 < 3 by omega)).2, (H.cell hi (show 1 < 3 by omega)).2, (H.cell hi (show 2 < 3 by omega)).2⟩

theorem clear_run (a : Addr) (m c : Nat) (ty : TypeId) (w w2 : World) (h : (storeCells a (Builtin.zeroCells (Value.agg #[.string ⟨#[]⟩, .string ⟨#[]⟩, .int .i64 0]).cells (m + 1)).toList 0).run Tryd.prog w = .ok () w2) :
    (Builtin.clear_ #[23] ty #[.slice (some a) (m + 1) c]).run Tryd.prog w = .ok (.tuple #[]) w2 := by
  simp only [Builtin.clear_, List.getElem?_toArray, List.getElem?_cons_zero, Sem.run_bind, Sem.run_pure, run_underlying Tryd.underlying23, Result.andThen_ok, Tryd.zeroValue28, h]

set_option maxHeartbeats 1000000 in
theorem compact_any (blk off cap : Nat) (d : Array Fnd) (w : World) (hH : HoldsK encF 3 w blk off d) (hblk : blk < w.heap.size) (hsz : d.size ≤ 2000) (hcap : d.size ≤ cap) :
    Calls Tryd.prog 20 #[.slice (some ⟨blk, off, none⟩) d.size cap, .func (.func 21) #[] #[]] w fun e w' => CompactLeaves d blk off cap w e w' := by
  have HH : Aside (HoldsK encF 3 w blk off d) := hH
  have hS0 : SWK encF 3 w blk off d w := SWK.start hH
  clear hH
  by_cases h2 : d.size < 2
  · go_enter Tryd.func20, Tryd.ntmps20
    go_wp2
    go_ret
    exact leaves_same hS0 (fun j hj => keeps_lt_one d j (by omega))
  · go_enter Tryd.func20, Tryd.ntmps20
    go_wp2
    go_loopg [5] d.size (fun g s5 wr => ∃ k : Nat, 1 ≤ k ∧ k ≤ d.size ∧ d.size - k ≤ g ∧ s5 = .int .i64 k ∧ SWK encF 3 w blk off d wr ∧ ∀ j, j < k → keeps d j = true)
    case atStart => exact ⟨1, Nat.le_refl _, by omega, by omega, rfl, hS0, keeps_lt_one d⟩
    case round =>
      obtain ⟨k, hk1, hk, hg, rfl, hS, hall⟩ := hrel
      have HS : Aside (SWK encF 3 w blk off d wr) := hS
      have hbw := hS.lt hblk
      clear hS0
      by_cases hlt : k < d.size
      · obtain ⟨a0, a1, a2⟩ := hcells hS hblk HH.out rfl hlt
        obtain ⟨b0, b1, b2⟩ := hcells hS hblk HH.out rfl (i := k - 1) (by omega)
        have AL : Aside (∀ j, j < k → keeps d j = true) := hall
        clear hall hS
        generalize hx : d[k]! = x at a0 a1 a2
        generalize hy : d[k - 1]! = y at b0 b1 b2
        have B : Aside (d[k]! = x ∧ d[k - 1]! = y) := ⟨hx, hy⟩
        clear hx hy
        have p1 : (0 : Int) ≤ (k : Int) - 1 := by omega
        have p3 : (1 : Int) ≤ (k : Int) := by omega
        have p2 : (k : Int) - 1 < (d.size : Int) := by omega
        have q2 : ((k : Int) - 1).toNat = k - 1 := by omega
        have q1 : IntKind.i64.wrap ((k : Int) - 1) = (k : Int) - 1 := IntWalk.i64_in _ (by omega)
        by_cases hdup : x = y
        · subst hdup
          go_wp2_with fail
          go_region_held3 (fun w' => w'.cell? ⟨blk, off + k * 3, none⟩ = some (.string x.1) ∧ w'.cell? ⟨blk, off + k * 3 + 1, none⟩ = some (.string x.2.1) ∧ w'.cell? ⟨blk, off + k * 3 + 2, none⟩ = some (.int .i64 x.2.2) ∧ w'.cell? ⟨blk, off + (k - 1) * 3, none⟩ = some (.string x.1) ∧ w'.cell? ⟨blk, off + (k - 1) * 3 + 1, none⟩ = some (.string x.2.1) ∧ w'.cell? ⟨blk, off + (k - 1) * 3 + 2, none⟩ = some (.int .i64 x.2.2))
            (first | go_keep | (go_split_ands; refine ⟨?_, ?_, ?_, ?_, ?_, ?_⟩ <;> (rw [cell?_grow _ _ _ hbw]; assumption)))
            (first | (go_at_call 21; refine (closure2_same _ _).mono ?_; rintro e w' ⟨rfl, os, rfl⟩))
          have HW : Aside (SWK encF 3 w blk off d (Go.Sort.grow wr os).drew) := (SWK.grown HS.out 0 os).drew
          have AK : Aside (keeps d k = false) := keeps_neg (by omega) (by rw [B.out.1, B.out.2])
          clear a0 a1 a2 b0 b1 b2 p1 p2 p3 q1 q2 B
          go_wp2_with fail
          go_loopg [5, 7] d.size (fun g s5 s7 wx => ∃ (kk k2 : Nat) (dk : Array Fnd), s5 = .int .i64 kk ∧ s7 = .int .i64 k2 ∧ 1 ≤ k2 ∧ k + k2 ≤ d.size ∧ d.size - (k + k2) ≤ g ∧ SWK encF 3 w blk off dk wx ∧ CompInv d (k + k2) kk dk)
          case atStart => exact ⟨k, 1, d, rfl, rfl, Nat.le_refl _, by omega, by omega, HW.out, CompInv.start AL.out AK.out⟩
          case round =>
            obtain ⟨kk, k2, dk, rfl, rfl, h1, hle, hg2, hS2, hI⟩ := hrel
            have hkk := hI.lt
            have hds := hI.size
            have H2 : Aside (SWK encF 3 w blk off dk wr) := hS2
            have I2 : Aside (CompInv d (k + k2) kk dk) := hI
            have hbx := hS2.lt hblk
            by_cases hlt2 : k + k2 < d.size
            · obtain ⟨a0, a1, a2⟩ := hcells hS2 hblk HH.out hds (i := k + k2) (by omega)
              obtain ⟨b0, b1, b2⟩ := hcells hS2 hblk HH.out hds (i := k + k2 - 1) (by omega)
              rw [hI.high (k + k2) (by omega), show off + (k + k2) * 3 = off + k * 3 + k2 * 3 by omega] at a0 a1 a2
              rw [hI.high (k + k2 - 1) (by omega), show off + (k + k2 - 1) * 3 = off + k * 3 + (k2 - 1) * 3 by omega] at b0 b1 b2
              clear hS2 hI
              generalize hu : d[k + k2]! = u at a0 a1 a2
              generalize hv : d[k + k2 - 1]! = v at b0 b1 b2
              have C : Aside (d[k + k2]! = u ∧ d[k + k2 - 1]! = v) := ⟨hu, hv⟩
              clear hu hv
              have p0 : (k2 : Int) < ((d.size - k : Nat) : Int) := by omega
              have p1 : (0 : Int) ≤ (k2 : Int) - 1 := by omega
              have p3 : (1 : Int) ≤ (k2 : Int) := by omega
              have p2 : (k2 : Int) - 1 < ((d.size - k : Nat) : Int) := by omega
              have q2 : ((k2 : Int) - 1).toNat = k2 - 1 := by omega
              have q1 : IntKind.i64.wrap ((k2 : Int) - 1) = (k2 : Int) - 1 := IntWalk.i64_in _ (by omega)
              by_cases huv : u = v
              · subst huv
                go_wp2_with fail
                go_region_held3 (fun w' => w'.cell? ⟨blk, off + k * 3 + k2 * 3, none⟩ = some (.string u.1) ∧ w'.cell? ⟨blk, off + k * 3 + k2 * 3 + 1, none⟩ = some (.string u.2.1) ∧ w'.cell? ⟨blk, off + k * 3 + k2 * 3 + 2, none⟩ = some (.int .i64 u.2.2) ∧ w'.cell? ⟨blk, off + k * 3 + (k2 - 1) * 3, none⟩ = some (.string u.1) ∧ w'.cell? ⟨blk, off + k * 3 + (k2 - 1) * 3 + 1, none⟩ = some (.string u.2.1) ∧ w'.cell? ⟨blk, off + k * 3 + (k2 - 1) * 3 + 2, none⟩ = some (.int .i64 u.2.2))
                  (first | go_keep | (go_split_ands; refine ⟨?_, ?_, ?_, ?_, ?_, ?_⟩ <;> (rw [cell?_grow _ _ _ hbx]; assumption)))
                  (first | (go_at_call 21; refine (closure2_same _ _).mono ?_; rintro e w' ⟨rfl, os2, rfl⟩))
                go_wp2_with fail
                go_roundg (d.size - (k + (k2 + 1)))
                case measure => omega
                case rel => exact ⟨kk, k2 + 1, dk, rfl, by go_num, by omega, by omega, Nat.le_refl _, (SWK.grown H2.out 0 os2).drew, I2.out.skip (keeps_neg (by omega) (by rw [C.out.1, C.out.2]))⟩
              · go_wp2_with fail
                go_region_held3 (fun w' => w'.cell? ⟨blk, off + k * 3 + k2 * 3, none⟩ = some (.string u.1) ∧ w'.cell? ⟨blk, off + k * 3 + k2 * 3 + 1, none⟩ = some (.string u.2.1) ∧ w'.cell? ⟨blk, off + k * 3 + k2 * 3 + 2, none⟩ = some (.int .i64 u.2.2) ∧ w'.cell? ⟨blk, off + k * 3 + (k2 - 1) * 3, none⟩ = some (.string v.1) ∧ w'.cell? ⟨blk, off + k * 3 + (k2 - 1) * 3 + 1, none⟩ = some (.string v.2.1) ∧ w'.cell? ⟨blk, off + k * 3 + (k2 - 1) * 3 + 2, none⟩ = some (.int .i64 v.2.2))
                  (first | go_keep | (go_split_ands; refine ⟨?_, ?_, ?_, ?_, ?_, ?_⟩ <;> (rw [cell?_grow _ _ _ hbx]; assumption)))
                  (first | (go_at_call 21; refine (closure2_diff _ _ huv _).mono ?_; rintro e w' ⟨rfl, os2, rfl⟩))
                have hS3 : SWK encF 3 w blk off dk (Go.Sort.grow wr.drew os2) := (SWK.grown H2.out 0 os2).drew
                generalize Go.Sort.grow wr.drew os2 = W2 at hS3 ⊢
                clear a0 a1 a2 b0 b1 b2
                obtain ⟨a0, a1, a2⟩ := hcells hS3 hblk HH.out hds (i := k + k2) (by omega)
                rw [I2.out.high (k + k2) (by omega), show off + (k + k2) * 3 = off + k * 3 + k2 * 3 by omega, C.out.1] at a0 a1 a2
                obtain ⟨k0, k1, k2c⟩ := hcells hS3 hblk HH.out hds (i := kk) (by omega)
                obtain ⟨f0, f1, f2⟩ := hfrozen hS3 hblk HH.out hds (i := kk) (by omega)
                generalize dk[kk]! = old at k0 k1 k2c
                have H3 : Aside (SWK encF 3 w blk off dk W2) := hS3
                clear hS3
                go_wp2_with fail
                go_roundg (d.size - (k + (k2 + 1)))
                case measure => omega
                case rel =>
                  refine ⟨kk + 1, k2 + 1, dk.setIfInBounds kk u, by go_num, by go_num, by omega, by omega, Nat.le_refl _, ?_, ?_⟩
                  · exact SWK.set H3.out encF_len hblk kk (by omega) u
                  · have := I2.out.keep hlt2 (keeps_pos (by rw [C.out.1, C.out.2]; exact huv)); rwa [C.out.1] at this
            · have hend : k + k2 = d.size := by omega
              have hst : ∀ ty, (Builtin.clear_ #[23] ty #[.slice (some ⟨blk, off + kk * 3, none⟩) (d.size - kk) (cap - kk)]).run Tryd.prog wr = .ok (.tuple #[]) (wr.setCells blk (off + kk * 3) ((List.replicate (d.size - kk) zF).flatMap encF)) := by
                intro ty
                have hz : (Builtin.zeroCells (Value.agg #[.string ⟨#[]⟩, .string ⟨#[]⟩, .int .i64 0]).cells (d.size - kk)).toList = (List.replicate (d.size - kk) zF).flatMap encF :=
                  zeroCells_flat (enc := encF) zF (encF_len _) (by omega) _
                have hone : ∀ v ∈ (List.replicate (d.size - kk) zF).flatMap encF, v.oneCell' = true := by
                  intro v hv
                  obtain ⟨x, _, hx⟩ := List.mem_flatMap.1 hv
                  exact encF_one x v hx
                have hst := stores_of_holds Tryd.prog (hS2.holds hblk HH.out hds) (kk * 3) ((List.replicate (d.size - kk) zF).flatMap encF) (by rw [flat_len encF_len, size_flatK, List.length_replicate, ← Nat.add_mul]; exact Nat.mul_le_mul_right 3 (by omega)) hone
                obtain ⟨m, hm⟩ : ∃ m, d.size - kk = m + 1 := ⟨d.size - kk - 1, by omega⟩
                rw [hm] at hz hst ⊢
                exact clear_run _ _ _ _ _ _ (by rw [hz]; exact hst)
              have hfill := SWK.fill encF_len hblk zF (d.size - kk) kk dk wr hS2 (by omega)
              have HF : Aside (∃ d' : Array Fnd, d'.size = dk.size ∧ (∀ j, j < kk → d'[j]! = dk[j]!) ∧ SWK encF 3 w blk off d' (wr.setCells blk (off + kk * 3) ((List.replicate (d.size - kk) zF).flatMap encF))) := hfill
              clear hS2 hI hfill
              go_wp2_with fail
              go_ret
              obtain ⟨d', hd1, hd2, hd3⟩ := HF.out
              have hI := I2.out
              rw [hend] at hI
              refine ⟨by rw [hI.len]; rfl, d', by omega, fun j hj => ?_, hd3⟩
              rw [hI.len] at hj
              rw [hI.low j hj, hd2 j hj]
        · go_wp2_with fail
          go_region_held3 (fun w' => w'.cell? ⟨blk, off + k * 3, none⟩ = some (.string x.1) ∧ w'.cell? ⟨blk, off + k * 3 + 1, none⟩ = some (.string x.2.1) ∧ w'.cell? ⟨blk, off + k * 3 + 2, none⟩ = some (.int .i64 x.2.2) ∧ w'.cell? ⟨blk, off + (k - 1) * 3, none⟩ = some (.string y.1) ∧ w'.cell? ⟨blk, off + (k - 1) * 3 + 1, none⟩ = some (.string y.2.1) ∧ w'.cell? ⟨blk, off + (k - 1) * 3 + 2, none⟩ = some (.int .i64 y.2.2))
            (first | go_keep | (go_split_ands; refine ⟨?_, ?_, ?_, ?_, ?_, ?_⟩ <;> (rw [cell?_grow _ _ _ hbw]; assumption)))
            (first | (go_at_call 21; refine (closure2_diff _ _ hdup _).mono ?_; rintro e w' ⟨rfl, os, rfl⟩))
          go_wp2_with fail
          go_roundg (d.size - (k + 1))
          case measure => omega
          case rel =>
            refine ⟨k + 1, by omega, by omega, Nat.le_refl _, by go_num, (SWK.grown HS.out 0 os).drew, fun j hj => ?_⟩
            by_cases e : j = k
            · subst e
              exact keeps_pos (by rw [B.out.1, B.out.2]; exact hdup)
            · exact AL.out j (by omega)
      · have hkd : k = d.size := by omega
        have HL : Aside (CompactLeaves d blk off cap w (.returned (.slice (some ⟨blk, off, none⟩) d.size cap)) wr) := leaves_same hS (by rw [← hkd]; exact hall)
        clear hS hall hkd
        go_wp2_with fail
        go_ret
        exact HL.out
end Go.Proofs.YtbkkegnmlhhpcaaDoor
