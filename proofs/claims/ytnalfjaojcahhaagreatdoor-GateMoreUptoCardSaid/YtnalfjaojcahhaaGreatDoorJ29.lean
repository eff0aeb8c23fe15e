/-
  The contract of slices.CompactFunc at uses, under the closure of gate.Uses. By an AI agent.
  Rows of uses of the call's own. By an AI agent.
-/
import Derived.Test.YtnalfjaojcahhaaGreatDoorJ28
import Derived.Test.YtnalfjaojcahhaaGreatDoorJ00
import Derived.Test.YtnalfjaojcahhaaGreatDoorJ08
import Derived.Test.YtnalfjaojcahhaaGreatDoorJ21
import Derived.Deep.LoopGhost
import Derived.Lib.Walk
import Derived.Lib.SlicesCompact
namespace Go.Proofs.YtnalfjaojcahhaaGreatDoor
open Go.RowKit Go.Sort Go.Lib Go.Proofs
attribute [local go_sem ↓] Go.wp_at_zero Go.wp_at_succ

theorem usC_len (x : Use1) : (usC x).length = 2 := rfl
theorem usC_all (x : Use1) : ∀ v ∈ usC x, v.oneCell' = true := by
  intro v hv
  simp only [usC, List.mem_cons, List.not_mem_nil, or_false] at hv
  rcases hv with rfl | rfl <;> rfl
/-- The zero use. -/
def zU : Use1 := (0, 0)

theorem closure2_same (x : Use1) (w : World) : Calls Tryz.prog 30 #[.agg #[.int .i64 x.1, .int .i64 x.2], .agg #[.int .i64 x.1, .int .i64 x.2]] w fun e w' => e = .returned (.bool true) ∧ ∃ os', w' = Go.Sort.grow w os' := by
  have := closure2 x x w
  simpa using this
theorem closure2_diff (x y : Use1) (h : x ≠ y) (w : World) : Calls Tryz.prog 30 #[.agg #[.int .i64 x.1, .int .i64 x.2], .agg #[.int .i64 y.1, .int .i64 y.2]] w fun e w' => e = .returned (.bool false) ∧ ∃ os', w' = Go.Sort.grow w os' := by
  have := closure2 x y w
  simpa [h] using this

/-- What CompactFunc leaves. -/
def CompactLeaves (d : Array Use1) (blk off cap : Nat) (w : World) (e : Ending) (w' : World) : Prop :=
  e = .returned (.slice (some ⟨blk, off, none⟩) (compactUpTo d d.size).length cap) ∧ ∃ d' : Array Use1, d'.size = d.size ∧ (∀ j, j < (compactUpTo d d.size).length → (compactUpTo d d.size)[j]? = some d'[j]!) ∧ SWK usC 2 w blk off d' w'

theorem leaves_same {d : Array Use1} {blk off cap : Nat} {w w' : World} (hS : SWK usC 2 w blk off d w') (hall : ∀ j, j < d.size → keeps d j = true) : CompactLeaves d blk off cap w (.returned (.slice (some ⟨blk, off, none⟩) d.size cap)) w' := by
  have e : compactUpTo d d.size = d.toList := by rw [compactUpTo_all d _ hall, range_map_get]
  refine ⟨by rw [e]; simp, d, rfl, fun j hj => ?_, hS⟩
  rw [e] at hj ⊢
  have hj' : j < d.size := by simpa using hj
  rw [getElem!_pos d j hj', List.getElem?_eq_getElem (by simpa using hj')]
  simp

theorem hcells {w w' : World} {blk off : Nat} {d dk : Array Use1} (hS : SWK usC 2 w blk off dk w') (hblk : blk < w.heap.size) (hH : HoldsK usC 2 w blk off d) (hs : dk.size = d.size) {i : Nat} (hi : i < dk.size) :
    w'.cell? ⟨blk, off + i * 2, none⟩ = some (.int .i64 dk[i]!.1) ∧ w'.cell? ⟨blk, off + i * 2 + 1, none⟩ = some (.int .i64 dk[i]!.2) := by
  have H := hS.holds hblk hH hs
  exact ⟨(H.cell hi (show 0 < 2 by omega)).1, (H.cell hi (show 1 < 2 by omega)).1⟩
theorem hfrozen {w w' : World} {blk off : Nat} {d dk : Array Use1} (hS : SWK usC 2 w blk off dk w') (hblk : blk < w.heap.size) (hH : HoldsK usC 2 w blk off d) (hs : dk.size = d.size) {i : Nat} (hi : i < dk.size) :
    w'.frozen? ⟨blk, off + i * 2, none⟩ = false ∧ w'.frozen? ⟨blk, off + i * 2 + 1, none⟩ = false := by
  have H := hS.holds hblk hH hs
  exact ⟨(H.cell hi (show 0 < 2 by omega)).2, (H.cell hi (show 1 < 2 by omega)).2⟩

theorem clear_run (a : Addr) (m c : Nat) (ty : TypeId) (w w2 : World) (h : (storeCells a (Builtin.zeroCells (Value.agg #[.int .i64 0, .int .i64 0]).cells (m + 1)).toList 0).run Tryz.prog w = .ok () w2) :
    (Builtin.clear_ #[28] ty #[.slice (some a) (m + 1) c]).run Tryz.prog w = .ok (.tuple #[]) w2 := by
  simp only [Builtin.clear_, List.getElem?_toArray, List.getElem?_cons_zero, Sem.run_bind, Sem.run_pure, run_underlying Tryz.underlying28, Result.andThen_ok, Tryz.zeroValue32, h]

set_option maxHeartbeats 1000000 in
theorem compact_any (blk off cap : Nat) (d : Array Use1) (w : World) (hH : HoldsK usC 2 w blk off d) (hblk : blk < w.heap.size) (hsz : d.size ≤ 2000000) (hcap : d.size ≤ cap) :
    Calls Tryz.prog 29 #[.slice (some ⟨blk, off, none⟩) d.size cap, .func (.func 30) #[] #[]] w fun e w' => CompactLeaves d blk off cap w e w' := by
  have HH : Aside (HoldsK usC 2 w blk off d) := hH
  have hS0 : SWK usC 2 w blk off d w := SWK.start hH
  clear hH
  by_cases h2 : d.size < 2
  · go_enter Tryz.func29, Tryz.ntmps29
    go_wp2
    go_ret
    exact leaves_same hS0 (fun j hj => keeps_lt_one d j (by omega))
  · go_enter Tryz.func29, Tryz.ntmps29
    go_wp2
    go_loopg [5] d.size (fun g s5 wr => ∃ k : Nat, 1 ≤ k ∧ k ≤ d.size ∧ d.size - k ≤ g ∧ s5 = .int .i64 k ∧ SWK usC 2 w blk off d wr ∧ ∀ j, j < k → keeps d j = true)
    case atStart => exact ⟨1, Nat.le_refl _, by omega, by omega, rfl, hS0, keeps_lt_one d⟩
    case round =>
      obtain ⟨k, hk1, hk, hg, rfl, hS, hall⟩ := hrel
      have HS : Aside (SWK usC 2 w blk off d wr) := hS
      have hbw := hS.lt hblk
      clear hS0
      by_cases hlt : k < d.size
      · obtain ⟨a0, a1⟩ := hcells hS hblk HH.out rfl hlt
        obtain ⟨b0, b1⟩ := hcells hS hblk HH.out rfl (i := k - 1) (by omega)
        have AL : Aside (∀ j, j < k → keeps d j = true) := hall
        clear hall hS
        generalize hx : d[k]! = x at a0 a1
        generalize hy : d[k - 1]! = y at b0 b1
        have B : Aside (d[k]! = x ∧ d[k - 1]! = y) := ⟨hx, hy⟩
        clear hx hy
        have p1 : (0 : Int) ≤ (k : Int) - 1 := by omega
        have p3 : (1 : Int) ≤ (k : Int) := by omega
        have p2 : (k : Int) - 1 < (d.size : Int) := by omega
        have q2 : ((k : Int) - 1).toNat = k - 1 := by omega
        have q1 : IntKind.i64.wrap ((k : Int) - 1) = (k : Int) - 1 := IntWalk.i64_in _ (by omega)
        by_cases hdup : x = y
        · subst hdup
          go_wp2_with fail
          go_region_held3 (fun w' => w'.cell? ⟨blk, off + k * 2, none⟩ = some (.int .i64 x.1) ∧ w'.cell? ⟨blk, off + k * 2 + 1, none⟩ = some (.int .i64 x.2) ∧ w'.cell? ⟨blk, off + (k - 1) * 2, none⟩ = some (.int .i64 x.1) ∧ w'.cell? ⟨blk, off + (k - 1) * 2 + 1, none⟩ = some (.int .i64 x.2))
            (first | go_keep | (go_split_ands; refine ⟨?_, ?_, ?_, ?_⟩ <;> (rw [cell?_grow _ _ _ hbw]; assumption)))
            (first | (go_at_call 30; refine (closure2_same _ _).mono ?_; rintro e w' ⟨rfl, os, rfl⟩))
          have HW : Aside (SWK usC 2 w blk off d (Go.Sort.grow wr os).drew) := (SWK.grown HS.out 0 os).drew
          have AK : Aside (keeps d k = false) := keeps_neg (by omega) (by rw [B.out.1, B.out.2])
          clear a0 a1 b0 b1 p1 p2 p3 q1 q2 B
          go_wp2_with fail
          go_loopg [5, 7] d.size (fun g s5 s7 wx => ∃ (kk k2 : Nat) (dk : Array Use1), s5 = .int .i64 kk ∧ s7 = .int .i64 k2 ∧ 1 ≤ k2 ∧ k + k2 ≤ d.size ∧ d.size - (k + k2) ≤ g ∧ SWK usC 2 w blk off dk wx ∧ CompInv d (k + k2) kk dk)
          case atStart => exact ⟨k, 1, d, rfl, rfl, Nat.le_refl _, by omega, by omega, HW.out, CompInv.start AL.out AK.out⟩
          case round =>
            obtain ⟨kk, k2, dk, rfl, rfl, h1, hle, hg2, hS2, hI⟩ := hrel
            have hkk := hI.lt
            have hds := hI.size
            have H2 : Aside (SWK usC 2 w blk off dk wr) := hS2
            have I2 : Aside (CompInv d (k + k2) kk dk) := hI
            have hbx := hS2.lt hblk
            by_cases hlt2 : k + k2 < d.size
            · obtain ⟨a0, a1⟩ := hcells hS2 hblk HH.out hds (i := k + k2) (by omega)
              obtain ⟨b0, b1⟩ := hcells hS2 hblk HH.out hds (i := k + k2 - 1) (by omega)
              rw [hI.high (k + k2) (by omega), show off + (k + k2) * 2 = off + k * 2 + k2 * 2 by omega] at a0 a1
              rw [hI.high (k + k2 - 1) (by omega), show off + (k + k2 - 1) * 2 = off + k * 2 + (k2 - 1) * 2 by omega] at b0 b1
              clear hS2 hI
              generalize hu : d[k + k2]! = u at a0 a1
              generalize hv : d[k + k2 - 1]! = v at b0 b1
              have C : Aside (d[k + k2]! = u ∧ d[k + k2 - 1]! = v) := ⟨hu, hv⟩
              clear hu hv
              have p0 : (k2 : Int) < ((d.size - k : Nat) : Int) := by omega
              have p1 : (0 : Int) ≤ (k2 : Int) - 1 := by omega
              have p3 : (1 : Int) ≤ (k2 : Int) := by omega
              have p2 : (k2 : Int) - 1 < ((d.size - k : Nat) : Int) := by omega
              have q2 : ((k2 : Int) - 1).toNat = k2 - 1 := by omega
              have q1 : IntKind.i64.wrap ((k2 : Int) - 1) = (k2 : Int) - 1 := IntWalk.i64_in _ (by omega)
              by_cases huv : u = v
              · subst huv
                go_wp2_with fail
                go_region_held3 (fun w' => w'.cell? ⟨blk, off + k * 2 + k2 * 2, none⟩ = some (.int .i64 u.1) ∧ w'.cell? ⟨blk, off + k * 2 + k2 * 2 + 1, none⟩ = some (.int .i64 u.2) ∧ w'.cell? ⟨blk, off + k * 2 + (k2 - 1) * 2, none⟩ = some (.int .i64 u.1) ∧ w'.cell? ⟨blk, off + k * 2 + (k2 - 1) * 2 + 1, none⟩ = some (.int .i64 u.2))
                  (first | go_keep | (go_split_ands; refine ⟨?_, ?_, ?_, ?_⟩ <;> (rw [cell?_grow _ _ _ hbx]; assumption)))
                  (first | (go_at_call 30; refine (closure2_same _ _).mono ?_; rintro e w' ⟨rfl, os2, rfl⟩))
                go_wp2_with fail
                go_roundg (d.size - (k + (k2 + 1)))
                case measure => omega
                case rel => exact ⟨kk, k2 + 1, dk, rfl, by go_num, by omega, by omega, Nat.le_refl _, (SWK.grown H2.out 0 os2).drew, I2.out.skip (keeps_neg (by omega) (by rw [C.out.1, C.out.2]))⟩
              · go_wp2_with fail
                go_region_held3 (fun w' => w'.cell? ⟨blk, off + k * 2 + k2 * 2, none⟩ = some (.int .i64 u.1) ∧ w'.cell? ⟨blk, off + k * 2 + k2 * 2 + 1, none⟩ = some (.int .i64 u.2) ∧ w'.cell? ⟨blk, off + k * 2 + (k2 - 1) * 2, none⟩ = some (.int .i64 v.1) ∧ w'.cell? ⟨blk, off + k * 2 + (k2 - 1) * 2 + 1, none⟩ = some (.int .i64 v.2))
                  (first | go_keep | (go_split_ands; refine ⟨?_, ?_, ?_, ?_⟩ <;> (rw [cell?_grow _ _ _ hbx]; assumption)))
                  (first | (go_at_call 30; refine (closure2_diff _ _ huv _).mono ?_; rintro e w' ⟨rfl, os2, rfl⟩))
                have hS3 : SWK usC 2 w blk off dk (Go.Sort.grow wr.drew os2) := (SWK.grown H2.out 0 os2).drew
                generalize Go.Sort.grow wr.drew os2 = W2 at hS3 ⊢
                clear a0 a1 b0 b1
                obtain ⟨a0, a1⟩ := hcells hS3 hblk HH.out hds (i := k + k2) (by omega)
                rw [I2.out.high (k + k2) (by omega), show off + (k + k2) * 2 = off + k * 2 + k2 * 2 by omega, C.out.1] at a0 a1
                obtain ⟨k0, k1⟩ := hcells hS3 hblk HH.out hds (i := kk) (by omega)
                obtain ⟨f0, f1⟩ := hfrozen hS3 hblk HH.out hds (i := kk) (by omega)
                generalize dk[kk]! = old at k0 k1
                have H3 : Aside (SWK usC 2 w blk off dk W2) := hS3
                clear hS3
                go_wp2_with fail
                go_roundg (d.size - (k + (k2 + 1)))
                case measure => omega
                case rel =>
                  refine ⟨kk + 1, k2 + 1, dk.setIfInBounds kk u, by go_num, by go_num, by omega, by omega, Nat.le_refl _, ?_, ?_⟩
                  · exact SWK.set H3.out usC_len hblk kk (by omega) u
                  · have := I2.out.keep hlt2 (keeps_pos (by rw [C.out.1, C.out.2]; exact huv)); rwa [C.out.1] at this
            · have hend : k + k2 = d.size := by omega
              have hst : ∀ ty, (Builtin.clear_ #[28] ty #[.slice (some ⟨blk, off + kk * 2, none⟩) (d.size - kk) (cap - kk)]).run Tryz.prog wr = .ok (.tuple #[]) (wr.setCells blk (off + kk * 2) ((List.replicate (d.size - kk) zU).flatMap usC)) := by
                intro ty
                have hz : (Builtin.zeroCells (Value.agg #[.int .i64 0, .int .i64 0]).cells (d.size - kk)).toList = (List.replicate (d.size - kk) zU).flatMap usC :=
                  zeroCells_flat (enc := usC) zU (usC_len _) (by omega) _
                have hone : ∀ v ∈ (List.replicate (d.size - kk) zU).flatMap usC, v.oneCell' = true := by
                  intro v hv
                  obtain ⟨x, _, hx⟩ := List.mem_flatMap.1 hv
                  exact usC_all x v hx
                have hst := stores_of_holds Tryz.prog (hS2.holds hblk HH.out hds) (kk * 2) ((List.replicate (d.size - kk) zU).flatMap usC) (by rw [flat_len usC_len, size_flatK, List.length_replicate, ← Nat.add_mul]; exact Nat.mul_le_mul_right 2 (by omega)) hone
                obtain ⟨m, hm⟩ : ∃ m, d.size - kk = m + 1 := ⟨d.size - kk - 1, by omega⟩
                rw [hm] at hz hst ⊢
                exact clear_run _ _ _ _ _ _ (by rw [hz]; exact hst)
              have hfill := SWK.fill usC_len hblk zU (d.size - kk) kk dk wr hS2 (by omega)
              have HF : Aside (∃ d' : Array Use1, d'.size = dk.size ∧ (∀ j, j < kk → d'[j]! = dk[j]!) ∧ SWK usC 2 w blk off d' (wr.setCells blk (off + kk * 2) ((List.replicate (d.size - kk) zU).flatMap usC))) := hfill
              clear hS2 hI hfill
              go_wp2_with fail
              go_ret
              obtain ⟨d', hd1, hd2, hd3⟩ := HF.out
              have hI := I2.out
              rw [hend] at hI
              refine ⟨by rw [hI.len]; rfl, d', by omega, fun j hj => ?_, hd3⟩
              rw [hI.len] at hj
              rw [hI.low j hj, hd2 j hj]
        · go_wp2_with fail
          go_region_held3 (fun w' => w'.cell? ⟨blk, off + k * 2, none⟩ = some (.int .i64 x.1) ∧ w'.cell? ⟨blk, off + k * 2 + 1, none⟩ = some (.int .i64 x.2) ∧ w'.cell? ⟨blk, off + (k - 1) * 2, none⟩ = some (.int .i64 y.1) ∧ w'.cell? ⟨blk, off + (k - 1) * 2 + 1, none⟩ = some (.int .i64 y.2))
            (first | go_keep | (go_split_ands; refine ⟨?_, ?_, ?_, ?_⟩ <;> (rw [cell?_grow _ _ _ hbw]; assumption)))
            (first | (go_at_call 30; refine (closure2_diff _ _ hdup _).mono ?_; rintro e w' ⟨rfl, os, rfl⟩))
          go_wp2_with fail
          go_roundg (d.size - (k + 1))
          case measure => omega
          case rel =>
            refine ⟨k + 1, by omega, by omega, Nat.le_refl _, by go_num, (SWK.grown HS.out 0 os).drew, fun j hj => ?_⟩
            by_cases e : j = k
            · subst e
              exact keeps_pos (by rw [B.out.1, B.out.2]; exact hdup)
            · exact AL.out j (by omega)
      · have hkd : k = d.size := by omega
        have HL : Aside (CompactLeaves d blk off cap w (.returned (.slice (some ⟨blk, off, none⟩) d.size cap)) wr) := leaves_same hS (by rw [← hkd]; exact hall)
        clear hS hall hkd
        go_wp2_with fail
        go_ret
        exact HL.out
end Go.Proofs.YtnalfjaojcahhaaGreatDoor
namespace Go.Proofs.YtnalfjaojcahhaaGreatDoor
open Go.RowKit Go.Lib Go.Proofs

theorem infoUs : (Tryz.prog.info? 32).map (fun i => (i.zero, i.size, i.bytes)) = some (some (.agg #[.int .i64 0, .int .i64 0]), 2, 16) := by kernel_rfl
/-- A row of the call's own, of uses. -/
def OwnU (B : Nat) (w : World) (v : Value) (l : Us) : Prop := w.ownsRow B 32 2 v l.length (usesC l)
section
variable {B : Nat} {w w' : World} {v : Value} {l : Us}
theorem OwnU.nil (B : Nat) (w : World) : OwnU B w (.slice none 0 0) [] := World.ownsRow_nil _ _ _ _
theorem OwnU.keep (h : OwnU B w v l) (hk : ∀ b, B ≤ b → b < w.heap.size → w'.heap[b]? = w.heap[b]?) : OwnU B w' v l := by
  refine ⟨h.1, ?_⟩
  rcases h.2 with h0 | ⟨g, cap, cur, e, hg, hh, r⟩
  · exact .inl h0
  · refine .inr ⟨g, cap, cur, e, hg, ?_, r⟩
    have hlt : g < w.heap.size := by
      rcases Nat.lt_or_ge g w.heap.size with hlt | hge
      · exact hlt
      · rw [Array.getElem?_eq_none hge] at hh; cases hh
    exact (hk g hg hlt).trans hh
theorem OwnU.below (h : OwnU B w v l) (hb : Below w.heap.size w w') : OwnU B w' v l := h.keep fun b _ hlt => hb.block b hlt
theorem OwnU.less {B' : Nat} (h : OwnU B w v l) (hB : B' ≤ B) : OwnU B' w v l := by
  refine ⟨h.1, ?_⟩
  rcases h.2 with h0 | ⟨g, cap, cur, e, hg, r⟩
  · exact .inl h0
  · exact .inr ⟨g, cap, cur, e, Nat.le_trans hB hg, r⟩
theorem OwnU.lt (h : OwnU B w v l) : ∀ g, v.ownBlock = some g → B ≤ g ∧ g < w.heap.size := fun g hg => World.ownsRow.lt h g hg
/-- The form of a row's value. -/
theorem OwnU.form (h : OwnU B w v l) : ∃ A c, v = .slice A l.length c ∧ l.length ≤ c := by
  rcases h.2 with ⟨rfl, h0⟩ | ⟨g, cap, cur, rfl, _, _, hnc, _⟩
  · exact ⟨none, 0, by rw [h0], by omega⟩
  · exact ⟨_, cap, rfl, hnc⟩
end
theorem usC_one (l : Us) : ∀ u ∈ usesC l, u.oneCell' = true := by
  intro u hu
  obtain ⟨x, _, hx⟩ := List.mem_flatMap.1 hu
  unfold usC at hx
  simp only [List.mem_cons, List.not_mem_nil, or_false] at hx
  rcases hx with rfl | rfl <;> rfl
theorem grownBy_of_row {w w' : World} {r : Option Nat} {B : Nat} (h : w.grownBy w' r) (hr : ∀ g, r = some g → B ≤ g) (hB : B ≤ w.heap.size) : Below B w w' :=
  ⟨h.os, h.tape, h.output, h.size, fun k hk => h.block k (by omega) (fun e => by have := hr k e.symm; omega)⟩
theorem wp_pushU {o : Oper} {a : Act} {K : Act → World → Prop} {Q : Exit → Act → World → Prop} (s x : Operand)
    (ho : o.op = .call { callee := .builtin .append, args := #[s, x], argTypes := #[28, 28] })
    (B : Nat) (w1 : World) (u : Value) (l : Us) (m p : Int) (hs : a.eval s = u) (S : Nat) (hx : a.eval x = .slice (some ⟨S, 0, none⟩) 1 1) (hS : w1.heap.size = S)
    (hO : OwnU B w1 u l) (hB : B ≤ w1.heap.size) (hl : l.length ≤ 1000000)
    (h : ∀ g c w2, OwnU B w2 (.slice (some ⟨g, 0, none⟩) (l.length + 1) c) (l ++ [(m, p)]) → Below B w1 w2 → K (a.put o.dst (.slice (some ⟨g, 0, none⟩) (l.length + 1) c)) w2) :
    o.wp Tryz.prog a (w1.alloc (.cells #[.int .i64 m, .int .i64 p] 32)) K Q := by
  subst hS
  obtain ⟨i0, hi, hz0, hz1, hz2⟩ := info_parts infoUs
  refine wp_append_lies _ s x 28 ho B 32 i0 _ 2 16 Tryz.underlying28 hi hz0 hz1 hz2 rfl (by omega) u l.length _ hs (World.ownsRow.alloc hO _) ⟨w1.heap.size, 0, none⟩ 1 1 [.int .i64 m, .int .i64 p] hx rfl
    (World.news_of_block (cs := #[.int .i64 m, .int .i64 p]) (heap_alloc_new _ _)) (usC_one [(m, p)]) (by omega) (by unfold maxLen; omega) (by omega) (by rw [World.size_alloc]; omega) _ rfl ?_
  intro g c w2 hown1 hg hat _
  have e : usesC (l ++ [(m, p)]) = usesC l ++ [.int .i64 m, .int .i64 p] := by unfold usesC; rw [List.flatMap_append]; rfl
  refine h g c w2 ?_ (((Below.refl B w1).alloc hB _).trans (grownBy_of_row hg (fun g hg => (hO.lt g hg).1) (by rw [World.size_alloc]; omega)))
  unfold OwnU
  rw [e, List.length_append]
  exact hown1
theorem wpList_pushU {ops : Array Oper} {rest : List Oper} {o : Oper} {a : Act} {Q : Exit → Act → World → Prop} (hgd : o.guard = none) (s x : Operand)
    (ho : o.op = .call { callee := .builtin .append, args := #[s, x], argTypes := #[28, 28] })
    (B : Nat) (w1 : World) (u : Value) (l : Us) (m p : Int) (hs : a.eval s = u) (S : Nat) (hx : a.eval x = .slice (some ⟨S, 0, none⟩) 1 1) (hS : w1.heap.size = S)
    (hO : OwnU B w1 u l) (hB : B ≤ w1.heap.size) (hl : l.length ≤ 1000000)
    (h : ∀ g c w2, OwnU B w2 (.slice (some ⟨g, 0, none⟩) (l.length + 1) c) (l ++ [(m, p)]) → Below B w1 w2 → wpList Tryz.prog ops Q rest (a.put o.dst (.slice (some ⟨g, 0, none⟩) (l.length + 1) c)) w2) :
    wpList Tryz.prog ops Q (o :: rest) a (w1.alloc (.cells #[.int .i64 m, .int .i64 p] 32)) :=
  wpList_plain hgd fun _ hK => wp_pushU s x ho B w1 u l m p hs S hx hS hO hB hl fun g c w2 h1 h2 => hK _ _ (h g c w2 h1 h2)
/-- A row of uses is appended. -/
theorem wpList_appU {ops : Array Oper} {rest : List Oper} {o : Oper} {a : Act} {Q : Exit → Act → World → Prop} (hgd : o.guard = none) (s x : Operand)
    (ho : o.op = .call { callee := .builtin .append, args := #[s, x], argTypes := #[28, 28] })
    (B B1 : Nat) (w1 : World) (u v : Value) (l m : Us) (hs : a.eval s = u) (hx : a.eval x = v)
    (hO : OwnU B w1 u l) (hV : OwnU B1 w1 v m) (hB : B ≤ w1.heap.size) (hl : l.length + m.length ≤ 1000000)
    (h : ∀ v' w2, OwnU B w2 v' (l ++ m) → Below B w1 w2 → wpList Tryz.prog ops Q rest (a.put o.dst v') w2) :
    wpList Tryz.prog ops Q (o :: rest) a w1 := by
  obtain ⟨i0, hi, hz0, hz1, hz2⟩ := info_parts infoUs
  obtain ⟨A, c, rfl, _⟩ := hV.form
  refine wpList_append_any w1 hgd s x 28 ho B 32 i0 _ 2 16 Tryz.underlying28 hi hz0 hz1 hz2 rfl (by omega) u l.length _ hs hO w1.heap.size A m.length c (usesC m) hx (Reads.of_own hV) (usC_one m) (by unfold maxLen; omega) (by omega) hB ?_
  intro v' w2 hown1 hg _
  refine h v' w2 ?_ (grownBy_of_row hg (fun g hg => (hO.lt g hg).1) hB)
  unfold OwnU usesC
  rw [List.flatMap_append, List.length_append]
  exact hown1
end Go.Proofs.YtnalfjaojcahhaaGreatDoor
