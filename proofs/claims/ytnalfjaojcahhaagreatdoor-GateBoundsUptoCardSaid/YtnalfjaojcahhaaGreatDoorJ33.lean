/-
  demoticlaw13.GateMore, as a walk: awake is asked for. By an AI agent.
  The law's example: awake tells true. By an AI agent.
-/
import Derived.Test.YtnalfjaojcahhaaGreatDoorJ32
import Derived.Test.YtnalfjaojcahhaaGreatDoorJ27
import Derived.Test.YtnalfjaojcahhaaGreatDoorJ09
namespace Go.Proofs.YtnalfjaojcahhaaGreatDoor
open Go.RowKit Go.Lib Go.Proofs
attribute [local go_sem ↓] Go.wp_at_zero Go.wp_at_succ

theorem find_more {m m' : Int} (hm : m ≤ m') : ∀ (l : Us), l.Pairwise ltU → ∀ b, l.find? (fun u => decide (m' < u.1)) = some b → ∃ a, l.find? (fun u => decide (m < u.1)) = some a ∧ a.2 ≤ b.2
  | [], _, b, h => by simp at h
  | u :: l, hp, b, h => by
    obtain ⟨h1, h2⟩ := List.pairwise_cons.1 hp
    rw [List.find?_cons] at h ⊢
    by_cases hu : m' < u.1
    · rw [decide_eq_true hu] at h
      injection h with h
      subst h
      rw [decide_eq_true (show m < u.1 by omega)]
      exact ⟨_, rfl, Int.le_refl _⟩
    · rw [decide_eq_false hu] at h
      by_cases hv : m < u.1
      · rw [decide_eq_true hv]
        have hb := h1 b (List.mem_of_find?_eq_some h)
        unfold ltU at hb
        exact ⟨_, rfl, by omega⟩
      · rw [decide_eq_false hv]
        exact find_more hm l h2 b h
theorem firstT_more {m m' : Int} (hm : m ≤ m') (n : Nd) {b : Int × Int} (h : firstT m' n = some b) : ∃ a, firstT m n = some a ∧ a.2 ≤ b.2 := find_more hm _ (usesT_pair n) b h
theorem firstT_gt {m : Int} {n : Nd} {a : Int × Int} (h : firstT m n = some a) : m < a.1 := by
  have := List.find?_some h
  simpa using this
/-- How the two answers lie. -/
theorem more_cases (m k : Int) (hk : 0 ≤ k) (n : Nd) : (firstT m n = none ∧ firstT (m + k) n = none) ∨ (∃ a, firstT m n = some a ∧ m < a.1 ∧ firstT (m + k) n = none) ∨ ∃ a b, firstT m n = some a ∧ m < a.1 ∧ firstT (m + k) n = some b ∧ m + k < b.1 ∧ a.2 ≤ b.2 := by
  cases hb : firstT (m + k) n with
  | some b =>
    obtain ⟨a, ha, hab⟩ := firstT_more (show m ≤ m + k by omega) n hb
    exact .inr (.inr ⟨a, b, ha, firstT_gt ha, rfl, firstT_gt hb, hab⟩)
  | none =>
    cases ha : firstT m n with
    | none => exact .inl ⟨rfl, rfl⟩
    | some a => exact .inr (.inl ⟨a, rfl, firstT_gt ha, rfl⟩)

set_option maxRecDepth 100000 in
set_option maxHeartbeats 4000000 in
theorem gmore_any (v : Value) (n : Nd) (m k : Int) (hm0 : 0 ≤ m) (hm1 : m < 256) (hk0 : 0 ≤ k) (hk1 : k < 256) (w : World) (hT : Tab w) (hv : NodeW w v n) (hw : Wee 1000 n) (hc : (lefts 1000 n).length ≤ 400000000) (hA : AwakeC w) :
    Calls Tryz.prog 7 #[v, .int .u8 m, .int .u8 k] w fun e w' => e = .returned (.bool true) ∧ Below w.heap.size w w' := by
  have HV0 := Lib.hid hv
  obtain ⟨A, cp, rfl, hC⟩ := hv.toC
  have hB := (Below.refl w.heap.size w).alloc (Nat.le_refl _) (.cells #[.int .i64 n.kind, .string n.text, .slice A n.kids.length cp, .int .i64 n.pos] 24)
  have b1 : Blk (w.alloc (.cells #[.int .i64 n.kind, .string n.text, .slice A n.kids.length cp, .int .i64 n.pos] 24)) w.heap.size 24 #[.int .i64 n.kind, .string n.text, .slice A n.kids.length cp, .int .i64 n.pos] := Blk.new w _ _
  have HS := Lib.hid (rsize_any 1000 _ n _ (Nat.le_refl _) (HV0.out.below hB) hw (by omega))
  have HFI := Lib.hid (fun m w' (hb : Below w.heap.size w w') => first_any _ n m w' (hT.below hb) (HV0.out.below hb) (hw.le (by omega)) (by have := lefts_le (g := 100) (h := 1000) n (by omega); omega))
  have HAW := Lib.hid hA
  have HMC := Lib.hid (more_cases m k hk0 n)
  clear hv hC HV0 hT hw hA
  generalize (lefts 1000 n).length = z at *
  go_enter Tryz.func7, Tryz.ntmps7
  go_wp2_with fail
  refine HS.out.mono ?_
  rintro e w1 ⟨rfl, hb1⟩
  have hB1 := hB.trans (hb1.mono hB.size)
  have b11 := b1.below hb1 b1.lt
  clear hb1 b1 hB HS
  by_cases hz : z > 1000
  · have hz2 : (z : Int) > 1000 := by omega
    go_wp2_with fail
    go_ret
    exact ⟨rfl, hB1⟩
  have hz2 : ¬ (z : Int) > 1000 := by omega
  obtain ⟨x0, x1, x2, x3, -, -, -, -⟩ := blk4 b11
  have q1 : IntKind.i64.wrap m = m := IntWalk.i64_in _ (by omega)
  have q2 : IntKind.i64.wrap k = k := IntWalk.i64_in _ (by omega)
  have q3 : IntKind.i64.wrap (m + k) = m + k := IntWalk.i64_in _ (by omega)
  go_wp2_with fail
  refine (HFI.out m w1 hB1).mono ?_
  rcases HMC.out with ⟨e1, e2⟩ | ⟨⟨am, aa⟩, e1, ha, e2⟩ | ⟨⟨am, aa⟩, ⟨bm, ba⟩, e1, ha, e2, hb, hab⟩
  · rw [e1, show firstV none = .tuple #[.agg #[.int .i64 0, .int .i64 0], .bool false] from rfl]
    rintro e w2 ⟨rfl, hb2⟩
    have hB2 := hB1.trans (hb2.mono hB1.size)
    have b12 := b11.below hb2 b11.lt
    have hB3 := hB2.alloc hB2.size (.cells #[.int .i64 0, .int .i64 0] 32)
    clear hb2 b11 x0 x1 x2 x3
    obtain ⟨x0, x1, x2, x3, -, -, -, -⟩ := blk4 (b12.alloc (.cells #[.int .i64 0, .int .i64 0] 32))
    go_wp2_with fail
    refine (HFI.out (m + k) _ hB3).mono ?_
    rw [e2, show firstV none = .tuple #[.agg #[.int .i64 0, .int .i64 0], .bool false] from rfl]
    rintro e w4 ⟨rfl, hb4⟩
    have hB4 := hB3.trans (hb4.mono hB3.size)
    have hB5 := hB4.alloc hB4.size (.cells #[.int .i64 0, .int .i64 0] 32)
    clear hb4 hB4 hB3 hB2 hB1 HFI HMC x0 x1 x2 x3 b12 e1 e2
    go_wp2_with fail
    refine (HAW.out _ hB5).mono ?_
    rintro e w8 ⟨rfl, hb8⟩
    go_wp2_with fail
    go_ret
    exact ⟨rfl, hB5.trans (hb8.mono hB5.size)⟩
  · rw [e1, show firstV (some (am, aa)) = .tuple #[.agg #[.int .i64 am, .int .i64 aa], .bool true] from rfl]
    rintro e w2 ⟨rfl, hb2⟩
    have hB2 := hB1.trans (hb2.mono hB1.size)
    have b12 := b11.below hb2 b11.lt
    have hB3 := hB2.alloc hB2.size (.cells #[.int .i64 am, .int .i64 aa] 32)
    have hP3 := Blk.new w2 32 #[.int .i64 am, .int .i64 aa]
    clear hb2 b11 x0 x1 x2 x3
    obtain ⟨x0, x1, x2, x3, -, -, -, -⟩ := blk4 (b12.alloc (.cells #[.int .i64 am, .int .i64 aa] 32))
    go_wp2_with fail
    refine (HFI.out (m + k) _ hB3).mono ?_
    rw [e2, show firstV none = .tuple #[.agg #[.int .i64 0, .int .i64 0], .bool false] from rfl]
    rintro e w4 ⟨rfl, hb4⟩
    have hB4 := hB3.trans (hb4.mono hB3.size)
    have hP4 := hP3.below hb4 hP3.lt
    have hB5 := hB4.alloc hB4.size (.cells #[.int .i64 0, .int .i64 0] 32)
    obtain ⟨y0, y1, -, -⟩ := blk2 (hP4.alloc (.cells #[.int .i64 0, .int .i64 0] 32))
    have hda : decide (am > m) = true := by rw [decide_eq_true_iff]; omega
    clear hb4 hB4 hB3 hB2 hB1 HFI HMC x0 x1 x2 x3 b12 e1 e2 hP3
    go_wp2_with fail
    refine (HAW.out _ hB5).mono ?_
    rintro e w8 ⟨rfl, hb8⟩
    go_wp2_with fail
    go_ret
    exact ⟨rfl, hB5.trans (hb8.mono hB5.size)⟩
  · rw [e1, show firstV (some (am, aa)) = .tuple #[.agg #[.int .i64 am, .int .i64 aa], .bool true] from rfl]
    rintro e w2 ⟨rfl, hb2⟩
    have hB2 := hB1.trans (hb2.mono hB1.size)
    have b12 := b11.below hb2 b11.lt
    have hB3 := hB2.alloc hB2.size (.cells #[.int .i64 am, .int .i64 aa] 32)
    have hP3 := Blk.new w2 32 #[.int .i64 am, .int .i64 aa]
    clear hb2 b11 x0 x1 x2 x3
    obtain ⟨x0, x1, x2, x3, -, -, -, -⟩ := blk4 (b12.alloc (.cells #[.int .i64 am, .int .i64 aa] 32))
    go_wp2_with fail
    refine (HFI.out (m + k) _ hB3).mono ?_
    rw [e2, show firstV (some (bm, ba)) = .tuple #[.agg #[.int .i64 bm, .int .i64 ba], .bool true] from rfl]
    rintro e w4 ⟨rfl, hb4⟩
    have hB4 := hB3.trans (hb4.mono hB3.size)
    have hP4 := hP3.below hb4 hP3.lt
    have hB5 := hB4.alloc hB4.size (.cells #[.int .i64 bm, .int .i64 ba] 32)
    obtain ⟨y0, y1, -, -⟩ := blk2 (hP4.alloc (.cells #[.int .i64 bm, .int .i64 ba] 32))
    have hda : decide (am > m) = true := by rw [decide_eq_true_iff]; omega
    have hdb : decide (ba < aa) = false := by rw [decide_eq_false_iff_not]; omega
    have hdc : decide (bm ≤ m + k) = false := by rw [decide_eq_false_iff_not]; omega
    clear hb4 hB4 hB3 hB2 hB1 HFI HMC x0 x1 x2 x3 b12 e1 e2 hP3
    go_wp2_with fail
    refine (HAW.out _ hB5).mono ?_
    rintro e w8 ⟨rfl, hb8⟩
    go_wp2_with fail
    go_ret
    exact ⟨rfl, hB5.trans (hb8.mono hB5.size)⟩
end Go.Proofs.YtnalfjaojcahhaaGreatDoor
namespace Go.Proofs.YtnalfjaojcahhaaGreatDoor
open Go.RowKit Go.Lib Go.Proofs Go.Joins
attribute [local go_sem ↓] Go.wp_at_zero Go.wp_at_succ
attribute [local go_sem] fld_nd0 fld_nd1 fld_nd2 fld_nd3

/-- The text's cells. -/
def awkC : Array Value := #[.int .u8 112, .int .u8 97, .int .u8 99, .int .u8 107, .int .u8 97, .int .u8 103, .int .u8 101, .int .u8 32, .int .u8 112, .int .u8 10, .int .u8 116, .int .u8 121, .int .u8 112, .int .u8 101, .int .u8 32, .int .u8 65, .int .u8 91, .int .u8 80, .int .u8 32, .int .u8 97, .int .u8 110, .int .u8 121, .int .u8 93, .int .u8 32, .int .u8 61, .int .u8 32, .int .u8 91, .int .u8 93, .int .u8 80]
theorem awk_cells : awkC = awkS.data.map fun b => .int .u8 (b.toNat : Int) := by kernel_rfl
theorem awk_bytes (w : World) : Lib.Bytes (w.alloc (.cells awkC 5 (29, 30))) w.heap.size 0 awkS := by
  intro i hi
  have h := World.cell?_alloc_mark w awkC 5 (29, 30) (0 + i)
  rw [h, awk_cells, Nat.zero_add, Array.getElem?_map, Array.getElem?_eq_getElem (xs := awkS.data) hi]
  rfl

theorem srt_awk : srt [(18, 17), (24, 10)] = [(24, 10), (18, 17)] := by
  unfold srt
  rw [List.mergeSort.eq_3]
  simp [List.MergeSort.Internal.splitInTwo, ltOf, cmpU, cmpI]
theorem sd_awk : sd [(18, 17), (24, 10)] = [(24, 10), (18, 17)] := by
  unfold sd
  rw [srt_awk]
  kernel_rfl
theorem awk_uses : usesT awkN = [(24, 10), (18, 17)] := by
  unfold usesT
  rw [if_pos awk_right, awk_here, sd_awk]
theorem awk_wee : Wee 101 awkN := wee_of 101 awkN (by decide +kernel)
theorem awk_lefts : (lefts 100 awkN).length ≤ 1000000000 := Nat.le_trans (lefts_tot 100 awkN) (by decide +kernel)

set_option maxRecDepth 100000 in
set_option maxHeartbeats 4000000 in
theorem awake_true (w : World) (hT : Tab w) : Calls Tryz.prog 10 #[] w fun e w' => e = .returned (.bool true) ∧ Below w.heap.size w w' := by
  have hB0 : Below w.heap.size w (w.alloc (.cells awkC 5 (29, 30))) := (Below.refl _ _).alloc (Nat.le_refl _) _
  have HF : Calls Tryz.prog 22 #[.slice (some ⟨w.heap.size, 0, none⟩) 29 29] (w.alloc (.cells awkC 5 (29, 30))) _ :=
    readFile_ok w.heap.size 0 29 awkS (w.alloc (.cells awkC 5 (29, 30))) 31 awkL awk_goes (awk_bytes w) (by simp) (by decide +kernel) (hT.below hB0) (fnsT 12) (fun E => okF_T E 12 (by omega)) awkN ⟨14, false, -1⟩ awk_reads rfl awk_right awk_wee awk_lefts
  have HF := Lib.hid HF
  have hcv := run_convert_bytes_const_at (P := Tryz.prog) w 47 5 awkC 29 29 w.heap.size rfl Tryz.underlying47 Tryz.underlying5
  unfold awkC at hcv
  go_enter Tryz.func10, Tryz.ntmps10
  go_wp2_with fail
  refine HF.out.mono ?_
  rintro e w1 ⟨v, rfl, hv, hb1⟩
  have hB1 := hB0.trans (hb1.mono hB0.size)
  obtain ⟨A, cp, rfl, hC⟩ := hv.toC
  have hB2 := hB1.alloc hB1.size (.cells #[.int .i64 awkN.kind, .string awkN.text, .slice A awkN.kids.length cp, .int .i64 awkN.pos] 24)
  have HU := Lib.hid (uses_any _ awkN _ (hT.below hB2) (hv.wide.below ((Below.refl _ _).alloc (Nat.le_refl _) (.cells #[.int .i64 awkN.kind, .string awkN.text, .slice A awkN.kids.length cp, .int .i64 awkN.pos] 24))) awk_wee awk_lefts)
  rw [awk_uses] at HU
  clear hb1 HF hB0 hB1 hC hcv hv
  go_wp2_with fail
  refine HU.out.mono ?_
  rintro e w2 ⟨A1, c1, rfl, hlc, hr1, hb2⟩
  have hB3 := hB2.trans (hb2.mono hB2.size)
  obtain ⟨bk, off, rfl, -, hcc⟩ := hr1.el usC_len (by omega) rfl (i := 0) (by decide)
  have k0 := hcc 0 (by decide) 0 _ rfl
  have k1 := hcc 0 (by decide) 1 _ rfl
  have k2 := hcc 1 (by decide) 0 _ rfl
  have k3 := hcc 1 (by decide) 1 _ rfl
  simp at k0 k1 k2 k3
  clear HU hb2 hB2 hr1 hcc
  go_wp2_with fail
  go_ret
  exact ⟨rfl, hB3⟩
/-- In every world behind one that holds the search's bound. -/
theorem awakeC (w : World) (hT : Tab w) : AwakeC w := fun _ hb => awake_true _ (hT.below hb)
end Go.Proofs.YtnalfjaojcahhaaGreatDoor
