/-
  demoticref06.Right at "file": the same as tree's. By an AI agent.
  demoticlaw13.GateOld, as a walk: awake is asked for. By an AI agent.
  demoticlaw13.GateUses, as a walk: awake is asked for. By an AI agent.
  A row of bools; a file of one of a file's declarations as a value. By an AI agent.
-/
import Derived.Test.YtnalfjaojcahhaaGreatDoorJ32
import Derived.Test.YtnalfjaojcahhaaGreatDoorJ22
import Derived.Test.YtnalfjaojcahhaaGreatDoorJ23
import Derived.Test.YtnalfjaojcahhaaGreatDoorJ26
import Derived.Test.YtnalfjaojcahhaaGreatDoorJ03
import Derived.Test.YtnalfjaojcahhaaGreatDoorJ06
import Derived.Laws.MakeOwn
namespace Go.Proofs.YtnalfjaojcahhaaGreatDoor
open Go.RowKit Go.Lib Go.Proofs
attribute [local go_sem ↓] Go.wp_at_zero Go.wp_at_succ

theorem foldl_max_iff' (l : List Nat) : ∀ a m, l.foldl max a ≤ m ↔ a ≤ m ∧ ∀ x ∈ l, x ≤ m := by
  induction l with
  | nil => intro a m; simp
  | cons x l ih =>
    intro a m
    rw [List.foldl_cons, ih, Nat.max_le]
    simp only [List.mem_cons, forall_eq_or_imp]
    constructor
    · rintro ⟨⟨h1, h2⟩, h3⟩; exact ⟨h1, h2, h3⟩
    · rintro ⟨h1, h2, h3⟩; exact ⟨⟨h1, h2⟩, h3⟩
theorem depR_iff : ∀ (g : Nat) (n : Nd) (m : Nat), depR g n ≤ m ↔ ∀ x ∈ lefts g n, g + 1 - x ≤ m
  | 0, n, m => by simp [depR, lefts]
  | g + 1, n, 0 => by
    rw [lefts, depR]
    constructor
    · intro h; omega
    · intro h
      have := h (g + 1) List.mem_cons_self
      omega
  | g + 1, n, m + 1 => by
    rw [lefts, depR, Nat.add_le_add_iff_right, foldl_max_iff']
    constructor
    · rintro ⟨-, h⟩ x hx
      rcases List.mem_cons.1 hx with rfl | hx
      · omega
      · obtain ⟨k, hk, hx⟩ := List.mem_flatMap.1 hx
        have := (depR_iff g k m).1 (h _ (List.mem_map.2 ⟨k, hk, rfl⟩)) x hx
        omega
    · intro h
      refine ⟨Nat.zero_le _, fun y hy => ?_⟩
      obtain ⟨k, hk, rfl⟩ := List.mem_map.1 hy
      refine (depR_iff g k m).2 fun x hx => ?_
      have := h x (List.mem_cons_of_mem _ (List.mem_flatMap.2 ⟨k, hk, hx⟩))
      omega
theorem depR_depthT (n : Nd) : depR 101 n ≤ 100 ↔ depthT n ≤ 100 := by
  rw [depR_iff, depthT, foldl_max_iff]
  constructor
  · intro h
    exact ⟨Nat.zero_le _, fun x hx => by have := h x hx; omega⟩
  · rintro ⟨-, h⟩ x hx
    have := h x hx
    omega

set_option maxRecDepth 100000 in
set_option maxHeartbeats 4000000 in
theorem uright_any (v : Value) (n : Nd) (w : World) (hv : NodeW w v n) (hw : Wee 101 n) (hc : (lefts 100 n).length ≤ 1000000000) :
    Calls Tryz.prog 9 #[v, .string (⟨#[102, 105, 108, 101]⟩ : ByteArray)] w fun e w' => e = .returned (.bool (rightFile n)) ∧ Below w.heap.size w w' := by
  have HV := Lib.hid hv
  obtain ⟨A, cp, rfl, hC⟩ := hv.toC
  have hB := (Below.refl w.heap.size w).alloc (Nat.le_refl _) (.cells #[.int .i64 n.kind, .string n.text, .slice A n.kids.length cp, .int .i64 n.pos] 24)
  have b1 : Blk (w.alloc (.cells #[.int .i64 n.kind, .string n.text, .slice A n.kids.length cp, .int .i64 n.pos] 24)) w.heap.size 24 #[.int .i64 n.kind, .string n.text, .slice A n.kids.length cp, .int .i64 n.pos] := Blk.new w _ _
  have HDE := Lib.hid (udepth_any 101 _ n _ (by decide) (NodeV.below HV.out hB) hw)
  have HSI := Lib.hid (fun w' (hb : Below w.heap.size w w') => rsize_any 100 _ n w' (by decide) (NodeV.below HV.out hb) (Wee.pred hw) hc)
  have HE := Lib.hid (rightFile_eq n)
  have HL := Lib.hid (depR_depthT n)
  have HW := Lib.hid hw
  have hlen := hw.1.1
  clear hv hC hw hc
  by_cases hd : depR 101 n ≤ 100
  rotate_left
  · have hd2 : ((depR 101 n : Nat) : Int) > 100 := by omega
    have HX := Lib.hid (show rightFile n = false by rw [HE.out, decide_eq_false (by have := HL.out; omega), Bool.false_and])
    clear hd
    generalize depR 101 n = z at *
    go_enter Tryz.func9, Tryz.ntmps9
    go_wp2_with fail
    refine HDE.out.mono ?_
    rintro e w1 ⟨rfl, hb1⟩
    go_wp2_with fail
    go_ret
    exact ⟨by rw [HX.out]; rfl, hB.trans (hb1.mono hB.size)⟩
  have hd2 : ¬ ((depR 101 n : Nat) : Int) > 100 := by omega
  have HD := Lib.hid (dle_of_depth (Wee.pred HW.out) (HL.out.1 hd))
  have HE1 := Lib.hid (show rightFile n = (decide (((lefts 100 n).length : Int) ≤ 65536) && fileT (tfns 100) n) by rw [HE.out, decide_eq_true (by have := HL.out; omega), Bool.true_and])
  clear hd HL HE HW
  generalize depR 101 n = z at *
  by_cases hs : (lefts 100 n).length ≤ 65536
  rotate_left
  · have hs2 : ((lefts 100 n).length : Int) > 65536 := by omega
    have HX := Lib.hid (show rightFile n = false by rw [HE1.out, decide_eq_false (by omega), Bool.false_and])
    clear hs
    generalize (lefts 100 n).length = y at *
    go_enter Tryz.func9, Tryz.ntmps9
    go_wp2_with fail
    refine HDE.out.mono ?_
    rintro e w1 ⟨rfl, hb1⟩
    have hB1 := hB.trans (hb1.mono hB.size)
    have b2 := b1.below hb1 b1.lt
    obtain ⟨x0, x1, x2, x3, -, -, -, -⟩ := blk4 b2
    go_wp2_with fail
    refine (HSI.out _ hB1).mono ?_
    rintro e w2 ⟨rfl, hb2⟩
    go_wp2_with fail
    go_ret
    exact ⟨by rw [HX.out]; rfl, hB1.trans (hb2.mono hB1.size)⟩
  have hs2 : ¬ ((lefts 100 n).length : Int) > 65536 := by omega
  have HE2 := Lib.hid (show rightFile n = fileT (tfns 100) n by rw [HE1.out, decide_eq_true (by omega), Bool.true_and])
  clear hs HE1
  generalize (lefts 100 n).length = y at *
  by_cases h1 : n.kind = 1
  rotate_left
  · have hne : (n.kind != 1) = true := by simpa using h1
    have HX := Lib.hid (show rightFile n = false by rw [HE2.out]; unfold fileT; rw [decide_eq_false h1, Bool.false_and])
    clear h1
    generalize n.kind = k at *
    go_enter Tryz.func9, Tryz.ntmps9
    go_wp2_with fail
    refine HDE.out.mono ?_
    rintro e w1 ⟨rfl, hb1⟩
    have hB1 := hB.trans (hb1.mono hB.size)
    have b2 := b1.below hb1 b1.lt
    obtain ⟨x0, x1, x2, x3, -, -, -, -⟩ := blk4 b2
    go_wp2_with fail
    refine (HSI.out _ hB1).mono ?_
    rintro e w2 ⟨rfl, hb2⟩
    have hB2 := hB1.trans (hb2.mono hB1.size)
    have b3 := b2.below hb2 b2.lt
    clear x0 x1 x2 x3
    obtain ⟨x0, x1, x2, x3, -, -, -, -⟩ := blk4 b3
    go_wp2_with fail
    go_ret
    exact ⟨by rw [HX.out]; rfl, hB2⟩
  have hne : (n.kind != 1) = false := by simpa using h1
  have HE3 := Lib.hid (show rightFile n = (nameT n.text && n.kids.all (declT (tfns 100))) by rw [HE2.out]; unfold fileT; rw [decide_eq_true h1, Bool.true_and])
  clear h1 HE2
  generalize n.kind = k at *
  cases hn : nameT n.text with
  | false =>
    have HX := Lib.hid (show rightFile n = false by rw [HE3.out, hn, Bool.false_and])
    go_enter Tryz.func9, Tryz.ntmps9
    go_wp2_with fail
    refine HDE.out.mono ?_
    rintro e w1 ⟨rfl, hb1⟩
    have hB1 := hB.trans (hb1.mono hB.size)
    have b2 := b1.below hb1 b1.lt
    obtain ⟨x0, x1, x2, x3, -, -, -, -⟩ := blk4 b2
    go_wp2_with fail
    refine (HSI.out _ hB1).mono ?_
    rintro e w2 ⟨rfl, hb2⟩
    have hB2 := hB1.trans (hb2.mono hB1.size)
    have b3 := b2.below hb2 b2.lt
    clear x0 x1 x2 x3
    obtain ⟨x0, x1, x2, x3, -, -, -, -⟩ := blk4 b3
    go_wp2_with fail
    refine (uname_any _ _).mono ?_
    rw [hn]
    rintro e w3 ⟨rfl, hb3⟩
    go_wp2_with fail
    go_ret
    exact ⟨by rw [HX.out]; rfl, hB2.trans (hb3.mono hB2.size)⟩
  | true =>
    have HALL := Lib.hid (show rightFile n = n.kids.all (declT (tfns 100)) by rw [HE3.out, hn, Bool.true_and])
    clear HE3
    have HDD := Lib.hid (udecl_any 100)
    generalize tfns 100 = F at *
    go_enter Tryz.func9, Tryz.ntmps9
    go_wp2_with fail
    refine HDE.out.mono ?_
    rintro e w1 ⟨rfl, hb1⟩
    have hB1 := hB.trans (hb1.mono hB.size)
    have b2 := b1.below hb1 b1.lt
    obtain ⟨x0, x1, x2, x3, -, -, -, -⟩ := blk4 b2
    go_wp2_with fail
    refine (HSI.out _ hB1).mono ?_
    rintro e w2 ⟨rfl, hb2⟩
    have hB2 := hB1.trans (hb2.mono hB1.size)
    have b3 := b2.below hb2 b2.lt
    clear x0 x1 x2 x3
    obtain ⟨x0, x1, x2, x3, -, -, -, -⟩ := blk4 b3
    go_wp2_with fail
    refine (uname_any _ _).mono ?_
    rw [hn]
    rintro e w3 ⟨rfl, hb3⟩
    have hB3 := hB2.trans (hb3.mono hB2.size)
    have b4 := b3.below hb3 b3.lt
    clear x0 x1 x2 x3 b1 b2 b3 hb1 hb2 hb3 hB hB1 hB2 HDE HSI
    go_wp2_with fail
    go_loopg [5] n.kids.length (fun g1 u5 wr => ∃ i : Nat, i ≤ n.kids.length ∧ n.kids.length - i ≤ g1 ∧ u5 = .int .i64 (i : Int) ∧ (n.kids.take i).all (declT F) = true ∧ Below w.heap.size w wr ∧ Blk wr w.heap.size 24 #[.int .i64 k, .string n.text, .slice A n.kids.length cp, .int .i64 n.pos])
    case atStart => exact ⟨0, Nat.zero_le _, by omega, rfl, rfl, hB3, b4⟩
    case round =>
      clear b4 hB3
      obtain ⟨i, hi, hg, rfl, hall, hB, b1⟩ := hrel
      obtain ⟨x0, x1, x2, x3, -, -, -, -⟩ := blk4 b1
      by_cases hlt : i < n.kids.length
      · have hlt2 : (i : Int) < (n.kids.length : Int) := by omega
        have h0 : (0 : Int) ≤ (i : Int) := by omega
        obtain ⟨bp, op, A1, cp1, rfl, hp⟩ := kid_at (NodeV.below HV.out hB) i hlt
        have HOK := Lib.hid (show declT F n.kids[i] = true → (n.kids.take (i + 1)).all (declT F) = true by
          intro h
          rw [List.take_succ_eq_append_getElem hlt, List.all_append, hall]
          simp [h])
        have HBAD := Lib.hid (show declT F n.kids[i] = false → rightFile n = false by
          intro h
          rw [HALL.out, List.all_eq_false]
          exact ⟨_, List.getElem_mem hlt, by simp [h]⟩)
        have HC := Lib.hid (HDD.out _ n.kids[i] wr hp.2.2.2.2 (HD.out.kid' (List.getElem_mem hlt)).succ)
        clear hall
        generalize n.kids[i] = x at *
        obtain ⟨k0, k1, k2, k3, -⟩ := hp
        cases hx : declT F x with
        | true =>
          have HX := Lib.hid (HOK.out hx)
          rw [hx] at HC
          clear HOK HBAD hx
          go_wp2_with fail
          refine HC.out.mono ?_
          rintro e w2 ⟨rfl, hb2⟩
          have hB2 := hB.trans (hb2.mono hB.size)
          have b2 := b1.below hb2 b1.lt
          clear hb2 b1 HC k0 k1 k2 k3 x0 x1 x2 x3
          go_wp2_with fail
          go_roundg (n.kids.length - (i + 1))
          case measure => omega
          case rel => exact ⟨i + 1, by omega, Nat.le_refl _, by go_num, HX.out, hB2, b2⟩
        | false =>
          have HX := Lib.hid (HBAD.out hx)
          rw [hx] at HC
          clear HOK HBAD hx
          go_wp2_with fail
          refine HC.out.mono ?_
          rintro e w2 ⟨rfl, hb2⟩
          have hB2 := hB.trans (hb2.mono hB.size)
          go_wp2_with fail
          go_ret
          exact ⟨by rw [HX.out]; rfl, hB2⟩
      · have hlt2 : ¬ (i : Int) < (n.kids.length : Int) := by omega
        have HX := Lib.hid (show rightFile n = true by rw [HALL.out, ← hall, List.take_of_length_le (by omega)])
        go_wp2_with fail
        go_ret
        exact ⟨by rw [HX.out]; rfl, hB⟩
end Go.Proofs.YtnalfjaojcahhaaGreatDoor
namespace Go.Proofs.YtnalfjaojcahhaaGreatDoor
open Go.RowKit Go.Lib Go.Proofs
attribute [local go_sem ↓] Go.wp_at_zero Go.wp_at_succ

theorem allT_lefts (n : Nd) (h : (lefts 1000 n).length ≤ 1000) : (allT 200 n).length ≤ 1000 := by
  rw [allT_len]
  exact Nat.le_trans (lefts_le n (by decide)) h

set_option maxRecDepth 100000 in
set_option maxHeartbeats 8000000 in
theorem gold_any (v : Value) (n : Nd) (w : World) (hT : Tab w) (hv : NodeW w v n) (hw : Wee 1000 n) (hc : (lefts 1000 n).length ≤ 400000000) (hA : AwakeC w) :
    Calls Tryz.prog 4 #[v] w fun e w' => e = .returned (.bool true) ∧ Below w.heap.size w w' := by
  have HV0 := Lib.hid hv
  have hv2 : NodeV (fun b => b < w.heap.size) w v n := hv.mono fun b _ hlt => hlt
  obtain ⟨A, cp, rfl, hC⟩ := hv.toC
  have hB := (Below.refl w.heap.size w).alloc (Nat.le_refl _) (.cells #[.int .i64 n.kind, .string n.text, .slice A n.kids.length cp, .int .i64 n.pos] 24)
  have b1 : Blk (w.alloc (.cells #[.int .i64 n.kind, .string n.text, .slice A n.kids.length cp, .int .i64 n.pos] 24)) w.heap.size 24 #[.int .i64 n.kind, .string n.text, .slice A n.kids.length cp, .int .i64 n.pos] := Blk.new w _ _
  have HS := Lib.hid (fun w' (hb : Below w.heap.size w w') => rsize_any 1000 _ n w' (Nat.le_refl _) (HV0.out.below hb) hw (by omega))
  have HU := Lib.hid (fun w' (hb : Below w.heap.size w w') => uses_any _ n w' (hT.below hb) (HV0.out.below hb) (hw.le (by omega)) (by have := lefts_le (g := 100) (h := 1000) n (by omega); omega))
  have HRI := Lib.hid (fun w' (hb : Below w.heap.size w w') => uright_any _ n w' (HV0.out.below hb) (hw.le (by omega)) (by have := lefts_le (g := 100) (h := 1000) n (by omega); omega))
  have HAL := Lib.hid (fun (hz : (lefts 1000 n).length ≤ 1000) w' (hb : Below w.heap.size w w') => uall_any w.heap.size 200 _ n w' (by decide) (NodeV.below hv2 hb) hb.size (hw.le (by omega)) (by have := lefts_le (g := 200) (h := 1000) n (by omega); omega))
  have HLA := Lib.hid (allT_lefts n)
  have HAW := Lib.hid hA
  have HND := Lib.hid (fun h => allT_need 200 n (need_right n h))
  have HOR := Lib.hid (fun h : rightFile n = true => (usesT_right h ▸ old_right n h (dle_of_depth (hw.le (by omega)) (right_depth h)) : decide (0 < (usesT n).length) = (allT 200 n).any newsN))
  have hul : (usesT n).length ≤ 800000000 := by
    have := hereT_le 100 n
    have := lefts_le (g := 100) (h := 1000) n (by omega)
    unfold usesT
    split
    · have := sd_len (hereT 100 n); omega
    · simp
  clear hv hv2 hC HV0 hT hw hA
  generalize (lefts 1000 n).length = z at *
  generalize allT 200 n = all at *
  go_enter Tryz.func4, Tryz.ntmps4
  go_wp2_with fail
  refine (HS.out _ hB).mono ?_
  rintro e w1 ⟨rfl, hb1⟩
  have hB1 := hB.trans (hb1.mono hB.size)
  have b11 := b1.below hb1 b1.lt
  clear hb1 b1 hB
  obtain ⟨x0, x1, x2, x3, -, -, -, -⟩ := blk4 b11
  by_cases hz : z > 1000
  · have hz2 : (z : Int) > 1000 := by omega
    go_wp2_with fail
    refine (HS.out _ hB1).mono ?_
    rintro e w2 ⟨rfl, hb2⟩
    have hB2 := hB1.trans (hb2.mono hB1.size)
    go_wp2_with fail
    go_ret
    exact ⟨rfl, hB2⟩
  have hz2 : ¬ (z : Int) > 1000 := by omega
  have hz3 : z ≤ 1000 := by omega
  go_wp2_with fail
  refine (HRI.out _ hB1).mono ?_
  rintro e w2 ⟨rfl, hb2⟩
  have hB2 := hB1.trans (hb2.mono hB1.size)
  have b12 := b11.below hb2 b11.lt
  clear hb2 b11 hB1 x0 x1 x2 x3 HRI
  obtain ⟨x0, x1, x2, x3, -, -, -, -⟩ := blk4 b12
  cases hr : rightFile n with
  | false =>
    clear HND HOR
    go_wp2_with fail
    refine (HS.out _ hB2).mono ?_
    rintro e w3 ⟨rfl, hb3⟩
    have hB3 := hB2.trans (hb3.mono hB2.size)
    go_wp2_with fail
    refine (HAW.out _ hB3).mono ?_
    rintro e w4 ⟨rfl, hb4⟩
    go_wp2_with fail
    go_ret
    exact ⟨rfl, hB3.trans (hb4.mono hB3.size)⟩
  | true =>
    have HNA := Lib.hid (HND.out hr)
    have HOL := Lib.hid (HOR.out hr)
    have hall : all.length ≤ 1000 := HLA.out hz3
    clear HND HOR hr
    go_wp2_with fail
    refine (HAL.out hz3 _ hB2).mono ?_
    rintro e w3 ⟨⟨v4, rfl, hO⟩, hb3⟩
    have hB3 := hB2.trans (hb3.mono hB2.size)
    have b13 := b12.below hb3 b12.lt
    have hvs := hO.values
    obtain ⟨A4, c4, rfl, hc4⟩ := hO.form
    have HVS := Lib.hid hvs
    have hlc4 := Lib.hid hc4
    clear hb3 b12 hB2 x0 x1 x2 x3 hvs hO hc4 HS HAL HLA
    go_wp2_with fail
    go_loopg [3, 5, 6] all.length (fun g u3 u5 _ wr => ∃ (i : Nat), i ≤ all.length ∧ all.length - i ≤ g ∧ u5 = .int .i64 (i : Int) ∧ u3 = .bool ((all.take i).any newsN) ∧ Below w3.heap.size w3 wr)
    case atStart => exact ⟨0, Nat.zero_le _, by omega, rfl, rfl, Below.refl _ _⟩
    case round =>
      rename World => wr
      obtain ⟨i, hi, hg, rfl, rfl, hBr⟩ := hrel
      by_cases hlt : i < all.length
      · have hlt2 : (i : Int) < (all.length : Int) := by omega
        have h0 : (0 : Int) ≤ (i : Int) := by omega
        obtain ⟨b4, o4, A5, c5, rfl, -, hbl, k0, k1, k2, k3, hkn⟩ := (HVS.out.below hBr).kid i hlt
        have HTK := Lib.hid (show (all.take (i + 1)).any newsN = ((all.take i).any newsN || newsN all[i]) by rw [List.take_succ_eq_append_getElem hlt, List.any_append]; simp)
        have HND := Lib.hid (((needA_iff _).1 (HNA.out _ (List.getElem_mem hlt))).1)
        have HKN := Lib.hid hkn
        clear hkn
        generalize all[i] = x at *
        obtain ⟨nk, nt, nl, np⟩ := x
        simp only [Nd.kids_mk, Nd.kind_mk, Nd.text_mk, Nd.pos_mk] at *
        cases hb : (all.take i).any newsN
        all_goals
          rw [hb] at HTK
          clear hb
          by_cases h7 : nk = 7
          · subst h7
            have HX := Lib.hid (show newsN (.mk 7 nt nl np) = true by simp [newsN])
            go_wp2_with fail
            go_roundg (all.length - (i + 1))
            case measure => omega
            case rel => exact ⟨i + 1, by omega, by omega, by go_num, by rw [HTK.out, HX.out]; rfl, hBr⟩
          by_cases h14 : nk = 14
          · subst h14
            have HX := Lib.hid (show newsN (.mk 14 nt nl np) = true by simp [newsN])
            go_wp2_with fail
            go_roundg (all.length - (i + 1))
            case measure => omega
            case rel => exact ⟨i + 1, by omega, by omega, by go_num, by rw [HTK.out, HX.out]; rfl, hBr⟩
          have e7 : (nk == 7) = false := by simp [h7]
          have e14 : (nk == 14) = false := by simp [h14]
          by_cases h10 : nk = 10
          · subst h10
            clear h7 h14 e7 e14
            by_cases hl : 0 < nl.length
            · have HX := Lib.hid (show newsN (.mk 10 nt nl np) = true by simp [newsN, hl])
              have hl9 : (0 : Int) < (nl.length : Int) := by omega
              go_wp2_with fail
              go_roundg (all.length - (i + 1))
              case measure => omega
              case rel => exact ⟨i + 1, by omega, by omega, by go_num, by rw [HTK.out, HX.out]; rfl, hBr⟩
            · have HX := Lib.hid (show newsN (.mk 10 nt nl np) = false by simp [newsN, hl])
              have hl9 : ¬ (0 : Int) < (nl.length : Int) := by omega
              go_wp2_with fail
              go_roundg (all.length - (i + 1))
              case measure => omega
              case rel => exact ⟨i + 1, by omega, by omega, by go_num, by rw [HTK.out, HX.out]; rfl, hBr⟩
          have e10 : (nk == 10) = false := by simp [h10]
          by_cases h22 : nk = 22
          · subst h22
            clear h7 h14 e7 e14 h10 e10
            rcases nl with _ | ⟨⟨zk, zt, zl, zp⟩, zs⟩
            · exact absurd (HND.out.2 (.inr rfl)) (by simp)
            rcases zs with _ | ⟨⟨zk2, zt2, zl2, zp2⟩, zs⟩
            · exact absurd (HND.out.2 (.inr rfl)) (by simp)
            obtain ⟨b, off, A1, c1, rfl, hK0⟩ := HKN.out.kid0
            obtain ⟨A2, c2, hK2⟩ := HKN.out.kid1
            obtain ⟨-, j0, j2, j3, -⟩ := hK2
            clear hK0
            simp only [List.length_cons, Nd.kind_mk, Nd.kids_mk, Nd.pos_mk] at *
            have hq1 : (1 : Int) < ((zs.length + 1 + 1 : Nat) : Int) := by omega
            have HX0 : Go.RowKit.Hid (newsN (.mk 22 nt (.mk zk zt zl zp :: .mk zk2 zt2 zl2 zp2 :: zs) np) = decide (0 < zs.length ∨ zk2 = 11 ∨ zk2 = 12)) := Lib.hid (by simp [newsN, nd0])
            generalize newsN (.mk 22 nt (.mk zk zt zl zp :: .mk zk2 zt2 zl2 zp2 :: zs) np) = R at *
            by_cases hz : 0 < zs.length
            · have hq3 : (2 : Int) < ((zs.length + 1 + 1 : Nat) : Int) := by omega
              have hq4 : 2 < zs.length + 1 + 1 := by omega
              have HX := Lib.hid (show R = true by rw [HX0.out]; simp [hz])
              clear HX0
              generalize zs.length + 1 + 1 = q at *
              go_wp2_with fail
              go_roundg (all.length - (i + 1))
              case measure => omega
              case rel => exact ⟨i + 1, by omega, by omega, by go_num, by rw [HTK.out, HX.out]; rfl, hBr⟩
            have hq3 : ¬ (2 : Int) < ((zs.length + 1 + 1 : Nat) : Int) := by omega
            have hq4 : ¬ 2 < zs.length + 1 + 1 := by omega
            by_cases h11 : zk2 = 11
            · subst h11
              have HX := Lib.hid (show R = true by rw [HX0.out]; simp)
              clear HX0
              generalize zs.length + 1 + 1 = q at *
              go_wp2_with fail
              go_roundg (all.length - (i + 1))
              case measure => omega
              case rel => exact ⟨i + 1, by omega, by omega, by go_num, by rw [HTK.out, HX.out]; rfl, hBr⟩
            have e11 : (zk2 == 11) = false := by simp [h11]
            by_cases h12 : zk2 = 12
            · subst h12
              have HX := Lib.hid (show R = true by rw [HX0.out]; simp)
              clear HX0
              generalize zs.length + 1 + 1 = q at *
              go_wp2_with fail
              go_roundg (all.length - (i + 1))
              case measure => omega
              case rel => exact ⟨i + 1, by omega, by omega, by go_num, by rw [HTK.out, HX.out]; rfl, hBr⟩
            have e12 : (zk2 == 12) = false := by simp [h12]
            have HX := Lib.hid (show R = false by rw [HX0.out]; simp [hz, h11, h12])
            clear HX0
            generalize zs.length + 1 + 1 = q at *
            go_wp2_with fail
            go_roundg (all.length - (i + 1))
            case measure => omega
            case rel => exact ⟨i + 1, by omega, by omega, by go_num, by rw [HTK.out, HX.out]; rfl, hBr⟩
          have e22 : (nk == 22) = false := by simp [h22]
          have HX := Lib.hid (show newsN (.mk nk nt nl np) = false by simp [newsN, h7, h14, h10, h22])
          clear h7 h14 h10 h22
          go_wp2_with fail
          go_roundg (all.length - (i + 1))
          case measure => omega
          case rel => exact ⟨i + 1, by omega, by omega, by go_num, by rw [HTK.out, HX.out]; rfl, hBr⟩
      · have hlt2 : ¬ (i : Int) < (all.length : Int) := by omega
        rw [List.take_of_length_le (by omega)]
        have hB4 := hB3.trans (hBr.mono hB3.size)
        have b14 := b13.below hBr b13.lt
        obtain ⟨x0, x1, x2, x3, -, -, -, -⟩ := blk4 b14
        generalize all.any newsN = nw at *
        go_wp2_with fail
        refine (HU.out _ hB4).mono ?_
        rintro e w5 ⟨A1, c1, rfl, hlc, hr1, hb5⟩
        have hB5 := hB4.trans (hb5.mono hB4.size)
        clear hr1 hb5
        generalize (usesT n).length = q at *
        by_cases hq : 0 < q
        · have hnw : nw = true := by rw [← HOL.out]; exact decide_eq_true hq
          subst hnw
          go_wp2_with fail
          refine (HAW.out _ hB5).mono ?_
          rintro e w6 ⟨rfl, hb6⟩
          go_wp2_with fail
          go_ret
          exact ⟨rfl, hB5.trans (hb6.mono hB5.size)⟩
        · have hnw : nw = false := by rw [← HOL.out]; exact decide_eq_false hq
          subst hnw
          have hq0 : q = 0 := by omega
          subst hq0
          go_wp2_with fail
          refine (HAW.out _ hB5).mono ?_
          rintro e w6 ⟨rfl, hb6⟩
          go_wp2_with fail
          go_ret
          exact ⟨rfl, hB5.trans (hb6.mono hB5.size)⟩
end Go.Proofs.YtnalfjaojcahhaaGreatDoor
namespace Go.Proofs.YtnalfjaojcahhaaGreatDoor
open Go.RowKit Go.Lib Go.Proofs
attribute [local go_sem ↓] Go.wp_at_zero Go.wp_at_succ

/-- How the first of some that needs more than a minor stands. -/
def FirstAt (m : Int) (l : Us) (i : Nat) (f : Int) : Prop :=
  (f = -1 ∧ (l.take i).find? (fun u => decide (m < u.1)) = none) ∨ ∃ (j : Nat) (h : j < l.length), f = (j : Int) ∧ (l.take i).find? (fun u => decide (m < u.1)) = some l[j]
theorem firstAt_zero (m : Int) (l : Us) : FirstAt m l 0 (-1) := .inl ⟨rfl, by simp⟩
theorem firstAt_have {m : Int} {l : Us} {i : Nat} {f : Int} (h : FirstAt m l i f) (hf : 0 ≤ f) : FirstAt m l (i + 1) f := by
  rcases h with ⟨h1, _⟩ | ⟨j, hj, h1, h2⟩
  · omega
  · refine .inr ⟨j, hj, h1, ?_⟩
    rw [List.take_add_one, List.find?_append, h2]
    rfl
theorem firstAt_yes {m : Int} {l : Us} {i : Nat} (h : FirstAt m l i (-1)) (hi : i < l.length) (hm : m < l[i].1) : FirstAt m l (i + 1) (i : Int) := by
  rcases h with ⟨_, h2⟩ | ⟨j, hj, h1, _⟩
  · refine .inr ⟨i, hi, rfl, ?_⟩
    rw [List.take_succ_eq_append_getElem hi, List.find?_append, h2]
    simp [hm]
  · omega
theorem firstAt_no {m : Int} {l : Us} {i : Nat} (h : FirstAt m l i (-1)) (hi : i < l.length) (hm : ¬ m < l[i].1) : FirstAt m l (i + 1) (-1) := by
  rcases h with ⟨_, h2⟩ | ⟨j, hj, h1, _⟩
  · refine .inl ⟨rfl, ?_⟩
    rw [List.take_succ_eq_append_getElem hi, List.find?_append, h2]
    simp [hm]
  · omega
theorem firstAt_neg {m : Int} {l : Us} {i : Nat} {f : Int} (h : FirstAt m l i f) (hf : f < 0) : f = -1 := by
  rcases h with ⟨h1, _⟩ | ⟨j, hj, h1, _⟩
  · exact h1
  · omega
/-- The two answers at the end. -/
theorem firstAt_end {m : Int} {n : Nd} {f : Int} (h : FirstAt m (usesT n) (usesT n).length f) : (f = -1 ∧ firstT m n = none) ∨ ∃ (j : Nat) (h : j < (usesT n).length), f = (j : Int) ∧ firstT m n = some (usesT n)[j] := by
  unfold FirstAt at h
  rw [List.take_length] at h
  exact h

set_option maxRecDepth 100000 in
set_option maxHeartbeats 8000000 in
theorem guses_any (v : Value) (n : Nd) (m : Int) (w : World) (hT : Tab w) (hv : NodeW w v n) (hw : Wee 1000 n) (hc : (lefts 1000 n).length ≤ 400000000) (hA : AwakeC w) :
    Calls Tryz.prog 5 #[v, .int .i64 m] w fun e w' => e = .returned (.bool true) ∧ Below w.heap.size w w' := by
  have HV0 := Lib.hid hv
  obtain ⟨A, cp, rfl, hC⟩ := hv.toC
  have hB := (Below.refl w.heap.size w).alloc (Nat.le_refl _) (.cells #[.int .i64 n.kind, .string n.text, .slice A n.kids.length cp, .int .i64 n.pos] 24)
  have b1 : Blk (w.alloc (.cells #[.int .i64 n.kind, .string n.text, .slice A n.kids.length cp, .int .i64 n.pos] 24)) w.heap.size 24 #[.int .i64 n.kind, .string n.text, .slice A n.kids.length cp, .int .i64 n.pos] := Blk.new w _ _
  have HS := Lib.hid (fun w' (hb : Below w.heap.size w w') => rsize_any 1000 _ n w' (Nat.le_refl _) (HV0.out.below hb) hw (by omega))
  have HU := Lib.hid (fun w' (hb : Below w.heap.size w w') => uses_any _ n w' (hT.below hb) (HV0.out.below hb) (hw.le (by omega)) (by have := lefts_le (g := 100) (h := 1000) n (by omega); omega))
  have HFI := Lib.hid (fun w' (hb : Below w.heap.size w w') => first_any _ n m w' (hT.below hb) (HV0.out.below hb) (hw.le (by omega)) (by have := lefts_le (g := 100) (h := 1000) n (by omega); omega))
  have HRI := Lib.hid (fun w' (hb : Below w.heap.size w w') => uright_any _ n w' (HV0.out.below hb) (hw.le (by omega)) (by have := lefts_le (g := 100) (h := 1000) n (by omega); omega))
  have HRU := Lib.hid (fun (hz : (lefts 1000 n).length ≤ 1000) (hr : rightFile n = true) w' (hb : Below w.heap.size w w') => ruses_any _ n w' (HV0.out.below hb) (hw.le (by omega)) (by have := lefts_le (g := 200) (h := 1000) n (by omega); omega) (need_right n hr))
  have HNO := Lib.hid (fun h : rightFile n = false => usesT_not h)
  have HEQ := Lib.hid (fun h : rightFile n = true => ((rusesT_eq n (dle_of_depth (hw.le (by omega)) (right_depth h))).trans (usesT_right h).symm : rusesT n = usesT n))
  have HFT := Lib.hid (show firstT m n = (usesT n).find? fun u => decide (m < u.1) from rfl)
  have HEND := Lib.hid (fun f (h : FirstAt m (usesT n) (usesT n).length f) => firstAt_end h)
  have HAW := Lib.hid hA
  have hul : (usesT n).length ≤ 800000000 := by
    have := hereT_le 100 n
    have := lefts_le (g := 100) (h := 1000) n (by omega)
    unfold usesT
    split
    · have := sd_len (hereT 100 n); omega
    · simp
  clear hv hC HV0 hT hw hA
  generalize (lefts 1000 n).length = z at *
  go_enter Tryz.func5, Tryz.ntmps5
  go_wp2_with fail
  refine (HS.out _ hB).mono ?_
  rintro e w1 ⟨rfl, hb1⟩
  have hB1 := hB.trans (hb1.mono hB.size)
  have b11 := b1.below hb1 b1.lt
  clear hb1 b1 hB HS
  by_cases hz : z > 1000
  · have hz2 : (z : Int) > 1000 := by omega
    go_wp2_with fail
    go_ret
    exact ⟨rfl, hB1⟩
  have hz2 : ¬ (z : Int) > 1000 := by omega
  have hz3 : z ≤ 1000 := by omega
  obtain ⟨x0, x1, x2, x3, -, -, -, -⟩ := blk4 b11
  go_wp2_with fail
  refine (HU.out _ hB1).mono ?_
  rintro e w2 ⟨A2, c2, rfl, hlc2, hr2, hb2⟩
  have hB2 := hB1.trans (hb2.mono hB1.size)
  have b12 := b11.below hb2 b11.lt
  have HR2 := Lib.hid hr2
  have HLC2 := Lib.hid hlc2
  clear hb2 hr2 b11 HU x0 x1 x2 x3 hlc2 hB1
  obtain ⟨x0, x1, x2, x3, -, -, -, -⟩ := blk4 b12
  go_wp2_with fail
  refine (HFI.out _ hB2).mono ?_
  cases hr : rightFile n with
  | false =>
    have hu0 := HNO.out hr
    have hf0 : firstT m n = none := by rw [HFT.out, hu0]; rfl
    rw [hf0, show firstV none = .tuple #[.agg #[.int .i64 0, .int .i64 0], .bool false] from rfl]
    rintro e w3 ⟨rfl, hb3⟩
    have hB3 := hB2.trans (hb3.mono hB2.size)
    have b13 := b12.below hb3 b12.lt
    have hB4 := hB3.alloc hB3.size (.cells #[.int .i64 0, .int .i64 0] 32)
    have bu4 := Blk.new w3 32 #[.int .i64 0, .int .i64 0]
    have b14 := b13.alloc (.cells #[.int .i64 0, .int .i64 0] 32)
    clear hb3 b12 x0 x1 x2 x3 HFI HRU HEQ HEND hB3 b13
    have HR4 := HR2
    clear HR2 HFT hf0
    rw [hu0]
    clear hu0 HR4 HLC2 hul HNO
    obtain ⟨x0, x1, x2, x3, -, -, -, -⟩ := blk4 b14
    obtain ⟨y0, y1, -, -⟩ := blk2 bu4
    go_wp2_with fail
    refine (HRI.out _ hB4).mono ?_
    rw [hr]
    rintro e w5 ⟨rfl, hb5⟩
    have hB5 := hB4.trans (hb5.mono hB4.size)
    have bu5 := bu4.below hb5 bu4.lt
    clear x0 x1 x2 x3 y0 y1 HRI bu4 b14 hb5 hB4
    generalize w3.heap.size = bu at *
    obtain ⟨y0, y1, -, -⟩ := blk2 bu5
    go_wp2_with fail
    refine (HAW.out _ hB5).mono ?_
    rintro e w6 ⟨rfl, hb6⟩
    go_wp2_with fail
    go_ret
    exact ⟨rfl, hB5.trans (hb6.mono hB5.size)⟩
  | true =>
    have HE := Lib.hid (HEQ.out hr)
    have HRUU := Lib.hid (HRU.out hz3 hr)
    clear HNO HEQ HRU
    obtain ⟨um, ua, ib, hfv, hfc⟩ : ∃ (um ua : Int) (ib : Bool), firstV (firstT m n) = .tuple #[.agg #[.int .i64 um, .int .i64 ua], .bool ib] ∧ ((firstT m n = none ∧ um = 0 ∧ ua = 0 ∧ ib = false) ∨ (firstT m n = some (um, ua) ∧ ib = true)) := by
      cases firstT m n with
      | none => exact ⟨0, 0, false, rfl, .inl ⟨rfl, rfl, rfl, rfl⟩⟩
      | some u => exact ⟨u.1, u.2, true, rfl, .inr ⟨rfl, rfl⟩⟩
    have HFC := Lib.hid hfc
    rw [hfv]
    clear hfv hfc HFT
    rintro e w3 ⟨rfl, hb3⟩
    have hB3 := hB2.trans (hb3.mono hB2.size)
    have b13 := b12.below hb3 b12.lt
    have hB4 := hB3.alloc hB3.size (.cells #[.int .i64 um, .int .i64 ua] 32)
    have bu4 := Blk.new w3 32 #[.int .i64 um, .int .i64 ua]
    have b14 := b13.alloc (.cells #[.int .i64 um, .int .i64 ua] 32)
    have hb34 := hb3.trans (((Below.refl w3.heap.size w3).alloc (Nat.le_refl _) (.cells #[.int .i64 um, .int .i64 ua] 32)).mono hb3.size)
    have HR4 := Lib.hid ((HR2.out.below hb34).more hb34.size)
    clear hb3 b12 x0 x1 x2 x3 HFI hB3 b13 hb34 HR2 hB2
    obtain ⟨x0, x1, x2, x3, -, -, -, -⟩ := blk4 b14
    go_wp2_with fail
    refine (HRI.out _ hB4).mono ?_
    rw [hr]
    clear hr
    rintro e w5 ⟨rfl, hb5⟩
    have hB5 := hB4.trans (hb5.mono hB4.size)
    have bu5 := bu4.below hb5 bu4.lt
    have b15 := b14.below hb5 b14.lt
    have HR5 := Lib.hid ((HR4.out.below hb5).more hb5.size)
    clear x0 x1 x2 x3 HRI bu4 b14 HR4 hb5 hB4
    generalize w3.heap.size = bu at *
    obtain ⟨x0, x1, x2, x3, -, -, -, -⟩ := blk4 b15
    go_wp2_with fail
    refine (HRUU.out _ hB5).mono ?_
    rw [HE.out]
    clear HRUU HE
    rintro e w6 ⟨A6, c6, rfl, hlc6, hr6, hb6⟩
    have hB6 := hB5.trans (hb6.mono hB5.size)
    have bu6 := bu5.below hb6 bu5.lt
    have HR6 := Lib.hid ((HR5.out.below hb6).more hb6.size)
    have HRR6 := Lib.hid hr6
    clear x0 x1 x2 x3 bu5 b15 HR5 hb6 hB5 hr6 hlc6
    generalize hl : usesT n = l at *
    clear hl
    have hne0 : ((l.length : Int) != (l.length : Int)) = false := by simp
    go_wp2_with fail
    clear hne0
    go_loopg [9, 10] l.length (fun g u9 u10 wr => ∃ (i : Nat) (f : Int), i ≤ l.length ∧ l.length - i ≤ g ∧ u10 = .int .i64 (i : Int) ∧ u9 = .int .i64 f ∧ FirstAt m l i f ∧ Below w6.heap.size w6 wr)
    case atStart => exact ⟨0, -1, Nat.zero_le _, by omega, rfl, rfl, firstAt_zero m l, Below.refl _ _⟩
    case round =>
      rename World => wr
      obtain ⟨i, f, hi, hg, rfl, rfl, hfa, hBr⟩ := hrel
      have HFA := Lib.hid hfa
      clear hfa
      by_cases hlt : i < l.length
      · have hlt2 : (i : Int) < (l.length : Int) := by omega
        have h0 : (0 : Int) ≤ (i : Int) := by omega
        obtain ⟨bk, off, rfl, hbk, hc⟩ := (HR6.out.below hBr).el usC_len (by omega) rfl hlt
        obtain ⟨bk', off', rfl, hbk', hc'⟩ := (HRR6.out.below hBr).el usC_len (by omega) rfl hlt
        have k0 := hc i hlt 0 _ rfl
        have k1 := hc i hlt 1 _ rfl
        have j0 := hc' i hlt 0 _ rfl
        have j1 := hc' i hlt 1 _ rfl
        simp only [Nat.add_zero] at k0 j0
        have HY := Lib.hid (fun h => firstAt_yes (m := m) (l := l) h hlt)
        have HN := Lib.hid (fun h => firstAt_no (m := m) (l := l) h hlt)
        clear hc hc'
        generalize l[i] = x at *
        obtain ⟨xm, xa⟩ := x
        simp only at k0 k1 j0 j1
        have e1 : (xm != xm) = false := by simp
        have e2 : (xa != xa) = false := by simp
        by_cases hf : f < 0
        · have hf1 := firstAt_neg HFA.out hf
          subst hf1
          by_cases hm : m < xm
          · have HX := Lib.hid (HY.out HFA.out hm)
            have hm2 : xm > m := hm
            clear HY HN HFA
            go_wp2_with fail
            go_quiet (fail)
            go_wp2_with fail
            go_roundg (l.length - (i + 1))
            case measure => omega
            case rel => exact ⟨i + 1, (i : Int), by omega, by omega, by go_num, rfl, HX.out, below_drewN hBr _⟩
          · have HX := Lib.hid (HN.out HFA.out hm)
            have hm2 : ¬ xm > m := hm
            clear HY HN HFA
            go_wp2_with fail
            go_quiet (fail)
            go_wp2_with fail
            go_roundg (l.length - (i + 1))
            case measure => omega
            case rel => exact ⟨i + 1, -1, by omega, by omega, by go_num, rfl, HX.out, below_drewN hBr _⟩
        · have HX := Lib.hid (firstAt_have HFA.out (by omega))
          clear HY HN HFA
          go_wp2_with fail
          go_quiet (fail)
          go_wp2_with fail
          go_roundg (l.length - (i + 1))
          case measure => omega
          case rel => exact ⟨i + 1, f, by omega, by omega, by go_num, rfl, HX.out, below_drewN hBr _⟩
      · have hlt2 : ¬ (i : Int) < (l.length : Int) := by omega
        have hil : i = l.length := by omega
        subst hil
        have hB7 := hB6.trans (hBr.mono hB6.size)
        have bu7 := bu6.below hBr bu6.lt
        have HR7 := Lib.hid ((HR6.out.below hBr).more hBr.size)
        have hen := HEND.out f HFA.out
        clear HFA HEND HR6 HRR6 bu6 hB6
        rcases hen with ⟨rfl, hfn⟩ | ⟨j, hj, rfl, hfs⟩
        · rcases HFC.out with ⟨-, rfl, rfl, rfl⟩ | ⟨e, -⟩
          · clear HFC hfn HR7
            have k0 : ∀ n : Wd (Below wr.heap.size wr), n.wd.cell? ⟨bu, 0, none⟩ = some (.int .i64 0) := fun n => (blk2 (bu7.below n.ok bu7.lt)).1
            have k1 : ∀ n : Wd (Below wr.heap.size wr), n.wd.cell? ⟨bu, 1, none⟩ = some (.int .i64 0) := fun n => (blk2 (bu7.below n.ok bu7.lt)).2.1
            have HAC := Lib.hid (fun n : Wd (Below wr.heap.size wr) => HAW.out n.wd (hB7.trans (n.ok.mono hB7.size)))
            clear bu7
            go_wp2_with fail
            haveI : Nonempty (Wd (Below wr.heap.size wr)) := ⟨⟨wr, Below.refl _ _⟩⟩
            refine wp_region_class (Below wr.heap.size wr) (by kernel_rfl) (by kernel_rfl) (Below.refl _ _).drew ?_
            repeat (go_big_quiet_step ((go_at_call 10; rename_i n; refine (HAC.out n).mono ?_; rintro e w' ⟨rfl, hb⟩; exact ⟨rfl, ⟨w', n.ok.trans (hb.mono n.ok.size)⟩, rfl⟩)))
            refine wpQuiet_nil ?_
            intro n
            go_wp2_with fail
            go_ret
            exact ⟨rfl, hB7.trans (n.ok.mono hB7.size)⟩
          · rw [hfn] at e; cases e
        · rcases HFC.out with ⟨e, -⟩ | ⟨e, rfl⟩
          · rw [hfs] at e; cases e
          · rw [hfs] at e
            injection e with e
            have hj0 : (0 : Int) ≤ (j : Int) := by omega
            have hj1 : (j : Int) < (l.length : Int) := by omega
            obtain ⟨bk, off, rfl, hbk, hc⟩ := HR7.out.el usC_len (by omega) rfl hj
            have c0 := hc j hj 0 _ rfl
            have c1 := hc j hj 1 _ rfl
            rw [e] at c0 c1
            simp only [Nat.add_zero] at c0
            clear hc e hfs HFC HR7
            have k0 : ∀ n : Wd (Below wr.heap.size wr), n.wd.cell? ⟨bu, 0, none⟩ = some (.int .i64 um) := fun n => (blk2 (bu7.below n.ok bu7.lt)).1
            have k1 : ∀ n : Wd (Below wr.heap.size wr), n.wd.cell? ⟨bu, 1, none⟩ = some (.int .i64 ua) := fun n => (blk2 (bu7.below n.ok bu7.lt)).2.1
            have k2 : ∀ n : Wd (Below wr.heap.size wr), n.wd.cell? ⟨bk, off + j * 2, none⟩ = some (.int .i64 um) := fun n => cell_kept n.ok c0
            have k3 : ∀ n : Wd (Below wr.heap.size wr), n.wd.cell? ⟨bk, off + j * 2 + 1, none⟩ = some (.int .i64 ua) := fun n => cell_kept n.ok c1
            have HAC := Lib.hid (fun n : Wd (Below wr.heap.size wr) => HAW.out n.wd (hB7.trans (n.ok.mono hB7.size)))
            clear bu7 c0 c1
            go_wp2_with fail
            haveI : Nonempty (Wd (Below wr.heap.size wr)) := ⟨⟨wr, Below.refl _ _⟩⟩
            refine wp_region_class (Below wr.heap.size wr) (by kernel_rfl) (by kernel_rfl) (Below.refl _ _).drew ?_
            repeat (go_big_quiet_step ((go_at_call 10; rename_i n; refine (HAC.out n).mono ?_; rintro e w' ⟨rfl, hb⟩; exact ⟨rfl, ⟨w', n.ok.trans (hb.mono n.ok.size)⟩, rfl⟩)))
            refine wpQuiet_nil ?_
            intro n
            go_wp2_with fail
            go_ret
            exact ⟨rfl, hB7.trans (n.ok.mono hB7.size)⟩
end Go.Proofs.YtnalfjaojcahhaaGreatDoor
namespace Go.Proofs.YtnalfjaojcahhaaGreatDoor
open Go.RowKit

/-- The cells of some bools. -/
def encB (F : List Bool) : Array Value := (F.map Value.bool).toArray
theorem encB_size (F : List Bool) : (encB F).size = F.length := by simp [encB]
theorem encB_get (F : List Bool) (j : Nat) (h : j < F.length) : (encB F)[j]? = some (.bool F[j]) := by simp [encB, h]
theorem encB_set (F : List Bool) (j : Nat) (b : Bool) : (encB F).setIfInBounds j (.bool b) = encB (F.set j b) := by simp [encB, List.map_set]
theorem infoBo : (Tryz.prog.info? 4).map (fun i => (i.zero, i.size, i.bytes)) = some (some (.bool false), 1, 1) := by kernel_rfl
theorem made_bools (q : Nat) : madeCells (Value.bool false).cells (q * 1) = encB (List.replicate q false) := by
  refine Array.ext (by rw [size_madeCells, encB_size]; simp) fun i h1 h2 => ?_
  simp [madeCells, encB, Value.cells, Nat.mod_one]
theorem run_mkBools (q : Nat) (hq : q ≤ 1000000000) (w : World) : (Instr.makeSlice 30 (.int .i64 (q : Int)) (.int .i64 (q : Int))).run Tryz.prog w = .ok (.slice (some ⟨w.heap.size, 0, none⟩) q q) (w.alloc (.cells (encB (List.replicate q false)) 4)) := by
  obtain ⟨i0, hi, hz0, hz1, hz2⟩ := info_parts infoBo
  have h := run_make (P := Tryz.prog) w 30 4 i0 (.bool false) Tryz.underlying30 hi hz0 .i64 .i64 (q : Int) (q : Int) (by omega) (Int.le_refl _) (by rw [hz2]; omega) (by omega)
  rw [h, hz1]
  simp only [Int.toNat_natCast]
  rw [made_bools]

theorem run_one (b off q c i : Nat) (hi : i < q) (hq : q ≤ c) (W : World) : (Instr.slice 22 (.slice (some ⟨b, off, none⟩) q c) (some (.int .i64 (i : Int))) (some (.int .i64 ((i : Int) + 1))) none).run Tryz.prog W = .ok (.slice (some ⟨b, off + i * 4, none⟩) 1 (c - i)) W := by
  rw [run_slice_lh (P := Tryz.prog) W 22 (some ⟨b, off, none⟩) q c elemNd .i64 .i64 (i : Int) ((i : Int) + 1) (by omega) (by omega) (by omega), sizeNd]
  simp only [Result.andThen, sliced, Int.toNat_natCast]
  rw [if_neg (by omega), show ((i : Int) + 1).toNat = i + 1 by omega, Option.map_some, add_at, Nat.add_sub_cancel_left]

/-- A file of one of a file's declarations, as a value. -/
theorem NodeV.partV {X : Nat → Prop} {w : World} {k t a : Value} {A : Option Addr} {m c : Nat} {n : Nd} (h : NodeV X w (.agg #[k, t, .slice A m c, a]) n) (i : Nat) (hi : i < n.kids.length) :
    ∃ b off, A = some ⟨b, off, none⟩ ∧ n.kids.length ≤ c ∧ NodeV X w (.agg #[.int .i64 1, .string n.text, .slice (some ⟨b, off + i * 4, none⟩) 1 (c - i), .int .i64 0]) (partN n n.kids[i]) := by
  obtain ⟨A1, c1, xs, e, h1, h2, h3⟩ := h
  injection e with e
  injection e with e
  simp only [List.cons.injEq, and_true] at e
  obtain ⟨_, _, e, _⟩ := e
  injection e with e1 e2 e3
  subst e1 e3
  obtain ⟨b, off, eA, hX, hc⟩ := h2.2 (by omega)
  have hs := ((h3.split i).2.split 1).1
  have ek : (n.kids.drop i).take 1 = [n.kids[i]] := by rw [List.drop_eq_getElem_cons hi]; rfl
  rw [ek] at hs
  refine ⟨b, off, eA, h1, some ⟨b, off + i * 4, none⟩, c - i, _, rfl, ?_, ⟨?_, fun _ => ⟨b, off + i * 4, rfl, hX, fun j u hu => ?_⟩⟩, hs⟩
  · show 1 ≤ c - i
    omega
  · have := hs.len
    exact this
  · have hu2 : xs[i * 4 + j]? = some u := by
      rw [List.getElem?_take] at hu
      split at hu
      · rw [List.getElem?_drop] at hu
        exact hu
      · cases hu
    have := hc (i * 4 + j) u hu2
    rwa [Nat.add_assoc]
theorem part_wee {g : Nat} {n k : Nd} (h : Wee (g + 1) n) (hk : k ∈ n.kids) : Wee (g + 1) (partN n k) := by
  refine ⟨⟨by simp [partN], h.1.2⟩, fun x hx => ?_⟩
  have : x = k := by simpa [partN] using hx
  subst this
  exact h.2 x hk
theorem part_lefts {g : Nat} {n k : Nd} (hk : k ∈ n.kids) : (lefts g (partN n k)).length ≤ (lefts g n).length := by
  cases g with
  | zero => simp [lefts]
  | succ g =>
    rw [lefts, lefts, List.length_cons, List.length_cons]
    have := mem_len_le (lefts g) hk
    rw [show (partN n k).kids = [k] from rfl, List.flatMap_cons, List.flatMap_nil, List.append_nil]
    omega
end Go.Proofs.YtnalfjaojcahhaaGreatDoor
