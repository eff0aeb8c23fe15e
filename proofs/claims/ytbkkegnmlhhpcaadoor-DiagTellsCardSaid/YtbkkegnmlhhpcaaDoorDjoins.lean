/-
  The walk of the law DiagJoins. By an AI agent.
-/
import Derived.Test.YtbkkegnmlhhpcaaDoorDonce
import Derived.Test.YtbkkegnmlhhpcaaDoorDworst
namespace Go.Proofs.YtbkkegnmlhhpcaaDoor
open Go.RowKit Go.Sort Go.Lib Go.Proofs
attribute [local go_sem ↓] Go.wp_at_zero Go.wp_at_succ

theorem hasTag_congr {l m : List Fnd} (h : ∀ x, x ∈ l ↔ x ∈ m) (t : ByteArray) : hasTag l t = hasTag m t := by
  rw [Bool.eq_iff_iff]
  simp only [hasTag, List.any_eq_true]
  exact ⟨fun ⟨x, hx, e⟩ => ⟨x, (h x).1 hx, e⟩, fun ⟨x, hx, e⟩ => ⟨x, (h x).2 hx, e⟩⟩
theorem hasTag_append (l m : List Fnd) (t : ByteArray) : hasTag (l ++ m) t = (hasTag l t || hasTag m t) := List.any_append
theorem worstIn_append (l m : List Fnd) : ∀ ts, worstIn (l ++ m) ts = worstIn l ts ∨ worstIn (l ++ m) ts = worstIn m ts
  | [] => .inl rfl
  | t :: ts => by
    rw [worstIn, worstIn, worstIn, hasTag_append]
    by_cases h1 : hasTag l t = true
    · exact .inl (by simp [h1])
    · by_cases h2 : hasTag m t = true
      · exact .inr (by simp [h2])
      · simp only [h1, h2, Bool.or_false]
        simpa using worstIn_append l m ts
theorem worstOf_append (l m : List Fnd) : worstOf (l ++ m) = worstOf l ∨ worstOf (l ++ m) = worstOf m := worstIn_append l m tags

theorem one_flat (l : List Fnd) : ∀ u ∈ l.flatMap encF, u.oneCell' = true := by
  intro u hu
  obtain ⟨x, _, hx⟩ := List.mem_flatMap.1 hu
  simp only [encF, List.mem_cons, List.not_mem_nil, or_false] at hx
  rcases hx with rfl | rfl | rfl <;> rfl

theorem empty_own (w : World) : (w.alloc (.cells #[] 28)).ownsRow w.heap.size 28 3 (.slice (some ⟨w.heap.size, 0, none⟩) 0 0) 0 [] :=
  ⟨by simp, .inr ⟨w.heap.size, 0, #[], rfl, Nat.le_refl _, heap_alloc_new w _, Nat.le_refl _, by unfold maxLen; omega, by simp, by simp⟩⟩

set_option maxRecDepth 100000 in
set_option maxHeartbeats 4000000 in
theorem joins_walk (A B : Option Addr) (n c m d : Nat) (l k : List Fnd) (w : World) (hl : l.length = n) (hk : k.length = m) (hn : n ≤ 9223372036854775807) (hm : m ≤ 9223372036854775807)
    (h : Reads w w.heap.size 3 A n (l.flatMap encF)) (h' : Reads w w.heap.size 3 B m (k.flatMap encF))
    (hs : ∀ x ∈ l ++ k, x.1.size ≤ 1000000000000000 ∧ x.2.1.size ≤ 1000000000000000) (ht : Tab w) :
    Calls Tryd.prog 5 #[.slice A n c, .slice B m d] w fun e w' => e = .returned (.bool true) ∧ Below w.heap.size w w' := by
  by_cases h1 : 25 < n
  · go_enter Tryd.func5, Tryd.ntmps5
    go_wp2_with fail
    go_ret
    exact ⟨rfl, Below.refl _ _⟩
  by_cases h2 : 25 < m
  · go_enter Tryd.func5, Tryd.ntmps5
    go_wp2_with fail
    go_ret
    exact ⟨rfl, Below.refl _ _⟩
  have HR := Lib.hid h
  have HR' := Lib.hid h'
  have HL := Lib.hid hl
  have HK := Lib.hid hk
  have HT := Lib.hid ht
  have HS := Lib.hid hs
  have n25 : n ≤ 25 := by omega
  have m25 : m ≤ 25 := by omega
  obtain ⟨i0, hi, hz0, hz1, hz2⟩ := info_parts info28
  clear h h' hl hk ht hs hn hm
  go_enter Tryd.func5, Tryd.ntmps5
  go_wp2_with fail
  refine (findings_any A n c l w HL.out (by omega) HR.out).mono ?_
  rintro e w1 ⟨v1, rfl, hown1, hb1⟩
  obtain ⟨A1, c1, rfl, hr1⟩ := reads_of_owns hown1
  have HB1 := Lib.hid hb1
  have HR1 := Lib.hid hr1
  clear hb1 hr1 hown1
  go_wp2_with fail
  refine (findings_any B m d k w1 HK.out (by omega) ((HR'.out.below HB1.out).more HB1.out.size)).mono ?_
  rintro e w2 ⟨v2, rfl, hown2, hb2⟩
  obtain ⟨A2, c2, rfl, hr2⟩ := reads_of_owns hown2
  have HB2 := Lib.hid (HB1.out.trans (hb2.mono HB1.out.size))
  have HR12 := Lib.hid ((HR1.out.below hb2).more hb2.size)
  have HR2 := Lib.hid hr2
  clear hr2 hb2 hown2 HR1 HR' HR
  have HO2 := Lib.hid (empty_own w2)
  go_wp2_with (first
    | (at_builtin
       refine wpList_append_any _ rfl (.tmp 24) (.tmp 25) _ rfl w2.heap.size 28 i0 _ 3 40 Tryd.underlying23 hi hz0 hz1 hz2 rfl (by omega) (.slice (some ⟨w2.heap.size, 0, none⟩) 0 0) 0 [] (by rfl) HO2.out w2.heap.size A1 n c1 (l.flatMap encF) (by rfl) (HR12.out.alloc (Nat.le_refl _) _) (one_flat l) (by unfold maxLen; omega) (by omega) (by simp) ?_
       intro v3 w3 hown3 hg3 hat3
       have hb3 : Below w2.heap.size w2 w3 := (((Below.refl _ w2).alloc (Nat.le_refl _) _)).grown hg3 (by simp) (by simp [Value.ownBlock])
       simp only [Nat.zero_add, List.nil_append] at hown3
       have HB3 := Lib.hid hb3
       have HO3 := Lib.hid hown3
       have hbs3 := hb3.size
       clear hb3 hown3 hg3 hat3 HO2)
    | (at_builtin
       refine wpList_append_any _ rfl (.tmp 26) (.tmp 27) _ rfl w2.heap.size 28 i0 _ 3 40 Tryd.underlying23 hi hz0 hz1 hz2 rfl (by omega) v3 n (l.flatMap encF) (by rfl) HO3.out w2.heap.size A2 m c2 (k.flatMap encF) (by rfl) (HR2.out.below HB3.out) (one_flat k) (by unfold maxLen; omega) (by omega) hbs3 ?_
       intro v4 w4 hown4 hg4 hat4))
  have hb4 : Below w2.heap.size w2 w4 := HB3.out.grown hg4 hbs3 (fun g hg => (HO3.out.lt g hg).1)
  rw [← List.flatMap_append] at hown4
  have HP := Lib.hid (show (l ++ k).length = n + m by rw [List.length_append, HL.out, HK.out])
  have HWO := Lib.hid (worstOf_append l k)
  generalize hj : l ++ k = j at HP HWO HS hown4
  obtain ⟨A4, c4, rfl, hr4⟩ := reads_of_owns hown4
  have HR4 := Lib.hid hr4
  have HB4 := Lib.hid hb4
  have HR14 := Lib.hid ((HR12.out.below hb4).more hb4.size)
  have HR24 := Lib.hid ((HR2.out.below hb4).more hb4.size)
  have HBW4 := Lib.hid (HB2.out.trans (hb4.mono HB2.out.size))
  clear hr4 hown4 hg4 hat4 HO3 HB3 hbs3 hb4 HR12 HR2 HB2 hj HB4
  generalize hp : n + m = p at HP HR4 ⊢
  have hp50 : p ≤ 50 := by omega
  clear hp
  go_wp2_with fail
  refine (sorted_any A4 p c4 j w4 HP.out (by omega) HR4.out).mono ?_
  rintro e w5 ⟨A5, c5, he, hr5, hb5⟩
  subst he
  have HB5 := Lib.hid (HBW4.out.trans (hb5.mono HBW4.out.size))
  have HR45 := Lib.hid ((HR4.out.below hb5).more hb5.size)
  have HR15 := Lib.hid ((HR14.out.below hb5).more hb5.size)
  have HR25 := Lib.hid ((HR24.out.below hb5).more hb5.size)
  have HR5 := Lib.hid hr5
  generalize hq : (sd j).length = q at HR5 ⊢
  have HQ := Lib.hid hq
  have hq2 : q ≤ 50 := by rw [← hq]; have := sd_len j; have := HP.out; omega
  clear hr5 hb5 HR4 HR14 HR24 HBW4 HB1 hq
  have HO5 := Lib.hid (empty_own w5)
  go_wp2_with (first
    | (at_builtin
       refine wpList_append_any _ rfl (.tmp 31) (.tmp 32) _ rfl w5.heap.size 28 i0 _ 3 40 Tryd.underlying23 hi hz0 hz1 hz2 rfl (by omega) (.slice (some ⟨w5.heap.size, 0, none⟩) 0 0) 0 [] (by rfl) HO5.out w5.heap.size A5 q c5 ((sd j).flatMap encF) (by rfl) (HR5.out.alloc (Nat.le_refl _) _) (one_flat _) (by unfold maxLen; omega) (by omega) (by simp) ?_
       intro v6 w6 hown6 hg6 hat6
       have hb6 : Below w5.heap.size w5 w6 := (((Below.refl _ w5).alloc (Nat.le_refl _) _)).grown hg6 (by simp) (by simp [Value.ownBlock])
       simp only [Nat.zero_add, List.nil_append] at hown6
       have HB6 := Lib.hid hb6
       have HO6 := Lib.hid hown6
       have hbs6 := hb6.size
       clear hb6 hown6 hg6 hat6 HO5)
    | (at_builtin
       refine wpList_append_any _ rfl (.tmp 33) (.tmp 34) _ rfl w5.heap.size 28 i0 _ 3 40 Tryd.underlying23 hi hz0 hz1 hz2 rfl (by omega) v6 q ((sd j).flatMap encF) (by rfl) HO6.out w5.heap.size A4 p c4 (j.flatMap encF) (by rfl) (HR45.out.below HB6.out) (one_flat j) (by unfold maxLen; omega) (by omega) hbs6 ?_
       intro v7 w7 hown7 hg7 hat7))
  have hb7 : Below w5.heap.size w5 w7 := HB6.out.grown hg7 hbs6 (fun g hg => (HO6.out.lt g hg).1)
  rw [← List.flatMap_append] at hown7
  obtain ⟨A7, c7, rfl, hr7⟩ := reads_of_owns hown7
  have HR7 := Lib.hid hr7
  have HBW7 := Lib.hid (HB5.out.trans (hb7.mono HB5.out.size))
  have HR47 := Lib.hid ((HR45.out.below hb7).more hb7.size)
  have HR17 := Lib.hid ((HR15.out.below hb7).more hb7.size)
  have HR27 := Lib.hid ((HR25.out.below hb7).more hb7.size)
  have HR57 := Lib.hid ((HR5.out.below hb7).more hb7.size)
  have HSJ := Lib.hid (show (sd j ++ j).length = q + p by rw [List.length_append, HQ.out, HP.out])
  clear hr7 hown7 hg7 hat7 HO6 HB6 hbs6 hb7 HR45 HR15 HR25 HR5 HB5
  go_wp2_with fail
  refine (sorted_any A7 (q + p) c7 (sd j ++ j) w7 HSJ.out (by omega) HR7.out).mono ?_
  rintro e w8 ⟨A8, c8, he, hr8, hb8⟩
  subst he
  rw [sd_twice] at hr8 ⊢
  rw [HQ.out] at hr8 ⊢
  have HB8 := Lib.hid (HBW7.out.trans (hb8.mono HBW7.out.size))
  have HR48 := Lib.hid ((HR47.out.below hb8).more hb8.size)
  have HR18 := Lib.hid ((HR17.out.below hb8).more hb8.size)
  have HR28 := Lib.hid ((HR27.out.below hb8).more hb8.size)
  have HR58 := Lib.hid ((HR57.out.below hb8).more hb8.size)
  have HR8 := Lib.hid hr8
  clear hr8 hb8 HR47 HR17 HR27 HR57 HBW7 HR7 HSJ
  go_wp2_with fail
  refine (lines_any none A4 0 0 p c4 [] j w8 rfl (by omega) HP.out (by omega) Reads.none_ (fun x hx => by simp at hx) HR48.out HS.out (tab_below HT.out HB8.out)).mono ?_
  rintro e w9 ⟨v9, rfl, hown9, hb9⟩
  obtain ⟨A9, c9, rfl, _⟩ := reads_of_owns hown9
  rw [HQ.out] at hown9 ⊢
  have HB9 := Lib.hid (HB8.out.trans (hb9.mono HB8.out.size))
  have HR49 := Lib.hid ((HR48.out.below hb9).more hb9.size)
  have HR19 := Lib.hid ((HR18.out.below hb9).more hb9.size)
  have HR29 := Lib.hid ((HR28.out.below hb9).more hb9.size)
  have HR59 := Lib.hid ((HR58.out.below hb9).more hb9.size)
  have HR89 := Lib.hid ((HR8.out.below hb9).more hb9.size)
  clear hown9 hb9 HR48 HR18 HR28 HR58 HR8 HB8
  go_wp2_with fail
  go_loopw [10] (fun i wx => ∃ k : Nat, k ≤ q ∧ i = .int .i64 k ∧ Below w9.heap.size w9 wx) (fun i _ => q - (RowKit.intOf i).toNat)
  case atStart => exact ⟨0, Nat.zero_le _, rfl, Below.refl _ _⟩
  case round =>
    obtain ⟨i, hi', rfl, hbk⟩ := hrel
    have HBK := Lib.hid hbk
    clear hbk
    by_cases hlt : i < q
    · have hkx : i < (sd j).length := by rw [HQ.out]; exact hlt
      obtain ⟨b2, o2, rfl, hb2, hc2⟩ := HR59.out.el encF_len (by omega) HQ.out hlt
      obtain ⟨b5, o5, rfl, hb5, hc5⟩ := HR89.out.el encF_len (by omega) HQ.out hlt
      have x2 := hc2 i hkx
      have x5 := hc5 i hkx
      clear hc2 hc5
      generalize (sd j)[i] = x at x2 x5
      obtain ⟨t, f, a⟩ := x
      have g20 := (HBK.out.cell (p := ⟨b2, o2 + i * 3, none⟩) hb2).trans (x2 0 _ rfl)
      have g21 := (HBK.out.cell (p := ⟨b2, o2 + i * 3 + 1, none⟩) hb2).trans (x2 1 _ rfl)
      have g22 := (HBK.out.cell (p := ⟨b2, o2 + i * 3 + 2, none⟩) hb2).trans (x2 2 _ rfl)
      have g50 := (HBK.out.cell (p := ⟨b5, o5 + i * 3, none⟩) hb5).trans (x5 0 _ rfl)
      have g51 := (HBK.out.cell (p := ⟨b5, o5 + i * 3 + 1, none⟩) hb5).trans (x5 1 _ rfl)
      have g52 := (HBK.out.cell (p := ⟨b5, o5 + i * 3 + 2, none⟩) hb5).trans (x5 2 _ rfl)
      have p0 : (0 : Int) ≤ (i : Int) := by omega
      have p1 : (i : Int) < (q : Int) := by omega
      clear x2 x5
      go_wp2_with fail
      go_quiet (fail)
      go_wp2_with fail
      go_roundw
      case rel => exact ⟨i + 1, by omega, by go_num, below_drewN HBK.out _⟩
      case measure => simp [RowKit.intOf]; omega
    · have HBW := Lib.hid (HB9.out.trans (HBK.out.mono HB9.out.size))
      have HRJ := Lib.hid ((HR49.out.below HBK.out).more HBK.out.size)
      have HRL := Lib.hid ((HR19.out.below HBK.out).more HBK.out.size)
      have HRK := Lib.hid ((HR29.out.below HBK.out).more HBK.out.size)
      clear HBK HR49 HR19 HR29 HR59 HR89 HB9
      go_wp2_with fail
      refine (worst_any A4 p c4 j _ HP.out (by omega) HRJ.out).mono ?_
      rintro e wa ⟨rfl, hba⟩
      have HBA := Lib.hid (HBW.out.trans (hba.mono HBW.out.size))
      have HLA := Lib.hid ((HRL.out.below hba).more hba.size)
      have HKA := Lib.hid ((HRK.out.below hba).more hba.size)
      clear hba HBW HRL HRK HRJ
      go_wp2_with fail
      refine (worst_any A1 n c1 l wa HL.out (by omega) HLA.out).mono ?_
      rintro e wb ⟨rfl, hbb⟩
      have HBB := Lib.hid (HBA.out.trans (hbb.mono HBA.out.size))
      have HKB := Lib.hid ((HKA.out.below hbb).more hbb.size)
      clear hbb HBA HLA HKA
      have hw := HWO.out
      clear HWO
      by_cases he : worstOf j = worstOf l
      · rw [he]
        generalize worstOf l = u
        go_wp2_with fail
        refine (awake_any _ (tab_below HT.out HBB.out)).mono ?_
        rintro e wd ⟨rfl, hbd⟩
        go_wp2_with fail
        go_ret
        exact ⟨rfl, HBB.out.trans (hbd.mono HBB.out.size)⟩
      · have hx : worstOf j = worstOf k := hw.resolve_left he
        have hd : ((worstOf j).toList == (worstOf l).toList) = false := by rw [toList_beq]; simpa using he
        rw [hx] at hd ⊢
        clear hw he
        generalize worstOf l = u at hd ⊢
        go_wp2_with fail
        refine (worst_any A2 m c2 k wb HK.out (by omega) HKB.out).mono ?_
        rintro e wc ⟨rfl, hbc⟩
        have HBC := Lib.hid (HBB.out.trans (hbc.mono HBB.out.size))
        clear hbc HBB HKB
        generalize worstOf k = u' at *
        go_wp2_with fail
        refine (awake_any _ (tab_below HT.out HBC.out)).mono ?_
        rintro e wd ⟨rfl, hbd⟩
        go_wp2_with fail
        go_ret
        exact ⟨rfl, HBC.out.trans (hbd.mono HBC.out.size)⟩
end Go.Proofs.YtbkkegnmlhhpcaaDoor
