/-
  The walk of the law DiagOnce. By an AI agent.
-/
import Derived.Test.YtbkkegnmlhhpcaaDoorDawake
import Derived.Deep.QuietTactic
import Derived.BigQuiet
namespace Go.Proofs.YtbkkegnmlhhpcaaDoor
open Go.RowKit Go.Sort Go.Lib Go.Proofs
attribute [local go_sem ↓] Go.wp_at_zero Go.wp_at_succ

theorem reads_of_owns {w : World} {base : Nat} {e : TypeId} {size n : Nat} {v : Value} {xs : List Value} (h : w.ownsRow base e size v n xs) : ∃ A c, v = .slice A n c ∧ Reads w w.heap.size size A n xs := by
  have h2 := h.2
  rcases h2 with ⟨rfl, rfl⟩ | ⟨g, cap, cur, rfl, _⟩
  · exact ⟨none, 0, rfl, h.1, fun h => absurd h (by omega)⟩
  · exact ⟨_, cap, rfl, Reads.of_own h⟩
theorem info27 : (Tryd.prog.info? 27).map (fun i => (i.zero, i.size, i.bytes)) = some (some (.agg #[.string ⟨#[]⟩, .string ⟨#[]⟩, .int .i64 0]), 3, 40) := by kernel_rfl

set_option maxRecDepth 100000 in
set_option maxHeartbeats 4000000 in
theorem once_walk (A : Option Addr) (n c : Nat) (l : List Fnd) (w : World) (hl : l.length = n) (hn : n ≤ 9223372036854775807) (h : Reads w w.heap.size 3 A n (l.flatMap encF)) (ht : Tab w) :
    Calls Tryd.prog 3 #[.slice A n c] w fun e w' => e = .returned (.bool true) ∧ Below w.heap.size w w' := by
  by_cases h50 : 50 < n
  · go_enter Tryd.func3, Tryd.ntmps3
    go_wp2_with fail
    go_ret
    exact ⟨rfl, Below.refl _ _⟩
  · have HR := Lib.hid h
    have HL := Lib.hid hl
    have HT := Lib.hid ht
    obtain ⟨i0, hi, hz0, hz1, hz2⟩ := info_parts info27
    clear h hl ht hn
    go_enter Tryd.func3, Tryd.ntmps3
    go_wp2_with fail
    refine (findings_any A n c l w HL.out (by omega) HR.out).mono ?_
    rintro e w1 ⟨v1, rfl, hown1, hb1⟩
    obtain ⟨A1, c1, rfl, hr1⟩ := reads_of_owns hown1
    have HB1 := Lib.hid hb1
    have HR1 := Lib.hid hr1
    clear hb1 hr1 hown1
    go_wp2_with fail
    refine (sorted_any A1 n c1 l w1 HL.out (by omega) HR1.out).mono ?_
    rintro e w2 ⟨A2, c2, he, hr2, hb2⟩
    subst he
    have HB2 := Lib.hid (HB1.out.trans (hb2.mono HB1.out.size))
    have HR12 := Lib.hid ((HR1.out.below hb2).more hb2.size)
    have HR2 := Lib.hid hr2
    clear hr2 hb2 HB1 HR1
    generalize hq : (sd l).length = q at HR2 ⊢
    have HQ := Lib.hid hq
    have hq2 : q ≤ 50 := by rw [← hq]; have := sd_len l; have := HL.out; omega
    clear hq
    go_wp2_with fail
    go_loopw [5, 6] (fun bk i wr => ∃ (k : Nat) (z : Int), k ≤ n ∧ z = (k : Int) - 1 ∧ i = .int .i64 z ∧ wr.ownsRow w2.heap.size 27 3 bk (n - k) ((l.drop k).reverse.flatMap encF) ∧ Below w2.heap.size w2 wr) (fun _ i _ => (RowKit.intOf i + 1).toNat)
    case atStart =>
      refine ⟨n, (n : Int) - 1, Nat.le_refl _, rfl, rfl, ?_, Below.refl _ _⟩
      rw [List.drop_eq_nil_of_le (by rw [HL.out]; exact Nat.le_refl _), Nat.sub_self]
      exact World.ownsRow_nil _ _ _ _
    case round =>
      obtain ⟨k, z, hk, hz, rfl, hown, hb⟩ := hrel
      have HB := Lib.hid hb
      have HOWN := Lib.hid hown
      have hbs := hb.size
      clear hb hown
      rcases Nat.eq_zero_or_pos k with hk0 | hk0
      · subst hk0
        have HW2 := Lib.hid HOWN.out
        simp only [List.drop_zero, Nat.sub_zero] at HW2
        have hz1 : ¬ (0 : Int) ≤ z := by omega
        clear hz
        obtain ⟨A3, c3, e3, hr3⟩ := reads_of_owns HW2.out
        subst e3
        have HR3 := Lib.hid hr3
        have HRR := Lib.hid (show l.reverse.length = n by rw [List.length_reverse]; exact HL.out)
        clear hr3 HOWN HW2
        go_wp2_with fail
        refine (findings_any A3 n c3 l.reverse wr HRR.out (by omega) ((HR3.out).more (Nat.le_refl _))).mono ?_
        rintro e w4 ⟨v4, rfl, hown4, hb4⟩
        obtain ⟨A4, c4, rfl, hr4⟩ := reads_of_owns hown4
        have HB4 := Lib.hid (HB.out.trans (hb4.mono hbs))
        have HR4 := Lib.hid hr4
        clear hr4 hb4 hown4 HR3 HB
        go_wp2_with fail
        refine (sorted_any A4 n c4 l.reverse w4 HRR.out (by omega) HR4.out).mono ?_
        rintro e w5 ⟨A5, c5, he, hr5, hb5⟩
        subst he
        rw [sd_reverse] at hr5 ⊢
        rw [HQ.out] at hr5 ⊢
        have HB5 := Lib.hid (HB4.out.trans (hb5.mono HB4.out.size))
        have HR5 := Lib.hid hr5
        clear hr5 hb5 HB4 HR4
        go_wp2_with fail
        refine (sorted_any A2 q c2 (sd l) w5 HQ.out (by omega) ((HR2.out.below HB5.out).more HB5.out.size)).mono ?_
        rintro e w6 ⟨A6, c6, he, hr6, hb6⟩
        subst he
        rw [sd_sd] at hr6 ⊢
        rw [HQ.out] at hr6 ⊢
        have HB6 := Lib.hid (HB5.out.trans (hb6.mono HB5.out.size))
        have HR26 := Lib.hid ((HR2.out.below HB6.out).more HB6.out.size)
        have HR16 := Lib.hid ((HR12.out.below HB6.out).more HB6.out.size)
        have HR56 := Lib.hid ((HR5.out.below hb6).more hb6.size)
        have HR6 := Lib.hid hr6
        have HBW := Lib.hid (HB2.out.trans (HB6.out.mono HB2.out.size))
        have HR06 := Lib.hid ((HR.out.below HBW.out).more HBW.out.size)
        clear hr6 hb6 HB5 HR5 HR2 HR12 hz1
        go_wp2_with fail
        go_loopw [9] (fun i wx => ∃ k : Nat, k ≤ q ∧ i = .int .i64 k ∧ Below w6.heap.size w6 wx) (fun i _ => q - (RowKit.intOf i).toNat)
        case atStart => exact ⟨0, Nat.zero_le _, rfl, Below.refl _ _⟩
        case round =>
          obtain ⟨k, hk, rfl, hbk⟩ := hrel
          have HBK := Lib.hid hbk
          clear hbk
          by_cases hlt : k < q
          · have hkx : k < (sd l).length := by rw [HQ.out]; exact hlt
            obtain ⟨b2, o2, rfl, hb2, hc2⟩ := HR26.out.el encF_len (by omega) HQ.out hlt
            obtain ⟨b5, o5, rfl, hb5, hc5⟩ := HR56.out.el encF_len (by omega) HQ.out hlt
            obtain ⟨b6, o6, rfl, hb6, hc6⟩ := HR6.out.el encF_len (by omega) HQ.out hlt
            have x2 := hc2 k hkx
            have x5 := hc5 k hkx
            have x6 := hc6 k hkx
            clear hc2 hc5 hc6
            generalize (sd l)[k] = x at x2 x5 x6
            obtain ⟨t, f, a⟩ := x
            have g20 := (HBK.out.cell (p := ⟨b2, o2 + k * 3, none⟩) hb2).trans (x2 0 _ rfl)
            have g21 := (HBK.out.cell (p := ⟨b2, o2 + k * 3 + 1, none⟩) hb2).trans (x2 1 _ rfl)
            have g22 := (HBK.out.cell (p := ⟨b2, o2 + k * 3 + 2, none⟩) hb2).trans (x2 2 _ rfl)
            have g50 := (HBK.out.cell (p := ⟨b5, o5 + k * 3, none⟩) hb5).trans (x5 0 _ rfl)
            have g51 := (HBK.out.cell (p := ⟨b5, o5 + k * 3 + 1, none⟩) hb5).trans (x5 1 _ rfl)
            have g52 := (HBK.out.cell (p := ⟨b5, o5 + k * 3 + 2, none⟩) hb5).trans (x5 2 _ rfl)
            have g60 := (HBK.out.cell (p := ⟨b6, o6 + k * 3, none⟩) hb6).trans (x6 0 _ rfl)
            have g61 := (HBK.out.cell (p := ⟨b6, o6 + k * 3 + 1, none⟩) hb6).trans (x6 1 _ rfl)
            have g62 := (HBK.out.cell (p := ⟨b6, o6 + k * 3 + 2, none⟩) hb6).trans (x6 2 _ rfl)
            have p0 : (0 : Int) ≤ (k : Int) := by omega
            have p1 : (k : Int) < (q : Int) := by omega
            clear x2 x5 x6
            go_wp2_with fail
            go_quiet (fail)
            go_wp2_with fail
            go_roundw
            case rel => exact ⟨k + 1, by omega, by go_num, below_drewN HBK.out _⟩
            case measure => simp [RowKit.intOf]; omega
          · have HBK2 := HBK
            go_wp2_with fail
            clear hlt hk
            go_loopw [10] (fun i wx => ∃ k : Nat, k ≤ n ∧ i = .int .i64 k ∧ Below w6.heap.size w6 wx) (fun i _ => n - (RowKit.intOf i).toNat)
            case atStart => exact ⟨0, Nat.zero_le _, rfl, HBK2.out⟩
            case round =>
              clear HBK HBK2
              obtain ⟨k, hk, rfl, hbk⟩ := hrel
              have HBK := Lib.hid hbk
              clear hbk
              by_cases hlt : k < n
              · have hkx : k < l.length := by rw [HL.out]; exact hlt
                obtain ⟨b2, o2, rfl, hb2, hc2⟩ := HR16.out.el encF_len (by omega) HL.out hlt
                obtain ⟨b5, o5, rfl, hb5, hc5⟩ := HR06.out.el encF_len (by omega) HL.out hlt
                have x2 := hc2 k hkx
                have x5 := hc5 k hkx
                clear hc2 hc5
                generalize l[k] = x at x2 x5
                obtain ⟨t, f, a⟩ := x
                have g20 := (HBK.out.cell (p := ⟨b2, o2 + k * 3, none⟩) hb2).trans (x2 0 _ rfl)
                have g21 := (HBK.out.cell (p := ⟨b2, o2 + k * 3 + 1, none⟩) hb2).trans (x2 1 _ rfl)
                have g22 := (HBK.out.cell (p := ⟨b2, o2 + k * 3 + 2, none⟩) hb2).trans (x2 2 _ rfl)
                have g50 := (HBK.out.cell (p := ⟨b5, o5 + k * 3, none⟩) hb5).trans (x5 0 _ rfl)
                have g51 := (HBK.out.cell (p := ⟨b5, o5 + k * 3 + 1, none⟩) hb5).trans (x5 1 _ rfl)
                have g52 := (HBK.out.cell (p := ⟨b5, o5 + k * 3 + 2, none⟩) hb5).trans (x5 2 _ rfl)
                have p0 : (0 : Int) ≤ (k : Int) := by omega
                have p1 : (k : Int) < (n : Int) := by omega
                clear x2 x5
                go_wp2_with fail
                go_quiet (fail)
                go_wp2_with fail
                go_roundw
                case rel => exact ⟨k + 1, by omega, by go_num, below_drewN HBK.out _⟩
                case measure => simp [RowKit.intOf]; omega
              · go_wp2_with fail
                refine (awake_any _ (tab_below HT.out (HBW.out.trans (HBK.out.mono HBW.out.size)))).mono ?_
                rintro e w9 ⟨rfl, hb9⟩
                go_wp2_with fail
                go_ret
                exact ⟨rfl, (HBW.out.trans (HBK.out.mono HBW.out.size)).trans (hb9.mono (Nat.le_trans HBW.out.size HBK.out.size))⟩
      · obtain ⟨j, rfl⟩ : ∃ j, k = j + 1 := ⟨k - 1, by omega⟩
        obtain rfl : z = (j : Int) := by omega
        clear hz hk0
        have hjn : j < n := by omega
        obtain ⟨b, off, rfl, hbB, hc⟩ := HR.out.el encF_len (by omega) HL.out hjn
        have hkx : j < l.length := by rw [HL.out]; exact hjn
        have hxx := hc j hkx
        have HTK := Lib.hid (show (l.drop j).reverse.flatMap encF = (l.drop (j + 1)).reverse.flatMap encF ++ encF l[j] by rw [List.drop_eq_getElem_cons hkx, List.reverse_cons, List.flatMap_append]; simp)
        generalize l[j] = x at hxx HTK
        obtain ⟨t, f, a⟩ := x
        have hbw : Below w.heap.size w wr := HB2.out.trans (HB.out.mono HB2.out.size)
        have c0 : wr.cell? ⟨b, off + j * 3, none⟩ = some (.string t) := (hbw.cell (p := ⟨b, off + j * 3, none⟩) hbB).trans (hxx 0 _ rfl)
        have c1 : wr.cell? ⟨b, off + j * 3 + 1, none⟩ = some (.string f) := (hbw.cell (p := ⟨b, off + j * 3 + 1, none⟩) hbB).trans (hxx 1 _ rfl)
        have c2' : wr.cell? ⟨b, off + j * 3 + 2, none⟩ = some (.int .i64 a) := (hbw.cell (p := ⟨b, off + j * 3 + 2, none⟩) hbB).trans (hxx 2 _ rfl)
        clear hc hxx hbw
        go_wp2_with (at_builtin; refine wpList_append_lies _ rfl _ _ _ rfl w2.heap.size 27 i0 _ 3 40 Tryd.underlying22 hi hz0 hz1 hz2 rfl (by omega) u5 (n - (j + 1)) _ (by rfl) (HOWN.out.alloc _) _ 1 1 [.string t, .string f, .int .i64 a] (by rfl) (by rfl) (World.news_of_block (cs := #[.string t, .string f, .int .i64 a]) (heap_alloc_new _ _)) (by simp [Value.oneCell']) (by omega) (by unfold maxLen; omega) (by omega) (by simp; omega) _ rfl ?_; intro gg cap w3 hown1 hgrow hat hlt1)
        go_roundw
        case rel =>
          refine ⟨j, (j : Int) - 1, by omega, rfl, by go_num, ?_, ?_⟩
          · rw [HTK.out, show n - j = n - (j + 1) + 1 by omega]; exact hown1
          · exact (HB.out.alloc hbs _).grown hgrow (by simp; omega) (fun k hk => (HOWN.out.lt k hk).1)
        case measure => simp [RowKit.intOf]
end Go.Proofs.YtbkkegnmlhhpcaaDoor
