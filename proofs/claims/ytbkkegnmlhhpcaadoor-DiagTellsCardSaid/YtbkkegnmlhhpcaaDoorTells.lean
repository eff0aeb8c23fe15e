/-
  The walk of the law DiagTells. By an AI agent.
-/
import Derived.Test.YtbkkegnmlhhpcaaDoorTlines
import Derived.Test.YtbkkegnmlhhpcaaDoorDjoins
import Derived.Test.YtbkkegnmlhhpcaaDoorTworst
namespace Go.Proofs.YtbkkegnmlhhpcaaDoor
open Go.RowKit Go.Sort Go.Lib Go.Proofs
attribute [local go_sem ↓] Go.wp_at_zero Go.wp_at_succ

/-- A file's name and bytes. -/
def keyS (x : Src) : ByteArray × ByteArray := (x.1, x.2.2.2)
theorem placeIn_same (f : ByteArray) (a : Int) : ∀ {xs ys : List Src}, xs.map keyS = ys.map keyS → placeIn xs f a = placeIn ys f a
  | [], [], _ => rfl
  | [], _ :: _, h => by simp at h
  | _ :: _, [], h => by simp at h
  | x :: xs, y :: ys, h => by
    simp only [List.map_cons, List.cons.injEq, keyS, Prod.mk.injEq] at h
    rw [placeIn, placeIn, h.1.1, h.1.2, placeIn_same f a h.2]
theorem lineOf_same {xs ys : List Src} (h : xs.map keyS = ys.map keyS) (x : Fnd) : lineOf xs x = lineOf ys x := by
  unfold lineOf linePos
  rw [placeIn_same _ _ h]

theorem infoS : (Tryd.prog.info? 36).map (fun i => (i.zero, i.size, i.bytes)) = some (some (.agg #[.string ⟨#[]⟩, .slice none 0 0]), 2, 40) := by kernel_rfl
theorem infoU8 : (Tryd.prog.info? 5).map (fun i => (i.zero, i.size, i.bytes)) = some (some (.int .u8 0), 1, 1) := by kernel_rfl

theorem own_ne {w : World} {b1 b2 : Nat} {e1 e2 : TypeId} {s1 s2 n1 n2 : Nat} {v1 v2 : Value} {x1 x2 : List Value} (h1 : w.ownsRow b1 e1 s1 v1 n1 x1) (h2 : w.ownsRow b2 e2 s2 v2 n2 x2) (hne : e1 ≠ e2) : v1.ownBlock = none ∨ v1.ownBlock ≠ v2.ownBlock := by
  rcases h1.2 with ⟨rfl, _⟩ | ⟨g, cap, cur, rfl, _, hh, _⟩
  · exact .inl rfl
  · exact .inr fun e => own_blk_ne h2 (show Blk w g e1 cur from hh) hne.symm e.symm
/-- The bytes of the files that were made. -/
def MadeS (w : World) (B : Nat) (ys : List Src) : Prop := ∀ y ∈ ys, w.ownsRow B 5 1 (.slice y.2.1 y.2.2.2.size y.2.2.1) y.2.2.2.size (y.2.2.2.data.toList.flatMap byteV) ∧ y.2.2.2.size ≤ 500
theorem MadeS.ok {w : World} {B : Nat} {ys : List Src} (h : MadeS w B ys) : SrcOk w w.heap.size ys := fun y hy => ⟨Reads.of_own (h y hy).1, by have := (h y hy).2; omega⟩
theorem one_bytes (l : List UInt8) : ∀ u ∈ l.flatMap byteV, u.oneCell' = true := by
  intro u hu
  obtain ⟨x, _, hx⟩ := List.mem_flatMap.1 hu
  obtain rfl := List.mem_singleton.1 hx
  rfl
theorem empty_u8 (w : World) : (w.alloc (.cells #[] 5)).ownsRow w.heap.size 5 1 (.slice (some ⟨w.heap.size, 0, none⟩) 0 0) 0 [] :=
  ⟨by simp, .inr ⟨w.heap.size, 0, #[], rfl, Nat.le_refl _, heap_alloc_new w _, Nat.le_refl _, by unfold maxLen; omega, by simp, by simp⟩⟩

set_option maxRecDepth 100000 in
set_option maxHeartbeats 4000000 in
theorem tells_walk (A B : Option Addr) (n c m d : Nat) (xs : List Src) (l : List Fnd) (w : World) (hl : xs.length = n) (hk : l.length = m) (hn : n ≤ 9223372036854775807) (hm : m ≤ 9223372036854775807)
    (h : Reads w w.heap.size 2 A n (xs.flatMap encS)) (hx : ∀ x ∈ xs, Reads w w.heap.size 1 x.2.1 x.2.2.2.size (x.2.2.2.data.toList.flatMap byteV))
    (hxs : ∀ x ∈ xs, x.1.size ≤ 9223372036854775807 ∧ x.2.2.2.size ≤ 9223372036854775807)
    (h' : Reads w w.heap.size 3 B m (l.flatMap encF))
    (hs : ∀ x ∈ l, x.1.size ≤ 1000000000000000 ∧ x.2.1.size ≤ 1000000000000000) (ht : Tab w) :
    Calls Tryd.prog 4 #[.slice A n c, .slice B m d] w fun e w' => e = .returned (.bool true) ∧ Below w.heap.size w w' := by
  by_cases h1 : 50 < m
  · go_enter Tryd.func4, Tryd.ntmps4
    go_wp2_with fail
    go_ret
    exact ⟨rfl, Below.refl _ _⟩
  by_cases h2 : 10 < n
  · go_enter Tryd.func4, Tryd.ntmps4
    go_wp2_with fail
    go_ret
    exact ⟨rfl, Below.refl _ _⟩
  have HR := Lib.hid h
  have HF := Lib.hid h'
  have HL := Lib.hid hl
  have HK := Lib.hid hk
  have HX := Lib.hid hx
  have HXS := Lib.hid hxs
  have HT := Lib.hid ht
  have HS := Lib.hid hs
  have n10 : n ≤ 10 := by omega
  have m50 : m ≤ 50 := by omega
  obtain ⟨i0, hi, hz0, hz1, hz2⟩ := info_parts infoS
  obtain ⟨i1, hj, hy0, hy1, hy2⟩ := info_parts infoU8
  clear h h' hl hk ht hs hn hm hx hxs
  go_enter Tryd.func4, Tryd.ntmps4
  go_wp2_with fail
  go_loopg [5, 6] n (fun g s5 i wr => ∃ (k : Nat) (ys : List Src), k ≤ n ∧ n - k ≤ g ∧ i = .int .i64 k ∧ wr.ownsRow w.heap.size 36 2 s5 k (ys.flatMap encS) ∧ ys.length = k ∧ ys.map keyS = (xs.take k).map keyS ∧ MadeS wr w.heap.size ys ∧ Below w.heap.size w wr)
  case atStart => exact ⟨0, [], Nat.zero_le _, Nat.le_refl _, rfl, World.ownsRow_nil _ _ _ _, rfl, rfl, fun y hy => (by cases hy), Below.refl _ _⟩
  case round =>
    obtain ⟨k, ys, hk, hg, rfl, hown, hyl, hmap, hmade, hb⟩ := hrel
    have HOWN := Lib.hid hown
    have HYL := Lib.hid hyl
    have HMAP := Lib.hid hmap
    have HMADE := Lib.hid hmade
    have HB := Lib.hid hb
    have hbs := hb.size
    clear hown hyl hmap hmade hb
    by_cases hlt : k < n
    · obtain ⟨b, off, rfl, hbB, hc⟩ := HR.out.el encS_len (by omega) HL.out hlt
      have hkx : k < xs.length := by rw [HL.out]; exact hlt
      have hxx := hc k hkx
      have HXK := Lib.hid (HX.out xs[k] (List.getElem_mem hkx))
      have HSZ := Lib.hid (HXS.out xs[k] (List.getElem_mem hkx))
      have HTK := Lib.hid (List.take_succ_eq_append_getElem hkx)
      generalize xs[k] = x at hxx HXK HSZ HTK
      obtain ⟨nm, A0, c0, bs⟩ := x
      have y0 := (HB.out.cell (p := ⟨b, off + k * 2, none⟩) hbB).trans (hxx 0 _ rfl)
      have y1 := (HB.out.cell (p := ⟨b, off + k * 2 + 1, none⟩) hbB).trans (hxx 1 _ rfl)
      have hbr : b < wr.heap.size := by omega
      have p0 : (0 : Int) ≤ (k : Int) := by omega
      have p1 : (k : Int) < (n : Int) := by omega
      clear hc hxx
      by_cases hbad : 500 < bs.size
      · have d1 : decide ((500 : Int) < (bs.size : Int)) = true := by simp; omega
        go_wp2_with fail
        go_ret
        exact ⟨rfl, HB.out⟩
      · have d1 : decide ((500 : Int) < (bs.size : Int)) = false := by simp; omega
        by_cases hbad2 : 100 < nm.size
        · have d2 : decide ((100 : Int) < (nm.size : Int)) = true := by simp; omega
          go_wp2_with fail
          go_ret
          exact ⟨rfl, HB.out⟩
        · have d2 : decide ((100 : Int) < (nm.size : Int)) = false := by simp; omega
          go_wp2_with fail
          have hbs5 : bs.size ≤ 500 := by omega
          have hnr : u5.ownBlock ≠ some b := fun e => by have := (HOWN.out.lt b e).1; omega
          clear d1 d2 hbad hbad2
          have s0 : wr.drew.cell? ⟨b, off + k * 2, none⟩ = some (.string nm) ∧ wr.drew.cell? ⟨b, off + k * 2 + 1, none⟩ = some (.slice A0 bs.size c0) := ⟨y0, y1⟩
          go_region_held3 (fun w' => w'.cell? ⟨b, off + k * 2, none⟩ = some (.string nm) ∧ w'.cell? ⟨b, off + k * 2 + 1, none⟩ = some (.slice A0 bs.size c0))
            (first | exact s0 | exact ⟨cell_kept (((Below.refl wr.heap.size wr).alloc (Nat.le_refl _) _).drew) y0, cell_kept (((Below.refl wr.heap.size wr).alloc (Nat.le_refl _) _).drew) y1⟩ | exact s3 | exact s2 | exact s1)
            ((first
              | (refine step_append_any _ (by rfl) (.tmp 48) (.tmp 53) _ (by rfl) wr.heap.size 5 i1 _ 1 1 Tryd.underlying33 hj hy0 hy1 hy2 (by rfl) (by omega) (.slice (some ⟨wr.heap.size, 0, none⟩) 0 0) 0 [] (by rfl) ((empty_u8 wr).drew) w.heap.size A0 bs.size c0 (bs.data.toList.flatMap byteV) (by rfl) (((HXK.out.below HB.out).alloc hbs _).drew) (one_bytes _) (by unfold maxLen; omega) (by omega) (by simp) ?_
                 intro v1 w1 hown1 hg1 hat1
                 rw [Nat.zero_add, List.nil_append] at hown1
                 have hbel : Below wr.heap.size wr w1 := (((Below.refl wr.heap.size wr).alloc (Nat.le_refl _) _).drew).grown hg1 (by simp) (by simp [Value.ownBlock])
                 have s1 : w1.cell? ⟨b, off + k * 2, none⟩ = some (.string nm) ∧ w1.cell? ⟨b, off + k * 2 + 1, none⟩ = some (.slice A0 bs.size c0) := ⟨cell_kept hbel y0, cell_kept hbel y1⟩
                 obtain ⟨A1, c1, rfl, hcap1, hr1⟩ := own_slice hown1
                 have s2 : (w1.alloc (.cells #[.string nm, .slice A1 bs.size c1] 36)).cell? ⟨b, off + k * 2, none⟩ = some (.string nm) ∧ (w1.alloc (.cells #[.string nm, .slice A1 bs.size c1] 36)).cell? ⟨b, off + k * 2 + 1, none⟩ = some (.slice A0 bs.size c0) := ⟨cell_kept ((Below.refl _ _).alloc (Nat.le_refl _) _) s1.1, cell_kept ((Below.refl _ _).alloc (Nat.le_refl _) _) s1.2⟩)
              | (refine step_append_lies _ (by rfl) _ _ _ (by rfl) w.heap.size 36 i0 _ 2 40 Tryd.underlying32 hi hz0 hz1 hz2 (by rfl) (by omega) u5 k _ (by rfl) ((own_kept HOWN.out hbel).alloc _) _ 1 1 [.string nm, .slice A1 bs.size c1] (by rfl) (by rfl) (World.news_of_block (cs := #[.string nm, .slice A1 bs.size c1]) (heap_alloc_new _ _)) (by simp [Value.oneCell']) (by omega) (by unfold maxLen; omega) (by omega) (Nat.le_trans hbs (Nat.le_trans hbel.size (le_alloc_ _ _))) _ rfl ?_
                 intro gg cap w2 hown2 hg2 hat2 hlt2
                 have s3 : w2.cell? ⟨b, off + k * 2, none⟩ = some (.string nm) ∧ w2.cell? ⟨b, off + k * 2 + 1, none⟩ = some (.slice A0 bs.size c0) := ⟨(hg2.cell_far _ (World.block_lt_of_cell? _ _ s2.1) (Ne.symm hnr)).trans s2.1, (hg2.cell_far _ (World.block_lt_of_cell? _ _ s2.2) (Ne.symm hnr)).trans s2.2⟩)))
          go_wp2_with fail
          go_roundg (n - (k + 1))
          case measure => omega
          case rel =>
            refine ⟨k + 1, ys ++ [(nm, A1, c1, bs)], by omega, Nat.le_refl _, by go_num, ?_, by rw [List.length_append, HYL.out]; rfl, ?_, ?_, ?_⟩
            · rw [List.flatMap_append]
              exact hown2
            · rw [List.map_append, HTK.out, List.map_append, HMAP.out]; rfl
            · intro y hy
              rcases List.mem_append.1 hy with h | h
              · obtain ⟨h1, h2⟩ := HMADE.out y h
                have h3 := (own_kept h1 hbel).alloc (.cells #[.string nm, .slice A1 bs.size c1] 36)
                exact ⟨h3.kept hg2 (own_ne h3 ((own_kept HOWN.out hbel).alloc _) (by decide)), h2⟩
              · obtain rfl := List.mem_singleton.1 h
                have h3 := (own_base hown1 hbs).alloc (.cells #[.string nm, .slice A1 bs.size c1] 36)
                exact ⟨h3.kept hg2 (own_ne h3 ((own_kept HOWN.out hbel).alloc _) (by decide)), hbs5⟩
            · exact ((HB.out.trans (hbel.mono hbs)).alloc (Nat.le_trans hbs hbel.size) _).grown hg2 (Nat.le_trans hbs (Nat.le_trans hbel.size (le_alloc_ _ _))) (fun g hg => (HOWN.out.lt g hg).1)
    · obtain rfl : k = n := by omega
      have HKEY := Lib.hid (show ys.map keyS = xs.map keyS by rw [HMAP.out, ← HL.out, List.take_length])
      have HOK := Lib.hid (show ∀ x ∈ xs, x.2.2.2.size ≤ 100000 from fun x hx => by
        have h1 : keyS x ∈ ys.map keyS := by rw [HKEY.out]; exact List.mem_map_of_mem hx
        obtain ⟨y, hy, e⟩ := List.mem_map.1 h1
        have h2 := (HMADE.out y hy).2
        simp only [keyS, Prod.mk.injEq] at e
        rw [← e.2]; omega)
      obtain ⟨As, cs, rfl, _, hrs⟩ := own_slice HOWN.out
      have HRS := Lib.hid hrs
      have HSO := Lib.hid HMADE.out.ok
      clear hrs HOWN HMADE HMAP
      have HR0 := Lib.hid ((HR.out.below HB.out).more hbs)
      have HX0 := Lib.hid (show SrcOk wr wr.heap.size xs from fun x hx => ⟨((HX.out x hx).below HB.out).more hbs, HOK.out x hx⟩)
      have HF0 := Lib.hid ((HF.out.below HB.out).more hbs)
      have HT0 := Lib.hid (tab_below HT.out HB.out)
      clear HR HX HF HT HOK
      go_wp2_with fail
      refine (findings_any B m d l wr HK.out (by omega) HF0.out).mono ?_
      rintro e w1 ⟨v1, rfl, hown1, hb1⟩
      obtain ⟨A1, c1, rfl, hr1⟩ := reads_of_owns hown1
      have HB1 := Lib.hid hb1
      have HR1 := Lib.hid hr1
      clear hr1 hb1 hown1
      go_wp2_with fail
      refine (sorted_any A1 m c1 l w1 HK.out (by omega) HR1.out).mono ?_
      rintro e w2 ⟨A2, c2, he, hr2, hb2⟩
      subst he
      have HB2 := Lib.hid (HB1.out.trans (hb2.mono HB1.out.size))
      have HR2 := Lib.hid hr2
      generalize hq : (sd l).length = q at HR2 ⊢
      have HQ := Lib.hid hq
      have hq2 : q ≤ 50 := by rw [← hq]; have := sd_len l; have := HK.out; omega
      clear hr2 hb2 HR1 HB1 hq
      go_wp2_with fail
      refine (refSorted_any B m d l w2 HK.out (by omega) ((HF0.out.below HB2.out).more HB2.out.size)).mono ?_
      rintro e w3 ⟨A3, c3, he, hr3, hb3⟩
      subst he
      rw [HQ.out] at hr3 ⊢
      have HB3 := Lib.hid (HB2.out.trans (hb3.mono HB2.out.size))
      have HR23 := Lib.hid ((HR2.out.below hb3).more hb3.size)
      have HR3 := Lib.hid hr3
      clear hr3 hb3 HR2 HB2
      go_wp2_with fail
      refine (findings_any B m d l w3 HK.out (by omega) ((HF0.out.below HB3.out).more HB3.out.size)).mono ?_
      rintro e w4 ⟨v4, rfl, hown4, hb4⟩
      obtain ⟨A4, c4, rfl, hr4⟩ := reads_of_owns hown4
      have HB4 := Lib.hid (HB3.out.trans (hb4.mono HB3.out.size))
      have HR24 := Lib.hid ((HR23.out.below hb4).more hb4.size)
      have HR34 := Lib.hid ((HR3.out.below hb4).more hb4.size)
      have HR4 := Lib.hid hr4
      clear hr4 hb4 hown4 HR23 HR3 HB3
      go_wp2_with fail
      refine (lines_any As A4 k cs m c4 ys l w4 HYL.out (by omega) HK.out (by omega) ((HRS.out.below HB4.out).more HB4.out.size) (fun y hy => ⟨((HSO.out y hy).1.below HB4.out).more HB4.out.size, (HSO.out y hy).2⟩) HR4.out HS.out (tab_below HT0.out HB4.out)).mono ?_
      rintro e w5 ⟨v5, rfl, hown5, hb5⟩
      rw [show (sd l).map (lineOf ys) = (sd l).map (lineOf xs) from List.map_congr_left (fun x _ => lineOf_same HKEY.out x), HQ.out] at hown5
      obtain ⟨A5, c5, rfl, hr5⟩ := reads_of_owns hown5
      have HB5 := Lib.hid (HB4.out.trans (hb5.mono HB4.out.size))
      have HR25 := Lib.hid ((HR24.out.below hb5).more hb5.size)
      have HR35 := Lib.hid ((HR34.out.below hb5).more hb5.size)
      have HR5 := Lib.hid hr5
      clear hr5 hb5 hown5 HR24 HR34 HB4 HRS HSO HR4
      go_wp2_with fail
      refine (refLines_any _ B k c m d xs l w5 HL.out (by omega) HK.out (by omega) ((HR0.out.below HB5.out).more HB5.out.size) (fun y hy => ⟨((HX0.out y hy).1.below HB5.out).more HB5.out.size, (HX0.out y hy).2⟩) ((HF0.out.below HB5.out).more HB5.out.size) HS.out).mono ?_
      rintro e w6 ⟨v6, rfl, hown6, hb6⟩
      rw [HQ.out] at hown6
      obtain ⟨A6, c6, rfl, hr6⟩ := reads_of_owns hown6
      have HB6 := Lib.hid (HB5.out.trans (hb6.mono HB5.out.size))
      have HR26 := Lib.hid ((HR25.out.below hb6).more hb6.size)
      have HR36 := Lib.hid ((HR35.out.below hb6).more hb6.size)
      have HR56 := Lib.hid ((HR5.out.below hb6).more hb6.size)
      have HR6 := Lib.hid hr6
      have HLN := Lib.hid (show ((sd l).map (lineOf xs)).length = q by rw [List.length_map]; exact HQ.out)
      clear hr6 hb6 hown6 HR25 HR35 HR5 HB5 HR0 HX0
      go_wp2_with fail
      go_loopw [11] (fun i wx => ∃ j : Nat, j ≤ q ∧ i = .int .i64 j ∧ Below w6.heap.size w6 wx) (fun i _ => q - (RowKit.intOf i).toNat)
      case atStart => exact ⟨0, Nat.zero_le _, rfl, Below.refl _ _⟩
      case round =>
        obtain ⟨j, hj', rfl, hbk⟩ := hrel
        have HBK := Lib.hid hbk
        clear hbk
        by_cases hlt2 : j < q
        · have hkx : j < (sd l).length := by rw [HQ.out]; exact hlt2
          have hkl : j < ((sd l).map (lineOf xs)).length := by rw [HLN.out]; exact hlt2
          obtain ⟨b2, o2, rfl, hb2, hc2⟩ := HR26.out.el encF_len (by omega) HQ.out hlt2
          obtain ⟨b3, o3, rfl, hb3, hc3⟩ := HR36.out.el encF_len (by omega) HQ.out hlt2
          obtain ⟨b5, o5, rfl, hb5, hc5⟩ := HR56.out.el encB_len (by omega) HLN.out hlt2
          obtain ⟨b6, o6, rfl, hb6, hc6⟩ := HR6.out.el encB_len (by omega) HLN.out hlt2
          have x2 := hc2 j hkx
          have x3 := hc3 j hkx
          have x5 := hc5 j hkl
          have x6 := hc6 j hkl
          clear hc2 hc3 hc5 hc6
          generalize (sd l)[j] = x at x2 x3
          generalize ((sd l).map (lineOf xs))[j] = ln at x5 x6
          obtain ⟨t, f, a⟩ := x
          have g20 := (HBK.out.cell (p := ⟨b2, o2 + j * 3, none⟩) hb2).trans (x2 0 _ rfl)
          have g21 := (HBK.out.cell (p := ⟨b2, o2 + j * 3 + 1, none⟩) hb2).trans (x2 1 _ rfl)
          have g22 := (HBK.out.cell (p := ⟨b2, o2 + j * 3 + 2, none⟩) hb2).trans (x2 2 _ rfl)
          have g30 := (HBK.out.cell (p := ⟨b3, o3 + j * 3, none⟩) hb3).trans (x3 0 _ rfl)
          have g31 := (HBK.out.cell (p := ⟨b3, o3 + j * 3 + 1, none⟩) hb3).trans (x3 1 _ rfl)
          have g32 := (HBK.out.cell (p := ⟨b3, o3 + j * 3 + 2, none⟩) hb3).trans (x3 2 _ rfl)
          have g50 := (HBK.out.cell (p := ⟨b5, o5 + j * 1, none⟩) hb5).trans (x5 0 _ rfl)
          have g60 := (HBK.out.cell (p := ⟨b6, o6 + j * 1, none⟩) hb6).trans (x6 0 _ rfl)
          rw [Nat.mul_one] at g50 g60
          have p0 : (0 : Int) ≤ (j : Int) := by omega
          have p1 : (j : Int) < (q : Int) := by omega
          clear x2 x3 x5 x6
          go_wp2_with fail
          go_quiet (fail)
          go_wp2_with fail
          go_roundw
          case rel => exact ⟨j + 1, by omega, by go_num, below_drewN HBK.out _⟩
          case measure => simp [RowKit.intOf]; omega
        · have HBW := Lib.hid (HB6.out.trans (HBK.out.mono HB6.out.size))
          have HFW := Lib.hid ((HF0.out.below HBW.out).more HBW.out.size)
          clear HBK HR26 HR36 HR56 HR6 HB6
          go_wp2_with fail
          refine (findings_any B m d l _ HK.out (by omega) HFW.out).mono ?_
          rintro e w7 ⟨v7, rfl, hown7, hb7⟩
          obtain ⟨A7, c7, rfl, hr7⟩ := reads_of_owns hown7
          have HB7 := Lib.hid (HBW.out.trans (hb7.mono HBW.out.size))
          have HR7 := Lib.hid hr7
          clear hr7 hb7 hown7 HBW HFW
          go_wp2_with fail
          refine (worst_any A7 m c7 l w7 HK.out (by omega) HR7.out).mono ?_
          rintro e w8 ⟨rfl, hb8⟩
          have HB8 := Lib.hid (HB7.out.trans (hb8.mono HB7.out.size))
          clear hb8 HB7 HR7
          generalize hu : worstOf l = u
          have HU := Lib.hid hu
          clear hu
          go_wp2_with fail
          refine (refWorst_any B m d l w8 HK.out (by omega) ((HF0.out.below HB8.out).more HB8.out.size)).mono ?_
          rw [HU.out]
          rintro e w9 ⟨rfl, hb9⟩
          have HB9 := Lib.hid (HB8.out.trans (hb9.mono HB8.out.size))
          clear hb9 HB8
          go_wp2_with fail
          refine (awake_any _ (tab_below HT0.out HB9.out)).mono ?_
          rintro e wd ⟨rfl, hbd⟩
          go_wp2_with fail
          go_ret
          exact ⟨rfl, HB.out.trans ((HB9.out.trans (hbd.mono HB9.out.size)).mono hbs)⟩
end Go.Proofs.YtbkkegnmlhhpcaaDoor
