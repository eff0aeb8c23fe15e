/-
  The document's own lines: they are diag.Lines's. By an AI agent.
-/
import Derived.Test.YtbkkegnmlhhpcaaDoorTsorted
import Derived.Test.YtbkkegnmlhhpcaaDoorTdigits
import Derived.Test.YtbkkegnmlhhpcaaDoorRofw
import Derived.Deep.CutBlock
namespace Go.Proofs.YtbkkegnmlhhpcaaDoor
open Go.RowKit Go.Sort Go.Lib Go.Proofs
attribute [local go_sem ↓] Go.wp_at_zero Go.wp_at_succ

/-- The place that ref20.Lines finds ahead of its last rule. -/
def findPos (xs : List Src) (f : ByteArray) (a : Int) : Int × Int := if f = ⟨#[]⟩ then (0, 0) else placeIn xs f a

structure H16 (w1 : World) (b o : Nat) (t : ByteArray) (v : Value) (k : Nat) (xs : List Value) (W : World) : Prop where
  c0 : W.cell? ⟨b, o, none⟩ = some (.string t)
  own : W.ownsRow w1.heap.size 9 1 v k xs
  bel : Below w1.heap.size w1 W
section
variable {w1 : World} {b o : Nat} {t : ByteArray} {v : Value} {k : Nat} {xs : List Value} {W w' : World}
theorem H16.call (h : H16 w1 b o t v k xs W) (hb : Below W.heap.size W w') : H16 w1 b o t v k xs w' :=
  ⟨cell_kept hb h.c0, own_kept h.own hb, h.bel.trans (hb.mono h.bel.size)⟩
theorem H16.alloc (h : H16 w1 b o t v k xs W) (x : Obj) : H16 w1 b o t v k xs (W.alloc x) := h.call ((Below.refl _ _).alloc (Nat.le_refl _) x)
theorem H16.drew (h : H16 w1 b o t v k xs W) : H16 w1 b o t v k xs W.drew := h.call (Below.refl _ _).drew
theorem H16.drewN (h : H16 w1 b o t v k xs W) (n : Nat) : H16 w1 b o t v k xs (W.drewN n) := h.call (below_drewN (Below.refl _ _) n)
end

set_option maxRecDepth 100000 in
set_option maxHeartbeats 4000000 in
theorem refLines_any (A A2 : Option Addr) (n c m c2 : Nat) (xs : List Src) (l : List Fnd) (w : World) (hl : xs.length = n) (hn : n ≤ 1000) (hm : l.length = m) (hm2 : m ≤ 1000) (h : Reads w w.heap.size 2 A n (xs.flatMap encS)) (hx : SrcOk w w.heap.size xs)
    (hf : Reads w w.heap.size 3 A2 m (l.flatMap encF)) (hs : ∀ x ∈ l, x.1.size ≤ 1000000000000000 ∧ x.2.1.size ≤ 1000000000000000) :
    Calls Tryd.prog 11 #[.slice A n c, .slice A2 m c2] w fun e w' => ∃ v, e = .returned v ∧ w'.ownsRow w.heap.size 9 1 v (sd l).length (((sd l).map (lineOf xs)).flatMap encB) ∧ Below w.heap.size w w' := by
  obtain ⟨i0, hi, hz0, hz1, hz2⟩ := info_parts info9
  have HR := Lib.hid h
  have HL := Lib.hid hl
  have HX := Lib.hid hx
  have HM := Lib.hid hm
  have HF := Lib.hid hf
  have HS := Lib.hid (show ∀ x ∈ sd l, x.1.size ≤ 1000000000000000 ∧ x.2.1.size ≤ 1000000000000000 from fun x hx => hs x (mem_sd.1 hx))
  have HSL := Lib.hid (show (sd l).length ≤ m by rw [← hm]; exact sd_len l)
  clear h hl hx hm hf hs
  go_enter Tryd.func11, Tryd.ntmps11
  go_wp2_with fail
  refine (refSorted_any A2 m c2 l w HM.out hm2 HF.out).mono ?_
  rintro e w1 ⟨A3, c3, he, hr3, hb1⟩
  subst he
  have HR3 := Lib.hid hr3
  have HB1 := Lib.hid hb1
  clear hr3 hb1
  generalize hsl : sd l = sl at HS HSL HR3 ⊢
  have HSD := Lib.hid hsl
  clear hsl
  generalize hq : sl.length = q at HSL HR3 ⊢
  have HQ := Lib.hid hq
  have hq2 : q ≤ 1000 := Nat.le_trans HSL.out hm2
  clear hq
  go_wp2_with fail
  go_loopg [5, 7] q (fun g o i wr => ∃ k : Nat, k ≤ q ∧ q - k ≤ g ∧ i = .int .i64 k ∧ wr.ownsRow w1.heap.size 9 1 o k (((sl.take k).map (lineOf xs)).flatMap encB) ∧ Below w1.heap.size w1 wr)
  case atStart => exact ⟨0, Nat.zero_le _, Nat.le_refl _, rfl, by simpa using World.ownsRow_nil w1 _ _ _, Below.refl _ _⟩
  case round =>
    rename World => wo
    obtain ⟨k, hk, hg, rfl, hown, hb⟩ := hrel
    have HB := Lib.hid hb
    have HOWN := Lib.hid hown
    have hbs := hb.size
    have hbs0 := HB1.out.size
    clear hb hown
    by_cases hlt : k < q
    · obtain ⟨b, off, rfl, hbB, hc⟩ := HR3.out.el encF_len (by omega) HQ.out hlt
      have hkx : k < sl.length := by rw [HQ.out]; exact hlt
      have hxx := hc k hkx
      have HTK := Lib.hid (flat_take_succ (enc := encB) (sl.map (lineOf xs)) k (by simpa using hkx))
      have HSZ := Lib.hid (HS.out sl[k] (List.getElem_mem hkx))
      rw [List.getElem_map, ← List.map_take, ← List.map_take] at HTK
      generalize sl[k] = x at hxx HTK HSZ
      obtain ⟨t, f, a⟩ := x
      have c0 : wo.cell? ⟨b, off + k * 3, none⟩ = some (.string t) := (HB.out.cell (p := ⟨b, off + k * 3, none⟩) hbB).trans (hxx 0 _ rfl)
      have c1 : wo.cell? ⟨b, off + k * 3 + 1, none⟩ = some (.string f) := (HB.out.cell (p := ⟨b, off + k * 3 + 1, none⟩) hbB).trans (hxx 1 _ rfl)
      have c2' : wo.cell? ⟨b, off + k * 3 + 2, none⟩ = some (.int .i64 a) := (HB.out.cell (p := ⟨b, off + k * 3 + 2, none⟩) hbB).trans (hxx 2 _ rfl)
      clear hc hxx
      have hbr : b < wo.heap.size := by omega
      go_upto_block 2 with fail
      go_cut [9, 10] from 25 to 55 (fun s9 s10 wy => s9 = .int .i64 (findPos xs f a).1 ∧ s10 = .int .i64 (findPos xs f a).2 ∧ Below wo.heap.size wo wy)
      case first =>
        go_wp2_with fail
        go_loopg [9, 10, 11] n (fun g s9 s10 i wy => ∃ j : Nat, j ≤ n ∧ n - j ≤ g ∧ s9 = .int .i64 0 ∧ s10 = .int .i64 0 ∧ i = .int .i64 j ∧ (f = ⟨#[]⟩ ∨ ∀ j' (h : j' < xs.length), j' < j → xs[j'].1 ≠ f) ∧ Below wo.heap.size wo wy)
        case atStart => exact ⟨0, Nat.zero_le _, Nat.le_refl _, rfl, rfl, rfl, .inr (fun _ _ h => absurd h (by omega)), Below.refl _ _⟩
        case round =>
          obtain ⟨j, hj, hg2, rfl, rfl, rfl, hno, hby⟩ := hrel
          have HNO := Lib.hid hno
          have HBY := Lib.hid hby
          clear hno hby
          have HBW := Lib.hid (HB1.out.trans ((HB.out.trans (HBY.out.mono hbs)).mono hbs0))
          by_cases hjn : j < n
          · obtain ⟨b1, o1, rfl, hb1', hc1⟩ := HR.out.el encS_len (by omega) HL.out hjn
            have hjx : j < xs.length := by rw [HL.out]; exact hjn
            have hyy := hc1 j hjx
            have HOK := Lib.hid (HX.out xs[j] (List.getElem_mem hjx))
            have HPI := Lib.hid (placeIn_drop xs f a j)
            have HDR := Lib.hid (show xs.drop j = xs[j] :: xs.drop (j + 1) from List.drop_eq_getElem_cons hjx)
            have HJE := Lib.hid (show ∀ (P : Src → Prop), P xs[j] → ∀ h : j < xs.length, P xs[j] from fun P hp _ => hp)
            generalize xs[j] = y at hyy HOK HDR HJE
            obtain ⟨yn, yA, yc, yb⟩ := y
            have y0 := (HBW.out.cell (p := ⟨b1, o1 + j * 2, none⟩) hb1').trans (hyy 0 _ rfl)
            have y1 := (HBW.out.cell (p := ⟨b1, o1 + j * 2 + 1, none⟩) hb1').trans (hyy 1 _ rfl)
            have x2 := (HBY.out.cell (p := ⟨b, off + k * 3 + 2, none⟩) hbr).trans c2'
            clear hyy hc1
            have p0 : (0 : Int) ≤ (k : Int) := by omega
            have p1 : (k : Int) < (q : Int) := by omega
            have p2 : (0 : Int) ≤ (j : Int) := by omega
            have p3 : (j : Int) < (n : Int) := by omega
            by_cases he : yn = f
            · have H1 : (yn.toList == f.toList) = true := by rw [toList_beq]; simpa using he
              by_cases hf0 : f = ⟨#[]⟩
              · have hE : f.toList.isEmpty = true := by rw [isEmpty_dec]; simp [hf0]
                have HF0 := Lib.hid hf0
                clear hf0 he
                go_wp2_with fail
                go_roundg (n - (j + 1))
                case measure => omega
                case rel => exact ⟨j + 1, by omega, Nat.le_refl _, rfl, rfl, by go_num, .inl HF0.out, HBY.out⟩
              · have hE : f.toList.isEmpty = false := by rw [isEmpty_dec]; simp [hf0]
                have HPP := Lib.hid (show findPos xs f a = placeOf yb a by
                  unfold findPos
                  rw [if_neg hf0, HPI.out (HNO.out.resolve_left hf0), HDR.out, placeIn, if_pos he])
                have HOC := Lib.hid (fun nd : Nat => (refOf_any yA yc yb a (wr.drewN nd) HOK.out.2 (((HOK.out.1.below HBW.out).more HBW.out.size).drewN nd)).mono (fun e w' (h : _ ∧ _) => (⟨h.1, h.2.symm⟩ : _ ∧ w' = wr.drewN nd)))
                rw [← HPP.out] at HOC
                clear hf0 he
                go_wp2_with fail
                go_quiet ((go_at_call 25; exact Calls.quiet_of_same (HOC.out _)))
                go_wp2_with fail
                go_meet
                exact ⟨rfl, rfl, below_drewN HBY.out _⟩
            · have H1 : (yn.toList == f.toList) = false := by rw [toList_beq]; simpa using he
              have HNE := Lib.hid he
              clear he
              go_wp2_with fail
              go_roundg (n - (j + 1))
              case measure => omega
              case rel =>
                refine ⟨j + 1, by omega, Nat.le_refl _, rfl, rfl, by go_num, ?_, HBY.out⟩
                rcases HNO.out with h | h
                · exact .inl h
                · refine .inr fun j' hj' hlt' => ?_
                  rcases Nat.lt_or_ge j' j with h' | h'
                  · exact h j' hj' h'
                  · obtain rfl : j' = j := by omega
                    exact HJE.out (fun y => y.1 ≠ f) HNE.out hj'
          · have HPP := Lib.hid (show findPos xs f a = (0, 0) by
              unfold findPos
              split
              · rfl
              · rename_i hf0
                rw [placeIn_drop xs f a j (HNO.out.resolve_left hf0), List.drop_eq_nil_of_le (by have := HL.out; omega), placeIn])
            go_wp2_with fail
            go_meet
            exact ⟨by rw [HPP.out], by rw [HPP.out], HBY.out⟩
      case rest =>
        obtain ⟨rfl, rfl, hby⟩ := hcut
        have HBY := Lib.hid hby
        clear hby
        have HPZ : Hid (findPos xs f a = (0, 0) ∨ (1 ≤ (findPos xs f a).1 ∧ 1 ≤ (findPos xs f a).2)) := by
          unfold findPos
          split
          · exact .inl rfl
          · rcases placeIn_bd f a xs (fun x hx => (HX.out x hx).2) with e | ⟨e1, e2, _, _⟩
            · exact .inl e
            · exact .inr ⟨e1, e2⟩
        have HLP := Lib.hid (show linePos xs (t, f, a) = if findPos xs f a = (0, 0) then (1, 1) else findPos xs f a from rfl)
        generalize findPos xs f a = p at HPZ HLP ⊢
        obtain ⟨pl, pc⟩ := p
        simp only at HPZ
        go_upto_if 57 with fail
        go_cut [8] (fun s8 wy => s8 = .string (lineName (t, f, a)) ∧ wc = wy)
        case first =>
          by_cases hf : f = ⟨#[]⟩
          · have hE : f.toList.isEmpty = true := by rw [isEmpty_dec]; simp [hf]
            have HN := Lib.hid (show lineName (t, f, a) = ⟨#[103, 111, 46, 109, 111, 100]⟩ by simp [lineName, hf])
            clear hf
            rw [hE]
            go_wp2_with fail
            go_meet
            exact ⟨by rw [HN.out], rfl⟩
          · have hE : f.toList.isEmpty = false := by rw [isEmpty_dec]; simp [hf]
            have HN := Lib.hid (show lineName (t, f, a) = f by simp [lineName, hf])
            clear hf
            rw [hE]
            go_wp2_with fail
            go_meet
            exact ⟨by rw [HN.out], rfl⟩
        case rest =>
          obtain ⟨rfl, rfl⟩ := hcut
          go_upto_if 59 with fail
          go_cut [9, 10] (fun s9 s10 wy => s9 = .int .i64 (linePos xs (t, f, a)).1 ∧ s10 = .int .i64 (linePos xs (t, f, a)).2 ∧ wc = wy)
          case first =>
            rcases HPZ.out with h | ⟨h1, h2⟩
            · simp only [Prod.mk.injEq] at h
              obtain ⟨rfl, rfl⟩ := h
              have HL1 := Lib.hid (show linePos xs (t, f, a) = (1, 1) from HLP.out.trans (if_pos rfl))
              go_wp2_with fail
              go_meet
              exact ⟨by rw [HL1.out], by rw [HL1.out], rfl⟩
            · have e1 : (pl == 0) = false := by simp; omega
              have HL1 := Lib.hid (show linePos xs (t, f, a) = (pl, pc) from HLP.out.trans (if_neg (fun e => by simp only [Prod.mk.injEq] at e; omega)))
              go_wp2_with fail
              go_meet
              exact ⟨by rw [HL1.out], by rw [HL1.out], rfl⟩
          case rest =>
            obtain ⟨rfl, rfl, rfl⟩ := hcut
            clear HPZ HLP
            have hbd := linePos_bd xs (t, f, a) (fun x hx => (HX.out x hx).2)
            have HLO := Lib.hid (show lineB (lineName (t, f, a)) (linePos xs (t, f, a)) t = lineOf xs (t, f, a) from rfl)
            have HNM := Lib.hid (show (lineName (t, f, a)).size ≤ 1000000000000000 by
              unfold lineName
              split
              · simp [ByteArray.size]
              · exact HSZ.out.2)
            generalize linePos xs (t, f, a) = p at hbd HLO ⊢
            generalize lineName (t, f, a) = nm at HLO HNM ⊢
            obtain ⟨pl2, pc2⟩ := p
            obtain ⟨l1, l2, l3, l4⟩ := hbd
            simp only at l1 l2 l3 l4
            obtain ⟨np, rfl⟩ : ∃ np : Nat, pl2 = np := ⟨pl2.toNat, by omega⟩
            obtain ⟨nc, rfl⟩ : ∃ nc : Nat, pc2 = nc := ⟨pc2.toNat, by omega⟩
            have np2 : np ≤ 200000 := by omega
            have nc2 : nc ≤ 200000 := by omega
            have s1 := itoaB_size (np : Int) (by omega) (by omega)
            have s2 := itoaB_size (nc : Int) (by omega) (by omega)
            have s3 : t.size ≤ 1000000000000000 := HSZ.out.1
            have s4 : nm.size ≤ 1000000000000000 := HNM.out
            have hz : (⟨#[58]⟩ : ByteArray).size = 1 := rfl
            have hz2 : (⟨#[58, 32]⟩ : ByteArray).size = 2 := rfl
            obtain ⟨t1, e1, y1, z1⟩ := str_add nm ⟨#[58]⟩ (by omega)
            obtain ⟨t2, e2, y2, z2⟩ := str_add t1 (itoaB np) (by omega)
            obtain ⟨t3, e3, y3, z3⟩ := str_add t2 ⟨#[58]⟩ (by omega)
            obtain ⟨t4, e4, y4, z4⟩ := str_add t3 (itoaB nc) (by omega)
            obtain ⟨t5, e5, y5, z5⟩ := str_add t4 ⟨#[58, 32]⟩ (by omega)
            obtain ⟨t6, e6, y6, z6⟩ := str_add t5 t (by omega)
            have HLL := Lib.hid (show t6 = lineOf xs (t, f, a) by rw [← HLO.out, e6, e5, e4, e3, e2, e1]; rfl)
            have g0 := (HBY.out.cell (p := ⟨b, off + k * 3, none⟩) hbr).trans c0
            have HOC := Lib.hid (own_kept HOWN.out HBY.out)
            have HBC := Lib.hid (HB.out.trans (HBY.out.mono hbs))
            clear l1 l2 l3 l4 e1 e2 e3 e4 e5 e6 y1 y2 y3 y4 y5 y6 hz hz2 c0 c1 c2'
            have p0 : (0 : Int) ≤ (k : Int) := by omega
            have p1 : (k : Int) < (q : Int) := by omega
            go_upto_region 16 with fail
            have HH0 : H16 w1 b (off + k * 3) t u5 k (((sl.take k).map (lineOf xs)).flatMap encB) wc := ⟨g0, HOC.out, HBC.out⟩
            clear g0
            have bF : b < wc.heap.size := Nat.lt_of_lt_of_le hbr HBY.out.size
            have hne2 : u5.ownBlock ≠ some b := fun e => by have := (HOWN.out.lt b e).1; omega
            go_region_held3 (fun w' => w'.cell? ⟨b, off + k * 3, none⟩ = some (.string t))
              (first
                | exact (H16.drew HH0).c0
                | exact hh.c0
                | exact (H16.alloc hh _).c0
                | exact (hgrow.cell_far _ (World.block_lt_of_cell? _ _ hha.c0) (Ne.symm hne2)).trans hha.c0)
              (first
                | (refine step_append_lies _ (by rfl) _ _ _ (by rfl) w1.heap.size 9 i0 _ 1 16 Tryd.underlying38 hi hz0 hz1 hz2 (by rfl) (by omega) u5 k _ (by rfl) ((H16.alloc hh _).own) _ 1 1 [.string t6] (by rfl) (by rfl) (World.news_of_block (cs := #[.string t6]) (heap_alloc_new _ _)) (by simp [Value.oneCell']) (by omega) (by unfold maxLen; omega) (by omega) (H16.alloc hh _).bel.size _ rfl ?_; intro gg cap w2 hown1 hgrow hat hlt1; have hha := H16.alloc hh (.cells #[.string t6] 9))
                | (go_at_call 26; refine (digits_any _ _ (by assumption)).mono ?_; rintro e w' ⟨rfl, kk, rfl⟩; first | have hh := H16.drewN hh kk | have hh := H16.drewN (H16.drew HH0) kk))
            go_wp2_with fail
            go_roundg (q - (k + 1))
            case measure => omega
            case rel =>
              refine ⟨k + 1, by omega, Nat.le_refl _, by go_num, ?_, ?_⟩
              · rw [HTK.out, ← HLL.out]; exact hown1
              · exact ((HH0.drewN _).alloc _).bel.grown hgrow ((HH0.drewN _).alloc _).bel.size (fun j hj => (HH0.own.lt j hj).1)
    · obtain rfl : k = q := by omega
      have HT2 := Lib.hid (show sl.take k = sl by rw [← HQ.out]; exact List.take_length)
      go_wp2_with fail
      go_ret
      have ho := own_base HOWN.out HB1.out.size
      rw [HT2.out] at ho
      refine ⟨_, rfl, ?_, HB1.out.trans (HB.out.mono hbs0)⟩
      rw [HSD.out, HQ.out]
      exact ho
end Go.Proofs.YtbkkegnmlhhpcaaDoor
