/-
  demoticref13.put: a use among others, once. By an AI agent.
  The document's names and plain numbers (demoticref02, 03; 06's name): the same as the program's own. By an AI agent.
  The document's names, whole (demoticref02.Name, demoticref06.name, bound), and nothing. By an AI agent.
  demoticref06: name, bound, nothing; demoticref03.Plain. By an AI agent.
-/
import Derived.Test.YtnalfjaojcahhaaGreatDoorJ23
import Derived.Test.YtnalfjaojcahhaaGreatDoorJ22
import Derived.Test.YtnalfjaojcahhaaGreatDoorJ08
import Derived.Deep.DeepCutAuto
import Derived.Deep.LoopGhost
namespace Go.Proofs.YtnalfjaojcahhaaGreatDoor
open Go.RowKit Go.Lib Go.Proofs Go.Sort
attribute [local go_sem ↓] Go.wp_at_zero Go.wp_at_succ

set_option maxRecDepth 100000 in
set_option maxHeartbeats 4000000 in
theorem put_any (A : Option Addr) (c : Nat) (l : Us) (um ua : Int) (w : World) (hr : Reads w w.heap.size 2 A l.length (usesC l)) (hlc : l.length ≤ c) (hl : l.length ≤ 1000000) :
    Calls Tryz.prog 33 #[.slice A l.length c, .agg #[.int .i64 um, .int .i64 ua]] w (SliceU w (putU l (um, ua))) := by
  obtain ⟨i0, hi, hz0, hz1, hz2⟩ := info_parts infoUr
  have hb0 := (Below.refl w.heap.size w).alloc (Nat.le_refl _) (.cells #[.int .i64 um, .int .i64 ua] 39)
  have bx0 : Blk (w.alloc (.cells #[.int .i64 um, .int .i64 ua] 39)) w.heap.size 39 #[.int .i64 um, .int .i64 ua] := Blk.new w _ _
  have HPA := Lib.hid (putU_at l (um, ua))
  have hlt0 : w.heap.size < (w.alloc (.cells #[.int .i64 um, .int .i64 ua] 39)).heap.size := by simp
  have HR := Lib.hid ((hr.below hb0).more hb0.size)
  have hqc := Lib.hid hlc
  clear hr
  go_enter Tryz.func33, Tryz.ntmps33
  go_wp2_with fail
  generalize hW : w.alloc (.cells #[.int .i64 um, .int .i64 ua] 39) = wo at *
  have HW := Lib.hid hW
  have HB0 := Lib.hid hb0
  clear hW hb0
  generalize hS : w.heap.size = bl at *
  have HS := Lib.hid hS
  clear hS
  obtain ⟨x0, x1, -, -⟩ := blk2 bx0
  go_loopg [5] l.length (fun g s5 wx => ∃ k : Nat, k ≤ l.length ∧ l.length - k ≤ g ∧ s5 = .int .i64 k ∧ (∀ x ∈ l.take k, ltU x (um, ua)) ∧ Below wo.heap.size wo wx)
  case atStart => exact ⟨0, Nat.zero_le _, Nat.le_refl _, rfl, fun x h => by simp at h, Below.refl _ _⟩
  case round =>
    obtain ⟨k, hk, hg2, rfl, hlo, hbx⟩ := hrel
    have HLO := Lib.hid hlo
    have HBX := Lib.hid hbx
    have hsx := hbx.size
    clear hlo hbx
    go_upto_region 2 with fail
    go_cut [40] (fun s40 wy => ∃ r : Bool, s40 = .bool r ∧ (r = true → k < l.length ∧ ∀ x, l[k]? = some x → ltU x (um, ua)) ∧ (r = false → ∀ x, l[k]? = some x → ¬ ltU x (um, ua)) ∧ Below wo.heap.size wo wy)
    case first =>
      by_cases hkq : k < l.length
      · obtain ⟨b3, o3, rfl, hb3, hc3⟩ := HR.out.el usC_len (by omega) rfl hkq
        have hyy := hc3 k hkq
        have HYK := Lib.hid (show ∀ (P : Use1 → Prop), P l[k] → ∀ x, l[k]? = some x → P x from fun P hp x hx => by rw [List.getElem?_eq_getElem hkq] at hx; injection hx with hx; exact hx ▸ hp)
        generalize l[k] = y at hyy HYK
        obtain ⟨ym, ya⟩ := y
        have g0 := (HBX.out.cell (p := ⟨b3, o3 + k * 2, none⟩) hb3).trans (hyy 0 _ rfl)
        have g1 := (HBX.out.cell (p := ⟨b3, o3 + k * 2 + 1, none⟩) hb3).trans (hyy 1 _ rfl)
        have e0 := (HBX.out.cell (p := ⟨bl, 0, none⟩) hlt0).trans x0
        have e1 := (HBX.out.cell (p := ⟨bl, 1, none⟩) hlt0).trans x1
        clear hc3 hyy x0 x1
        have p0 : (0 : Int) ≤ (k : Int) := by omega
        have p1 : (k : Int) < (l.length : Int) := by omega
        cases h1 : decide (ya < ua) with
        | true =>
          have HT := Lib.hid (show ltU (ym, ya) (um, ua) from .inl (of_decide_eq_true h1))
          go_wp2_with fail
          go_quiet (fail)
          go_wp2_with fail
          go_meet
          exact ⟨_, rfl, (fun _ => ⟨hkq, HYK.out (fun y => ltU y (um, ua)) HT.out⟩), (fun h => by cases h), below_drewN HBX.out _⟩
        | false =>
          cases h2 : (ya == ua) with
          | false =>
            have HT := Lib.hid (show ¬ ltU (ym, ya) (um, ua) by
              have := of_decide_eq_false h1
              have h2 : ya ≠ ua := by simpa using h2
              unfold ltU
              show ¬ (ya < ua ∨ (ya = ua ∧ ym < um))
              omega)
            go_wp2_with fail
            go_quiet (fail)
            go_wp2_with fail
            go_meet
            exact ⟨_, rfl, (fun h => by cases h), (fun _ => HYK.out (fun y => ¬ ltU y (um, ua)) HT.out), below_drewN HBX.out _⟩
          | true =>
            cases h3 : decide (ym < um) with
            | true =>
              have HT := Lib.hid (show ltU (ym, ya) (um, ua) from .inr ⟨by simpa using h2, of_decide_eq_true h3⟩)
              go_wp2_with fail
              go_quiet (fail)
              go_wp2_with fail
              go_meet
              exact ⟨_, rfl, (fun _ => ⟨hkq, HYK.out (fun y => ltU y (um, ua)) HT.out⟩), (fun h => by cases h), below_drewN HBX.out _⟩
            | false =>
              have HT := Lib.hid (show ¬ ltU (ym, ya) (um, ua) by
                have := of_decide_eq_false h1
                have := of_decide_eq_false h3
                unfold ltU
                show ¬ (ya < ua ∨ (ya = ua ∧ ym < um))
                omega)
              go_wp2_with fail
              go_quiet (fail)
              go_wp2_with fail
              go_meet
              exact ⟨_, rfl, (fun h => by cases h), (fun _ => HYK.out (fun y => ¬ ltU y (um, ua)) HT.out), below_drewN HBX.out _⟩
      · have hd : decide ((k : Int) < (l.length : Int)) = false := by simpa using hkq
        go_wp2_with fail
        go_quiet (fail)
        go_wp2_with fail
        go_meet
        exact ⟨false, rfl, (fun h => by cases h), (fun _ x hx => by rw [List.getElem?_eq_none (by omega)] at hx; cases hx), below_drewN HBX.out _⟩
    case rest =>
      obtain ⟨r, rfl, hrt, hrf, hby⟩ := hcut
      have HBY := Lib.hid hby
      clear HBX hby
      rcases r with _ | _
      · have HNL := Lib.hid (hrf rfl)
        clear hrt hrf
        have HP := Lib.hid (HPA.out k hk HLO.out HNL.out)
        clear HPA
        go_upto_region 4 with fail
        go_cut [66] (fun s66 wy => ∃ r : Bool, s66 = .bool r ∧ (r = true → l[k]? = some (um, ua)) ∧ (r = false → l[k]? ≠ some (um, ua)) ∧ Below wo.heap.size wo wy)
        case first =>
          by_cases hkq : k < l.length
          · obtain ⟨b3, o3, rfl, hb3, hc3⟩ := HR.out.el usC_len (by omega) rfl hkq
            have hyy := hc3 k hkq
            have HYK := Lib.hid (show l[k]? = some l[k] from List.getElem?_eq_getElem hkq)
            generalize l[k] = y at hyy HYK
            obtain ⟨ym, ya⟩ := y
            have g0 := (HBY.out.cell (p := ⟨b3, o3 + k * 2, none⟩) hb3).trans (hyy 0 _ rfl)
            have g1 := (HBY.out.cell (p := ⟨b3, o3 + k * 2 + 1, none⟩) hb3).trans (hyy 1 _ rfl)
            have e0 := (HBY.out.cell (p := ⟨bl, 0, none⟩) hlt0).trans x0
            have e1 := (HBY.out.cell (p := ⟨bl, 1, none⟩) hlt0).trans x1
            clear hc3 hyy x0 x1
            have p0 : (0 : Int) ≤ (k : Int) := by omega
            have p1 : (k : Int) < (l.length : Int) := by omega
            have HSE := Lib.hid (show ((ya == ua) && (ym == um)) = decide (some (ym, ya) = some (um, ua)) by
              rw [Bool.eq_iff_iff]
              simp
              exact And.comm)
            cases h1 : (ya == ua) <;> cases h2 : (ym == um)
            all_goals
              have HSF := HSE.out
              rw [h1, h2] at HSF
              have HSG := Lib.hid HSF
              clear HSF HSE
              go_wp2_with fail
              go_quiet (fail)
              go_wp2_with fail
              go_meet
              exact ⟨_, rfl, (fun h => by rw [HYK.out]; exact of_decide_eq_true (HSG.out.symm.trans h)), (fun h => by rw [HYK.out]; exact of_decide_eq_false (HSG.out.symm.trans h)), below_drewN HBY.out _⟩
          · have hd : decide ((k : Int) < (l.length : Int)) = false := by simpa using hkq
            go_wp2_with fail
            go_quiet (fail)
            go_wp2_with fail
            go_meet
            exact ⟨false, rfl, (fun h => by cases h), (fun _ h => by rw [List.getElem?_eq_none (by omega)] at h; cases h), below_drewN HBY.out _⟩
        case rest =>
          obtain ⟨r, rfl, hrt, hrf, hbz⟩ := hcut
          have HBZ := Lib.hid hbz
          clear HBY hbz
          rename World => wc
          rcases r with _ | _
          · have HPUT := Lib.hid (HP.out.trans (if_neg (hrf rfl)))
            clear hrt hrf HP
            have e0 := (HBZ.out.cell (p := ⟨bl, 0, none⟩) hlt0).trans x0
            have e1 := (HBZ.out.cell (p := ⟨bl, 1, none⟩) hlt0).trans x1
            clear x0 x1
            have hf := (HR.out.below HBZ.out).more HBZ.out.size
            have hfr := hf.front hk
            unfold usesC at hfr
            rw [(flat_take usC_len l k hk).1] at hfr
            have HRF := Lib.hid hfr
            have HRW := Lib.hid hf
            clear hf hfr
            have hblc : bl < wc.heap.size := Nat.lt_of_lt_of_le hlt0 HBZ.out.size
            have hqc1 := hqc.out
            go_upto_region 6 with fail
            go_cut [6] (fun s6 wy => wy.ownsRow wc.heap.size 39 2 s6 (k + 1) ((l.take k ++ [(um, ua)]).flatMap usC) ∧ Below wc.heap.size wc wy)
            case first =>
              have p0 : (0 : Int) ≤ (k : Int) := by omega
              have p1 : (k : Int) ≤ (c : Int) := by omega
              have hfr := front_ur A l.length c k hk hqc1
              go_region_held3 (fun w' => w'.cell? ⟨bl, 0, none⟩ = some (.int .i64 um) ∧ w'.cell? ⟨bl, 1, none⟩ = some (.int .i64 ua))
                (first
                  | (go_keep; done)
                  | (refine ⟨?_, ?_⟩ <;> (rw [hbel.cell (by exact hblc)]; first | exact e0 | exact e1))
                  | (refine ⟨?_, ?_⟩ <;> (rw [hbel2.cell (by exact hblc)]; first | exact e0 | exact e1))
                  | (refine ⟨?_, ?_⟩ <;> (rw [World.cell?_alloc_lt _ _ _ (by exact Nat.lt_of_lt_of_le hblc hbel.size), hbel.cell (by exact hblc)]; first | exact e0 | exact e1)))
                ((first
                  | (refine step_append_any _ (by rfl) (.tmp 68) (.tmp 71) _ (by rfl) wc.heap.size 39 i0 _ 2 16 Tryz.underlying37 hi hz0 hz1 hz2 (by rfl) (by omega) (.slice (some ⟨wc.heap.size, 0, none⟩) 0 0) 0 [] (by rfl) ((empty_ur wc).drew) wc.heap.size A k c ((l.take k).flatMap usC) (by rfl) ((HRF.out.alloc (Nat.le_refl _) _).drew) (usC_one _) (by unfold maxLen; omega) (by omega) (by simp) ?_
                     intro v1 w1 hown1 hg1 hat1
                     have hbel : Below wc.heap.size wc w1 := (((Below.refl wc.heap.size wc).alloc (Nat.le_refl _) _).drew).grown hg1 (by simp) (by simp [Value.ownBlock]))
                  | (refine step_append_any _ (by rfl) (.tmp 68) (.tmp 71) _ (by rfl) wc.heap.size 39 i0 _ 2 16 Tryz.underlying37 hi hz0 hz1 hz2 (by rfl) (by omega) (.slice (some ⟨wc.heap.size, 0, none⟩) 0 0) 0 [] (by rfl) (((empty_ur wc).alloc _).drew) wc.heap.size A k c ((l.take k).flatMap usC) (by rfl) (((HRF.out.alloc (Nat.le_refl _) _).alloc (le_alloc_ _ _) _).drew) (usC_one _) (by unfold maxLen; omega) (by omega) (Nat.le_trans (le_alloc_ wc _) (le_alloc_ _ _)) ?_
                     intro v1 w1 hown1 hg1 hat1
                     have hbel : Below wc.heap.size wc w1 := ((((Below.refl wc.heap.size wc).alloc (Nat.le_refl _) _).alloc (le_alloc_ _ _) _).drew).grown hg1 (Nat.le_trans (le_alloc_ wc _) (le_alloc_ _ _)) (by simp [Value.ownBlock])
                     have hF : Blk w1 (wc.heap.size + 1) 39 #[.int .i64 um, .int .i64 ua] := ((Blk.new_at (w := wc.alloc (.cells #[] 39)) (by simp) _ _).drew).grown hg1 (by simp [Value.ownBlock]))
                  | (refine step_append_any _ (by rfl) (.tmp 72) (.tmp 74) _ (by rfl) wc.heap.size 39 i0 _ 2 16 Tryz.underlying37 hi hz0 hz1 hz2 (by rfl) (by omega) v1 (0 + k) _ (by rfl) (hown1.alloc _) (w1.heap.size + 1) (some ⟨w1.heap.size, 0, none⟩) 1 1 [.int .i64 um, .int .i64 ua] (by rfl) (reads_of_block (fr := (0, 0)) (t := 39) (heap_alloc_new w1 _) (by rfl) (Nat.lt_succ_self _)) (by simp [Value.oneCell']) (by unfold maxLen; omega) (by omega) (Nat.le_trans hbel.size (by simp)) ?_
                     intro v2 w2 hown2 hg2 hat2
                     have hbel2 : Below wc.heap.size wc w2 := (hbel.alloc hbel.size _).grown hg2 (Nat.le_trans hbel.size (by simp)) (fun g hg => (hown1.lt g hg).1))
                  | (refine step_append_any _ (by rfl) (.tmp 72) (.tmp 74) _ (by rfl) wc.heap.size 39 i0 _ 2 16 Tryz.underlying37 hi hz0 hz1 hz2 (by rfl) (by omega) v1 (0 + k) _ (by rfl) hown1 w1.heap.size (some ⟨_, 0, none⟩) 1 1 [.int .i64 um, .int .i64 ua] (by rfl) (reads_of_block (fr := (0, 0)) (t := 39) hF (by rfl) hF.lt) (by simp [Value.oneCell']) (by unfold maxLen; omega) (by omega) hbel.size ?_
                     intro v2 w2 hown2 hg2 hat2
                     have hbel2 : Below wc.heap.size wc w2 := hbel.grown hg2 hbel.size (fun g hg => (hown1.lt g hg).1))
                  | (refine step_append_any _ (by rfl) (.tmp 68) (.tmp 71) _ (by rfl) wc.heap.size 39 i0 _ 2 16 Tryz.underlying37 hi hz0 hz1 hz2 (by rfl) (by omega) (.slice (some ⟨wc.heap.size + 1, 0, none⟩) 0 0) 0 [] (by rfl) ((empty_ur' wc (.cells #[.int .i64 um, .int .i64 ua] 39)).drew) wc.heap.size A k c ((l.take k).flatMap usC) (by rfl) (((HRF.out.alloc (Nat.le_refl _) _).alloc (le_alloc_ _ _) _).drew) (usC_one _) (by unfold maxLen; omega) (by omega) (Nat.le_trans (le_alloc_ wc _) (le_alloc_ _ _)) ?_
                     intro v1 w1 hown1 hg1 hat1
                     have hbel : Below wc.heap.size wc w1 := ((((Below.refl wc.heap.size wc).alloc (Nat.le_refl _) _).alloc (le_alloc_ _ _) _).drew).grown hg1 (Nat.le_trans (le_alloc_ wc _) (le_alloc_ _ _)) (by simp [Value.ownBlock])
                     have hF : Blk w1 (wc.heap.size) 39 #[.int .i64 um, .int .i64 ua] := (((Blk.new wc _ _).alloc _).drew).grown hg1 (by simp [Value.ownBlock]))))
              all_goals go_wp2_with fail
              all_goals go_meet
              all_goals
                refine ⟨?_, hbel2⟩
                have hx := hown2
                rw [Nat.zero_add, List.nil_append] at hx
                rw [List.flatMap_append]
                exact hx
            case rest =>
              obtain ⟨hown, hb6⟩ := hcut
              have HOWN := Lib.hid hown
              have HB6 := Lib.hid hb6
              rename World => wd
              clear hown hb6 e0 e1
              obtain ⟨A4, hbk, hrk⟩ := back_ur A l.length c k hk hqc1
              have hrr := hrk _ _ _ HRW.out
              unfold usesC at hrr
              rw [(flat_take usC_len l k hk).2] at hrr
              have HRK := Lib.hid (hrr.below HB6.out)
              clear hrr hrk
              have p0 : (0 : Int) ≤ (k : Int) := by omega
              have p1 : (k : Int) ≤ (l.length : Int) := by omega
              go_wp2_with (at_builtin; refine wpList_append_any _ rfl (.tmp 76) (.tmp 79) _ rfl wc.heap.size 39 i0 _ 2 16 Tryz.underlying37 hi hz0 hz1 hz2 rfl (by omega) u6 (k + 1) _ (by rfl) HOWN.out wc.heap.size A4 (l.length - k) (c - k) ((l.drop k).flatMap usC) (by rfl) HRK.out (usC_one _) (by unfold maxLen; omega) (by omega) HB6.out.size ?_; intro v3 w3 hown3 hg3 hat3)
              have hb7 : Below wc.heap.size wc w3 := HB6.out.grown hg3 HB6.out.size (fun g hg => (HOWN.out.lt g hg).1)
              have hpe : l.take k ++ [(um, ua)] ++ l.drop k = putU l (um, ua) := by rw [HPUT.out]; simp
              rw [← List.flatMap_append, hpe, show k + 1 + (l.length - k) = (putU l (um, ua)).length by rw [HPUT.out]; simp; omega] at hown3
              obtain ⟨A5, c5, rfl, hcap, hr5⟩ := own_slice hown3
              have HR5 := Lib.hid hr5
              have HB7 := Lib.hid (HBZ.out.trans (hb7.mono HBZ.out.size))
              clear hr5 hb7 hown3 hg3 hat3 hbk hpe
              go_wp2_with fail
              go_ret
              exact ⟨A5, c5, rfl, hcap, HR5.out, by rw [HS.out]; exact HB0.out.trans (HB7.out.mono (by have := HB0.out.size; omega))⟩
          · have HPUT := Lib.hid (HP.out.trans (if_pos (hrt rfl)))
            clear hrt hrf HP
            go_wp2_with fail
            go_ret
            rw [HPUT.out]
            exact ⟨A, c, rfl, hqc.out, (HR.out.below HBZ.out).more HBZ.out.size, by rw [HS.out]; exact HB0.out.trans (HBZ.out.mono (by have := HB0.out.size; omega))⟩
      · obtain ⟨hkq, hlk⟩ := hrt rfl
        have HLK := Lib.hid hlk
        clear hrt hrf hlk
        go_wp2_with fail
        go_roundg (l.length - (k + 1))
        case measure => omega
        case rel =>
          refine ⟨k + 1, by omega, Nat.le_refl _, by go_num, fun x hx => ?_, HBY.out⟩
          rw [List.take_succ_eq_append_getElem hkq] at hx
          rcases List.mem_append.1 hx with hx | hx
          · exact HLO.out x hx
          · simp at hx
            subst hx
            exact HLK.out _ (List.getElem?_eq_getElem hkq)
end Go.Proofs.YtnalfjaojcahhaaGreatDoor
namespace Go.Proofs.YtnalfjaojcahhaaGreatDoor
open Go.RowKit Go.Lib Go.Proofs
attribute [local go_sem ↓] Go.wp_at_zero Go.wp_at_succ

theorem uletter_any (c : Int) (w : World) : Calls Tryz.prog 57 #[.int .u8 c] w fun e w' => e = .returned (.bool (runeLetter c)) ∧ w = w' := by
  unfold runeLetter
  cases h1 : (c == 95) <;> cases h2 : decide (97 ≤ c) <;> cases h3 : decide (c ≤ 122) <;> cases h4 : decide (65 ≤ c) <;> cases h5 : decide (c ≤ 90)
  all_goals
    go_enter Tryz.func57, Tryz.ntmps57
    go_wp2_with fail
    go_ret
    exact ⟨rfl, rfl⟩
theorem ufigure_any (c : Int) (w : World) : Calls Tryz.prog 55 #[.int .u8 c] w fun e w' => e = .returned (.bool (runeFigure c)) ∧ w = w' := by
  unfold runeFigure
  cases h1 : decide (48 ≤ c) <;> cases h2 : decide (c ≤ 57)
  all_goals
    go_enter Tryz.func55, Tryz.ntmps55
    go_wp2_with fail
    go_ret
    exact ⟨rfl, rfl⟩

/-- A row of texts. -/
def StrsAt (w : World) (g : Nat) (l : List ByteArray) : Prop := ∀ i (h : i < l.length), w.cell? ⟨g, i, none⟩ = some (.string l[i])
theorem StrsAt.of_blk {w : World} {g : Nat} {t : TypeId} {l : List ByteArray} (h : Blk w g t (l.map Value.string).toArray) : StrsAt w g l := by
  intro i hi
  have := h.cell (0 + i)
  rw [Nat.zero_add] at this
  rw [this]
  simp [hi]
theorem StrsAt.of_cells {w : World} {g : Nat} {t : TypeId} {l : List ByteArray} {C : Array Value} (e : C = (l.map Value.string).toArray) (h : Blk w g t C) : StrsAt w g l := by
  subst e
  exact StrsAt.of_blk h

set_option maxHeartbeats 1000000 in
theorem in_any (s : ByteArray) (l : List ByteArray) (g c : Nat) (w : World) (hl : l.length ≤ 1000) (h : StrsAt w g l) :
    Calls Tryz.prog 88 #[.string s, .slice (some ⟨g, 0, none⟩) l.length c] w fun e w' => e = .returned (.bool (l.any fun x => decide (s = x))) ∧ w = w' := by
  have H := Lib.hid h
  clear h
  go_enter Tryz.func88, Tryz.ntmps88
  go_wp2_with fail
  go_loopg [5] l.length (fun k u5 wr => ∃ i : Nat, i ≤ l.length ∧ l.length - i ≤ k ∧ u5 = .int .i64 (i : Int) ∧ w = wr ∧ (l.take i).any (fun x => decide (s = x)) = false)
  case atStart => exact ⟨0, Nat.zero_le _, by omega, rfl, rfl, rfl⟩
  case round =>
    obtain ⟨i, hi, hk, rfl, rfl, hn⟩ := hrel
    by_cases hlt : i < l.length
    · have hlt2 : (i : Int) < (l.length : Int) := by omega
      have h0 : (0 : Int) ≤ (i : Int) := by omega
      have hc := H.out i hlt
      have HT := Lib.hid (show (l.take (i + 1)).any (fun x => decide (s = x)) = decide (s = l[i]) by rw [List.take_succ_eq_append_getElem hlt, List.any_append, hn]; simp)
      have HA := Lib.hid (show decide (s = l[i]) = true → l.any (fun x => decide (s = x)) = true by
        intro hd
        rw [List.any_eq_true]
        exact ⟨_, List.getElem_mem hlt, hd⟩)
      clear hn
      generalize l[i] = x at *
      cases hq : decide (s = x) with
      | true =>
        have hq2 : (x.toList == s.toList) = true := by rw [toList_beq]; simp at hq ⊢; exact hq.symm
        have HR := Lib.hid (HA.out hq)
        clear hq HA HT
        go_wp2_with fail
        go_ret
        exact ⟨by rw [HR.out]; rfl, rfl⟩
      | false =>
        have hq2 : (x.toList == s.toList) = false := by rw [toList_beq]; simp at hq ⊢; exact fun e => hq e.symm
        have HR := Lib.hid (HT.out.trans hq)
        clear hq HA HT
        go_wp2_with fail
        go_roundg (l.length - (i + 1))
        case measure => omega
        case rel => exact ⟨i + 1, by omega, Nat.le_refl _, by go_num, rfl, HR.out⟩
    · have hlt2 : ¬ (i : Int) < (l.length : Int) := by omega
      have HR := Lib.hid (show l.any (fun x => decide (s = x)) = false by rw [← hn, List.take_of_length_le (by omega)])
      clear hn
      go_wp2_with fail
      go_ret
      exact ⟨by rw [HR.out]; rfl, rfl⟩

def words1C : Array Value := #[.string (⟨#[98, 114, 101, 97, 107]⟩ : ByteArray), .string (⟨#[99, 111, 110, 116, 105, 110, 117, 101]⟩ : ByteArray), .string (⟨#[101, 108, 115, 101]⟩ : ByteArray), .string (⟨#[102, 111, 114]⟩ : ByteArray), .string (⟨#[102, 117, 110, 99]⟩ : ByteArray), .string (⟨#[105, 102]⟩ : ByteArray), .string (⟨#[105, 109, 112, 111, 114, 116]⟩ : ByteArray), .string (⟨#[105, 110, 116, 101, 114, 102, 97, 99, 101]⟩ : ByteArray), .string (⟨#[112, 97, 99, 107, 97, 103, 101]⟩ : ByteArray), .string (⟨#[114, 97, 110, 103, 101]⟩ : ByteArray), .string (⟨#[114, 101, 116, 117, 114, 110]⟩ : ByteArray), .string (⟨#[115, 116, 114, 117, 99, 116]⟩ : ByteArray), .string (⟨#[116, 121, 112, 101]⟩ : ByteArray), .string (⟨#[118, 97, 114]⟩ : ByteArray)]
def words2C : Array Value := #[.string (⟨#[99, 97, 115, 101]⟩ : ByteArray), .string (⟨#[99, 104, 97, 110]⟩ : ByteArray), .string (⟨#[99, 111, 110, 115, 116]⟩ : ByteArray), .string (⟨#[100, 101, 102, 97, 117, 108, 116]⟩ : ByteArray), .string (⟨#[100, 101, 102, 101, 114]⟩ : ByteArray), .string (⟨#[102, 97, 108, 108, 116, 104, 114, 111, 117, 103, 104]⟩ : ByteArray), .string (⟨#[103, 111]⟩ : ByteArray), .string (⟨#[103, 111, 116, 111]⟩ : ByteArray), .string (⟨#[109, 97, 112]⟩ : ByteArray), .string (⟨#[115, 101, 108, 101, 99, 116]⟩ : ByteArray), .string (⟨#[115, 119, 105, 116, 99, 104]⟩ : ByteArray)]
theorem words1C_eq : words1C = (words1.map Value.string).toArray := by kernel_rfl
theorem words2C_eq : words2C = (words2.map Value.string).toArray := by kernel_rfl

set_option maxRecDepth 100000 in
set_option maxHeartbeats 2000000 in
theorem uword_any (s : ByteArray) (w : World) : Calls Tryz.prog 56 #[.string s] w fun e w' => e = .returned (.int .i64 (wordN s)) ∧ Below w.heap.size w w' := by
  have I1 : ∀ w' : World, Calls Tryz.prog 88 #[.string s, .slice (some ⟨w'.heap.size, 0, none⟩) 14 14] (w'.alloc (.cells words1C 9)) fun e w2 => e = .returned (.bool (words1.any fun x => decide (s = x))) ∧ w'.alloc (.cells words1C 9) = w2 :=
    fun w' => in_any s words1 w'.heap.size 14 _ (by decide) (StrsAt.of_cells words1C_eq (Blk.new w' _ _))
  have I2 : Calls Tryz.prog 88 #[.string s, .slice (some ⟨w.heap.size + 1, 0, none⟩) 11 11] ((w.alloc (.cells words1C 9)).alloc (.cells words2C 9)) fun e w2 => e = .returned (.bool (words2.any fun x => decide (s = x))) ∧ (w.alloc (.cells words1C 9)).alloc (.cells words2C 9) = w2 :=
    in_any s words2 (w.heap.size + 1) 11 _ (by decide) (StrsAt.of_cells words2C_eq (Blk.new_at (by simp) _ _))
  have I1 := Lib.hid (I1 w)
  have I2 := Lib.hid I2
  have hB := (Below.refl w.heap.size w).alloc (Nat.le_refl _) (.cells words1C 9)
  have HW := Lib.hid (show wordN s = if words1.any (fun x => decide (s = x)) then 1 else if words2.any (fun x => decide (s = x)) then 2 else 0 from rfl)
  go_enter Tryz.func56, Tryz.ntmps56
  go_wp2_with fail
  refine (I1.out).mono ?_
  cases q1 : words1.any (fun x => decide (s = x)) with
  | true =>
    rintro e w2 ⟨rfl, rfl⟩
    go_wp2_with fail
    go_ret
    exact ⟨by rw [HW.out, q1]; rfl, hB⟩
  | false =>
    rintro e w2 ⟨rfl, rfl⟩
    go_wp2_with fail
    refine (I2.out).mono ?_
    cases q2 : words2.any (fun x => decide (s = x)) with
    | true =>
      rintro e w3 ⟨rfl, rfl⟩
      go_wp2_with fail
      go_ret
      exact ⟨by rw [HW.out, q1, q2]; rfl, hB.alloc (by simp) _⟩
    | false =>
      rintro e w3 ⟨rfl, rfl⟩
      go_wp2_with fail
      go_ret
      exact ⟨by rw [HW.out, q1, q2]; rfl, hB.alloc (by simp) _⟩
end Go.Proofs.YtnalfjaojcahhaaGreatDoor
namespace Go.Proofs.YtnalfjaojcahhaaGreatDoor
open Go.RowKit Go.Lib Go.Proofs
attribute [local go_sem ↓] Go.wp_at_zero Go.wp_at_succ

def byteU (s : ByteArray) (i : Nat) : Nat := (s.data.toList.getD i 0).toNat
theorem byteU_lt (s : ByteArray) (i : Nat) : byteU s i < 256 := UInt8.toNat_lt _
theorem run_byteU (s : ByteArray) (i : Nat) (hi : i < s.size) (W : World) : (Instr.index 9 (.string s) (.int .i64 (i : Int))).run Tryz.prog W = .ok (.int .u8 (byteU s i : Int)) W := by
  rw [run_index_string (P := Tryz.prog) W 9 s .i64 (i : Int) Tryz.underlying9]
  simp [byteU, hi]
  rfl
theorem letter_figure {c : Int} (h : runeLetter c = true) : runeFigure c = false := by
  unfold runeLetter at h
  unfold runeFigure
  simp at h ⊢
  omega
/-- The first is no figure, each is a letter or a figure. -/
theorem nameChars_ref (s : ByteArray) (h0 : 0 < s.size) : nameChars s.data.toList = true ↔ runeFigure (byteU s 0 : Int) = false ∧ ∀ j, j < s.size → (runeLetter (byteU s j : Int) || runeFigure (byteU s j : Int)) = true := by
  rw [nameChars_iff]
  constructor
  · intro h
    have h1 := h 0 (by simpa using h0)
    refine ⟨letter_figure (by simpa [byteU] using h1), fun j hj => ?_⟩
    have h2 := h j (by simpa using hj)
    rw [Bool.or_eq_true] at h2 ⊢
    rcases h2 with h2 | h2
    · exact .inl h2
    · rw [Bool.and_eq_true] at h2; exact .inr h2.2
  · rintro ⟨h1, h2⟩ j hj
    have h3 := h2 j (by simpa using hj)
    rw [Bool.or_eq_true] at h3 ⊢
    rcases h3 with h3 | h3
    · exact .inl h3
    · rcases Nat.eq_zero_or_pos j with rfl | hj0
      · rw [h1] at h3; cases h3
      · exact .inr (by rw [Bool.and_eq_true, decide_eq_true_iff]; exact ⟨hj0, h3⟩)

set_option maxRecDepth 100000 in
set_option maxHeartbeats 4000000 in
theorem uName_any (s : ByteArray) (hs : s.size ≤ 100) (w : World) : Calls Tryz.prog 34 #[.string s] w fun e w' => e = .returned (.bool (tokName s)) ∧ Below w.heap.size w w' := by
  have HW := Lib.hid (fun w => uword_any s w)
  by_cases h0 : s = ⟨#[]⟩
  · subst h0
    go_enter Tryz.func34, Tryz.ntmps34
    go_wp2_with fail
    go_ret
    exact ⟨by kernel_rfl, Below.refl _ _⟩
  · have hpos : 0 < s.size := by
      rcases Nat.eq_zero_or_pos s.size with h | h
      · exact absurd (by apply ByteArray.ext; exact Array.eq_empty_of_size_eq_zero h) h0
      · exact h
    have hne : (s.toList == []) = false := by
      have := toList_beq s ⟨#[]⟩
      rw [show (⟨#[]⟩ : ByteArray).toList = [] by rw [ByteArray.toList_eq]] at this
      rw [this]
      simpa using h0
    have hemp : s.toList.isEmpty = false := by rw [isEmpty_dec]; simpa using h0
    have HT := Lib.hid (show tokName s = (nameChars s.data.toList && decide (wordN s = 0)) by unfold tokName; rw [decide_eq_true (show s ≠ ⟨#[]⟩ from h0), Bool.true_and])
    have HN := Lib.hid (nameChars_ref s hpos)
    have i0 := fun W => run_byteU s 0 hpos W
    simp only [Int.natCast_zero] at i0
    have F0 := Lib.hid (fun w => ufigure_any (byteU s 0 : Int) w)
    clear h0
    cases hf : runeFigure (byteU s 0 : Int) with
    | true =>
      have HR := Lib.hid (show tokName s = false by
        rw [HT.out]
        cases hn : nameChars s.data.toList with
        | false => rfl
        | true => rw [(HN.out.1 hn).1] at hf; cases hf)
      rw [hf] at F0
      clear hf
      go_enter Tryz.func34, Tryz.ntmps34
      go_wp2_with fail
      refine (F0.out _).mono ?_
      rintro e w1 ⟨rfl, rfl⟩
      go_wp2_with fail
      go_ret
      exact ⟨by rw [HR.out]; rfl, Below.refl _ _⟩
    | false =>
      rw [hf] at F0
      by_cases hz : wordN s = 0
      · have HF := Lib.hid hf
        clear hf
        rw [hz] at HW
        have HR := Lib.hid (show tokName s = nameChars s.data.toList by rw [HT.out, hz]; simp)
        clear hz
        go_enter Tryz.func34, Tryz.ntmps34
        go_wp2_with fail
        refine (F0.out _).mono ?_
        rintro e w1 ⟨rfl, rfl⟩
        go_wp2_with fail
        refine (HW.out _).mono ?_
        rintro e w1 ⟨rfl, hB1⟩
        go_wp2_with fail
        go_loopg [3] s.size (fun k u3 wr => ∃ i : Nat, i ≤ s.size ∧ s.size - i ≤ k ∧ u3 = .int .i64 (i : Int) ∧ w1 = wr ∧ ∀ j, j < i → (runeLetter (byteU s j : Int) || runeFigure (byteU s j : Int)) = true)
        case atStart => exact ⟨0, Nat.zero_le _, by omega, rfl, rfl, fun j hj => by omega⟩
        case round =>
          obtain ⟨i, hi, hk, rfl, rfl, hall⟩ := hrel
          have HA := Lib.hid hall
          clear hall i0
          by_cases hlt : i < s.size
          · have hlt2 : (i : Int) < (s.size : Int) := by omega
            have hb := fun W => run_byteU s i hlt W
            have HOK := Lib.hid (show (runeLetter (byteU s i : Int) || runeFigure (byteU s i : Int)) = true → ∀ j, j < i + 1 → (runeLetter (byteU s j : Int) || runeFigure (byteU s j : Int)) = true by
              intro h j hj
              by_cases e : j = i
              · subst e; exact h
              · exact HA.out j (by omega))
            have HBAD := Lib.hid (show (runeLetter (byteU s i : Int) || runeFigure (byteU s i : Int)) = false → tokName s = false by
              intro h
              rw [HR.out]
              cases hn : nameChars s.data.toList with
              | false => rfl
              | true => rw [(HN.out.1 hn).2 i hlt] at h; cases h)
            generalize byteU s i = c at *
            cases hL : runeLetter (c : Int) with
            | true =>
              have HX := Lib.hid (HOK.out (by rw [hL]; rfl))
              clear HOK HBAD
              go_wp2_with fail
              refine (uletter_any _ _).mono ?_
              rw [hL]
              rintro e w2 ⟨rfl, rfl⟩
              go_wp2_with fail
              go_roundg (s.size - (i + 1))
              case measure => omega
              case rel => exact ⟨i + 1, by omega, Nat.le_refl _, by go_num, rfl, HX.out⟩
            | false =>
              cases hG : runeFigure (c : Int) with
              | true =>
                have HX := Lib.hid (HOK.out (by rw [hL, hG]; rfl))
                clear HOK HBAD
                go_wp2_with fail
                refine (uletter_any _ _).mono ?_
                rw [hL]
                rintro e w2 ⟨rfl, rfl⟩
                go_wp2_with fail
                refine (ufigure_any _ _).mono ?_
                rw [hG]
                rintro e w2 ⟨rfl, rfl⟩
                go_wp2_with fail
                go_roundg (s.size - (i + 1))
                case measure => omega
                case rel => exact ⟨i + 1, by omega, Nat.le_refl _, by go_num, rfl, HX.out⟩
              | false =>
                have HX := Lib.hid (HBAD.out (by rw [hL, hG]; rfl))
                clear HOK HBAD
                go_wp2_with fail
                refine (uletter_any _ _).mono ?_
                rw [hL]
                rintro e w2 ⟨rfl, rfl⟩
                go_wp2_with fail
                refine (ufigure_any _ _).mono ?_
                rw [hG]
                rintro e w2 ⟨rfl, rfl⟩
                go_wp2_with fail
                go_ret
                exact ⟨by rw [HX.out]; rfl, hB1⟩
          · have hlt2 : ¬ (i : Int) < (s.size : Int) := by omega
            have HX := Lib.hid (show tokName s = true by rw [HR.out]; exact HN.out.2 ⟨HF.out, fun j hj => HA.out j (by omega)⟩)
            go_wp2_with fail
            go_ret
            exact ⟨by rw [HX.out]; rfl, hB1⟩
      · have HR := Lib.hid (show tokName s = false by rw [HT.out, decide_eq_false hz, Bool.and_false])
        have hz2 : (wordN s != 0) = true := by simpa using hz
        clear hz hf
        go_enter Tryz.func34, Tryz.ntmps34
        go_wp2_with fail
        refine (F0.out _).mono ?_
        rintro e w1 ⟨rfl, rfl⟩
        go_wp2_with fail
        refine (HW.out _).mono ?_
        rintro e w1 ⟨rfl, hB1⟩
        go_wp2_with fail
        go_ret
        exact ⟨by rw [HR.out]; rfl, hB1⟩
end Go.Proofs.YtnalfjaojcahhaaGreatDoor
namespace Go.Proofs.YtnalfjaojcahhaaGreatDoor
open Go.RowKit Go.Lib Go.Proofs
attribute [local go_sem ↓] Go.wp_at_zero Go.wp_at_succ

set_option maxHeartbeats 2000000 in
theorem uname_any (s : ByteArray) (w : World) : Calls Tryz.prog 16 #[.string s] w fun e w' => e = .returned (.bool (nameT s)) ∧ Below w.heap.size w w' := by
  by_cases h : s.size ≤ 100
  · have HN := Lib.hid (uName_any s h w)
    have hd : decide ((s.size : Int) ≤ 100) = true := by rw [decide_eq_true_iff]; omega
    have HR := Lib.hid (show nameT s = tokName s by unfold nameT; rw [decide_eq_true h, Bool.true_and])
    go_enter Tryz.func16, Tryz.ntmps16
    go_wp2_with fail
    refine (HN.out).mono ?_
    rintro e w1 ⟨rfl, hB⟩
    go_wp2_with fail
    go_ret
    exact ⟨by rw [HR.out]; rfl, hB⟩
  · have hd : decide ((s.size : Int) ≤ 100) = false := by rw [decide_eq_false_iff_not]; omega
    have HR := Lib.hid (show nameT s = false by unfold nameT; rw [decide_eq_false h, Bool.false_and])
    go_enter Tryz.func16, Tryz.ntmps16
    go_wp2_with fail
    go_ret
    exact ⟨by rw [HR.out]; rfl, Below.refl _ _⟩
set_option maxHeartbeats 2000000 in
theorem ubound_any (s : ByteArray) (w : World) : Calls Tryz.prog 42 #[.string s] w fun e w' => e = .returned (.bool (boundT s)) ∧ Below w.heap.size w w' := by
  have HN := Lib.hid (uname_any s w)
  have HR := Lib.hid (show boundT s = (nameT s && !(s.toList == [95])) by unfold boundT; rw [← eq_list s [95]]; simp)
  cases hn : nameT s <;> cases hu : (s.toList == [95])
  all_goals
    rw [hn] at HN
    rw [hn, hu] at HR
    clear hn
    go_enter Tryz.func42, Tryz.ntmps42
    go_wp2_with fail
    refine (HN.out).mono ?_
    rintro e w1 ⟨rfl, hB⟩
    go_wp2_with fail
    go_ret
    exact ⟨by rw [HR.out]; rfl, hB⟩

set_option maxHeartbeats 2000000 in
theorem nothing_any (v : Value) (n : Nd) (w : World) (hv : NodeW w v n) : Calls Tryz.prog 43 #[v] w fun e w' => e = .returned (.bool (emptyT n)) ∧ Below w.heap.size w w' := by
  obtain ⟨A, cp, rfl, hC⟩ := hv.toC
  have hB := (Below.refl w.heap.size w).alloc (Nat.le_refl _) (.cells #[.int .i64 n.kind, .string n.text, .slice A n.kids.length cp, .int .i64 n.pos] 24)
  have HR := Lib.hid (show emptyT n = ((n.kind == 0) && (n.text.toList.isEmpty && ((n.kids.length : Int) == 0))) by
    unfold emptyT
    rw [isEmpty_dec, beq_dec, beq_dec]
    congr 2
    rw [decide_eq_decide]; omega)
  clear hv hC
  generalize n.kids.length = m at *
  cases h1 : (n.kind == 0) <;> cases h2 : n.text.toList.isEmpty <;> cases h3 : ((m : Int) == 0)
  all_goals
    rw [h1, h2, h3] at HR
    go_enter Tryz.func43, Tryz.ntmps43
    go_wp2_with fail
    go_ret
    exact ⟨by rw [HR.out]; rfl, hB⟩
end Go.Proofs.YtnalfjaojcahhaaGreatDoor
