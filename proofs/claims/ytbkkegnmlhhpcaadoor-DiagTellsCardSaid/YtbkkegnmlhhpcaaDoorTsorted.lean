/-
  The document's own sorting: it is diag.Sorted's. By an AI agent.
-/
import Derived.Test.YtbkkegnmlhhpcaaDoorTahead
import Derived.Test.YtbkkegnmlhhpcaaDoorTeql
import Derived.Test.YtbkkegnmlhhpcaaDoorTcut
import Derived.Test.YtbkkegnmlhhpcaaDoorDonce
import Derived.Test.YtbkkegnmlhhpcaaDoorDjoins
import Derived.Deep.DeepCutAuto
namespace Go.Proofs.YtbkkegnmlhhpcaaDoor
open Go.RowKit Go.Sort Go.Lib Go.Proofs
attribute [local go_sem ↓] Go.wp_at_zero Go.wp_at_succ

/-! ### plain -/
theorem ltOf_tf (x y : Fnd) : (ltOf cmpF x y = true ∧ ltF x y) ∨ (ltOf cmpF x y = false ∧ ¬ ltF x y) := by
  by_cases h : ltF x y
  · exact .inl ⟨(ltOf_iff x y).2 h, h⟩
  · exact .inr ⟨(ltOf_false x y).2 h, h⟩

/-- Put in at its place, a finding leaves a list in order. -/
theorem insert_pair {ys : List Fnd} {x : Fnd} {k : Nat} (hp : ys.Pairwise ltF) (hk : k ≤ ys.length) (h1 : ∀ j (h : j < ys.length), j < k → ltF ys[j] x)
    (h2 : ∀ h : k < ys.length, ¬ ltF ys[k] x ∧ ys[k] ≠ x) : (ys.take k ++ [x] ++ ys.drop k).Pairwise ltF := by
  have e : ys.take k ++ ys.drop k = ys := List.take_append_drop k ys
  have hp' := hp
  rw [← e, List.pairwise_append] at hp'
  have ht : ∀ y ∈ ys.take k, ltF y x := by
    intro y hy
    obtain ⟨j, hj, rfl⟩ := List.mem_iff_getElem.1 hy
    rw [List.length_take] at hj
    rw [List.getElem_take]
    exact h1 j (by omega) (by omega)
  have hd : ∀ y ∈ ys.drop k, ltF x y := by
    intro y hy
    have hkl : k < ys.length := by
      rcases Nat.lt_or_ge k ys.length with h | h
      · exact h
      · rw [List.drop_eq_nil_of_le h] at hy; cases hy
    have hx : ltF x ys[k] := by
      rcases ltF_tri ys[k] x with h | h | h
      · exact absurd h (h2 hkl).1
      · exact absurd h (h2 hkl).2
      · exact h
    rw [List.drop_eq_getElem_cons hkl] at hy
    rcases List.mem_cons.1 hy with rfl | hy
    · exact hx
    · have := hp'.2.1
      rw [List.drop_eq_getElem_cons hkl, List.pairwise_cons] at this
      exact ltF_trans hx (this.1 y hy)
  rw [List.append_assoc, List.pairwise_append]
  refine ⟨hp'.1, ?_, ?_⟩
  · rw [List.singleton_append, List.pairwise_cons]
    exact ⟨hd, hp'.2.1⟩
  · intro y hy z hz
    rcases List.mem_cons.1 hz with rfl | hz
    · exact ht y hy
    · exact hp'.2.2 y hy z hz

theorem sd_put {ys : List Fnd} {x : Fnd} {k : Nat} {m : List Fnd} (e : sd m = ys) (hk : k ≤ ys.length) (h1 : ∀ j (h : j < ys.length), j < k → ltF ys[j] x)
    (h2 : ∀ h : k < ys.length, ¬ ltF ys[k] x ∧ ys[k] ≠ x) : sd (m ++ [x]) = ys.take k ++ [x] ++ ys.drop k := by
  refine pair_unique (sd_pair _) (insert_pair (by rw [← e]; exact sd_pair _) hk h1 h2) fun y => ?_
  rw [mem_sd, List.mem_append, ← @mem_sd m, e]
  conv => lhs; rw [← List.take_append_drop k ys]
  simp only [List.mem_append, List.mem_singleton]
  constructor <;> (intro h; rcases h with (h | h) | h <;> simp [h])
theorem sd_have {ys : List Fnd} {x : Fnd} {k : Nat} {m : List Fnd} (e : sd m = ys) (h : k < ys.length) (hx : ys[k] = x) : sd (m ++ [x]) = ys := by
  rw [← e]
  refine sd_congr fun y => ?_
  have hm : x ∈ m := by rw [← @mem_sd m, e, ← hx]; exact List.getElem_mem h
  simp only [List.mem_append, List.mem_singleton]
  exact ⟨fun h => h.elim id (fun h => h ▸ hm), .inl⟩

theorem flat_take {α : Type} {enc : α → List Value} {sz : Nat} (hs : ∀ x, (enc x).length = sz) (ys : List α) (k : Nat) (hk : k ≤ ys.length) : (ys.flatMap enc).take (k * sz) = (ys.take k).flatMap enc ∧ (ys.flatMap enc).drop (k * sz) = (ys.drop k).flatMap enc := by
  have e : ys.flatMap enc = (ys.take k).flatMap enc ++ (ys.drop k).flatMap enc := by rw [← List.flatMap_append, List.take_append_drop]
  have hl : ((ys.take k).flatMap enc).length = k * sz := by rw [flat_len hs, List.length_take, Nat.min_eq_left hk]
  rw [e]
  exact ⟨by rw [← hl, List.take_left], by rw [← hl, List.drop_left]⟩
theorem Reads.front {w : World} {B size n : Nat} {A : Option Addr} {xs : List Value} (h : Reads w B size A n xs) {k : Nat} (hk : k ≤ n) : Reads w B size A k (xs.take (k * size)) := by
  refine ⟨by rw [List.length_take, h.1, Nat.min_eq_left (Nat.mul_le_mul_right _ hk)], fun hn => ?_⟩
  obtain ⟨ad, rfl, hb, hcell⟩ := h.2 (by omega)
  refine ⟨ad, rfl, hb, fun j u hu => hcell j u ?_⟩
  rw [List.getElem?_take] at hu
  split at hu
  · exact hu
  · cases hu

theorem empty_own27 (w : World) : (w.alloc (.cells #[] 27)).ownsRow w.heap.size 27 3 (.slice (some ⟨w.heap.size, 0, none⟩) 0 0) 0 [] :=
  ⟨by simp, .inr ⟨w.heap.size, 0, #[], rfl, Nat.le_refl _, heap_alloc_new w _, Nat.le_refl _, by unfold maxLen; omega, by simp, by simp⟩⟩
theorem own_cap {w : World} {base : Nat} {e : TypeId} {size n : Nat} {A : Option Addr} {c : Nat} {xs : List Value} (h : w.ownsRow base e size (.slice A n c) n xs) : n ≤ c := by
  rcases h.2 with ⟨e, rfl⟩ | ⟨g', cap', cur, e, _, _, hc, _⟩
  · exact Nat.zero_le _
  · injection e with _ _ e; subst e; exact hc
theorem own_slice {w : World} {base : Nat} {e : TypeId} {size n : Nat} {v : Value} {xs : List Value} (h : w.ownsRow base e size v n xs) : ∃ A c, v = .slice A n c ∧ n ≤ c ∧ Reads w w.heap.size size A n xs := by
  obtain ⟨A, c, rfl, hr⟩ := reads_of_owns h
  exact ⟨A, c, rfl, own_cap h, hr⟩

theorem le_alloc_ (w : World) (o : Obj) : w.heap.size ≤ (w.alloc o).heap.size := by rw [World.size_alloc]; exact Nat.le_succ _

theorem empty_own27' (w : World) (o : Obj) : ((w.alloc o).alloc (.cells #[] 27)).ownsRow w.heap.size 27 3 (.slice (some ⟨w.heap.size + 1, 0, none⟩) 0 0) 0 [] := by
  have h := own_base (empty_own27 (w.alloc o)) (le_alloc_ w o)
  rw [World.size_alloc] at h
  exact h

/-! ### the walk -/
set_option maxRecDepth 100000 in
set_option maxHeartbeats 4000000 in
theorem refSorted_any (A : Option Addr) (n c : Nat) (l : List Fnd) (w : World) (hl : l.length = n) (hn : n ≤ 1000) (h : Reads w w.heap.size 3 A n (l.flatMap encF)) :
    Calls Tryd.prog 9 #[.slice A n c] w fun e w' => SliceOf w (sd l) e w' := by
  obtain ⟨i0, hi, hz0, hz1, hz2⟩ := info_parts info27
  have HR := Lib.hid h
  have HL := Lib.hid hl
  clear h hl
  go_enter Tryd.func9, Tryd.ntmps9
  go_wp2_with fail
  go_loopg [3, 4] n (fun g s3 s4 wr => ∃ (a : Nat) (A3 : Option Addr) (q c3 : Nat) (ys : List Fnd), a ≤ n ∧ n - a ≤ g ∧ s4 = .int .i64 a ∧ s3 = .slice A3 q c3 ∧ q ≤ c3 ∧ q ≤ a ∧ ys.length = q ∧ sd (l.take a) = ys ∧ Reads wr wr.heap.size 3 A3 q (ys.flatMap encF) ∧ Below w.heap.size w wr)
  case atStart => exact ⟨0, none, 0, 0, [], Nat.zero_le _, Nat.le_refl _, rfl, rfl, Nat.le_refl _, Nat.le_refl _, rfl, by rw [List.take_zero]; kernel_rfl, Reads.none_, Below.refl _ _⟩
  case round =>
    rename World => wo
    obtain ⟨a, A3, q, c3, ys, ha, hg, rfl, rfl, hqc, hqa, hys, hsd, hr3, hb⟩ := hrel
    have HYS := Lib.hid hys
    have HSD := Lib.hid hsd
    have HR3 := Lib.hid hr3
    have HB := Lib.hid hb
    have HQC := Lib.hid hqc
    clear hys hsd hr3 hb
    by_cases hlt : a < n
    · have hax : a < l.length := by rw [HL.out]; exact hlt
      obtain ⟨bl, off, rfl, hbl, hcl⟩ := HR.out.el encF_len (by omega) HL.out hlt
      have hxx := hcl a hax
      have HTK := Lib.hid (show l.take (a + 1) = l.take a ++ [l[a]] from List.take_succ_eq_append_getElem hax)
      generalize l[a] = x at hxx HTK
      have hblr : bl < wo.heap.size := Nat.lt_of_lt_of_le hbl HB.out.size
      have x0 := (HB.out.cell (p := ⟨bl, off + a * 3, none⟩) hbl).trans (hxx 0 _ rfl)
      have x1 := (HB.out.cell (p := ⟨bl, off + a * 3 + 1, none⟩) hbl).trans (hxx 1 _ rfl)
      have x2 := (HB.out.cell (p := ⟨bl, off + a * 3 + 2, none⟩) hbl).trans (hxx 2 _ rfl)
      clear hcl hxx
      go_wp2_with fail
      go_loopg [5] q (fun g s5 wx => ∃ k : Nat, k ≤ q ∧ q - k ≤ g ∧ s5 = .int .i64 k ∧ (∀ j (h : j < ys.length), j < k → ltF ys[j] x) ∧ Below wo.heap.size wo wx)
      case atStart => exact ⟨0, Nat.zero_le _, Nat.le_refl _, rfl, fun j _ h => absurd h (by omega), Below.refl _ _⟩
      case round =>
        obtain ⟨k, hk, hg2, rfl, hlo, hbx⟩ := hrel
        have HLO := Lib.hid hlo
        have HBX := Lib.hid hbx
        have hsx := hbx.size
        clear hlo hbx
        go_upto_region 6 with fail
        go_cut [27] (fun s27 wy => ∃ r : Bool, s27 = .bool r ∧ (r = true → k < q ∧ ∀ h : k < ys.length, ltF ys[k] x) ∧ (r = false → ∀ h : k < ys.length, ¬ ltF ys[k] x) ∧ Below wo.heap.size wo wy)
        case first =>
          by_cases hkq : k < q
          · obtain ⟨b3, o3, rfl, hb3, hc3⟩ := HR3.out.el encF_len (by omega) HYS.out hkq
            have hky : k < ys.length := by rw [HYS.out]; exact hkq
            have hyy := hc3 k hky
            have HLT := Lib.hid (ltOf_tf ys[k] x)
            have HYK := Lib.hid (show ∀ (P : Fnd → Prop), P ys[k] → ∀ h : k < ys.length, P ys[k] from fun P hp _ => hp)
            generalize ys[k] = y at hyy HLT HYK
            obtain ⟨yt, yf, ya⟩ := y
            obtain ⟨xt, xf, xa⟩ := x
            have g0 := (HBX.out.cell (p := ⟨b3, o3 + k * 3, none⟩) hb3).trans (hyy 0 _ rfl)
            have g1 := (HBX.out.cell (p := ⟨b3, o3 + k * 3 + 1, none⟩) hb3).trans (hyy 1 _ rfl)
            have g2 := (HBX.out.cell (p := ⟨b3, o3 + k * 3 + 2, none⟩) hb3).trans (hyy 2 _ rfl)
            have e0 := (HBX.out.cell (p := ⟨bl, off + a * 3, none⟩) hblr).trans x0
            have e1 := (HBX.out.cell (p := ⟨bl, off + a * 3 + 1, none⟩) hblr).trans x1
            have e2 := (HBX.out.cell (p := ⟨bl, off + a * 3 + 2, none⟩) hblr).trans x2
            clear hc3 hyy x0 x1 x2
            have h3lt : b3 < wr.heap.size := by omega
            have h0lt : bl < wr.heap.size := by omega
            have p0 : (0 : Int) ≤ (k : Int) := by omega
            have p1 : (k : Int) < (q : Int) := by omega
            have p2 : (0 : Int) ≤ (a : Int) := by omega
            have p3 : (a : Int) < (n : Int) := by omega
            go_region_held3 (fun w' => w'.cell? ⟨b3, o3 + k * 3, none⟩ = some (.string yt) ∧ w'.cell? ⟨b3, o3 + k * 3 + 1, none⟩ = some (.string yf) ∧ w'.cell? ⟨b3, o3 + k * 3 + 2, none⟩ = some (.int .i64 ya) ∧ w'.cell? ⟨bl, off + a * 3, none⟩ = some (.string xt) ∧ w'.cell? ⟨bl, off + a * 3 + 1, none⟩ = some (.string xf) ∧ w'.cell? ⟨bl, off + a * 3 + 2, none⟩ = some (.int .i64 xa))
              (first | (go_keep; done) | (refine ⟨?_, ?_, ?_, ?_, ?_, ?_⟩ <;> first | (rw [hb2.cell (by exact h3lt)]; first | exact g0 | exact g1 | exact g2) | (rw [hb2.cell (by exact h0lt)]; first | exact e0 | exact e1 | exact e2)))
              ((go_at_call 22; refine (ahead_any (yt, yf, ya) (xt, xf, xa) _).mono ?_; rintro e w' ⟨rfl, hb2⟩))
            go_wp2_with fail
            go_meet
            rcases HLT.out with ⟨e, h⟩ | ⟨e, h⟩
            · exact ⟨true, by rw [← e], fun _ => ⟨hkq, HYK.out (fun y => ltF y (xt, xf, xa)) h⟩, (fun e => by cases e), HBX.out.drew.trans (hb2.mono hsx)⟩
            · exact ⟨false, by rw [← e], (fun e => by cases e), fun _ => HYK.out (fun y => ¬ ltF y (xt, xf, xa)) h, HBX.out.drew.trans (hb2.mono hsx)⟩
          · have hd : decide ((k : Int) < (q : Int)) = false := by simpa using hkq
            go_wp2_with fail
            go_quiet (fail)
            go_wp2_with fail
            go_meet
            exact ⟨false, rfl, (fun h => by cases h), fun _ h => absurd h (by have := HYS.out; omega), below_drewN HBX.out _⟩
        case rest =>
          obtain ⟨r, rfl, hrt, hrf, hby⟩ := hcut
          have HBY := Lib.hid hby
          clear HBX hby
          rcases r with _ | _
          · have HNL := Lib.hid (hrf rfl)
            clear hrt hrf
            go_upto_region 8 with fail
            go_cut [44] (fun s44 wy => ∃ r : Bool, s44 = .bool r ∧ (r = true → ∃ h : k < ys.length, ys[k] = x) ∧ (r = false → ∀ h : k < ys.length, ys[k] ≠ x) ∧ Below wo.heap.size wo wy)
            case first =>
              by_cases hkq : k < q
              · obtain ⟨b3, o3, rfl, hb3, hc3⟩ := HR3.out.el encF_len (by omega) HYS.out hkq
                have hky : k < ys.length := by rw [HYS.out]; exact hkq
                have hyy := hc3 k hky
                have HYK := Lib.hid (show ∀ (P : Fnd → Prop), P ys[k] → ∀ h : k < ys.length, P ys[k] from fun P hp _ => hp)
                generalize ys[k] = y at hyy HYK
                obtain ⟨yt, yf, ya⟩ := y
                obtain ⟨xt, xf, xa⟩ := x
                have g0 := (HBY.out.cell (p := ⟨b3, o3 + k * 3, none⟩) hb3).trans (hyy 0 _ rfl)
                have g1 := (HBY.out.cell (p := ⟨b3, o3 + k * 3 + 1, none⟩) hb3).trans (hyy 1 _ rfl)
                have g2 := (HBY.out.cell (p := ⟨b3, o3 + k * 3 + 2, none⟩) hb3).trans (hyy 2 _ rfl)
                have e0 := (HBY.out.cell (p := ⟨bl, off + a * 3, none⟩) hblr).trans x0
                have e1 := (HBY.out.cell (p := ⟨bl, off + a * 3 + 1, none⟩) hblr).trans x1
                have e2 := (HBY.out.cell (p := ⟨bl, off + a * 3 + 2, none⟩) hblr).trans x2
                clear hc3 hyy x0 x1 x2
                have p0 : (0 : Int) ≤ (k : Int) := by omega
                have p1 : (k : Int) < (q : Int) := by omega
                have p2 : (0 : Int) ≤ (a : Int) := by omega
                have p3 : (a : Int) < (n : Int) := by omega
                have HS := Lib.hid (show decide (((yt, yf, ya) : Fnd) = (xt, xf, xa)) = (yt.toList == xt.toList && (yf.toList == xf.toList && ya == xa)) by
                  rw [Bool.eq_iff_iff]
                  simp [toList_inj])
                cases h1 : (yt.toList == xt.toList) <;> cases h2 : (yf.toList == xf.toList) <;> cases h3 : (ya == xa)
                all_goals
                  have HSE := HS.out
                  rw [h1, h2, h3] at HSE
                  have HSF := Lib.hid HSE
                  clear HSE HS
                  go_wp2_with fail
                  go_quiet (fail)
                  go_wp2_with fail
                  go_meet
                  exact ⟨_, rfl, (fun h => ⟨hky, HYK.out (fun y => y = (xt, xf, xa)) (of_decide_eq_true (HSF.out.trans h)) hky⟩), (fun h => HYK.out (fun y => y ≠ (xt, xf, xa)) (of_decide_eq_false (HSF.out.trans h))), below_drewN HBY.out _⟩
              · have hd : decide ((k : Int) < (q : Int)) = false := by simpa using hkq
                go_wp2_with fail
                go_quiet (fail)
                go_wp2_with fail
                go_meet
                exact ⟨false, rfl, (fun h => by cases h), (fun _ h => absurd h (by have := HYS.out; omega)), below_drewN HBY.out _⟩
            case rest =>
              obtain ⟨r, rfl, hrt, hrf, hbz⟩ := hcut
              have HBZ := Lib.hid hbz
              clear HBY hbz
              rcases r with _ | _
              · have HNE := Lib.hid (hrf rfl)
                clear hrt hrf
                have HPUT := Lib.hid (sd_put HSD.out (k := k) (x := x) (by rw [HYS.out]; exact hk) HLO.out (fun h => ⟨HNL.out h, HNE.out h⟩))
                rw [← HTK.out] at HPUT
                have hkl : k ≤ ys.length := by rw [HYS.out]; exact hk
                obtain ⟨xt, xf, xa⟩ := x
                have e0 := (HBZ.out.cell (p := ⟨bl, off + a * 3, none⟩) hblr).trans x0
                have e1 := (HBZ.out.cell (p := ⟨bl, off + a * 3 + 1, none⟩) hblr).trans x1
                have e2 := (HBZ.out.cell (p := ⟨bl, off + a * 3 + 2, none⟩) hblr).trans x2
                clear x0 x1 x2
                have hf := (HR3.out.below HBZ.out).more HBZ.out.size
                have hfr := hf.front hk
                rw [(flat_take encF_len ys k hkl).1] at hfr
                have HRF := Lib.hid hfr
                have HRW := Lib.hid hf
                clear hf hfr
                have hqc := HQC.out
                have hblc : bl < wc.heap.size := Nat.lt_of_lt_of_le hblr HBZ.out.size
                go_upto_region 9 with fail
                go_cut [6] (fun s6 wy => wy.ownsRow wc.heap.size 27 3 s6 (k + 1) ((ys.take k ++ [(xt, xf, xa)]).flatMap encF) ∧ Below wc.heap.size wc wy)
                case first =>
                  have p0 : (0 : Int) ≤ (k : Int) := by omega
                  have p1 : (k : Int) ≤ (c3 : Int) := by omega
                  have p2 : (0 : Int) ≤ (a : Int) := by omega
                  have p3 : (a : Int) < (n : Int) := by omega
                  have hfr := run_front A3 q c3 k hk hqc
                  go_region_held3 (fun w' => w'.cell? ⟨bl, off + a * 3, none⟩ = some (.string xt) ∧ w'.cell? ⟨bl, off + a * 3 + 1, none⟩ = some (.string xf) ∧ w'.cell? ⟨bl, off + a * 3 + 2, none⟩ = some (.int .i64 xa))
                    (first
                      | (go_keep; done)
                      | (refine ⟨?_, ?_, ?_⟩ <;> (rw [hbel.cell (by exact hblc)]; first | exact e0 | exact e1 | exact e2))
                      | (refine ⟨?_, ?_, ?_⟩ <;> (rw [hbel2.cell (by exact hblc)]; first | exact e0 | exact e1 | exact e2))
                      | (refine ⟨?_, ?_, ?_⟩ <;> (rw [World.cell?_alloc_lt _ _ _ (by exact Nat.lt_of_lt_of_le hblc hbel.size), hbel.cell (by exact hblc)]; first | exact e0 | exact e1 | exact e2)))
                    ((first
                      | (refine step_append_any _ (by rfl) (.tmp 45) (.tmp 48) _ (by rfl) wc.heap.size 27 i0 _ 3 40 Tryd.underlying22 hi hz0 hz1 hz2 (by rfl) (by omega) (.slice (some ⟨wc.heap.size, 0, none⟩) 0 0) 0 [] (by rfl) ((empty_own27 wc).drew) wc.heap.size A3 k c3 ((ys.take k).flatMap encF) (by rfl) ((HRF.out.alloc (Nat.le_refl _) _).drew) (one_flat _) (by unfold maxLen; omega) (by omega) (by simp) ?_
                         intro v1 w1 hown1 hg1 hat1
                         have hbel : Below wc.heap.size wc w1 := (((Below.refl wc.heap.size wc).alloc (Nat.le_refl _) _).drew).grown hg1 (by simp) (by simp [Value.ownBlock]))
                      | (refine step_append_any _ (by rfl) (.tmp 45) (.tmp 48) _ (by rfl) wc.heap.size 27 i0 _ 3 40 Tryd.underlying22 hi hz0 hz1 hz2 (by rfl) (by omega) (.slice (some ⟨wc.heap.size, 0, none⟩) 0 0) 0 [] (by rfl) (((empty_own27 wc).alloc _).drew) wc.heap.size A3 k c3 ((ys.take k).flatMap encF) (by rfl) (((HRF.out.alloc (Nat.le_refl _) _).alloc (le_alloc_ _ _) _).drew) (one_flat _) (by unfold maxLen; omega) (by omega) (Nat.le_trans (le_alloc_ wc _) (le_alloc_ _ _)) ?_
                         intro v1 w1 hown1 hg1 hat1
                         have hbel : Below wc.heap.size wc w1 := ((((Below.refl wc.heap.size wc).alloc (Nat.le_refl _) _).alloc (le_alloc_ _ _) _).drew).grown hg1 (Nat.le_trans (le_alloc_ wc _) (le_alloc_ _ _)) (by simp [Value.ownBlock])
                         have hF : Blk w1 (wc.heap.size + 1) 27 #[.string xt, .string xf, .int .i64 xa] := ((Blk.new_at (w := wc.alloc (.cells #[] 27)) (by simp) _ _).drew).grown hg1 (by simp [Value.ownBlock]))
                      | (refine step_append_any _ (by rfl) (.tmp 49) (.tmp 54) _ (by rfl) wc.heap.size 27 i0 _ 3 40 Tryd.underlying22 hi hz0 hz1 hz2 (by rfl) (by omega) v1 (0 + k) _ (by rfl) (hown1.alloc _) (w1.heap.size + 1) (some ⟨w1.heap.size, 0, none⟩) 1 1 [.string xt, .string xf, .int .i64 xa] (by rfl) (reads_of_block (fr := (0, 0)) (t := 27) (heap_alloc_new w1 _) (by rfl) (Nat.lt_succ_self _)) (by simp [Value.oneCell']) (by unfold maxLen; omega) (by omega) (Nat.le_trans hbel.size (by simp)) ?_
                         intro v2 w2 hown2 hg2 hat2
                         have hbel2 : Below wc.heap.size wc w2 := (hbel.alloc hbel.size _).grown hg2 (Nat.le_trans hbel.size (by simp)) (fun g hg => (hown1.lt g hg).1))
                      | (refine step_append_any _ (by rfl) (.tmp 49) (.tmp 54) _ (by rfl) wc.heap.size 27 i0 _ 3 40 Tryd.underlying22 hi hz0 hz1 hz2 (by rfl) (by omega) v1 (0 + k) _ (by rfl) hown1 w1.heap.size (some ⟨_, 0, none⟩) 1 1 [.string xt, .string xf, .int .i64 xa] (by rfl) (reads_of_block (fr := (0, 0)) (t := 27) hF (by rfl) hF.lt) (by simp [Value.oneCell']) (by unfold maxLen; omega) (by omega) hbel.size ?_
                         intro v2 w2 hown2 hg2 hat2
                         have hbel2 : Below wc.heap.size wc w2 := hbel.grown hg2 hbel.size (fun g hg => (hown1.lt g hg).1))
                      | (refine step_append_any _ (by rfl) (.tmp 45) (.tmp 48) _ (by rfl) wc.heap.size 27 i0 _ 3 40 Tryd.underlying22 hi hz0 hz1 hz2 (by rfl) (by omega) (.slice (some ⟨wc.heap.size + 1, 0, none⟩) 0 0) 0 [] (by rfl) ((empty_own27' wc (.cells #[.string xt, .string xf, .int .i64 xa] 27)).drew) wc.heap.size A3 k c3 ((ys.take k).flatMap encF) (by rfl) (((HRF.out.alloc (Nat.le_refl _) _).alloc (le_alloc_ _ _) _).drew) (one_flat _) (by unfold maxLen; omega) (by omega) (Nat.le_trans (le_alloc_ wc _) (le_alloc_ _ _)) ?_
                         intro v1 w1 hown1 hg1 hat1
                         have hbel : Below wc.heap.size wc w1 := ((((Below.refl wc.heap.size wc).alloc (Nat.le_refl _) _).alloc (le_alloc_ _ _) _).drew).grown hg1 (Nat.le_trans (le_alloc_ wc _) (le_alloc_ _ _)) (by simp [Value.ownBlock])
                         have hF : Blk w1 (wc.heap.size) 27 #[.string xt, .string xf, .int .i64 xa] := (((Blk.new wc _ _).alloc _).drew).grown hg1 (by simp [Value.ownBlock]))))
                  all_goals go_wp2_with fail
                  all_goals go_meet
                  all_goals
                    refine ⟨?_, hbel2⟩
                    have hx := hown2
                    rw [Nat.zero_add, List.nil_append] at hx
                    rw [List.flatMap_append]
                    exact hx
                case rest =>
                  obtain ⟨hown, hb6⟩ := hcut
                  have HOWN := Lib.hid hown
                  have HB6 := Lib.hid hb6
                  rename World => wd
                  clear hown hb6 e0 e1 e2
                  obtain ⟨A4, hbk, hrk⟩ := run_back A3 q c3 k hk hqc
                  have hrr := hrk _ _ _ HRW.out
                  rw [(flat_take encF_len ys k hkl).2] at hrr
                  have HRK := Lib.hid (hrr.below HB6.out)
                  clear hrr hrk
                  have p0 : (0 : Int) ≤ (k : Int) := by omega
                  have p1 : (k : Int) ≤ (q : Int) := by omega
                  go_wp2_with (at_builtin; refine wpList_append_any _ rfl (.tmp 56) (.tmp 59) _ rfl wc.heap.size 27 i0 _ 3 40 Tryd.underlying22 hi hz0 hz1 hz2 rfl (by omega) u6 (k + 1) _ (by rfl) HOWN.out wc.heap.size A4 (q - k) (c3 - k) ((ys.drop k).flatMap encF) (by rfl) HRK.out (one_flat _) (by unfold maxLen; omega) (by omega) HB6.out.size ?_; intro v3 w3 hown3 hg3 hat3)
                  have hb7 : Below wc.heap.size wc w3 := HB6.out.grown hg3 HB6.out.size (fun g hg => (HOWN.out.lt g hg).1)
                  rw [← List.flatMap_append, ← HPUT.out, show k + 1 + (q - k) = q + 1 by omega] at hown3
                  obtain ⟨A5, c5, rfl, hcap, hr5⟩ := own_slice hown3
                  have HR5 := Lib.hid hr5
                  have HB7 := Lib.hid (HBZ.out.trans (hb7.mono HBZ.out.size))
                  have HLN := Lib.hid (show (sd (l.take (a + 1))).length = q + 1 by rw [HPUT.out]; simp only [List.length_append, List.length_take, List.length_drop, List.length_cons, List.length_nil]; rw [HYS.out]; omega)
                  clear hr5 hb7 hown3 hg3 hat3 hbk
                  go_wp2_with fail
                  go_roundg (n - (a + 1))
                  case measure => omega
                  case rel => exact ⟨a + 1, A5, q + 1, c5, _, by omega, Nat.le_refl _, by go_num, rfl, hcap, by omega, HLN.out, rfl, HR5.out, HB.out.trans (HB7.out.mono HB.out.size)⟩
              · obtain ⟨hky, hyx⟩ := hrt rfl
                clear hrf
                have HSD2 := Lib.hid (sd_have HSD.out hky hyx)
                rw [← HTK.out] at HSD2
                clear hyx hky
                go_wp2_with fail
                go_roundg (n - (a + 1))
                case measure => omega
                case rel => exact ⟨a + 1, A3, q, c3, ys, by omega, Nat.le_refl _, by go_num, rfl, HQC.out, by omega, HYS.out, HSD2.out, (HR3.out.below HBZ.out).more HBZ.out.size, HB.out.trans (HBZ.out.mono HB.out.size)⟩
          · obtain ⟨hkq, hlk⟩ := hrt rfl
            have HLK := Lib.hid hlk
            clear hrt hrf hlk
            go_wp2_with fail
            go_roundg (q - (k + 1))
            case measure => omega
            case rel =>
              refine ⟨k + 1, by omega, Nat.le_refl _, by go_num, fun j hj hjk => ?_, HBY.out⟩
              rcases Nat.lt_or_ge j k with h | h
              · exact HLO.out j hj h
              · obtain rfl : j = k := by omega
                exact HLK.out hj
    · have HFIN := Lib.hid (show l.take a = l by rw [List.take_of_length_le]; have := HL.out; omega)
      go_wp2_with fail
      go_ret
      refine ⟨A3, c3, ?_, ?_, HB.out⟩
      · rw [← HFIN.out, HSD.out, HYS.out]
        rfl
      · rw [← HFIN.out, HSD.out, HYS.out]
        exact HR3.out
end Go.Proofs.YtbkkegnmlhhpcaaDoor
