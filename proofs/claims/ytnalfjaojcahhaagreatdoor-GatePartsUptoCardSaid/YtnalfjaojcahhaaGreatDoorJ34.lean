/-
  demoticlaw13.GateParts, as a walk: awake is asked for. By an AI agent.
-/
import Derived.Test.YtnalfjaojcahhaaGreatDoorJ33
namespace Go.Proofs.YtnalfjaojcahhaaGreatDoor
open Go.RowKit Go.Lib Go.Proofs
attribute [local go_sem ↓] Go.wp_at_zero Go.wp_at_succ

/-- What was found so far. -/
def FoundAt (n : Nd) (i : Nat) (F : List Bool) : Prop :=
  F.length = (usesT n).length ∧ ∀ k ∈ n.kids.take i, ∀ (j : Nat) (h : j < (usesT n).length) (h' : j < F.length), (usesT n)[j] ∈ usesT (partN n k) → F[j] = true
/-- Some more was found. -/
def FoundMore (l : Us) (G F : List Bool) (s : List (Int × Int)) : Prop :=
  F.length = G.length ∧ (∀ (j : Nat) (h : j < G.length) (h' : j < F.length), G[j] = true → F[j] = true) ∧ ∀ y ∈ s, ∀ (j : Nat) (h : j < l.length) (h' : j < F.length), l[j] = y → F[j] = true
/-- How far one use was looked for. -/
def FoundOne (l : Us) (G F : List Bool) (y : Int × Int) (q : Nat) : Prop :=
  F.length = G.length ∧ (∀ (j : Nat) (h : j < G.length) (h' : j < F.length), G[j] = true → F[j] = true) ∧ ∀ (j : Nat) (h : j < l.length) (h' : j < F.length), j < q → l[j] = y → F[j] = true
theorem foundAt_zero (n : Nd) : FoundAt n 0 (List.replicate (usesT n).length false) := ⟨by simp, by simp⟩
theorem foundAt_succ {n : Nd} {i : Nat} {G F : List Bool} (hi : i < n.kids.length) (h : FoundAt n i G) (hm : FoundMore (usesT n) G F (usesT (partN n n.kids[i]))) : FoundAt n (i + 1) F := by
  refine ⟨hm.1.trans h.1, fun k hk j hj hj' hx => ?_⟩
  rw [List.take_succ_eq_append_getElem hi] at hk
  rcases List.mem_append.1 hk with hk | hk
  · exact hm.2.1 j (by rw [h.1]; exact hj) hj' (h.2 k hk j hj (by rw [h.1]; exact hj) hx)
  · have : k = n.kids[i] := by simpa using hk
    subst this
    exact hm.2.2 _ hx j hj hj' rfl
theorem foundMore_zero (l : Us) (G : List Bool) : FoundMore l G G [] := ⟨rfl, fun _ _ _ h => h, by simp⟩
theorem foundMore_succ {l s : Us} {G F H : List Bool} {k : Nat} (hk : k < s.length) (h : FoundMore l G F (s.take k)) (h1 : FoundOne l F H s[k] l.length) : FoundMore l G H (s.take (k + 1)) := by
  refine ⟨h1.1.trans h.1, fun j hj hj' hg => h1.2.1 j (by rw [h.1]; exact hj) hj' (h.2.1 j hj (by rw [h.1]; exact hj) hg), fun y hy j hj hj' e => ?_⟩
  rw [List.take_succ_eq_append_getElem hk] at hy
  rcases List.mem_append.1 hy with hy | hy
  · exact h1.2.1 j (by rw [← h1.1]; exact hj') hj' (h.2.2 y hy j hj (by rw [← h1.1]; exact hj') e)
  · have : y = s[k] := by simpa using hy
    subst this
    exact h1.2.2 j hj hj' hj e
theorem foundOne_zero (l : Us) (G : List Bool) (y : Int × Int) : FoundOne l G G y 0 := ⟨rfl, fun _ _ _ h => h, fun _ _ _ h => absurd h (Nat.not_lt_zero _)⟩
theorem foundOne_no {l : Us} {G F : List Bool} {y : Int × Int} {q : Nat} (hq : q < l.length) (h : FoundOne l G F y q) (hn : l[q] ≠ y) : FoundOne l G F y (q + 1) := by
  refine ⟨h.1, h.2.1, fun j hj hj' hjq e => ?_⟩
  rcases Nat.lt_or_ge j q with h2 | h2
  · exact h.2.2 j hj hj' h2 e
  · obtain rfl : j = q := by omega
    exact absurd e hn
theorem foundOne_yes {l : Us} {G F : List Bool} {y : Int × Int} {q : Nat} (h : FoundOne l G F y q) : FoundOne l G (F.set q true) y (q + 1) := by
  refine ⟨by rw [List.length_set]; exact h.1, fun j hj hj' e => ?_, fun j hj hj' hjq e => ?_⟩
  · rw [List.getElem_set]
    split
    · rfl
    · exact h.2.1 j hj (by rw [List.length_set] at hj'; exact hj') e
  · rw [List.getElem_set]
    split
    · rfl
    · rename_i hne
      exact h.2.2 j hj (by rw [List.length_set] at hj'; exact hj') (by omega) e
theorem any_take_succ {l : Us} {y : Int × Int} {q : Nat} (hq : q < l.length) : (l.take (q + 1)).any (fun x => decide (x = y)) = ((l.take q).any (fun x => decide (x = y)) || decide (l[q] = y)) := by
  rw [List.take_succ_eq_append_getElem hq, List.any_append]
  simp
theorem found_all {n : Nd} {F : List Bool} (hr : rightFile n = true) (h : FoundAt n n.kids.length F) (j : Nat) (hj : j < F.length) : F[j] = true := by
  have hj2 : j < (usesT n).length := by rw [← h.1]; exact hj
  obtain ⟨k, hk, hx⟩ := (uses_parts hr _).1 (List.getElem_mem hj2)
  exact h.2 k (by rw [List.take_length]; exact hk) j hj2 hj hx
theorem part_any {n k : Nd} (hr : rightFile n = true) (hk : k ∈ n.kids) {y : Int × Int} (hy : y ∈ usesT (partN n k)) : (usesT n).any (fun x => decide (x = y)) = true := by
  rw [List.any_eq_true]
  exact ⟨y, (uses_parts hr y).2 ⟨k, hk, hy⟩, by simp⟩
theorem grownBy_drewN (w : World) (n : Nat) (r : Option Nat) : w.grownBy (w.drewN n) r := ⟨rfl, rfl, rfl, Nat.le_refl _, fun _ _ _ => rfl⟩
/-- A cell of an int lies in no row of bools. -/
theorem not_bools {w : World} {g b o : Nat} {F : List Bool} {v : Int} (hb : Blk w g 4 (encB F)) (hc : w.cell? ⟨b, o, none⟩ = some (.int .i64 v)) : b ≠ g := by
  rintro rfl
  have h := hb.cell o
  rw [hc] at h
  rcases Nat.lt_or_ge o F.length with ho | ho
  · rw [encB_get F o ho] at h
    simp at h
  · rw [Array.getElem?_eq_none (by rw [encB_size]; exact ho)] at h
    cases h

set_option maxRecDepth 100000 in
set_option maxHeartbeats 8000000 in
theorem gparts_any (v : Value) (n : Nd) (w : World) (hT : Tab w) (hv : NodeW w v n) (hw : Wee 1000 n) (hc : (lefts 1000 n).length ≤ 400000000) (hA : AwakeC w) :
    Calls Tryz.prog 3 #[v] w fun e w' => e = .returned (.bool true) ∧ Below w.heap.size w w' := by
  have HV0 := Lib.hid hv
  obtain ⟨A, cp, rfl, hC⟩ := hv.toC
  have hB := (Below.refl w.heap.size w).alloc (Nat.le_refl _) (.cells #[.int .i64 n.kind, .string n.text, .slice A n.kids.length cp, .int .i64 n.pos] 24)
  have b1 : Blk (w.alloc (.cells #[.int .i64 n.kind, .string n.text, .slice A n.kids.length cp, .int .i64 n.pos] 24)) w.heap.size 24 #[.int .i64 n.kind, .string n.text, .slice A n.kids.length cp, .int .i64 n.pos] := Blk.new w _ _
  have HS := Lib.hid (fun w' (hb : Below w.heap.size w w') => rsize_any 1000 _ n w' (Nat.le_refl _) (HV0.out.below hb) hw (by omega))
  have HU := Lib.hid (fun w' (hb : Below w.heap.size w w') => uses_any _ n w' (hT.below hb) (HV0.out.below hb) (hw.le (by omega)) (by have := lefts_le (g := 100) (h := 1000) n (by omega); omega))
  have HUP := Lib.hid (fun (k : Nd) (hk : k ∈ n.kids) v' w' (hb : Below w.heap.size w w') (hv' : NodeW w' v' (partN n k)) => uses_any v' (partN n k) w' (hT.below hb) hv' (part_wee (g := 100) (hw.le (by omega)) hk) (by have := lefts_le (g := 100) (h := 1000) n (by omega); have := part_lefts (g := 100) hk; omega))
  have HRI := Lib.hid (fun w' (hb : Below w.heap.size w w') => uright_any _ n w' (HV0.out.below hb) (hw.le (by omega)) (by have := lefts_le (g := 100) (h := 1000) n (by omega); omega))
  have HAW := Lib.hid hA
  have hul : (usesT n).length ≤ 800000000 := by
    have := hereT_le 100 n
    have := lefts_le (g := 100) (h := 1000) n (by omega)
    unfold usesT
    split
    · have := sd_len (hereT 100 n); omega
    · simp
  have hlk := hw.1.1
  have HSL := Lib.hid (fun (k : Nd) (hk : k ∈ n.kids) => usesT_le (partN n k) (by have := lefts_le (g := 100) (h := 1000) n (by omega); have := part_lefts (g := 100) hk; omega))
  clear hv hC hT hw hA
  generalize (lefts 1000 n).length = z at *
  go_enter Tryz.func3, Tryz.ntmps3
  go_wp2_with fail
  refine (HS.out _ hB).mono ?_
  rintro e w1 ⟨rfl, hb1⟩
  have hB1 := hB.trans (hb1.mono hB.size)
  have b11 := b1.below hb1 b1.lt
  clear hb1 b1 hB
  obtain ⟨x0, x1, x2, x3, -, -, -, -⟩ := blk4 b11
  by_cases hz : z > 500
  · have hz2 : (z : Int) > 500 := by omega
    go_wp2_with fail
    refine (HS.out _ hB1).mono ?_
    rintro e w2 ⟨rfl, hb2⟩
    have hB2 := hB1.trans (hb2.mono hB1.size)
    go_wp2_with fail
    go_ret
    exact ⟨rfl, hB2⟩
  have hz2 : ¬ (z : Int) > 500 := by omega
  have hz3 : z ≤ 500 := by omega
  go_wp2_with fail
  refine (HRI.out _ hB1).mono ?_
  rintro e w2 ⟨rfl, hb2⟩
  have hB2 := hB1.trans (hb2.mono hB1.size)
  have b12 := b11.below hb2 b11.lt
  clear hb2 b11 hB1 x0 x1 x2 x3 HRI
  obtain ⟨x0, x1, x2, x3, -, -, -, -⟩ := blk4 b12
  cases hr : rightFile n with
  | false =>
    go_wp2_with fail
    refine (HS.out _ hB2).mono ?_
    rintro e w3 ⟨rfl, hb3⟩
    have hB3 := hB2.trans (hb3.mono hB2.size)
    go_wp2_with fail
    refine (HAW.out _ hB3).mono ?_
    rintro e w4 ⟨rfl, hb4⟩
    go_wp2_with fail
    go_ret
    exact ⟨rfl, hB3.trans (hb4.mono hB3.size)⟩
  | true =>
    have HRT := Lib.hid hr
    clear hr HS
    go_wp2_with fail
    refine (HU.out _ hB2).mono ?_
    rintro e w3 ⟨A3, c3, rfl, hlc3, hr3, hb3⟩
    have hB3 := hB2.trans (hb3.mono hB2.size)
    have b13 := b12.below hb3 b12.lt
    have HR3 := Lib.hid hr3
    clear hb3 hr3 b12 HU x0 x1 x2 x3 hlc3 hB2
    obtain ⟨x0, x1, x2, x3, -, -, -, -⟩ := blk4 b13
    have HF0 := Lib.hid (foundAt_zero n)
    have HST := Lib.hid (fun i (hi : i < n.kids.length) G F (h : FoundAt n i G) hm => foundAt_succ (F := F) hi h hm)
    have HPA := Lib.hid (fun k (hk : k ∈ n.kids) y (hy : y ∈ usesT (partN n k)) => part_any HRT.out hk hy)
    have HGL := Lib.hid (fun i F (h : FoundAt n i F) => h.1)
    have HALL := Lib.hid (fun F (h : FoundAt n n.kids.length F) => found_all HRT.out h)
    generalize hl : usesT n = l at *
    clear hl
    have hmk := run_mkBools l.length (by omega)
    have hbF : Blk (w3.alloc (.cells (encB (List.replicate l.length false)) 4)) w3.heap.size 4 (encB (List.replicate l.length false)) := Blk.new w3 _ _
    have hb4 : Below w3.heap.size w3 (w3.alloc (.cells (encB (List.replicate l.length false)) 4)) := (Below.refl _ _).alloc (Nat.le_refl _) _
    go_wp2_with fail
    clear hmk x0 x1 x2 x3
    go_loopg [5] n.kids.length (fun gg u5 wr => ∃ (i : Nat) (F : List Bool), i ≤ n.kids.length ∧ n.kids.length - i ≤ gg ∧ u5 = .int .i64 (i : Int) ∧ FoundAt n i F ∧ Below w3.heap.size w3 wr ∧ Blk wr w3.heap.size 4 (encB F))
    case atStart => exact ⟨0, _, Nat.zero_le _, by omega, rfl, HF0.out, hb4, hbF⟩
    case round =>
      rename World => wr
      clear hbF hb4 HF0
      obtain ⟨i, G, hi, hg, rfl, hfa, hBr, hbF⟩ := hrel
      have HFA := Lib.hid hfa
      have HGN := Lib.hid (HGL.out i G hfa)
      clear hfa
      have bN := b13.below hBr b13.lt
      obtain ⟨x0, x1, x2, x3, -, -, -, -⟩ := blk4 bN
      by_cases hlt : i < n.kids.length
      · have hlt2 : (i : Int) < (n.kids.length : Int) := by omega
        have h0 : (0 : Int) ≤ (i : Int) := by omega
        have hBw := hB3.trans (hBr.mono hB3.size)
        obtain ⟨b, off, rfl, hcp, hpv⟩ := (HV0.out.below hBw).partV i hlt
        have hro := run_one b off n.kids.length cp i hlt hcp
        have q1 : IntKind.i64.wrap ((i : Int) + 1) = (i : Int) + 1 := IntWalk.i64_in _ (by omega)
        have hmem := List.getElem_mem hlt
        have HC := Lib.hid (fun W (hb : Below wr.heap.size wr W) => HUP.out _ hmem _ W (hBw.trans (hb.mono hBw.size)) (hpv.below hb))
        have HPI := Lib.hid (HPA.out _ hmem)
        have HSI := Lib.hid (fun F => HST.out i hlt G F HFA.out)
        have hsl : (usesT (partN n n.kids[i])).length ≤ 2000000000 := HSL.out _ hmem
        have hNlt : w.heap.size < wr.heap.size := bN.lt
        clear hmem hpv HFA
        generalize usesT (partN n n.kids[i]) = s at *
        go_wp2_with fail
        go_region_held3 (fun w' => w'.cell? ⟨w.heap.size, 1, none⟩ = some (.string n.text) ∧ w'.cell? ⟨w.heap.size, 2, none⟩ = some (.slice (some ⟨b, off, none⟩) n.kids.length cp))
          (first | (go_keep; done) | (refine ⟨?_, ?_⟩ <;> (rw [hb6.cell (by exact hNlt)]; first | exact x1 | exact x2)))
          ((go_at_call 11; refine (HC.out _ (Below.refl _ _).drew).mono ?_; rintro e w6 ⟨A6, c6, rfl, hlc6, hr6, hb6⟩))
        have hb6' : Below wr.heap.size wr w6 := (Below.refl _ wr).drew.trans hb6
        have hB6 := hBr.trans (hb6'.mono hBr.size)
        have bF6 := hbF.below hb6' hbF.lt
        have HR6 := Lib.hid hr6
        clear hr6 hb6 hb6' hbF HC hro q1 x0 x1 x2 x3 bN hlc6 hBr hBw
        go_wp2_with fail
        go_loopg [7] s.length (fun gg u7 wx => ∃ (k : Nat) (F : List Bool), k ≤ s.length ∧ s.length - k ≤ gg ∧ u7 = .int .i64 (k : Int) ∧ FoundMore l G F (s.take k) ∧ w6.grownBy wx (some w3.heap.size) ∧ Blk wx w3.heap.size 4 (encB F))
        case atStart => exact ⟨0, G, Nat.zero_le _, by omega, rfl, by rw [List.take_zero]; exact foundMore_zero l G, World.grownBy.refl _ _, bF6⟩
        case round =>
          rename World => wx
          obtain ⟨k, F, hk, hgk, rfl, hfm, hgx, hbF⟩ := hrel
          have HFM := Lib.hid hfm
          have HFN := Lib.hid (hfm.1.trans HGN.out)
          clear hfm
          by_cases hlt3 : k < s.length
          · have hlt4 : (k : Int) < (s.length : Int) := by omega
            have h1 : (0 : Int) ≤ (k : Int) := by omega
            obtain ⟨bk, ok, rfl, hbk, hc⟩ := HR6.out.el usC_len (by omega) rfl hlt3
            have c0 := hc k hlt3 0 _ rfl
            have c1 := hc k hlt3 1 _ rfl
            simp only [Nat.add_zero] at c0
            have hne : bk ≠ w3.heap.size := not_bools bF6 c0
            have HYI := Lib.hid (HPI.out _ (List.getElem_mem hlt3))
            have HFS := Lib.hid (fun H => foundMore_succ (l := l) (G := G) (F := F) (H := H) hlt3 HFM.out)
            clear hc HFM
            generalize s[k] = y at *
            obtain ⟨ym, ya⟩ := y
            simp only at c0 c1
            go_wp2_with fail
            go_loopg [8, 9] l.length (fun gg u8 u9 wy => ∃ (q : Nat) (H : List Bool), q ≤ l.length ∧ l.length - q ≤ gg ∧ u9 = .int .i64 (q : Int) ∧ u8 = .bool ((l.take q).any fun x => decide (x = (ym, ya))) ∧ FoundOne l F H (ym, ya) q ∧ w6.grownBy wy (some w3.heap.size) ∧ Blk wy w3.heap.size 4 (encB H))
            case atStart => exact ⟨0, F, Nat.zero_le _, by omega, rfl, rfl, foundOne_zero l F _, hgx, hbF⟩
            case round =>
              rename World => wy
              clear hgx hbF
              obtain ⟨q, H, hq, hgq, rfl, rfl, hfo, hgy, hbH⟩ := hrel
              have HFO := Lib.hid hfo
              by_cases hlt5 : q < l.length
              · have hlt6 : (q : Int) < (l.length : Int) := by omega
                have h2 : (0 : Int) ≤ (q : Int) := by omega
                have hBy : Below w3.heap.size w3 wy := hB6.trans (grownBy_below hgy (Nat.le_refl _) hB6.size)
                obtain ⟨bq, oq, rfl, hbq, hcq⟩ := (HR3.out.below hBy).el usC_len (by omega) rfl hlt5
                have d0 := hcq q hlt5 0 _ rfl
                have d1 := hcq q hlt5 1 _ rfl
                simp only [Nat.add_zero] at d0
                have e0 := hgy.cell c0 (by simpa using hne)
                have e1 := hgy.cell c1 (by simpa using hne)
                have HHN := Lib.hid (hfo.1.trans HFN.out)
                have hbc : wy.cell? ⟨w3.heap.size, q, none⟩ = some (.bool (H.getD q false)) := by
                  have hq' : q < H.length := by rw [HHN.out]; exact hlt5
                  rw [hbH.cell q, encB_get H q hq', List.getD_eq_getElem?_getD, List.getElem?_eq_getElem hq']
                  rfl
                have hbf := hbH.frozen q
                have HNO := Lib.hid (fun hn => foundOne_no hlt5 hfo hn)
                have HYE := Lib.hid (foundOne_yes hfo)
                have HAT := Lib.hid (any_take_succ (y := (ym, ya)) hlt5)
                clear hcq hfo HFO
                generalize l[q] = x at *
                obtain ⟨xm, xa⟩ := x
                simp only at d0 d1
                have HDE := Lib.hid (show decide ((xm, xa) = (ym, ya)) = ((xm == ym) && (xa == ya)) by rw [Bool.eq_iff_iff]; simp)
                generalize ((l.take q).any fun x => decide (x = (ym, ya))) = bq0 at *
                cases h3 : (xm == ym) <;> cases h4 : (xa == ya)
                case true.true =>
                  have HDY := Lib.hid (show decide ((xm, xa) = (ym, ya)) = true by rw [HDE.out, h3, h4]; rfl)
                  clear HDE HNO
                  go_wp2_with fail
                  go_quiet (fail)
                  go_wp2_with fail
                  go_roundg (l.length - (q + 1))
                  case measure => omega
                  case rel => exact ⟨q + 1, H.set q true, by omega, by omega, by go_num, by rw [HAT.out, HDY.out, Bool.or_true], HYE.out, (hgy.trans (grownBy_drewN _ _ _)).trans (grownBy_set _ _ _ _), by rw [← encB_set]; exact (hbH.drewN _).set_ q _⟩
                all_goals
                  have HDN := Lib.hid (show decide ((xm, xa) = (ym, ya)) = false by rw [HDE.out, h3, h4]; rfl)
                  have HNE := Lib.hid (HNO.out (of_decide_eq_false HDN.out))
                  clear HDE HYE HNO
                  go_wp2_with fail
                  go_quiet (fail)
                  go_wp2_with fail
                  go_roundg (l.length - (q + 1))
                  case measure => omega
                  case rel => exact ⟨q + 1, H, by omega, by omega, by go_num, by rw [HAT.out, HDN.out, Bool.or_false], HNE.out, hgy.trans (grownBy_drewN _ _ _), hbH.drewN _⟩
              · have hlt6 : ¬ (q : Int) < (l.length : Int) := by omega
                have hql : q = l.length := by omega
                subst hql
                rw [List.take_length, HYI.out]
                have HFX := Lib.hid (HFS.out H hfo)
                clear hfo HFO HFS
                go_wp2_with fail
                go_roundg (s.length - (k + 1))
                case measure => omega
                case rel => exact ⟨k + 1, H, by omega, by omega, by go_num, HFX.out, hgy, hbH⟩
          · have hlt4 : ¬ (k : Int) < (s.length : Int) := by omega
            have HFX := Lib.hid (HSI.out F (by have h := HFM.out; rw [List.take_of_length_le (by omega)] at h; exact h))
            clear HFM
            go_wp2_with fail
            go_roundg (n.kids.length - (i + 1))
            case measure => omega
            case rel => exact ⟨i + 1, F, by omega, by omega, by go_num, HFX.out, hB6.trans (grownBy_below hgx (Nat.le_refl _) hB6.size), hbF⟩
      · have hlt2 : ¬ (i : Int) < (n.kids.length : Int) := by omega
        have hil : i = n.kids.length := by omega
        subst hil
        have HX := Lib.hid (HALL.out G HFA.out)
        clear HFA
        go_wp2_with fail
        go_loopg [10] l.length (fun gg u10 wx => ∃ (j : Nat), j ≤ l.length ∧ l.length - j ≤ gg ∧ u10 = .int .i64 (j : Int) ∧ Below wr.heap.size wr wx)
        case atStart => exact ⟨0, Nat.zero_le _, by omega, rfl, Below.refl _ _⟩
        case round =>
          rename World => wx
          obtain ⟨j, hj, hgj, rfl, hBx⟩ := hrel
          by_cases hlt5 : j < l.length
          · have hlt6 : (j : Int) < (l.length : Int) := by omega
            have h2 : (0 : Int) ≤ (j : Int) := by omega
            have hbc : wx.cell? ⟨w3.heap.size, j, none⟩ = some (.bool true) := by
              have hq' : j < G.length := by rw [HGN.out]; exact hlt5
              rw [(hbF.below hBx hbF.lt).cell j, encB_get G j hq', HX.out j hq']
            go_wp2_with fail
            go_roundg (l.length - (j + 1))
            case measure => omega
            case rel => exact ⟨j + 1, by omega, by omega, by go_num, hBx⟩
          · have hlt6 : ¬ (j : Int) < (l.length : Int) := by omega
            have hBz := (hB3.trans (hBr.mono hB3.size)).trans (hBx.mono (Nat.le_trans hB3.size hBr.size))
            go_wp2_with fail
            refine (HAW.out _ hBz).mono ?_
            rintro e w9 ⟨rfl, hb9⟩
            go_wp2_with fail
            go_ret
            exact ⟨rfl, hBz.trans (hb9.mono hBz.size)⟩
end Go.Proofs.YtnalfjaojcahhaaGreatDoor
