/-
  slices.SortFunc and slices.CompactFunc at uses; gate.Uses. By an AI agent.
  gate.First. By an AI agent.
  demoticref06.Size: how many nodes, to a depth. By an AI agent.
  demoticlaw13.GateBounds, as a walk: awake is asked for. By an AI agent.
  demoticlaw13.GateMore, as a walk: awake is asked for. By an AI agent.
  The law's example: awake tells true. By an AI agent.
-/
import Derived.Test.YtnalfjaojcahhaaGreatDoorJ20
import Derived.Test.YtnalfjaojcahhaaGreatDoorJ21
import Derived.Test.YtnalfjaojcahhaaGreatDoorJ19
import Derived.Test.YtnalfjaojcahhaaGreatDoorJ06
import Derived.Shelf.SlSortCmp.NoneTotal
import Derived.BigQuiet
namespace Go.Proofs.YtnalfjaojcahhaaGreatDoor
open Go.RowKit Go.Sort Go.Lib Go.Proofs
attribute [local go_sem ↓] Go.wp_at_zero Go.wp_at_succ

theorem cmpLays16 (blk off size : Nat) (w : World) : CmpLays Tryz.prog 26 #[] usC 2 cmpU blk off size w := fun _ _ _ _ x y => closure1 x y _

theorem sortFunc_any (g off cap : Nat) (d : Array Use1) (w : World) (hH : HoldsK usC 2 w g off d) (hblk : g < w.heap.size) (hsz : d.size ≤ 2000000) :
    Calls Tryz.prog 25 #[.slice (some ⟨g, off, none⟩) d.size cap, .func (.func 26) #[] #[]] w fun e w' => e = .returned (.tuple #[]) ∧ SWK usC 2 w g off (srt d.toList).toArray w' := by
  have eg : ∀ args w, (callFunc 26 args).run Tryz.prog w = .ok (.enter 26 args) w := enters_of Tryz.func26 (by kernel_rfl) rfl
  have hcon := AnyQ.slices_SortFunc_total Tryz.sortF 2 Tryz.isAgg32 Tryz.sizeOf32 usC usC_len usC_all cmpU swoU 26 #[] g off cap d w eg (cmpLays16 g off d.size w) hH hblk (by omega) totU
  change Calls Tryz.prog 25 _ _ _ at hcon
  exact hcon.mono fun e w' ⟨he, n, os, hw⟩ => ⟨he, n, os, hw⟩

theorem sortFunc_none (p : Option Addr) (cap : Nat) (w : World) :
    Calls Tryz.prog 25 #[.slice p 0 cap, .func (.func 26) #[] #[]] w fun e w' => e = .returned (.tuple #[]) ∧ w = w' := by
  have hcon := AnyF.slices_SortFunc_none Tryz.sortF p cap (.func (.func 26) #[] #[]) w
  change Calls Tryz.prog 25 _ _ _ at hcon
  exact hcon.mono fun e w' ⟨he, hw⟩ => ⟨he, hw.symm⟩

theorem compact_none (p : Option Addr) (cap : Nat) (w : World) :
    Calls Tryz.prog 29 #[.slice p 0 cap, .func (.func 30) #[] #[]] w fun e w' => e = .returned (.slice p 0 cap) ∧ w = w' := by
  go_enter Tryz.func29, Tryz.ntmps29
  go_wp2
  go_ret
  exact ⟨rfl, rfl⟩

/-- What is handed back: a slice that reads as a list. -/
def SliceU (w : World) (l : Us) (e : Ending) (w' : World) : Prop :=
  ∃ A c, e = .returned (.slice A l.length c) ∧ l.length ≤ c ∧ Reads w' w'.heap.size 2 A l.length (usesC l) ∧ Below w.heap.size w w'
/-- What a file needs, in order, each once. -/
def usesT (n : Nd) : Us := if rightFile n = true then sd (hereT 100 n) else []

set_option maxHeartbeats 2000000 in
theorem uses_any (v : Value) (n : Nd) (w : World) (hT : Tab w) (hv : NodeW w v n) (hw : Wee 101 n) (hc : (lefts 100 n).length ≤ 1000000000) :
    Calls Tryz.prog 11 #[v] w fun e w' => SliceU w (usesT n) e w' := by
  have HV0 := Lib.hid hv
  obtain ⟨A, cp, rfl, hC⟩ := hv.toC
  have hB := (Below.refl w.heap.size w).alloc (Nat.le_refl _) (.cells #[.int .i64 n.kind, .string n.text, .slice A n.kids.length cp, .int .i64 n.pos] 24)
  have b1 : Blk (w.alloc (.cells #[.int .i64 n.kind, .string n.text, .slice A n.kids.length cp, .int .i64 n.pos] 24)) w.heap.size 24 #[.int .i64 n.kind, .string n.text, .slice A n.kids.length cp, .int .i64 n.pos] := Blk.new w _ _
  have HR := Lib.hid (right_any _ n _ (hT.below hB) (HV0.out.below hB) hw hc)
  have HW := Lib.hid hw
  have HV := Lib.hid (HV0.out.below hB)
  clear hv hC HV0 hT hw hc
  go_enter Tryz.func11, Tryz.ntmps11
  go_wp2_with fail
  refine HR.out.mono ?_
  rintro e w1 ⟨rfl, hb1⟩
  have hB1 := hB.trans (hb1.mono hB.size)
  cases hr : rightFile n with
  | false =>
    have HU := Lib.hid (show usesT n = [] by unfold usesT; rw [if_neg (by rw [hr]; decide)])
    clear HR hr
    go_wp2_with fail
    go_ret
    rw [HU.out]
    exact ⟨none, 0, rfl, Nat.le_refl _, ⟨rfl, fun h => absurd h (Nat.lt_irrefl 0)⟩, hB1⟩
  | true =>
    have HU := Lib.hid (show usesT n = sd (hereT 100 n) by unfold usesT; rw [if_pos hr])
    obtain ⟨x0, x1, x2, x3, -, -, -, -⟩ := blk4 (b1.below hb1 (by simp))
    have hd : DLe 100 n := dle_of_depth (Wee.pred HW.out) (by
      unfold rightFile at hr
      simp only [Bool.and_eq_true, decide_eq_true_eq] at hr
      exact hr.1)
    have hs : (lefts 100 n).length ≤ 65536 := by
      unfold rightFile sizeT at hr
      simp only [Bool.and_eq_true, decide_eq_true_eq] at hr
      exact hr.2.1
    have HH := Lib.hid (here_any 100 _ n w1 (HV.out.below hb1) hd ((need_right n hr).need 100 n) (by omega))
    have hl2 := hereT_le 100 n
    have hlen : (hereT 100 n).length ≤ 200000 := by omega
    clear HR hr hl2 hd hs hb1 b1
    generalize hereT 100 n = xs at *
    go_wp2_with fail
    refine HH.out.mono ?_
    rintro e w2 ⟨⟨v2, rfl, hown⟩, hb2⟩
    have hB2 := hB1.trans (hb2.mono hB1.size)
    have hle := hB2.size
    clear HH x0 x1 x2 x3
    rcases Nat.eq_zero_or_pos xs.length with h0 | hpos
    · obtain rfl : xs = [] := List.eq_nil_of_length_eq_zero h0
      have hv : ∃ p cap, v2 = .slice p 0 cap := by
        obtain ⟨p, c, e, _⟩ := hown.form
        exact ⟨p, c, e⟩
      obtain ⟨p, cap, rfl⟩ := hv
      clear h0 hown hlen
      go_wp2_with fail
      refine (sortFunc_none _ _ _).mono ?_
      rintro e w3 ⟨rfl, rfl⟩
      go_wp2_with fail
      refine (compact_none _ _ _).mono ?_
      rintro e w3 ⟨rfl, rfl⟩
      go_wp2_with fail
      go_ret
      have e0 : sd [] = [] := by kernel_rfl
      rw [HU.out, e0]
      exact ⟨p, cap, rfl, Nat.zero_le _, ⟨rfl, fun h => absurd h (Nat.lt_irrefl 0)⟩, hB2⟩
    · obtain ⟨g, cap, rfl, hg, hlt⟩ := World.ownsRow.form hown hpos
      have hH := holdsK_of_own usC_len rfl hown
      have hcap : xs.length ≤ cap := by
        obtain ⟨_, _, e, h⟩ := hown.form
        injection e with _ _ e
        omega
      have HH := Lib.hid hH
      clear hown hH
      go_wp2_with fail
      have hs := sortFunc_any g 0 cap xs.toArray w2 HH.out hlt (by simp; omega)
      rw [show xs.toArray.size = xs.length by simp] at hs
      refine hs.mono ?_
      clear hs
      rintro e w3 ⟨rfl, hS⟩
      have hg2 : w.heap.size ≤ g := Nat.le_trans hB1.size hg
      have hb3 := SWK.below hS hg2 hle
      have hlt3 := hS.lt hlt
      have hH3 : HoldsK usC 2 w3 g 0 (srt xs).toArray := hS.holds hlt HH.out (by simp [srt_len])
      have HH3 := Lib.hid hH3
      clear hS hH3
      go_wp2_with fail
      have hc := compact_any g 0 cap (srt xs).toArray w3 HH3.out hlt3 (by simp [srt_len]; omega) (by simp [srt_len]; omega)
      rw [show (srt xs).toArray.size = xs.length by simp [srt_len]] at hc
      refine hc.mono ?_
      clear hc
      rintro e w4 hC
      obtain ⟨he, d', hs', hd', hS4⟩ := hC
      subst he
      have hb4 := SWK.below hS4 hg2 (Nat.le_trans hle hb3.size)
      have hr := reads_of_holds usC_len (hS4.holds hlt3 HH3.out hs') (m := (sd xs).length) rfl (fun j hj => hd' j (by simpa [sd] using hj)) (by rw [hs']; have := sd_len xs; simp [srt_len]; omega) (hS4.lt hlt3)
      have HR3 := Lib.hid hr
      have hsl := sd_len xs
      clear hr hd' hS4
      go_wp2_with fail
      go_ret
      rw [HU.out]
      exact ⟨some ⟨g, 0, none⟩, cap, by simp [sd], by omega, HR3.out, (hB2.trans hb3).trans hb4⟩
end Go.Proofs.YtnalfjaojcahhaaGreatDoor
namespace Go.Proofs.YtnalfjaojcahhaaGreatDoor
open Go.RowKit Go.Lib Go.Proofs
attribute [local go_sem ↓] Go.wp_at_zero Go.wp_at_succ

/-- The first use that needs more than a minor. -/
def idxU (m : Int) : Us → Nat → Int
  | [], _ => -1
  | u :: l, i => if m < u.1 then (i : Int) else idxU m l (i + 1)
theorem idxU_drop (m : Int) (l : Us) (i : Nat) (hi : i < l.length) : idxU m (l.drop i) i = if m < l[i].1 then (i : Int) else idxU m (l.drop (i + 1)) (i + 1) := by
  rw [List.drop_eq_getElem_cons hi, idxU]
theorem idxU_cases (m : Int) : ∀ (l : Us) (i : Nat), (idxU m l i = -1 ∧ l.find? (fun u => decide (m < u.1)) = none) ∨ ∃ (j : Nat) (h : j < l.length), idxU m l i = ((i + j : Nat) : Int) ∧ l.find? (fun u => decide (m < u.1)) = some l[j]
  | [], i => .inl ⟨rfl, rfl⟩
  | u :: l, i => by
    rw [idxU, List.find?_cons]
    by_cases h : m < u.1
    · exact .inr ⟨0, by simp, by rw [if_pos h]; rfl, by simp [h]⟩
    · rw [if_neg h]
      simp only [h, decide_false]
      rcases idxU_cases m l (i + 1) with ⟨e1, e2⟩ | ⟨j, hj, e1, e2⟩
      · exact .inl ⟨e1, e2⟩
      · exact .inr ⟨j + 1, by simpa using hj, by rw [e1]; congr 1; omega, by rw [e2]; rfl⟩

theorem blk2 {w : World} {g : Nat} {t : TypeId} {a b : Value} (h : Blk w g t #[a, b]) : w.cell? ⟨g, 0, none⟩ = some a ∧ w.cell? ⟨g, 1, none⟩ = some b ∧ w.frozen? ⟨g, 0, none⟩ = false ∧ w.frozen? ⟨g, 1, none⟩ = false := by
  have c0 := h.cell 0
  have c1 := h.cell 1
  simp at c0 c1
  exact ⟨c0, c1, h.frozen 0, h.frozen 1⟩

theorem ent_more (a : Array Value) (w : World) : (callFunc 32 a).run Tryz.prog w = .ok (.enter 32 a) w := by kernel_rfl
theorem more_any (x y m : Int) (b : Nat) (w : World) (hb : Blk w b 3 #[.int .i64 m]) :
    Calls Tryz.prog 32 #[.agg #[.int .i64 x, .int .i64 y], .pointer (some ⟨b, 0, none⟩)] w fun e w' => e = .returned (.bool (decide (m < x))) ∧ Below w.heap.size w w' := by
  have hB := (Below.refl w.heap.size w).alloc (Nat.le_refl _) (.cells #[.int .i64 x, .int .i64 y] 32)
  have b0 := blk1 (hb.alloc (.cells #[.int .i64 x, .int .i64 y] 32))
  have hlt := hb.lt
  have hne : b ≠ w.heap.size := by omega
  have c0 := blk1 hb
  clear hb
  go_enter Tryz.func32, Tryz.ntmps32
  go_wp2_with fail
  go_ret
  exact ⟨rfl, hB⟩

set_option maxHeartbeats 1000000 in
theorem indexU_any (m : Int) (b : Nat) (A : Option Addr) (c : Nat) (l : Us) (w : World) (hr : Reads w w.heap.size 2 A l.length (usesC l)) (hb : Blk w b 3 #[.int .i64 m]) (hl : l.length ≤ 1000000000) :
    Calls Tryz.prog 31 #[.slice A l.length c, .func (.func 32) #[] #[.pointer (some ⟨b, 0, none⟩)]] w fun e w' => e = .returned (.int .i64 (idxU m l 0)) ∧ Below w.heap.size w w' := by
  have he := ent_more
  have HR := Lib.hid hr
  have HBK := Lib.hid hb
  generalize hI : idxU m l 0 = I
  have HI := Lib.hid hI
  clear hr hb hI
  go_enter Tryz.func31, Tryz.ntmps31
  go_wp2_with fail
  go_loopg [5, 8] l.length (fun g _ u8 wr => ∃ i : Nat, i ≤ l.length ∧ l.length - i ≤ g ∧ u8 = .int .i64 (i : Int) ∧ idxU m (l.drop i) i = I ∧ Below w.heap.size w wr)
  case atStart => exact ⟨0, Nat.zero_le _, by omega, rfl, by simpa using HI.out, Below.refl _ _⟩
  case round =>
    obtain ⟨i, hi, hg, rfl, hI, hB⟩ := hrel
    have HI := Lib.hid hI
    clear hI
    by_cases hlt : i < l.length
    · have hlt2 : (i : Int) < (l.length : Int) := by omega
      have h0 : (0 : Int) ≤ (i : Int) := by omega
      obtain ⟨bk, off, rfl, hbk, hc⟩ := (HR.out.below hB).el usC_len (by omega) rfl hlt
      have k0 := hc i hlt 0 _ rfl
      have k1 := hc i hlt 1 _ rfl
      simp only [Nat.add_zero] at k0
      have HC := Lib.hid (more_any l[i].1 l[i].2 m b wr (HBK.out.below hB HBK.out.lt))
      have HE := Lib.hid (idxU_drop m l i hlt)
      generalize l[i] = x at *
      obtain ⟨xm, xa⟩ := x
      clear hc
      by_cases hP : m < xm
      · have HX := Lib.hid (show I = (i : Int) by rw [← HI.out, HE.out, if_pos hP])
        go_wp2_with fail
        refine HC.out.mono ?_
        rw [decide_eq_true hP]
        rintro e w1 ⟨rfl, hb1⟩
        have hB1 := hB.trans (hb1.mono hB.size)
        clear hb1 HC
        go_wp2_with fail
        go_ret
        exact ⟨by rw [HX.out]; rfl, hB1⟩
      · have HX := Lib.hid (show idxU m (l.drop (i + 1)) (i + 1) = I by rw [← HI.out, HE.out, if_neg hP])
        have HPP := Lib.hid hP
        go_wp2_with fail
        refine HC.out.mono ?_
        rw [show decide (m < xm) = false by have := HPP.out; rw [decide_eq_false_iff_not]; omega]
        rintro e w1 ⟨rfl, hb1⟩
        have hB1 := hB.trans (hb1.mono hB.size)
        clear hb1 HC
        go_wp2_with fail
        go_roundg (l.length - (i + 1))
        case measure => omega
        case rel => exact ⟨i + 1, by omega, Nat.le_refl _, by go_num, HX.out, hB1⟩
    · have hlt2 : ¬ (i : Int) < (l.length : Int) := by omega
      have hnil : l.drop i = [] := List.drop_of_length_le (by omega)
      have HX := Lib.hid (show I = -1 by rw [← HI.out, hnil]; rfl)
      clear hnil
      go_wp2_with fail
      go_ret
      exact ⟨by rw [HX.out]; rfl, hB⟩

theorem results_use {fn : Func} {q r : Tmp} (hfn : fn.results = #[.cell q 32, .tmp r]) (tmps : Array Value) {w : World} {g : Nat} {a b v : Value} (ht : tmps.getD q undef = .pointer (some ⟨g, 0, none⟩)) (hv : tmps.getD r undef = v) (hb : Blk w g 32 #[a, b]) :
    (results fn tmps).run Tryz.prog w = .ok (.tuple #[.agg #[a, b], v]) w := by
  obtain ⟨d0, d1, _, _⟩ := blk2 hb
  unfold results
  rw [hfn]
  have ht' : tmps[q]?.getD undef = .pointer (some ⟨g, 0, none⟩) := by simpa using ht
  have hv' : tmps[r]?.getD undef = v := by simpa using hv
  simp [ht', hv', go_sem, d0, d1]

/-- What First answers. -/
def firstV (o : Option (Int × Int)) : Value :=
  match o with
  | some u => .tuple #[.agg #[.int .i64 u.1, .int .i64 u.2], .bool true]
  | none => .tuple #[.agg #[.int .i64 0, .int .i64 0], .bool false]
def firstT (m : Int) (n : Nd) : Option (Int × Int) := (usesT n).find? fun u => decide (m < u.1)
theorem usesT_le (n : Nd) (hc : (lefts 100 n).length ≤ 1000000000) : (usesT n).length ≤ 2000000000 := by
  unfold usesT
  split
  · have := sd_len (hereT 100 n)
    have := hereT_le 100 n
    omega
  · simp

set_option maxRecDepth 100000 in
set_option maxHeartbeats 2000000 in
theorem first_any (v : Value) (n : Nd) (m : Int) (w : World) (hT : Tab w) (hv : NodeW w v n) (hw : Wee 101 n) (hc : (lefts 100 n).length ≤ 400000000) :
    Calls Tryz.prog 13 #[v, .int .i64 m] w fun e w' => e = .returned (firstV (firstT m n)) ∧ Below w.heap.size w w' := by
  have HV0 := Lib.hid hv
  obtain ⟨A, cp, rfl, hC⟩ := hv.toC
  have hB := ((((Below.refl w.heap.size w).alloc (Nat.le_refl _) (.cells #[.int .i64 n.kind, .string n.text, .slice A n.kids.length cp, .int .i64 n.pos] 24)).alloc (by simp) (.cells #[.int .i64 m] 3))).alloc (by simp; omega) (.cells #[.int .i64 0, .int .i64 0] 32)
  have b3 : Blk ((((w.alloc (.cells #[.int .i64 n.kind, .string n.text, .slice A n.kids.length cp, .int .i64 n.pos] 24)).alloc (.cells #[.int .i64 m] 3))).alloc (.cells #[.int .i64 0, .int .i64 0] 32)) (w.heap.size + 1) 3 #[.int .i64 m] :=
    (Blk.new_at (by simp) _ _).alloc _
  have b4 : Blk ((((w.alloc (.cells #[.int .i64 n.kind, .string n.text, .slice A n.kids.length cp, .int .i64 n.pos] 24)).alloc (.cells #[.int .i64 m] 3))).alloc (.cells #[.int .i64 0, .int .i64 0] 32)) (w.heap.size + 2) 32 #[.int .i64 0, .int .i64 0] :=
    Blk.new_at (by simp) _ _
  have HU := Lib.hid (uses_any _ n _ (hT.below hB) (HV0.out.below hB) hw (by omega))
  have HL := Lib.hid (usesT_le n (by omega))
  have HS := Lib.hid (show ((((w.alloc (.cells #[.int .i64 n.kind, .string n.text, .slice A n.kids.length cp, .int .i64 n.pos] 24)).alloc (.cells #[.int .i64 m] 3))).alloc (.cells #[.int .i64 0, .int .i64 0] 32)).heap.size = w.heap.size + 3 by simp)
  have HC := Lib.hid (idxU_cases m (usesT n) 0)
  have HF := Lib.hid (show firstT m n = (usesT n).find? (fun u => decide (m < u.1)) from rfl)
  have hl : (usesT n).length ≤ 800000000 := by
    have := hereT_le 100 n
    unfold usesT
    split
    · have := sd_len (hereT 100 n); omega
    · simp
  clear hv hC HV0 hT hw hc
  generalize usesT n = l at *
  generalize firstT m n = o at *
  go_enter Tryz.func13, Tryz.ntmps13
  go_wp2_with fail
  refine HU.out.mono ?_
  rintro e w1 ⟨A1, c1, rfl, hlc, hr1, hb1⟩
  have b31 := b3.below hb1 b3.lt
  have b41 := b4.below hb1 b4.lt
  have hB1 := hB.trans (hb1.mono hB.size)
  have hs1 := hb1.size
  rw [HS.out] at hs1
  have HR1 := Lib.hid hr1
  clear hb1 hr1 b3 b4 HU
  go_wp2_with fail
  refine (indexU_any m (w.heap.size + 1) A1 c1 l w1 HR1.out b31 (by omega)).mono ?_
  rintro e w2 ⟨rfl, hb2⟩
  have b42 := b41.below hb2 b41.lt
  have hB2 := hB1.trans (hb2.mono hB1.size)
  have HR2 := Lib.hid (HR1.out.below hb2)
  have hs2 := hb2.size
  clear hb2 HR1 b31 b41
  obtain ⟨d0, d1, f0, f1⟩ := blk2 b42
  rcases HC.out with ⟨e1, e2⟩ | ⟨j, hj, e1, e2⟩
  · rw [e1]
    have HO := Lib.hid (show o = none by rw [HF.out]; exact e2)
    clear e1 e2
    go_wp2_with fail
    refine bodyPost_ret (results_use rfl _ (g := w.heap.size + 2) (by rfl) (by rfl) (a := .int .i64 0) (b := .int .i64 0) (by simpa using (b42.set_ 0 (.int .i64 0)).set_ 1 (.int .i64 0))) rfl ?_
    rw [HO.out]
    exact ⟨rfl, (hB2.setCell (by simp; omega) _).setCell (by simp; omega) _⟩
  · rw [e1, Nat.zero_add]
    have HO := Lib.hid (show o = some l[j] by rw [HF.out]; exact e2)
    have hj2 : (j : Int) < (l.length : Int) := by omega
    have hj0 : (0 : Int) ≤ (j : Int) := by omega
    have hjn : ¬ (j : Int) < 0 := by omega
    obtain ⟨bk, off, rfl, hbk, hc⟩ := HR2.out.el usC_len (by omega) rfl hj
    have k0 := hc j hj 0 _ rfl
    have k1 := hc j hj 1 _ rfl
    simp only [Nat.add_zero] at k0
    clear e1 e2 hc
    generalize l[j] = x at *
    obtain ⟨xm, xa⟩ := x
    go_wp2_with fail
    refine bodyPost_ret (results_use rfl _ (g := w.heap.size + 2) (by rfl) (by rfl) (a := .int .i64 xm) (b := .int .i64 xa) (by simpa using (b42.set_ 0 (.int .i64 xm)).set_ 1 (.int .i64 xa))) rfl ?_
    rw [HO.out]
    exact ⟨rfl, (hB2.setCell (by simp; omega) _).setCell (by simp; omega) _⟩
end Go.Proofs.YtnalfjaojcahhaaGreatDoor
namespace Go.Proofs.YtnalfjaojcahhaaGreatDoor
open Go.RowKit Go.Lib Go.Proofs
attribute [local go_sem ↓] Go.wp_at_zero Go.wp_at_succ

set_option maxRecDepth 100000 in
set_option maxHeartbeats 2000000 in
theorem rsize_any : ∀ (d : Nat) (v : Value) (n : Nd) (w : World), d ≤ 1000 → NodeW w v n → Wee d n → (lefts d n).length ≤ 1000000000 →
    Calls Tryz.prog 8 #[v, .int .i64 (d : Int)] w fun e w' => e = .returned (.int .i64 ((lefts d n).length : Int)) ∧ Below w.heap.size w w' := by
  intro d
  induction d with
  | zero =>
    intro v n w _ hv _ _
    obtain ⟨A, cp, rfl, hC⟩ := hv.toC
    clear hv hC
    have hB := (Below.refl w.heap.size w).alloc (Nat.le_refl _) (.cells #[.int .i64 n.kind, .string n.text, .slice A n.kids.length cp, .int .i64 n.pos] 24)
    go_enter Tryz.func8, Tryz.ntmps8
    go_wp2_with fail
    go_ret
    exact ⟨rfl, hB⟩
  | succ d ih =>
    intro v n w hd hv hw hN
    have HV := Lib.hid hv
    have HW := Lib.hid hw
    have HI := Lib.hid ih
    have HN := Lib.hid hN
    have hlk := hw.1.1
    obtain ⟨A, cp, rfl, hC⟩ := hv.toC
    clear hv hC hw ih hN
    have hB := (Below.refl w.heap.size w).alloc (Nat.le_refl _) (.cells #[.int .i64 n.kind, .string n.text, .slice A n.kids.length cp, .int .i64 n.pos] 24)
    have b1 : Blk (w.alloc (.cells #[.int .i64 n.kind, .string n.text, .slice A n.kids.length cp, .int .i64 n.pos] 24)) w.heap.size 24 #[.int .i64 n.kind, .string n.text, .slice A n.kids.length cp, .int .i64 n.pos] := Blk.new w _ _
    have hz : ((d : Int) + 1 == 0) = false := by simp; omega
    have hT := Lib.hid (show (lefts (d + 1) n).length = 1 + (n.kids.flatMap (lefts d)).length by rw [lefts, List.length_cons, Nat.add_comm])
    go_enter Tryz.func8, Tryz.ntmps8
    go_wp2_with fail
    go_loopg [5, 6] n.kids.length (fun g1 u5 u6 wr => ∃ i : Nat, i ≤ n.kids.length ∧ n.kids.length - i ≤ g1 ∧ u6 = .int .i64 (i : Int) ∧ u5 = .int .i64 ((1 + ((n.kids.take i).flatMap (lefts d)).length : Nat) : Int) ∧ Below w.heap.size w wr ∧ Blk wr w.heap.size 24 #[.int .i64 n.kind, .string n.text, .slice A n.kids.length cp, .int .i64 n.pos])
    case atStart => exact ⟨0, Nat.zero_le _, by omega, rfl, by simp, hB, b1⟩
    case round =>
      clear b1 hB
      obtain ⟨i, hi, hg, rfl, rfl, hB, b1⟩ := hrel
      obtain ⟨x0, x1, x2, x3, -, -, -, -⟩ := blk4 b1
      by_cases hlt : i < n.kids.length
      · have hlt2 : (i : Int) < (n.kids.length : Int) := by omega
        have h0 : (0 : Int) ≤ (i : Int) := by omega
        obtain ⟨b, off, A1, cp1, rfl, -, hbl, k0, k1, k2, k3, hkn⟩ := (HV.out.below hB).kidsV.kid i hlt
        have hmem := List.getElem_mem hlt
        have HM := Lib.hid (HW.out.2 _ hmem)
        have HTK := Lib.hid (show ((n.kids.take (i + 1)).flatMap (lefts d)).length = ((n.kids.take i).flatMap (lefts d)).length + (lefts d n.kids[i]).length by rw [List.take_succ_eq_append_getElem hlt, List.flatMap_append, List.length_append]; simp)
        have hle : ((n.kids.take i).flatMap (lefts d)).length + (lefts d n.kids[i]).length ≤ (n.kids.flatMap (lefts d)).length := by
          conv => rhs; rw [← List.take_append_drop (i + 1) n.kids, List.flatMap_append, List.take_succ_eq_append_getElem hlt, List.flatMap_append]
          simp
        clear hmem
        generalize n.kids[i] = x at *
        generalize ((n.kids.take i).flatMap (lefts d)).length = m at *
        have hNN := HN.out
        rw [hT.out] at hNN
        have HC := Lib.hid (HI.out _ x wr (by omega) hkn HM.out (by omega))
        have hle2 : m + (lefts d x).length ≤ 1000000000 := by omega
        generalize (lefts d x).length = p at *
        clear hkn hle hNN HM
        go_wp2_with fail
        refine HC.out.mono ?_
        rintro e w2 ⟨rfl, hb2⟩
        have hB2 := hB.trans (hb2.mono hB.size)
        have b2 := b1.below hb2 b1.lt
        clear hb2 b1 HC k0 k1 k2 k3 x0 x1 x2 x3
        go_wp2_with fail
        go_roundg (n.kids.length - (i + 1))
        case measure => omega
        case rel => exact ⟨i + 1, by omega, by omega, by go_num, by rw [HTK.out]; congr 1; go_num, hB2, b2⟩
      · have hlt2 : ¬ (i : Int) < (n.kids.length : Int) := by omega
        have ht : n.kids.take i = n.kids := List.take_of_length_le (by omega)
        have HE := Lib.hid (show 1 + ((n.kids.take i).flatMap (lefts d)).length = (lefts (d + 1) n).length by rw [ht, hT.out])
        clear ht hT
        generalize 1 + ((n.kids.take i).flatMap (lefts d)).length = q at *
        go_wp2_with fail
        go_ret
        exact ⟨by rw [HE.out]; rfl, hB⟩
end Go.Proofs.YtnalfjaojcahhaaGreatDoor
namespace Go.Proofs.YtnalfjaojcahhaaGreatDoor
open Go.RowKit Go.Lib Go.Proofs
attribute [local go_sem ↓] Go.wp_at_zero Go.wp_at_succ

/-- The law's own example holds, wherever it is asked. -/
def AwakeC (w0 : World) : Prop := ∀ w, Below w0.heap.size w0 w → Calls Tryz.prog 10 #[] w fun e w' => e = .returned (.bool true) ∧ Below w.heap.size w w'
theorem Wee.le : ∀ {g h : Nat} {n : Nd}, Wee g n → h ≤ g → Wee h n
  | g, 0, _, _, _ => trivial
  | 0, h + 1, _, _, hl => absurd hl (by omega)
  | g + 1, h + 1, _, hw, hl => ⟨hw.1, fun k hk => Wee.le (hw.2 k hk) (by omega)⟩
theorem flatMap_len_le {α β : Type} (f h : α → List β) (l : List α) (hl : ∀ x ∈ l, (f x).length ≤ (h x).length) : (l.flatMap f).length ≤ (l.flatMap h).length := by
  induction l with
  | nil => simp
  | cons x l ih =>
    rw [List.flatMap_cons, List.flatMap_cons, List.length_append, List.length_append]
    have h1 := hl x List.mem_cons_self
    have h2 := ih fun y hy => hl y (List.mem_cons_of_mem _ hy)
    omega
theorem lefts_le : ∀ {g h : Nat} (n : Nd), g ≤ h → (lefts g n).length ≤ (lefts h n).length
  | 0, _, _, _ => by simp [lefts]
  | g + 1, 0, _, hl => absurd hl (by omega)
  | g + 1, h + 1, n, hl => by
    rw [lefts, lefts, List.length_cons, List.length_cons]
    have := flatMap_len_le (lefts g) (lefts h) n.kids fun k _ => lefts_le k (by omega)
    omega

theorem hereN_mem (n : Nd) : ∀ u ∈ hereN n, u.1 = 18 ∨ u.1 = 24 := by
  intro u hu
  have hhead : u ∈ headU n → u.1 = 18 ∨ u.1 = 24 := by
    intro h
    unfold headU at h
    split at h
    · simp at h
    · rcases List.mem_cons.1 h with rfl | h
      · exact .inl rfl
      · split at h
        · obtain rfl := List.mem_singleton.1 h; exact .inr rfl
        · simp at h
  have h18 : ∀ (p : Prop) [Decidable p] (a : Int), u ∈ (if p then [((18 : Int), a)] else []) → u.1 = 18 ∨ u.1 = 24 := by
    intro p _ a h
    split at h
    · obtain rfl := List.mem_singleton.1 h; exact .inl rfl
    · simp at h
  unfold hereN at hu
  split at hu
  · rcases List.mem_append.1 hu with h | h
    · exact hhead h
    · exact h18 _ _ h
  · split at hu
    · exact h18 _ _ hu
    · split at hu
      · exact h18 _ _ hu
      · simp at hu
theorem hereT_mem : ∀ (g : Nat) (n : Nd), ∀ u ∈ hereT g n, u.1 = 18 ∨ u.1 = 24
  | 0, _, u, h => by simp [hereT] at h
  | g + 1, n, u, h => by
    rw [hereT] at h
    rcases List.mem_append.1 h with h | h
    · exact hereN_mem n u h
    · obtain ⟨k, _, h⟩ := List.mem_flatMap.1 h
      exact hereT_mem g k u h
theorem usesT_mem (n : Nd) : ∀ u ∈ usesT n, u.1 = 18 ∨ u.1 = 24 := by
  intro u hu
  unfold usesT at hu
  split at hu
  · exact hereT_mem 100 n u (mem_sd.1 hu)
  · simp at hu
theorem usesT_pair (n : Nd) : (usesT n).Pairwise ltU := by
  unfold usesT
  split
  · exact sd_pair _
  · exact List.Pairwise.nil
theorem first_24 (n : Nd) : firstT 24 n = none := by
  unfold firstT
  rw [List.find?_eq_none]
  intro u hu
  have := usesT_mem n u hu
  simp
  omega
theorem first_neg (n : Nd) : (usesT n = [] ∧ firstT (-1) n = none) ∨ ∃ u, 0 < (usesT n).length ∧ firstT (-1) n = some u := by
  unfold firstT
  cases hu : usesT n with
  | nil => exact .inl ⟨rfl, rfl⟩
  | cons u l =>
    refine .inr ⟨u, by simp, ?_⟩
    have := usesT_mem n u (by rw [hu]; exact List.mem_cons_self)
    rw [List.find?_cons, show decide ((-1 : Int) < u.1) = true by simp; omega]

set_option maxRecDepth 100000 in
set_option maxHeartbeats 4000000 in
theorem bounds_any (v : Value) (n : Nd) (w : World) (hT : Tab w) (hv : NodeW w v n) (hw : Wee 1000 n) (hc : (lefts 1000 n).length ≤ 400000000) (hA : AwakeC w) :
    Calls Tryz.prog 6 #[v] w fun e w' => e = .returned (.bool true) ∧ Below w.heap.size w w' := by
  have HV0 := Lib.hid hv
  obtain ⟨A, cp, rfl, hC⟩ := hv.toC
  have hB := (Below.refl w.heap.size w).alloc (Nat.le_refl _) (.cells #[.int .i64 n.kind, .string n.text, .slice A n.kids.length cp, .int .i64 n.pos] 24)
  have b1 : Blk (w.alloc (.cells #[.int .i64 n.kind, .string n.text, .slice A n.kids.length cp, .int .i64 n.pos] 24)) w.heap.size 24 #[.int .i64 n.kind, .string n.text, .slice A n.kids.length cp, .int .i64 n.pos] := Blk.new w _ _
  have HS := Lib.hid (rsize_any 1000 _ n _ (Nat.le_refl _) (HV0.out.below hB) hw (by omega))
  have HU := Lib.hid (fun w' (hb : Below w.heap.size w w') => uses_any _ n w' (hT.below hb) (HV0.out.below hb) (hw.le (by omega)) (by have := lefts_le (g := 100) (h := 1000) n (by omega); omega))
  have HFI := Lib.hid (fun m w' (hb : Below w.heap.size w w') => first_any _ n m w' (hT.below hb) (HV0.out.below hb) (hw.le (by omega)) (by have := lefts_le (g := 100) (h := 1000) n (by omega); omega))
  have HAW := Lib.hid hA
  have H24 := Lib.hid (first_24 n)
  have HNG := Lib.hid (first_neg n)
  have HME := Lib.hid (usesT_mem n)
  have HAT := Lib.hid (usesT_pair n)
  have hl : (usesT n).length ≤ 800000000 := by
    have := hereT_le 100 n
    have := lefts_le (g := 100) (h := 1000) n (by omega)
    unfold usesT
    split
    · have := sd_len (hereT 100 n); omega
    · simp
  clear hv hC HV0 hT hw hA
  generalize (lefts 1000 n).length = z at *
  go_enter Tryz.func6, Tryz.ntmps6
  go_wp2_with fail
  refine HS.out.mono ?_
  rintro e w1 ⟨rfl, hb1⟩
  have hB1 := hB.trans (hb1.mono hB.size)
  have b11 := b1.below hb1 b1.lt
  clear hb1 b1 hB HS
  by_cases hz : z > 1000
  · have hz2 : (z : Int) > 1000 := by omega
    go_wp2_with fail
    go_ret
    exact ⟨rfl, hB1⟩
  have hz2 : ¬ (z : Int) > 1000 := by omega
  obtain ⟨x0, x1, x2, x3, -, -, -, -⟩ := blk4 b11
  go_wp2_with fail
  refine (HU.out w1 hB1).mono ?_
  rintro e w2 ⟨A1, c1, rfl, hlc, hr1, hb2⟩
  have hB2 := hB1.trans (hb2.mono hB1.size)
  have b12 := b11.below hb2 b11.lt
  have HR := Lib.hid hr1
  clear hb2 hr1 b11 HU x0 x1 x2 x3
  go_wp2_with fail
  generalize usesT n = l at *
  go_loopg [4] l.length (fun g u4 wr => ∃ i : Nat, i ≤ l.length ∧ l.length - i ≤ g ∧ u4 = .int .i64 (i : Int) ∧ Below w2.heap.size w2 wr)
  case atStart => exact ⟨0, Nat.zero_le _, by omega, rfl, Below.refl _ _⟩
  case round =>
    obtain ⟨i, hi, hg, rfl, hB⟩ := hrel
    by_cases hlt : i < l.length
    · have hlt2 : (i : Int) < (l.length : Int) := by omega
      have h0 : (0 : Int) ≤ (i : Int) := by omega
      obtain ⟨bk, off, hA1, hbk, hc⟩ := (HR.out.below hB).el usC_len (by omega) rfl hlt
      subst hA1
      have k0 := hc i hlt 0 _ rfl
      have k1 := hc i hlt 1 _ rfl
      simp only [Nat.add_zero] at k0
      have hx := HME.out _ (List.getElem_mem hlt)
      rcases Nat.eq_zero_or_pos i with hi0 | hi0
      · clear hc
        have hgi : decide (0 < i) = false := by rw [decide_eq_false_iff_not]; omega
        have hI0 := Lib.hid hi0
        clear hi0
        generalize l[i] = x at *
        obtain ⟨xm, xa⟩ := x
        simp only at hx k0 k1
        rcases hx with rfl | rfl
        all_goals
          go_wp2_with fail
          go_quiet (fail)
          go_wp2_with fail
          go_roundg (l.length - (i + 1))
          case measure => omega
          case rel => exact ⟨i + 1, by omega, by omega, by go_num, below_drewN hB _⟩
      · have hj := hc (i - 1) (by omega) 1 _ rfl
        have hpr := List.pairwise_iff_getElem.1 HAT.out (i - 1) i (by omega) hlt (by omega)
        have hle : l[i - 1].2 ≤ l[i].2 := by unfold ltU at hpr; omega
        clear hc hpr
        generalize l[i - 1] = y at *
        generalize l[i] = x at *
        obtain ⟨xm, xa⟩ := x
        obtain ⟨ym, ya⟩ := y
        simp only at hx k0 k1 hj hle
        have hcmp : decide (xa < ya) = false := by rw [decide_eq_false_iff_not]; omega
        have hgi : (i : Int) > 0 := by omega
        have p1 : (0 : Int) ≤ (i : Int) - 1 := by omega
        have p2 : (i : Int) - 1 < (l.length : Int) := by omega
        have p3 : (1 : Int) ≤ (i : Int) := by omega
        have q2 : ((i : Int) - 1).toNat = i - 1 := by omega
        have q1 : IntKind.i64.wrap ((i : Int) - 1) = (i : Int) - 1 := IntWalk.i64_in _ (by omega)
        clear hle
        rcases hx with rfl | rfl
        all_goals
          go_wp2_with fail
          go_quiet (fail)
          go_wp2_with fail
          go_roundg (l.length - (i + 1))
          case measure => omega
          case rel => exact ⟨i + 1, by omega, by omega, by go_num, below_drewN hB _⟩
    · have hlt2 : ¬ (i : Int) < (l.length : Int) := by omega
      have hB3 := hB2.trans (hB.mono hB2.size)
      have b13 := b12.below hB b12.lt
      clear HR b12
      obtain ⟨x0, x1, x2, x3, -, -, -, -⟩ := blk4 b13
      go_wp2_with fail
      refine (HFI.out 24 wr hB3).mono ?_
      rw [H24.out, show firstV none = .tuple #[.agg #[.int .i64 0, .int .i64 0], .bool false] from rfl]
      rintro e w4 ⟨rfl, hb4⟩
      have hB4 := hB3.trans (hb4.mono hB3.size)
      have b14 := b13.below hb4 b13.lt
      clear hb4 b13 x0 x1 x2 x3
      have hs4 := hB4.size
      have hB5 := hB4.alloc hs4 (.cells #[.int .i64 0, .int .i64 0] 32)
      obtain ⟨x0, x1, x2, x3, -, -, -, -⟩ := blk4 (b14.alloc (.cells #[.int .i64 0, .int .i64 0] 32))
      go_wp2_with fail
      refine (HFI.out (-1) _ hB5).mono ?_
      rcases HNG.out with ⟨e1, e2⟩ | ⟨u, e1, e2⟩
      · rw [e2, show firstV none = .tuple #[.agg #[.int .i64 0, .int .i64 0], .bool false] from rfl]
        rintro e w6 ⟨rfl, hb6⟩
        have hB6 := hB5.trans (hb6.mono hB5.size)
        have hB7 := hB6.alloc hB6.size (.cells #[.int .i64 0, .int .i64 0] 32)
        subst e1
        clear hb6 hB5 hB4 hB3 hB2 hB1 HFI HNG x0 x1 x2 x3 b14 hB
        go_wp2_with fail
        refine (HAW.out _ hB7).mono ?_
        rintro e w8 ⟨rfl, hb8⟩
        go_wp2_with fail
        go_ret
        exact ⟨rfl, hB7.trans (hb8.mono hB7.size)⟩
      · obtain ⟨um, ua⟩ := u
        rw [e2, show firstV (some (um, ua)) = .tuple #[.agg #[.int .i64 um, .int .i64 ua], .bool true] from rfl]
        rintro e w6 ⟨rfl, hb6⟩
        have hB6 := hB5.trans (hb6.mono hB5.size)
        have hB7 := hB6.alloc hB6.size (.cells #[.int .i64 um, .int .i64 ua] 32)
        clear hb6 hB5 hB4 hB3 hB2 hB1 HFI HNG x0 x1 x2 x3 b14 hB e2
        go_wp2_with fail
        refine (HAW.out _ hB7).mono ?_
        rintro e w8 ⟨rfl, hb8⟩
        go_wp2_with fail
        go_ret
        exact ⟨rfl, hB7.trans (hb8.mono hB7.size)⟩
end Go.Proofs.YtnalfjaojcahhaaGreatDoor
namespace Go.Proofs.YtnalfjaojcahhaaGreatDoor
open Go.RowKit Go.Lib Go.Proofs
attribute [local go_sem ↓] Go.wp_at_zero Go.wp_at_succ

theorem find_more {m m' : Int} (hm : m ≤ m') : ∀ (l : Us), l.Pairwise ltU → ∀ b, l.find? (fun u => decide (m' < u.1)) = some b → ∃ a, l.find? (fun u => decide (m < u.1)) = some a ∧ a.2 ≤ b.2
  | [], _, b, h => by simp at h
  | u :: l, hp, b, h => by
    obtain ⟨h1, h2⟩ := List.pairwise_cons.1 hp
    rw [List.find?_cons] at h ⊢
    by_cases hu : m' < u.1
    · rw [decide_eq_true hu] at h
      injection h with h
      subst h
      rw [decide_eq_true (show m < u.1 by omega)]
      exact ⟨_, rfl, Int.le_refl _⟩
    · rw [decide_eq_false hu] at h
      by_cases hv : m < u.1
      · rw [decide_eq_true hv]
        have hb := h1 b (List.mem_of_find?_eq_some h)
        unfold ltU at hb
        exact ⟨_, rfl, by omega⟩
      · rw [decide_eq_false hv]
        exact find_more hm l h2 b h
theorem firstT_more {m m' : Int} (hm : m ≤ m') (n : Nd) {b : Int × Int} (h : firstT m' n = some b) : ∃ a, firstT m n = some a ∧ a.2 ≤ b.2 := find_more hm _ (usesT_pair n) b h
theorem firstT_gt {m : Int} {n : Nd} {a : Int × Int} (h : firstT m n = some a) : m < a.1 := by
  have := List.find?_some h
  simpa using this
/-- How the two answers lie. -/
theorem more_cases (m k : Int) (hk : 0 ≤ k) (n : Nd) : (firstT m n = none ∧ firstT (m + k) n = none) ∨ (∃ a, firstT m n = some a ∧ m < a.1 ∧ firstT (m + k) n = none) ∨ ∃ a b, firstT m n = some a ∧ m < a.1 ∧ firstT (m + k) n = some b ∧ m + k < b.1 ∧ a.2 ≤ b.2 := by
  cases hb : firstT (m + k) n with
  | some b =>
    obtain ⟨a, ha, hab⟩ := firstT_more (show m ≤ m + k by omega) n hb
    exact .inr (.inr ⟨a, b, ha, firstT_gt ha, rfl, firstT_gt hb, hab⟩)
  | none =>
    cases ha : firstT m n with
    | none => exact .inl ⟨rfl, rfl⟩
    | some a => exact .inr (.inl ⟨a, rfl, firstT_gt ha, rfl⟩)

set_option maxRecDepth 100000 in
set_option maxHeartbeats 4000000 in
theorem gmore_any (v : Value) (n : Nd) (m k : Int) (hm0 : 0 ≤ m) (hm1 : m < 256) (hk0 : 0 ≤ k) (hk1 : k < 256) (w : World) (hT : Tab w) (hv : NodeW w v n) (hw : Wee 1000 n) (hc : (lefts 1000 n).length ≤ 400000000) (hA : AwakeC w) :
    Calls Tryz.prog 7 #[v, .int .u8 m, .int .u8 k] w fun e w' => e = .returned (.bool true) ∧ Below w.heap.size w w' := by
  have HV0 := Lib.hid hv
  obtain ⟨A, cp, rfl, hC⟩ := hv.toC
  have hB := (Below.refl w.heap.size w).alloc (Nat.le_refl _) (.cells #[.int .i64 n.kind, .string n.text, .slice A n.kids.length cp, .int .i64 n.pos] 24)
  have b1 : Blk (w.alloc (.cells #[.int .i64 n.kind, .string n.text, .slice A n.kids.length cp, .int .i64 n.pos] 24)) w.heap.size 24 #[.int .i64 n.kind, .string n.text, .slice A n.kids.length cp, .int .i64 n.pos] := Blk.new w _ _
  have HS := Lib.hid (rsize_any 1000 _ n _ (Nat.le_refl _) (HV0.out.below hB) hw (by omega))
  have HFI := Lib.hid (fun m w' (hb : Below w.heap.size w w') => first_any _ n m w' (hT.below hb) (HV0.out.below hb) (hw.le (by omega)) (by have := lefts_le (g := 100) (h := 1000) n (by omega); omega))
  have HAW := Lib.hid hA
  have HMC := Lib.hid (more_cases m k hk0 n)
  clear hv hC HV0 hT hw hA
  generalize (lefts 1000 n).length = z at *
  go_enter Tryz.func7, Tryz.ntmps7
  go_wp2_with fail
  refine HS.out.mono ?_
  rintro e w1 ⟨rfl, hb1⟩
  have hB1 := hB.trans (hb1.mono hB.size)
  have b11 := b1.below hb1 b1.lt
  clear hb1 b1 hB HS
  by_cases hz : z > 1000
  · have hz2 : (z : Int) > 1000 := by omega
    go_wp2_with fail
    go_ret
    exact ⟨rfl, hB1⟩
  have hz2 : ¬ (z : Int) > 1000 := by omega
  obtain ⟨x0, x1, x2, x3, -, -, -, -⟩ := blk4 b11
  have q1 : IntKind.i64.wrap m = m := IntWalk.i64_in _ (by omega)
  have q2 : IntKind.i64.wrap k = k := IntWalk.i64_in _ (by omega)
  have q3 : IntKind.i64.wrap (m + k) = m + k := IntWalk.i64_in _ (by omega)
  go_wp2_with fail
  refine (HFI.out m w1 hB1).mono ?_
  rcases HMC.out with ⟨e1, e2⟩ | ⟨⟨am, aa⟩, e1, ha, e2⟩ | ⟨⟨am, aa⟩, ⟨bm, ba⟩, e1, ha, e2, hb, hab⟩
  · rw [e1, show firstV none = .tuple #[.agg #[.int .i64 0, .int .i64 0], .bool false] from rfl]
    rintro e w2 ⟨rfl, hb2⟩
    have hB2 := hB1.trans (hb2.mono hB1.size)
    have b12 := b11.below hb2 b11.lt
    have hB3 := hB2.alloc hB2.size (.cells #[.int .i64 0, .int .i64 0] 32)
    clear hb2 b11 x0 x1 x2 x3
    obtain ⟨x0, x1, x2, x3, -, -, -, -⟩ := blk4 (b12.alloc (.cells #[.int .i64 0, .int .i64 0] 32))
    go_wp2_with fail
    refine (HFI.out (m + k) _ hB3).mono ?_
    rw [e2, show firstV none = .tuple #[.agg #[.int .i64 0, .int .i64 0], .bool false] from rfl]
    rintro e w4 ⟨rfl, hb4⟩
    have hB4 := hB3.trans (hb4.mono hB3.size)
    have hB5 := hB4.alloc hB4.size (.cells #[.int .i64 0, .int .i64 0] 32)
    clear hb4 hB4 hB3 hB2 hB1 HFI HMC x0 x1 x2 x3 b12 e1 e2
    go_wp2_with fail
    refine (HAW.out _ hB5).mono ?_
    rintro e w8 ⟨rfl, hb8⟩
    go_wp2_with fail
    go_ret
    exact ⟨rfl, hB5.trans (hb8.mono hB5.size)⟩
  · rw [e1, show firstV (some (am, aa)) = .tuple #[.agg #[.int .i64 am, .int .i64 aa], .bool true] from rfl]
    rintro e w2 ⟨rfl, hb2⟩
    have hB2 := hB1.trans (hb2.mono hB1.size)
    have b12 := b11.below hb2 b11.lt
    have hB3 := hB2.alloc hB2.size (.cells #[.int .i64 am, .int .i64 aa] 32)
    have hP3 := Blk.new w2 32 #[.int .i64 am, .int .i64 aa]
    clear hb2 b11 x0 x1 x2 x3
    obtain ⟨x0, x1, x2, x3, -, -, -, -⟩ := blk4 (b12.alloc (.cells #[.int .i64 am, .int .i64 aa] 32))
    go_wp2_with fail
    refine (HFI.out (m + k) _ hB3).mono ?_
    rw [e2, show firstV none = .tuple #[.agg #[.int .i64 0, .int .i64 0], .bool false] from rfl]
    rintro e w4 ⟨rfl, hb4⟩
    have hB4 := hB3.trans (hb4.mono hB3.size)
    have hP4 := hP3.below hb4 hP3.lt
    have hB5 := hB4.alloc hB4.size (.cells #[.int .i64 0, .int .i64 0] 32)
    obtain ⟨y0, y1, -, -⟩ := blk2 (hP4.alloc (.cells #[.int .i64 0, .int .i64 0] 32))
    have hda : decide (am > m) = true := by rw [decide_eq_true_iff]; omega
    clear hb4 hB4 hB3 hB2 hB1 HFI HMC x0 x1 x2 x3 b12 e1 e2 hP3
    go_wp2_with fail
    refine (HAW.out _ hB5).mono ?_
    rintro e w8 ⟨rfl, hb8⟩
    go_wp2_with fail
    go_ret
    exact ⟨rfl, hB5.trans (hb8.mono hB5.size)⟩
  · rw [e1, show firstV (some (am, aa)) = .tuple #[.agg #[.int .i64 am, .int .i64 aa], .bool true] from rfl]
    rintro e w2 ⟨rfl, hb2⟩
    have hB2 := hB1.trans (hb2.mono hB1.size)
    have b12 := b11.below hb2 b11.lt
    have hB3 := hB2.alloc hB2.size (.cells #[.int .i64 am, .int .i64 aa] 32)
    have hP3 := Blk.new w2 32 #[.int .i64 am, .int .i64 aa]
    clear hb2 b11 x0 x1 x2 x3
    obtain ⟨x0, x1, x2, x3, -, -, -, -⟩ := blk4 (b12.alloc (.cells #[.int .i64 am, .int .i64 aa] 32))
    go_wp2_with fail
    refine (HFI.out (m + k) _ hB3).mono ?_
    rw [e2, show firstV (some (bm, ba)) = .tuple #[.agg #[.int .i64 bm, .int .i64 ba], .bool true] from rfl]
    rintro e w4 ⟨rfl, hb4⟩
    have hB4 := hB3.trans (hb4.mono hB3.size)
    have hP4 := hP3.below hb4 hP3.lt
    have hB5 := hB4.alloc hB4.size (.cells #[.int .i64 bm, .int .i64 ba] 32)
    obtain ⟨y0, y1, -, -⟩ := blk2 (hP4.alloc (.cells #[.int .i64 bm, .int .i64 ba] 32))
    have hda : decide (am > m) = true := by rw [decide_eq_true_iff]; omega
    have hdb : decide (ba < aa) = false := by rw [decide_eq_false_iff_not]; omega
    have hdc : decide (bm ≤ m + k) = false := by rw [decide_eq_false_iff_not]; omega
    clear hb4 hB4 hB3 hB2 hB1 HFI HMC x0 x1 x2 x3 b12 e1 e2 hP3
    go_wp2_with fail
    refine (HAW.out _ hB5).mono ?_
    rintro e w8 ⟨rfl, hb8⟩
    go_wp2_with fail
    go_ret
    exact ⟨rfl, hB5.trans (hb8.mono hB5.size)⟩
end Go.Proofs.YtnalfjaojcahhaaGreatDoor
namespace Go.Proofs.YtnalfjaojcahhaaGreatDoor
open Go.RowKit Go.Lib Go.Proofs Go.Joins
attribute [local go_sem ↓] Go.wp_at_zero Go.wp_at_succ
attribute [local go_sem] fld_nd0 fld_nd1 fld_nd2 fld_nd3

/-- The text's cells. -/
def awkC : Array Value := #[.int .u8 112, .int .u8 97, .int .u8 99, .int .u8 107, .int .u8 97, .int .u8 103, .int .u8 101, .int .u8 32, .int .u8 112, .int .u8 10, .int .u8 116, .int .u8 121, .int .u8 112, .int .u8 101, .int .u8 32, .int .u8 65, .int .u8 91, .int .u8 80, .int .u8 32, .int .u8 97, .int .u8 110, .int .u8 121, .int .u8 93, .int .u8 32, .int .u8 61, .int .u8 32, .int .u8 91, .int .u8 93, .int .u8 80]
theorem awk_cells : awkC = awkS.data.map fun b => .int .u8 (b.toNat : Int) := by kernel_rfl
theorem awk_bytes (w : World) : Lib.Bytes (w.alloc (.cells awkC 5 (29, 30))) w.heap.size 0 awkS := by
  intro i hi
  have h := World.cell?_alloc_mark w awkC 5 (29, 30) (0 + i)
  rw [h, awk_cells, Nat.zero_add, Array.getElem?_map, Array.getElem?_eq_getElem (xs := awkS.data) hi]
  rfl

theorem srt_awk : srt [(18, 17), (24, 10)] = [(24, 10), (18, 17)] := by
  unfold srt
  rw [List.mergeSort.eq_3]
  simp [List.MergeSort.Internal.splitInTwo, ltOf, cmpU, cmpI]
theorem sd_awk : sd [(18, 17), (24, 10)] = [(24, 10), (18, 17)] := by
  unfold sd
  rw [srt_awk]
  kernel_rfl
theorem awk_uses : usesT awkN = [(24, 10), (18, 17)] := by
  unfold usesT
  rw [if_pos awk_right, awk_here, sd_awk]
theorem awk_wee : Wee 101 awkN := wee_of 101 awkN (by decide +kernel)
theorem awk_lefts : (lefts 100 awkN).length ≤ 1000000000 := Nat.le_trans (lefts_tot 100 awkN) (by decide +kernel)

set_option maxRecDepth 100000 in
set_option maxHeartbeats 4000000 in
theorem awake_true (w : World) (hT : Tab w) : Calls Tryz.prog 10 #[] w fun e w' => e = .returned (.bool true) ∧ Below w.heap.size w w' := by
  have hB0 : Below w.heap.size w (w.alloc (.cells awkC 5 (29, 30))) := (Below.refl _ _).alloc (Nat.le_refl _) _
  have HF : Calls Tryz.prog 22 #[.slice (some ⟨w.heap.size, 0, none⟩) 29 29] (w.alloc (.cells awkC 5 (29, 30))) _ :=
    readFile_ok w.heap.size 0 29 awkS (w.alloc (.cells awkC 5 (29, 30))) 31 awkL awk_goes (awk_bytes w) (by simp) (by decide +kernel) (hT.below hB0) (fnsT 12) (fun E => okF_T E 12 (by omega)) awkN ⟨14, false, -1⟩ awk_reads rfl awk_right awk_wee awk_lefts
  have HF := Lib.hid HF
  have hcv := run_convert_bytes_const_at (P := Tryz.prog) w 47 5 awkC 29 29 w.heap.size rfl Tryz.underlying47 Tryz.underlying5
  unfold awkC at hcv
  go_enter Tryz.func10, Tryz.ntmps10
  go_wp2_with fail
  refine HF.out.mono ?_
  rintro e w1 ⟨v, rfl, hv, hb1⟩
  have hB1 := hB0.trans (hb1.mono hB0.size)
  obtain ⟨A, cp, rfl, hC⟩ := hv.toC
  have hB2 := hB1.alloc hB1.size (.cells #[.int .i64 awkN.kind, .string awkN.text, .slice A awkN.kids.length cp, .int .i64 awkN.pos] 24)
  have HU := Lib.hid (uses_any _ awkN _ (hT.below hB2) (hv.wide.below ((Below.refl _ _).alloc (Nat.le_refl _) (.cells #[.int .i64 awkN.kind, .string awkN.text, .slice A awkN.kids.length cp, .int .i64 awkN.pos] 24))) awk_wee awk_lefts)
  rw [awk_uses] at HU
  clear hb1 HF hB0 hB1 hC hcv hv
  go_wp2_with fail
  refine HU.out.mono ?_
  rintro e w2 ⟨A1, c1, rfl, hlc, hr1, hb2⟩
  have hB3 := hB2.trans (hb2.mono hB2.size)
  obtain ⟨bk, off, rfl, -, hcc⟩ := hr1.el usC_len (by omega) rfl (i := 0) (by decide)
  have k0 := hcc 0 (by decide) 0 _ rfl
  have k1 := hcc 0 (by decide) 1 _ rfl
  have k2 := hcc 1 (by decide) 0 _ rfl
  have k3 := hcc 1 (by decide) 1 _ rfl
  simp at k0 k1 k2 k3
  clear HU hb2 hB2 hr1 hcc
  go_wp2_with fail
  go_ret
  exact ⟨rfl, hB3⟩
/-- In every world behind one that holds the search's bound. -/
theorem awakeC (w : World) (hT : Tab w) : AwakeC w := fun _ hb => awake_true _ (hT.below hb)
end Go.Proofs.YtnalfjaojcahhaaGreatDoor
