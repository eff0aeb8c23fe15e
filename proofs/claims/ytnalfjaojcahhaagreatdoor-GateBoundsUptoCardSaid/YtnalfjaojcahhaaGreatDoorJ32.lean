/-
  gate.First. By an AI agent.
  demoticref06.Size: how many nodes, to a depth. By an AI agent.
  demoticlaw13.GateBounds, as a walk: awake is asked for. By an AI agent.
-/
import Derived.Test.YtnalfjaojcahhaaGreatDoorJ31
import Derived.Test.YtnalfjaojcahhaaGreatDoorJ27
import Derived.BigQuiet
namespace Go.Proofs.YtnalfjaojcahhaaGreatDoor
open Go.RowKit Go.Lib Go.Proofs
attribute [local go_sem ↓] Go.wp_at_zero Go.wp_at_succ

/-- The first use that needs more than a minor. -/
def idxU (m : Int) : Us → Nat → Int
  | [], _ => -1
  | u :: l, i => if m < u.1 then (i : Int) else idxU m l (i + 1)
theorem idxU_drop (m : Int) (l : Us) (i : Nat) (hi : i < l.length) : idxU m (l.drop i) i = if m < l[i].1 then (i : Int) else idxU m (l.drop (i + 1)) (i + 1) := by
  rw [List.drop_eq_getElem_cons hi, idxU]
theorem idxU_cases (m : Int) : ∀ (l : Us) (i : Nat), (idxU m l i = -1 ∧ l.find? (fun u => decide (m < u.1)) = none) ∨ ∃ (j : Nat) (h : j < l.length), idxU m l i = ((i + j : Nat) : Int) ∧ l.find? (fun u => decide (m < u.1)) = some l[j]
  | [], i => .inl ⟨rfl, rfl⟩
  | u :: l, i => by
    rw [idxU, List.find?_cons]
    by_cases h : m < u.1
    · exact .inr ⟨0, by simp, by rw [if_pos h]; rfl, by simp [h]⟩
    · rw [if_neg h]
      simp only [h, decide_false]
      rcases idxU_cases m l (i + 1) with ⟨e1, e2⟩ | ⟨j, hj, e1, e2⟩
      · exact .inl ⟨e1, e2⟩
      · exact .inr ⟨j + 1, by simpa using hj, by rw [e1]; congr 1; omega, by rw [e2]; rfl⟩

theorem blk2 {w : World} {g : Nat} {t : TypeId} {a b : Value} (h : Blk w g t #[a, b]) : w.cell? ⟨g, 0, none⟩ = some a ∧ w.cell? ⟨g, 1, none⟩ = some b ∧ w.frozen? ⟨g, 0, none⟩ = false ∧ w.frozen? ⟨g, 1, none⟩ = false := by
  have c0 := h.cell 0
  have c1 := h.cell 1
  simp at c0 c1
  exact ⟨c0, c1, h.frozen 0, h.frozen 1⟩

theorem ent_more (a : Array Value) (w : World) : (callFunc 32 a).run Tryz.prog w = .ok (.enter 32 a) w := by kernel_rfl
theorem more_any (x y m : Int) (b : Nat) (w : World) (hb : Blk w b 3 #[.int .i64 m]) :
    Calls Tryz.prog 32 #[.agg #[.int .i64 x, .int .i64 y], .pointer (some ⟨b, 0, none⟩)] w fun e w' => e = .returned (.bool (decide (m < x))) ∧ Below w.heap.size w w' := by
  have hB := (Below.refl w.heap.size w).alloc (Nat.le_refl _) (.cells #[.int .i64 x, .int .i64 y] 32)
  have b0 := blk1 (hb.alloc (.cells #[.int .i64 x, .int .i64 y] 32))
  have hlt := hb.lt
  have hne : b ≠ w.heap.size := by omega
  have c0 := blk1 hb
  clear hb
  go_enter Tryz.func32, Tryz.ntmps32
  go_wp2_with fail
  go_ret
  exact ⟨rfl, hB⟩

set_option maxHeartbeats 1000000 in
theorem indexU_any (m : Int) (b : Nat) (A : Option Addr) (c : Nat) (l : Us) (w : World) (hr : Reads w w.heap.size 2 A l.length (usesC l)) (hb : Blk w b 3 #[.int .i64 m]) (hl : l.length ≤ 1000000000) :
    Calls Tryz.prog 31 #[.slice A l.length c, .func (.func 32) #[] #[.pointer (some ⟨b, 0, none⟩)]] w fun e w' => e = .returned (.int .i64 (idxU m l 0)) ∧ Below w.heap.size w w' := by
  have he := ent_more
  have HR := Lib.hid hr
  have HBK := Lib.hid hb
  generalize hI : idxU m l 0 = I
  have HI := Lib.hid hI
  clear hr hb hI
  go_enter Tryz.func31, Tryz.ntmps31
  go_wp2_with fail
  go_loopg [5, 8] l.length (fun g _ u8 wr => ∃ i : Nat, i ≤ l.length ∧ l.length - i ≤ g ∧ u8 = .int .i64 (i : Int) ∧ idxU m (l.drop i) i = I ∧ Below w.heap.size w wr)
  case atStart => exact ⟨0, Nat.zero_le _, by omega, rfl, by simpa using HI.out, Below.refl _ _⟩
  case round =>
    obtain ⟨i, hi, hg, rfl, hI, hB⟩ := hrel
    have HI := Lib.hid hI
    clear hI
    by_cases hlt : i < l.length
    · have hlt2 : (i : Int) < (l.length : Int) := by omega
      have h0 : (0 : Int) ≤ (i : Int) := by omega
      obtain ⟨bk, off, rfl, hbk, hc⟩ := (HR.out.below hB).el usC_len (by omega) rfl hlt
      have k0 := hc i hlt 0 _ rfl
      have k1 := hc i hlt 1 _ rfl
      simp only [Nat.add_zero] at k0
      have HC := Lib.hid (more_any l[i].1 l[i].2 m b wr (HBK.out.below hB HBK.out.lt))
      have HE := Lib.hid (idxU_drop m l i hlt)
      generalize l[i] = x at *
      obtain ⟨xm, xa⟩ := x
      clear hc
      by_cases hP : m < xm
      · have HX := Lib.hid (show I = (i : Int) by rw [← HI.out, HE.out, if_pos hP])
        go_wp2_with fail
        refine HC.out.mono ?_
        rw [decide_eq_true hP]
        rintro e w1 ⟨rfl, hb1⟩
        have hB1 := hB.trans (hb1.mono hB.size)
        clear hb1 HC
        go_wp2_with fail
        go_ret
        exact ⟨by rw [HX.out]; rfl, hB1⟩
      · have HX := Lib.hid (show idxU m (l.drop (i + 1)) (i + 1) = I by rw [← HI.out, HE.out, if_neg hP])
        have HPP := Lib.hid hP
        go_wp2_with fail
        refine HC.out.mono ?_
        rw [show decide (m < xm) = false by have := HPP.out; rw [decide_eq_false_iff_not]; omega]
        rintro e w1 ⟨rfl, hb1⟩
        have hB1 := hB.trans (hb1.mono hB.size)
        clear hb1 HC
        go_wp2_with fail
        go_roundg (l.length - (i + 1))
        case measure => omega
        case rel => exact ⟨i + 1, by omega, Nat.le_refl _, by go_num, HX.out, hB1⟩
    · have hlt2 : ¬ (i : Int) < (l.length : Int) := by omega
      have hnil : l.drop i = [] := List.drop_of_length_le (by omega)
      have HX := Lib.hid (show I = -1 by rw [← HI.out, hnil]; rfl)
      clear hnil
      go_wp2_with fail
      go_ret
      exact ⟨by rw [HX.out]; rfl, hB⟩

theorem results_use {fn : Func} {q r : Tmp} (hfn : fn.results = #[.cell q 32, .tmp r]) (tmps : Array Value) {w : World} {g : Nat} {a b v : Value} (ht : tmps.getD q undef = .pointer (some ⟨g, 0, none⟩)) (hv : tmps.getD r undef = v) (hb : Blk w g 32 #[a, b]) :
    (results fn tmps).run Tryz.prog w = .ok (.tuple #[.agg #[a, b], v]) w := by
  obtain ⟨d0, d1, _, _⟩ := blk2 hb
  unfold results
  rw [hfn]
  have ht' : tmps[q]?.getD undef = .pointer (some ⟨g, 0, none⟩) := by simpa using ht
  have hv' : tmps[r]?.getD undef = v := by simpa using hv
  simp [ht', hv', go_sem, d0, d1]

/-- What First answers. -/
def firstV (o : Option (Int × Int)) : Value :=
  match o with
  | some u => .tuple #[.agg #[.int .i64 u.1, .int .i64 u.2], .bool true]
  | none => .tuple #[.agg #[.int .i64 0, .int .i64 0], .bool false]
def firstT (m : Int) (n : Nd) : Option (Int × Int) := (usesT n).find? fun u => decide (m < u.1)
theorem usesT_le (n : Nd) (hc : (lefts 100 n).length ≤ 1000000000) : (usesT n).length ≤ 2000000000 := by
  unfold usesT
  split
  · have := sd_len (hereT 100 n)
    have := hereT_le 100 n
    omega
  · simp

set_option maxRecDepth 100000 in
set_option maxHeartbeats 2000000 in
theorem first_any (v : Value) (n : Nd) (m : Int) (w : World) (hT : Tab w) (hv : NodeW w v n) (hw : Wee 101 n) (hc : (lefts 100 n).length ≤ 400000000) :
    Calls Tryz.prog 13 #[v, .int .i64 m] w fun e w' => e = .returned (firstV (firstT m n)) ∧ Below w.heap.size w w' := by
  have HV0 := Lib.hid hv
  obtain ⟨A, cp, rfl, hC⟩ := hv.toC
  have hB := ((((Below.refl w.heap.size w).alloc (Nat.le_refl _) (.cells #[.int .i64 n.kind, .string n.text, .slice A n.kids.length cp, .int .i64 n.pos] 24)).alloc (by simp) (.cells #[.int .i64 m] 3))).alloc (by simp; omega) (.cells #[.int .i64 0, .int .i64 0] 32)
  have b3 : Blk ((((w.alloc (.cells #[.int .i64 n.kind, .string n.text, .slice A n.kids.length cp, .int .i64 n.pos] 24)).alloc (.cells #[.int .i64 m] 3))).alloc (.cells #[.int .i64 0, .int .i64 0] 32)) (w.heap.size + 1) 3 #[.int .i64 m] :=
    (Blk.new_at (by simp) _ _).alloc _
  have b4 : Blk ((((w.alloc (.cells #[.int .i64 n.kind, .string n.text, .slice A n.kids.length cp, .int .i64 n.pos] 24)).alloc (.cells #[.int .i64 m] 3))).alloc (.cells #[.int .i64 0, .int .i64 0] 32)) (w.heap.size + 2) 32 #[.int .i64 0, .int .i64 0] :=
    Blk.new_at (by simp) _ _
  have HU := Lib.hid (uses_any _ n _ (hT.below hB) (HV0.out.below hB) hw (by omega))
  have HL := Lib.hid (usesT_le n (by omega))
  have HS := Lib.hid (show ((((w.alloc (.cells #[.int .i64 n.kind, .string n.text, .slice A n.kids.length cp, .int .i64 n.pos] 24)).alloc (.cells #[.int .i64 m] 3))).alloc (.cells #[.int .i64 0, .int .i64 0] 32)).heap.size = w.heap.size + 3 by simp)
  have HC := Lib.hid (idxU_cases m (usesT n) 0)
  have HF := Lib.hid (show firstT m n = (usesT n).find? (fun u => decide (m < u.1)) from rfl)
  have hl : (usesT n).length ≤ 800000000 := by
    have := hereT_le 100 n
    unfold usesT
    split
    · have := sd_len (hereT 100 n); omega
    · simp
  clear hv hC HV0 hT hw hc
  generalize usesT n = l at *
  generalize firstT m n = o at *
  go_enter Tryz.func13, Tryz.ntmps13
  go_wp2_with fail
  refine HU.out.mono ?_
  rintro e w1 ⟨A1, c1, rfl, hlc, hr1, hb1⟩
  have b31 := b3.below hb1 b3.lt
  have b41 := b4.below hb1 b4.lt
  have hB1 := hB.trans (hb1.mono hB.size)
  have hs1 := hb1.size
  rw [HS.out] at hs1
  have HR1 := Lib.hid hr1
  clear hb1 hr1 b3 b4 HU
  go_wp2_with fail
  refine (indexU_any m (w.heap.size + 1) A1 c1 l w1 HR1.out b31 (by omega)).mono ?_
  rintro e w2 ⟨rfl, hb2⟩
  have b42 := b41.below hb2 b41.lt
  have hB2 := hB1.trans (hb2.mono hB1.size)
  have HR2 := Lib.hid (HR1.out.below hb2)
  have hs2 := hb2.size
  clear hb2 HR1 b31 b41
  obtain ⟨d0, d1, f0, f1⟩ := blk2 b42
  rcases HC.out with ⟨e1, e2⟩ | ⟨j, hj, e1, e2⟩
  · rw [e1]
    have HO := Lib.hid (show o = none by rw [HF.out]; exact e2)
    clear e1 e2
    go_wp2_with fail
    refine bodyPost_ret (results_use rfl _ (g := w.heap.size + 2) (by rfl) (by rfl) (a := .int .i64 0) (b := .int .i64 0) (by simpa using (b42.set_ 0 (.int .i64 0)).set_ 1 (.int .i64 0))) rfl ?_
    rw [HO.out]
    exact ⟨rfl, (hB2.setCell (by simp; omega) _).setCell (by simp; omega) _⟩
  · rw [e1, Nat.zero_add]
    have HO := Lib.hid (show o = some l[j] by rw [HF.out]; exact e2)
    have hj2 : (j : Int) < (l.length : Int) := by omega
    have hj0 : (0 : Int) ≤ (j : Int) := by omega
    have hjn : ¬ (j : Int) < 0 := by omega
    obtain ⟨bk, off, rfl, hbk, hc⟩ := HR2.out.el usC_len (by omega) rfl hj
    have k0 := hc j hj 0 _ rfl
    have k1 := hc j hj 1 _ rfl
    simp only [Nat.add_zero] at k0
    clear e1 e2 hc
    generalize l[j] = x at *
    obtain ⟨xm, xa⟩ := x
    go_wp2_with fail
    refine bodyPost_ret (results_use rfl _ (g := w.heap.size + 2) (by rfl) (by rfl) (a := .int .i64 xm) (b := .int .i64 xa) (by simpa using (b42.set_ 0 (.int .i64 xm)).set_ 1 (.int .i64 xa))) rfl ?_
    rw [HO.out]
    exact ⟨rfl, (hB2.setCell (by simp; omega) _).setCell (by simp; omega) _⟩
end Go.Proofs.YtnalfjaojcahhaaGreatDoor
namespace Go.Proofs.YtnalfjaojcahhaaGreatDoor
open Go.RowKit Go.Lib Go.Proofs
attribute [local go_sem ↓] Go.wp_at_zero Go.wp_at_succ

set_option maxRecDepth 100000 in
set_option maxHeartbeats 2000000 in
theorem rsize_any : ∀ (d : Nat) (v : Value) (n : Nd) (w : World), d ≤ 1000 → NodeW w v n → Wee d n → (lefts d n).length ≤ 1000000000 →
    Calls Tryz.prog 8 #[v, .int .i64 (d : Int)] w fun e w' => e = .returned (.int .i64 ((lefts d n).length : Int)) ∧ Below w.heap.size w w' := by
  intro d
  induction d with
  | zero =>
    intro v n w _ hv _ _
    obtain ⟨A, cp, rfl, hC⟩ := hv.toC
    clear hv hC
    have hB := (Below.refl w.heap.size w).alloc (Nat.le_refl _) (.cells #[.int .i64 n.kind, .string n.text, .slice A n.kids.length cp, .int .i64 n.pos] 24)
    go_enter Tryz.func8, Tryz.ntmps8
    go_wp2_with fail
    go_ret
    exact ⟨rfl, hB⟩
  | succ d ih =>
    intro v n w hd hv hw hN
    have HV := Lib.hid hv
    have HW := Lib.hid hw
    have HI := Lib.hid ih
    have HN := Lib.hid hN
    have hlk := hw.1.1
    obtain ⟨A, cp, rfl, hC⟩ := hv.toC
    clear hv hC hw ih hN
    have hB := (Below.refl w.heap.size w).alloc (Nat.le_refl _) (.cells #[.int .i64 n.kind, .string n.text, .slice A n.kids.length cp, .int .i64 n.pos] 24)
    have b1 : Blk (w.alloc (.cells #[.int .i64 n.kind, .string n.text, .slice A n.kids.length cp, .int .i64 n.pos] 24)) w.heap.size 24 #[.int .i64 n.kind, .string n.text, .slice A n.kids.length cp, .int .i64 n.pos] := Blk.new w _ _
    have hz : ((d : Int) + 1 == 0) = false := by simp; omega
    have hT := Lib.hid (show (lefts (d + 1) n).length = 1 + (n.kids.flatMap (lefts d)).length by rw [lefts, List.length_cons, Nat.add_comm])
    go_enter Tryz.func8, Tryz.ntmps8
    go_wp2_with fail
    go_loopg [5, 6] n.kids.length (fun g1 u5 u6 wr => ∃ i : Nat, i ≤ n.kids.length ∧ n.kids.length - i ≤ g1 ∧ u6 = .int .i64 (i : Int) ∧ u5 = .int .i64 ((1 + ((n.kids.take i).flatMap (lefts d)).length : Nat) : Int) ∧ Below w.heap.size w wr ∧ Blk wr w.heap.size 24 #[.int .i64 n.kind, .string n.text, .slice A n.kids.length cp, .int .i64 n.pos])
    case atStart => exact ⟨0, Nat.zero_le _, by omega, rfl, by simp, hB, b1⟩
    case round =>
      clear b1 hB
      obtain ⟨i, hi, hg, rfl, rfl, hB, b1⟩ := hrel
      obtain ⟨x0, x1, x2, x3, -, -, -, -⟩ := blk4 b1
      by_cases hlt : i < n.kids.length
      · have hlt2 : (i : Int) < (n.kids.length : Int) := by omega
        have h0 : (0 : Int) ≤ (i : Int) := by omega
        obtain ⟨b, off, A1, cp1, rfl, -, hbl, k0, k1, k2, k3, hkn⟩ := (HV.out.below hB).kidsV.kid i hlt
        have hmem := List.getElem_mem hlt
        have HM := Lib.hid (HW.out.2 _ hmem)
        have HTK := Lib.hid (show ((n.kids.take (i + 1)).flatMap (lefts d)).length = ((n.kids.take i).flatMap (lefts d)).length + (lefts d n.kids[i]).length by rw [List.take_succ_eq_append_getElem hlt, List.flatMap_append, List.length_append]; simp)
        have hle : ((n.kids.take i).flatMap (lefts d)).length + (lefts d n.kids[i]).length ≤ (n.kids.flatMap (lefts d)).length := by
          conv => rhs; rw [← List.take_append_drop (i + 1) n.kids, List.flatMap_append, List.take_succ_eq_append_getElem hlt, List.flatMap_append]
          simp
        clear hmem
        generalize n.kids[i] = x at *
        generalize ((n.kids.take i).flatMap (lefts d)).length = m at *
        have hNN := HN.out
        rw [hT.out] at hNN
        have HC := Lib.hid (HI.out _ x wr (by omega) hkn HM.out (by omega))
        have hle2 : m + (lefts d x).length ≤ 1000000000 := by omega
        generalize (lefts d x).length = p at *
        clear hkn hle hNN HM
        go_wp2_with fail
        refine HC.out.mono ?_
        rintro e w2 ⟨rfl, hb2⟩
        have hB2 := hB.trans (hb2.mono hB.size)
        have b2 := b1.below hb2 b1.lt
        clear hb2 b1 HC k0 k1 k2 k3 x0 x1 x2 x3
        go_wp2_with fail
        go_roundg (n.kids.length - (i + 1))
        case measure => omega
        case rel => exact ⟨i + 1, by omega, by omega, by go_num, by rw [HTK.out]; congr 1; go_num, hB2, b2⟩
      · have hlt2 : ¬ (i : Int) < (n.kids.length : Int) := by omega
        have ht : n.kids.take i = n.kids := List.take_of_length_le (by omega)
        have HE := Lib.hid (show 1 + ((n.kids.take i).flatMap (lefts d)).length = (lefts (d + 1) n).length by rw [ht, hT.out])
        clear ht hT
        generalize 1 + ((n.kids.take i).flatMap (lefts d)).length = q at *
        go_wp2_with fail
        go_ret
        exact ⟨by rw [HE.out]; rfl, hB⟩
end Go.Proofs.YtnalfjaojcahhaaGreatDoor
namespace Go.Proofs.YtnalfjaojcahhaaGreatDoor
open Go.RowKit Go.Lib Go.Proofs
attribute [local go_sem ↓] Go.wp_at_zero Go.wp_at_succ

/-- The law's own example holds, wherever it is asked. -/
def AwakeC (w0 : World) : Prop := ∀ w, Below w0.heap.size w0 w → Calls Tryz.prog 10 #[] w fun e w' => e = .returned (.bool true) ∧ Below w.heap.size w w'
theorem Wee.le : ∀ {g h : Nat} {n : Nd}, Wee g n → h ≤ g → Wee h n
  | g, 0, _, _, _ => trivial
  | 0, h + 1, _, _, hl => absurd hl (by omega)
  | g + 1, h + 1, _, hw, hl => ⟨hw.1, fun k hk => Wee.le (hw.2 k hk) (by omega)⟩
theorem flatMap_len_le {α β : Type} (f h : α → List β) (l : List α) (hl : ∀ x ∈ l, (f x).length ≤ (h x).length) : (l.flatMap f).length ≤ (l.flatMap h).length := by
  induction l with
  | nil => simp
  | cons x l ih =>
    rw [List.flatMap_cons, List.flatMap_cons, List.length_append, List.length_append]
    have h1 := hl x List.mem_cons_self
    have h2 := ih fun y hy => hl y (List.mem_cons_of_mem _ hy)
    omega
theorem lefts_le : ∀ {g h : Nat} (n : Nd), g ≤ h → (lefts g n).length ≤ (lefts h n).length
  | 0, _, _, _ => by simp [lefts]
  | g + 1, 0, _, hl => absurd hl (by omega)
  | g + 1, h + 1, n, hl => by
    rw [lefts, lefts, List.length_cons, List.length_cons]
    have := flatMap_len_le (lefts g) (lefts h) n.kids fun k _ => lefts_le k (by omega)
    omega

theorem hereN_mem (n : Nd) : ∀ u ∈ hereN n, u.1 = 18 ∨ u.1 = 24 := by
  intro u hu
  have hhead : u ∈ headU n → u.1 = 18 ∨ u.1 = 24 := by
    intro h
    unfold headU at h
    split at h
    · simp at h
    · rcases List.mem_cons.1 h with rfl | h
      · exact .inl rfl
      · split at h
        · obtain rfl := List.mem_singleton.1 h; exact .inr rfl
        · simp at h
  have h18 : ∀ (p : Prop) [Decidable p] (a : Int), u ∈ (if p then [((18 : Int), a)] else []) → u.1 = 18 ∨ u.1 = 24 := by
    intro p _ a h
    split at h
    · obtain rfl := List.mem_singleton.1 h; exact .inl rfl
    · simp at h
  unfold hereN at hu
  split at hu
  · rcases List.mem_append.1 hu with h | h
    · exact hhead h
    · exact h18 _ _ h
  · split at hu
    · exact h18 _ _ hu
    · split at hu
      · exact h18 _ _ hu
      · simp at hu
theorem hereT_mem : ∀ (g : Nat) (n : Nd), ∀ u ∈ hereT g n, u.1 = 18 ∨ u.1 = 24
  | 0, _, u, h => by simp [hereT] at h
  | g + 1, n, u, h => by
    rw [hereT] at h
    rcases List.mem_append.1 h with h | h
    · exact hereN_mem n u h
    · obtain ⟨k, _, h⟩ := List.mem_flatMap.1 h
      exact hereT_mem g k u h
theorem usesT_mem (n : Nd) : ∀ u ∈ usesT n, u.1 = 18 ∨ u.1 = 24 := by
  intro u hu
  unfold usesT at hu
  split at hu
  · exact hereT_mem 100 n u (mem_sd.1 hu)
  · simp at hu
theorem usesT_pair (n : Nd) : (usesT n).Pairwise ltU := by
  unfold usesT
  split
  · exact sd_pair _
  · exact List.Pairwise.nil
theorem first_24 (n : Nd) : firstT 24 n = none := by
  unfold firstT
  rw [List.find?_eq_none]
  intro u hu
  have := usesT_mem n u hu
  simp
  omega
theorem first_neg (n : Nd) : (usesT n = [] ∧ firstT (-1) n = none) ∨ ∃ u, 0 < (usesT n).length ∧ firstT (-1) n = some u := by
  unfold firstT
  cases hu : usesT n with
  | nil => exact .inl ⟨rfl, rfl⟩
  | cons u l =>
    refine .inr ⟨u, by simp, ?_⟩
    have := usesT_mem n u (by rw [hu]; exact List.mem_cons_self)
    rw [List.find?_cons, show decide ((-1 : Int) < u.1) = true by simp; omega]

set_option maxRecDepth 100000 in
set_option maxHeartbeats 4000000 in
theorem bounds_any (v : Value) (n : Nd) (w : World) (hT : Tab w) (hv : NodeW w v n) (hw : Wee 1000 n) (hc : (lefts 1000 n).length ≤ 400000000) (hA : AwakeC w) :
    Calls Tryz.prog 6 #[v] w fun e w' => e = .returned (.bool true) ∧ Below w.heap.size w w' := by
  have HV0 := Lib.hid hv
  obtain ⟨A, cp, rfl, hC⟩ := hv.toC
  have hB := (Below.refl w.heap.size w).alloc (Nat.le_refl _) (.cells #[.int .i64 n.kind, .string n.text, .slice A n.kids.length cp, .int .i64 n.pos] 24)
  have b1 : Blk (w.alloc (.cells #[.int .i64 n.kind, .string n.text, .slice A n.kids.length cp, .int .i64 n.pos] 24)) w.heap.size 24 #[.int .i64 n.kind, .string n.text, .slice A n.kids.length cp, .int .i64 n.pos] := Blk.new w _ _
  have HS := Lib.hid (rsize_any 1000 _ n _ (Nat.le_refl _) (HV0.out.below hB) hw (by omega))
  have HU := Lib.hid (fun w' (hb : Below w.heap.size w w') => uses_any _ n w' (hT.below hb) (HV0.out.below hb) (hw.le (by omega)) (by have := lefts_le (g := 100) (h := 1000) n (by omega); omega))
  have HFI := Lib.hid (fun m w' (hb : Below w.heap.size w w') => first_any _ n m w' (hT.below hb) (HV0.out.below hb) (hw.le (by omega)) (by have := lefts_le (g := 100) (h := 1000) n (by omega); omega))
  have HAW := Lib.hid hA
  have H24 := Lib.hid (first_24 n)
  have HNG := Lib.hid (first_neg n)
  have HME := Lib.hid (usesT_mem n)
  have HAT := Lib.hid (usesT_pair n)
  have hl : (usesT n).length ≤ 800000000 := by
    have := hereT_le 100 n
    have := lefts_le (g := 100) (h := 1000) n (by omega)
    unfold usesT
    split
    · have := sd_len (hereT 100 n); omega
    · simp
  clear hv hC HV0 hT hw hA
  generalize (lefts 1000 n).length = z at *
  go_enter Tryz.func6, Tryz.ntmps6
  go_wp2_with fail
  refine HS.out.mono ?_
  rintro e w1 ⟨rfl, hb1⟩
  have hB1 := hB.trans (hb1.mono hB.size)
  have b11 := b1.below hb1 b1.lt
  clear hb1 b1 hB HS
  by_cases hz : z > 1000
  · have hz2 : (z : Int) > 1000 := by omega
    go_wp2_with fail
    go_ret
    exact ⟨rfl, hB1⟩
  have hz2 : ¬ (z : Int) > 1000 := by omega
  obtain ⟨x0, x1, x2, x3, -, -, -, -⟩ := blk4 b11
  go_wp2_with fail
  refine (HU.out w1 hB1).mono ?_
  rintro e w2 ⟨A1, c1, rfl, hlc, hr1, hb2⟩
  have hB2 := hB1.trans (hb2.mono hB1.size)
  have b12 := b11.below hb2 b11.lt
  have HR := Lib.hid hr1
  clear hb2 hr1 b11 HU x0 x1 x2 x3
  go_wp2_with fail
  generalize usesT n = l at *
  go_loopg [4] l.length (fun g u4 wr => ∃ i : Nat, i ≤ l.length ∧ l.length - i ≤ g ∧ u4 = .int .i64 (i : Int) ∧ Below w2.heap.size w2 wr)
  case atStart => exact ⟨0, Nat.zero_le _, by omega, rfl, Below.refl _ _⟩
  case round =>
    obtain ⟨i, hi, hg, rfl, hB⟩ := hrel
    by_cases hlt : i < l.length
    · have hlt2 : (i : Int) < (l.length : Int) := by omega
      have h0 : (0 : Int) ≤ (i : Int) := by omega
      obtain ⟨bk, off, hA1, hbk, hc⟩ := (HR.out.below hB).el usC_len (by omega) rfl hlt
      subst hA1
      have k0 := hc i hlt 0 _ rfl
      have k1 := hc i hlt 1 _ rfl
      simp only [Nat.add_zero] at k0
      have hx := HME.out _ (List.getElem_mem hlt)
      rcases Nat.eq_zero_or_pos i with hi0 | hi0
      · clear hc
        have hgi : decide (0 < i) = false := by rw [decide_eq_false_iff_not]; omega
        have hI0 := Lib.hid hi0
        clear hi0
        generalize l[i] = x at *
        obtain ⟨xm, xa⟩ := x
        simp only at hx k0 k1
        rcases hx with rfl | rfl
        all_goals
          go_wp2_with fail
          go_quiet (fail)
          go_wp2_with fail
          go_roundg (l.length - (i + 1))
          case measure => omega
          case rel => exact ⟨i + 1, by omega, by omega, by go_num, below_drewN hB _⟩
      · have hj := hc (i - 1) (by omega) 1 _ rfl
        have hpr := List.pairwise_iff_getElem.1 HAT.out (i - 1) i (by omega) hlt (by omega)
        have hle : l[i - 1].2 ≤ l[i].2 := by unfold ltU at hpr; omega
        clear hc hpr
        generalize l[i - 1] = y at *
        generalize l[i] = x at *
        obtain ⟨xm, xa⟩ := x
        obtain ⟨ym, ya⟩ := y
        simp only at hx k0 k1 hj hle
        have hcmp : decide (xa < ya) = false := by rw [decide_eq_false_iff_not]; omega
        have hgi : (i : Int) > 0 := by omega
        have p1 : (0 : Int) ≤ (i : Int) - 1 := by omega
        have p2 : (i : Int) - 1 < (l.length : Int) := by omega
        have p3 : (1 : Int) ≤ (i : Int) := by omega
        have q2 : ((i : Int) - 1).toNat = i - 1 := by omega
        have q1 : IntKind.i64.wrap ((i : Int) - 1) = (i : Int) - 1 := IntWalk.i64_in _ (by omega)
        clear hle
        rcases hx with rfl | rfl
        all_goals
          go_wp2_with fail
          go_quiet (fail)
          go_wp2_with fail
          go_roundg (l.length - (i + 1))
          case measure => omega
          case rel => exact ⟨i + 1, by omega, by omega, by go_num, below_drewN hB _⟩
    · have hlt2 : ¬ (i : Int) < (l.length : Int) := by omega
      have hB3 := hB2.trans (hB.mono hB2.size)
      have b13 := b12.below hB b12.lt
      clear HR b12
      obtain ⟨x0, x1, x2, x3, -, -, -, -⟩ := blk4 b13
      go_wp2_with fail
      refine (HFI.out 24 wr hB3).mono ?_
      rw [H24.out, show firstV none = .tuple #[.agg #[.int .i64 0, .int .i64 0], .bool false] from rfl]
      rintro e w4 ⟨rfl, hb4⟩
      have hB4 := hB3.trans (hb4.mono hB3.size)
      have b14 := b13.below hb4 b13.lt
      clear hb4 b13 x0 x1 x2 x3
      have hs4 := hB4.size
      have hB5 := hB4.alloc hs4 (.cells #[.int .i64 0, .int .i64 0] 32)
      obtain ⟨x0, x1, x2, x3, -, -, -, -⟩ := blk4 (b14.alloc (.cells #[.int .i64 0, .int .i64 0] 32))
      go_wp2_with fail
      refine (HFI.out (-1) _ hB5).mono ?_
      rcases HNG.out with ⟨e1, e2⟩ | ⟨u, e1, e2⟩
      · rw [e2, show firstV none = .tuple #[.agg #[.int .i64 0, .int .i64 0], .bool false] from rfl]
        rintro e w6 ⟨rfl, hb6⟩
        have hB6 := hB5.trans (hb6.mono hB5.size)
        have hB7 := hB6.alloc hB6.size (.cells #[.int .i64 0, .int .i64 0] 32)
        subst e1
        clear hb6 hB5 hB4 hB3 hB2 hB1 HFI HNG x0 x1 x2 x3 b14 hB
        go_wp2_with fail
        refine (HAW.out _ hB7).mono ?_
        rintro e w8 ⟨rfl, hb8⟩
        go_wp2_with fail
        go_ret
        exact ⟨rfl, hB7.trans (hb8.mono hB7.size)⟩
      · obtain ⟨um, ua⟩ := u
        rw [e2, show firstV (some (um, ua)) = .tuple #[.agg #[.int .i64 um, .int .i64 ua], .bool true] from rfl]
        rintro e w6 ⟨rfl, hb6⟩
        have hB6 := hB5.trans (hb6.mono hB5.size)
        have hB7 := hB6.alloc hB6.size (.cells #[.int .i64 um, .int .i64 ua] 32)
        clear hb6 hB5 hB4 hB3 hB2 hB1 HFI HNG x0 x1 x2 x3 b14 hB e2
        go_wp2_with fail
        refine (HAW.out _ hB7).mono ?_
        rintro e w8 ⟨rfl, hb8⟩
        go_wp2_with fail
        go_ret
        exact ⟨rfl, hB7.trans (hb8.mono hB7.size)⟩
end Go.Proofs.YtnalfjaojcahhaaGreatDoor
