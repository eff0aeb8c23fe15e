/-
  The contract of module.Place: the place of a finding in its file. By an AI agent.
-/
import Derived.Test.YtbkkegnmlhhpcaaDoorPlace
namespace Go.Proofs.YtbkkegnmlhhpcaaDoor
open Go.RowKit Go.Lib

/-- A file in memory: its name, where its bytes lie, the capacity, the bytes. -/
abbrev Src := ByteArray × Option Addr × Nat × ByteArray
/-- The two cells of a file. -/
def encS (x : Src) : List Value := [.string x.1, .slice x.2.1 x.2.2.2.size x.2.2.1]
theorem encS_len (x : Src) : (encS x).length = 2 := rfl
/-- The files' bytes lie where they say. -/
def SrcOk (w : World) (B : Nat) (xs : List Src) : Prop := ∀ x ∈ xs, Reads w B 1 x.2.1 x.2.2.2.size (x.2.2.2.data.toList.flatMap byteV) ∧ x.2.2.2.size ≤ 100000
theorem SrcOk.below {w w' : World} {B : Nat} {xs : List Src} (h : SrcOk w B xs) (hb : Below B w w') : SrcOk w' B xs := fun x hx => ⟨(h x hx).1.below hb, (h x hx).2⟩
/-- The place of a byte of the first file of a name. -/
def placeIn (xs : List Src) (file : ByteArray) (n : Int) : Int × Int :=
  match xs with
  | [] => (0, 0)
  | x :: xs => if x.1 = file then placeOf x.2.2.2 n else placeIn xs file n

theorem placeIn_drop (xs : List Src) (file : ByteArray) (n : Int) : ∀ k, (∀ j (h : j < xs.length), j < k → xs[j].1 ≠ file) → placeIn xs file n = placeIn (xs.drop k) file n
  | 0, _ => by simp
  | k + 1, h => by
    cases xs with
    | nil => simp
    | cons x xs =>
      have h0 : x.1 ≠ file := h 0 (by simp) (by omega)
      rw [placeIn, if_neg h0, List.drop_succ_cons]
      exact placeIn_drop xs file n k (fun j hj hjk => by have := h (j + 1) (by simpa using hj) (by omega); simpa using this)

theorem toList_beq (a b : ByteArray) : (a.toList == b.toList) = decide (a = b) := by
  rw [Bool.eq_iff_iff]
  simp only [beq_iff_eq, decide_eq_true_eq]
  constructor
  · intro h
    rw [ByteArray.toList_eq, ByteArray.toList_eq] at h
    cases a; cases b
    congr
    exact Array.ext' h
  · rintro rfl; rfl

set_option maxHeartbeats 1000000 in
theorem modPlace_any (A : Option Addr) (n c : Nat) (xs : List Src) (tag file : ByteArray) (at_ : Int) (w : World) (hl : xs.length = n) (hn : n ≤ 1000) (h : Reads w w.heap.size 2 A n (xs.flatMap encS)) (hx : SrcOk w w.heap.size xs) :
    Calls Tryd.prog 23 #[.slice A n c, .agg #[.string tag, .string file, .int .i64 at_]] w fun e w' => e = .returned (.agg #[.int .i64 (placeIn xs file at_).1, .int .i64 (placeIn xs file at_).2]) ∧ Below w.heap.size w w' := by
  have HR := Lib.hid h
  have HL := Lib.hid hl
  have HX := Lib.hid hx
  clear h hl hx
  generalize hP : placeIn xs file at_ = P
  have HP := Lib.hid hP
  clear hP
  go_enter Tryd.func23, Tryd.ntmps23
  go_wp2_with fail
  have HB0 := Lib.hid (((Below.refl _ w).alloc (Nat.le_refl _) (.cells #[.string tag, .string file, .int .i64 at_] 28)).alloc (by simp) (.cells #[.int .i64 0, .int .i64 0] 54))
  have HF0 := Lib.hid ((Blk.new w 28 #[.string tag, .string file, .int .i64 at_]).alloc (.cells #[.int .i64 0, .int .i64 0] 54))
  have HO0 := Lib.hid (Blk.new_at (w := w.alloc (.cells #[.string tag, .string file, .int .i64 at_] 28)) (n := w.heap.size + 1) (by simp) 54 #[.int .i64 0, .int .i64 0])
  have HS0 := Lib.hid (show ((w.alloc (.cells #[.string tag, .string file, .int .i64 at_] 28)).alloc (.cells #[.int .i64 0, .int .i64 0] 54)).heap.size = w.heap.size + 2 by simp)
  generalize (w.alloc (.cells #[.string tag, .string file, .int .i64 at_] 28)).alloc (.cells #[.int .i64 0, .int .i64 0] 54) = W0 at HB0 HF0 HO0 HS0 ⊢
  go_loopw [9] (fun i wr => ∃ k : Nat, k ≤ n ∧ i = .int .i64 k ∧ Below (w.heap.size + 2) W0 wr ∧ ∀ j (h : j < xs.length), j < k → xs[j].1 ≠ file) (fun i _ => n - (RowKit.intOf i).toNat)
  case atStart => exact ⟨0, Nat.zero_le _, rfl, Below.refl _ _, fun _ _ h => by omega⟩
  case round =>
    obtain ⟨k, hk, rfl, hb, hno⟩ := hrel
    have HNO := Lib.hid hno
    have HB := Lib.hid hb
    have hbs : w.heap.size + 2 ≤ wr.heap.size := by rw [← HS0.out]; exact hb.size
    clear hno hb
    by_cases hlt : k < n
    · obtain ⟨b, off, rfl, hbB, hc⟩ := HR.out.el encS_len (by omega) HL.out hlt
      have hkx : k < xs.length := by rw [HL.out]; exact hlt
      have hxx := hc k hkx
      have HPD := Lib.hid (placeIn_drop xs file at_ k HNO.out)
      have HXK := Lib.hid (HX.out xs[k] (List.getElem_mem hkx))
      have HKN := Lib.hid (show xs.drop k = xs[k] :: xs.drop (k + 1) by rw [List.drop_eq_getElem_cons hkx])
      have HXN := Lib.hid (show ∀ j (h : j < xs.length), j < k + 1 → xs[k].1 ≠ file → xs[j].1 ≠ file from fun j hj hjk hne => by
        by_cases e : j = k
        · subst e; exact hne
        · exact HNO.out j hj (by omega))
      generalize xs[k] = x at hxx HXK HKN HXN
      obtain ⟨nm, sa, sc, sb⟩ := x
      have e0 : wr.cell? ⟨b, off + k * 2, none⟩ = W0.cell? ⟨b, off + k * 2, none⟩ := HB.out.cell (p := ⟨b, off + k * 2, none⟩) (by show b < _; omega)
      have e1 : wr.cell? ⟨b, off + k * 2 + 1, none⟩ = W0.cell? ⟨b, off + k * 2 + 1, none⟩ := HB.out.cell (p := ⟨b, off + k * 2 + 1, none⟩) (by show b < _; omega)
      have c0 : wr.cell? ⟨b, off + k * 2, none⟩ = some (.string nm) := e0.trans ((HB0.out.cell (p := ⟨b, off + k * 2, none⟩) hbB).trans (hxx 0 _ rfl))
      have c1 : wr.cell? ⟨b, off + k * 2 + 1, none⟩ = some (.slice sa sb.size sc) := e1.trans ((HB0.out.cell (p := ⟨b, off + k * 2 + 1, none⟩) hbB).trans (hxx 1 _ rfl))
      have g1 := (HF0.out.below HB.out (by omega)).cell 1
      have g2 := (HF0.out.below HB.out (by omega)).cell 2
      simp at g1 g2
      have hbr : b < wr.heap.size := by omega
      have hH : w.heap.size < wr.heap.size := by omega
      clear e0 e1 hc hxx
      by_cases hnm : nm = file
      · have hq : (nm.toList == file.toList) = true := by rw [toList_beq]; simp [hnm]
        have HR2 : Hid (Reads wr (w.heap.size + 2) 1 sa sb.size (sb.data.toList.flatMap byteV)) := Lib.hid (((HXK.out.1.below HB0.out).more (by omega)).below HB.out)
        have HPP := Lib.hid (show placeOf sb at_ = P by rw [← HP.out, HPD.out, HKN.out, placeIn, if_pos hnm])
        clear hnm
        go_wp2_with fail
        refine (of_any sa sc sb at_ _ HXK.out.2 ((HR2.out.more hbs).alloc (Nat.le_refl _) _ |>.more (by simp))).mono ?_
        rw [HPP.out]
        rintro e w1 ⟨rfl, hb1⟩
        have HB1 := Lib.hid ((HB.out.alloc hbs (.cells #[.string nm, .slice sa sb.size sc] 36)).trans (hb1.mono (by simp; omega)))
        obtain ⟨a0, a1, a2, a3⟩ := blk2_facts (HO0.out.below HB1.out (by omega))
        clear hb1
        go_wp2_with fail
        refine bodyPost_ret (v := .agg #[.int .i64 P.1, .int .i64 P.2]) ?_ rfl ⟨rfl, ?_⟩
        · simp [results, Tryd.results23, go_sem, a0, a1]
        · exact (HB0.out.trans (HB1.out.mono (by omega))).setCell (by show _ ≤ w.heap.size + 1; omega) _ |>.setCell (by show _ ≤ w.heap.size + 1; omega) _
      · have hq : (nm.toList == file.toList) = false := by rw [toList_beq]; simp [hnm]
        have hq' : (nm == file) = false := by rw [beq_toListBytes]; exact hq
        have HN1 := Lib.hid (fun j h hjk => HXN.out j h hjk hnm)
        clear hnm
        go_wp2_with fail
        go_roundw
        case rel => exact ⟨k + 1, by omega, by go_num, HB.out.alloc hbs _, HN1.out⟩
        case measure => simp [RowKit.intOf]; omega
    · have HE := Lib.hid (show P = (0, 0) by
        have : xs.drop k = [] := List.drop_eq_nil_of_le (by rw [HL.out]; omega)
        rw [← HP.out, placeIn_drop xs file at_ k HNO.out, this]; rfl)
      obtain ⟨a0, a1, a2, a3⟩ := blk2_facts (HO0.out.below HB.out (by omega))
      go_wp2_with fail
      refine bodyPost_ret (v := .agg #[.int .i64 0, .int .i64 0]) ?_ rfl ⟨by rw [HE.out], ?_⟩
      · simp [results, Tryd.results23, go_sem, a0, a1]
      · exact (HB0.out.trans (HB.out.mono (by omega))).setCell (by show _ ≤ w.heap.size + 1; omega) _ |>.setCell (by show _ ≤ w.heap.size + 1; omega) _
end Go.Proofs.YtbkkegnmlhhpcaaDoor
