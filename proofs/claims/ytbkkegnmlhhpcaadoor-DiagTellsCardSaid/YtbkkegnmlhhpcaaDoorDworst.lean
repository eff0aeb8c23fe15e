/-
  The contract of diag.Worst. By an AI agent.
-/
import Derived.Test.YtbkkegnmlhhpcaaDoorDord
import Derived.Test.YtbkkegnmlhhpcaaDoorDcompact
import Derived.Test.YtbkkegnmlhhpcaaDoorShelf
import Derived.Test.YtbkkegnmlhhpcaaDoorEnc
import Derived.Shelf.SlicesQ.IndexFunc
namespace Go.Proofs.YtbkkegnmlhhpcaaDoor
open Go.RowKit Go.Sort Go.Lib Go.Proofs
attribute [local go_sem ↓] Go.wp_at_zero Go.wp_at_succ

/-- The tags, the worst ahead. -/
def tags : List ByteArray := [⟨#[109, 111, 100]⟩, ⟨#[110, 97, 109, 101]⟩, ⟨#[115, 121, 110, 116, 97, 120]⟩, ⟨#[111, 116, 104, 101, 114]⟩, ⟨#[103, 97, 116, 101]⟩, ⟨#[116, 121, 112, 101]⟩, ⟨#[108, 105, 109, 105, 116]⟩]
/-- Does a tag stand among findings? -/
def hasTag (l : List Fnd) (t : ByteArray) : Bool := l.any fun x => decide (x.1 = t)
/-- The first of some tags that stands among findings. -/
def worstIn (l : List Fnd) : List ByteArray → ByteArray
  | [] => ⟨#[]⟩
  | t :: ts => if hasTag l t = true then t else worstIn l ts
def worstOf (l : List Fnd) : ByteArray := worstIn l tags

theorem worstIn_drop (l : List Fnd) : ∀ (ts : List ByteArray) (k : Nat), (∀ j (h : j < ts.length), j < k → hasTag l ts[j] = false) → worstIn l ts = worstIn l (ts.drop k)
  | _, 0, _ => by simp
  | [], k + 1, _ => by simp
  | t :: ts, k + 1, h => by
    have h0 := h 0 (by simp) (by omega)
    simp only [List.getElem_cons_zero] at h0
    rw [worstIn, if_neg (by simp [h0]), List.drop_succ_cons]
    exact worstIn_drop l ts k (fun j hj hjk => by have := h (j + 1) (by simpa using hj) (by omega); simpa using this)

theorem worstClosure (x : Fnd) (t : ByteArray) (B : Nat) (w : World) (hc : w.cell? ⟨B, 0, none⟩ = some (.string t)) :
    Calls Tryd.prog 28 #[.agg #[.string x.1, .string x.2.1, .int .i64 x.2.2], .pointer (some ⟨B, 0, none⟩)] w fun e w' => e = .returned (.bool (decide (x.1 = t))) ∧ Below w.heap.size w w' := by
  obtain ⟨xt, xf, xa⟩ := x
  have hB := World.block_lt_of_cell? w _ hc
  simp only at hB
  have hne : B ≠ w.heap.size := Nat.ne_of_lt hB
  have hd : decide (xt = t) = (xt.toList == t.toList) := by
    rw [Bool.eq_iff_iff]; simp [toList_inj]
  simp only [hd]
  clear hd
  go_enter Tryd.func28, Tryd.ntmps28
  go_wp2_with fail
  all_goals (go_ret; exact ⟨by simp [*], (Below.refl _ _).alloc (Nat.le_refl _) _⟩)

theorem contains_none (A : Option Addr) (c : Nat) (fv : Value) (w : World) :
    Calls Tryd.prog 27 #[.slice A 0 c, fv] w fun e w' => e = .returned (.bool false) ∧ Below w.heap.size w w' := by
  go_enter Tryd.func27, Tryd.ntmps27
  go_wp2
  refine wp_loop_rounds 1 ?_
  rw [rounds_succ]
  go_wp2
  go_ret
  exact ⟨rfl, Below.refl _ _⟩

theorem contains_any (A : Option Addr) (n c : Nat) (l : List Fnd) (t : ByteArray) (B : Nat) (w : World) (hl : l.length = n) (hn : n ≤ 1000) (h : Reads w w.heap.size 3 A n (l.flatMap encF)) (hc : w.cell? ⟨B, 0, none⟩ = some (.string t)) :
    Calls Tryd.prog 27 #[.slice A n c, .func (.func 28) #[] #[.pointer (some ⟨B, 0, none⟩)]] w fun e w' => e = .returned (.bool (hasTag l t)) ∧ Below w.heap.size w w' := by
  rcases Nat.eq_zero_or_pos n with h0 | hpos
  · subst h0
    obtain rfl : l = [] := List.eq_nil_of_length_eq_zero hl
    exact contains_none A c _ w
  · obtain ⟨b, off, rfl, hb, hcell⟩ := h.el encF_len (by omega) hl hpos
    have eg : ∀ args w, (callFunc 28 args).run Tryd.prog w = .ok (.enter 28 args) w := enters_of Tryd.func28 (by kernel_rfl) rfl
    have hp : PredBelow Tryd.prog 28 #[.pointer (some ⟨B, 0, none⟩)] (fun x => .agg (encF x).toArray) (fun x => decide (x.1 = t)) w := fun W x hb => by
      have hB := World.block_lt_of_cell? w _ hc
      exact (worstClosure x t B W ((hb.cell hB).trans hc)).mono fun e w' ⟨h1, h2⟩ => ⟨h1, hb.trans (h2.mono hb.size)⟩
    have hcon := AnyQ.slices_ContainsFunc Tryd.containsF 3 Tryd.isAgg28 Tryd.sizeOf28 encF encF_len (fun x => decide (x.1 = t)) 28 #[.pointer (some ⟨B, 0, none⟩)] eg b off n c l w hp (by omega) (by omega) hb
      (fun j hj i v hv => hcell j hj i v (by rw [getElem!_pos l j hj] at hv; exact hv))
    change Calls Tryd.prog 27 _ _ _ at hcon
    rw [show l.take n = l by rw [← hl]; exact List.take_length] at hcon
    exact hcon

/-- The array of the tags, as the code builds it. -/
def tagsV : Value := .agg #[.string ⟨#[109, 111, 100]⟩, .string ⟨#[110, 97, 109, 101]⟩, .string ⟨#[115, 121, 110, 116, 97, 120]⟩, .string ⟨#[111, 116, 104, 101, 114]⟩, .string ⟨#[103, 97, 116, 101]⟩, .string ⟨#[116, 121, 112, 101]⟩, .string ⟨#[108, 105, 109, 105, 116]⟩]
theorem tags_at : ∀ (k : Nat) (h : k < tags.length) (w : World), (Instr.index 59 tagsV (.int .i64 k)).run Tryd.prog w = .ok (.string tags[k]) w
  | 0, _, _ => by kernel_rfl
  | 1, _, _ => by kernel_rfl
  | 2, _, _ => by kernel_rfl
  | 3, _, _ => by kernel_rfl
  | 4, _, _ => by kernel_rfl
  | 5, _, _ => by kernel_rfl
  | 6, _, _ => by kernel_rfl
  | k + 7, h, _ => absurd h (by simp [tags])

set_option maxRecDepth 100000 in
set_option maxHeartbeats 2000000 in
theorem worst_any (A : Option Addr) (n c : Nat) (l : List Fnd) (w : World) (hl : l.length = n) (hn : n ≤ 1000) (h : Reads w w.heap.size 3 A n (l.flatMap encF)) :
    Calls Tryd.prog 12 #[.slice A n c] w fun e w' => e = .returned (.string (worstOf l)) ∧ Below w.heap.size w w' := by
  have HR := Lib.hid h
  have HL := Lib.hid hl
  clear h hl
  generalize hP : worstOf l = P
  have HP := Lib.hid hP
  clear hP
  go_enter Tryd.func12, Tryd.ntmps12
  go_wp2_with fail
  go_loopw [6] (fun i wr => ∃ k : Nat, k ≤ 7 ∧ i = .int .i64 k ∧ Below w.heap.size w wr ∧ ∀ j (h : j < tags.length), j < k → hasTag l tags[j] = false) (fun i _ => 7 - (RowKit.intOf i).toNat)
  case atStart => exact ⟨0, Nat.zero_le _, rfl, Below.refl _ _, fun _ _ h => by omega⟩
  case round =>
    obtain ⟨k, hk, rfl, hb, hno⟩ := hrel
    have HB := Lib.hid hb
    have HNO := Lib.hid hno
    have hbs := hb.size
    clear hb hno
    by_cases hlt : k < 7
    · have hkt : k < tags.length := hlt
      have hix := fun W => tags_at k hkt W
      unfold tagsV at hix
      have HW := Lib.hid (show P = worstIn l (tags.drop k) by rw [← HP.out]; exact worstIn_drop l tags k HNO.out)
      rw [List.drop_eq_getElem_cons hkt] at HW
      have HN := Lib.hid (show hasTag l tags[k] = false → ∀ j (h : j < tags.length), j < k + 1 → hasTag l tags[j] = false from fun h j hj hjk => by
        by_cases e : j = k
        · subst e; exact h
        · exact HNO.out j hj (by omega))
      generalize tags[k] = tg at hix HW HN
      have HR2 := Lib.hid (((HR.out.below HB.out).more hbs).alloc (Nat.le_refl _) (.cells #[.string tg] 9) |>.more (B' := wr.heap.size + 1) (by omega))
      have HCC : Hid (Calls Tryd.prog 27 #[.slice A n c, .func (.func 28) #[] #[.pointer (some ⟨wr.heap.size, 0, none⟩)]] (wr.alloc (.cells #[.string tg] 9)) fun e w' => e = .returned (.bool (hasTag l tg)) ∧ Below (wr.alloc (.cells #[.string tg] 9)).heap.size (wr.alloc (.cells #[.string tg] 9)) w') :=
        Lib.hid (contains_any A n c l tg wr.heap.size _ HL.out hn (by rw [World.size_alloc]; exact HR2.out) (by simp))
      by_cases hh : hasTag l tg = true
      · have HE := Lib.hid (show tg = P by rw [HW.out, worstIn, if_pos hh])
        have HT := Lib.hid hh
        clear hh
        go_wp2_with (go_at_call 27; refine HCC.out.mono ?_; rw [HT.out]; rintro e w' ⟨rfl, hb2⟩; have c0 : w'.cell? ⟨wr.heap.size, 0, none⟩ = some (.string tg) := (hb2.cell (p := ⟨wr.heap.size, 0, none⟩) (by simp)).trans (by simp))
        go_ret
        exact ⟨by rw [← HE.out]; rfl, (HB.out.alloc hbs _).trans (hb2.mono (by simp; omega))⟩
      · have HT := Lib.hid (show hasTag l tg = false by simpa using hh)
        clear hh
        go_wp2_with (go_at_call 27; refine HCC.out.mono ?_; rw [HT.out]; rintro e w' ⟨rfl, hb2⟩)
        go_roundw
        case rel => exact ⟨k + 1, by omega, by go_num, (HB.out.alloc hbs _).trans (hb2.mono (by simp; omega)), HN.out HT.out⟩
        case measure => simp [RowKit.intOf]; omega
    · have HE := Lib.hid (show (⟨#[]⟩ : ByteArray) = P by
        rw [← HP.out]
        unfold worstOf
        rw [worstIn_drop l tags k HNO.out, List.drop_eq_nil_of_le (by show 7 ≤ k; omega)]; rfl)
      go_wp2_with fail
      go_ret
      exact ⟨by rw [← HE.out]; rfl, HB.out⟩
end Go.Proofs.YtbkkegnmlhhpcaaDoor
