/-
  The contracts of findings, slices.Clone, slices.CompactFunc and diag.Sorted at findings. By an AI agent.
-/
import Derived.Test.YtbkkegnmlhhpcaaDoorDcompact
import Derived.Test.YtbkkegnmlhhpcaaDoorShelf
import Derived.Shelf.SlSortCmp.NoneTotal
namespace Go.Proofs.YtbkkegnmlhhpcaaDoor
open Go.RowKit Go.Sort Go.Lib Go.Proofs
attribute [local go_sem ↓] Go.wp_at_zero Go.wp_at_succ

theorem info28 : (Tryd.prog.info? 28).map (fun i => (i.zero, i.size, i.bytes)) = some (some (.agg #[.string ⟨#[]⟩, .string ⟨#[]⟩, .int .i64 0]), 3, 40) := by kernel_rfl

theorem findings_any (A : Option Addr) (n c : Nat) (xs : List Fnd) (w : World) (hl : xs.length = n) (hn : n ≤ 1000) (h : Reads w w.heap.size 3 A n (xs.flatMap encF)) :
    Calls Tryd.prog 6 #[.slice A n c] w fun e w' => ∃ v, e = .returned v ∧ w'.ownsRow w.heap.size 28 3 v n (xs.flatMap encF) ∧ Below w.heap.size w w' := by
  obtain ⟨i0, hi, hz0, hz1, hz2⟩ := info_parts info28
  have HL := Lib.hid hl
  clear hl
  have HR := Lib.hid h
  clear h
  go_enter Tryd.func6, Tryd.ntmps6
  go_wp2
  go_loopw [3, 4] (fun o i wr => ∃ k : Nat, k ≤ n ∧ i = .int .i64 k ∧ wr.ownsRow w.heap.size 28 3 o k ((xs.take k).flatMap encF) ∧ Below w.heap.size w wr) (fun _ i _ => n - (intOf i).toNat)
  case atStart => exact ⟨0, Nat.zero_le _, rfl, by simpa using World.ownsRow_nil w _ _ _, Below.refl _ _⟩
  case round =>
    obtain ⟨k, hk, rfl, hown, hb⟩ := hrel
    by_cases hlt : k < n
    · obtain ⟨b, off, rfl, hbB, hc⟩ := HR.out.el encF_len (by omega) HL.out hlt
      have hkx : k < xs.length := by rw [HL.out]; exact hlt
      have hx := hc k hkx
      have hT := Lib.hid (flat_take_succ (enc := encF) xs k hkx)
      generalize xs[k] = x at hx hT
      obtain ⟨t, f, a⟩ := x
      have c0 : wr.cell? ⟨b, off + k * 3, none⟩ = some (.string t) := (hb.cell (p := ⟨b, off + k * 3, none⟩) hbB).trans (hx 0 _ rfl)
      have c1 : wr.cell? ⟨b, off + k * 3 + 1, none⟩ = some (.string f) := (hb.cell (p := ⟨b, off + k * 3 + 1, none⟩) hbB).trans (hx 1 _ rfl)
      have c2 : wr.cell? ⟨b, off + k * 3 + 2, none⟩ = some (.int .i64 a) := (hb.cell (p := ⟨b, off + k * 3 + 2, none⟩) hbB).trans (hx 2 _ rfl)
      clear hc hx
      have ag : u3.ownBlock ≠ some b := fun e => by have := (hown.lt b e).1; omega
      have hbr : b < wr.heap.size := Nat.lt_of_lt_of_le hbB hb.size
      have hsz := hb.size
      go_wp2_with fail
      go_region_held3 (fun w' => w'.cell? ⟨b, off + k * 3, none⟩ = some (.string t) ∧ w'.cell? ⟨b, off + k * 3 + 1, none⟩ = some (.string f) ∧ w'.cell? ⟨b, off + k * 3 + 2, none⟩ = some (.int .i64 a))
        (first
          | go_keep
          | (go_split_ands
             refine ⟨?_, ?_, ?_⟩
             · (rw [hgrow.cell_far _ (by simp; omega) (Ne.symm ag)]; assumption)
             · (rw [hgrow.cell_far _ (by simp; omega) (Ne.symm ag)]; assumption)
             · (rw [hgrow.cell_far _ (by simp; omega) (Ne.symm ag)]; assumption)))
        ((refine step_append_lies _ (by rfl) _ _ _ (by rfl) w.heap.size 28 i0 _ 3 40 Tryd.underlying23 hi hz0 hz1 hz2 (by rfl) (by omega) u3 k _ (by rfl) ((hown.alloc _).drew)
            ⟨wr.heap.size, 0, none⟩ 1 1 [.string t, .string f, .int .i64 a] (by rfl) (by rfl) (World.news_of_block (cs := #[.string t, .string f, .int .i64 a]) (t := 28) (fr := (0, 0)) (heap_alloc_new wr _)) (by simp [Value.oneCell'])
            (by omega) (by unfold maxLen; omega) (by omega) (by simp; omega) (wr.heap.size + 1) (by simp) ?_; intro gg cap w1 hown1 hgrow hat hlt1))
      go_wp2
      go_roundw
      case rel =>
        refine ⟨k + 1, by omega, by go_num, ?_, ?_⟩
        · rw [hT.out]; exact hown1
        · exact ((hb.alloc hsz _).drew).grown hgrow (by simp; omega) (fun j hj => (hown.lt j hj).1)
      case measure => simp [intOf]; omega
    · obtain rfl : k = n := by omega
      clear hlt hk
      have hT := Lib.hid (show xs.take k = xs by rw [← HL.out]; exact List.take_length)
      go_wp2
      go_ret
      rw [hT.out] at hown
      exact ⟨_, rfl, hown, hb⟩

/-- slices.Clone of a slice that reads as a list. -/
theorem clone_any (A : Option Addr) (n c : Nat) (xs : List Fnd) (w : World) (hn : n ≤ 2000) (h : Reads w w.heap.size 3 A n (xs.flatMap encF)) :
    Calls Tryd.prog 14 #[.slice A n c] w fun e w' => ∃ v, e = .returned v ∧ w'.ownsRow w.heap.size 28 3 v n (xs.flatMap encF) ∧ Below w.heap.size w w' := by
  obtain ⟨i0, hi, hz0, hz1, hz2⟩ := info_parts info28
  have q23 : ∀ (w : World) (a : Option Addr) (n c n' c' : Nat), (binOp .eql 23 (.slice a n c) (.slice none n' c')).run Tryd.prog w = .ok (.bool a.isNone) w := fun w a n c n' c' => Lib.run_eql_slice_nil w _ _ a n c n' c' Tryd.underlying23
  have H1 : ∀ u ∈ xs.flatMap encF, u.oneCell' = true := by
    intro u hu
    obtain ⟨x, _, hx⟩ := List.mem_flatMap.1 hu
    simp only [encF, List.mem_cons, List.not_mem_nil, or_false] at hx
    rcases hx with rfl | rfl | rfl <;> rfl
  have HR := Lib.hid h
  have HX := Lib.hid H1
  clear h H1
  rcases A with _ | ad
  · have h0 : n = 0 := by
      rcases Nat.eq_zero_or_pos n with h | h
      · exact h
      · obtain ⟨_, e, _⟩ := HR.out.2 h
        cases e
    subst h0
    have hx : xs.flatMap encF = [] := List.eq_nil_of_length_eq_zero (by simpa using HR.out.1)
    have HE := Lib.hid hx
    clear hx
    go_enter Tryd.func14, Tryd.ntmps14
    go_wp2_with fail
    go_ret
    exact ⟨_, rfl, by rw [HE.out]; exact World.ownsRow_nil _ _ _ _, Below.refl _ _⟩
  · have hown0 : (w.alloc (.cells #[] 28)).ownsRow w.heap.size 28 3 (.slice (some ⟨w.heap.size, 0, none⟩) 0 0) 0 [] := ⟨by simp, .inr ⟨w.heap.size, 0, #[], rfl, Nat.le_refl _, heap_alloc_new w _, Nat.le_refl _, by unfold maxLen; omega, by simp, by simp⟩⟩
    go_enter Tryd.func14, Tryd.ntmps14
    go_wp2_with (at_builtin; refine wpList_append_any _ rfl (.tmp 5) (.tmp 6) _ rfl w.heap.size 28 i0 _ 3 40 Tryd.underlying23 hi hz0 hz1 hz2 rfl (by omega) (.slice (some ⟨w.heap.size, 0, none⟩) 0 0) 0 [] (by rfl) hown0 w.heap.size (some ad) n c (xs.flatMap encF) (by rfl) (HR.out.alloc (Nat.le_refl _) _) HX.out (by unfold maxLen; omega) (by omega) (by simp) ?_; intro v1 w1 hown1 hg1 hat1)
    go_ret
    exact ⟨_, rfl, by simpa using hown1, (((Below.refl _ w).alloc (Nat.le_refl _) _)).grown hg1 (by simp) (by simp [Value.ownBlock])⟩


theorem cmpLays16 (blk off size : Nat) (w : World) : CmpLays Tryd.prog 16 #[] encF 3 cmpF blk off size w := fun _ _ _ _ x y => closure1 x y _

theorem sortFunc_any (g off cap : Nat) (d : Array Fnd) (w : World) (hH : HoldsK encF 3 w g off d) (hblk : g < w.heap.size) (hsz : d.size ≤ 2000) :
    Calls Tryd.prog 15 #[.slice (some ⟨g, off, none⟩) d.size cap, .func (.func 16) #[] #[]] w fun e w' => e = .returned (.tuple #[]) ∧ SWK encF 3 w g off (srt d.toList).toArray w' := by
  have eg : ∀ args w, (callFunc 16 args).run Tryd.prog w = .ok (.enter 16 args) w := enters_of Tryd.func16 (by kernel_rfl) rfl
  have hcon := AnyQ.slices_SortFunc_total Tryd.sortF 3 Tryd.isAgg28 Tryd.sizeOf28 encF encF_len encF_one cmpF swoF 16 #[] g off cap d w eg (cmpLays16 g off d.size w) hH hblk (by omega) totF
  change Calls Tryd.prog 15 _ _ _ at hcon
  exact hcon.mono fun e w' ⟨he, n, os, hw⟩ => ⟨he, n, os, hw⟩

theorem sortFunc_none (p : Option Addr) (cap : Nat) (w : World) :
    Calls Tryd.prog 15 #[.slice p 0 cap, .func (.func 16) #[] #[]] w fun e w' => e = .returned (.tuple #[]) ∧ w = w' := by
  have hcon := AnyF.slices_SortFunc_none Tryd.sortF p cap (.func (.func 16) #[] #[]) w
  change Calls Tryd.prog 15 _ _ _ at hcon
  exact hcon.mono fun e w' ⟨he, hw⟩ => ⟨he, hw.symm⟩

theorem compact_none (p : Option Addr) (cap : Nat) (w : World) :
    Calls Tryd.prog 20 #[.slice p 0 cap, .func (.func 21) #[] #[]] w fun e w' => e = .returned (.slice p 0 cap) ∧ w = w' := by
  go_enter Tryd.func20, Tryd.ntmps20
  go_wp2
  go_ret
  exact ⟨rfl, rfl⟩

/-- What Sorted hands back: a slice that reads as a list, in memory of its own. -/
def SliceOf (w : World) (l : List Fnd) (e : Ending) (w' : World) : Prop :=
  ∃ A c, e = .returned (.slice A l.length c) ∧ Reads w' w'.heap.size 3 A l.length (l.flatMap encF) ∧ Below w.heap.size w w'

theorem sorted_any (A : Option Addr) (n c : Nat) (xs : List Fnd) (w : World) (hl : xs.length = n) (hn : n ≤ 1000) (h : Reads w w.heap.size 3 A n (xs.flatMap encF)) :
    Calls Tryd.prog 7 #[.slice A n c] w fun e w' => SliceOf w (sd xs) e w' := by
  have HR := Lib.hid h
  have HL := Lib.hid hl
  clear h hl
  go_enter Tryd.func7, Tryd.ntmps7
  go_wp2_with fail
  refine (clone_any A n c xs w (by omega) HR.out).mono ?_
  rintro e w1 ⟨v, rfl, hown, hb1⟩
  rcases Nat.eq_zero_or_pos n with h0 | hpos
  · subst h0
    obtain rfl : xs = [] := List.eq_nil_of_length_eq_zero HL.out
    have hv : ∃ p cap, v = .slice p 0 cap := by
      rcases hown.2 with ⟨e, _⟩ | ⟨g, cap, cur, e, _⟩
      · exact ⟨none, 0, e⟩
      · exact ⟨_, cap, e⟩
    obtain ⟨p, cap, rfl⟩ := hv
    go_wp2_with fail
    refine (sortFunc_none _ _ _).mono ?_
    rintro e w2 ⟨rfl, rfl⟩
    go_wp2_with fail
    refine (compact_none _ _ _).mono ?_
    rintro e w2 ⟨rfl, rfl⟩
    go_wp2_with fail
    go_ret
    have e0 : sd [] = [] := by kernel_rfl
    exact ⟨p, cap, by rw [e0]; rfl, by rw [e0]; exact ⟨by simp, fun h => absurd h (by simp)⟩, hb1⟩
  · obtain ⟨g, cap, rfl, hg, hlt⟩ := hown.form hpos
    have hH := holdsK_of_own encF_len HL.out hown
    have hcap : n ≤ cap := by
      rcases hown.2 with ⟨e, _⟩ | ⟨g', cap', cur, e, _, _, hc, _⟩
      · cases e
      · injection e with _ _ e; subst e; exact hc
    have HH := Lib.hid hH
    clear hown hH
    go_wp2_with fail
    have hs := sortFunc_any g 0 cap xs.toArray w1 HH.out hlt (by simp [HL.out]; omega)
    rw [show xs.toArray.size = n by simp [HL.out]] at hs
    refine hs.mono ?_
    clear hs
    rintro e w2 ⟨rfl, hS⟩
    have hb2 := SWK.below hS hg hb1.size
    have hlt2 := hS.lt hlt
    have hH2 : HoldsK encF 3 w2 g 0 (srt xs).toArray := hS.holds hlt HH.out (by simp [srt_len])
    have HH2 := Lib.hid hH2
    clear hS hH2
    go_wp2_with fail
    have hc := compact_any g 0 cap (srt xs).toArray w2 HH2.out hlt2 (by simp [srt_len, HL.out]; omega) (by simp [srt_len, HL.out]; omega)
    rw [show (srt xs).toArray.size = n by simp [srt_len, HL.out]] at hc
    refine hc.mono ?_
    clear hc
    rintro e w3 hC
    obtain ⟨he, d', hs', hd', hS3⟩ := hC
    subst he
    have hb3 := SWK.below hS3 hg (Nat.le_trans hb1.size hb2.size)
    have hr := reads_of_holds encF_len (hS3.holds hlt2 HH2.out hs') (m := (sd xs).length) rfl (fun j hj => hd' j (by simpa [sd] using hj)) (by rw [hs']; have := sd_len xs; simp [srt_len]; omega) (hS3.lt hlt2)
    have HR3 := Lib.hid hr
    clear hr hd' hS3
    go_wp2_with fail
    go_ret
    exact ⟨some ⟨g, 0, none⟩, cap, by simp [sd], HR3.out, (hb1.trans hb2).trans hb3⟩

end Go.Proofs.YtbkkegnmlhhpcaaDoor
