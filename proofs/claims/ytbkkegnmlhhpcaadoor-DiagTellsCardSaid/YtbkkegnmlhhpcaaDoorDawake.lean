/-
  The chapter's example holds. By an AI agent.
-/
import Derived.Test.YtbkkegnmlhhpcaaDoorDlines
import Derived.Lib.SlBytesConst
namespace Go.Proofs.YtbkkegnmlhhpcaaDoor
open Go.RowKit Go.Sort Go.Lib Go.Proofs

theorem sd_one (x : Fnd) : sd [x] = [x] := pair_unique (sd_pair _) (by simp) (by simp [mem_sd])
theorem itoaB_one : itoaB 1 = ⟨#[49]⟩ := by
  simp [itoaB, Lib.itoa, decDigits_one]
theorem awake_line (A : Option Addr) (c : Nat) : lineOf [(⟨#[97, 46, 103, 111]⟩, A, c, ⟨#[120]⟩)] (⟨#[116, 121, 112, 101]⟩, ⟨#[97, 46, 103, 111]⟩, 0) = ⟨#[97, 46, 103, 111, 58, 49, 58, 49, 58, 32, 116, 121, 112, 101]⟩ := by
  have hp : linePos [(⟨#[97, 46, 103, 111]⟩, A, c, ⟨#[120]⟩)] (⟨#[116, 121, 112, 101]⟩, ⟨#[97, 46, 103, 111]⟩, 0) = (1, 1) := by kernel_rfl
  have hn : lineName (⟨#[116, 121, 112, 101]⟩, ⟨#[97, 46, 103, 111]⟩, 0) = ⟨#[97, 46, 103, 111]⟩ := by decide +kernel
  unfold lineOf
  rw [hp, hn]
  unfold lineB
  simp only [itoaB_one]
  decide +kernel

set_option maxRecDepth 100000 in
set_option maxHeartbeats 1000000 in
theorem awake_any (w : World) (ht : Tab w) : Calls Tryd.prog 8 #[] w fun e w' => e = .returned (.bool true) ∧ Below w.heap.size w w' := by
  have kc := fun (w : World) (C : Array Value) (n c : Nat) => Lib.run_convert_bytes_const (P := Tryd.prog) w 33 5 C n c Tryd.underlying33 Tryd.underlying5
  have HT := Lib.hid ht
  clear ht
  go_enter Tryd.func8, Tryd.ntmps8
  go_wp2_with fail
  have b0 := heap_past (heap_past (heap_new_at (rfl : w.heap.size = w.heap.size) (.cells #[.int .u8 120] 5 (1, 2))) (.cells #[.string ⟨#[97, 46, 103, 111]⟩, .slice (some ⟨w.heap.size, 0, none⟩) 1 1] 36)) (.cells #[.string ⟨#[116, 121, 112, 101]⟩, .string ⟨#[97, 46, 103, 111]⟩, .int .i64 0] 28)
  have b1 := heap_past (heap_new_at (w := w.alloc (.cells #[.int .u8 120] 5 (1, 2))) (n := w.heap.size + 1) (by simp) (.cells #[.string ⟨#[97, 46, 103, 111]⟩, .slice (some ⟨w.heap.size, 0, none⟩) 1 1] 36)) (.cells #[.string ⟨#[116, 121, 112, 101]⟩, .string ⟨#[97, 46, 103, 111]⟩, .int .i64 0] 28)
  have b2 := heap_new_at (w := (w.alloc (.cells #[.int .u8 120] 5 (1, 2))).alloc (.cells #[.string ⟨#[97, 46, 103, 111]⟩, .slice (some ⟨w.heap.size, 0, none⟩) 1 1] 36)) (n := w.heap.size + 1 + 1) (by simp) (.cells #[.string ⟨#[116, 121, 112, 101]⟩, .string ⟨#[97, 46, 103, 111]⟩, .int .i64 0] 28)
  have hb := ((((Below.refl _ w).alloc (Nat.le_refl _) (.cells #[.int .u8 120] 5 (1, 2))).alloc (by simp) (.cells #[.string ⟨#[97, 46, 103, 111]⟩, .slice (some ⟨w.heap.size, 0, none⟩) 1 1] 36))).alloc (by simp; omega) (.cells #[.string ⟨#[116, 121, 112, 101]⟩, .string ⟨#[97, 46, 103, 111]⟩, .int .i64 0] 28)
  have hs : (((w.alloc (.cells #[.int .u8 120] 5 (1, 2))).alloc (.cells #[.string ⟨#[97, 46, 103, 111]⟩, .slice (some ⟨w.heap.size, 0, none⟩) 1 1] 36)).alloc (.cells #[.string ⟨#[116, 121, 112, 101]⟩, .string ⟨#[97, 46, 103, 111]⟩, .int .i64 0] 28)).heap.size = w.heap.size + 3 := by simp
  generalize ((w.alloc (.cells #[.int .u8 120] 5 (1, 2))).alloc (.cells #[.string ⟨#[97, 46, 103, 111]⟩, .slice (some ⟨w.heap.size, 0, none⟩) 1 1] 36)).alloc (.cells #[.string ⟨#[116, 121, 112, 101]⟩, .string ⟨#[97, 46, 103, 111]⟩, .int .i64 0] 28) = W at b0 b1 b2 hb hs ⊢
  refine (lines_any (some ⟨w.heap.size + 1, 0, none⟩) (some ⟨w.heap.size + 1 + 1, 0, none⟩) 1 1 1 1 [(⟨#[97, 46, 103, 111]⟩, some ⟨w.heap.size, 0, none⟩, 1, ⟨#[120]⟩)] [(⟨#[116, 121, 112, 101]⟩, ⟨#[97, 46, 103, 111]⟩, 0)] W rfl (by omega) rfl (by omega)
    (reads_of_block b1 rfl (by omega)) ?_ (reads_of_block b2 rfl (by omega)) ?_ (tab_below HT.out hb)).mono ?_
  · intro x hx
    obtain rfl := List.mem_singleton.1 hx
    exact ⟨reads_of_block b0 rfl (by omega), by show (1 : Nat) ≤ 100000; decide⟩
  · intro x hx
    obtain rfl := List.mem_singleton.1 hx
    exact ⟨by decide, by decide⟩
  rw [sd_one, List.map_singleton, awake_line]
  rintro e w1 ⟨v, rfl, hown, hb1⟩
  obtain ⟨g, cap, rfl, hg, hlt⟩ := hown.form (by decide)
  have c0 := hown.cellAt 0 (by decide)
  simp only [encB, List.flatMap_cons, List.flatMap_nil, List.append_nil, List.getElem?_cons_zero] at c0
  have HB := Lib.hid (hb.trans (hb1.mono (by omega)))
  clear hb hb1 hown b0 b1 b2
  simp only [List.length_singleton]
  go_wp2_with fail
  go_ret
  exact ⟨rfl, HB.out⟩
end Go.Proofs.YtbkkegnmlhhpcaaDoor
