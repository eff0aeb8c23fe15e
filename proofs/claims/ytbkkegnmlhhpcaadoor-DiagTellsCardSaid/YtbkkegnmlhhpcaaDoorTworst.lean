/-
  The document's own worst tag. By an AI agent.
-/
import Derived.Test.YtbkkegnmlhhpcaaDoorTahead
namespace Go.Proofs.YtbkkegnmlhhpcaaDoor
open Go.RowKit Go.Sort Go.Lib Go.Proofs
attribute [local go_sem ↓] Go.wp_at_zero Go.wp_at_succ

def tagsA : Array Value := #[.string ⟨#[109, 111, 100]⟩, .string ⟨#[110, 97, 109, 101]⟩, .string ⟨#[115, 121, 110, 116, 97, 120]⟩, .string ⟨#[111, 116, 104, 101, 114]⟩, .string ⟨#[103, 97, 116, 101]⟩, .string ⟨#[116, 121, 112, 101]⟩, .string ⟨#[108, 105, 109, 105, 116]⟩]
theorem tagsA_get : ∀ i : Nat, i < 7 → ∃ t : ByteArray, tagsA[i]? = some (.string t) ∧ tags.drop i = t :: tags.drop (i + 1) ∧ (∀ h : i < tags.length, tags[i] = t)
  | 0, _ => ⟨_, rfl, rfl, fun _ => rfl⟩
  | 1, _ => ⟨_, rfl, rfl, fun _ => rfl⟩
  | 2, _ => ⟨_, rfl, rfl, fun _ => rfl⟩
  | 3, _ => ⟨_, rfl, rfl, fun _ => rfl⟩
  | 4, _ => ⟨_, rfl, rfl, fun _ => rfl⟩
  | 5, _ => ⟨_, rfl, rfl, fun _ => rfl⟩
  | 6, _ => ⟨_, rfl, rfl, fun _ => rfl⟩
  | i + 7, h => absurd h (by omega)

theorem hasTag_none {l : List Fnd} {t : ByteArray} (h : ∀ j (h : j < l.length), l[j].1 ≠ t) : hasTag l t = false := by
  rw [Bool.eq_false_iff]
  intro hx
  simp only [hasTag, List.any_eq_true, decide_eq_true_eq] at hx
  obtain ⟨x, hx, e⟩ := hx
  obtain ⟨j, hj, rfl⟩ := List.mem_iff_getElem.1 hx
  exact h j hj e
theorem hasTag_some {l : List Fnd} {t : ByteArray} (j : Nat) (hj : j < l.length) (e : l[j].1 = t) : hasTag l t = true := by
  simp only [hasTag, List.any_eq_true, decide_eq_true_eq]
  exact ⟨l[j], List.getElem_mem hj, e⟩

set_option maxRecDepth 100000 in
set_option maxHeartbeats 4000000 in
theorem refWorst_any (A : Option Addr) (n c : Nat) (l : List Fnd) (w : World) (hl : l.length = n) (hn : n ≤ 1000) (h : Reads w w.heap.size 3 A n (l.flatMap encF)) :
    Calls Tryd.prog 13 #[.slice A n c] w fun e w' => e = .returned (.string (worstOf l)) ∧ Below w.heap.size w w' := by
  have HR := Lib.hid h
  have HL := Lib.hid hl
  have HT0 := Lib.hid (Blk.new w 9 tagsA)
  have HB0 := Lib.hid ((Below.refl w.heap.size w).alloc (Nat.le_refl _) (.cells tagsA 9))
  have hsz := World.size_alloc w (.cells tagsA 9)
  clear h hl
  go_enter Tryd.func13, Tryd.ntmps13
  go_wp2_with fail
  change Hid (Blk (w.alloc (.cells tagsA 9)) w.heap.size 9 tagsA) at HT0
  unfold tagsA at HT0 HB0 hsz
  generalize w.alloc (.cells _ 9) = w1 at HT0 HB0 hsz ⊢
  generalize hg : w.heap.size = g at HT0 HB0 hsz ⊢
  rw [hg] at HR
  have HR1 := Lib.hid (HR.out.below HB0.out)
  go_loopw [4] (fun i wr => ∃ a : Nat, a ≤ 7 ∧ i = .int .i64 a ∧ (∀ j (h : j < tags.length), j < a → hasTag l tags[j] = false) ∧ Below w1.heap.size w1 wr) (fun i _ => 7 - (RowKit.intOf i).toNat)
  case atStart => exact ⟨0, Nat.zero_le _, rfl, fun j _ h => absurd h (by omega), Below.refl _ _⟩
  case round =>
    obtain ⟨a, ha, rfl, hno, hb⟩ := hrel
    have HNO := Lib.hid hno
    have HB := Lib.hid hb
    clear hno hb
    by_cases hlt : a < 7
    · obtain ⟨t, ht, htd, hti⟩ := tagsA_get a hlt
      have HTD := Lib.hid htd
      have HTI := Lib.hid hti
      have htc := HT0.out.cell a
      replace htc := htc.trans (show tagsA[a]? = _ from ht)
      have HTC := Lib.hid htc
      clear ht htd hti htc
      have hg1 : g < w1.heap.size := by omega
      go_wp2_with fail
      go_loopw [5] (fun i wx => ∃ b : Nat, b ≤ n ∧ i = .int .i64 b ∧ (∀ j (h : j < l.length), j < b → l[j].1 ≠ t) ∧ Below w1.heap.size w1 wx) (fun i _ => n - (RowKit.intOf i).toNat)
      case atStart => exact ⟨0, Nat.zero_le _, rfl, fun j _ h => absurd h (by omega), HB.out⟩
      case round =>
        obtain ⟨b, hb, rfl, hnb, hbx⟩ := hrel
        have HNB := Lib.hid hnb
        have HBX := Lib.hid hbx
        clear hnb hbx
        by_cases hlb : b < n
        · obtain ⟨bl, off, rfl, hbB, hc⟩ := HR1.out.el encF_len (by omega) HL.out hlb
          have hkx : b < l.length := by rw [HL.out]; exact hlb
          have hxx := hc b hkx
          have g0 := (HBX.out.cell (p := ⟨bl, off + b * 3, none⟩) (by show bl < _; omega)).trans (hxx 0 _ rfl)
          have g1 := (HBX.out.cell (p := ⟨g, a, none⟩) hg1).trans HTC.out
          have HX := Lib.hid (show l[b].1 = l[b].1 from rfl)
          generalize hxt : l[b].1 = xt at g0
          have HXT := Lib.hid hxt
          clear hc hxx hxt HX
          have p0 : (0 : Int) ≤ (b : Int) := by omega
          have p1 : (b : Int) < (n : Int) := by omega
          have p2 : (0 : Int) ≤ (a : Int) := by omega
          have p3 : (a : Int) < 7 := by omega
          by_cases he : xt = t
          · have H1 : (xt.toList == t.toList) = true := by rw [toList_beq]; simpa using he
            go_wp2_with fail
            go_quiet (fail)
            go_wp2_with fail
            go_ret
            refine ⟨?_, ?_⟩
            · have h1 := hasTag_some b hkx (HXT.out.trans he)
              rw [worstOf, worstIn_drop l tags a HNO.out, HTD.out, worstIn, if_pos h1]
              rfl
            · rw [hg]; exact below_drewN (HB0.out.trans (HBX.out.mono (by omega))) _
          · have H1 : (xt.toList == t.toList) = false := by rw [toList_beq]; simpa using he
            have HNE := Lib.hid he
            clear he
            go_wp2_with fail
            go_quiet (fail)
            go_wp2_with fail
            go_roundw
            case rel =>
              refine ⟨b + 1, by omega, by go_num, fun j hj hjb => ?_, below_drewN HBX.out _⟩
              rcases Nat.lt_or_ge j b with h | h
              · exact HNB.out j hj h
              · obtain rfl : j = b := by omega
                rw [HXT.out]
                exact HNE.out
            case measure => simp [RowKit.intOf]; omega
        · have HNT := Lib.hid (hasTag_none fun j hj => HNB.out j hj (by have := HL.out; omega))
          go_wp2_with fail
          go_roundw
          case rel =>
            refine ⟨a + 1, by omega, by go_num, fun j hj hja => ?_, HBX.out⟩
            rcases Nat.lt_or_ge j a with h | h
            · exact HNO.out j hj h
            · obtain rfl : j = a := by omega
              rw [HTI.out hj]
              exact HNT.out
          case measure => simp [RowKit.intOf]; omega
    · go_wp2_with fail
      go_ret
      refine ⟨?_, ?_⟩
      · rw [worstOf, worstIn_drop l tags a HNO.out, show a = 7 by omega]
        rfl
      · rw [hg]; exact HB0.out.trans (HB.out.mono (by omega))
end Go.Proofs.YtbkkegnmlhhpcaaDoor
