/-
  The contract of diag.Lines. By an AI agent.
-/
import Derived.Test.YtbkkegnmlhhpcaaDoorDsort
import Derived.Test.YtbkkegnmlhhpcaaDoorModPlace
import Derived.Deep.DeepCutAuto
import Derived.Deep.RegionHeld3
import Derived.Shelf.Strconv.Itoa3
import Derived.Lib.ItoaLen
namespace Go.Proofs.YtbkkegnmlhhpcaaDoor
open Go.RowKit Go.Sort Go.Lib Go.Proofs
attribute [local go_sem ↓] Go.wp_at_zero Go.wp_at_succ

/-- strconv's table of powers reads as its initialiser lays it. -/
def Tab (w : World) : Prop := Lib.TabIs Tryd.prog w "internal/strconv.uint64pow10" .u64 Lib.pow10Tab
theorem gTab : Tryd.prog.globalNamed "internal/strconv.uint64pow10" = some 0 := by kernel_rfl
theorem tab_below {w w' : World} (h : Tab w) (hb : Below w.heap.size w w') : Tab w' := by
  unfold Tab Lib.TabIs World.var? at h ⊢
  rw [gTab] at h ⊢
  simp only [Option.bind_some] at h ⊢
  have hlt : 0 < w.heap.size := by
    rcases Nat.lt_or_ge 0 w.heap.size with h' | h'
    · exact h'
    · rw [Array.getElem?_eq_none h'] at h; cases h
  rw [hb.block 0 hlt]
  exact h
theorem grow_below (w : World) (k : Nat) (os : Array Obj) : Below w.heap.size w (Go.Sort.grow (w.drewN k) os) :=
  ⟨rfl, rfl, rfl, by rw [size_grow]; exact Nat.le_add_right _ _, fun j hj => heap_grow_old _ _ hj⟩

/-- A number in decimal. -/
def itoaB (n : Int) : ByteArray := ⟨(Lib.itoa n).toArray⟩
theorem itoaB_size (n : Int) (h0 : -9223372036854775808 ≤ n) (h1 : n ≤ 9223372036854775807) : (itoaB n).size ≤ 21 := by
  have := Lib.itoa_length_le n h0 h1
  simpa [itoaB, ByteArray.size] using this
theorem itoa_any (n : Int) (w : World) (h0 : 0 ≤ n) (h1 : n ≤ 200000) (ht : Tab w) :
    Calls Tryd.prog 24 #[.int .i64 n] w fun e w' => e = .returned (.string (itoaB n)) ∧ Below w.heap.size w w' := by
  have h := Any.strconv_Itoa Tryd.laysM171 n (by omega) (by omega) w ht
  change Calls Tryd.prog 24 _ _ _ at h
  exact h.mono fun e w' ⟨he, k, os, hw⟩ => ⟨he, by rw [hw]; exact grow_below w k os⟩

theorem placeGo_bd (s : ByteArray) (n : Nat) : ∀ (f i : Nat) (p : Int × Int), 1 ≤ p.1 → 1 ≤ p.2 → p.1 ≤ i + 1 → p.2 ≤ i + 1 → i ≤ s.size → 1 ≤ (placeGo s n f i p).1 ∧ 1 ≤ (placeGo s n f i p).2 ∧ (placeGo s n f i p).1 ≤ s.size + 1 ∧ (placeGo s n f i p).2 ≤ s.size + 1
  | 0, i, p, a, b, c, d, h => ⟨a, b, by show p.1 ≤ _; omega, by show p.2 ≤ _; omega⟩
  | f + 1, i, p, a, b, c, d, h => by
    rw [placeGo]
    split
    · exact ⟨a, b, by omega, by omega⟩
    · rename_i hn
      have hd := decode_in s i (by omega)
      refine placeGo_bd s n f _ _ ?_ ?_ ?_ ?_ hd.2 <;> (unfold stepP; split <;> simp <;> omega)
theorem placeOf_bd (s : ByteArray) (n : Int) : placeOf s n = (0, 0) ∨ (1 ≤ (placeOf s n).1 ∧ 1 ≤ (placeOf s n).2 ∧ (placeOf s n).1 ≤ s.size + 1 ∧ (placeOf s n).2 ≤ s.size + 1) := by
  unfold placeOf
  split
  · exact .inl rfl
  · exact .inr (placeGo_bd s _ _ 0 (1, 1) (by simp) (by simp) (by simp) (by simp) (Nat.zero_le _))
theorem placeIn_bd (f : ByteArray) (n : Int) : ∀ xs : List Src, (∀ x ∈ xs, x.2.2.2.size ≤ 100000) → placeIn xs f n = (0, 0) ∨ (1 ≤ (placeIn xs f n).1 ∧ 1 ≤ (placeIn xs f n).2 ∧ (placeIn xs f n).1 ≤ 100001 ∧ (placeIn xs f n).2 ≤ 100001)
  | [], _ => .inl rfl
  | x :: xs, h => by
    rw [placeIn]
    split
    · have hx := h x (by simp)
      rcases placeOf_bd x.2.2.2 n with e | ⟨a, b, c, d⟩
      · exact .inl e
      · exact .inr ⟨a, b, by omega, by omega⟩
    · exact placeIn_bd f n xs (fun y hy => h y (by simp [hy]))

/-- The name of a finding's file, as it is told. -/
def lineName (x : Fnd) : ByteArray := if x.2.1 = ⟨#[]⟩ then ⟨#[103, 111, 46, 109, 111, 100]⟩ else x.2.1
/-- The place of a finding, as it is told. -/
def linePos (xs : List Src) (x : Fnd) : Int × Int :=
  let p := if x.2.1 = ⟨#[]⟩ then (0, 0) else placeIn xs x.2.1 x.2.2
  if p = (0, 0) then (1, 1) else p
/-- A line out of its parts. -/
def lineB (name : ByteArray) (p : Int × Int) (tag : ByteArray) : ByteArray :=
  name ++ ⟨#[58]⟩ ++ itoaB p.1 ++ ⟨#[58]⟩ ++ itoaB p.2 ++ ⟨#[58, 32]⟩ ++ tag
/-- The line of a finding. -/
def lineOf (xs : List Src) (x : Fnd) : ByteArray := lineB (lineName x) (linePos xs x) x.1
/-- The cell of a string. -/
def encB (s : ByteArray) : List Value := [.string s]
theorem encB_len (s : ByteArray) : (encB s).length = 1 := rfl
theorem info9 : (Tryd.prog.info? 9).map (fun i => (i.zero, i.size, i.bytes)) = some (some (.string ⟨#[]⟩), 1, 16) := by kernel_rfl

theorem linePos_bd (xs : List Src) (x : Fnd) (h : ∀ y ∈ xs, y.2.2.2.size ≤ 100000) : 1 ≤ (linePos xs x).1 ∧ 1 ≤ (linePos xs x).2 ∧ (linePos xs x).1 ≤ 100001 ∧ (linePos xs x).2 ≤ 100001 := by
  unfold linePos
  by_cases he : x.2.1 = ⟨#[]⟩
  · simp [he]
  · simp only [he, if_false]
    rcases placeIn_bd x.2.1 x.2.2 xs h with e | ⟨a, b, c, d⟩
    · simp [e]
    · rw [if_neg (fun e => by rw [e] at a; simp at a)]
      exact ⟨a, b, c, d⟩

/-- What is known while a line is put together. -/
structure H10 (w1 : World) (P F : Nat) (l c : Int) (t : ByteArray) (v : Value) (k : Nat) (xs : List Value) (W : World) : Prop where
  c0 : W.cell? ⟨P, 0, none⟩ = some (.int .i64 l)
  c1 : W.cell? ⟨P, 1, none⟩ = some (.int .i64 c)
  c2 : W.cell? ⟨F, 0, none⟩ = some (.string t)
  own : W.ownsRow w1.heap.size 9 1 v k xs
  bel : Below w1.heap.size w1 W
  tab : Tab W
theorem cell_kept {w w' : World} (hb : Below w.heap.size w w') {a : Addr} {v : Value} (hc : w.cell? a = some v) : w'.cell? a = some v := (hb.cell (World.block_lt_of_cell? w a hc)).trans hc
theorem own_kept {w w' : World} {base : Nat} {e : TypeId} {size : Nat} {v : Value} {n : Nat} {xs : List Value} (h : w.ownsRow base e size v n xs) (hb : Below w.heap.size w w') : w'.ownsRow base e size v n xs :=
  h.kept (grownBy_of_below none hb) (by cases v.ownBlock <;> simp)
theorem own_base {w : World} {base base' : Nat} {e : TypeId} {size : Nat} {v : Value} {n : Nat} {xs : List Value} (h : w.ownsRow base e size v n xs) (hb : base' ≤ base) : w.ownsRow base' e size v n xs := by
  obtain ⟨h1, h2⟩ := h
  refine ⟨h1, ?_⟩
  rcases h2 with h2 | ⟨g, cap, cur, a, b, r⟩
  · exact .inl h2
  · exact .inr ⟨g, cap, cur, a, Nat.le_trans hb b, r⟩
section
variable {w1 : World} {P F : Nat} {l c : Int} {t : ByteArray} {v : Value} {k : Nat} {xs : List Value} {W w' : World}
theorem H10.call (h : H10 w1 P F l c t v k xs W) (hb : Below W.heap.size W w') : H10 w1 P F l c t v k xs w' :=
  ⟨cell_kept hb h.c0, cell_kept hb h.c1, cell_kept hb h.c2, own_kept h.own hb, h.bel.trans (hb.mono h.bel.size), tab_below h.tab hb⟩
theorem H10.cells (h : H10 w1 P F l c t v k xs W) : W.cell? ⟨P, 0, none⟩ = some (.int .i64 l) ∧ W.cell? ⟨P, 1, none⟩ = some (.int .i64 c) ∧ W.cell? ⟨F, 0, none⟩ = some (.string t) := ⟨h.c0, h.c1, h.c2⟩
theorem H10.alloc (h : H10 w1 P F l c t v k xs W) (o : Obj) : H10 w1 P F l c t v k xs (W.alloc o) := h.call ((Below.refl _ _).alloc (Nat.le_refl _) o)
theorem H10.drew (h : H10 w1 P F l c t v k xs W) : H10 w1 P F l c t v k xs W.drew := h.call (Below.refl _ _).drew
end

theorem str_add (a b : ByteArray) (h : a.size + b.size ≤ 9223372036854775807) : ∃ c, c = a ++ b ∧ c.size = a.size + b.size ∧ ∀ W, (Op.stringOp .add a b).run Tryd.prog W = .ok (.string c) W :=
  ⟨_, rfl, ByteArray.size_append, fun W => run_string_add_sum W a b h⟩

theorem isEmpty_dec (f : ByteArray) : f.toList.isEmpty = decide (f = ⟨#[]⟩) := by
  have h := toList_beq f ⟨#[]⟩
  rw [← h]
  have e : (⟨#[]⟩ : ByteArray).toList = [] := by rw [ByteArray.toList_eq]
  rw [e]
  cases f.toList <;> rfl

set_option maxRecDepth 100000 in
set_option maxHeartbeats 4000000 in
theorem lines_any (A A2 : Option Addr) (n c m c2 : Nat) (xs : List Src) (l : List Fnd) (w : World) (hl : xs.length = n) (hn : n ≤ 1000) (hm : l.length = m) (hm2 : m ≤ 1000) (h : Reads w w.heap.size 2 A n (xs.flatMap encS)) (hx : SrcOk w w.heap.size xs)
    (hf : Reads w w.heap.size 3 A2 m (l.flatMap encF)) (hs : ∀ x ∈ l, x.1.size ≤ 1000000000000000 ∧ x.2.1.size ≤ 1000000000000000) (ht : Tab w) :
    Calls Tryd.prog 10 #[.slice A n c, .slice A2 m c2] w fun e w' => ∃ v, e = .returned v ∧ w'.ownsRow w.heap.size 9 1 v (sd l).length (((sd l).map (lineOf xs)).flatMap encB) ∧ Below w.heap.size w w' := by
  obtain ⟨i0, hi, hz0, hz1, hz2⟩ := info_parts info9
  have HR := Lib.hid h
  have HL := Lib.hid hl
  have HX := Lib.hid hx
  have HM := Lib.hid hm
  have HF := Lib.hid hf
  have HT := Lib.hid ht
  have HS := Lib.hid (show ∀ x ∈ sd l, x.1.size ≤ 1000000000000000 ∧ x.2.1.size ≤ 1000000000000000 from fun x hx => hs x (mem_sd.1 hx))
  have HSL := Lib.hid (show (sd l).length ≤ m by rw [← hm]; exact sd_len l)
  clear h hl hx hm hf ht hs
  go_enter Tryd.func10, Tryd.ntmps10
  go_wp2_with fail
  refine (sorted_any A2 m c2 l w HM.out hm2 HF.out).mono ?_
  rintro e w1 ⟨A3, c3, he, hr3, hb1⟩
  subst he
  have HR3 := Lib.hid hr3
  have HB1 := Lib.hid hb1
  clear hr3 hb1
  generalize hsl : sd l = sl at HS HSL HR3 ⊢
  have HSD := Lib.hid hsl
  clear hsl
  generalize hq : sl.length = q at HSL HR3 ⊢
  have HQ := Lib.hid hq
  have hq2 : q ≤ 1000 := Nat.le_trans HSL.out hm2
  clear hq
  go_wp2_with fail
  go_loopg [5, 13] q (fun g o i wr => ∃ k : Nat, k ≤ q ∧ q - k ≤ g ∧ i = .int .i64 k ∧ wr.ownsRow w1.heap.size 9 1 o k (((sl.take k).map (lineOf xs)).flatMap encB) ∧ Below w1.heap.size w1 wr)
  case atStart => exact ⟨0, Nat.zero_le _, Nat.le_refl _, rfl, by simpa using World.ownsRow_nil w1 _ _ _, Below.refl _ _⟩
  case round =>
    obtain ⟨k, hk, hg, rfl, hown, hb⟩ := hrel
    have HB := Lib.hid hb
    have HOWN := Lib.hid hown
    have hbs := hb.size
    have hbs0 := HB1.out.size
    clear hb hown
    by_cases hlt : k < q
    · obtain ⟨b, off, rfl, hbB, hc⟩ := HR3.out.el encF_len (by omega) HQ.out hlt
      have hkx : k < sl.length := by rw [HQ.out]; exact hlt
      have hxx := hc k hkx
      have HTK := Lib.hid (flat_take_succ (enc := encB) (sl.map (lineOf xs)) k (by simpa using hkx))
      have HSZ := Lib.hid (HS.out sl[k] (List.getElem_mem hkx))
      rw [List.getElem_map, ← List.map_take, ← List.map_take] at HTK
      generalize sl[k] = x at hxx HTK HSZ
      obtain ⟨t, f, a⟩ := x
      have c0 : wr.cell? ⟨b, off + k * 3, none⟩ = some (.string t) := (HB.out.cell (p := ⟨b, off + k * 3, none⟩) hbB).trans (hxx 0 _ rfl)
      have c1 : wr.cell? ⟨b, off + k * 3 + 1, none⟩ = some (.string f) := (HB.out.cell (p := ⟨b, off + k * 3 + 1, none⟩) hbB).trans (hxx 1 _ rfl)
      have c2' : wr.cell? ⟨b, off + k * 3 + 2, none⟩ = some (.int .i64 a) := (HB.out.cell (p := ⟨b, off + k * 3 + 2, none⟩) hbB).trans (hxx 2 _ rfl)
      clear hc hxx
      have hbr : b < wr.heap.size := by omega
      go_upto_region 5 with fail
      have HBW := Lib.hid (HB.out.alloc hbs (.cells #[.string t, .string f, .int .i64 a] 28))
      have HFB := Lib.hid (Blk.new wr 28 #[.string t, .string f, .int .i64 a])
      have HOW := Lib.hid (HOWN.out.alloc (.cells #[.string t, .string f, .int .i64 a] 28))
      have HSW := Lib.hid (show (wr.alloc (.cells #[.string t, .string f, .int .i64 a] 28)).heap.size = wr.heap.size + 1 by simp)
      have g0 := HFB.out.cell 0
      have g1 := HFB.out.cell 1
      have g2 := HFB.out.cell 2
      simp only [List.getElem?_toArray, List.getElem?_cons_zero, List.getElem?_cons_succ] at g0 g1 g2
      have hFlt := HFB.out.lt
      generalize hF : wr.heap.size = F at g0 g1 g2 hFlt HFB HSW hbs hbr ⊢
      have HFE := Lib.hid hF
      clear hF c0 c1 c2'
      generalize wr.alloc (.cells #[.string t, .string f, .int .i64 a] 28) = W1 at HBW HFB HOW HSW g0 g1 g2 hFlt ⊢
      have hWs := HSW.out
      have HWW := Lib.hid hWs
      clear hWs
      go_cut [8, 9] (fun s8 s9 wx => ∃ P : Nat, s8 = .string f ∧ s9 = .pointer (some ⟨P, 0, none⟩) ∧ Blk wx P 54 #[.int .i64 (placeIn xs f a).1, .int .i64 (placeIn xs f a).2] ∧ F + 1 ≤ P ∧ Below (F + 1) W1 wx)
      case first =>
        have HC : Hid (∀ W, Below W1.heap.size W1 W → Calls Tryd.prog 23 #[.slice A n c, .agg #[.string t, .string f, .int .i64 a]] W fun e w' => e = .returned (.agg #[.int .i64 (placeIn xs f a).1, .int .i64 (placeIn xs f a).2]) ∧ Below W1.heap.size W1 w' ∧ Below W.heap.size W w') := Lib.hid (fun W hW => by
          have hle : w.heap.size ≤ W1.heap.size := by have := HWW.out; omega
          have hb0 : Below w.heap.size w W := (HB1.out.trans (HBW.out.mono hbs0)).trans (hW.mono hle)
          exact (modPlace_any A n c xs t f a W HL.out hn ((HR.out.below hb0).more hb0.size) (fun x hx => ⟨((HX.out x hx).1.below hb0).more hb0.size, (HX.out x hx).2⟩)).mono fun e w' ⟨h1, h2⟩ => ⟨h1, hW.trans (h2.mono hW.size), h2⟩)
        have hn1 : F ≠ W1.heap.size := Nat.ne_of_lt hFlt
        go_region_held3 (fun w' => w'.cell? ⟨F, 0, none⟩ = some (.string t) ∧ w'.cell? ⟨F, 1, none⟩ = some (.string f) ∧ w'.cell? ⟨F, 2, none⟩ = some (.int .i64 a))
          (first | (go_keep; done) | (refine ⟨?_, ?_, ?_⟩ <;> first | (rw [hb2.cell (by exact hFlt)]; first | exact g0 | exact g1 | exact g2) | (rw [World.cell?_alloc_lt _ _ _ (by exact hl2), hb2.cell (by exact hFlt)]; first | exact g0 | exact g1 | exact g2) | (rw [World.cell?_alloc_lt _ _ _ (by exact hFlt)]; first | exact g0 | exact g1 | exact g2) | (rw [World.cell?_setCell_far _ _ _ _ (Ne.symm hn1), World.cell?_setCell_far _ _ _ _ (Ne.symm hn1), hb2.cell (by exact hFlt)]; first | exact g0 | exact g1 | exact g2)))
          (first | (go_at_call 23; refine (HC.out _ ?_).mono ?_; (first | exact (Below.refl _ _).drew | exact ((Below.refl _ _).alloc (Nat.le_refl _) _).drew); rintro e w' ⟨rfl, hb2, hb3⟩; have hl2 : F < w'.heap.size := Nat.lt_of_lt_of_le hFlt hb2.size; (try (obtain ⟨k0, k1, k2, k3⟩ := blk2_facts (((Blk.new W1 54 #[.int .i64 0, .int .i64 0]).drew).below hb3 (by simp)))); have HB3 := Lib.hid hb3; clear hb3))
        all_goals
          go_wp2_with fail
          go_meet
          have hle : F + 1 ≤ W1.heap.size := by have := HWW.out; omega
        · exact ⟨w'.heap.size, rfl, rfl, Blk.new w' _ _, Nat.le_trans hle hb2.size, (hb2.mono hle).alloc (Nat.le_trans hle hb2.size) _⟩
        · exact ⟨W1.heap.size, rfl, rfl, ((((Blk.new W1 54 #[.int .i64 0, .int .i64 0]).drew).below HB3.out (by simp)).set_ 0 _).set_ 1 _, hle, ((hb2.mono hle).setCell hle _).setCell hle _⟩
      case rest =>
        obtain ⟨P, rfl, rfl, hP, hPF, hbx⟩ := hcut
        have HP := Lib.hid hP
        have HBX := Lib.hid hbx
        obtain ⟨p0, p1, p2, p3⟩ := blk2_facts hP
        clear hP hbx
        go_upto_if 23 with fail
        go_cut [8] (fun s8 wx => ∃ p : Int × Int, s8 = .string (lineName (t, f, a)) ∧ p = (if f = ⟨#[]⟩ then (0, 0) else placeIn xs f a) ∧ Blk wx P 54 #[.int .i64 p.1, .int .i64 p.2] ∧ Below (F + 1) W1 wx)
        case first =>
          by_cases hf : f = ⟨#[]⟩
          · have hE : f.toList.isEmpty = true := by rw [isEmpty_dec]; simp [hf]
            have HN := Lib.hid (show lineName (t, f, a) = ⟨#[103, 111, 46, 109, 111, 100]⟩ by simp [lineName, hf])
            have HZ := Lib.hid (show ((0, 0) : Int × Int) = (if f = ⟨#[]⟩ then (0, 0) else placeIn xs f a) by simp [hf])
            clear hf
            rw [hE]
            go_wp2_with fail
            go_meet
            exact ⟨(0, 0), by rw [HN.out], HZ.out, (HP.out.set_ 0 _).set_ 1 _, (HBX.out.setCell hPF _).setCell hPF _⟩
          · have hE : f.toList.isEmpty = false := by rw [isEmpty_dec]; simp [hf]
            have HN := Lib.hid (show lineName (t, f, a) = f by simp [lineName, hf])
            have HZ := Lib.hid (show placeIn xs f a = (if f = ⟨#[]⟩ then (0, 0) else placeIn xs f a) by simp [hf])
            clear hf
            rw [hE]
            go_wp2_with fail
            go_meet
            exact ⟨placeIn xs f a, by rw [HN.out], HZ.out, HP.out, HBX.out⟩
        case rest =>
          clear HP HBX p0 p1 p2 p3
          obtain ⟨⟨pl, pc⟩, rfl, hp, hP, hbx⟩ := hcut
          have HPE := Lib.hid hp
          have HP := Lib.hid hP
          have HBX := Lib.hid hbx
          obtain ⟨p0, p1, p2, p3⟩ := blk2_facts hP
          simp only at p0 p1
          clear hP hbx hp
          have HPZ : Hid ((pl = 0 ∧ pc = 0) ∨ (1 ≤ pl ∧ 1 ≤ pc)) := by
            have e := HPE.out
            split at e
            · simp only [Prod.mk.injEq] at e; exact .inl e
            · rcases placeIn_bd f a xs (fun x hx => (HX.out x hx).2) with e2 | ⟨e2, e3, _, _⟩
              · rw [e2] at e; simp only [Prod.mk.injEq] at e; exact .inl e
              · rw [← e] at e2 e3; exact .inr ⟨e2, e3⟩
          go_upto_region 8 with fail
          go_cut [27] (fun s27 wx => s27 = .bool (decide (pl = 0)) ∧ wc = wx)
          case first =>
            rcases HPZ.out with ⟨rfl, rfl⟩ | ⟨h1, h2⟩
            · go_wp2_with fail
              go_meet
              exact ⟨rfl, rfl⟩
            · have e0 : decide (pl = 0) = false := by simp; omega
              have e1 : (pl == 0) = false := by simp; omega
              go_wp2_with fail
              go_meet
              exact ⟨by rw [e0], rfl⟩
          case rest =>
            obtain ⟨rfl, rfl⟩ := hcut
            go_upto_if 27 with fail
            go_cut [8] (fun s8 wx => ∃ p : Int × Int, s8 = .string (lineName (t, f, a)) ∧ p = linePos xs (t, f, a) ∧ Blk wx P 54 #[.int .i64 p.1, .int .i64 p.2] ∧ Below (F + 1) W1 wx)
            case first =>
              rcases HPZ.out with ⟨rfl, rfl⟩ | ⟨h1, h2⟩
              · rw [show decide ((0 : Int) = 0) = true from rfl]
                have HLP := Lib.hid (show (1, 1) = linePos xs (t, f, a) by unfold linePos; simp only [← HPE.out, if_true])
                go_wp2_with fail
                go_meet
                exact ⟨(1, 1), rfl, HLP.out, (HP.out.set_ 0 _).set_ 1 _, (HBX.out.setCell hPF _).setCell hPF _⟩
              · rw [show decide (pl = 0) = false by simp; omega]
                have HLP := Lib.hid (show (pl, pc) = linePos xs (t, f, a) by
                  unfold linePos
                  simp only [← HPE.out]
                  rw [if_neg (fun e => by simp only [Prod.mk.injEq] at e; omega)])
                go_wp2_with fail
                go_meet
                exact ⟨(pl, pc), rfl, HLP.out, HP.out, HBX.out⟩
            case rest =>
              clear HP HBX HPE HPZ p0 p1 p2 p3
              obtain ⟨⟨pl2, pc2⟩, rfl, hp, hP, hbx⟩ := hcut
              have hbd := linePos_bd xs (t, f, a) (fun x hx => (HX.out x hx).2)
              rw [← hp] at hbd
              obtain ⟨l1, l2, l3, l4⟩ := hbd
              simp only at l1 l2 l3 l4
              have HLO := Lib.hid (show lineB (lineName (t, f, a)) (pl2, pc2) t = lineOf xs (t, f, a) by rw [hp]; rfl)
              have HP := Lib.hid hP
              have HBX := Lib.hid hbx
              obtain ⟨p0, p1, p2, p3⟩ := blk2_facts hP
              simp only at p0 p1
              have hPx := hP.lt
              have f0 := (HFB.out.below hbx (by omega)).cell 0
              simp only [List.getElem?_toArray, List.getElem?_cons_zero] at f0
              clear hP hp hbx
              have HNM := Lib.hid (show (lineName (t, f, a)).size ≤ 1000000000000000 by
                unfold lineName
                split
                · simp [ByteArray.size]
                · exact HSZ.out.2)
              generalize lineName (t, f, a) = nm at HLO HNM ⊢
              go_upto_region 10 with fail
              have HH0 : H10 w1 P F pl2 pc2 t u5 k (((sl.take k).map (lineOf xs)).flatMap encB) wc := by
                have hb2 := HBX.out
                have e0 : w1.heap.size ≤ W1.heap.size := HBW.out.size
                have e1 := HWW.out
                have hbw : Below w1.heap.size w1 wc := HBW.out.trans (hb2.mono (by omega))
                exact ⟨p0, p1, f0, own_kept HOW.out (by rw [HWW.out]; exact hb2), hbw, tab_below (tab_below HT.out HB1.out) hbw⟩
              have s1 := itoaB_size pl2 (by omega) (by omega)
              have s2 := itoaB_size pc2 (by omega) (by omega)
              have s3 : t.size ≤ 1000000000000000 := HSZ.out.1
              have s4 : nm.size ≤ 1000000000000000 := HNM.out
              have l3' : pl2 ≤ 200000 := by omega
              have l4' : pc2 ≤ 200000 := by omega
              have l1' : 0 ≤ pl2 := by omega
              have l2' : 0 ≤ pc2 := by omega
              have hz : (⟨#[58]⟩ : ByteArray).size = 1 := rfl
              have hz2 : (⟨#[58, 32]⟩ : ByteArray).size = 2 := rfl
              obtain ⟨t1, e1, y1, z1⟩ := str_add nm ⟨#[58]⟩ (by omega)
              obtain ⟨t2, e2, y2, z2⟩ := str_add t1 (itoaB pl2) (by omega)
              obtain ⟨t3, e3, y3, z3⟩ := str_add t2 ⟨#[58]⟩ (by omega)
              obtain ⟨t4, e4, y4, z4⟩ := str_add t3 (itoaB pc2) (by omega)
              obtain ⟨t5, e5, y5, z5⟩ := str_add t4 ⟨#[58, 32]⟩ (by omega)
              obtain ⟨t6, e6, y6, z6⟩ := str_add t5 t (by omega)
              have HLL := Lib.hid (show t6 = lineOf xs (t, f, a) by rw [← HLO.out, e6, e5, e4, e3, e2, e1]; rfl)
              clear l1 l2 l3 l4 p2 p3 hPx g0 g1 g2 e1 e2 e3 e4 e5 e6 y1 y2 y3 y4 y5 y6 hz hz2
              have hne1 : u5.ownBlock ≠ some P := fun e => by have := (HOWN.out.lt P e).2; rw [HFE.out] at this; omega
              have hne2 : u5.ownBlock ≠ some F := fun e => by have := (HOWN.out.lt F e).2; rw [HFE.out] at this; omega
              have bP := World.block_lt_of_cell? wc _ p0
              have bF := World.block_lt_of_cell? wc _ f0
              simp only at bP bF
              go_region_held3 (fun w' => w'.cell? ⟨P, 0, none⟩ = some (.int .i64 pl2) ∧ w'.cell? ⟨P, 1, none⟩ = some (.int .i64 pc2) ∧ w'.cell? ⟨F, 0, none⟩ = some (.string t))
                (first
                  | exact (H10.drew HH0).cells
                  | exact hh.cells
                  | exact (H10.alloc hh _).cells
                  | exact ⟨(hgrow.cell_far _ (World.block_lt_of_cell? _ _ hha.c0) (Ne.symm hne1)).trans hha.c0, (hgrow.cell_far _ (World.block_lt_of_cell? _ _ hha.c1) (Ne.symm hne1)).trans hha.c1, (hgrow.cell_far _ (World.block_lt_of_cell? _ _ hha.c2) (Ne.symm hne2)).trans hha.c2⟩)
                (first
                  | (refine step_append_lies _ (by rfl) _ _ _ (by rfl) w1.heap.size 9 i0 _ 1 16 Tryd.underlying38 hi hz0 hz1 hz2 (by rfl) (by omega) u5 k _ (by rfl) ((H10.alloc hh _).own) _ 1 1 [.string t6] (by rfl) (by rfl) (World.news_of_block (cs := #[.string t6]) (heap_alloc_new _ _)) (by simp [Value.oneCell']) (by omega) (by unfold maxLen; omega) (by omega) (H10.alloc hh _).bel.size _ rfl ?_; intro gg cap w2 hown1 hgrow hat hlt1; have hha := H10.alloc hh (.cells #[.string t6] 9))
                  | (go_at_call 24; refine (itoa_any _ _ (by assumption) (by assumption) ?_).mono ?_; (first | exact hh.tab | exact (H10.drew HH0).tab); rintro e w' ⟨rfl, hb4⟩; first | have hh := H10.call hh hb4 | have hh := H10.call (H10.drew HH0) hb4))
              go_wp2_with fail
              go_roundg (q - (k + 1))
              case measure => omega
              case rel =>
                refine ⟨k + 1, by omega, Nat.le_refl _, by go_num, ?_, ?_⟩
                · rw [HTK.out, ← HLL.out]; exact hown1
                · exact hha.bel.grown hgrow hha.bel.size (fun j hj => (hha.own.lt j hj).1)
    · obtain rfl : k = q := by omega
      have HT2 := Lib.hid (show sl.take k = sl by rw [← HQ.out]; exact List.take_length)
      go_wp2_with fail
      go_ret
      have ho := own_base HOWN.out HB1.out.size
      rw [HT2.out] at ho
      refine ⟨_, rfl, ?_, HB1.out.trans (HB.out.mono hbs0)⟩
      rw [HSD.out, HQ.out]
      exact ho
end Go.Proofs.YtbkkegnmlhhpcaaDoor
