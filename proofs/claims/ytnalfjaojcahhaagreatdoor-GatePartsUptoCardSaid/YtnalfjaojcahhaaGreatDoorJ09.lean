/-
  The scanner: no note ahead; signs. By an AI agent.
  The scanner: line. By an AI agent.
  The scanner: next, at a blank. By an AI agent.
  The scanner: next, at a letter. By an AI agent.
  The scanner's steps, as a plain function; next at each. By an AI agent.
  place.Wrong at bytes that are all signs of one byte each; DecodeRune there. By an AI agent.
-/
import Derived.Test.YtnalfjaojcahhaaGreatDoorJ08
import Derived.Deep.RegionLaw
import Derived.Lib.SlBytesRow
namespace Go.Proofs.YtnalfjaojcahhaaGreatDoor
open Go.RowKit Go.Lib Go.Proofs
attribute [local go_sem ↓] Go.wp_at_zero Go.wp_at_succ

theorem hasPrefix_any (s p : ByteArray) (w : World) : Calls Tryz.prog 177 #[.string s, .string p] w fun e w' => e = .returned (.bool (Lib.hasPrefix s.data.toList p.data.toList)) ∧ w = w' :=
  (Any.strings_HasPrefix Tryz.laysPrefix s p w).mono fun _ _ h => ⟨h.1, h.2.symm⟩

set_option maxHeartbeats 2000000 in
theorem note_no (X : Nat) (s : ByteArray) (i : Nat) (l : List Tok) (nv : Value) (w : World) (h : ScAt w X s i l nv) (h1 : Lib.hasPrefix (s.data.toList.drop i) [47, 47] = false) (h2 : Lib.hasPrefix (s.data.toList.drop i) [47, 42] = false) :
    Calls Tryz.prog 178 #[.pointer (some ⟨X, 0, none⟩)] w fun e w' => e = .returned (.bool false) ∧ Below w.heap.size w w' := by
  obtain ⟨lv, hb, hO⟩ := h.out
  have hle := h.le
  have hmo := h.most
  obtain ⟨x0, x1, x2, x3, -, -, -, -⟩ := blk4 hb
  have p0 : (0 : Int) ≤ (i : Int) := by omega
  have p2 : (i : Int) ≤ (s.size : Int) := by omega
  have H1 := Lib.hid (fun w => hasPrefix_any (s.extract i s.size) ⟨#[47, 47]⟩ w)
  have H2 := Lib.hid (fun w => hasPrefix_any (s.extract i s.size) ⟨#[47, 42]⟩ w)
  rw [show (⟨#[47, 47]⟩ : ByteArray).data.toList = [47, 47] from rfl, extract_drop, h1] at H1
  rw [show (⟨#[47, 42]⟩ : ByteArray).data.toList = [47, 42] from rfl, extract_drop, h2] at H2
  clear h1 h2
  go_enter Tryz.func178, Tryz.ntmps178
  go_wp2_with fail
  go_quiet (fail)
  clear x0 x2 x3
  have y1 : (w.drewN nq).cell? ⟨X, 1, none⟩ = some (.int .i64 (i : Int)) := x1
  clear x1
  have hB := below_drewN (Below.refl w.heap.size w) nq
  generalize w.drewN nq = w1 at *
  go_wp2_with fail
  refine (H1.out _).mono ?_
  rintro e w2 ⟨rfl, rfl⟩
  go_wp2_with fail
  refine (H2.out _).mono ?_
  rintro e w2 ⟨rfl, rfl⟩
  go_wp2_with fail
  go_ret
  exact ⟨rfl, hB⟩

def row3 : ByteArray := (⟨#[60, 60, 61, 32, 62, 62, 61, 32, 38, 94, 61, 32, 46, 46, 46]⟩ : ByteArray)
def row2 : ByteArray := (⟨#[38, 38, 32, 124, 124, 32, 61, 61, 32, 33, 61, 32, 60, 61, 32, 62, 61, 32, 58, 61, 32, 43, 43, 32, 45, 45, 32, 43, 61, 32, 45, 61, 32, 42, 61, 32, 47, 61, 32, 37, 61, 32, 38, 61, 32, 124, 61, 32, 94, 61, 32, 60, 60, 32, 62, 62, 32, 38, 94, 32, 60, 45]⟩ : ByteArray)
def row1 : ByteArray := (⟨#[43, 32, 45, 32, 42, 32, 47, 32, 37, 32, 38, 32, 124, 32, 94, 32, 60, 32, 62, 32, 61, 32, 33, 32, 40, 32, 41, 32, 91, 32, 93, 32, 123, 32, 125, 32, 44, 32, 59, 32, 46, 32, 58, 32, 126]⟩ : ByteArray)
theorem results_arr {fn : Func} {q : Tmp} {ty : TypeId} (hfn : fn.results = #[.cell q 174]) (tmps : Array Value) {w : World} {g : Nat} {a b c : Value} (ht : tmps.getD q undef = .pointer (some ⟨g, 0, none⟩)) (hb : Blk w g ty #[a, b, c]) :
    (results fn tmps).run Tryz.prog w = .ok (.agg #[a, b, c]) w := by
  obtain ⟨d0, d1, d2⟩ := blk3 hb
  unfold results
  rw [hfn]
  have ht' : tmps[q]?.getD undef = .pointer (some ⟨g, 0, none⟩) := by simpa using ht
  simp [ht', go_sem, d0, d1, d2]
theorem signs_any (w : World) : Calls Tryz.prog 204 #[] w fun e w' => e = .returned (.agg #[.string row3, .string row2, .string row1]) ∧ Below w.heap.size w w' := by
  go_enter Tryz.func204, Tryz.ntmps204
  go_wp2_with fail
  refine bodyPost_ret (results_arr (ty := 174) rfl _ (g := w.heap.size) (by rfl) (a := .string row3) (b := .string row2) (c := .string row1) (Blk.new w _ _)) rfl ?_
  exact ⟨rfl, (Below.refl _ _).alloc (Nat.le_refl _) _⟩

theorem run_at3 (a b c : ByteArray) (i : Nat) (hi : i < 3) (w : World) : (Instr.index 174 (.agg #[.string a, .string b, .string c]) (.int .i64 (i : Int))).run Tryz.prog w = .ok (.string (if i = 0 then a else if i = 1 then b else c)) w := by
  rcases i with _ | _ | _ | i
  · simp [Instr.index, run_underlying Tryz.underlying174, asIntOf, go_sem]
  · simp [Instr.index, run_underlying Tryz.underlying174, asIntOf, go_sem]
  · simp [Instr.index, run_underlying Tryz.underlying174, asIntOf, go_sem]
  · omega

/-- Is a sign of so many bytes ahead? -/
def signB (row : ByteArray) (t : ByteArray) (n : Nat) : Bool := Lib.contains ((⟨#[32]⟩ ++ row ++ ⟨#[32]⟩ : ByteArray)).data.toList ((⟨#[32]⟩ ++ t.extract 0 n ++ ⟨#[32]⟩ : ByteArray)).data.toList

set_option maxRecDepth 100000 in
set_option maxHeartbeats 4000000 in
theorem sign_one (X : Nat) (s : ByteArray) (i : Nat) (l : List Tok) (nv : Value) (w : World) (h : ScAt w X s i l nv) (hT : Tab w) (hl : l.length + 1 ≤ 65537) (hi : i < s.size)
    (h3 : decide (3 ≤ s.size - i) = true → signB row3 (s.extract i s.size) 3 = false) (h2 : decide (2 ≤ s.size - i) = true → signB row2 (s.extract i s.size) 2 = false) (h1 : signB row1 (s.extract i s.size) 1 = true) :
    Calls Tryz.prog 184 #[.pointer (some ⟨X, 0, none⟩)] w (PostS X s nv w (i + 1) (l ++ [⟨6, s.extract i (i + 1), i⟩]) (.tuple #[])) := by
  obtain ⟨lv, hb, hO⟩ := h.out
  have hle := h.le
  have hmo := h.most
  have hlt := hb.lt
  have HH := Lib.hid h
  obtain ⟨x0, x1, x2, x3, -, -, -, -⟩ := blk4 hb
  have p0 : (0 : Int) ≤ (i : Int) := by omega
  have p2 : (i : Int) ≤ (s.size : Int) := by omega
  have hsz := extract_size s i
  have H3 := Lib.hid (fun w' (hb : Below w.heap.size w w') => contains_any (⟨#[32]⟩ ++ row3 ++ ⟨#[32]⟩) (⟨#[32]⟩ ++ (s.extract i s.size).extract 0 3 ++ ⟨#[32]⟩) w' (hT.below hb) (Nat.le_trans (show _ ≤ 100 by decide +kernel) (by omega)))
  have H2 := Lib.hid (fun w' (hb : Below w.heap.size w w') => contains_any (⟨#[32]⟩ ++ row2 ++ ⟨#[32]⟩) (⟨#[32]⟩ ++ (s.extract i s.size).extract 0 2 ++ ⟨#[32]⟩) w' (hT.below hb) (Nat.le_trans (show _ ≤ 100 by decide +kernel) (by omega)))
  have H1 := Lib.hid (fun w' (hb : Below w.heap.size w w') => contains_any (⟨#[32]⟩ ++ row1 ++ ⟨#[32]⟩) (⟨#[32]⟩ ++ (s.extract i s.size).extract 0 1 ++ ⟨#[32]⟩) w' (hT.below hb) (Nat.le_trans (show _ ≤ 100 by decide +kernel) (by omega)))
  rw [show Lib.contains ((⟨#[32]⟩ ++ row1 ++ ⟨#[32]⟩ : ByteArray)).data.toList ((⟨#[32]⟩ ++ (s.extract i s.size).extract 0 1 ++ ⟨#[32]⟩ : ByteArray)).data.toList = true from h1] at H1
  rw [show Lib.contains ((⟨#[32]⟩ ++ row2 ++ ⟨#[32]⟩ : ByteArray)).data.toList ((⟨#[32]⟩ ++ (s.extract i s.size).extract 0 2 ++ ⟨#[32]⟩ : ByteArray)).data.toList = signB row2 (s.extract i s.size) 2 from rfl] at H2
  rw [show Lib.contains ((⟨#[32]⟩ ++ row3 ++ ⟨#[32]⟩ : ByteArray)).data.toList ((⟨#[32]⟩ ++ (s.extract i s.size).extract 0 3 ++ ⟨#[32]⟩ : ByteArray)).data.toList = signB row3 (s.extract i s.size) 3 from rfl] at H3
  clear h1 hT
  generalize signB row3 (s.extract i s.size) 3 = c3 at *
  generalize signB row2 (s.extract i s.size) 2 = c2 at *
  have g3 : row3.size ≤ 100 := by decide +kernel
  have g2 : row2.size ≤ 100 := by decide +kernel
  have g1 : row1.size ≤ 100 := by decide +kernel
  have HSG := Lib.hid (fun w => signs_any w)
  generalize row3 = r3 at *
  generalize row2 = r2 at *
  generalize row1 = r1 at *
  go_enter Tryz.func184, Tryz.ntmps184
  go_wp2_with fail
  go_quiet (fail)
  have hB := below_drewN (Below.refl w.heap.size w) nq
  generalize w.drewN nq = w1 at *
  generalize s.extract i s.size = t at *
  clear x0 x1 x2 x3
  go_wp2_with fail
  refine (HSG.out _).mono ?_
  rintro e w2 ⟨rfl, hb2⟩
  have hB2 := hB.trans (hb2.mono hB.size)
  clear hb2 HSG
  have HQ := HH.out.below hB2
  obtain ⟨lv1, hb1, hO1⟩ := HQ.out
  obtain ⟨x0, x1, x2, x3, f0, f1, f2, f3⟩ := blk4 hb1
  have q1 : IntKind.i64.wrap ((i : Int) + 1) = (i : Int) + 1 := IntWalk.i64_in _ (by omega)
  have ix0 : ∀ W : World, (Instr.index 174 (.agg #[.string r3, .string r2, .string r1]) (.int .i64 0)).run Tryz.prog W = .ok (.string r3) W := fun W => run_at3 r3 r2 r1 0 (by omega) W
  have ix1 : ∀ W : World, (Instr.index 174 (.agg #[.string r3, .string r2, .string r1]) (.int .i64 1)).run Tryz.prog W = .ok (.string r2) W := fun W => run_at3 r3 r2 r1 1 (by omega) W
  have ix2 : ∀ W : World, (Instr.index 174 (.agg #[.string r3, .string r2, .string r1]) (.int .i64 2)).run Tryz.prog W = .ok (.string r1) W := fun W => run_at3 r3 r2 r1 2 (by omega) W
  have hset := HQ.set (i + 1) (by omega)
  rw [show ((i + 1 : Nat) : Int) = (i : Int) + 1 by omega] at hset
  have k1 : 1 ≤ t.size := by omega
  have k1i : (1 : Int) ≤ (t.size : Int) := by omega
  have HSET := Lib.hid hset
  have HSZ := Lib.hid hsz
  clear hO hO1 hb hb1 HH h hset hsz
  go_wp2_with fail
  refine wp_loop_rounds 4 ?_
  by_cases k3 : 3 ≤ t.size
  · obtain rfl : c3 = false := h3 (by rw [decide_eq_true_iff]; have := HSZ.out; omega)
    obtain rfl : c2 = false := h2 (by rw [decide_eq_true_iff]; have := HSZ.out; omega)
    have k3i : (3 : Int) ≤ (t.size : Int) := by omega
    have k2 : 2 ≤ t.size := by omega
    have k2i : (2 : Int) ≤ (t.size : Int) := by omega
    rw [rounds_succ]
    go_wp2_with fail
    refine (H3.out _ hB2).mono ?_
    rintro e w3 ⟨rfl, rfl⟩
    go_wp2_with fail
    rw [rounds_succ]
    go_wp2_with fail
    refine (H2.out _ hB2).mono ?_
    rintro e w3 ⟨rfl, rfl⟩
    go_wp2_with fail
    rw [rounds_succ]
    go_wp2_with fail
    refine (H1.out _ hB2).mono ?_
    rintro e w3 ⟨rfl, rfl⟩
    go_wp2_with fail
    have hset := HSET.out
    refine (add_any X s (i + 1) l nv 6 i (by omega) hl _ hset).mono ?_
    rintro e w4 ⟨rfl, hs4, hb4⟩
    go_wp2_with fail
    refine bodyPost_ret (results_none rfl _ _ _) rfl ?_
    exact ⟨rfl, hs4, ((hB2.mono (Nat.le_of_lt hlt)).setCell (Nat.le_refl _) _).trans hb4⟩
  · have k3n : decide (3 ≤ t.size) = false := by rw [decide_eq_false_iff_not]; exact k3
    have k3i : decide ((3 : Int) ≤ (t.size : Int)) = false := by rw [decide_eq_false_iff_not]; omega
    by_cases k2 : 2 ≤ t.size
    · obtain rfl : c2 = false := h2 (by rw [decide_eq_true_iff]; have := HSZ.out; omega)
      have k2i : (2 : Int) ≤ (t.size : Int) := by omega
      clear h3 k3
      rw [rounds_succ]
      go_wp2_with fail
      rw [rounds_succ]
      go_wp2_with fail
      refine (H2.out _ hB2).mono ?_
      rintro e w3 ⟨rfl, rfl⟩
      go_wp2_with fail
      rw [rounds_succ]
      go_wp2_with fail
      refine (H1.out _ hB2).mono ?_
      rintro e w3 ⟨rfl, rfl⟩
      go_wp2_with fail
      have hset := HSET.out
      refine (add_any X s (i + 1) l nv 6 i (by omega) hl _ hset).mono ?_
      rintro e w4 ⟨rfl, hs4, hb4⟩
      go_wp2_with fail
      refine bodyPost_ret (results_none rfl _ _ _) rfl ?_
      exact ⟨rfl, hs4, ((hB2.mono (Nat.le_of_lt hlt)).setCell (Nat.le_refl _) _).trans hb4⟩
    · have k2n : decide (2 ≤ t.size) = false := by rw [decide_eq_false_iff_not]; exact k2
      have k2i : decide ((2 : Int) ≤ (t.size : Int)) = false := by rw [decide_eq_false_iff_not]; omega
      clear h3 h2 k3 k2
      rw [rounds_succ]
      go_wp2_with fail
      rw [rounds_succ]
      go_wp2_with fail
      rw [rounds_succ]
      go_wp2_with fail
      refine (H1.out _ hB2).mono ?_
      rintro e w3 ⟨rfl, rfl⟩
      go_wp2_with fail
      have hset := HSET.out
      refine (add_any X s (i + 1) l nv 6 i (by omega) hl _ hset).mono ?_
      rintro e w4 ⟨rfl, hs4, hb4⟩
      go_wp2_with fail
      refine bodyPost_ret (results_none rfl _ _ _) rfl ?_
      exact ⟨rfl, hs4, ((hB2.mono (Nat.le_of_lt hlt)).setCell (Nat.le_refl _) _).trans hb4⟩
end Go.Proofs.YtnalfjaojcahhaaGreatDoor
namespace Go.Proofs.YtnalfjaojcahhaaGreatDoor
open Go.RowKit Go.Lib Go.Proofs
attribute [local go_sem ↓] Go.wp_at_zero Go.wp_at_succ

/-- A line's end, if one is there. -/
def lineT (l : List Tok) (p : Int) : List Tok := if lineEnds l = true then l ++ [⟨6, ⟨#[10]⟩, p⟩] else l

set_option maxHeartbeats 2000000 in
theorem line_any (X : Nat) (s : ByteArray) (i : Nat) (l : List Tok) (nv : Value) (p : Int) (hl : l.length + 1 ≤ 65537) (w : World) (h : ScAt w X s i l nv) (hT : Tab w) (hsz : ∀ t ∈ l, t.text.size ≤ 65536) :
    Calls Tryz.prog 135 #[.pointer (some ⟨X, 0, none⟩), .int .i64 p] w (PostS X s nv w i (lineT l p) (.tuple #[])) := by
  have HE := Lib.hid (scEnds_any X s i l nv w h hT hsz)
  have hlt := h.lt
  cases hq : lineEnds l with
  | false =>
    have HL := Lib.hid (show lineT l p = l by unfold lineT; rw [if_neg (by rw [hq]; decide)])
    rw [hq] at HE
    clear hq
    go_enter Tryz.func135, Tryz.ntmps135
    go_wp2_with fail
    refine HE.out.mono ?_
    rintro e w1 ⟨rfl, hb1⟩
    go_wp2_with fail
    go_end0
    rw [HL.out]
    exact ⟨rfl, h.below hb1, hb1.mono (Nat.le_of_lt hlt)⟩
  | true =>
    have HL := Lib.hid (show lineT l p = l ++ [⟨6, ⟨#[10]⟩, p⟩] by unfold lineT; rw [if_pos hq])
    rw [hq] at HE
    clear hq
    go_enter Tryz.func135, Tryz.ntmps135
    go_wp2_with fail
    refine HE.out.mono ?_
    rintro e w1 ⟨rfl, hb1⟩
    have h1 := h.below hb1
    obtain ⟨lv, hb, hO⟩ := h1.out
    obtain ⟨A0, c0, hlv, _⟩ := hO.form
    subst hlv
    obtain ⟨x0, x1, x2, x3, f0, f1, f2, f3⟩ := blk4 hb
    have hlt1 := hb.lt
    go_wp2_with (at_builtin; refine wpList_pushT rfl (.tmp 10) (.tmp 13) rfl (X + 1) _ _ l ⟨6, ⟨#[10]⟩, p⟩ rfl _ rfl (by simp) hO (by omega) (by omega) ?_; intro g c w2 hO2 hB2; have hb2 := hb.below hB2 (Nat.lt_succ_self _); obtain ⟨z0, z1, z2, z3, y0, y1, y2, y3⟩ := blk4 hb2)
    go_end0
    rw [HL.out]
    exact ⟨rfl, h1.row hb2 hO2 (by rw [List.length_append]; simpa using hl), ((hb1.mono (Nat.le_of_lt hlt)).trans (hB2.mono (Nat.le_succ _))).setCell (Nat.le_refl _) _⟩
end Go.Proofs.YtnalfjaojcahhaaGreatDoor
namespace Go.Proofs.YtnalfjaojcahhaaGreatDoor
open Go.RowKit Go.Lib Go.Proofs
attribute [local go_sem ↓] Go.wp_at_zero Go.wp_at_succ

def byteAt (s : ByteArray) (i : Nat) : Nat := (s.data.toList.getD i 0).toNat
theorem byteAt_lt (s : ByteArray) (i : Nat) : byteAt s i < 256 := UInt8.toNat_lt _
theorem run_byte (s : ByteArray) (i : Nat) (hi : i < s.size) (W : World) : (Instr.index 9 (.string s) (.int .i64 (i : Int))).run Tryz.prog W = .ok (.int .u8 (byteAt s i : Int)) W := by
  rw [run_index_string (P := Tryz.prog) W 9 s .i64 (i : Int) Tryz.underlying9]
  simp [byteAt, hi]
  rfl

set_option maxRecDepth 100000 in
set_option maxHeartbeats 4000000 in
theorem next_blank (X : Nat) (s : ByteArray) (i : Nat) (l : List Tok) (nv : Value) (w : World) (h : ScAt w X s i l nv) (hi : i < s.size) (hm : Lib.hasPrefix s.data.toList [239, 187, 191] = false) (hc : byteAt s i = 32) :
    Calls Tryz.prog 134 #[.pointer (some ⟨X, 0, none⟩)] w (PostS X s nv w (i + 1) l (.tuple #[])) := by
  obtain ⟨lv, hb, hO⟩ := h.out
  have hmo := h.most
  have hlt := hb.lt
  obtain ⟨x0, x1, x2, x3, f0, f1, f2, f3⟩ := blk4 hb
  have hbyte := fun W => run_byte s i hi W
  rw [hc] at hbyte
  have HM := Lib.hid (fun w => hasPrefix_any s ⟨#[239, 187, 191]⟩ w)
  rw [show (⟨#[239, 187, 191]⟩ : ByteArray).data.toList = [239, 187, 191] from rfl, hm] at HM
  have hset := h.set (i + 1) (by omega)
  rw [show ((i + 1 : Nat) : Int) = (i : Int) + 1 by omega] at hset
  have HSET := Lib.hid hset
  have q1 : IntKind.i64.wrap ((i : Int) + 1) = (i : Int) + 1 := IntWalk.i64_in _ (by omega)
  clear hset hm hc hO hb
  cases hz : ((i : Int) == 0)
  all_goals
    go_enter Tryz.func134, Tryz.ntmps134
    go_wp2_with fail
    try
      refine (HM.out _).mono ?_
      rintro e w2 ⟨rfl, rfl⟩
      go_wp2_with fail
    go_end0
    exact ⟨rfl, HSET.out, (Below.refl X w).setCell (by exact Nat.le_refl X) _⟩
set_option maxRecDepth 100000 in
set_option maxHeartbeats 4000000 in
theorem next_nl (X : Nat) (s : ByteArray) (i : Nat) (l : List Tok) (nv : Value) (w : World) (h : ScAt w X s i l nv) (hi : i < s.size) (hm : Lib.hasPrefix s.data.toList [239, 187, 191] = false) (hc : byteAt s i = 10)
    (hl : l.length + 1 ≤ 65537) (hT : Tab w) (hsz : ∀ t ∈ l, t.text.size ≤ 65536) :
    Calls Tryz.prog 134 #[.pointer (some ⟨X, 0, none⟩)] w (PostS X s nv w (i + 1) (lineT l i) (.tuple #[])) := by
  obtain ⟨lv, hb, hO⟩ := h.out
  have hmo := h.most
  have hlt := hb.lt
  obtain ⟨x0, x1, x2, x3, f0, f1, f2, f3⟩ := blk4 hb
  have hbyte := fun W => run_byte s i hi W
  rw [hc] at hbyte
  have HM := Lib.hid (fun w => hasPrefix_any s ⟨#[239, 187, 191]⟩ w)
  rw [show (⟨#[239, 187, 191]⟩ : ByteArray).data.toList = [239, 187, 191] from rfl, hm] at HM
  have q1 : IntKind.i64.wrap ((i : Int) + 1) = (i : Int) + 1 := IntWalk.i64_in _ (by omega)
  have HL := Lib.hid (line_any X s i l nv (i : Int) hl w h hT hsz)
  clear hm hc hO hb h hT hsz
  cases hz : ((i : Int) == 0)
  all_goals
    go_enter Tryz.func134, Tryz.ntmps134
    go_wp2_with fail
    try
      refine (HM.out _).mono ?_
      rintro e w2 ⟨rfl, rfl⟩
      go_wp2_with fail
    refine HL.out.mono ?_
    rintro e w2 ⟨rfl, hs2, hb2⟩
    have hset := hs2.set (i + 1) (by omega)
    rw [show ((i + 1 : Nat) : Int) = (i : Int) + 1 by omega] at hset
    have HSET := Lib.hid hset
    obtain ⟨lv2, hbb, -⟩ := hs2.out
    clear x0 x1 x2 x3 f0 f1 f2 f3 hset HL
    obtain ⟨x0, x1, x2, x3, f0, f1, f2, f3⟩ := blk4 hbb
    go_wp2_with fail
    go_end0
    exact ⟨rfl, HSET.out, hb2.setCell (by exact Nat.le_refl X) _⟩

set_option maxRecDepth 100000 in
set_option maxHeartbeats 8000000 in
theorem next_sign (c : Nat) (hcc : c = 91 ∨ c = 93 ∨ c = 61) (X : Nat) (s : ByteArray) (i : Nat) (l : List Tok) (nv : Value) (w : World) (h : ScAt w X s i l nv) (hi : i < s.size) (hm : Lib.hasPrefix s.data.toList [239, 187, 191] = false) (hc : byteAt s i = c)
    (hl : l.length + 1 ≤ 65537) (hT : Tab w) (n1 : Lib.hasPrefix (s.data.toList.drop i) [47, 47] = false) (n2 : Lib.hasPrefix (s.data.toList.drop i) [47, 42] = false)
    (h3 : decide (3 ≤ s.size - i) = true → signB row3 (s.extract i s.size) 3 = false) (h2 : decide (2 ≤ s.size - i) = true → signB row2 (s.extract i s.size) 2 = false) (h1 : signB row1 (s.extract i s.size) 1 = true) :
    Calls Tryz.prog 134 #[.pointer (some ⟨X, 0, none⟩)] w (PostS X s nv w (i + 1) (l ++ [⟨6, s.extract i (i + 1), i⟩]) (.tuple #[])) := by
  obtain ⟨lv, hb, hO⟩ := h.out
  have hmo := h.most
  have hlt := hb.lt
  obtain ⟨x0, x1, x2, x3, f0, f1, f2, f3⟩ := blk4 hb
  have hbyte := fun W => run_byte s i hi W
  rw [hc] at hbyte
  have HM := Lib.hid (fun w => hasPrefix_any s ⟨#[239, 187, 191]⟩ w)
  rw [show (⟨#[239, 187, 191]⟩ : ByteArray).data.toList = [239, 187, 191] from rfl, hm] at HM
  have q1 : IntKind.i64.wrap ((i : Int) + 1) = (i : Int) + 1 := IntWalk.i64_in _ (by omega)
  have HN := Lib.hid (note_no X s i l nv w h n1 n2)
  have HSG := Lib.hid (fun w' (hb : Below w.heap.size w w') => sign_one X s i l nv w' (h.below hb) (hT.below hb) hl hi h3 h2 h1)
  clear hm hc hO hb h hT n1 n2 h3 h2 h1
  rcases hcc with rfl | rfl | rfl
  all_goals
    cases hz : ((i : Int) == 0)
    all_goals
      go_enter Tryz.func134, Tryz.ntmps134
      go_wp2_with fail
      try
        refine (HM.out _).mono ?_
        rintro e w2 ⟨rfl, rfl⟩
        go_wp2_with fail
      refine HN.out.mono ?_
      rintro e w2 ⟨rfl, hb2⟩
      go_wp2_with fail
      refine (letter_any _ _).mono ?_
      rw [show ∀ c : Int, c = 91 ∨ c = 93 ∨ c = 61 → runeLetter c = false by intro c hc; rcases hc with rfl | rfl | rfl <;> rfl]
      rotate_left
      · first | exact .inl rfl | exact .inr (.inl rfl) | exact .inr (.inr rfl)
      rintro e w3 ⟨rfl, rfl⟩
      go_wp2_with fail
      refine (figure_any _ _).mono ?_
      rw [show ∀ c : Int, c = 91 ∨ c = 93 ∨ c = 61 → runeFigure c = false by intro c hc; rcases hc with rfl | rfl | rfl <;> rfl]
      rotate_left
      · first | exact .inl rfl | exact .inr (.inl rfl) | exact .inr (.inr rfl)
      rintro e w3 ⟨rfl, rfl⟩
      go_wp2_with fail
      refine (HSG.out _ hb2).mono ?_
      rintro e w4 ⟨rfl, hs4, hb4⟩
      go_wp2_with fail
      go_end0
      exact ⟨rfl, hs4, (hb2.mono (Nat.le_of_lt hlt)).trans hb4⟩
end Go.Proofs.YtnalfjaojcahhaaGreatDoor
namespace Go.Proofs.YtnalfjaojcahhaaGreatDoor
open Go.RowKit Go.Lib Go.Proofs
attribute [local go_sem ↓] Go.wp_at_zero Go.wp_at_succ

theorem run_kind (k : Int) (hk : k = 0 ∨ k = 1 ∨ k = 2) (w : World) : (Instr.index 161 (.agg #[.int .i64 1, .int .i64 2, .int .i64 3]) (.int .i64 k)).run Tryz.prog w = .ok (.int .i64 (k + 1)) w := by
  rcases hk with rfl | rfl | rfl
  all_goals simp [Instr.index, run_underlying Tryz.underlying161, asIntOf, go_sem]
theorem wordN_cases (s : ByteArray) : wordN s = 0 ∨ wordN s = 1 ∨ wordN s = 2 := by
  unfold wordN
  split
  · exact .inr (.inl rfl)
  · split
    · exact .inr (.inr rfl)
    · exact .inl rfl
theorem letter_not (c : Nat) (h : runeLetter (c : Int) = true) : c ≠ 10 ∧ c ≠ 32 ∧ c ≠ 9 ∧ c ≠ 13 ∧ c < 256 := by
  unfold runeLetter at h
  simp at h
  omega

set_option maxRecDepth 100000 in
set_option maxHeartbeats 40000000 in
theorem next_letter (X : Nat) (s : ByteArray) (i : Nat) (l : List Tok) (nv : Value) (w : World) (h : ScAt w X s i l nv) (hi : i < s.size) (hm : Lib.hasPrefix s.data.toList [239, 187, 191] = false) (hc : runeLetter (byteAt s i : Int) = true)
    (hl : l.length + 1 ≤ 65537) (n1 : Lib.hasPrefix (s.data.toList.drop i) [47, 47] = false) (n2 : Lib.hasPrefix (s.data.toList.drop i) [47, 42] = false) :
    Calls Tryz.prog 134 #[.pointer (some ⟨X, 0, none⟩)] w (PostS X s nv w (i + wordLen (s.data.toList.drop i)) (l ++ [⟨wordN (s.extract i (i + wordLen (s.data.toList.drop i))) + 1, s.extract i (i + wordLen (s.data.toList.drop i)), i⟩]) (.tuple #[])) := by
  obtain ⟨lv, hb, hO⟩ := h.out
  have hmo := h.most
  have hlt := hb.lt
  obtain ⟨x0, x1, x2, x3, f0, f1, f2, f3⟩ := blk4 hb
  have hbyte := fun W => run_byte s i hi W
  have HM := Lib.hid (fun w => hasPrefix_any s ⟨#[239, 187, 191]⟩ w)
  rw [show (⟨#[239, 187, 191]⟩ : ByteArray).data.toList = [239, 187, 191] from rfl, hm] at HM
  obtain ⟨m1, m2, m3, m4, m5⟩ := letter_not _ hc
  have HLT := Lib.hid (fun w => letter_any (byteAt s i : Int) w)
  rw [hc] at HLT
  have HN := Lib.hid (note_no X s i l nv w h n1 n2)
  have HW := Lib.hid (fun w' (hb : Below w.heap.size w w') => while_any 180 ent_n1 n1_any X s i l nv w' (h.below hb))
  generalize hwl : i + wordLen (s.data.toList.drop i) = e at *
  have hie : i ≤ e := by omega
  generalize byteAt s i = c at *
  have e10 : ((c : Int) == 10) = false := by rw [beq_eq_false_iff_ne]; omega
  have e32 : ((c : Int) == 32) = false := by rw [beq_eq_false_iff_ne]; omega
  have e9 : ((c : Int) == 9) = false := by rw [beq_eq_false_iff_ne]; omega
  have e13 : ((c : Int) == 13) = false := by rw [beq_eq_false_iff_ne]; omega
  have qc : IntKind.i32.wrap (c : Int) = (c : Int) := IntWalk.i32_in _ (by omega)
  clear hm hc hO hb h n1 n2 m1 m2 m3 m4 hwl
  have hez : (e : Int) = (e : Int) := rfl
  clear hez
  cases hz : ((i : Int) == 0)
  all_goals
    go_enter Tryz.func134, Tryz.ntmps134
    go_wp2_with fail
    try
      refine (HM.out _).mono ?_
      rintro e w2 ⟨rfl, rfl⟩
      go_wp2_with fail
    refine HN.out.mono ?_
    rintro e2 w2 ⟨rfl, hb2⟩
    go_wp2_with fail
    refine (HLT.out _).mono ?_
    rintro e2 w3 ⟨rfl, rfl⟩
    go_wp2_with fail
    refine (HW.out _ hb2).mono ?_
    rintro e2 w4 ⟨rfl, hs4, hb4⟩
    obtain ⟨lv4, hb5, -⟩ := hs4.out
    have hle4 := hs4.le
    clear x0 x1 x2 x3 f0 f1 f2 f3
    obtain ⟨x0, x1, x2, x3, f0, f1, f2, f3⟩ := blk4 hb5
    have p0 : (0 : Int) ≤ (i : Int) := by omega
    have p1 : (i : Int) ≤ (e : Int) := by omega
    have p2 : (e : Int) ≤ (s.size : Int) := by omega
    have hk := wordN_cases (s.extract i e)
    have HWD := Lib.hid (fun w => word_any (s.extract i e) w)
    have hAD := fun (w' : World) (hb : Below w4.heap.size w4 w') => add_any X s e l nv (wordN (s.extract i e) + 1) i (by omega) hl w' (hs4.below hb)
    have HAD := Lib.hid hAD
    clear hAD
    have hix := fun W => run_kind (wordN (s.extract i e)) hk W
    generalize wordN (s.extract i e) = kw at *
    clear hbyte HM HLT HN HW e10 e32 e9 e13 qc x2 x3 f0 f1 f2 f3 hb5
    go_upto_region 13 with fail
    go_region_held3 (fun w' => w'.cell? ⟨X, 0, none⟩ = some (.string s) ∧ w'.cell? ⟨X, 1, none⟩ = some (.int .i64 (e : Int)))
      (first | exact ⟨z0, z1⟩ | go_keep)
      (first
        | (go_at_call 160; refine (HWD.out _).mono ?_; rintro e3 w5 ⟨rfl, rfl⟩)
        | (go_at_call 181; refine (HAD.out _ (Below.refl _ _).drew).mono ?_; rintro e3 w6 ⟨rfl, hs6, hb6⟩; obtain ⟨lv6, hb7, -⟩ := hs6.out; obtain ⟨z0, z1, -, -, -, -, -, -⟩ := blk4 hb7))
    all_goals
      go_wp2_with fail
      go_end0
      exact ⟨rfl, hs6, ((hb2.mono (Nat.le_of_lt hlt)).trans hb4).drew.trans hb6⟩
end Go.Proofs.YtnalfjaojcahhaaGreatDoor
namespace Go.Proofs.YtnalfjaojcahhaaGreatDoor
open Go.RowKit Go.Lib Go.Proofs

/-- The tokens so far are few and short. -/
def scOk (l : List Tok) : Bool := decide (l.length + 1 ≤ 65537) && l.all fun t => decide (t.text.size ≤ 65536)
/-- A sign of one byte, and none of more bytes. -/
def signOne (s : ByteArray) (i : Nat) : Bool :=
  (decide (byteAt s i = 91) || (decide (byteAt s i = 93) || decide (byteAt s i = 61))) && (!(decide (3 ≤ s.size - i) && signB row3 (s.extract i s.size) 3) && (!(decide (2 ≤ s.size - i) && signB row2 (s.extract i s.size) 2) && signB row1 (s.extract i s.size) 1))
/-- One step; none: where this text does not go. -/
def scStep (s : ByteArray) (i : Nat) (l : List Tok) : Option (Nat × List Tok) :=
  if scOk l = true then
    if byteAt s i = 32 then some (i + 1, l)
    else if byteAt s i = 10 then some (i + 1, lineT l i)
    else if Lib.hasPrefix (s.data.toList.drop i) [47, 47] = true then none
    else if Lib.hasPrefix (s.data.toList.drop i) [47, 42] = true then none
    else if runeLetter (byteAt s i : Int) = true then some (i + wordLen (s.data.toList.drop i), l ++ [⟨wordN (s.extract i (i + wordLen (s.data.toList.drop i))) + 1, s.extract i (i + wordLen (s.data.toList.drop i)), i⟩])
    else if signOne s i = true then some (i + 1, l ++ [⟨6, s.extract i (i + 1), i⟩])
    else none
  else none
/-- All steps, with fuel; at the end a line's. -/
def scFrom (s : ByteArray) : Nat → Nat → List Tok → Option (List Tok)
  | 0, _, _ => none
  | g + 1, i, l =>
    if i < s.size then
      match scStep s i l with
      | some q => scFrom s g q.1 q.2
      | none => none
    else if scOk l = true then some (lineT l (s.size : Int)) else none

theorem scOk_spec {l : List Tok} (h : scOk l = true) : l.length + 1 ≤ 65537 ∧ ∀ t ∈ l, t.text.size ≤ 65536 := by
  unfold scOk at h
  rw [Bool.and_eq_true, decide_eq_true_iff, List.all_eq_true] at h
  exact ⟨h.1, fun t ht => of_decide_eq_true (h.2 t ht)⟩

theorem next_step (X : Nat) (s : ByteArray) (i : Nat) (l : List Tok) (nv : Value) (w : World) (h : ScAt w X s i l nv) (hT : Tab w) (hi : i < s.size) (hm : Lib.hasPrefix s.data.toList [239, 187, 191] = false) (q : Nat × List Tok) (hs : scStep s i l = some q) :
    Calls Tryz.prog 134 #[.pointer (some ⟨X, 0, none⟩)] w (PostS X s nv w q.1 q.2 (.tuple #[])) := by
  unfold scStep at hs
  split at hs
  · rename_i hok
    obtain ⟨hl, hsz⟩ := scOk_spec hok
    split at hs
    · rename_i hc
      cases hs
      exact next_blank X s i l nv w h hi hm hc
    · split at hs
      · rename_i hc
        cases hs
        exact next_nl X s i l nv w h hi hm hc hl hT hsz
      · split at hs
        · cases hs
        · rename_i n1
          split at hs
          · cases hs
          · rename_i n2
            have n1 := Bool.eq_false_iff.2 n1
            have n2 := Bool.eq_false_iff.2 n2
            split at hs
            · rename_i hc
              cases hs
              exact next_letter X s i l nv w h hi hm hc hl n1 n2
            · split at hs
              · rename_i hc
                cases hs
                unfold signOne at hc
                rw [Bool.and_eq_true, Bool.and_eq_true, Bool.and_eq_true, Bool.or_eq_true, Bool.or_eq_true, decide_eq_true_iff, decide_eq_true_iff, decide_eq_true_iff] at hc
                obtain ⟨hc0, h3, h2, h1⟩ := hc
                refine next_sign (byteAt s i) hc0 X s i l nv w h hi hm rfl hl hT n1 n2 (fun hd => ?_) (fun hd => ?_) h1
                · rw [hd, Bool.true_and] at h3; simpa using h3
                · rw [hd, Bool.true_and] at h2; simpa using h2
              · cases hs
  · cases hs
end Go.Proofs.YtnalfjaojcahhaaGreatDoor
namespace Go.Proofs.YtnalfjaojcahhaaGreatDoor
open Go.RowKit Go.Lib Go.Proofs
attribute [local go_sem ↓] Go.wp_at_zero Go.wp_at_succ

set_option maxRecDepth 1000000 in
set_option maxHeartbeats 1000000 in
/-- The fast road: a sign of one byte at the head. -/
theorem decodeRune_ascii (n b off cap x0 : Nat) (w : World) (hn : (0 : Int) < (n : Int)) (hs0 : w.cell? ⟨b, off, none⟩ = some (.int .u8 x0)) (ha : (x0 : Int) < 128) :
    Calls Tryz.prog 176 #[.slice (some ⟨b, off, none⟩) n cap] w fun e w' => e = .returned (.tuple #[.int .i32 x0, .int .i64 1]) ∧ w' = w := by
  go_enter Tryz.func176, Tryz.ntmps176
  go_wp2
  go_loop [8] (fun i => i = .int .i64 0) (fun _ => 0)
  case atStart => rfl
  case round =>
    subst hrel
    go_wp2
    go_ret2
    exact ⟨rfl, rfl⟩

theorem elemB : Tryz.prog.underlying 47 = some (.slice (Tryz.prog.elem 47)) := by kernel_rfl
theorem elemBe : Tryz.prog.elem 47 = 5 := by kernel_rfl
theorem sizeB (w : World) : (sizeOf (Tryz.prog.elem 47)).run Tryz.prog w = .ok 1 w := by rw [elemBe]; exact Tryz.sizeOf5 w
theorem run_bytesFrom (g o n c k : Nat) (hk : k < n) (hn : n ≤ c) (W : World) : (Instr.slice 47 (.slice (some ⟨g, o, none⟩) n c) (some (.int .i64 (k : Int))) none none).run Tryz.prog W = .ok (.slice (some ⟨g, o + k, none⟩) (n - k) (c - k)) W := by
  rw [run_slice_l (P := Tryz.prog) W 47 _ n c elemB .i64 (k : Int) (by omega) (by omega), sizeB]
  simp only [Result.andThen, sliced, Int.toNat_natCast]
  rw [if_neg (by omega)]
  simp [add_at]

set_option maxRecDepth 100000 in
set_option maxHeartbeats 4000000 in
theorem wrong_ascii (g o c : Nat) (s : ByteArray) (w : World) (hb : Lib.Bytes w g o s) (hg : g < w.heap.size) (hc : s.size ≤ c) (hA : ∀ j, j < s.size → 0 < (s.data.toList.getD j 0).toNat ∧ (s.data.toList.getD j 0).toNat < 128) :
    Calls Tryz.prog 132 #[.slice (some ⟨g, o, none⟩) s.size c] w fun e w' => e = .returned (.int .i64 (-1)) ∧ Below w.heap.size w w' := by
  have HB := Lib.hid hb
  have HA := Lib.hid hA
  have hcv := run_convert_whole (P := Tryz.prog) w 47 5 9 Tryz.underlying47 Tryz.underlying5 Tryz.underlying9 g o s hb c
  have hcut := fun k hk W => run_bytesFrom g o s.size c k hk hc W
  clear hb hA
  go_enter Tryz.func132, Tryz.ntmps132
  go_wp2_with fail
  clear hcv
  go_loopg [3, 4, 5, 6, 10, 11] s.size (fun gg _ _ _ _ _ _ wr => ∃ j : Nat, j ≤ s.size ∧ s.size - j ≤ gg ∧ wr.heap[w.heap.size]? = some (.stringIter s j) ∧ Below w.heap.size w wr)
  case atStart => exact ⟨0, Nat.zero_le _, by omega, World.iter_heap w _ 0, (Below.refl w.heap.size w).alloc (Nat.le_refl _) _⟩
  case round =>
    obtain ⟨j, hj, hgg, hit, hBel⟩ := hrel
    have HIT := Lib.hid hit
    clear hit
    by_cases hlt2 : j < s.size
    · have hdc := decode_cases s j hlt2
      have hnext := fun ty => run_next_any_at (P := Tryz.prog) wr w.heap.size s j ty HIT.out hlt2
      have ha := HA.out j hlt2
      have hcell := HB.out j hlt2
      have eb : s.data.toList.getD j 0 = s[j] := by
        rw [List.getD_eq_getElem?_getD, List.getElem?_eq_getElem (by simpa using hlt2)]
        rfl
      rw [← eb] at hcell
      have hd : Utf8.decode s j = ((s.data.toList.getD j 0).toNat, 1) := by
        rcases hdc with ⟨e, _⟩ | ⟨_, h2⟩
        · exact e
        · omega
      rw [hd] at hnext
      clear hdc hd eb
      generalize (s.data.toList.getD j 0).toNat = bb at *
      have j1 := iterAt_heap wr w.heap.size s j (j + 1) HIT.out
      have j2 : Below w.heap.size w (wr.iterAt w.heap.size s (j + 1)) := iterAt_below hBel (Nat.le_refl _)
      generalize wr.iterAt w.heap.size s (j + 1) = W1 at hnext j1 j2
      have hcW : W1.cell? ⟨g, o + j, none⟩ = some (.int .u8 (bb : Int)) := (World.cell?_of_block (a := ⟨g, o + j, none⟩) (j2.block g hg)).trans hcell
      have e0 : ((bb : Int) == 0) = false := by rw [beq_eq_false_iff_ne]; omega
      have e1 : ((bb : Int) == 65533) = false := by rw [beq_eq_false_iff_ne]; omega
      have e2 : ((bb : Int) == 65279) = false := by rw [beq_eq_false_iff_ne]; omega
      have hc2 := hcut j hlt2
      have J1 := Lib.hid j1
      clear hcell j1 hBel
      go_wp2_with fail
      refine (decodeRune_ascii (s.size - j) g (o + j) (c - j) bb W1 (by omega) hcW (by omega)).mono ?_
      rintro e w3 ⟨rfl, rfl⟩
      go_wp2_with fail
      go_roundg (s.size - (j + 1))
      case measure => omega
      case rel => exact ⟨j + 1, by omega, Nat.le_refl _, J1.out, j2⟩
    · have hend := fun ty => run_next_end_at (P := Tryz.prog) wr w.heap.size s j ty HIT.out hlt2
      go_wp2_with fail
      go_ret
      exact ⟨rfl, hBel⟩
end Go.Proofs.YtnalfjaojcahhaaGreatDoor
