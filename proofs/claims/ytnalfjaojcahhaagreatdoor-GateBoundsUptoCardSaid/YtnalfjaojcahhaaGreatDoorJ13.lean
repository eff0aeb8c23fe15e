/-
  The scanner: ends, line. By an AI agent.
  The scanner: no note ahead; signs. By an AI agent.
  The scanner: line. By an AI agent.
  The scanner: next, at a blank. By an AI agent.
-/
import Derived.Test.YtnalfjaojcahhaaGreatDoorJ12
namespace Go.Proofs.YtnalfjaojcahhaaGreatDoor
open Go.RowKit Go.Lib Go.Proofs
attribute [local go_sem ↓] Go.wp_at_zero Go.wp_at_succ
attribute [local go_sem] fld_tok0 fld_tok1 fld_tok2

def endSigns : ByteArray := (⟨#[32, 43, 43, 32, 45, 45, 32, 41, 32, 93, 32, 125, 32]⟩ : ByteArray)
/-- Does a line end behind this token? -/
def endsT (t : Tok) : Bool :=
  if t.kind = 1 ∨ t.kind = 4 ∨ t.kind = 5 then true
  else if t.kind = 2 ∨ t.kind = 3 then decide (t.text = (⟨#[98, 114, 101, 97, 107]⟩ : ByteArray)) || (decide (t.text = (⟨#[99, 111, 110, 116, 105, 110, 117, 101]⟩ : ByteArray)) || (decide (t.text = (⟨#[114, 101, 116, 117, 114, 110]⟩ : ByteArray)) || decide (t.text = (⟨#[102, 97, 108, 108, 116, 104, 114, 111, 117, 103, 104]⟩ : ByteArray))))
  else Lib.contains endSigns.data.toList ((⟨#[32]⟩ ++ t.text ++ ⟨#[32]⟩ : ByteArray)).data.toList
def lineEnds (l : List Tok) : Bool := match l.getLast? with
  | none => false
  | some t => endsT t

theorem OwnT.at_ {B : Nat} {w : World} {v : Value} {l : List Tok} (h : OwnT B w v l) (i : Nat) (hi : i < l.length) :
    ∃ g c, v = .slice (some ⟨g, 0, none⟩) l.length c ∧ B ≤ g ∧ g < w.heap.size ∧ w.cell? ⟨g, i * 3, none⟩ = some (.int .i64 l[i].kind) ∧ w.cell? ⟨g, i * 3 + 1, none⟩ = some (.string l[i].text) ∧ w.cell? ⟨g, i * 3 + 2, none⟩ = some (.int .i64 l[i].pos) := by
  obtain ⟨g, c, hv, hg, hlt⟩ := World.ownsRow.form h (by omega)
  obtain ⟨A, c', e, _⟩ := h.form
  rw [hv] at e
  injection e with e1 e2 e3
  subst e1 e3
  have hr := Reads.of_own (hv ▸ h : w.ownsRow B _ 3 (.slice (some ⟨g, 0, none⟩) l.length c) l.length (l.flatMap encT))
  obtain ⟨b, off, hA, hb, hc⟩ := hr.el encT_len (by omega) rfl hi
  injection hA with hA
  injection hA with e4 e5
  subst e4 e5
  have k0 := hc i hi 0 _ rfl
  have k1 := hc i hi 1 _ rfl
  have k2 := hc i hi 2 _ rfl
  simp only [Nat.zero_add, Nat.add_zero] at k0 k1 k2
  exact ⟨g, c, hv, hg, hlt, k0, k1, k2⟩

theorem blk3 {w : World} {g : Nat} {t : TypeId} {a b c : Value} (h : Blk w g t #[a, b, c]) : w.cell? ⟨g, 0, none⟩ = some a ∧ w.cell? ⟨g, 1, none⟩ = some b ∧ w.cell? ⟨g, 2, none⟩ = some c := by
  have c0 := h.cell 0
  have c1 := h.cell 1
  have c2 := h.cell 2
  simp at c0 c1 c2
  exact ⟨c0, c1, c2⟩

set_option maxRecDepth 100000 in
set_option maxHeartbeats 4000000 in
theorem scEnds_any (X : Nat) (s : ByteArray) (i : Nat) (l : List Tok) (nv : Value) (w : World) (h : ScAt w X s i l nv) (hT : Tab w) (hsz : ∀ t ∈ l, t.text.size ≤ 65536) :
    Calls Tryz.prog 185 #[.pointer (some ⟨X, 0, none⟩)] w fun e w' => e = .returned (.bool (lineEnds l)) ∧ Below w.heap.size w w' := by
  obtain ⟨lv, hb, hO⟩ := h.out
  have hlt := hb.lt
  have hfew := h.few
  obtain ⟨A0, c0, hlv, hcap⟩ := hO.form
  obtain ⟨x0, x1, x2, x3, -, -, -, -⟩ := blk4 hb
  rw [hlv] at x2
  by_cases hl : l.length = 0
  · have hE := Lib.hid (show lineEnds l = false by rw [List.eq_nil_of_length_eq_zero hl]; rfl)
    rw [hl] at x2
    go_enter Tryz.func185, Tryz.ntmps185
    go_wp2_with fail
    go_ret
    exact ⟨by rw [hE.out]; rfl, Below.refl _ _⟩
  · obtain ⟨g, c, hv, hg, hgl, k0, k1, k2⟩ := hO.at_ (l.length - 1) (by omega)
    rw [hlv] at hv
    injection hv with e1 e2 e3
    subst e1 e3
    have hlast : l.getLast? = some (l[l.length - 1]'(by omega)) := by rw [List.getLast?_eq_getElem?, List.getElem?_eq_getElem]
    have HE := Lib.hid (show lineEnds l = endsT (l[l.length - 1]'(by omega)) by unfold lineEnds; rw [hlast])
    have HSZ := Lib.hid (hsz _ (List.getElem_mem (show l.length - 1 < l.length by omega)))
    generalize l[l.length - 1]'(by omega) = t at *
    obtain ⟨tk, tt, tp⟩ := t
    simp only at k0 k1 k2
    have hne : ((l.length : Int) == 0) = false := by rw [beq_eq_false_iff_ne]; omega
    have p1 : (0 : Int) ≤ (l.length : Int) - 1 := by omega
    have p2 : (l.length : Int) - 1 < (l.length : Int) := by omega
    have p3 : (1 : Int) ≤ (l.length : Int) := by omega
    have q2 : ((l.length : Int) - 1).toNat = l.length - 1 := by omega
    have q1 : IntKind.i64.wrap ((l.length : Int) - 1) = (l.length : Int) - 1 := IntWalk.i64_in _ (by omega)
    have HT := Lib.hid hT
    clear hlast hT hsz
    go_enter Tryz.func185, Tryz.ntmps185
    go_upto_region 3 with fail
    go_cut [3] (fun s3 wx => ∃ b, s3 = .pointer (some ⟨b, 0, none⟩) ∧ Blk wx b 86 #[.int .i64 tk, .string tt, .int .i64 tp] ∧ Below w.heap.size w wx)
    case first =>
      go_region_law (fail)
      all_goals
        go_wp2_with fail
        go_meet
        exact ⟨_, rfl, (Blk.new _ _ _).drew, ((Below.refl _ _).alloc (Nat.le_refl _) _).drew⟩
    case rest =>
      obtain ⟨b, rfl, hB, hBel⟩ := hcut
      obtain ⟨y0, y1, y2⟩ := blk3 hB
      have HCO := Lib.hid (contains_any endSigns (⟨#[32]⟩ ++ tt ++ ⟨#[32]⟩) wc (HT.out.below hBel) (by unfold endSigns; simp [ByteArray.size]))
      clear k0 k1 k2 x0 x1 x2 x3 hB
      by_cases h1 : tk = 1 ∨ tk = 4 ∨ tk = 5
      · have HE1 := Lib.hid (show lineEnds l = true by rw [HE.out, endsT, if_pos h1])
        rcases h1 with rfl | rfl | rfl
        all_goals
          go_wp2_with fail
          go_ret
          exact ⟨by rw [HE1.out]; rfl, hBel⟩
      · by_cases h2 : tk = 2 ∨ tk = 3
        · have HE1 := Lib.hid (show lineEnds l = ((tt.toList == [98, 114, 101, 97, 107]) || ((tt.toList == [99, 111, 110, 116, 105, 110, 117, 101]) || ((tt.toList == [114, 101, 116, 117, 114, 110]) || (tt.toList == [102, 97, 108, 108, 116, 104, 114, 111, 117, 103, 104])))) by
            rw [HE.out, endsT, if_neg h1, if_pos h2, ← eq_list tt [98, 114, 101, 97, 107], ← eq_list tt [99, 111, 110, 116, 105, 110, 117, 101], ← eq_list tt [114, 101, 116, 117, 114, 110], ← eq_list tt [102, 97, 108, 108, 116, 104, 114, 111, 117, 103, 104]])
          cases g1 : (tt.toList == [98, 114, 101, 97, 107]) <;> cases g2 : (tt.toList == [99, 111, 110, 116, 105, 110, 117, 101]) <;> cases g3 : (tt.toList == [114, 101, 116, 117, 114, 110]) <;> cases g4 : (tt.toList == [102, 97, 108, 108, 116, 104, 114, 111, 117, 103, 104]) <;> rcases h2 with rfl | rfl
          all_goals
            rw [g1, g2, g3, g4] at HE1
            go_wp2_with fail
            go_ret
            exact ⟨by rw [HE1.out]; rfl, hBel⟩
        · have HE1 := Lib.hid (show lineEnds l = Lib.contains endSigns.data.toList ((⟨#[32]⟩ ++ tt ++ ⟨#[32]⟩ : ByteArray)).data.toList by rw [HE.out, endsT, if_neg h1, if_neg h2])
          generalize Lib.contains endSigns.data.toList ((⟨#[32]⟩ ++ tt ++ ⟨#[32]⟩ : ByteArray)).data.toList = q at *
          have e1 : (tk == 1) = false := by rw [beq_eq_false_iff_ne]; omega
          have e2 : (tk == 2) = false := by rw [beq_eq_false_iff_ne]; omega
          have e3 : (tk == 3) = false := by rw [beq_eq_false_iff_ne]; omega
          have e4 : (tk == 4) = false := by rw [beq_eq_false_iff_ne]; omega
          have e5 : (tk == 5) = false := by rw [beq_eq_false_iff_ne]; omega
          clear h1 h2
          unfold endSigns at HCO
          have hsz : tt.size ≤ 65536 := HSZ.out
          go_wp2_with fail
          refine HCO.out.mono ?_
          rintro e w2 ⟨rfl, rfl⟩
          go_wp2_with fail
          go_ret
          exact ⟨by rw [HE1.out]; rfl, hBel⟩
end Go.Proofs.YtnalfjaojcahhaaGreatDoor
namespace Go.Proofs.YtnalfjaojcahhaaGreatDoor
open Go.RowKit Go.Lib Go.Proofs
attribute [local go_sem ↓] Go.wp_at_zero Go.wp_at_succ

theorem hasPrefix_any (s p : ByteArray) (w : World) : Calls Tryz.prog 177 #[.string s, .string p] w fun e w' => e = .returned (.bool (Lib.hasPrefix s.data.toList p.data.toList)) ∧ w = w' :=
  (Any.strings_HasPrefix Tryz.laysPrefix s p w).mono fun _ _ h => ⟨h.1, h.2.symm⟩

set_option maxHeartbeats 2000000 in
theorem note_no (X : Nat) (s : ByteArray) (i : Nat) (l : List Tok) (nv : Value) (w : World) (h : ScAt w X s i l nv) (h1 : Lib.hasPrefix (s.data.toList.drop i) [47, 47] = false) (h2 : Lib.hasPrefix (s.data.toList.drop i) [47, 42] = false) :
    Calls Tryz.prog 178 #[.pointer (some ⟨X, 0, none⟩)] w fun e w' => e = .returned (.bool false) ∧ Below w.heap.size w w' := by
  obtain ⟨lv, hb, hO⟩ := h.out
  have hle := h.le
  have hmo := h.most
  obtain ⟨x0, x1, x2, x3, -, -, -, -⟩ := blk4 hb
  have p0 : (0 : Int) ≤ (i : Int) := by omega
  have p2 : (i : Int) ≤ (s.size : Int) := by omega
  have H1 := Lib.hid (fun w => hasPrefix_any (s.extract i s.size) ⟨#[47, 47]⟩ w)
  have H2 := Lib.hid (fun w => hasPrefix_any (s.extract i s.size) ⟨#[47, 42]⟩ w)
  rw [show (⟨#[47, 47]⟩ : ByteArray).data.toList = [47, 47] from rfl, extract_drop, h1] at H1
  rw [show (⟨#[47, 42]⟩ : ByteArray).data.toList = [47, 42] from rfl, extract_drop, h2] at H2
  clear h1 h2
  go_enter Tryz.func178, Tryz.ntmps178
  go_wp2_with fail
  go_quiet (fail)
  clear x0 x2 x3
  have y1 : (w.drewN nq).cell? ⟨X, 1, none⟩ = some (.int .i64 (i : Int)) := x1
  clear x1
  have hB := below_drewN (Below.refl w.heap.size w) nq
  generalize w.drewN nq = w1 at *
  go_wp2_with fail
  refine (H1.out _).mono ?_
  rintro e w2 ⟨rfl, rfl⟩
  go_wp2_with fail
  refine (H2.out _).mono ?_
  rintro e w2 ⟨rfl, rfl⟩
  go_wp2_with fail
  go_ret
  exact ⟨rfl, hB⟩

def row3 : ByteArray := (⟨#[60, 60, 61, 32, 62, 62, 61, 32, 38, 94, 61, 32, 46, 46, 46]⟩ : ByteArray)
def row2 : ByteArray := (⟨#[38, 38, 32, 124, 124, 32, 61, 61, 32, 33, 61, 32, 60, 61, 32, 62, 61, 32, 58, 61, 32, 43, 43, 32, 45, 45, 32, 43, 61, 32, 45, 61, 32, 42, 61, 32, 47, 61, 32, 37, 61, 32, 38, 61, 32, 124, 61, 32, 94, 61, 32, 60, 60, 32, 62, 62, 32, 38, 94, 32, 60, 45]⟩ : ByteArray)
def row1 : ByteArray := (⟨#[43, 32, 45, 32, 42, 32, 47, 32, 37, 32, 38, 32, 124, 32, 94, 32, 60, 32, 62, 32, 61, 32, 33, 32, 40, 32, 41, 32, 91, 32, 93, 32, 123, 32, 125, 32, 44, 32, 59, 32, 46, 32, 58, 32, 126]⟩ : ByteArray)
theorem results_arr {fn : Func} {q : Tmp} {ty : TypeId} (hfn : fn.results = #[.cell q 174]) (tmps : Array Value) {w : World} {g : Nat} {a b c : Value} (ht : tmps.getD q undef = .pointer (some ⟨g, 0, none⟩)) (hb : Blk w g ty #[a, b, c]) :
    (results fn tmps).run Tryz.prog w = .ok (.agg #[a, b, c]) w := by
  obtain ⟨d0, d1, d2⟩ := blk3 hb
  unfold results
  rw [hfn]
  have ht' : tmps[q]?.getD undef = .pointer (some ⟨g, 0, none⟩) := by simpa using ht
  simp [ht', go_sem, d0, d1, d2]
theorem signs_any (w : World) : Calls Tryz.prog 204 #[] w fun e w' => e = .returned (.agg #[.string row3, .string row2, .string row1]) ∧ Below w.heap.size w w' := by
  go_enter Tryz.func204, Tryz.ntmps204
  go_wp2_with fail
  refine bodyPost_ret (results_arr (ty := 174) rfl _ (g := w.heap.size) (by rfl) (a := .string row3) (b := .string row2) (c := .string row1) (Blk.new w _ _)) rfl ?_
  exact ⟨rfl, (Below.refl _ _).alloc (Nat.le_refl _) _⟩

theorem run_at3 (a b c : ByteArray) (i : Nat) (hi : i < 3) (w : World) : (Instr.index 174 (.agg #[.string a, .string b, .string c]) (.int .i64 (i : Int))).run Tryz.prog w = .ok (.string (if i = 0 then a else if i = 1 then b else c)) w := by
  rcases i with _ | _ | _ | i
  · simp [Instr.index, run_underlying Tryz.underlying174, asIntOf, go_sem]
  · simp [Instr.index, run_underlying Tryz.underlying174, asIntOf, go_sem]
  · simp [Instr.index, run_underlying Tryz.underlying174, asIntOf, go_sem]
  · omega

/-- Is a sign of so many bytes ahead? -/
def signB (row : ByteArray) (t : ByteArray) (n : Nat) : Bool := Lib.contains ((⟨#[32]⟩ ++ row ++ ⟨#[32]⟩ : ByteArray)).data.toList ((⟨#[32]⟩ ++ t.extract 0 n ++ ⟨#[32]⟩ : ByteArray)).data.toList

set_option maxRecDepth 100000 in
set_option maxHeartbeats 4000000 in
theorem sign_one (X : Nat) (s : ByteArray) (i : Nat) (l : List Tok) (nv : Value) (w : World) (h : ScAt w X s i l nv) (hT : Tab w) (hl : l.length + 1 ≤ 65537) (hi : i < s.size)
    (h3 : decide (3 ≤ s.size - i) = true → signB row3 (s.extract i s.size) 3 = false) (h2 : decide (2 ≤ s.size - i) = true → signB row2 (s.extract i s.size) 2 = false) (h1 : signB row1 (s.extract i s.size) 1 = true) :
    Calls Tryz.prog 184 #[.pointer (some ⟨X, 0, none⟩)] w (PostS X s nv w (i + 1) (l ++ [⟨6, s.extract i (i + 1), i⟩]) (.tuple #[])) := by
  obtain ⟨lv, hb, hO⟩ := h.out
  have hle := h.le
  have hmo := h.most
  have hlt := hb.lt
  have HH := Lib.hid h
  obtain ⟨x0, x1, x2, x3, -, -, -, -⟩ := blk4 hb
  have p0 : (0 : Int) ≤ (i : Int) := by omega
  have p2 : (i : Int) ≤ (s.size : Int) := by omega
  have hsz := extract_size s i
  have H3 := Lib.hid (fun w' (hb : Below w.heap.size w w') => contains_any (⟨#[32]⟩ ++ row3 ++ ⟨#[32]⟩) (⟨#[32]⟩ ++ (s.extract i s.size).extract 0 3 ++ ⟨#[32]⟩) w' (hT.below hb) (Nat.le_trans (show _ ≤ 100 by decide +kernel) (by omega)))
  have H2 := Lib.hid (fun w' (hb : Below w.heap.size w w') => contains_any (⟨#[32]⟩ ++ row2 ++ ⟨#[32]⟩) (⟨#[32]⟩ ++ (s.extract i s.size).extract 0 2 ++ ⟨#[32]⟩) w' (hT.below hb) (Nat.le_trans (show _ ≤ 100 by decide +kernel) (by omega)))
  have H1 := Lib.hid (fun w' (hb : Below w.heap.size w w') => contains_any (⟨#[32]⟩ ++ row1 ++ ⟨#[32]⟩) (⟨#[32]⟩ ++ (s.extract i s.size).extract 0 1 ++ ⟨#[32]⟩) w' (hT.below hb) (Nat.le_trans (show _ ≤ 100 by decide +kernel) (by omega)))
  rw [show Lib.contains ((⟨#[32]⟩ ++ row1 ++ ⟨#[32]⟩ : ByteArray)).data.toList ((⟨#[32]⟩ ++ (s.extract i s.size).extract 0 1 ++ ⟨#[32]⟩ : ByteArray)).data.toList = true from h1] at H1
  rw [show Lib.contains ((⟨#[32]⟩ ++ row2 ++ ⟨#[32]⟩ : ByteArray)).data.toList ((⟨#[32]⟩ ++ (s.extract i s.size).extract 0 2 ++ ⟨#[32]⟩ : ByteArray)).data.toList = signB row2 (s.extract i s.size) 2 from rfl] at H2
  rw [show Lib.contains ((⟨#[32]⟩ ++ row3 ++ ⟨#[32]⟩ : ByteArray)).data.toList ((⟨#[32]⟩ ++ (s.extract i s.size).extract 0 3 ++ ⟨#[32]⟩ : ByteArray)).data.toList = signB row3 (s.extract i s.size) 3 from rfl] at H3
  clear h1 hT
  generalize signB row3 (s.extract i s.size) 3 = c3 at *
  generalize signB row2 (s.extract i s.size) 2 = c2 at *
  have g3 : row3.size ≤ 100 := by decide +kernel
  have g2 : row2.size ≤ 100 := by decide +kernel
  have g1 : row1.size ≤ 100 := by decide +kernel
  have HSG := Lib.hid (fun w => signs_any w)
  generalize row3 = r3 at *
  generalize row2 = r2 at *
  generalize row1 = r1 at *
  go_enter Tryz.func184, Tryz.ntmps184
  go_wp2_with fail
  go_quiet (fail)
  have hB := below_drewN (Below.refl w.heap.size w) nq
  generalize w.drewN nq = w1 at *
  generalize s.extract i s.size = t at *
  clear x0 x1 x2 x3
  go_wp2_with fail
  refine (HSG.out _).mono ?_
  rintro e w2 ⟨rfl, hb2⟩
  have hB2 := hB.trans (hb2.mono hB.size)
  clear hb2 HSG
  have HQ := HH.out.below hB2
  obtain ⟨lv1, hb1, hO1⟩ := HQ.out
  obtain ⟨x0, x1, x2, x3, f0, f1, f2, f3⟩ := blk4 hb1
  have q1 : IntKind.i64.wrap ((i : Int) + 1) = (i : Int) + 1 := IntWalk.i64_in _ (by omega)
  have ix0 : ∀ W : World, (Instr.index 174 (.agg #[.string r3, .string r2, .string r1]) (.int .i64 0)).run Tryz.prog W = .ok (.string r3) W := fun W => run_at3 r3 r2 r1 0 (by omega) W
  have ix1 : ∀ W : World, (Instr.index 174 (.agg #[.string r3, .string r2, .string r1]) (.int .i64 1)).run Tryz.prog W = .ok (.string r2) W := fun W => run_at3 r3 r2 r1 1 (by omega) W
  have ix2 : ∀ W : World, (Instr.index 174 (.agg #[.string r3, .string r2, .string r1]) (.int .i64 2)).run Tryz.prog W = .ok (.string r1) W := fun W => run_at3 r3 r2 r1 2 (by omega) W
  have hset := HQ.set (i + 1) (by omega)
  rw [show ((i + 1 : Nat) : Int) = (i : Int) + 1 by omega] at hset
  have k1 : 1 ≤ t.size := by omega
  have k1i : (1 : Int) ≤ (t.size : Int) := by omega
  have HSET := Lib.hid hset
  have HSZ := Lib.hid hsz
  clear hO hO1 hb hb1 HH h hset hsz
  go_wp2_with fail
  refine wp_loop_rounds 4 ?_
  by_cases k3 : 3 ≤ t.size
  · obtain rfl : c3 = false := h3 (by rw [decide_eq_true_iff]; have := HSZ.out; omega)
    obtain rfl : c2 = false := h2 (by rw [decide_eq_true_iff]; have := HSZ.out; omega)
    have k3i : (3 : Int) ≤ (t.size : Int) := by omega
    have k2 : 2 ≤ t.size := by omega
    have k2i : (2 : Int) ≤ (t.size : Int) := by omega
    rw [rounds_succ]
    go_wp2_with fail
    refine (H3.out _ hB2).mono ?_
    rintro e w3 ⟨rfl, rfl⟩
    go_wp2_with fail
    rw [rounds_succ]
    go_wp2_with fail
    refine (H2.out _ hB2).mono ?_
    rintro e w3 ⟨rfl, rfl⟩
    go_wp2_with fail
    rw [rounds_succ]
    go_wp2_with fail
    refine (H1.out _ hB2).mono ?_
    rintro e w3 ⟨rfl, rfl⟩
    go_wp2_with fail
    have hset := HSET.out
    refine (add_any X s (i + 1) l nv 6 i (by omega) hl _ hset).mono ?_
    rintro e w4 ⟨rfl, hs4, hb4⟩
    go_wp2_with fail
    refine bodyPost_ret (results_none rfl _ _ _) rfl ?_
    exact ⟨rfl, hs4, ((hB2.mono (Nat.le_of_lt hlt)).setCell (Nat.le_refl _) _).trans hb4⟩
  · have k3n : decide (3 ≤ t.size) = false := by rw [decide_eq_false_iff_not]; exact k3
    have k3i : decide ((3 : Int) ≤ (t.size : Int)) = false := by rw [decide_eq_false_iff_not]; omega
    by_cases k2 : 2 ≤ t.size
    · obtain rfl : c2 = false := h2 (by rw [decide_eq_true_iff]; have := HSZ.out; omega)
      have k2i : (2 : Int) ≤ (t.size : Int) := by omega
      clear h3 k3
      rw [rounds_succ]
      go_wp2_with fail
      rw [rounds_succ]
      go_wp2_with fail
      refine (H2.out _ hB2).mono ?_
      rintro e w3 ⟨rfl, rfl⟩
      go_wp2_with fail
      rw [rounds_succ]
      go_wp2_with fail
      refine (H1.out _ hB2).mono ?_
      rintro e w3 ⟨rfl, rfl⟩
      go_wp2_with fail
      have hset := HSET.out
      refine (add_any X s (i + 1) l nv 6 i (by omega) hl _ hset).mono ?_
      rintro e w4 ⟨rfl, hs4, hb4⟩
      go_wp2_with fail
      refine bodyPost_ret (results_none rfl _ _ _) rfl ?_
      exact ⟨rfl, hs4, ((hB2.mono (Nat.le_of_lt hlt)).setCell (Nat.le_refl _) _).trans hb4⟩
    · have k2n : decide (2 ≤ t.size) = false := by rw [decide_eq_false_iff_not]; exact k2
      have k2i : decide ((2 : Int) ≤ (t.size : Int)) = false := by rw [decide_eq_false_iff_not]; omega
      clear h3 h2 k3 k2
      rw [rounds_succ]
      go_wp2_with fail
      rw [rounds_succ]
      go_wp2_with fail
      rw [rounds_succ]
      go_wp2_with fail
      refine (H1.out _ hB2).mono ?_
      rintro e w3 ⟨rfl, rfl⟩
      go_wp2_with fail
      have hset := HSET.out
      refine (add_any X s (i + 1) l nv 6 i (by omega) hl _ hset).mono ?_
      rintro e w4 ⟨rfl, hs4, hb4⟩
      go_wp2_with fail
      refine bodyPost_ret (results_none rfl _ _ _) rfl ?_
      exact ⟨rfl, hs4, ((hB2.mono (Nat.le_of_lt hlt)).setCell (Nat.le_refl _) _).trans hb4⟩
end Go.Proofs.YtnalfjaojcahhaaGreatDoor
namespace Go.Proofs.YtnalfjaojcahhaaGreatDoor
open Go.RowKit Go.Lib Go.Proofs
attribute [local go_sem ↓] Go.wp_at_zero Go.wp_at_succ

/-- A line's end, if one is there. -/
def lineT (l : List Tok) (p : Int) : List Tok := if lineEnds l = true then l ++ [⟨6, ⟨#[10]⟩, p⟩] else l

set_option maxHeartbeats 2000000 in
theorem line_any (X : Nat) (s : ByteArray) (i : Nat) (l : List Tok) (nv : Value) (p : Int) (hl : l.length + 1 ≤ 65537) (w : World) (h : ScAt w X s i l nv) (hT : Tab w) (hsz : ∀ t ∈ l, t.text.size ≤ 65536) :
    Calls Tryz.prog 135 #[.pointer (some ⟨X, 0, none⟩), .int .i64 p] w (PostS X s nv w i (lineT l p) (.tuple #[])) := by
  have HE := Lib.hid (scEnds_any X s i l nv w h hT hsz)
  have hlt := h.lt
  cases hq : lineEnds l with
  | false =>
    have HL := Lib.hid (show lineT l p = l by unfold lineT; rw [if_neg (by rw [hq]; decide)])
    rw [hq] at HE
    clear hq
    go_enter Tryz.func135, Tryz.ntmps135
    go_wp2_with fail
    refine HE.out.mono ?_
    rintro e w1 ⟨rfl, hb1⟩
    go_wp2_with fail
    go_end0
    rw [HL.out]
    exact ⟨rfl, h.below hb1, hb1.mono (Nat.le_of_lt hlt)⟩
  | true =>
    have HL := Lib.hid (show lineT l p = l ++ [⟨6, ⟨#[10]⟩, p⟩] by unfold lineT; rw [if_pos hq])
    rw [hq] at HE
    clear hq
    go_enter Tryz.func135, Tryz.ntmps135
    go_wp2_with fail
    refine HE.out.mono ?_
    rintro e w1 ⟨rfl, hb1⟩
    have h1 := h.below hb1
    obtain ⟨lv, hb, hO⟩ := h1.out
    obtain ⟨A0, c0, hlv, _⟩ := hO.form
    subst hlv
    obtain ⟨x0, x1, x2, x3, f0, f1, f2, f3⟩ := blk4 hb
    have hlt1 := hb.lt
    go_wp2_with (at_builtin; refine wpList_pushT rfl (.tmp 10) (.tmp 13) rfl (X + 1) _ _ l ⟨6, ⟨#[10]⟩, p⟩ rfl _ rfl (by simp) hO (by omega) (by omega) ?_; intro g c w2 hO2 hB2; have hb2 := hb.below hB2 (Nat.lt_succ_self _); obtain ⟨z0, z1, z2, z3, y0, y1, y2, y3⟩ := blk4 hb2)
    go_end0
    rw [HL.out]
    exact ⟨rfl, h1.row hb2 hO2 (by rw [List.length_append]; simpa using hl), ((hb1.mono (Nat.le_of_lt hlt)).trans (hB2.mono (Nat.le_succ _))).setCell (Nat.le_refl _) _⟩
end Go.Proofs.YtnalfjaojcahhaaGreatDoor
namespace Go.Proofs.YtnalfjaojcahhaaGreatDoor
open Go.RowKit Go.Lib Go.Proofs
attribute [local go_sem ↓] Go.wp_at_zero Go.wp_at_succ

def byteAt (s : ByteArray) (i : Nat) : Nat := (s.data.toList.getD i 0).toNat
theorem byteAt_lt (s : ByteArray) (i : Nat) : byteAt s i < 256 := UInt8.toNat_lt _
theorem run_byte (s : ByteArray) (i : Nat) (hi : i < s.size) (W : World) : (Instr.index 9 (.string s) (.int .i64 (i : Int))).run Tryz.prog W = .ok (.int .u8 (byteAt s i : Int)) W := by
  rw [run_index_string (P := Tryz.prog) W 9 s .i64 (i : Int) Tryz.underlying9]
  simp [byteAt, hi]
  rfl

set_option maxRecDepth 100000 in
set_option maxHeartbeats 4000000 in
theorem next_blank (X : Nat) (s : ByteArray) (i : Nat) (l : List Tok) (nv : Value) (w : World) (h : ScAt w X s i l nv) (hi : i < s.size) (hm : Lib.hasPrefix s.data.toList [239, 187, 191] = false) (hc : byteAt s i = 32) :
    Calls Tryz.prog 134 #[.pointer (some ⟨X, 0, none⟩)] w (PostS X s nv w (i + 1) l (.tuple #[])) := by
  obtain ⟨lv, hb, hO⟩ := h.out
  have hmo := h.most
  have hlt := hb.lt
  obtain ⟨x0, x1, x2, x3, f0, f1, f2, f3⟩ := blk4 hb
  have hbyte := fun W => run_byte s i hi W
  rw [hc] at hbyte
  have HM := Lib.hid (fun w => hasPrefix_any s ⟨#[239, 187, 191]⟩ w)
  rw [show (⟨#[239, 187, 191]⟩ : ByteArray).data.toList = [239, 187, 191] from rfl, hm] at HM
  have hset := h.set (i + 1) (by omega)
  rw [show ((i + 1 : Nat) : Int) = (i : Int) + 1 by omega] at hset
  have HSET := Lib.hid hset
  have q1 : IntKind.i64.wrap ((i : Int) + 1) = (i : Int) + 1 := IntWalk.i64_in _ (by omega)
  clear hset hm hc hO hb
  cases hz : ((i : Int) == 0)
  all_goals
    go_enter Tryz.func134, Tryz.ntmps134
    go_wp2_with fail
    try
      refine (HM.out _).mono ?_
      rintro e w2 ⟨rfl, rfl⟩
      go_wp2_with fail
    go_end0
    exact ⟨rfl, HSET.out, (Below.refl X w).setCell (by exact Nat.le_refl X) _⟩
set_option maxRecDepth 100000 in
set_option maxHeartbeats 4000000 in
theorem next_nl (X : Nat) (s : ByteArray) (i : Nat) (l : List Tok) (nv : Value) (w : World) (h : ScAt w X s i l nv) (hi : i < s.size) (hm : Lib.hasPrefix s.data.toList [239, 187, 191] = false) (hc : byteAt s i = 10)
    (hl : l.length + 1 ≤ 65537) (hT : Tab w) (hsz : ∀ t ∈ l, t.text.size ≤ 65536) :
    Calls Tryz.prog 134 #[.pointer (some ⟨X, 0, none⟩)] w (PostS X s nv w (i + 1) (lineT l i) (.tuple #[])) := by
  obtain ⟨lv, hb, hO⟩ := h.out
  have hmo := h.most
  have hlt := hb.lt
  obtain ⟨x0, x1, x2, x3, f0, f1, f2, f3⟩ := blk4 hb
  have hbyte := fun W => run_byte s i hi W
  rw [hc] at hbyte
  have HM := Lib.hid (fun w => hasPrefix_any s ⟨#[239, 187, 191]⟩ w)
  rw [show (⟨#[239, 187, 191]⟩ : ByteArray).data.toList = [239, 187, 191] from rfl, hm] at HM
  have q1 : IntKind.i64.wrap ((i : Int) + 1) = (i : Int) + 1 := IntWalk.i64_in _ (by omega)
  have HL := Lib.hid (line_any X s i l nv (i : Int) hl w h hT hsz)
  clear hm hc hO hb h hT hsz
  cases hz : ((i : Int) == 0)
  all_goals
    go_enter Tryz.func134, Tryz.ntmps134
    go_wp2_with fail
    try
      refine (HM.out _).mono ?_
      rintro e w2 ⟨rfl, rfl⟩
      go_wp2_with fail
    refine HL.out.mono ?_
    rintro e w2 ⟨rfl, hs2, hb2⟩
    have hset := hs2.set (i + 1) (by omega)
    rw [show ((i + 1 : Nat) : Int) = (i : Int) + 1 by omega] at hset
    have HSET := Lib.hid hset
    obtain ⟨lv2, hbb, -⟩ := hs2.out
    clear x0 x1 x2 x3 f0 f1 f2 f3 hset HL
    obtain ⟨x0, x1, x2, x3, f0, f1, f2, f3⟩ := blk4 hbb
    go_wp2_with fail
    go_end0
    exact ⟨rfl, HSET.out, hb2.setCell (by exact Nat.le_refl X) _⟩

set_option maxRecDepth 100000 in
set_option maxHeartbeats 8000000 in
theorem next_sign (c : Nat) (hcc : c = 91 ∨ c = 93 ∨ c = 61) (X : Nat) (s : ByteArray) (i : Nat) (l : List Tok) (nv : Value) (w : World) (h : ScAt w X s i l nv) (hi : i < s.size) (hm : Lib.hasPrefix s.data.toList [239, 187, 191] = false) (hc : byteAt s i = c)
    (hl : l.length + 1 ≤ 65537) (hT : Tab w) (n1 : Lib.hasPrefix (s.data.toList.drop i) [47, 47] = false) (n2 : Lib.hasPrefix (s.data.toList.drop i) [47, 42] = false)
    (h3 : decide (3 ≤ s.size - i) = true → signB row3 (s.extract i s.size) 3 = false) (h2 : decide (2 ≤ s.size - i) = true → signB row2 (s.extract i s.size) 2 = false) (h1 : signB row1 (s.extract i s.size) 1 = true) :
    Calls Tryz.prog 134 #[.pointer (some ⟨X, 0, none⟩)] w (PostS X s nv w (i + 1) (l ++ [⟨6, s.extract i (i + 1), i⟩]) (.tuple #[])) := by
  obtain ⟨lv, hb, hO⟩ := h.out
  have hmo := h.most
  have hlt := hb.lt
  obtain ⟨x0, x1, x2, x3, f0, f1, f2, f3⟩ := blk4 hb
  have hbyte := fun W => run_byte s i hi W
  rw [hc] at hbyte
  have HM := Lib.hid (fun w => hasPrefix_any s ⟨#[239, 187, 191]⟩ w)
  rw [show (⟨#[239, 187, 191]⟩ : ByteArray).data.toList = [239, 187, 191] from rfl, hm] at HM
  have q1 : IntKind.i64.wrap ((i : Int) + 1) = (i : Int) + 1 := IntWalk.i64_in _ (by omega)
  have HN := Lib.hid (note_no X s i l nv w h n1 n2)
  have HSG := Lib.hid (fun w' (hb : Below w.heap.size w w') => sign_one X s i l nv w' (h.below hb) (hT.below hb) hl hi h3 h2 h1)
  clear hm hc hO hb h hT n1 n2 h3 h2 h1
  rcases hcc with rfl | rfl | rfl
  all_goals
    cases hz : ((i : Int) == 0)
    all_goals
      go_enter Tryz.func134, Tryz.ntmps134
      go_wp2_with fail
      try
        refine (HM.out _).mono ?_
        rintro e w2 ⟨rfl, rfl⟩
        go_wp2_with fail
      refine HN.out.mono ?_
      rintro e w2 ⟨rfl, hb2⟩
      go_wp2_with fail
      refine (letter_any _ _).mono ?_
      rw [show ∀ c : Int, c = 91 ∨ c = 93 ∨ c = 61 → runeLetter c = false by intro c hc; rcases hc with rfl | rfl | rfl <;> rfl]
      rotate_left
      · first | exact .inl rfl | exact .inr (.inl rfl) | exact .inr (.inr rfl)
      rintro e w3 ⟨rfl, rfl⟩
      go_wp2_with fail
      refine (figure_any _ _).mono ?_
      rw [show ∀ c : Int, c = 91 ∨ c = 93 ∨ c = 61 → runeFigure c = false by intro c hc; rcases hc with rfl | rfl | rfl <;> rfl]
      rotate_left
      · first | exact .inl rfl | exact .inr (.inl rfl) | exact .inr (.inr rfl)
      rintro e w3 ⟨rfl, rfl⟩
      go_wp2_with fail
      refine (HSG.out _ hb2).mono ?_
      rintro e w4 ⟨rfl, hs4, hb4⟩
      go_wp2_with fail
      go_end0
      exact ⟨rfl, hs4, (hb2.mono (Nat.le_of_lt hlt)).trans hb4⟩
end Go.Proofs.YtnalfjaojcahhaaGreatDoor
