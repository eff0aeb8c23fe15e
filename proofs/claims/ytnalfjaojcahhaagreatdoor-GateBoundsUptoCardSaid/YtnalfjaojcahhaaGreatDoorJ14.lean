/-
  The scanner: next, at a letter. By an AI agent.
  The scanner's steps, as a plain function; next at each. By an AI agent.
  place.Wrong at bytes that are all signs of one byte each; DecodeRune there. By an AI agent.
  The scanner: scan and Scan at a text that it goes through, a deferred function beside it. By an AI agent.
-/
import Derived.Test.YtnalfjaojcahhaaGreatDoorJ13
import Derived.Test.YtnalfjaojcahhaaGreatDoorJ12
import Derived.Deep.RegionLaw
import Derived.Lib.SlBytesRow
import Derived.BigQuiet
import Derived.Defers
import Derived.Recover
namespace Go.Proofs.YtnalfjaojcahhaaGreatDoor
open Go.RowKit Go.Lib Go.Proofs
attribute [local go_sem ↓] Go.wp_at_zero Go.wp_at_succ

theorem run_kind (k : Int) (hk : k = 0 ∨ k = 1 ∨ k = 2) (w : World) : (Instr.index 161 (.agg #[.int .i64 1, .int .i64 2, .int .i64 3]) (.int .i64 k)).run Tryz.prog w = .ok (.int .i64 (k + 1)) w := by
  rcases hk with rfl | rfl | rfl
  all_goals simp [Instr.index, run_underlying Tryz.underlying161, asIntOf, go_sem]
theorem wordN_cases (s : ByteArray) : wordN s = 0 ∨ wordN s = 1 ∨ wordN s = 2 := by
  unfold wordN
  split
  · exact .inr (.inl rfl)
  · split
    · exact .inr (.inr rfl)
    · exact .inl rfl
theorem letter_not (c : Nat) (h : runeLetter (c : Int) = true) : c ≠ 10 ∧ c ≠ 32 ∧ c ≠ 9 ∧ c ≠ 13 ∧ c < 256 := by
  unfold runeLetter at h
  simp at h
  omega

set_option maxRecDepth 100000 in
set_option maxHeartbeats 40000000 in
theorem next_letter (X : Nat) (s : ByteArray) (i : Nat) (l : List Tok) (nv : Value) (w : World) (h : ScAt w X s i l nv) (hi : i < s.size) (hm : Lib.hasPrefix s.data.toList [239, 187, 191] = false) (hc : runeLetter (byteAt s i : Int) = true)
    (hl : l.length + 1 ≤ 65537) (n1 : Lib.hasPrefix (s.data.toList.drop i) [47, 47] = false) (n2 : Lib.hasPrefix (s.data.toList.drop i) [47, 42] = false) :
    Calls Tryz.prog 134 #[.pointer (some ⟨X, 0, none⟩)] w (PostS X s nv w (i + wordLen (s.data.toList.drop i)) (l ++ [⟨wordN (s.extract i (i + wordLen (s.data.toList.drop i))) + 1, s.extract i (i + wordLen (s.data.toList.drop i)), i⟩]) (.tuple #[])) := by
  obtain ⟨lv, hb, hO⟩ := h.out
  have hmo := h.most
  have hlt := hb.lt
  obtain ⟨x0, x1, x2, x3, f0, f1, f2, f3⟩ := blk4 hb
  have hbyte := fun W => run_byte s i hi W
  have HM := Lib.hid (fun w => hasPrefix_any s ⟨#[239, 187, 191]⟩ w)
  rw [show (⟨#[239, 187, 191]⟩ : ByteArray).data.toList = [239, 187, 191] from rfl, hm] at HM
  obtain ⟨m1, m2, m3, m4, m5⟩ := letter_not _ hc
  have HLT := Lib.hid (fun w => letter_any (byteAt s i : Int) w)
  rw [hc] at HLT
  have HN := Lib.hid (note_no X s i l nv w h n1 n2)
  have HW := Lib.hid (fun w' (hb : Below w.heap.size w w') => while_any 180 ent_n1 n1_any X s i l nv w' (h.below hb))
  generalize hwl : i + wordLen (s.data.toList.drop i) = e at *
  have hie : i ≤ e := by omega
  generalize byteAt s i = c at *
  have e10 : ((c : Int) == 10) = false := by rw [beq_eq_false_iff_ne]; omega
  have e32 : ((c : Int) == 32) = false := by rw [beq_eq_false_iff_ne]; omega
  have e9 : ((c : Int) == 9) = false := by rw [beq_eq_false_iff_ne]; omega
  have e13 : ((c : Int) == 13) = false := by rw [beq_eq_false_iff_ne]; omega
  have qc : IntKind.i32.wrap (c : Int) = (c : Int) := IntWalk.i32_in _ (by omega)
  clear hm hc hO hb h n1 n2 m1 m2 m3 m4 hwl
  have hez : (e : Int) = (e : Int) := rfl
  clear hez
  cases hz : ((i : Int) == 0)
  all_goals
    go_enter Tryz.func134, Tryz.ntmps134
    go_wp2_with fail
    try
      refine (HM.out _).mono ?_
      rintro e w2 ⟨rfl, rfl⟩
      go_wp2_with fail
    refine HN.out.mono ?_
    rintro e2 w2 ⟨rfl, hb2⟩
    go_wp2_with fail
    refine (HLT.out _).mono ?_
    rintro e2 w3 ⟨rfl, rfl⟩
    go_wp2_with fail
    refine (HW.out _ hb2).mono ?_
    rintro e2 w4 ⟨rfl, hs4, hb4⟩
    obtain ⟨lv4, hb5, -⟩ := hs4.out
    have hle4 := hs4.le
    clear x0 x1 x2 x3 f0 f1 f2 f3
    obtain ⟨x0, x1, x2, x3, f0, f1, f2, f3⟩ := blk4 hb5
    have p0 : (0 : Int) ≤ (i : Int) := by omega
    have p1 : (i : Int) ≤ (e : Int) := by omega
    have p2 : (e : Int) ≤ (s.size : Int) := by omega
    have hk := wordN_cases (s.extract i e)
    have HWD := Lib.hid (fun w => word_any (s.extract i e) w)
    have hAD := fun (w' : World) (hb : Below w4.heap.size w4 w') => add_any X s e l nv (wordN (s.extract i e) + 1) i (by omega) hl w' (hs4.below hb)
    have HAD := Lib.hid hAD
    clear hAD
    have hix := fun W => run_kind (wordN (s.extract i e)) hk W
    generalize wordN (s.extract i e) = kw at *
    clear hbyte HM HLT HN HW e10 e32 e9 e13 qc x2 x3 f0 f1 f2 f3 hb5
    go_upto_region 13 with fail
    go_region_held3 (fun w' => w'.cell? ⟨X, 0, none⟩ = some (.string s) ∧ w'.cell? ⟨X, 1, none⟩ = some (.int .i64 (e : Int)))
      (first | exact ⟨z0, z1⟩ | go_keep)
      (first
        | (go_at_call 160; refine (HWD.out _).mono ?_; rintro e3 w5 ⟨rfl, rfl⟩)
        | (go_at_call 181; refine (HAD.out _ (Below.refl _ _).drew).mono ?_; rintro e3 w6 ⟨rfl, hs6, hb6⟩; obtain ⟨lv6, hb7, -⟩ := hs6.out; obtain ⟨z0, z1, -, -, -, -, -, -⟩ := blk4 hb7))
    all_goals
      go_wp2_with fail
      go_end0
      exact ⟨rfl, hs6, ((hb2.mono (Nat.le_of_lt hlt)).trans hb4).drew.trans hb6⟩
end Go.Proofs.YtnalfjaojcahhaaGreatDoor
namespace Go.Proofs.YtnalfjaojcahhaaGreatDoor
open Go.RowKit Go.Lib Go.Proofs

/-- The tokens so far are few and short. -/
def scOk (l : List Tok) : Bool := decide (l.length + 1 ≤ 65537) && l.all fun t => decide (t.text.size ≤ 65536)
/-- A sign of one byte, and none of more bytes. -/
def signOne (s : ByteArray) (i : Nat) : Bool :=
  (decide (byteAt s i = 91) || (decide (byteAt s i = 93) || decide (byteAt s i = 61))) && (!(decide (3 ≤ s.size - i) && signB row3 (s.extract i s.size) 3) && (!(decide (2 ≤ s.size - i) && signB row2 (s.extract i s.size) 2) && signB row1 (s.extract i s.size) 1))
/-- One step; none: where this text does not go. -/
def scStep (s : ByteArray) (i : Nat) (l : List Tok) : Option (Nat × List Tok) :=
  if scOk l = true then
    if byteAt s i = 32 then some (i + 1, l)
    else if byteAt s i = 10 then some (i + 1, lineT l i)
    else if Lib.hasPrefix (s.data.toList.drop i) [47, 47] = true then none
    else if Lib.hasPrefix (s.data.toList.drop i) [47, 42] = true then none
    else if runeLetter (byteAt s i : Int) = true then some (i + wordLen (s.data.toList.drop i), l ++ [⟨wordN (s.extract i (i + wordLen (s.data.toList.drop i))) + 1, s.extract i (i + wordLen (s.data.toList.drop i)), i⟩])
    else if signOne s i = true then some (i + 1, l ++ [⟨6, s.extract i (i + 1), i⟩])
    else none
  else none
/-- All steps, with fuel; at the end a line's. -/
def scFrom (s : ByteArray) : Nat → Nat → List Tok → Option (List Tok)
  | 0, _, _ => none
  | g + 1, i, l =>
    if i < s.size then
      match scStep s i l with
      | some q => scFrom s g q.1 q.2
      | none => none
    else if scOk l = true then some (lineT l (s.size : Int)) else none

theorem scOk_spec {l : List Tok} (h : scOk l = true) : l.length + 1 ≤ 65537 ∧ ∀ t ∈ l, t.text.size ≤ 65536 := by
  unfold scOk at h
  rw [Bool.and_eq_true, decide_eq_true_iff, List.all_eq_true] at h
  exact ⟨h.1, fun t ht => of_decide_eq_true (h.2 t ht)⟩

theorem next_step (X : Nat) (s : ByteArray) (i : Nat) (l : List Tok) (nv : Value) (w : World) (h : ScAt w X s i l nv) (hT : Tab w) (hi : i < s.size) (hm : Lib.hasPrefix s.data.toList [239, 187, 191] = false) (q : Nat × List Tok) (hs : scStep s i l = some q) :
    Calls Tryz.prog 134 #[.pointer (some ⟨X, 0, none⟩)] w (PostS X s nv w q.1 q.2 (.tuple #[])) := by
  unfold scStep at hs
  split at hs
  · rename_i hok
    obtain ⟨hl, hsz⟩ := scOk_spec hok
    split at hs
    · rename_i hc
      cases hs
      exact next_blank X s i l nv w h hi hm hc
    · split at hs
      · rename_i hc
        cases hs
        exact next_nl X s i l nv w h hi hm hc hl hT hsz
      · split at hs
        · cases hs
        · rename_i n1
          split at hs
          · cases hs
          · rename_i n2
            have n1 := Bool.eq_false_iff.2 n1
            have n2 := Bool.eq_false_iff.2 n2
            split at hs
            · rename_i hc
              cases hs
              exact next_letter X s i l nv w h hi hm hc hl n1 n2
            · split at hs
              · rename_i hc
                cases hs
                unfold signOne at hc
                rw [Bool.and_eq_true, Bool.and_eq_true, Bool.and_eq_true, Bool.or_eq_true, Bool.or_eq_true, decide_eq_true_iff, decide_eq_true_iff, decide_eq_true_iff] at hc
                obtain ⟨hc0, h3, h2, h1⟩ := hc
                refine next_sign (byteAt s i) hc0 X s i l nv w h hi hm rfl hl hT n1 n2 (fun hd => ?_) (fun hd => ?_) h1
                · rw [hd, Bool.true_and] at h3; simpa using h3
                · rw [hd, Bool.true_and] at h2; simpa using h2
              · cases hs
  · cases hs
end Go.Proofs.YtnalfjaojcahhaaGreatDoor
namespace Go.Proofs.YtnalfjaojcahhaaGreatDoor
open Go.RowKit Go.Lib Go.Proofs
attribute [local go_sem ↓] Go.wp_at_zero Go.wp_at_succ

set_option maxRecDepth 1000000 in
set_option maxHeartbeats 1000000 in
/-- The fast road: a sign of one byte at the head. -/
theorem decodeRune_ascii (n b off cap x0 : Nat) (w : World) (hn : (0 : Int) < (n : Int)) (hs0 : w.cell? ⟨b, off, none⟩ = some (.int .u8 x0)) (ha : (x0 : Int) < 128) :
    Calls Tryz.prog 176 #[.slice (some ⟨b, off, none⟩) n cap] w fun e w' => e = .returned (.tuple #[.int .i32 x0, .int .i64 1]) ∧ w' = w := by
  go_enter Tryz.func176, Tryz.ntmps176
  go_wp2
  go_loop [8] (fun i => i = .int .i64 0) (fun _ => 0)
  case atStart => rfl
  case round =>
    subst hrel
    go_wp2
    go_ret2
    exact ⟨rfl, rfl⟩

theorem elemB : Tryz.prog.underlying 47 = some (.slice (Tryz.prog.elem 47)) := by kernel_rfl
theorem elemBe : Tryz.prog.elem 47 = 5 := by kernel_rfl
theorem sizeB (w : World) : (sizeOf (Tryz.prog.elem 47)).run Tryz.prog w = .ok 1 w := by rw [elemBe]; exact Tryz.sizeOf5 w
theorem run_bytesFrom (g o n c k : Nat) (hk : k < n) (hn : n ≤ c) (W : World) : (Instr.slice 47 (.slice (some ⟨g, o, none⟩) n c) (some (.int .i64 (k : Int))) none none).run Tryz.prog W = .ok (.slice (some ⟨g, o + k, none⟩) (n - k) (c - k)) W := by
  rw [run_slice_l (P := Tryz.prog) W 47 _ n c elemB .i64 (k : Int) (by omega) (by omega), sizeB]
  simp only [Result.andThen, sliced, Int.toNat_natCast]
  rw [if_neg (by omega)]
  simp [add_at]

set_option maxRecDepth 100000 in
set_option maxHeartbeats 4000000 in
theorem wrong_ascii (g o c : Nat) (s : ByteArray) (w : World) (hb : Lib.Bytes w g o s) (hg : g < w.heap.size) (hc : s.size ≤ c) (hA : ∀ j, j < s.size → 0 < (s.data.toList.getD j 0).toNat ∧ (s.data.toList.getD j 0).toNat < 128) :
    Calls Tryz.prog 132 #[.slice (some ⟨g, o, none⟩) s.size c] w fun e w' => e = .returned (.int .i64 (-1)) ∧ Below w.heap.size w w' := by
  have HB := Lib.hid hb
  have HA := Lib.hid hA
  have hcv := run_convert_whole (P := Tryz.prog) w 47 5 9 Tryz.underlying47 Tryz.underlying5 Tryz.underlying9 g o s hb c
  have hcut := fun k hk W => run_bytesFrom g o s.size c k hk hc W
  clear hb hA
  go_enter Tryz.func132, Tryz.ntmps132
  go_wp2_with fail
  clear hcv
  go_loopg [3, 4, 5, 6, 10, 11] s.size (fun gg _ _ _ _ _ _ wr => ∃ j : Nat, j ≤ s.size ∧ s.size - j ≤ gg ∧ wr.heap[w.heap.size]? = some (.stringIter s j) ∧ Below w.heap.size w wr)
  case atStart => exact ⟨0, Nat.zero_le _, by omega, World.iter_heap w _ 0, (Below.refl w.heap.size w).alloc (Nat.le_refl _) _⟩
  case round =>
    obtain ⟨j, hj, hgg, hit, hBel⟩ := hrel
    have HIT := Lib.hid hit
    clear hit
    by_cases hlt2 : j < s.size
    · have hdc := decode_cases s j hlt2
      have hnext := fun ty => run_next_any_at (P := Tryz.prog) wr w.heap.size s j ty HIT.out hlt2
      have ha := HA.out j hlt2
      have hcell := HB.out j hlt2
      have eb : s.data.toList.getD j 0 = s[j] := by
        rw [List.getD_eq_getElem?_getD, List.getElem?_eq_getElem (by simpa using hlt2)]
        rfl
      rw [← eb] at hcell
      have hd : Utf8.decode s j = ((s.data.toList.getD j 0).toNat, 1) := by
        rcases hdc with ⟨e, _⟩ | ⟨_, h2⟩
        · exact e
        · omega
      rw [hd] at hnext
      clear hdc hd eb
      generalize (s.data.toList.getD j 0).toNat = bb at *
      have j1 := iterAt_heap wr w.heap.size s j (j + 1) HIT.out
      have j2 : Below w.heap.size w (wr.iterAt w.heap.size s (j + 1)) := iterAt_below hBel (Nat.le_refl _)
      generalize wr.iterAt w.heap.size s (j + 1) = W1 at hnext j1 j2
      have hcW : W1.cell? ⟨g, o + j, none⟩ = some (.int .u8 (bb : Int)) := (World.cell?_of_block (a := ⟨g, o + j, none⟩) (j2.block g hg)).trans hcell
      have e0 : ((bb : Int) == 0) = false := by rw [beq_eq_false_iff_ne]; omega
      have e1 : ((bb : Int) == 65533) = false := by rw [beq_eq_false_iff_ne]; omega
      have e2 : ((bb : Int) == 65279) = false := by rw [beq_eq_false_iff_ne]; omega
      have hc2 := hcut j hlt2
      have J1 := Lib.hid j1
      clear hcell j1 hBel
      go_wp2_with fail
      refine (decodeRune_ascii (s.size - j) g (o + j) (c - j) bb W1 (by omega) hcW (by omega)).mono ?_
      rintro e w3 ⟨rfl, rfl⟩
      go_wp2_with fail
      go_roundg (s.size - (j + 1))
      case measure => omega
      case rel => exact ⟨j + 1, by omega, Nat.le_refl _, J1.out, j2⟩
    · have hend := fun ty => run_next_end_at (P := Tryz.prog) wr w.heap.size s j ty HIT.out hlt2
      go_wp2_with fail
      go_ret
      exact ⟨rfl, hBel⟩
end Go.Proofs.YtnalfjaojcahhaaGreatDoor
namespace Go.Proofs.YtnalfjaojcahhaaGreatDoor
open Go.RowKit Go.Lib Go.Proofs
attribute [local go_sem ↓] Go.wp_at_zero Go.wp_at_succ

/-- The deferred function, where nothing went wrong. -/
theorem scan_idle (p q r : Addr) (w : World) :
    CallsD Tryz.prog 133 #[.pointer (some p), .pointer (some q), .pointer (some r)] .returning w fun e u' w' => e = .returned (.tuple #[]) ∧ u' = .returning ∧ w' = w := by
  refine callsD_of_wpS Tryz.func133 rfl fun c₀ cs hu => ?_
  apply wpS_seq
  apply wpS_region
  simp [wpOpsS, go_sem, recoverD, hu, Tryz.ntmps133, Exit.thenS]
  apply wpS_seq
  apply wpS_region
  simp [wpOpsS, go_sem, Exit.thenS]
  refine wpS_cond (t := false) (by simp [Act.eval, Array.replicate]) ?_
  simp only [Bool.false_eq_true, if_false]
  refine wpS_of_wp (wp_skip ?_)
  cases c₀
  simp_all [bodyPostS, results, Tryz.results133]

theorem ScAt.keep {w w' : World} {X : Nat} {s : ByteArray} {i : Nat} {l : List Tok} {nv : Value} (h : ScAt w X s i l nv) (hk : ∀ b, X ≤ b → w'.heap[b]? = w.heap[b]?) : ScAt w' X s i l nv := by
  obtain ⟨lv, h1, h2⟩ := h.out
  exact ⟨⟨lv, (hk X (Nat.le_refl _)).trans h1, h2.keep fun b hb _ => hk b (by omega)⟩, h.le, h.most, h.few⟩
theorem bytes_below {w w' : World} {g o : Nat} {s : ByteArray} (h : Lib.Bytes w g o s) (hg : g < w.heap.size) (hb : Below w.heap.size w w') : Lib.Bytes w' g o s :=
  fun i hi => (World.cell?_of_block (a := ⟨g, o + i, none⟩) (hb.block g hg)).trans (h i hi)

/-- What follows, where nothing is left but the code's own end. -/
def onlyN (Q : Exit → Act → World → Prop) : Exit → Act → World → Prop := fun x a w => match x with
  | .normal => Q .normal a w
  | _ => False
theorem wp_onlyN {P : Program} {c : Code} {Q : Exit → Act → World → Prop} {a : Act} {w : World} (h : c.wp P (onlyN Q) a w) : c.wp P Q a w :=
  Code.wp_mono (fun e a w h => by
    cases e with
    | normal => exact h
    | _ => exact h.elim) h

set_option maxRecDepth 100000 in
set_option maxHeartbeats 4000000 in
theorem scan_ok (g o c : Nat) (s : ByteArray) (w : World) (hb : Lib.Bytes w g o s) (hg : g < w.heap.size) (hc : s.size ≤ c) (hA : ∀ j, j < s.size → 0 < (s.data.toList.getD j 0).toNat ∧ (s.data.toList.getD j 0).toNat < 128)
    (hT : Tab w) (hmo : s.size ≤ 65536) (hm : Lib.hasPrefix s.data.toList [239, 187, 191] = false) (G : Nat) (L : List Tok) (hS : scFrom s (G + 1) 0 [] = some L) :
    Calls Tryz.prog 89 #[.slice (some ⟨g, o, none⟩) s.size c] w fun e w' => ∃ X i nv, e = .returned (.tuple #[.pointer (some ⟨X, 0, none⟩), .int .i64 0, .int .i64 0]) ∧ ScAt w' X s i L nv ∧ w.heap.size ≤ X ∧ Below w.heap.size w w' := by
  have hmf : ∀ (fn : Fn) (first cap : Array Value) (w : World), (Instr.makeFunc fn first cap).run Tryz.prog w = .ok (.func fn first cap) w := fun _ _ _ _ => rfl
  have hB0 : Below w.heap.size w (((w.alloc (.cells #[.pointer none] 109)).alloc (.cells #[.int .i64 0] 3)).alloc (.cells #[.int .i64 0] 44)) := by (repeat' (first | with_reducible exact Below.refl _ _ | with_reducible refine Below.alloc ?_ ?_ _ | with_reducible refine Below.setCell ?_ ?_ _ | with_reducible refine Below.drew ?_ | with_reducible refine below_drewN ?_ _ | (simp <;> omega) | omega))
  have hX0 : Blk (((w.alloc (.cells #[.pointer none] 109)).alloc (.cells #[.int .i64 0] 3)).alloc (.cells #[.int .i64 0] 44)) w.heap.size 109 #[.pointer none] := ((Blk.new w _ _).alloc _).alloc _
  have hY0 : Blk (((w.alloc (.cells #[.pointer none] 109)).alloc (.cells #[.int .i64 0] 3)).alloc (.cells #[.int .i64 0] 44)) (w.heap.size + 1) 3 #[.int .i64 0] := (Blk.new_at (by simp) _ _).alloc _
  have hZ0 : Blk (((w.alloc (.cells #[.pointer none] 109)).alloc (.cells #[.int .i64 0] 3)).alloc (.cells #[.int .i64 0] 44)) (w.heap.size + 2) 44 #[.int .i64 0] := Blk.new_at (by simp) _ _
  have HW := Lib.hid (fun w' (hb' : Below w.heap.size w w') => wrong_ascii g o c s w' (bytes_below hb hg hb') (Nat.lt_of_lt_of_le hg hb'.size) hc hA)
  have HCV := Lib.hid (fun w' (hb' : Below w.heap.size w w') => run_convert_whole (P := Tryz.prog) w' 47 5 9 Tryz.underlying47 Tryz.underlying5 Tryz.underlying9 g o s (bytes_below hb hg hb') c)
  have HT := Lib.hid hT
  have HM := Lib.hid hm
  have HS := Lib.hid hS
  have hlen : decide ((65536 : Int) < (s.size : Int)) = false := by rw [decide_eq_false_iff_not]; omega
  clear hA hT hm hS hb
  go_enter_defers Tryz.func89, Tryz.ntmps89
  go_wp2_with fail
  refine (HW.out _ hB0).mono ?_
  rintro e w1 ⟨rfl, hb1⟩
  have hS0 : (((w.alloc (.cells #[.pointer none] 109)).alloc (.cells #[.int .i64 0] 3)).alloc (.cells #[.int .i64 0] 44)).heap.size = w.heap.size + 3 := by simp
  have hX1 := hX0.below hb1 (by rw [hS0]; omega)
  have hY1 := hY0.below hb1 (by rw [hS0]; omega)
  have hZ1 := hZ0.below hb1 (by rw [hS0]; omega)
  have hs1 := hb1.size
  rw [hS0] at hs1
  have hB1 := hB0.trans (hb1.mono hB0.size)
  clear hX0 hY0 hZ0 hb1 hB0 hS0
  have hcv := HCV.out _ hB1
  have x0 := blk1 (hX1.alloc (.cells #[.string s, .int .i64 0, .slice none 0 0, .slice none 0 0] 113))
  have xf := (hX1.alloc (.cells #[.string s, .int .i64 0, .slice none 0 0, .slice none 0 0] 113)).frozen 0
  go_wp2_with fail
  have hX2 : Blk ((w1.alloc (.cells #[.string s, .int .i64 0, .slice none 0 0, .slice none 0 0] 113)).setCell ⟨w.heap.size, 0, none⟩ (.pointer (some ⟨w1.heap.size, 0, none⟩))) w.heap.size 109 #[.pointer (some ⟨w1.heap.size, 0, none⟩)] := by simpa using (hX1.alloc _).set_ 0 _
  have hY2 : Blk ((w1.alloc (.cells #[.string s, .int .i64 0, .slice none 0 0, .slice none 0 0] 113)).setCell ⟨w.heap.size, 0, none⟩ (.pointer (some ⟨w1.heap.size, 0, none⟩))) (w.heap.size + 1) 3 #[.int .i64 0] := (hY1.alloc _).far (p := ⟨w.heap.size, 0, none⟩) (by show w.heap.size + 1 ≠ w.heap.size; omega) _
  have hZ2 : Blk ((w1.alloc (.cells #[.string s, .int .i64 0, .slice none 0 0, .slice none 0 0] 113)).setCell ⟨w.heap.size, 0, none⟩ (.pointer (some ⟨w1.heap.size, 0, none⟩))) (w.heap.size + 2) 44 #[.int .i64 0] := (hZ1.alloc _).far (p := ⟨w.heap.size, 0, none⟩) (by show w.heap.size + 2 ≠ w.heap.size; omega) _
  have hB2 : Below w.heap.size w ((w1.alloc (.cells #[.string s, .int .i64 0, .slice none 0 0, .slice none 0 0] 113)).setCell ⟨w.heap.size, 0, none⟩ (.pointer (some ⟨w1.heap.size, 0, none⟩))) := (hB1.alloc (by omega) _).setCell (Nat.le_refl _) _
  have hSC : ScAt ((w1.alloc (.cells #[.string s, .int .i64 0, .slice none 0 0, .slice none 0 0] 113)).setCell ⟨w.heap.size, 0, none⟩ (.pointer (some ⟨w1.heap.size, 0, none⟩))) w1.heap.size s 0 [] (.slice none 0 0) :=
    ⟨⟨.slice none 0 0, (Blk.new w1 _ _).far (p := ⟨w.heap.size, 0, none⟩) (by show w1.heap.size ≠ w.heap.size; omega) _, OwnT.nil _ _⟩, Nat.zero_le _, hmo, by simp⟩
  generalize (w1.alloc (.cells #[.string s, .int .i64 0, .slice none 0 0, .slice none 0 0] 113)).setCell ⟨w.heap.size, 0, none⟩ (.pointer (some ⟨w1.heap.size, 0, none⟩)) = w2 at *
  generalize w1.heap.size = X at *
  clear hX1 hY1 hZ1 hB1 x0 xf hcv HCV HW
  go_loopg [28] G (fun gg _ wr => ∃ (i : Nat) (l : List Tok), ScAt wr X s i l (.slice none 0 0) ∧ Blk wr w.heap.size 109 #[.pointer (some ⟨X, 0, none⟩)] ∧ Blk wr (w.heap.size + 1) 3 #[.int .i64 0] ∧ Blk wr (w.heap.size + 2) 44 #[.int .i64 0] ∧ Below w.heap.size w wr ∧ scFrom s (gg + 1) i l = some L)
  case atStart => exact ⟨0, [], hSC, hX2, hY2, hZ2, hB2, HS.out⟩
  case round =>
    clear hSC hX2 hY2 hZ2 hB2
    obtain ⟨i, l, hsc, hX2, hY2, hZ2, hB2, hfr⟩ := hrel
    have hle := hsc.le
    obtain ⟨lv, hblk, -⟩ := hsc.out
    obtain ⟨x0, x1, x2, x3, -, -, -, -⟩ := blk4 hblk
    have y0 := blk1 hX2
    unfold scFrom at hfr
    by_cases hi : i < s.size
    · rw [if_pos hi] at hfr
      cases hst : scStep s i l with
      | none => rw [hst] at hfr; cases hfr
      | some q =>
        rw [hst] at hfr
        have hii : (i : Int) < (s.size : Int) := by omega
        have HF := Lib.hid hfr
        have HNX := Lib.hid (fun w' (hb' : Below wr.heap.size wr w') (hb2 : Below w.heap.size w w') => next_step X s i l (.slice none 0 0) w' (hsc.below hb') (HT.out.below hb2) hi HM.out q hst)
        have hg0 : gk ≠ 0 := by
          rintro rfl
          unfold scFrom at hfr
          cases hfr
        clear hfr hst hblk
        go_wp2_with fail
        go_quiet (fail)
        have hb3 := below_drewN (Below.refl wr.heap.size wr) nq
        have hB3 := below_drewN hB2 nq
        have hX3 := hX2.drewN nq
        have hY3 := hY2.drewN nq
        have hZ3 := hZ2.drewN nq
        have y3 := blk1 hX3
        generalize wr.drewN nq = w3 at *
        clear x0 x1 x2 x3 y0 hX2 hY2 hZ2 hB2
        go_wp2_with fail
        refine (HNX.out _ hb3 hB3).mono ?_
        rintro e w4 ⟨rfl, hs4, hb4⟩
        go_wp2_with fail
        go_roundg (gk - 1)
        case measure => omega
        case rel => exact ⟨q.1, q.2, hs4, hX3.below hb4 (by omega), hY3.below hb4 (by omega), hZ3.below hb4 (by omega), hB3.trans (hb4.mono (by omega)), by rw [show gk - 1 + 1 = gk by omega]; exact HF.out⟩
    · rw [if_neg hi] at hfr
      have hok : scOk l = true ∧ L = lineT l (s.size : Int) := by
        split at hfr
        · rename_i h
          injection hfr with hfr
          exact ⟨h, hfr.symm⟩
        · cases hfr
      obtain ⟨hok, rfl⟩ := hok
      obtain ⟨hl, hsz⟩ := scOk_spec hok
      have hii : ¬ (i : Int) < (s.size : Int) := by omega
      have HLN := Lib.hid (fun w' (hb' : Below wr.heap.size wr w') (hb2 : Below w.heap.size w w') => line_any X s i l (.slice none 0 0) (s.size : Int) hl w' (hsc.below hb') (HT.out.below hb2) hsz)
      clear hfr hblk hok hsz
      go_wp2_with fail
      go_quiet (fail)
      have hb3 := below_drewN (Below.refl wr.heap.size wr) nq
      have hB3 := below_drewN hB2 nq
      have hX3 := hX2.drewN nq
      have hY3 := hY2.drewN nq
      have hZ3 := hZ2.drewN nq
      have y3 := blk1 hX3
      have x03 : (wr.drewN nq).cell? ⟨X, 0, none⟩ = some (.string s) := x0
      generalize wr.drewN nq = w3 at *
      clear x0 x1 x2 x3 y0 hX2 hY2 hZ2 hB2
      go_wp2_with fail
      refine wp_onlyN ?_
      go_region_law (first
        | (go_simp; go_at_call 135; refine (HLN.out _ hb3.drew hB3.drew).mono ?_; rintro e w4 ⟨rfl, hs4, hb4⟩; have hX4 := hX3.drew.below hb4 (by omega); have y4 := blk1 hX4))
      all_goals
        unfold onlyN
        have hY4 := hY3.drew.below hb4 (by omega)
        have hZ4 := hZ3.drew.below hb4 (by omega)
        have hB4 := hB3.drew.trans (hb4.mono (by omega))
        have yf := hX4.frozen 0
        have u4 := blk1 hY4
        have uf := hY4.frozen 0
        have v4 := blk1 hZ4
        have vf := hZ4.frozen 0
        go_wp2_with fail
        have hX5 : Blk (w4.setCell ⟨w.heap.size, 0, none⟩ (.pointer (some ⟨X, 0, none⟩))) w.heap.size 109 #[.pointer (some ⟨X, 0, none⟩)] := by simpa using hX4.set_ 0 (.pointer (some ⟨X, 0, none⟩))
        have hY5 := hY4.far (p := ⟨w.heap.size, 0, none⟩) (by show w.heap.size + 1 ≠ w.heap.size; omega) (.pointer (some ⟨X, 0, none⟩))
        have hZ5 := hZ4.far (p := ⟨w.heap.size, 0, none⟩) (by show w.heap.size + 2 ≠ w.heap.size; omega) (.pointer (some ⟨X, 0, none⟩))
        have hK5 : ∀ b, X ≤ b → (w4.setCell ⟨w.heap.size, 0, none⟩ (.pointer (some ⟨X, 0, none⟩))).heap[b]? = w4.heap[b]? := fun b hb => Below.heap_setCell w4 ⟨w.heap.size, 0, none⟩ _ b (by show b ≠ w.heap.size; omega)
        have hB5 := hB4.setCell (p := ⟨w.heap.size, 0, none⟩) (Nat.le_refl _) (.pointer (some ⟨X, 0, none⟩))
        generalize w4.setCell ⟨w.heap.size, 0, none⟩ (.pointer (some ⟨X, 0, none⟩)) = w5 at *
        have hY6 : Blk (w5.setCell ⟨w.heap.size + 1, 0, none⟩ (.int .i64 0)) (w.heap.size + 1) 3 #[.int .i64 0] := by simpa using hY5.set_ 0 (.int .i64 0)
        have hX6 := hX5.far (p := ⟨w.heap.size + 1, 0, none⟩) (by show w.heap.size ≠ w.heap.size + 1; omega) (.int .i64 0)
        have hZ6 := hZ5.far (p := ⟨w.heap.size + 1, 0, none⟩) (by show w.heap.size + 2 ≠ w.heap.size + 1; omega) (.int .i64 0)
        have hK6 : ∀ b, X ≤ b → (w5.setCell ⟨w.heap.size + 1, 0, none⟩ (.int .i64 0)).heap[b]? = w4.heap[b]? := fun b hb => (Below.heap_setCell w5 ⟨w.heap.size + 1, 0, none⟩ _ b (by show b ≠ w.heap.size + 1; omega)).trans (hK5 b hb)
        have hB6 := hB5.setCell (p := ⟨w.heap.size + 1, 0, none⟩) (Nat.le_succ _) (.int .i64 0)
        generalize w5.setCell ⟨w.heap.size + 1, 0, none⟩ (.int .i64 0) = w6 at *
        have hZ7 : Blk (w6.setCell ⟨w.heap.size + 1 + 1, 0, none⟩ (.int .i64 0)) (w.heap.size + 2) 44 #[.int .i64 0] := by simpa using hZ6.set_ 0 (.int .i64 0)
        have hX7 := hX6.far (p := ⟨w.heap.size + 1 + 1, 0, none⟩) (by show w.heap.size ≠ w.heap.size + 1 + 1; omega) (.int .i64 0)
        have hY7 := hY6.far (p := ⟨w.heap.size + 1 + 1, 0, none⟩) (by show w.heap.size + 1 ≠ w.heap.size + 1 + 1; omega) (.int .i64 0)
        have hK7 : ∀ b, X ≤ b → (w6.setCell ⟨w.heap.size + 1 + 1, 0, none⟩ (.int .i64 0)).heap[b]? = w4.heap[b]? := fun b hb => (Below.heap_setCell w6 ⟨w.heap.size + 1 + 1, 0, none⟩ _ b (by show b ≠ w.heap.size + 1 + 1; omega)).trans (hK6 b hb)
        have hB7 := hB6.setCell (p := ⟨w.heap.size + 1 + 1, 0, none⟩) (show w.heap.size ≤ w.heap.size + 1 + 1 by omega) (.int .i64 0)
        generalize w6.setCell ⟨w.heap.size + 1 + 1, 0, none⟩ (.int .i64 0) = w7 at *
        have hSC := hs4.keep hK7
        refine leaves_cons (f := 133) (args := #[.pointer (some ⟨w.heap.size, 0, none⟩), .pointer (some ⟨w.heap.size + 1, 0, none⟩), .pointer (some ⟨w.heap.size + 1 + 1, 0, none⟩)]) (by simp) (by simp [go_sem]) ?_
        refine (scan_idle _ _ _ _).mono ?_
        rintro e u' w8 ⟨rfl, rfl, rfl⟩
        have z0 := blk1 hX7
        have z1 := blk1 hY7
        have z2 : w8.cell? ⟨w.heap.size + 1 + 1, 0, none⟩ = some (.int .i64 0) := blk1 hZ7
        clear y4 u4 v4 yf uf vf
        simp [Leaves, settle, results, Tryz.results89, go_sem, z0, z1, z2]
        exact ⟨⟨i, _, hSC⟩, by omega, hB7⟩
end Go.Proofs.YtnalfjaojcahhaaGreatDoor
