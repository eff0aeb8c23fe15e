/-
  demoticref06.ranged: what a range binds. By an AI agent.
  demoticref06.kind: a statement of one of some kinds. By an AI agent.
  demoticref06.Stmt: all but if and for. By an AI agent.
-/
import Derived.Test.YtnalfjaojcahhaaGreatDoorJ24
import Derived.Test.YtnalfjaojcahhaaGreatDoorJ29
import Derived.Lib.IndexBytes
import Derived.BigQuiet
namespace Go.Proofs.YtnalfjaojcahhaaGreatDoor
open Go.RowKit Go.Lib Go.Proofs
attribute [local go_sem ↓] Go.wp_at_zero Go.wp_at_succ

theorem occ_byte (s : ByteArray) (i : Nat) (hi : i < s.size) : occAt s.data.toList [44] i = decide (byteU s i = 44) := by
  have hl : i < s.data.toList.length := by simpa using hi
  unfold occAt byteU
  rw [List.drop_eq_getElem_cons hl, List.getD_eq_getElem?_getD, List.getElem?_eq_getElem hl]
  rw [Bool.eq_iff_iff, decide_eq_true_iff]
  simp only [List.isPrefixOf, Bool.and_true, beq_iff_eq, Option.getD_some]
  rw [← UInt8.toNat_inj]
  exact eq_comm
theorem occ_end (s : ByteArray) (i : Nat) (hi : s.size ≤ i) : occAt s.data.toList [44] i = false := by
  unfold occAt
  rw [List.drop_of_length_le (by simpa using hi)]
  rfl
theorem rangedT_comma (s : ByteArray) (i : Nat) (hi : i < s.size) (hb : byteU s i = 44) (hn : ∀ j, j < i → byteU s j ≠ 44) : rangedT s = (nameT (s.extract 0 i) && boundT (s.extract (i + 1) s.size)) := by
  have hx : Lib.index s.data.toList [44] = i := index_first (by simp; omega) (by rw [occ_byte s i hi, hb]; rfl) (fun j hj => by rw [occ_byte s j (by omega), decide_eq_false (hn j hj)])
  have hc : cutT s = (s.data.toList.take i, s.data.toList.drop (i + 1), true) := by
    unfold cutT Lib.cut
    rw [hx, if_pos (by omega)]
    simp
  have hne : s ≠ ⟨#[]⟩ := by
    rintro rfl
    simp [ByteArray.size] at hi
  have e1 : (⟨(s.data.toList.take i).toArray⟩ : ByteArray) = s.extract 0 i := by
    apply ByteArray.ext
    apply Array.toList_inj.1
    rw [extract_data]
    simp
  have e2 : (⟨(s.data.toList.drop (i + 1)).toArray⟩ : ByteArray) = s.extract (i + 1) s.size := by
    apply ByteArray.ext
    apply Array.toList_inj.1
    rw [extract_data]
    rw [List.take_of_length_le (by simp)]
  unfold rangedT
  rw [hc, e1, e2, decide_eq_false hne]
  simp
theorem rangedT_none (s : ByteArray) (hn : ∀ j, j < s.size → byteU s j ≠ 44) : rangedT s = (decide (s = (⟨#[]⟩ : ByteArray)) || boundT s) := by
  have hx : Lib.index s.data.toList [44] = -1 := index_none (fun j _ => by
    by_cases h : j < s.size
    · rw [occ_byte s j h, decide_eq_false (hn j h)]
    · exact occ_end s j (by omega))
  have hc : cutT s = (s.data.toList, [], false) := by
    unfold cutT Lib.cut
    rw [hx, if_neg (by decide)]
  have e1 : (⟨s.data.toList.toArray⟩ : ByteArray) = s := by
    apply ByteArray.ext
    simp
  unfold rangedT
  rw [hc, e1]
  simp

set_option maxRecDepth 100000 in
set_option maxHeartbeats 4000000 in
theorem uranged_any (s : ByteArray) (hs : s.size ≤ 1000000000) (w : World) : Calls Tryz.prog 45 #[.string s] w fun e w' => e = .returned (.bool (rangedT s)) ∧ Below w.heap.size w w' := by
  go_enter Tryz.func45, Tryz.ntmps45
  go_wp2_with fail
  go_loopg [3] s.size (fun k u3 wr => ∃ i : Nat, i ≤ s.size ∧ s.size - i ≤ k ∧ u3 = .int .i64 (i : Int) ∧ w = wr ∧ ∀ j, j < i → byteU s j ≠ 44)
  case atStart => exact ⟨0, Nat.zero_le _, by omega, rfl, rfl, fun j hj => by omega⟩
  case round =>
    obtain ⟨i, hi, hk, rfl, rfl, hall⟩ := hrel
    have HA := Lib.hid hall
    clear hall
    by_cases hlt : i < s.size
    · have hlt2 : (i : Int) < (s.size : Int) := by omega
      have hb := fun W => run_byteU s i hlt W
      by_cases hc : byteU s i = 44
      · have HR := Lib.hid (rangedT_comma s i hlt hc HA.out)
        rw [hc] at hb
        have p0 : (0 : Int) ≤ (i : Int) := by omega
        have p1 : (i : Int) ≤ (s.size : Int) := by omega
        have p2 : (0 : Int) ≤ (i : Int) + 1 := by omega
        have p3 : (i : Int) + 1 ≤ (s.size : Int) := by omega
        have q1 : IntKind.i64.wrap ((i : Int) + 1) = (i : Int) + 1 := IntWalk.i64_in _ (by omega)
        have q2 : ((i : Int) + 1).toNat = i + 1 := by omega
        clear hc
        cases g1 : nameT (s.extract 0 i) with
        | false =>
          have HX := Lib.hid (show rangedT s = false by rw [HR.out, g1, Bool.false_and])
          go_wp2_with fail
          refine (uname_any _ _).mono ?_
          rw [g1]
          rintro e w1 ⟨rfl, hb1⟩
          go_wp2_with fail
          go_ret
          exact ⟨by rw [HX.out]; rfl, hb1⟩
        | true =>
          have HX := Lib.hid (show rangedT s = boundT (s.extract (i + 1) s.size) by rw [HR.out, g1, Bool.true_and])
          go_wp2_with fail
          refine (uname_any _ _).mono ?_
          rw [g1]
          rintro e w1 ⟨rfl, hb1⟩
          go_wp2_with fail
          refine (ubound_any _ _).mono ?_
          rintro e w2 ⟨rfl, hb2⟩
          go_wp2_with fail
          go_ret
          exact ⟨by rw [HX.out]; rfl, hb1.trans (hb2.mono hb1.size)⟩
      · have hne : ((byteU s i : Int) == 44) = false := by rw [beq_eq_false_iff_ne]; omega
        have HNEW := Lib.hid (show ∀ j, j < i + 1 → byteU s j ≠ 44 by
          intro j hj
          by_cases e : j = i
          · subst e; exact hc
          · exact HA.out j (by omega))
        clear hc
        go_wp2_with fail
        go_roundg (s.size - (i + 1))
        case measure => omega
        case rel => exact ⟨i + 1, by omega, Nat.le_refl _, by go_num, rfl, HNEW.out⟩
    · have hlt2 : ¬ (i : Int) < (s.size : Int) := by omega
      have HR := Lib.hid (rangedT_none s (fun j hj => HA.out j (by omega)))
      cases g1 : s.toList.isEmpty with
      | true =>
        have HX := Lib.hid (show rangedT s = true by
          rw [isEmpty_dec] at g1
          rw [HR.out, g1, Bool.true_or])
        go_wp2_with fail
        go_ret
        exact ⟨by rw [HX.out]; rfl, Below.refl _ _⟩
      | false =>
        have HX := Lib.hid (show rangedT s = boundT s by
          rw [isEmpty_dec] at g1
          rw [HR.out, g1, Bool.false_or])
        go_wp2_with fail
        refine (ubound_any _ _).mono ?_
        rintro e w2 ⟨rfl, hb2⟩
        go_wp2_with fail
        go_ret
        exact ⟨by rw [HX.out]; rfl, hb2⟩
end Go.Proofs.YtnalfjaojcahhaaGreatDoor
namespace Go.Proofs.YtnalfjaojcahhaaGreatDoor
open Go.RowKit Go.Lib Go.Proofs
attribute [local go_sem ↓] Go.wp_at_zero Go.wp_at_succ

/-- A row of numbers. -/
def IntsAt (w : World) (g : Nat) (l : List Int) : Prop := ∀ i (h : i < l.length), w.cell? ⟨g, i, none⟩ = some (.int .i64 l[i])
theorem IntsAt.below {w w' : World} {g : Nat} {l : List Int} (h : IntsAt w g l) (hb : Below w.heap.size w w') : IntsAt w' g l :=
  fun i hi => (hb.cell (World.block_lt_of_cell? w _ (h i hi))).trans (h i hi)
theorem IntsAt.of_blk {w : World} {g : Nat} {t : TypeId} {l : List Int} (h : Blk w g t (l.map (Value.int .i64)).toArray) : IntsAt w g l := by
  intro i hi
  have := h.cell (0 + i)
  rw [Nat.zero_add] at this
  rw [this]
  simp [hi]

set_option maxRecDepth 100000 in
set_option maxHeartbeats 4000000 in
theorem ukind_any (d : Nat) (hS : RefC d 20 (tfns d).stmt) (v : Value) (n : Nd) (w : World) (hv : NodeW w v n) (hd : DLe d n) (ks : List Int) (g c : Nat) (hk : IntsAt w g ks) (hl : ks.length ≤ 100) :
    Calls Tryz.prog 44 #[v, .slice (some ⟨g, 0, none⟩) ks.length c] w fun e w' => e = .returned (.bool (decide (n.kind ∈ ks) && (tfns d).stmt n)) ∧ Below w.heap.size w w' := by
  have HS := Lib.hid (fun w' (hb : Below w.heap.size w w') => hS v n w' (NodeV.below hv hb) hd)
  generalize (tfns d).stmt n = res at *
  obtain ⟨A, cp, rfl, hC⟩ := hv.toC
  have hB := (Below.refl w.heap.size w).alloc (Nat.le_refl _) (.cells #[.int .i64 n.kind, .string n.text, .slice A n.kids.length cp, .int .i64 n.pos] 24)
  have hBn : Blk (w.alloc (.cells #[.int .i64 n.kind, .string n.text, .slice A n.kids.length cp, .int .i64 n.pos] 24)) w.heap.size 24 #[.int .i64 n.kind, .string n.text, .slice A n.kids.length cp, .int .i64 n.pos] := Blk.new w _ _
  have HK := Lib.hid hk
  clear hv hC hd hk hS
  go_enter Tryz.func44, Tryz.ntmps44
  go_wp2_with fail
  go_loopg [5] ks.length (fun k u5 wr => ∃ i : Nat, i ≤ ks.length ∧ ks.length - i ≤ k ∧ u5 = .int .i64 (i : Int) ∧ Below w.heap.size w wr ∧ Blk wr w.heap.size 24 #[.int .i64 n.kind, .string n.text, .slice A n.kids.length cp, .int .i64 n.pos] ∧ ∀ x ∈ ks.take i, n.kind ≠ x)
  case atStart => exact ⟨0, Nat.zero_le _, by omega, rfl, hB, hBn, fun x hx => by simp at hx⟩
  case round =>
    clear hB hBn
    obtain ⟨i, hi, hkk, rfl, hBr, hBn, hall⟩ := hrel
    have HA := Lib.hid hall
    clear hall
    obtain ⟨x0, x1, x2, x3, -, -, -, -⟩ := blk4 hBn
    by_cases hlt : i < ks.length
    · have hlt2 : (i : Int) < (ks.length : Int) := by omega
      have h0 : (0 : Int) ≤ (i : Int) := by omega
      have hc := HK.out.below hBr i hlt
      have HNEW := Lib.hid (show n.kind ≠ ks[i] → ∀ x ∈ ks.take (i + 1), n.kind ≠ x by
        intro h x hx
        rw [List.take_succ_eq_append_getElem hlt, List.mem_append] at hx
        rcases hx with hx | hx
        · exact HA.out x hx
        · obtain rfl := List.mem_singleton.1 hx; exact h)
      have HMEM := Lib.hid (show n.kind = ks[i] → decide (n.kind ∈ ks) = true by
        intro h
        rw [decide_eq_true_iff, h]
        exact List.getElem_mem hlt)
      generalize ks[i] = x at *
      by_cases hx : n.kind = x
      · have hq : (n.kind == x) = true := by simpa using hx
        have HX := Lib.hid (HMEM.out hx)
        clear hx HNEW HMEM
        go_wp2_with fail
        go_quiet (fail)
        have hB3 := below_drewN hBr nq
        obtain ⟨x0, x1, x2, x3, -, -, -, -⟩ := blk4 (hBn.drewN nq)
        generalize wr.drewN nq = w3 at *
        go_wp2_with fail
        refine (HS.out _ hB3).mono ?_
        rintro e w4 ⟨rfl, hb4⟩
        go_wp2_with fail
        go_ret
        exact ⟨by rw [HX.out, Bool.true_and]; rfl, hB3.trans (hb4.mono hB3.size)⟩
      · have hq : (n.kind == x) = false := by simpa using hx
        have HX := Lib.hid (HNEW.out hx)
        clear hx HNEW HMEM
        go_wp2_with fail
        go_quiet (fail)
        have hB3 := below_drewN hBr nq
        have hBn3 := hBn.drewN nq
        generalize wr.drewN nq = w3 at *
        go_wp2_with fail
        go_roundg (ks.length - (i + 1))
        case measure => omega
        case rel => exact ⟨i + 1, by omega, Nat.le_refl _, by go_num, hB3, hBn3, HX.out⟩
    · have hlt2 : ¬ (i : Int) < (ks.length : Int) := by omega
      have HX := Lib.hid (show decide (n.kind ∈ ks) = false by
        rw [decide_eq_false_iff_not]
        intro h
        exact HA.out n.kind (by rw [List.take_of_length_le (by omega)]; exact h) rfl)
      go_wp2_with fail
      go_ret
      exact ⟨by rw [HX.out, Bool.false_and]; rfl, hBr⟩
end Go.Proofs.YtnalfjaojcahhaaGreatDoor
namespace Go.Proofs.YtnalfjaojcahhaaGreatDoor
open Go.RowKit Go.Lib Go.Proofs
attribute [local go_sem ↓] Go.wp_at_zero Go.wp_at_succ

set_option maxRecDepth 100000 in
set_option maxHeartbeats 8000000 in
theorem ustmt_5 (d : Nat) (C : UCtx d) (nt : ByteArray) (nl : List Nd) (np : Int) (A : Option Addr) (cp : Nat) (w : World) (hv : NodeW w (.agg #[.int .i64 5, .string nt, .slice A nl.length cp, .int .i64 np]) (.mk 5 nt nl np)) (hd : DLe (d + 1) (.mk 5 nt nl np)) :
    Calls Tryz.prog 20 #[.agg #[.int .i64 5, .string nt, .slice A nl.length cp, .int .i64 np]] w fun e w' => e = .returned (.bool (stmtT (tfns d) (.mk 5 nt nl np))) ∧ Below w.heap.size w w' := by
  have HV := Lib.hid hv
  have HD := Lib.hid hd
  have hlen := hd.1.1
  have HT := Lib.hid C.typ
  have HE := Lib.hid C.expr
  have HVR := Lib.hid (uvar_any d C)
  have hB := (Below.refl w.heap.size w).alloc (Nat.le_refl _) (.cells #[.int .i64 5, .string nt, .slice A nl.length cp, .int .i64 np] 24)
  have hBn : Blk (w.alloc (.cells #[.int .i64 5, .string nt, .slice A nl.length cp, .int .i64 np] 24)) w.heap.size 24 #[.int .i64 5, .string nt, .slice A nl.length cp, .int .i64 np] := Blk.new w _ _
  clear hv hd C
  generalize tfns d = F at *
  simp only [Nd.kids_mk] at hlen
  have HX := Lib.hid (show stmtT F (.mk 5 nt nl np) = varT F (.mk 5 nt nl np) by simp [stmtT])
  obtain ⟨x0, x1, x2, x3, -, -, -, -⟩ := blk4 hBn
  go_enter Tryz.func20, Tryz.ntmps20
  go_wp2_with fail
  refine (HVR.out _ (.mk 5 nt nl np) _ (NodeV.below HV.out hB) HD.out).mono ?_
  rintro e w1 ⟨rfl, hb1⟩
  go_wp2_with fail
  go_ret
  exact ⟨by rw [HX.out]; rfl, hB.trans (hb1.mono hB.size)⟩

set_option maxRecDepth 100000 in
set_option maxHeartbeats 8000000 in
theorem ustmt_26 (d : Nat) (C : UCtx d) (nt : ByteArray) (nl : List Nd) (np : Int) (A : Option Addr) (cp : Nat) (w : World) (hv : NodeW w (.agg #[.int .i64 26, .string nt, .slice A nl.length cp, .int .i64 np]) (.mk 26 nt nl np)) (hd : DLe (d + 1) (.mk 26 nt nl np)) :
    Calls Tryz.prog 20 #[.agg #[.int .i64 26, .string nt, .slice A nl.length cp, .int .i64 np]] w fun e w' => e = .returned (.bool (stmtT (tfns d) (.mk 26 nt nl np))) ∧ Below w.heap.size w w' := by
  have HV := Lib.hid hv
  have HD := Lib.hid hd
  have hlen := hd.1.1
  have HT := Lib.hid C.typ
  have HE := Lib.hid C.expr
  have hB := (Below.refl w.heap.size w).alloc (Nat.le_refl _) (.cells #[.int .i64 26, .string nt, .slice A nl.length cp, .int .i64 np] 24)
  have hBn : Blk (w.alloc (.cells #[.int .i64 26, .string nt, .slice A nl.length cp, .int .i64 np] 24)) w.heap.size 24 #[.int .i64 26, .string nt, .slice A nl.length cp, .int .i64 np] := Blk.new w _ _
  clear hv hd C
  generalize tfns d = F at *
  simp only [Nd.kids_mk] at hlen
  have HR := Lib.hid (show stmtT F (.mk 26 nt nl np) = (oneT F.expr nl && boundT nt) from (by simp [stmtT, shortT] : stmtT F (.mk 26 nt nl np) = ofT 26 [F.expr] (namedT boundT (.mk 26 nt nl np))).trans (namedOne_eq _ _ _ _))
  by_cases h2 : nl.length = 1
  rotate_left
  · have hne : ((nl.length : Int) == 1) = false := by rw [beq_eq_false_iff_ne]; omega
    have HX := Lib.hid (show stmtT F (.mk 26 nt nl np) = false by rw [HR.out, oneT_ne _ h2, Bool.false_and])
    clear h2
    generalize nl.length = m at *
    go_enter Tryz.func20, Tryz.ntmps20
    go_wp2_with fail
    go_ret
    exact ⟨by rw [HX.out]; rfl, hB⟩
  obtain ⟨x, rfl⟩ := one_of h2
  have HX1 := Lib.hid (oneT_one F.expr x)
  have HV1 : NodeW w (.agg #[.int .i64 26, .string nt, .slice A 1 cp, .int .i64 np]) (.mk 26 nt [x] np) := HV.out
  have hB : Below w.heap.size w (w.alloc (.cells #[.int .i64 26, .string nt, .slice A 1 cp, .int .i64 np] 24)) := hB
  have hBn : Blk (w.alloc (.cells #[.int .i64 26, .string nt, .slice A 1 cp, .int .i64 np] 24)) w.heap.size 24 #[.int .i64 26, .string nt, .slice A 1 cp, .int .i64 np] := hBn
  obtain ⟨bx, ox, A1, c1, rfl, hx⟩ := kid_at HV1 0 (by simp)
  simp only [Nd.kids_mk, List.getElem_cons_zero, Nat.zero_mul, Nat.add_zero] at hx
  have HX0 := Lib.hid hx
  have HTX := Lib.hid (fun w' (h : C4 w' bx ox x A1 c1) => HE.out _ x w' h.2.2.2.2 (HD.out.kid (k := x) (by simp)))
  clear hx HV1 HV h2
  cases q : boundT nt with
  | false =>
    have HX := Lib.hid (show stmtT F (.mk 26 nt [x] np) = false by rw [HR.out, q, Bool.and_false])
    go_enter Tryz.func20, Tryz.ntmps20
    go_wp2_with fail
    refine (ubound_any _ _).mono ?_
    rw [q]
    rintro e w1 ⟨rfl, hb1⟩
    go_wp2_with fail
    go_ret
    exact ⟨by rw [HX.out]; rfl, hB.trans (hb1.mono hB.size)⟩
  | true =>
    have HX := Lib.hid (show stmtT F (.mk 26 nt [x] np) = F.expr x by rw [HR.out, q, Bool.and_true, oneT_one])
    go_enter Tryz.func20, Tryz.ntmps20
    go_wp2_with fail
    refine (ubound_any _ _).mono ?_
    rw [q]
    rintro e w1 ⟨rfl, hb1⟩
    have hB1 := hB.trans (hb1.mono hB.size)
    obtain ⟨y0, y1, y2, y3, -⟩ := HX0.out.below hB1
    go_wp2_with fail
    refine (HTX.out _ (HX0.out.below hB1)).mono ?_
    rintro e w2 ⟨rfl, hb2⟩
    go_wp2_with fail
    go_ret
    exact ⟨by rw [HX.out]; rfl, hB1.trans (hb2.mono hB1.size)⟩

set_option maxRecDepth 100000 in
set_option maxHeartbeats 8000000 in
theorem ustmt_27 (d : Nat) (C : UCtx d) (nt : ByteArray) (nl : List Nd) (np : Int) (A : Option Addr) (cp : Nat) (w : World) (hv : NodeW w (.agg #[.int .i64 27, .string nt, .slice A nl.length cp, .int .i64 np]) (.mk 27 nt nl np)) (hd : DLe (d + 1) (.mk 27 nt nl np)) :
    Calls Tryz.prog 20 #[.agg #[.int .i64 27, .string nt, .slice A nl.length cp, .int .i64 np]] w fun e w' => e = .returned (.bool (stmtT (tfns d) (.mk 27 nt nl np))) ∧ Below w.heap.size w w' := by
  have HV := Lib.hid hv
  have HD := Lib.hid hd
  have hlen := hd.1.1
  have HT := Lib.hid C.typ
  have HE := Lib.hid C.expr
  have HXS := Lib.hid (uexprs_any d C.expr)
  have hB := (Below.refl w.heap.size w).alloc (Nat.le_refl _) (.cells #[.int .i64 27, .string nt, .slice A nl.length cp, .int .i64 np] 24)
  have hBn : Blk (w.alloc (.cells #[.int .i64 27, .string nt, .slice A nl.length cp, .int .i64 np] 24)) w.heap.size 24 #[.int .i64 27, .string nt, .slice A nl.length cp, .int .i64 np] := Blk.new w _ _
  clear hv hd C
  generalize tfns d = F at *
  simp only [Nd.kids_mk] at hlen
  have HR := Lib.hid (show stmtT F (.mk 27 nt nl np) = (decide (nt = (⟨#[]⟩ : ByteArray)) && (decide (nl.length = 2) && nl.all F.expr)) by
    have h : stmtT F (.mk 27 nt nl np) = ofT 27 [F.expr, F.expr] (.mk 27 nt nl np) := by simp [stmtT, setT]
    rw [h, of2_eq, two_all]
    simp
    rfl)
  by_cases h1 : nt = ⟨#[]⟩
  rotate_left
  · have hne : nt.toList.isEmpty = false := by rw [isEmpty_dec]; simpa using h1
    have HX := Lib.hid (show stmtT F (.mk 27 nt nl np) = false by rw [HR.out, decide_eq_false h1, Bool.false_and])
    clear h1
    go_enter Tryz.func20, Tryz.ntmps20
    go_wp2_with fail
    go_ret
    exact ⟨by rw [HX.out]; rfl, hB⟩
  subst h1
  have HXS := Lib.hid (HXS.out A cp nl _ (NodeV.kidsV (NodeV.below HV.out hB)) (fun n hn => HD.out.kid hn) hlen)
  by_cases h2 : nl.length = 2
  rotate_left
  · have hne : ((nl.length : Int) == 2) = false := by rw [beq_eq_false_iff_ne]; omega
    have HX := Lib.hid (show stmtT F (.mk 27 ⟨#[]⟩ nl np) = false by rw [HR.out, decide_eq_false h2, Bool.false_and, Bool.and_false])
    clear h2
    generalize nl.length = m at *
    go_enter Tryz.func20, Tryz.ntmps20
    go_wp2_with fail
    go_ret
    exact ⟨by rw [HX.out]; rfl, hB⟩
  have hne : ((nl.length : Int) == 2) = true := by rw [beq_iff_eq]; omega
  have HX := Lib.hid (show stmtT F (.mk 27 ⟨#[]⟩ nl np) = nl.all F.expr by rw [HR.out, decide_eq_true h2]; simp)
  clear h2 HR
  generalize nl.all F.expr = res at *
  generalize nl.length = m at *
  go_enter Tryz.func20, Tryz.ntmps20
  go_wp2_with fail
  refine (HXS.out).mono ?_
  rintro e w1 ⟨rfl, hb1⟩
  go_wp2_with fail
  go_ret
  exact ⟨by rw [HX.out]; rfl, hB.trans (hb1.mono hB.size)⟩

set_option maxRecDepth 100000 in
set_option maxHeartbeats 8000000 in
theorem ustmt_28 (d : Nat) (C : UCtx d) (nt : ByteArray) (nl : List Nd) (np : Int) (A : Option Addr) (cp : Nat) (w : World) (hv : NodeW w (.agg #[.int .i64 28, .string nt, .slice A nl.length cp, .int .i64 np]) (.mk 28 nt nl np)) (hd : DLe (d + 1) (.mk 28 nt nl np)) :
    Calls Tryz.prog 20 #[.agg #[.int .i64 28, .string nt, .slice A nl.length cp, .int .i64 np]] w fun e w' => e = .returned (.bool (stmtT (tfns d) (.mk 28 nt nl np))) ∧ Below w.heap.size w w' := by
  have HV := Lib.hid hv
  have HD := Lib.hid hd
  have hlen := hd.1.1
  have HT := Lib.hid C.typ
  have HE := Lib.hid C.expr
  have hB := (Below.refl w.heap.size w).alloc (Nat.le_refl _) (.cells #[.int .i64 28, .string nt, .slice A nl.length cp, .int .i64 np] 24)
  have hBn : Blk (w.alloc (.cells #[.int .i64 28, .string nt, .slice A nl.length cp, .int .i64 np] 24)) w.heap.size 24 #[.int .i64 28, .string nt, .slice A nl.length cp, .int .i64 np] := Blk.new w _ _
  clear hv hd C
  generalize tfns d = F at *
  simp only [Nd.kids_mk] at hlen
  have HR := Lib.hid (show stmtT F (.mk 28 nt nl np) = (oneT F.expr nl && stepT nt) from (by simp [stmtT, incT] : stmtT F (.mk 28 nt nl np) = ofT 28 [F.expr] (namedT stepT (.mk 28 nt nl np))).trans (namedOne_eq _ _ _ _))
  by_cases h2 : nl.length = 1
  rotate_left
  · have hne : ((nl.length : Int) == 1) = false := by rw [beq_eq_false_iff_ne]; omega
    have HX := Lib.hid (show stmtT F (.mk 28 nt nl np) = false by rw [HR.out, oneT_ne _ h2, Bool.false_and])
    clear h2
    generalize nl.length = m at *
    go_enter Tryz.func20, Tryz.ntmps20
    go_wp2_with fail
    go_ret
    exact ⟨by rw [HX.out]; rfl, hB⟩
  obtain ⟨x, rfl⟩ := one_of h2
  have HX1 := Lib.hid (oneT_one F.expr x)
  have HV1 : NodeW w (.agg #[.int .i64 28, .string nt, .slice A 1 cp, .int .i64 np]) (.mk 28 nt [x] np) := HV.out
  have hB : Below w.heap.size w (w.alloc (.cells #[.int .i64 28, .string nt, .slice A 1 cp, .int .i64 np] 24)) := hB
  have hBn : Blk (w.alloc (.cells #[.int .i64 28, .string nt, .slice A 1 cp, .int .i64 np] 24)) w.heap.size 24 #[.int .i64 28, .string nt, .slice A 1 cp, .int .i64 np] := hBn
  obtain ⟨bx, ox, A1, c1, rfl, hx⟩ := kid_at HV1 0 (by simp)
  simp only [Nd.kids_mk, List.getElem_cons_zero, Nat.zero_mul, Nat.add_zero] at hx
  have HX0 := Lib.hid hx
  have HTX := Lib.hid (fun w' (h : C4 w' bx ox x A1 c1) => HE.out _ x w' h.2.2.2.2 (HD.out.kid (k := x) (by simp)))
  clear hx HV1 HV h2
  cases q : stepT nt with
  | false =>
    have e1 : (nt.toList == [43, 43]) = false := by
      unfold stepT at q
      rw [← eq_list nt [43, 43]]
      exact (Bool.or_eq_false_iff.1 q).1
    have e2 : (nt.toList == [45, 45]) = false := by
      unfold stepT at q
      rw [← eq_list nt [45, 45]]
      exact (Bool.or_eq_false_iff.1 q).2
    have HX := Lib.hid (show stmtT F (.mk 28 nt [x] np) = false by rw [HR.out, q, Bool.and_false])
    clear q
    go_enter Tryz.func20, Tryz.ntmps20
    go_wp2_with fail
    go_ret
    exact ⟨by rw [HX.out]; rfl, hB⟩
  | true =>
    have HX := Lib.hid (show stmtT F (.mk 28 nt [x] np) = F.expr x by rw [HR.out, q, Bool.and_true, oneT_one])
    have q' : nt = ⟨#[43, 43]⟩ ∨ nt = ⟨#[45, 45]⟩ := by unfold stepT at q; simpa using q
    obtain ⟨y0, y1, y2, y3, -⟩ := HX0.out.below hB
    clear q HR
    rcases q' with rfl | rfl
    all_goals
      go_enter Tryz.func20, Tryz.ntmps20
      go_wp2_with fail
      refine (HTX.out _ (HX0.out.below hB)).mono ?_
      rintro e w1 ⟨rfl, hb1⟩
      go_wp2_with fail
      go_ret
      exact ⟨by rw [HX.out]; rfl, hB.trans (hb1.mono hB.size)⟩

set_option maxRecDepth 100000 in
set_option maxHeartbeats 8000000 in
theorem ustmt_29 (d : Nat) (C : UCtx d) (nt : ByteArray) (nl : List Nd) (np : Int) (A : Option Addr) (cp : Nat) (w : World) (hv : NodeW w (.agg #[.int .i64 29, .string nt, .slice A nl.length cp, .int .i64 np]) (.mk 29 nt nl np)) (hd : DLe (d + 1) (.mk 29 nt nl np)) :
    Calls Tryz.prog 20 #[.agg #[.int .i64 29, .string nt, .slice A nl.length cp, .int .i64 np]] w fun e w' => e = .returned (.bool (stmtT (tfns d) (.mk 29 nt nl np))) ∧ Below w.heap.size w w' := by
  have HV := Lib.hid hv
  have HD := Lib.hid hd
  have hlen := hd.1.1
  have HT := Lib.hid C.typ
  have HE := Lib.hid C.expr
  have hB := (Below.refl w.heap.size w).alloc (Nat.le_refl _) (.cells #[.int .i64 29, .string nt, .slice A nl.length cp, .int .i64 np] 24)
  have hBn : Blk (w.alloc (.cells #[.int .i64 29, .string nt, .slice A nl.length cp, .int .i64 np] 24)) w.heap.size 24 #[.int .i64 29, .string nt, .slice A nl.length cp, .int .i64 np] := Blk.new w _ _
  clear hv hd C
  generalize tfns d = F at *
  simp only [Nd.kids_mk] at hlen
  have HR := Lib.hid (show stmtT F (.mk 29 nt nl np) = (decide (nt = (⟨#[]⟩ : ByteArray)) && oneT (callX F) nl) by
    have h : stmtT F (.mk 29 nt nl np) = ofT 29 [callX F] (.mk 29 nt nl np) := by simp [stmtT, callT]
    rw [h, of1_eq]
    simp
    rfl)
  by_cases h1 : nt = ⟨#[]⟩
  rotate_left
  · have hne : nt.toList.isEmpty = false := by rw [isEmpty_dec]; simpa using h1
    have HX := Lib.hid (show stmtT F (.mk 29 nt nl np) = false by rw [HR.out, decide_eq_false h1, Bool.false_and])
    clear h1
    go_enter Tryz.func20, Tryz.ntmps20
    go_wp2_with fail
    go_ret
    exact ⟨by rw [HX.out]; rfl, hB⟩
  subst h1
  by_cases h2 : nl.length = 1
  rotate_left
  · have hne : ((nl.length : Int) == 1) = false := by rw [beq_eq_false_iff_ne]; omega
    have HX := Lib.hid (show stmtT F (.mk 29 ⟨#[]⟩ nl np) = false by rw [HR.out, oneT_ne _ h2, Bool.and_false])
    clear h2
    generalize nl.length = m at *
    go_enter Tryz.func20, Tryz.ntmps20
    go_wp2_with fail
    go_ret
    exact ⟨by rw [HX.out]; rfl, hB⟩
  obtain ⟨x, rfl⟩ := one_of h2
  have HX1 := Lib.hid (oneT_one F.expr x)
  have HV1 : NodeW w (.agg #[.int .i64 29, .string ⟨#[]⟩, .slice A 1 cp, .int .i64 np]) (.mk 29 ⟨#[]⟩ [x] np) := HV.out
  have hB : Below w.heap.size w (w.alloc (.cells #[.int .i64 29, .string ⟨#[]⟩, .slice A 1 cp, .int .i64 np] 24)) := hB
  have hBn : Blk (w.alloc (.cells #[.int .i64 29, .string ⟨#[]⟩, .slice A 1 cp, .int .i64 np] 24)) w.heap.size 24 #[.int .i64 29, .string ⟨#[]⟩, .slice A 1 cp, .int .i64 np] := hBn
  obtain ⟨bx, ox, A1, c1, rfl, hx⟩ := kid_at HV1 0 (by simp)
  simp only [Nd.kids_mk, List.getElem_cons_zero, Nat.zero_mul, Nat.add_zero] at hx
  have HX0 := Lib.hid hx
  have HTX := Lib.hid (fun w' (h : C4 w' bx ox x A1 c1) => HE.out _ x w' h.2.2.2.2 (HD.out.kid (k := x) (by simp)))
  clear hx HV1 HV h2
  have HR2 := Lib.hid (show stmtT F (.mk 29 ⟨#[]⟩ [x] np) = (decide (x.kind = 21) && F.expr x) by rw [HR.out, oneT_one]; simp [callX])
  obtain ⟨y0, y1, y2, y3, -⟩ := HX0.out.below hB
  by_cases q : x.kind = 21
  rotate_left
  · have hq : (x.kind == 21) = false := by simpa using q
    have HX := Lib.hid (show stmtT F (.mk 29 ⟨#[]⟩ [x] np) = false by rw [HR2.out, decide_eq_false q, Bool.false_and])
    clear q
    go_enter Tryz.func20, Tryz.ntmps20
    go_wp2_with fail
    go_ret
    exact ⟨by rw [HX.out]; rfl, hB⟩
  have hq : (x.kind == 21) = true := by simpa using q
  have HX := Lib.hid (show stmtT F (.mk 29 ⟨#[]⟩ [x] np) = F.expr x by rw [HR2.out, decide_eq_true q, Bool.true_and])
  clear q HR HR2
  go_enter Tryz.func20, Tryz.ntmps20
  go_wp2_with fail
  refine (HTX.out _ (HX0.out.below hB)).mono ?_
  rintro e w1 ⟨rfl, hb1⟩
  go_wp2_with fail
  go_ret
  exact ⟨by rw [HX.out]; rfl, hB.trans (hb1.mono hB.size)⟩

set_option maxRecDepth 100000 in
set_option maxHeartbeats 8000000 in
theorem ustmt_33 (d : Nat) (C : UCtx d) (nt : ByteArray) (nl : List Nd) (np : Int) (A : Option Addr) (cp : Nat) (w : World) (hv : NodeW w (.agg #[.int .i64 33, .string nt, .slice A nl.length cp, .int .i64 np]) (.mk 33 nt nl np)) (hd : DLe (d + 1) (.mk 33 nt nl np)) :
    Calls Tryz.prog 20 #[.agg #[.int .i64 33, .string nt, .slice A nl.length cp, .int .i64 np]] w fun e w' => e = .returned (.bool (stmtT (tfns d) (.mk 33 nt nl np))) ∧ Below w.heap.size w w' := by
  have HV := Lib.hid hv
  have HD := Lib.hid hd
  have hlen := hd.1.1
  have HT := Lib.hid C.typ
  have HE := Lib.hid C.expr
  have hB := (Below.refl w.heap.size w).alloc (Nat.le_refl _) (.cells #[.int .i64 33, .string nt, .slice A nl.length cp, .int .i64 np] 24)
  have hBn : Blk (w.alloc (.cells #[.int .i64 33, .string nt, .slice A nl.length cp, .int .i64 np] 24)) w.heap.size 24 #[.int .i64 33, .string nt, .slice A nl.length cp, .int .i64 np] := Blk.new w _ _
  clear hv hd C
  generalize tfns d = F at *
  simp only [Nd.kids_mk] at hlen
  have HR := Lib.hid (show stmtT F (.mk 33 nt nl np) = (decide (nt = (⟨#[]⟩ : ByteArray)) && oneT (orT emptyT F.expr) nl) by
    have h : stmtT F (.mk 33 nt nl np) = ofT 33 [orT emptyT F.expr] (.mk 33 nt nl np) := by simp [stmtT]
    rw [h, of1_eq]
    simp
    rfl)
  by_cases h1 : nt = ⟨#[]⟩
  rotate_left
  · have hne : nt.toList.isEmpty = false := by rw [isEmpty_dec]; simpa using h1
    have HX := Lib.hid (show stmtT F (.mk 33 nt nl np) = false by rw [HR.out, decide_eq_false h1, Bool.false_and])
    clear h1
    go_enter Tryz.func20, Tryz.ntmps20
    go_wp2_with fail
    go_ret
    exact ⟨by rw [HX.out]; rfl, hB⟩
  subst h1
  by_cases h2 : nl.length = 1
  rotate_left
  · have hne : ((nl.length : Int) == 1) = false := by rw [beq_eq_false_iff_ne]; omega
    have HX := Lib.hid (show stmtT F (.mk 33 ⟨#[]⟩ nl np) = false by rw [HR.out, oneT_ne _ h2, Bool.and_false])
    clear h2
    generalize nl.length = m at *
    go_enter Tryz.func20, Tryz.ntmps20
    go_wp2_with fail
    go_ret
    exact ⟨by rw [HX.out]; rfl, hB⟩
  obtain ⟨x, rfl⟩ := one_of h2
  have HX1 := Lib.hid (oneT_one F.expr x)
  have HV1 : NodeW w (.agg #[.int .i64 33, .string ⟨#[]⟩, .slice A 1 cp, .int .i64 np]) (.mk 33 ⟨#[]⟩ [x] np) := HV.out
  have hB : Below w.heap.size w (w.alloc (.cells #[.int .i64 33, .string ⟨#[]⟩, .slice A 1 cp, .int .i64 np] 24)) := hB
  have hBn : Blk (w.alloc (.cells #[.int .i64 33, .string ⟨#[]⟩, .slice A 1 cp, .int .i64 np] 24)) w.heap.size 24 #[.int .i64 33, .string ⟨#[]⟩, .slice A 1 cp, .int .i64 np] := hBn
  obtain ⟨bx, ox, A1, c1, rfl, hx⟩ := kid_at HV1 0 (by simp)
  simp only [Nd.kids_mk, List.getElem_cons_zero, Nat.zero_mul, Nat.add_zero] at hx
  have HX0 := Lib.hid hx
  have HTX := Lib.hid (fun w' (h : C4 w' bx ox x A1 c1) => HE.out _ x w' h.2.2.2.2 (HD.out.kid (k := x) (by simp)))
  clear hx HV1 HV h2
  have HR2 := Lib.hid (show stmtT F (.mk 33 ⟨#[]⟩ [x] np) = (emptyT x || F.expr x) by rw [HR.out, oneT_one]; simp [orT])
  obtain ⟨y0, y1, y2, y3, -⟩ := HX0.out.below hB
  cases q : emptyT x with
  | true =>
    have HX := Lib.hid (show stmtT F (.mk 33 ⟨#[]⟩ [x] np) = true by rw [HR2.out, q, Bool.true_or])
    go_enter Tryz.func20, Tryz.ntmps20
    go_wp2_with fail
    refine (nothing_any _ x _ (HX0.out.below hB).2.2.2.2).mono ?_
    rw [q]
    rintro e w1 ⟨rfl, hb1⟩
    go_wp2_with fail
    go_ret
    exact ⟨by rw [HX.out]; rfl, hB.trans (hb1.mono hB.size)⟩
  | false =>
    have HX := Lib.hid (show stmtT F (.mk 33 ⟨#[]⟩ [x] np) = F.expr x by rw [HR2.out, q, Bool.false_or])
    go_enter Tryz.func20, Tryz.ntmps20
    go_wp2_with fail
    refine (nothing_any _ x _ (HX0.out.below hB).2.2.2.2).mono ?_
    rw [q]
    rintro e w1 ⟨rfl, hb1⟩
    have hB1 := hB.trans (hb1.mono hB.size)
    clear y0 y1 y2 y3
    obtain ⟨y0, y1, y2, y3, -⟩ := HX0.out.below hB1
    go_wp2_with fail
    refine (HTX.out _ (HX0.out.below hB1)).mono ?_
    rintro e w2 ⟨rfl, hb2⟩
    go_wp2_with fail
    go_ret
    exact ⟨by rw [HX.out]; rfl, hB1.trans (hb2.mono hB1.size)⟩

set_option maxRecDepth 100000 in
set_option maxHeartbeats 8000000 in
theorem ustmt_34 (d : Nat) (C : UCtx d) (nt : ByteArray) (nl : List Nd) (np : Int) (A : Option Addr) (cp : Nat) (w : World) (hv : NodeW w (.agg #[.int .i64 34, .string nt, .slice A nl.length cp, .int .i64 np]) (.mk 34 nt nl np)) (hd : DLe (d + 1) (.mk 34 nt nl np)) :
    Calls Tryz.prog 20 #[.agg #[.int .i64 34, .string nt, .slice A nl.length cp, .int .i64 np]] w fun e w' => e = .returned (.bool (stmtT (tfns d) (.mk 34 nt nl np))) ∧ Below w.heap.size w w' := by
  have HV := Lib.hid hv
  have HD := Lib.hid hd
  have hlen := hd.1.1
  have HT := Lib.hid C.typ
  have HE := Lib.hid C.expr
  have hB := (Below.refl w.heap.size w).alloc (Nat.le_refl _) (.cells #[.int .i64 34, .string nt, .slice A nl.length cp, .int .i64 np] 24)
  have hBn : Blk (w.alloc (.cells #[.int .i64 34, .string nt, .slice A nl.length cp, .int .i64 np] 24)) w.heap.size 24 #[.int .i64 34, .string nt, .slice A nl.length cp, .int .i64 np] := Blk.new w _ _
  clear hv hd C
  generalize tfns d = F at *
  simp only [Nd.kids_mk] at hlen
  have HR := Lib.hid (show stmtT F (.mk 34 nt nl np) = (decide (nt = (⟨#[]⟩ : ByteArray)) && decide (nl.length = 0)) by
    have h : stmtT F (.mk 34 nt nl np) = ofT 34 [] (.mk 34 nt nl np) := by simp [stmtT]
    rw [h]
    unfold ofT
    rcases nl with _ | ⟨x, l⟩ <;> simp [askAll] <;> rfl)
  by_cases h1 : nt = ⟨#[]⟩
  rotate_left
  · have hne : nt.toList.isEmpty = false := by rw [isEmpty_dec]; simpa using h1
    have HX := Lib.hid (show stmtT F (.mk 34 nt nl np) = false by rw [HR.out, decide_eq_false h1, Bool.false_and])
    clear h1
    go_enter Tryz.func20, Tryz.ntmps20
    go_wp2_with fail
    go_ret
    exact ⟨by rw [HX.out]; rfl, hB⟩
  subst h1
  have hc : ((nl.length : Int) == 0) = decide (nl.length = 0) := by
    rw [Bool.eq_iff_iff]
    simp
  have HX := Lib.hid (show stmtT F (.mk 34 ⟨#[]⟩ nl np) = decide (nl.length = 0) by rw [HR.out]; simp)
  generalize nl.length = m at *
  cases q : decide (m = 0)
  all_goals
    rw [q] at hc HX
    clear q
    go_enter Tryz.func20, Tryz.ntmps20
    go_wp2_with fail
    go_ret
    exact ⟨by rw [HX.out]; rfl, hB⟩

set_option maxRecDepth 100000 in
set_option maxHeartbeats 8000000 in
theorem ustmt_35 (d : Nat) (C : UCtx d) (nt : ByteArray) (nl : List Nd) (np : Int) (A : Option Addr) (cp : Nat) (w : World) (hv : NodeW w (.agg #[.int .i64 35, .string nt, .slice A nl.length cp, .int .i64 np]) (.mk 35 nt nl np)) (hd : DLe (d + 1) (.mk 35 nt nl np)) :
    Calls Tryz.prog 20 #[.agg #[.int .i64 35, .string nt, .slice A nl.length cp, .int .i64 np]] w fun e w' => e = .returned (.bool (stmtT (tfns d) (.mk 35 nt nl np))) ∧ Below w.heap.size w w' := by
  have HV := Lib.hid hv
  have HD := Lib.hid hd
  have hlen := hd.1.1
  have HT := Lib.hid C.typ
  have HE := Lib.hid C.expr
  have hB := (Below.refl w.heap.size w).alloc (Nat.le_refl _) (.cells #[.int .i64 35, .string nt, .slice A nl.length cp, .int .i64 np] 24)
  have hBn : Blk (w.alloc (.cells #[.int .i64 35, .string nt, .slice A nl.length cp, .int .i64 np] 24)) w.heap.size 24 #[.int .i64 35, .string nt, .slice A nl.length cp, .int .i64 np] := Blk.new w _ _
  clear hv hd C
  generalize tfns d = F at *
  simp only [Nd.kids_mk] at hlen
  have HR := Lib.hid (show stmtT F (.mk 35 nt nl np) = (decide (nt = (⟨#[]⟩ : ByteArray)) && decide (nl.length = 0)) by
    have h : stmtT F (.mk 35 nt nl np) = ofT 35 [] (.mk 35 nt nl np) := by simp [stmtT]
    rw [h]
    unfold ofT
    rcases nl with _ | ⟨x, l⟩ <;> simp [askAll] <;> rfl)
  by_cases h1 : nt = ⟨#[]⟩
  rotate_left
  · have hne : nt.toList.isEmpty = false := by rw [isEmpty_dec]; simpa using h1
    have HX := Lib.hid (show stmtT F (.mk 35 nt nl np) = false by rw [HR.out, decide_eq_false h1, Bool.false_and])
    clear h1
    go_enter Tryz.func20, Tryz.ntmps20
    go_wp2_with fail
    go_ret
    exact ⟨by rw [HX.out]; rfl, hB⟩
  subst h1
  have hc : ((nl.length : Int) == 0) = decide (nl.length = 0) := by
    rw [Bool.eq_iff_iff]
    simp
  have HX := Lib.hid (show stmtT F (.mk 35 ⟨#[]⟩ nl np) = decide (nl.length = 0) by rw [HR.out]; simp)
  generalize nl.length = m at *
  cases q : decide (m = 0)
  all_goals
    rw [q] at hc HX
    clear q
    go_enter Tryz.func20, Tryz.ntmps20
    go_wp2_with fail
    go_ret
    exact ⟨by rw [HX.out]; rfl, hB⟩
end Go.Proofs.YtnalfjaojcahhaaGreatDoor
