/-
  demoticref06.Stmt: range, if, anything else. By an AI agent.
  What is asked of a node does not hang at how much depth is given, once it is enough. By an AI agent.
  demoticref06.Stmt: for. By an AI agent.
  demoticref06.Stmt at any node; all of the document's questions, by induction on the depth. By an AI agent.
-/
import Derived.Test.YtnalfjaojcahhaaGreatDoorJ30
import Derived.Test.YtnalfjaojcahhaaGreatDoorJ25
namespace Go.Proofs.YtnalfjaojcahhaaGreatDoor
open Go.RowKit Go.Lib Go.Proofs
attribute [local go_sem ↓] Go.wp_at_zero Go.wp_at_succ

/-- Three nodes, of which something is asked. -/
def threeT (f g h : Nd → Bool) : List Nd → Bool
  | [a, b, c] => f a && (g b && h c)
  | _ => false
theorem threeT_ne (f g h : Nd → Bool) {l : List Nd} (hl : l.length ≠ 3) : threeT f g h l = false := by
  rcases l with _ | ⟨x, _ | ⟨y, _ | ⟨z, _ | ⟨u, l⟩⟩⟩⟩
  · rfl
  · rfl
  · rfl
  · exact absurd rfl hl
  · rfl
theorem three_of {l : List Nd} (h : l.length = 3) : ∃ x y z, l = [x, y, z] := by
  rcases l with _ | ⟨x, _ | ⟨y, _ | ⟨z, _ | ⟨u, l⟩⟩⟩⟩
  · simp at h
  · simp at h
  · simp at h
  · exact ⟨x, y, z, rfl⟩
  · simp at h
theorem of3_eq (k : Int) (f g h : Nd → Bool) (n : Nd) : ofT k [f, g, h] n = (decide (n.kind = k) && (decide (n.text = (⟨#[]⟩ : ByteArray)) && threeT f g h n.kids)) := by
  unfold ofT
  congr 2
  rcases n.kids with _ | ⟨x, _ | ⟨y, _ | ⟨z, _ | ⟨u, l⟩⟩⟩⟩
  · rfl
  · simp [askAll, threeT]
  · simp [askAll, threeT]
  · simp [askAll, threeT]
  · simp [askAll, threeT]
theorem block_or_if (d : Nat) (k : Nd) : ((tfns d).block k || (tfns d).ifS k) = (decide (k.kind ∈ ([36, 30] : List Int)) && (tfns d).stmt k) := by
  cases d with
  | zero => simp [tfns]
  | succ d =>
    show (blockT (tfns d) k || ifT (tfns d) k) = (decide (k.kind ∈ ([36, 30] : List Int)) && stmtT (tfns d) k)
    obtain ⟨j, t, l, p⟩ := k
    by_cases h1 : j = 36
    · subst h1
      simp [stmtT, ifT, of3_eq]
    by_cases h2 : j = 30
    · subst h2
      simp [stmtT, blockT]
    · simp [blockT, ifT, of3_eq, h1, h2]

set_option maxRecDepth 100000 in
set_option maxHeartbeats 8000000 in
theorem ustmt_32 (d : Nat) (C : UCtx d) (nt : ByteArray) (nl : List Nd) (np : Int) (A : Option Addr) (cp : Nat) (w : World) (hv : NodeW w (.agg #[.int .i64 32, .string nt, .slice A nl.length cp, .int .i64 np]) (.mk 32 nt nl np)) (hd : DLe (d + 1) (.mk 32 nt nl np)) :
    Calls Tryz.prog 20 #[.agg #[.int .i64 32, .string nt, .slice A nl.length cp, .int .i64 np]] w fun e w' => e = .returned (.bool (stmtT (tfns d) (.mk 32 nt nl np))) ∧ Below w.heap.size w w' := by
  have HV := Lib.hid hv
  have HD := Lib.hid hd
  have hlen := hd.1.1
  have HT := Lib.hid C.typ
  have HE := Lib.hid C.expr
  have htx := hd.1.2
  have HBL := Lib.hid C.block
  have hB := (Below.refl w.heap.size w).alloc (Nat.le_refl _) (.cells #[.int .i64 32, .string nt, .slice A nl.length cp, .int .i64 np] 24)
  have hBn : Blk (w.alloc (.cells #[.int .i64 32, .string nt, .slice A nl.length cp, .int .i64 np] 24)) w.heap.size 24 #[.int .i64 32, .string nt, .slice A nl.length cp, .int .i64 np] := Blk.new w _ _
  clear hv hd C
  generalize tfns d = F at *
  simp only [Nd.kids_mk] at hlen
  simp only [Nd.text_mk] at htx
  have HR := Lib.hid (show stmtT F (.mk 32 nt nl np) = (twoT F.expr F.block nl && rangedT nt) by
    have h : stmtT F (.mk 32 nt nl np) = ofT 32 [F.expr, F.block] (namedT rangedT (.mk 32 nt nl np)) := by simp [stmtT]
    rw [h, namedTwo_eq])
  by_cases h2 : nl.length = 2
  rotate_left
  · have hne : ((nl.length : Int) == 2) = false := by rw [beq_eq_false_iff_ne]; omega
    have HX := Lib.hid (show stmtT F (.mk 32 nt nl np) = false by rw [HR.out, twoT_ne _ _ h2, Bool.false_and])
    clear h2
    generalize nl.length = m at *
    go_enter Tryz.func20, Tryz.ntmps20
    go_wp2_with fail
    go_ret
    exact ⟨by rw [HX.out]; rfl, hB⟩
  obtain ⟨x, y, rfl⟩ := two_of h2
  clear h2
  have HV1 : NodeW w (.agg #[.int .i64 32, .string nt, .slice A 2 cp, .int .i64 np]) (.mk 32 nt [x, y] np) := HV.out
  have hB : Below w.heap.size w (w.alloc (.cells #[.int .i64 32, .string nt, .slice A 2 cp, .int .i64 np] 24)) := hB
  have hBn : Blk (w.alloc (.cells #[.int .i64 32, .string nt, .slice A 2 cp, .int .i64 np] 24)) w.heap.size 24 #[.int .i64 32, .string nt, .slice A 2 cp, .int .i64 np] := hBn
  obtain ⟨bx, ox, A0, c0, rfl, hk0⟩ := kid_at HV1 0 (by simp)
  obtain ⟨bx1, ox1, A1, c1, e, hk1⟩ := kid_at HV1 1 (by simp)
  injection e with e
  injection e with e1 e2
  subst e1 e2
  simp only [Nd.kids_mk, List.getElem_cons_zero, List.getElem_cons_succ, Nat.zero_mul, Nat.add_zero, Nat.one_mul] at hk0 hk1
  have HC0 := Lib.hid hk0
  have hd0 := HD.out.kid (k := x) (by simp)
  have HC1 := Lib.hid hk1
  have hd1 := HD.out.kid (k := y) (by simp)
  clear HV1 HV hk0 hk1
  have HEX := Lib.hid (fun w' (h : C4 w' bx ox x A0 c0) => HE.out _ x w' h.2.2.2.2 hd0)
  have HBY := Lib.hid (fun w' (h : C4 w' bx (ox + 4) y A1 c1) => HBL.out _ y w' h.2.2.2.2 hd1)
  have HR2 := Lib.hid (show stmtT F (.mk 32 nt [x, y] np) = (rangedT nt && (F.expr x && F.block y)) by rw [HR.out, Bool.and_comm]; rfl)
  cases g1 : rangedT nt with
  | false =>
    have HX := Lib.hid (show stmtT F (.mk 32 nt [x, y] np) = false by rw [HR2.out, g1, Bool.false_and])
    go_enter Tryz.func20, Tryz.ntmps20
    go_wp2_with fail
    refine (uranged_any _ htx _).mono ?_
    rw [g1]
    rintro e w1 ⟨rfl, hb1⟩
    go_wp2_with fail
    go_ret
    exact ⟨by rw [HX.out]; rfl, hB.trans (hb1.mono hB.size)⟩
  | true =>
    cases g2 : F.expr x with
    | false =>
      have HX := Lib.hid (show stmtT F (.mk 32 nt [x, y] np) = false by rw [HR2.out, g1, g2]; rfl)
      rw [g2] at HEX
      go_enter Tryz.func20, Tryz.ntmps20
      go_wp2_with fail
      refine (uranged_any _ htx _).mono ?_
      rw [g1]
      rintro e w1 ⟨rfl, hb1⟩
      have hB1 := hB.trans (hb1.mono hB.size)
      obtain ⟨k00, k01, k02, k03, -⟩ := HC0.out.below hB1
      go_wp2_with fail
      refine (HEX.out _ (HC0.out.below hB1)).mono ?_
      rintro e w2 ⟨rfl, hb2⟩
      have hB2 := hB1.trans (hb2.mono hB1.size)
      go_wp2_with fail
      go_ret
      exact ⟨by rw [HX.out]; rfl, hB2⟩
    | true =>
      have HX := Lib.hid (show stmtT F (.mk 32 nt [x, y] np) = F.block y by rw [HR2.out, g1, g2]; rfl)
      rw [g2] at HEX
      go_enter Tryz.func20, Tryz.ntmps20
      go_wp2_with fail
      refine (uranged_any _ htx _).mono ?_
      rw [g1]
      rintro e w1 ⟨rfl, hb1⟩
      have hB1 := hB.trans (hb1.mono hB.size)
      obtain ⟨k00, k01, k02, k03, -⟩ := HC0.out.below hB1
      go_wp2_with fail
      refine (HEX.out _ (HC0.out.below hB1)).mono ?_
      rintro e w2 ⟨rfl, hb2⟩
      have hB2 := hB1.trans (hb2.mono hB1.size)
      obtain ⟨k10, k11, k12, k13, -⟩ := HC1.out.below hB2
      go_wp2_with fail
      refine (HBY.out _ (HC1.out.below hB2)).mono ?_
      rintro e w3 ⟨rfl, hb3⟩
      have hB3 := hB2.trans (hb3.mono hB2.size)
      go_wp2_with fail
      go_ret
      exact ⟨by rw [HX.out]; rfl, hB3⟩

set_option maxRecDepth 100000 in
set_option maxHeartbeats 8000000 in
theorem ustmt_30 (d : Nat) (C : UCtx d) (nt : ByteArray) (nl : List Nd) (np : Int) (A : Option Addr) (cp : Nat) (w : World) (hv : NodeW w (.agg #[.int .i64 30, .string nt, .slice A nl.length cp, .int .i64 np]) (.mk 30 nt nl np)) (hd : DLe (d + 1) (.mk 30 nt nl np)) :
    Calls Tryz.prog 20 #[.agg #[.int .i64 30, .string nt, .slice A nl.length cp, .int .i64 np]] w fun e w' => e = .returned (.bool (stmtT (tfns d) (.mk 30 nt nl np))) ∧ Below w.heap.size w w' := by
  have HV := Lib.hid hv
  have HD := Lib.hid hd
  have hlen := hd.1.1
  have HT := Lib.hid C.typ
  have HE := Lib.hid C.expr
  have HBL := Lib.hid C.block
  have HKD := Lib.hid (ukind_any d C.stmt)
  have HBI := Lib.hid (block_or_if d)
  have hB := (Below.refl w.heap.size w).alloc (Nat.le_refl _) (.cells #[.int .i64 30, .string nt, .slice A nl.length cp, .int .i64 np] 24)
  have hBn : Blk (w.alloc (.cells #[.int .i64 30, .string nt, .slice A nl.length cp, .int .i64 np] 24)) w.heap.size 24 #[.int .i64 30, .string nt, .slice A nl.length cp, .int .i64 np] := Blk.new w _ _
  clear hv hd C
  generalize tfns d = F at *
  simp only [Nd.kids_mk] at hlen
  have HR := Lib.hid (show stmtT F (.mk 30 nt nl np) = (decide (nt = (⟨#[]⟩ : ByteArray)) && threeT F.expr F.block (orT (orT emptyT F.block) F.ifS) nl) by
    have h : stmtT F (.mk 30 nt nl np) = ofT 30 [F.expr, F.block, orT (orT emptyT F.block) F.ifS] (.mk 30 nt nl np) := by simp [stmtT, ifT]
    rw [h, of3_eq]
    simp
    rfl)
  by_cases h1 : nt = ⟨#[]⟩
  rotate_left
  · have hne : nt.toList.isEmpty = false := by rw [isEmpty_dec]; simpa using h1
    have HX := Lib.hid (show stmtT F (.mk 30 nt nl np) = false by rw [HR.out, decide_eq_false h1, Bool.false_and])
    clear h1
    go_enter Tryz.func20, Tryz.ntmps20
    go_wp2_with fail
    go_ret
    exact ⟨by rw [HX.out]; rfl, hB⟩
  subst h1
  by_cases h2 : nl.length = 3
  rotate_left
  · have hne : ((nl.length : Int) == 3) = false := by rw [beq_eq_false_iff_ne]; omega
    have HX := Lib.hid (show stmtT F (.mk 30 ⟨#[]⟩ nl np) = false by rw [HR.out, threeT_ne _ _ _ h2, Bool.and_false])
    clear h2
    generalize nl.length = m at *
    go_enter Tryz.func20, Tryz.ntmps20
    go_wp2_with fail
    go_ret
    exact ⟨by rw [HX.out]; rfl, hB⟩
  obtain ⟨x, y, z, rfl⟩ := three_of h2
  clear h2
  have HV1 : NodeW w (.agg #[.int .i64 30, .string ⟨#[]⟩, .slice A 3 cp, .int .i64 np]) (.mk 30 ⟨#[]⟩ [x, y, z] np) := HV.out
  have hB : Below w.heap.size w (w.alloc (.cells #[.int .i64 30, .string ⟨#[]⟩, .slice A 3 cp, .int .i64 np] 24)) := hB
  have hBn : Blk (w.alloc (.cells #[.int .i64 30, .string ⟨#[]⟩, .slice A 3 cp, .int .i64 np] 24)) w.heap.size 24 #[.int .i64 30, .string ⟨#[]⟩, .slice A 3 cp, .int .i64 np] := hBn
  obtain ⟨bx, ox, A0, c0, rfl, hk0⟩ := kid_at HV1 0 (by simp)
  obtain ⟨bx1, ox1, A1, c1, e, hk1⟩ := kid_at HV1 1 (by simp)
  injection e with e
  injection e with e1 e2
  subst e1 e2
  obtain ⟨bx2, ox2, A2, c2, e, hk2⟩ := kid_at HV1 2 (by simp)
  injection e with e
  injection e with e1 e2
  subst e1 e2
  simp only [Nd.kids_mk, List.getElem_cons_zero, List.getElem_cons_succ, Nat.zero_mul, Nat.add_zero, Nat.one_mul] at hk0 hk1 hk2
  have HC0 := Lib.hid hk0
  have hd0 := HD.out.kid (k := x) (by simp)
  have HC1 := Lib.hid hk1
  have hd1 := HD.out.kid (k := y) (by simp)
  have HC2 := Lib.hid hk2
  have hd2 := HD.out.kid (k := z) (by simp)
  clear HV1 HV hk0 hk1 hk2
  have HEX := Lib.hid (fun w' (h : C4 w' bx ox x A0 c0) => HE.out _ x w' h.2.2.2.2 hd0)
  have HBY := Lib.hid (fun w' (h : C4 w' bx (ox + 4) y A1 c1) => HBL.out _ y w' h.2.2.2.2 hd1)
  have HNZ := Lib.hid (fun w' (h : C4 w' bx (ox + 2 * 4) z A2 c2) => nothing_any _ z w' h.2.2.2.2)
  have HKZ := Lib.hid (fun w' (h : C4 w' bx (ox + 2 * 4) z A2 c2) => HKD.out _ z (w'.alloc (.cells #[.int .i64 36, .int .i64 30] 3)) (NodeV.below h.2.2.2.2 ((Below.refl _ _).alloc (Nat.le_refl _) _)) hd2 [36, 30] w'.heap.size 2 (IntsAt.of_blk (Blk.new w' 3 #[.int .i64 36, .int .i64 30])) (by decide))
  have HR2 := Lib.hid (show stmtT F (.mk 30 ⟨#[]⟩ [x, y, z] np) = (F.expr x && (F.block y && (emptyT z || (decide (z.kind ∈ ([36, 30] : List Int)) && F.stmt z)))) by
    rw [HR.out, ← HBI.out z]
    simp [threeT, orT, Bool.or_assoc])
  generalize (decide (z.kind ∈ ([36, 30] : List Int)) && F.stmt z) = rz at *
  cases g2 : F.expr x with
  | false =>
    have HX := Lib.hid (show stmtT F (.mk 30 ⟨#[]⟩ [x, y, z] np) = false by rw [HR2.out, g2]; rfl)
    rw [g2] at HEX
    obtain ⟨k00, k01, k02, k03, -⟩ := HC0.out.below hB
    go_enter Tryz.func20, Tryz.ntmps20
    go_wp2_with fail
    refine (HEX.out _ (HC0.out.below hB)).mono ?_
    rintro e w1 ⟨rfl, hb1⟩
    have hB1 := hB.trans (hb1.mono hB.size)
    go_wp2_with fail
    go_ret
    exact ⟨by rw [HX.out]; rfl, hB1⟩
  | true =>
    rw [g2] at HEX
    obtain ⟨k00, k01, k02, k03, -⟩ := HC0.out.below hB
    cases g3 : F.block y with
    | false =>
      have HX := Lib.hid (show stmtT F (.mk 30 ⟨#[]⟩ [x, y, z] np) = false by rw [HR2.out, g2, g3]; rfl)
      rw [g3] at HBY
      go_enter Tryz.func20, Tryz.ntmps20
      go_wp2_with fail
      refine (HEX.out _ (HC0.out.below hB)).mono ?_
      rintro e w1 ⟨rfl, hb1⟩
      have hB1 := hB.trans (hb1.mono hB.size)
      obtain ⟨k10, k11, k12, k13, -⟩ := HC1.out.below hB1
      go_wp2_with fail
      refine (HBY.out _ (HC1.out.below hB1)).mono ?_
      rintro e w2 ⟨rfl, hb2⟩
      have hB2 := hB1.trans (hb2.mono hB1.size)
      go_wp2_with fail
      go_ret
      exact ⟨by rw [HX.out]; rfl, hB2⟩
    | true =>
      rw [g3] at HBY
      cases g4 : emptyT z with
      | true =>
        have HX := Lib.hid (show stmtT F (.mk 30 ⟨#[]⟩ [x, y, z] np) = true by rw [HR2.out, g2, g3, g4]; rfl)
        rw [g4] at HNZ
        go_enter Tryz.func20, Tryz.ntmps20
        go_wp2_with fail
        refine (HEX.out _ (HC0.out.below hB)).mono ?_
        rintro e w1 ⟨rfl, hb1⟩
        have hB1 := hB.trans (hb1.mono hB.size)
        obtain ⟨k10, k11, k12, k13, -⟩ := HC1.out.below hB1
        go_wp2_with fail
        refine (HBY.out _ (HC1.out.below hB1)).mono ?_
        rintro e w2 ⟨rfl, hb2⟩
        have hB2 := hB1.trans (hb2.mono hB1.size)
        obtain ⟨k20, k21, k22, k23, -⟩ := HC2.out.below hB2
        go_wp2_with fail
        refine (HNZ.out _ (HC2.out.below hB2)).mono ?_
        rintro e w3 ⟨rfl, hb3⟩
        have hB3 := hB2.trans (hb3.mono hB2.size)
        go_wp2_with fail
        go_ret
        exact ⟨by rw [HX.out]; rfl, hB3⟩
      | false =>
        have HX := Lib.hid (show stmtT F (.mk 30 ⟨#[]⟩ [x, y, z] np) = rz by rw [HR2.out, g2, g3, g4]; rfl)
        rw [g4] at HNZ
        go_enter Tryz.func20, Tryz.ntmps20
        go_wp2_with fail
        refine (HEX.out _ (HC0.out.below hB)).mono ?_
        rintro e w1 ⟨rfl, hb1⟩
        have hB1 := hB.trans (hb1.mono hB.size)
        obtain ⟨k10, k11, k12, k13, -⟩ := HC1.out.below hB1
        go_wp2_with fail
        refine (HBY.out _ (HC1.out.below hB1)).mono ?_
        rintro e w2 ⟨rfl, hb2⟩
        have hB2 := hB1.trans (hb2.mono hB1.size)
        obtain ⟨k20, k21, k22, k23, -⟩ := HC2.out.below hB2
        go_wp2_with fail
        refine (HNZ.out _ (HC2.out.below hB2)).mono ?_
        rintro e w3 ⟨rfl, hb3⟩
        have hB3 := hB2.trans (hb3.mono hB2.size)
        clear k20 k21 k22 k23
        obtain ⟨k20, k21, k22, k23, -⟩ := HC2.out.below hB3
        go_wp2_with fail
        refine (HKZ.out _ (HC2.out.below hB3)).mono ?_
        rintro e w4 ⟨rfl, hb4⟩
        have hB3a := hB3.alloc hB3.size (.cells #[.int .i64 36, .int .i64 30] 3)
        go_wp2_with fail
        go_ret
        exact ⟨by rw [HX.out]; rfl, hB3a.trans (hb4.mono hB3a.size)⟩
end Go.Proofs.YtnalfjaojcahhaaGreatDoor
namespace Go.Proofs.YtnalfjaojcahhaaGreatDoor

/-- Two questions that agree on nodes of so much depth. -/
def Ag (d : Nat) (P Q : Nd → Bool) : Prop := ∀ n, DLe d n → P n = Q n
structure AgF (d : Nat) (F G : TFns) : Prop where
  typ : Ag d F.typ G.typ
  expr : Ag d F.expr G.expr
  block : Ag d F.block G.block
  stmt : Ag d F.stmt G.stmt
  ifS : Ag d F.ifS G.ifS
theorem Ag.refl (d : Nat) (P : Nd → Bool) : Ag d P P := fun _ _ => rfl
theorem ag_all {d : Nat} {P Q : Nd → Bool} (h : Ag d P Q) {l : List Nd} (hl : ∀ k ∈ l, DLe d k) : l.all P = l.all Q := by
  induction l with
  | nil => rfl
  | cons x l ih => rw [List.all_cons, List.all_cons, h x (hl x (by simp)), ih (fun k hk => hl k (by simp [hk]))]
/-- The questions, pair by pair. -/
inductive AgL (d : Nat) : List (Nd → Bool) → List (Nd → Bool) → Prop where
  | nil : AgL d [] []
  | cons {P Q : Nd → Bool} {l m : List (Nd → Bool)} : Ag d P Q → AgL d l m → AgL d (P :: l) (Q :: m)
theorem ag_ask {d : Nat} : ∀ {ps qs : List (Nd → Bool)}, AgL d ps qs → ∀ (ks : List Nd), (∀ k ∈ ks, DLe d k) → askAll ps ks = askAll qs ks
  | _, _, .nil, ks, _ => by cases ks <;> rfl
  | _, _, .cons h hs, [], _ => rfl
  | _, _, .cons h hs, k :: ks, hk => by
    unfold askAll
    rw [h k (hk k (by simp)), ag_ask hs ks (fun j hj => hk j (by simp [hj]))]
theorem ag_of {d : Nat} (k : Int) {ps qs : List (Nd → Bool)} (h : AgL d ps qs) : Ag (d + 1) (ofT k ps) (ofT k qs) := by
  intro n hn
  unfold ofT
  rw [ag_ask h n.kids (fun j hj => hn.kid hj)]
theorem ag_of' {d : Nat} (k : Int) {ps qs : List (Nd → Bool)} (h : AgL d ps qs) : Ag d (ofT k ps) (ofT k qs) := by
  intro n hn
  unfold ofT
  rw [ag_ask h n.kids (fun j hj => hn.kid' hj)]
theorem ag_named {d : Nat} {P Q : Nd → Bool} (so : ByteArray → Bool) (h : Ag d P Q) : Ag d (fun n => P (namedT so n)) (fun n => Q (namedT so n)) := fun _ hn => h _ hn.named
theorem ag_or {d : Nat} {P Q P' Q' : Nd → Bool} (h : Ag d P Q) (h' : Ag d P' Q') : Ag d (orT P P') (orT Q Q') := by
  intro n hn
  unfold orT
  rw [h n hn, h' n hn]
theorem ag_list {d : Nat} {P Q : Nd → Bool} (h : Ag d P Q) : Ag d (listT P) (listT Q) := by
  intro n hn
  unfold listT
  rw [ag_all h (fun j hj => hn.kid' hj)]
section
variable {d : Nat} {F G : TFns}
theorem ag_param (h : AgF d F G) (so : ByteArray → Bool) : Ag d (paramT F so) (paramT G so) := ag_named so (ag_of' 8 (.cons h.typ .nil))
theorem ag_sig' (h : AgF d F G) (so : ByteArray → Bool) : Ag d (sigT F so) (sigT G so) := ag_of' 12 (.cons (ag_list (ag_param h so)) (.cons (ag_or (Ag.refl d emptyT) h.typ) .nil))
theorem ag_sig (h : AgF d F G) (so : ByteArray → Bool) : Ag (d + 1) (sigT F so) (sigT G so) := ag_of 12 (.cons (ag_list (ag_param h so)) (.cons (ag_or (Ag.refl d emptyT) h.typ) .nil))
theorem ag_isSig' (h : AgF d F G) : Ag d (isSigT F) (isSigT G) := ag_sig' h nameT
theorem ag_typ (h : AgF d F G) : Ag (d + 1) (typT F) (typT G) := by
  intro n hn
  unfold typT
  rw [ag_all h.typ (fun j hj => hn.kid hj), ag_of 11 (.cons h.typ .nil) n hn, ag_sig h noText n hn]
theorem ag_var (h : AgF d F G) : Ag (d + 1) (varT F) (varT G) := by
  intro n hn
  unfold varT
  rw [ag_of 5 (.cons (ag_or (Ag.refl d emptyT) h.typ) (.cons (ag_or (Ag.refl d emptyT) h.expr) .nil)) (namedT nameT n) hn.named]
theorem ag_part (h : AgF d F G) : Ag d (partT F) (partT G) := by
  intro n hn
  unfold partT
  rw [h.expr n hn, h.typ n hn]
theorem dle_drop {n : Nd} (hn : DLe (d + 1) n) (i : Nat) : ∀ k ∈ n.kids.drop i, DLe d k := fun _ hk => hn.kid (List.mem_of_mem_drop hk)
theorem get_ag {P Q : Nd → Bool} (h : Ag d P Q) {n : Nd} (hn : DLe (d + 1) n) (hl : 0 < n.kids.length) : P (n.kids.getD 0 nd0) = Q (n.kids.getD 0 nd0) := by
  rw [List.getD_eq_getElem?_getD, List.getElem?_eq_getElem hl]
  exact h _ (hn.kid (List.getElem_mem hl))
theorem ag_expr (h : AgF d F G) : Ag (d + 1) (exprT F) (exprT G) := by
  intro n hn
  unfold exprT
  rw [ag_of 19 (.cons h.expr .nil) (namedT unaryT n) hn.named, ag_of 20 (.cons h.expr (.cons h.expr .nil)) (namedT binaryT n) hn.named, ag_all h.expr (fun j hj => hn.kid hj),
    ag_of 23 (.cons h.expr .nil) (namedT nameT n) hn.named, ag_all (ag_part h) (dle_drop hn 1), ag_all h.expr (dle_drop hn 1), ag_of 25 (.cons (ag_isSig' h) (.cons h.block .nil)) n hn]
  by_cases hl : 0 < n.kids.length
  · rw [get_ag h.expr hn hl, get_ag h.typ hn hl]
  · have h1 : ¬ 1 < n.kids.length := by omega
    simp [hl, h1]
theorem ag_block (h : AgF d F G) : Ag (d + 1) (blockT F) (blockT G) := by
  intro n hn
  unfold blockT
  rw [ag_all h.stmt (fun j hj => hn.kid hj)]
theorem ag_if (h : AgF d F G) : Ag (d + 1) (ifT F) (ifT G) := ag_of 30 (.cons h.expr (.cons h.block (.cons (ag_or (ag_or (Ag.refl d emptyT) h.block) h.ifS) .nil)))
theorem ag_short (h : AgF d F G) : Ag (d + 1) (shortT F) (shortT G) := ag_named boundT (ag_of 26 (.cons h.expr .nil))
theorem ag_set (h : AgF d F G) : Ag (d + 1) (setT F) (setT G) := ag_of 27 (.cons h.expr (.cons h.expr .nil))
theorem ag_inc (h : AgF d F G) : Ag (d + 1) (incT F) (incT G) := ag_named stepT (ag_of 28 (.cons h.expr .nil))
theorem ag_callX (h : AgF d F G) : Ag d (callX F) (callX G) := by
  intro n hn
  unfold callX
  rw [h.expr n hn]
theorem ag_call (h : AgF d F G) : Ag (d + 1) (callT F) (callT G) := ag_of 29 (.cons (ag_callX h) .nil)
theorem ag_short' (h : AgF d F G) : Ag d (shortT F) (shortT G) := ag_named boundT (ag_of' 26 (.cons h.expr .nil))
theorem ag_set' (h : AgF d F G) : Ag d (setT F) (setT G) := ag_of' 27 (.cons h.expr (.cons h.expr .nil))
theorem ag_inc' (h : AgF d F G) : Ag d (incT F) (incT G) := ag_named stepT (ag_of' 28 (.cons h.expr .nil))
theorem ag_call' (h : AgF d F G) : Ag d (callT F) (callT G) := ag_of' 29 (.cons (ag_callX h) .nil)
theorem ag_stmt (h : AgF d F G) : Ag (d + 1) (stmtT F) (stmtT G) := by
  intro n hn
  unfold stmtT
  rw [ag_var h n hn, ag_short h n hn, ag_set h n hn, ag_inc h n hn, ag_call h n hn, ag_if h n hn, ag_block h n hn,
    ag_of 31 (.cons (ag_or (ag_or (Ag.refl d emptyT) (ag_short' h)) (ag_or (ag_set' h) (ag_inc' h))) (.cons (ag_or (Ag.refl d emptyT) h.expr) (.cons (ag_or (ag_or (Ag.refl d emptyT) (ag_set' h)) (ag_or (ag_inc' h) (ag_call' h))) (.cons h.block .nil)))) n hn,
    ag_of 32 (.cons h.expr (.cons h.block .nil)) (namedT rangedT n) hn.named, ag_of 33 (.cons (ag_or (Ag.refl d emptyT) h.expr) .nil) n hn]
end
/-- Once enough, always the same. -/
theorem tfns_stable : ∀ d, AgF d (tfns d) (tfns (d + 1))
  | 0 => ⟨fun _ h => h.elim, fun _ h => h.elim, fun _ h => h.elim, fun _ h => h.elim, fun _ h => h.elim⟩
  | d + 1 => ⟨ag_typ (tfns_stable d), ag_expr (tfns_stable d), ag_block (tfns_stable d), ag_stmt (tfns_stable d), ag_if (tfns_stable d)⟩
end Go.Proofs.YtnalfjaojcahhaaGreatDoor
namespace Go.Proofs.YtnalfjaojcahhaaGreatDoor
open Go.RowKit Go.Lib Go.Proofs
attribute [local go_sem ↓] Go.wp_at_zero Go.wp_at_succ

/-- Four nodes, of which something is asked. -/
def fourT (f g h i : Nd → Bool) : List Nd → Bool
  | [a, b, c, d] => f a && (g b && (h c && i d))
  | _ => false
theorem fourT_ne (f g h i : Nd → Bool) {l : List Nd} (hl : l.length ≠ 4) : fourT f g h i l = false := by
  rcases l with _ | ⟨x, _ | ⟨y, _ | ⟨z, _ | ⟨u, _ | ⟨o, l⟩⟩⟩⟩⟩
  · rfl
  · rfl
  · rfl
  · rfl
  · exact absurd rfl hl
  · rfl
theorem four_of {l : List Nd} (h : l.length = 4) : ∃ x y z u, l = [x, y, z, u] := by
  rcases l with _ | ⟨x, _ | ⟨y, _ | ⟨z, _ | ⟨u, _ | ⟨o, l⟩⟩⟩⟩⟩
  · simp at h
  · simp at h
  · simp at h
  · simp at h
  · exact ⟨x, y, z, u, rfl⟩
  · simp at h
theorem of4_eq (k : Int) (f g h i : Nd → Bool) (n : Nd) : ofT k [f, g, h, i] n = (decide (n.kind = k) && (decide (n.text = (⟨#[]⟩ : ByteArray)) && fourT f g h i n.kids)) := by
  unfold ofT
  congr 2
  rcases n.kids with _ | ⟨x, _ | ⟨y, _ | ⟨z, _ | ⟨u, _ | ⟨o, l⟩⟩⟩⟩⟩
  · rfl
  · simp [askAll, fourT]
  · simp [askAll, fourT]
  · simp [askAll, fourT]
  · simp [askAll, fourT]
  · simp [askAll, fourT]
theorem short_kind (F : TFns) (j : Int) (t : ByteArray) (l : List Nd) (p : Int) : shortT F (.mk j t l p) = (decide (j = 26) && (oneT F.expr l && boundT t)) := named1_eq 26 _ _ _
theorem inc_kind (F : TFns) (j : Int) (t : ByteArray) (l : List Nd) (p : Int) : incT F (.mk j t l p) = (decide (j = 28) && (oneT F.expr l && stepT t)) := named1_eq 28 _ _ _
theorem set_kind (F : TFns) (j : Int) (t : ByteArray) (l : List Nd) (p : Int) : setT F (.mk j t l p) = (decide (j = 27) && (decide (t = (⟨#[]⟩ : ByteArray)) && twoT F.expr F.expr l)) := of2_eq 27 _ _ _
theorem call_kind (F : TFns) (j : Int) (t : ByteArray) (l : List Nd) (p : Int) : callT F (.mk j t l p) = (decide (j = 29) && (decide (t = (⟨#[]⟩ : ByteArray)) && oneT (callX F) l)) := of1_eq 29 _ _
theorem first_kinds {d : Nat} {k : Nd} (hk : DLe d k) : (shortT (tfns d) k || (setT (tfns d) k || incT (tfns d) k)) = (decide (k.kind ∈ ([26, 27, 28] : List Int)) && (tfns d).stmt k) := by
  cases d with
  | zero => exact hk.elim
  | succ d =>
    rw [← ag_short (tfns_stable d) k hk, ← ag_set (tfns_stable d) k hk, ← ag_inc (tfns_stable d) k hk]
    show _ = (decide (k.kind ∈ ([26, 27, 28] : List Int)) && stmtT (tfns d) k)
    generalize tfns d = F
    obtain ⟨j, t, l, p⟩ := k
    rw [short_kind, set_kind, inc_kind]
    by_cases h1 : j = 26
    · subst h1; simp [stmtT, short_kind]
    by_cases h2 : j = 27
    · subst h2; simp [stmtT, set_kind]
    by_cases h3 : j = 28
    · subst h3; simp [stmtT, inc_kind]
    · simp [h1, h2, h3]
theorem last_kinds {d : Nat} {k : Nd} (hk : DLe d k) : (setT (tfns d) k || (incT (tfns d) k || callT (tfns d) k)) = (decide (k.kind ∈ ([27, 28, 29] : List Int)) && (tfns d).stmt k) := by
  cases d with
  | zero => exact hk.elim
  | succ d =>
    rw [← ag_set (tfns_stable d) k hk, ← ag_inc (tfns_stable d) k hk, ← ag_call (tfns_stable d) k hk]
    show _ = (decide (k.kind ∈ ([27, 28, 29] : List Int)) && stmtT (tfns d) k)
    generalize tfns d = F
    obtain ⟨j, t, l, p⟩ := k
    rw [call_kind, set_kind, inc_kind]
    by_cases h1 : j = 27
    · subst h1; simp [stmtT, set_kind]
    by_cases h2 : j = 28
    · subst h2; simp [stmtT, inc_kind]
    by_cases h3 : j = 29
    · subst h3; simp [stmtT, call_kind]
    · simp [h1, h2, h3]

set_option maxRecDepth 100000 in
set_option maxHeartbeats 8000000 in
theorem ustmt_31 (d : Nat) (C : UCtx d) (nt : ByteArray) (nl : List Nd) (np : Int) (A : Option Addr) (cp : Nat) (w : World) (hv : NodeW w (.agg #[.int .i64 31, .string nt, .slice A nl.length cp, .int .i64 np]) (.mk 31 nt nl np)) (hd : DLe (d + 1) (.mk 31 nt nl np)) :
    Calls Tryz.prog 20 #[.agg #[.int .i64 31, .string nt, .slice A nl.length cp, .int .i64 np]] w fun e w' => e = .returned (.bool (stmtT (tfns d) (.mk 31 nt nl np))) ∧ Below w.heap.size w w' := by
  have HV := Lib.hid hv
  have HD := Lib.hid hd
  have hlen := hd.1.1
  have HT := Lib.hid C.typ
  have HE := Lib.hid C.expr
  have HBL := Lib.hid C.block
  have HKD := Lib.hid (ukind_any d C.stmt)
  have HFK := Lib.hid (fun k hk => first_kinds (d := d) (k := k) hk)
  have HLK := Lib.hid (fun k hk => last_kinds (d := d) (k := k) hk)
  have hB := (Below.refl w.heap.size w).alloc (Nat.le_refl _) (.cells #[.int .i64 31, .string nt, .slice A nl.length cp, .int .i64 np] 24)
  have hBn : Blk (w.alloc (.cells #[.int .i64 31, .string nt, .slice A nl.length cp, .int .i64 np] 24)) w.heap.size 24 #[.int .i64 31, .string nt, .slice A nl.length cp, .int .i64 np] := Blk.new w _ _
  clear hv hd C
  generalize tfns d = F at *
  simp only [Nd.kids_mk] at hlen
  have HR := Lib.hid (show stmtT F (.mk 31 nt nl np) = (decide (nt = (⟨#[]⟩ : ByteArray)) && fourT (orT (orT emptyT (shortT F)) (orT (setT F) (incT F))) (orT emptyT F.expr) (orT (orT emptyT (setT F)) (orT (incT F) (callT F))) F.block nl) by
    have h : stmtT F (.mk 31 nt nl np) = ofT 31 [orT (orT emptyT (shortT F)) (orT (setT F) (incT F)), orT emptyT F.expr, orT (orT emptyT (setT F)) (orT (incT F) (callT F)), F.block] (.mk 31 nt nl np) := by simp [stmtT]
    rw [h, of4_eq]
    simp
    rfl)
  by_cases h1 : nt = ⟨#[]⟩
  rotate_left
  · have hne : nt.toList.isEmpty = false := by rw [isEmpty_dec]; simpa using h1
    have HX := Lib.hid (show stmtT F (.mk 31 nt nl np) = false by rw [HR.out, decide_eq_false h1, Bool.false_and])
    clear h1
    go_enter Tryz.func20, Tryz.ntmps20
    go_wp2_with fail
    go_ret
    exact ⟨by rw [HX.out]; rfl, hB⟩
  subst h1
  by_cases h2 : nl.length = 4
  rotate_left
  · have hne : ((nl.length : Int) == 4) = false := by rw [beq_eq_false_iff_ne]; omega
    have HX := Lib.hid (show stmtT F (.mk 31 ⟨#[]⟩ nl np) = false by rw [HR.out, fourT_ne _ _ _ _ h2, Bool.and_false])
    clear h2
    generalize nl.length = m at *
    go_enter Tryz.func20, Tryz.ntmps20
    go_wp2_with fail
    go_ret
    exact ⟨by rw [HX.out]; rfl, hB⟩
  obtain ⟨x, y, z, u, rfl⟩ := four_of h2
  clear h2
  have HV1 : NodeW w (.agg #[.int .i64 31, .string ⟨#[]⟩, .slice A 4 cp, .int .i64 np]) (.mk 31 ⟨#[]⟩ [x, y, z, u] np) := HV.out
  have hB : Below w.heap.size w (w.alloc (.cells #[.int .i64 31, .string ⟨#[]⟩, .slice A 4 cp, .int .i64 np] 24)) := hB
  have hBn : Blk (w.alloc (.cells #[.int .i64 31, .string ⟨#[]⟩, .slice A 4 cp, .int .i64 np] 24)) w.heap.size 24 #[.int .i64 31, .string ⟨#[]⟩, .slice A 4 cp, .int .i64 np] := hBn
  obtain ⟨bx, ox, A0, c0, rfl, hk0⟩ := kid_at HV1 0 (by simp)
  obtain ⟨bx1, ox1, A1, c1, e, hk1⟩ := kid_at HV1 1 (by simp)
  injection e with e
  injection e with e1 e2
  subst e1 e2
  obtain ⟨bx2, ox2, A2, c2, e, hk2⟩ := kid_at HV1 2 (by simp)
  injection e with e
  injection e with e1 e2
  subst e1 e2
  obtain ⟨bx3, ox3, A3, c3, e, hk3⟩ := kid_at HV1 3 (by simp)
  injection e with e
  injection e with e1 e2
  subst e1 e2
  simp only [Nd.kids_mk, List.getElem_cons_zero, List.getElem_cons_succ, Nat.zero_mul, Nat.add_zero, Nat.one_mul] at hk0 hk1 hk2 hk3
  have HC0 := Lib.hid hk0
  have hd0 := HD.out.kid (k := x) (by simp)
  have HC1 := Lib.hid hk1
  have hd1 := HD.out.kid (k := y) (by simp)
  have HC2 := Lib.hid hk2
  have hd2 := HD.out.kid (k := z) (by simp)
  have HC3 := Lib.hid hk3
  have hd3 := HD.out.kid (k := u) (by simp)
  clear HV1 HV hk0 hk1 hk2 hk3
  have HN0 := Lib.hid (fun w' (h : C4 w' bx ox x A0 c0) => nothing_any _ x w' h.2.2.2.2)
  have HN1 := Lib.hid (fun w' (h : C4 w' bx (ox + 4) y A1 c1) => nothing_any _ y w' h.2.2.2.2)
  have HN2 := Lib.hid (fun w' (h : C4 w' bx (ox + 2 * 4) z A2 c2) => nothing_any _ z w' h.2.2.2.2)
  have HE1 := Lib.hid (fun w' (h : C4 w' bx (ox + 4) y A1 c1) => HE.out _ y w' h.2.2.2.2 hd1)
  have HB3 := Lib.hid (fun w' (h : C4 w' bx (ox + 3 * 4) u A3 c3) => HBL.out _ u w' h.2.2.2.2 hd3)
  have HK0 := Lib.hid (fun w' (h : C4 w' bx ox x A0 c0) => HKD.out _ x (w'.alloc (.cells #[.int .i64 26, .int .i64 27, .int .i64 28] 3)) (NodeV.below h.2.2.2.2 ((Below.refl _ _).alloc (Nat.le_refl _) _)) hd0 [26, 27, 28] w'.heap.size 3 (IntsAt.of_blk (Blk.new w' 3 #[.int .i64 26, .int .i64 27, .int .i64 28])) (by decide))
  have HK2 := Lib.hid (fun w' (h : C4 w' bx (ox + 2 * 4) z A2 c2) => HKD.out _ z (w'.alloc (.cells #[.int .i64 27, .int .i64 28, .int .i64 29] 3)) (NodeV.below h.2.2.2.2 ((Below.refl _ _).alloc (Nat.le_refl _) _)) hd2 [27, 28, 29] w'.heap.size 3 (IntsAt.of_blk (Blk.new w' 3 #[.int .i64 27, .int .i64 28, .int .i64 29])) (by decide))
  have HR2 := Lib.hid (show stmtT F (.mk 31 ⟨#[]⟩ [x, y, z, u] np) = ((emptyT x || (decide (x.kind ∈ ([26, 27, 28] : List Int)) && F.stmt x)) && ((emptyT y || F.expr y) && ((emptyT z || (decide (z.kind ∈ ([27, 28, 29] : List Int)) && F.stmt z)) && F.block u))) by
    rw [HR.out, ← HFK.out x hd0, ← HLK.out z hd2]
    simp [fourT, orT, Bool.or_assoc])
  generalize (decide (x.kind ∈ ([26, 27, 28] : List Int)) && F.stmt x) = rx at *
  generalize (decide (z.kind ∈ ([27, 28, 29] : List Int)) && F.stmt z) = rz at *
  clear HR
  obtain ⟨k00, k01, k02, k03, -⟩ := HC0.out.below hB
  go_enter Tryz.func20, Tryz.ntmps20
  go_wp2_with fail
  refine (HN0.out _ (HC0.out.below hB)).mono ?_
  rintro e w1 ⟨rfl, hb1⟩
  have hB1 := hB.trans (hb1.mono hB.size)
  clear k00 k01 k02 k03
  cases g1 : emptyT x with
  | false =>
    obtain ⟨k00, k01, k02, k03, -⟩ := HC0.out.below hB1
    go_wp2_with fail
    refine (HK0.out _ (HC0.out.below hB1)).mono ?_
    rintro e w2 ⟨rfl, hb2⟩
    have hA2 := hB1.alloc hB1.size (.cells #[.int .i64 26, .int .i64 27, .int .i64 28] 3)
    have hB2 := hA2.trans (hb2.mono hA2.size)
    clear k00 k01 k02 k03
    cases g2 : rx with
    | false =>
      go_wp2_with fail
      go_ret
      exact ⟨by rw [HR2.out, g1, g2]; rfl, hB2⟩
    | true =>
      obtain ⟨k10, k11, k12, k13, -⟩ := HC1.out.below hB2
      go_wp2_with fail
      refine (HN1.out _ (HC1.out.below hB2)).mono ?_
      rintro e w3 ⟨rfl, hb3⟩
      have hB3 := hB2.trans (hb3.mono hB2.size)
      clear k10 k11 k12 k13
      cases g3 : emptyT y with
      | false =>
        obtain ⟨k10, k11, k12, k13, -⟩ := HC1.out.below hB3
        go_wp2_with fail
        refine (HE1.out _ (HC1.out.below hB3)).mono ?_
        rintro e w4 ⟨rfl, hb4⟩
        have hB4 := hB3.trans (hb4.mono hB3.size)
        clear k10 k11 k12 k13
        cases g4 : F.expr y with
        | false =>
          go_wp2_with fail
          go_ret
          exact ⟨by rw [HR2.out, g1, g2, g3, g4]; rfl, hB4⟩
        | true =>
          obtain ⟨k20, k21, k22, k23, -⟩ := HC2.out.below hB4
          go_wp2_with fail
          refine (HN2.out _ (HC2.out.below hB4)).mono ?_
          rintro e w5 ⟨rfl, hb5⟩
          have hB5 := hB4.trans (hb5.mono hB4.size)
          clear k20 k21 k22 k23
          cases g5 : emptyT z with
          | false =>
            obtain ⟨k20, k21, k22, k23, -⟩ := HC2.out.below hB5
            go_wp2_with fail
            refine (HK2.out _ (HC2.out.below hB5)).mono ?_
            rintro e w6 ⟨rfl, hb6⟩
            have hA6 := hB5.alloc hB5.size (.cells #[.int .i64 27, .int .i64 28, .int .i64 29] 3)
            have hB6 := hA6.trans (hb6.mono hA6.size)
            clear k20 k21 k22 k23
            cases g6 : rz with
            | false =>
              go_wp2_with fail
              go_ret
              exact ⟨by rw [HR2.out, g1, g2, g3, g4, g5, g6]; rfl, hB6⟩
            | true =>
              obtain ⟨k30, k31, k32, k33, -⟩ := HC3.out.below hB6
              go_wp2_with fail
              refine (HB3.out _ (HC3.out.below hB6)).mono ?_
              rintro e w7 ⟨rfl, hb7⟩
              go_wp2_with fail
              go_ret
              exact ⟨by rw [HR2.out, g1, g2, g3, g4, g5, g6]; rfl, hB6.trans (hb7.mono hB6.size)⟩
          | true =>
            obtain ⟨k30, k31, k32, k33, -⟩ := HC3.out.below hB5
            go_wp2_with fail
            refine (HB3.out _ (HC3.out.below hB5)).mono ?_
            rintro e w8 ⟨rfl, hb8⟩
            go_wp2_with fail
            go_ret
            exact ⟨by rw [HR2.out, g1, g2, g3, g4, g5]; rfl, hB5.trans (hb8.mono hB5.size)⟩
      | true =>
        obtain ⟨k20, k21, k22, k23, -⟩ := HC2.out.below hB3
        go_wp2_with fail
        refine (HN2.out _ (HC2.out.below hB3)).mono ?_
        rintro e w9 ⟨rfl, hb9⟩
        have hB9 := hB3.trans (hb9.mono hB3.size)
        clear k20 k21 k22 k23
        cases g9 : emptyT z with
        | false =>
          obtain ⟨k20, k21, k22, k23, -⟩ := HC2.out.below hB9
          go_wp2_with fail
          refine (HK2.out _ (HC2.out.below hB9)).mono ?_
          rintro e w10 ⟨rfl, hb10⟩
          have hA10 := hB9.alloc hB9.size (.cells #[.int .i64 27, .int .i64 28, .int .i64 29] 3)
          have hB10 := hA10.trans (hb10.mono hA10.size)
          clear k20 k21 k22 k23
          cases g10 : rz with
          | false =>
            go_wp2_with fail
            go_ret
            exact ⟨by rw [HR2.out, g1, g2, g3, g9, g10]; rfl, hB10⟩
          | true =>
            obtain ⟨k30, k31, k32, k33, -⟩ := HC3.out.below hB10
            go_wp2_with fail
            refine (HB3.out _ (HC3.out.below hB10)).mono ?_
            rintro e w11 ⟨rfl, hb11⟩
            go_wp2_with fail
            go_ret
            exact ⟨by rw [HR2.out, g1, g2, g3, g9, g10]; rfl, hB10.trans (hb11.mono hB10.size)⟩
        | true =>
          obtain ⟨k30, k31, k32, k33, -⟩ := HC3.out.below hB9
          go_wp2_with fail
          refine (HB3.out _ (HC3.out.below hB9)).mono ?_
          rintro e w12 ⟨rfl, hb12⟩
          go_wp2_with fail
          go_ret
          exact ⟨by rw [HR2.out, g1, g2, g3, g9]; rfl, hB9.trans (hb12.mono hB9.size)⟩
  | true =>
    obtain ⟨k10, k11, k12, k13, -⟩ := HC1.out.below hB1
    go_wp2_with fail
    refine (HN1.out _ (HC1.out.below hB1)).mono ?_
    rintro e w13 ⟨rfl, hb13⟩
    have hB13 := hB1.trans (hb13.mono hB1.size)
    clear k10 k11 k12 k13
    cases g13 : emptyT y with
    | false =>
      obtain ⟨k10, k11, k12, k13, -⟩ := HC1.out.below hB13
      go_wp2_with fail
      refine (HE1.out _ (HC1.out.below hB13)).mono ?_
      rintro e w14 ⟨rfl, hb14⟩
      have hB14 := hB13.trans (hb14.mono hB13.size)
      clear k10 k11 k12 k13
      cases g14 : F.expr y with
      | false =>
        go_wp2_with fail
        go_ret
        exact ⟨by rw [HR2.out, g1, g13, g14]; rfl, hB14⟩
      | true =>
        obtain ⟨k20, k21, k22, k23, -⟩ := HC2.out.below hB14
        go_wp2_with fail
        refine (HN2.out _ (HC2.out.below hB14)).mono ?_
        rintro e w15 ⟨rfl, hb15⟩
        have hB15 := hB14.trans (hb15.mono hB14.size)
        clear k20 k21 k22 k23
        cases g15 : emptyT z with
        | false =>
          obtain ⟨k20, k21, k22, k23, -⟩ := HC2.out.below hB15
          go_wp2_with fail
          refine (HK2.out _ (HC2.out.below hB15)).mono ?_
          rintro e w16 ⟨rfl, hb16⟩
          have hA16 := hB15.alloc hB15.size (.cells #[.int .i64 27, .int .i64 28, .int .i64 29] 3)
          have hB16 := hA16.trans (hb16.mono hA16.size)
          clear k20 k21 k22 k23
          cases g16 : rz with
          | false =>
            go_wp2_with fail
            go_ret
            exact ⟨by rw [HR2.out, g1, g13, g14, g15, g16]; rfl, hB16⟩
          | true =>
            obtain ⟨k30, k31, k32, k33, -⟩ := HC3.out.below hB16
            go_wp2_with fail
            refine (HB3.out _ (HC3.out.below hB16)).mono ?_
            rintro e w17 ⟨rfl, hb17⟩
            go_wp2_with fail
            go_ret
            exact ⟨by rw [HR2.out, g1, g13, g14, g15, g16]; rfl, hB16.trans (hb17.mono hB16.size)⟩
        | true =>
          obtain ⟨k30, k31, k32, k33, -⟩ := HC3.out.below hB15
          go_wp2_with fail
          refine (HB3.out _ (HC3.out.below hB15)).mono ?_
          rintro e w18 ⟨rfl, hb18⟩
          go_wp2_with fail
          go_ret
          exact ⟨by rw [HR2.out, g1, g13, g14, g15]; rfl, hB15.trans (hb18.mono hB15.size)⟩
    | true =>
      obtain ⟨k20, k21, k22, k23, -⟩ := HC2.out.below hB13
      go_wp2_with fail
      refine (HN2.out _ (HC2.out.below hB13)).mono ?_
      rintro e w19 ⟨rfl, hb19⟩
      have hB19 := hB13.trans (hb19.mono hB13.size)
      clear k20 k21 k22 k23
      cases g19 : emptyT z with
      | false =>
        obtain ⟨k20, k21, k22, k23, -⟩ := HC2.out.below hB19
        go_wp2_with fail
        refine (HK2.out _ (HC2.out.below hB19)).mono ?_
        rintro e w20 ⟨rfl, hb20⟩
        have hA20 := hB19.alloc hB19.size (.cells #[.int .i64 27, .int .i64 28, .int .i64 29] 3)
        have hB20 := hA20.trans (hb20.mono hA20.size)
        clear k20 k21 k22 k23
        cases g20 : rz with
        | false =>
          go_wp2_with fail
          go_ret
          exact ⟨by rw [HR2.out, g1, g13, g19, g20]; rfl, hB20⟩
        | true =>
          obtain ⟨k30, k31, k32, k33, -⟩ := HC3.out.below hB20
          go_wp2_with fail
          refine (HB3.out _ (HC3.out.below hB20)).mono ?_
          rintro e w21 ⟨rfl, hb21⟩
          go_wp2_with fail
          go_ret
          exact ⟨by rw [HR2.out, g1, g13, g19, g20]; rfl, hB20.trans (hb21.mono hB20.size)⟩
      | true =>
        obtain ⟨k30, k31, k32, k33, -⟩ := HC3.out.below hB19
        go_wp2_with fail
        refine (HB3.out _ (HC3.out.below hB19)).mono ?_
        rintro e w22 ⟨rfl, hb22⟩
        go_wp2_with fail
        go_ret
        exact ⟨by rw [HR2.out, g1, g13, g19]; rfl, hB19.trans (hb22.mono hB19.size)⟩
end Go.Proofs.YtnalfjaojcahhaaGreatDoor
namespace Go.Proofs.YtnalfjaojcahhaaGreatDoor
open Go.RowKit Go.Lib Go.Proofs
attribute [local go_sem ↓] Go.wp_at_zero Go.wp_at_succ

theorem stmtT_else (F : TFns) (k : Int) (t : ByteArray) (l : List Nd) (p : Int) (h5 : k ≠ 5) (h : ∀ j : Int, 26 ≤ j → j ≤ 35 → k ≠ j) : stmtT F (.mk k t l p) = blockT F (.mk k t l p) := by
  have h26 := h 26 (by decide) (by decide)
  have h27 := h 27 (by decide) (by decide)
  have h28 := h 28 (by decide) (by decide)
  have h29 := h 29 (by decide) (by decide)
  have h30 := h 30 (by decide) (by decide)
  have h31 := h 31 (by decide) (by decide)
  have h32 := h 32 (by decide) (by decide)
  have h33 := h 33 (by decide) (by decide)
  have h34 := h 34 (by decide) (by decide)
  have h35 := h 35 (by decide) (by decide)
  simp [stmtT, h5, h26, h27, h28, h29, h30, h31, h32, h33, h34, h35]

set_option maxRecDepth 100000 in
set_option maxHeartbeats 4000000 in
theorem ustmt_any (d : Nat) (C : UCtx d) (v : Value) (n : Nd) (w : World) (hv : NodeW w v n) (hd : DLe (d + 1) n) :
    Calls Tryz.prog 20 #[v] w fun e w' => e = .returned (.bool (stmtT (tfns d) n)) ∧ Below w.heap.size w w' := by
  obtain ⟨A, cp, rfl, hC⟩ := hv.toC
  have HBK := Lib.hid (fun w' (hb : Below w.heap.size w w') => ublock_any d C.stmt _ n w' (NodeV.below hv hb) hd)
  obtain ⟨nk, nt, nl, np⟩ := n
  simp only [Nd.kind_mk, Nd.text_mk, Nd.kids_mk, Nd.pos_mk] at *
  by_cases h5 : nk = 5
  · subst h5
    exact ustmt_5 d C nt nl np A cp w hv hd
  by_cases h26 : nk = 26
  · subst h26
    exact ustmt_26 d C nt nl np A cp w hv hd
  by_cases h27 : nk = 27
  · subst h27
    exact ustmt_27 d C nt nl np A cp w hv hd
  by_cases h28 : nk = 28
  · subst h28
    exact ustmt_28 d C nt nl np A cp w hv hd
  by_cases h29 : nk = 29
  · subst h29
    exact ustmt_29 d C nt nl np A cp w hv hd
  by_cases h30 : nk = 30
  · subst h30
    exact ustmt_30 d C nt nl np A cp w hv hd
  by_cases h31 : nk = 31
  · subst h31
    exact ustmt_31 d C nt nl np A cp w hv hd
  by_cases h32 : nk = 32
  · subst h32
    exact ustmt_32 d C nt nl np A cp w hv hd
  by_cases h33 : nk = 33
  · subst h33
    exact ustmt_33 d C nt nl np A cp w hv hd
  by_cases h34 : nk = 34
  · subst h34
    exact ustmt_34 d C nt nl np A cp w hv hd
  by_cases h35 : nk = 35
  · subst h35
    exact ustmt_35 d C nt nl np A cp w hv hd
  have HX := Lib.hid (stmtT_else (tfns d) nk nt nl np h5 (fun j h1 h2 e => by omega))
  have hB := (Below.refl w.heap.size w).alloc (Nat.le_refl _) (.cells #[.int .i64 nk, .string nt, .slice A nl.length cp, .int .i64 np] 24)
  have hBn : Blk (w.alloc (.cells #[.int .i64 nk, .string nt, .slice A nl.length cp, .int .i64 np] 24)) w.heap.size 24 #[.int .i64 nk, .string nt, .slice A nl.length cp, .int .i64 np] := Blk.new w _ _
  obtain ⟨x0, x1, x2, x3, -, -, -, -⟩ := blk4 hBn
  have e5 : (nk == 5) = false := by rw [beq_eq_false_iff_ne]; exact h5
  have e26 : (nk == 26) = false := by rw [beq_eq_false_iff_ne]; exact h26
  have e27 : (nk == 27) = false := by rw [beq_eq_false_iff_ne]; exact h27
  have e28 : (nk == 28) = false := by rw [beq_eq_false_iff_ne]; exact h28
  have e29 : (nk == 29) = false := by rw [beq_eq_false_iff_ne]; exact h29
  have e30 : (nk == 30) = false := by rw [beq_eq_false_iff_ne]; exact h30
  have e31 : (nk == 31) = false := by rw [beq_eq_false_iff_ne]; exact h31
  have e32 : (nk == 32) = false := by rw [beq_eq_false_iff_ne]; exact h32
  have e33 : (nk == 33) = false := by rw [beq_eq_false_iff_ne]; exact h33
  have e34 : (nk == 34) = false := by rw [beq_eq_false_iff_ne]; exact h34
  have e35 : (nk == 35) = false := by rw [beq_eq_false_iff_ne]; exact h35
  clear hv hd hC C h5 h26 h27 h28 h29 h30 h31 h32 h33 h34 h35
  generalize nl.length = m at *
  go_enter Tryz.func20, Tryz.ntmps20
  go_wp2_with fail
  refine (HBK.out _ hB).mono ?_
  rintro e w1 ⟨rfl, hb1⟩
  go_wp2_with fail
  go_ret
  exact ⟨by rw [HX.out]; rfl, hB.trans (hb1.mono hB.size)⟩

/-- All of the document's questions, at nodes of any depth. -/
theorem uctx : ∀ d, UCtx d
  | 0 => ⟨fun _ _ _ _ h => h.elim, fun _ _ _ _ h => h.elim, fun _ _ _ _ h => h.elim, fun _ _ _ _ h => h.elim⟩
  | d + 1 => ⟨utyp_any (d + 1), fun v n w hv hd => uexpr_any d (uctx d) v n w hv hd, fun v n w hv hd => ustmt_any d (uctx d) v n w hv hd, fun v n w hv hd => ublock_any d (uctx d).stmt v n w hv hd⟩
end Go.Proofs.YtnalfjaojcahhaaGreatDoor
