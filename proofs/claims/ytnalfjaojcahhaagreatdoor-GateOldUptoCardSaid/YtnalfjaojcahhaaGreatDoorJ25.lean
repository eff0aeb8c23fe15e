/-
  demoticref06.Sig: a signature, with names or without. By an AI agent.
  demoticref06.All: a node and all in it, in a row. By an AI agent.
-/
import Derived.Test.YtnalfjaojcahhaaGreatDoorJ24
import Derived.Test.YtnalfjaojcahhaaGreatDoorJ08
import Derived.Test.YtnalfjaojcahhaaGreatDoorJ23
import Derived.Test.YtnalfjaojcahhaaGreatDoorJ22
namespace Go.Proofs.YtnalfjaojcahhaaGreatDoor
open Go.RowKit Go.Lib Go.Proofs
attribute [local go_sem ↓] Go.wp_at_zero Go.wp_at_succ

/-- The document's question of a node, at so much depth. -/
def RefC (d : Nat) (f : FuncId) (P : Nd → Bool) : Prop := ∀ (v : Value) (n : Nd) (w : World), NodeW w v n → DLe d n → Calls Tryz.prog f #[v] w fun e w' => e = .returned (.bool (P n)) ∧ Below w.heap.size w w'

theorem paramT_eq (F : TFns) (so : ByteArray → Bool) (p : Nd) : paramT F so p = (decide (p.kind = 8) && ((match p.kids with | [x] => F.typ x | _ => false) && so p.text)) := by
  obtain ⟨k, t, l, a⟩ := p
  unfold paramT
  rw [show namedT so (.mk k t l a) = if so t = true then .mk k (⟨#[]⟩ : ByteArray) l a else .mk 37 (⟨#[]⟩ : ByteArray) [] 0 from rfl]
  by_cases hs : so t = true
  · rw [if_pos hs]
    unfold ofT
    rcases l with _ | ⟨x, _ | ⟨y, l⟩⟩ <;> simp [hs, askAll] <;> rfl
  · rw [if_neg hs]
    rw [Bool.not_eq_true] at hs
    simp [hs, ofT]
theorem sigT_eq (F : TFns) (so : ByteArray → Bool) (n : Nd) : sigT F so n = (decide (n.kind = 12) && (decide (n.text = (⟨#[]⟩ : ByteArray)) && (match n.kids with | [a, b] => decide (a.kind = 6) && (decide (a.text = (⟨#[]⟩ : ByteArray)) && ((emptyT b || F.typ b) && a.kids.all (paramT F so))) | _ => false))) := by
  obtain ⟨k, t, l, p⟩ := n
  unfold sigT ofT
  simp only [Nd.text_mk, Nd.kind_mk, Nd.kids_mk]
  congr 2
  rcases l with _ | ⟨a, _ | ⟨b, _ | ⟨c, l⟩⟩⟩
  · rfl
  · simp [askAll]
  · simp only [askAll, listT, orT, Bool.and_true]
    rw [Bool.and_assoc, Bool.and_assoc, Bool.and_comm (x := a.kids.all _)]
  · simp [askAll]

/-- A node in a row: its four cells, and all below it. -/
def C4 (w : World) (b o : Nat) (x : Nd) (A : Option Addr) (c : Nat) : Prop :=
  w.cell? ⟨b, o, none⟩ = some (.int .i64 x.kind) ∧ w.cell? ⟨b, o + 1, none⟩ = some (.string x.text) ∧ w.cell? ⟨b, o + 2, none⟩ = some (.slice A x.kids.length c) ∧ w.cell? ⟨b, o + 3, none⟩ = some (.int .i64 x.pos) ∧
    NodeW w (.agg #[.int .i64 x.kind, .string x.text, .slice A x.kids.length c, .int .i64 x.pos]) x
theorem C4.below {w w' : World} {b o : Nat} {x : Nd} {A : Option Addr} {c : Nat} (h : C4 w b o x A c) (hb : Below w.heap.size w w') : C4 w' b o x A c := by
  obtain ⟨h0, h1, h2, h3, hn⟩ := h
  exact ⟨(hb.cell (World.block_lt_of_cell? w _ h0)).trans h0, (hb.cell (World.block_lt_of_cell? w _ h1)).trans h1, (hb.cell (World.block_lt_of_cell? w _ h2)).trans h2, (hb.cell (World.block_lt_of_cell? w _ h3)).trans h3, NodeV.below hn hb⟩
theorem kid_at {w : World} {A : Option Addr} {k p : Int} {t : ByteArray} {m cp : Nat} {n : Nd} (h : NodeW w (.agg #[.int .i64 k, .string t, .slice A m cp, .int .i64 p]) n) (i : Nat) (hi : i < n.kids.length) :
    ∃ b off A1 cp1, A = some ⟨b, off, none⟩ ∧ C4 w b (off + i * 4) n.kids[i] A1 cp1 := by
  obtain ⟨b, off, A1, cp1, e, _, _, h0, h1, h2, h3, h4⟩ := (NodeV.kidsV h).kid i hi
  exact ⟨b, off, A1, cp1, e, h0, h1, h2, h3, h4⟩
theorem DLe.kid' {g : Nat} {n k : Nd} (h : DLe g n) (hk : k ∈ n.kids) : DLe g k := by
  cases g with
  | zero => exact h.elim
  | succ g => exact (h.kid hk).succ

/-- Which names: any, or none at all. -/
def namesT (b : Bool) : ByteArray → Bool := if b then nameT else noText

set_option maxRecDepth 100000 in
set_option maxHeartbeats 8000000 in
theorem usig_any (d : Nat) (HT : RefC d 18 (tfns d).typ) (names : Bool) (v : Value) (n : Nd) (w : World) (hv : NodeW w v n) (hd : DLe (d + 1) n) :
    Calls Tryz.prog 21 #[v, .bool names] w fun e w' => e = .returned (.bool (sigT (tfns d) (namesT names) n)) ∧ Below w.heap.size w w' := by
  obtain ⟨A, cp, rfl, hC⟩ := hv.toC
  have HR := Lib.hid (sigT_eq (tfns d) (namesT names) n)
  have hB := (Below.refl w.heap.size w).alloc (Nat.le_refl _) (.cells #[.int .i64 n.kind, .string n.text, .slice A n.kids.length cp, .int .i64 n.pos] 24)
  have HV := Lib.hid hv
  have HD := Lib.hid hd
  have HTT := Lib.hid HT
  have hlen := hd.1.1
  clear hv hC hd HT
  obtain ⟨nk, nt, nl, np⟩ := n
  simp only [Nd.kind_mk, Nd.text_mk, Nd.kids_mk, Nd.pos_mk] at *
  by_cases h1 : nk = 12
  rotate_left
  · have hne : (nk != 12) = true := by simpa using h1
    have HX := Lib.hid (show sigT (tfns d) (namesT names) (.mk nk nt nl np) = false by rw [HR.out]; simp [h1])
    clear HR h1
    go_enter Tryz.func21, Tryz.ntmps21
    go_wp2_with fail
    go_ret
    exact ⟨by rw [HX.out]; rfl, hB⟩
  subst h1
  by_cases h2 : nt = ⟨#[]⟩
  rotate_left
  · have hne : nt.toList.isEmpty = false := by rw [isEmpty_dec]; simpa using h2
    have HX := Lib.hid (show sigT (tfns d) (namesT names) (.mk 12 nt nl np) = false by rw [HR.out]; simp [h2])
    clear HR h2
    go_enter Tryz.func21, Tryz.ntmps21
    go_wp2_with fail
    go_ret
    exact ⟨by rw [HX.out]; rfl, hB⟩
  subst h2
  by_cases h3 : nl.length = 2
  rotate_left
  · have hne : ((nl.length : Int) != 2) = true := by simp; omega
    have HX := Lib.hid (show sigT (tfns d) (namesT names) (.mk 12 ⟨#[]⟩ nl np) = false by
      rw [HR.out]
      rcases nl with _ | ⟨a, _ | ⟨b, _ | ⟨c, l⟩⟩⟩
      · simp
      · simp
      · exact absurd rfl h3
      · simp)
    clear HR h3
    generalize nl.length = m at *
    go_enter Tryz.func21, Tryz.ntmps21
    go_wp2_with fail
    go_ret
    exact ⟨by rw [HX.out]; rfl, hB⟩
  obtain ⟨a, b, rfl⟩ : ∃ a b, nl = [a, b] := by
    rcases nl with _ | ⟨a, _ | ⟨b, _ | ⟨c, l⟩⟩⟩
    · simp at h3
    · simp at h3
    · exact ⟨a, b, rfl⟩
    · simp at h3
  clear h3
  have HDa := Lib.hid (show DLe d a from HD.out.kid (k := a) (by simp))
  have HDb := Lib.hid (show DLe d b from HD.out.kid (k := b) (by simp))
  have hB : Below w.heap.size w (w.alloc (.cells #[.int .i64 12, .string ⟨#[]⟩, .slice A 2 cp, .int .i64 np] 24)) := hB
  have HV1 : NodeW w (.agg #[.int .i64 12, .string ⟨#[]⟩, .slice A 2 cp, .int .i64 np]) (.mk 12 ⟨#[]⟩ [a, b] np) := HV.out
  have hBn : Blk (w.alloc (.cells #[.int .i64 12, .string ⟨#[]⟩, .slice A 2 cp, .int .i64 np] 24)) w.heap.size 24 #[.int .i64 12, .string ⟨#[]⟩, .slice A 2 cp, .int .i64 np] := Blk.new w _ _
  obtain ⟨bk, off, A0, c0, rfl, ha⟩ := kid_at HV1 0 (by simp)
  obtain ⟨bk', off', A1, c1, e, hb⟩ := kid_at HV1 1 (by simp)
  injection e with e
  injection e with e1 e2
  subst e1 e2
  simp only [Nd.kids_mk, List.getElem_cons_zero, List.getElem_cons_succ, Nat.zero_mul, Nat.add_zero, Nat.one_mul] at ha hb
  have HCA := Lib.hid ha
  have HCB := Lib.hid hb
  obtain ⟨a0, a1, a2, a3, -⟩ := ha.below hB
  obtain ⟨b0, b1, b2, b3, -⟩ := hb.below hB
  clear HV HV1 HD ha hb
  obtain ⟨ak, atx, al, ap⟩ := a
  simp only [Nd.kind_mk, Nd.text_mk, Nd.kids_mk, Nd.pos_mk] at *
  by_cases h4 : ak = 6
  rotate_left
  · have hne : (ak != 6) = true := by simpa using h4
    have HX := Lib.hid (show sigT (tfns d) (namesT names) (.mk 12 ⟨#[]⟩ [.mk ak atx al ap, b] np) = false by rw [HR.out]; simp [h4])
    clear HR h4
    go_enter Tryz.func21, Tryz.ntmps21
    go_wp2_with fail
    go_ret
    exact ⟨by rw [HX.out]; rfl, hB⟩
  subst h4
  by_cases h5 : atx = ⟨#[]⟩
  rotate_left
  · have hne : atx.toList.isEmpty = false := by rw [isEmpty_dec]; simpa using h5
    have HX := Lib.hid (show sigT (tfns d) (namesT names) (.mk 12 ⟨#[]⟩ [.mk 6 atx al ap, b] np) = false by rw [HR.out]; simp [h5])
    clear HR h5
    go_enter Tryz.func21, Tryz.ntmps21
    go_wp2_with fail
    go_ret
    exact ⟨by rw [HX.out]; rfl, hB⟩
  subst h5
  have HNO := Lib.hid (fun w' (h : C4 w' bk (off + 4) b A1 c1) => nothing_any _ b w' h.2.2.2.2)
  have HTB := Lib.hid (fun w' (h : C4 w' bk (off + 4) b A1 c1) => HTT.out _ b w' h.2.2.2.2 HDb.out)
  by_cases h6 : (emptyT b || (tfns d).typ b) = true
  rotate_left
  · have HX := Lib.hid (show sigT (tfns d) (namesT names) (.mk 12 ⟨#[]⟩ [.mk 6 ⟨#[]⟩ al ap, b] np) = false by
      rw [Bool.not_eq_true] at h6
      rw [HR.out]
      simp [h6])
    simp only [Bool.or_eq_true, not_or, Bool.not_eq_true] at h6
    obtain ⟨g1, g2⟩ := h6
    rw [g1] at HNO
    rw [g2] at HTB
    clear HR g1 g2
    go_enter Tryz.func21, Tryz.ntmps21
    go_wp2_with fail
    refine (HNO.out _ (HCB.out.below hB)).mono ?_
    rintro e w1 ⟨rfl, hb1⟩
    have hB1 := hB.trans (hb1.mono hB.size)
    have HC1 := Lib.hid (HCB.out.below hB1)
    have hBn1 := hBn.below hb1 hBn.lt
    clear a0 a1 a2 a3 b0 b1 b2 b3
    obtain ⟨x0, x1, x2, x3, -, -, -, -⟩ := blk4 hBn1
    obtain ⟨b0, b1, b2, b3, -⟩ := HC1.out
    go_wp2_with fail
    refine (HTB.out _ HC1.out).mono ?_
    rintro e w2 ⟨rfl, hb2⟩
    go_wp2_with fail
    go_ret
    exact ⟨by rw [HX.out]; rfl, hB1.trans (hb2.mono hB1.size)⟩
  have hlal : al.length ≤ 1000000000 := HDa.out.len
  have HALL := Lib.hid (show sigT (tfns d) (namesT names) (.mk 12 ⟨#[]⟩ [.mk 6 ⟨#[]⟩ al ap, b] np) = al.all (paramT (tfns d) (namesT names)) by
    rw [HR.out]
    simp [h6])
  have HDK := Lib.hid (fun (i : Nat) (h : i < al.length) (x : Nd) (hx : x ∈ al[i].kids) => (HDa.out.kid' (k := al[i]) (List.getElem_mem h)).kid' hx)
  clear HR HDa
  cases g1 : emptyT b
  all_goals
    rw [g1] at HNO h6
    first
      | (rw [show (tfns d).typ b = true from by simpa using h6] at HTB)
      | skip
    clear h6 g1
    go_enter Tryz.func21, Tryz.ntmps21
    go_wp2_with fail
    refine (HNO.out _ (HCB.out.below hB)).mono ?_
    rintro e w1 ⟨rfl, hb1⟩
    have hB1 := hB.trans (hb1.mono hB.size)
    have hBn1 := hBn.below hb1 hBn.lt
    clear a0 a1 a2 a3 b0 b1 b2 b3
    obtain ⟨x0, x1, x2, x3, -, -, -, -⟩ := blk4 hBn1
    obtain ⟨b0, b1, b2, b3, -⟩ := HCB.out.below hB1
    obtain ⟨a0, a1, a2, a3, -⟩ := HCA.out.below hB1
    simp only [Nd.kind_mk, Nd.text_mk, Nd.kids_mk, Nd.pos_mk] at a0 a1 a2 a3
    clear hB hb1 hBn HNO
    go_wp2_with fail
    try
      refine (HTB.out _ (HCB.out.below hB1)).mono ?_
      rintro e w2 ⟨rfl, hb2⟩
      replace hB1 := hB1.trans (hb2.mono hB1.size)
      replace hBn1 := hBn1.below hb2 hBn1.lt
      clear a0 a1 a2 a3 b0 b1 b2 b3 x0 x1 x2 x3
      obtain ⟨x0, x1, x2, x3, -, -, -, -⟩ := blk4 hBn1
      obtain ⟨b0, b1, b2, b3, -⟩ := HCB.out.below hB1
      obtain ⟨a0, a1, a2, a3, -⟩ := HCA.out.below hB1
      simp only [Nd.kind_mk, Nd.text_mk, Nd.kids_mk, Nd.pos_mk] at a0 a1 a2 a3
      go_wp2_with fail
    clear a0 a1 a2 a3 b0 b1 b2 b3 x0 x1 x2 x3 hBn1 HTB HCB
    go_loopg [6] al.length (fun k u6 wr => ∃ i : Nat, i ≤ al.length ∧ al.length - i ≤ k ∧ u6 = .int .i64 (i : Int) ∧ Below w.heap.size w wr ∧ (al.take i).all (paramT (tfns d) (namesT names)) = true)
    case atStart => exact ⟨0, Nat.zero_le _, by omega, rfl, hB1, rfl⟩
    case round =>
      clear hB1
      obtain ⟨i, hi, hk, rfl, hBr, hall⟩ := hrel
      by_cases hlt : i < al.length
      · have hlt2 : (i : Int) < (al.length : Int) := by omega
        have h0 : (0 : Int) ≤ (i : Int) := by omega
        obtain ⟨bp, op, A2, c2, hA0, hp⟩ := kid_at (HCA.out.below hBr).2.2.2.2 i hlt
        simp only [Nd.kids_mk] at hp
        subst hA0
        have HOK := Lib.hid (show paramT (tfns d) (namesT names) al[i] = true → (al.take (i + 1)).all (paramT (tfns d) (namesT names)) = true by
          intro h
          rw [List.take_succ_eq_append_getElem hlt, List.all_append, hall]
          simp [h])
        have HBAD := Lib.hid (show paramT (tfns d) (namesT names) al[i] = false → sigT (tfns d) (namesT names) (.mk 12 ⟨#[]⟩ [.mk 6 ⟨#[]⟩ al ap, b] np) = false by
          intro h
          rw [HALL.out, List.all_eq_false]
          exact ⟨_, List.getElem_mem hlt, by simp [h]⟩)
        have HDX := Lib.hid (HDK.out i hlt)
        rw [paramT_eq] at HOK HBAD
        generalize al[i] = q at *
        obtain ⟨qk, qt, ql, qp⟩ := q
        have HP := Lib.hid hp
        obtain ⟨p0, p1, p2, p3, -⟩ := hp
        simp only [Nd.kind_mk, Nd.text_mk, Nd.kids_mk, Nd.pos_mk] at HOK HBAD HDX p0 p1 p2 p3
        clear hall
        by_cases q1 : qk = 8
        rotate_left
        · have hne : (qk != 8) = true := by simpa using q1
          have HX := Lib.hid (HBAD.out (by simp [q1]))
          clear q1 HOK HBAD
          go_wp2_with fail
          go_ret
          exact ⟨by rw [HX.out]; rfl, hBr⟩
        subst q1
        by_cases q2 : ql.length = 1
        rotate_left
        · have hne : ((ql.length : Int) != 1) = true := by simp; omega
          have HX := Lib.hid (HBAD.out (by
            rcases ql with _ | ⟨x, _ | ⟨y, l⟩⟩
            · simp
            · exact absurd rfl q2
            · simp))
          clear q2 HOK HBAD
          go_wp2_with fail
          go_ret
          exact ⟨by rw [HX.out]; rfl, hBr⟩
        obtain ⟨x, rfl⟩ : ∃ x, ql = [x] := by
          rcases ql with _ | ⟨x, _ | ⟨y, l⟩⟩
          · simp at q2
          · exact ⟨x, rfl⟩
          · simp at q2
        clear q2
        obtain ⟨bx, ox, A3, c3, hA2, hx⟩ := kid_at HP.out.2.2.2.2 0 (by simp)
        simp only [Nd.kids_mk, List.getElem_cons_zero, Nat.zero_mul, Nat.add_zero] at hx
        subst hA2
        obtain ⟨y0, y1, y2, y3, hxn⟩ := hx
        have HTX := Lib.hid (HTT.out _ x wr hxn (HDX.out x (by simp)))
        simp only at HOK HBAD
        clear hxn
        cases q3 : (tfns d).typ x with
        | false =>
          have HX := Lib.hid (HBAD.out (by simp [q3]))
          rw [q3] at HTX
          clear q3 HOK HBAD
          go_wp2_with fail
          refine (HTX.out).mono ?_
          rintro e w3 ⟨rfl, hb3⟩
          go_wp2_with fail
          go_ret
          exact ⟨by rw [HX.out]; rfl, hBr.trans (hb3.mono hBr.size)⟩
        | true =>
          rw [q3] at HTX HOK HBAD
          clear q3
          cases names with
          | true =>
            cases q4 : nameT qt with
            | true =>
              have HX := Lib.hid (HOK.out (by simp [namesT, q4]))
              clear HOK HBAD
              go_wp2_with fail
              refine (HTX.out).mono ?_
              rintro e w3 ⟨rfl, hb3⟩
              have hB3 := hBr.trans (hb3.mono hBr.size)
              clear p0 p1 p2 p3 y0 y1 y2 y3 HTX
              obtain ⟨p0, p1, p2, p3, -⟩ := HP.out.below hb3
              simp only [Nd.kind_mk, Nd.text_mk, Nd.pos_mk] at p0 p1 p3
              go_wp2_with fail
              refine (uname_any _ _).mono ?_
              rw [q4]
              rintro e w4 ⟨rfl, hb4⟩
              go_wp2_with fail
              go_roundg (al.length - (i + 1))
              case measure => omega
              case rel => exact ⟨i + 1, by omega, Nat.le_refl _, by go_num, hB3.trans (hb4.mono hB3.size), HX.out⟩
            | false =>
              have HX := Lib.hid (HBAD.out (by simp [namesT, q4]))
              clear HOK HBAD
              go_wp2_with fail
              refine (HTX.out).mono ?_
              rintro e w3 ⟨rfl, hb3⟩
              have hB3 := hBr.trans (hb3.mono hBr.size)
              clear p0 p1 p2 p3 y0 y1 y2 y3 HTX
              obtain ⟨p0, p1, p2, p3, -⟩ := HP.out.below hb3
              simp only [Nd.kind_mk, Nd.text_mk, Nd.pos_mk] at p0 p1 p3
              go_wp2_with fail
              refine (uname_any _ _).mono ?_
              rw [q4]
              rintro e w4 ⟨rfl, hb4⟩
              go_wp2_with fail
              go_ret
              exact ⟨by rw [HX.out]; rfl, hB3.trans (hb4.mono hB3.size)⟩
          | false =>
            by_cases q4 : qt = ⟨#[]⟩
            · subst q4
              have HX := Lib.hid (HOK.out (by simp [namesT, noText]))
              clear HOK HBAD
              go_wp2_with fail
              refine (HTX.out).mono ?_
              rintro e w3 ⟨rfl, hb3⟩
              have hB3 := hBr.trans (hb3.mono hBr.size)
              clear p0 p1 p2 p3 y0 y1 y2 y3 HTX
              obtain ⟨p0, p1, p2, p3, -⟩ := HP.out.below hb3
              simp only [Nd.kind_mk, Nd.text_mk, Nd.pos_mk] at p0 p1 p3
              go_wp2_with fail
              go_roundg (al.length - (i + 1))
              case measure => omega
              case rel => exact ⟨i + 1, by omega, Nat.le_refl _, by go_num, hB3, HX.out⟩
            · have hne : qt.toList.isEmpty = false := by rw [isEmpty_dec]; simpa using q4
              have HX := Lib.hid (HBAD.out (by simp [namesT, noText, q4]))
              clear HOK HBAD q4
              go_wp2_with fail
              refine (HTX.out).mono ?_
              rintro e w3 ⟨rfl, hb3⟩
              have hB3 := hBr.trans (hb3.mono hBr.size)
              clear p0 p1 p2 p3 y0 y1 y2 y3 HTX
              obtain ⟨p0, p1, p2, p3, -⟩ := HP.out.below hb3
              simp only [Nd.kind_mk, Nd.text_mk, Nd.pos_mk] at p0 p1 p3
              go_wp2_with fail
              go_ret
              exact ⟨by rw [HX.out]; rfl, hB3⟩
      · have hlt2 : ¬ (i : Int) < (al.length : Int) := by omega
        have HX := Lib.hid (show sigT (tfns d) (namesT names) (.mk 12 ⟨#[]⟩ [.mk 6 ⟨#[]⟩ al ap, b] np) = true by
          rw [HALL.out, ← hall, List.take_of_length_le (by omega)])
        clear hall
        go_wp2_with fail
        go_ret
        exact ⟨by rw [HX.out]; rfl, hBr⟩
end Go.Proofs.YtnalfjaojcahhaaGreatDoor
namespace Go.Proofs.YtnalfjaojcahhaaGreatDoor
open Go.RowKit Go.Lib Go.Proofs
attribute [local go_sem ↓] Go.wp_at_zero Go.wp_at_succ

/-- A row of the call's own, of nodes that hang below X. -/
def OwnA (X B : Nat) (w : World) (v : Value) (l : List Nd) : Prop := ∃ xs, w.ownsRow B 24 4 v l.length xs ∧ NodesC (fun b => b < X) w l xs
section
variable {X B : Nat} {w w' : World} {v : Value} {l : List Nd}
theorem OwnA.nil (X B : Nat) (w : World) : OwnA X B w (.slice none 0 0) [] := ⟨[], World.ownsRow_nil _ _ _ _, NodesC.nil⟩
theorem OwnA.below (h : OwnA X B w v l) (hb : Below w.heap.size w w') : OwnA X B w' v l := by
  obtain ⟨xs, h1, h2⟩ := h
  refine ⟨xs, ⟨h1.1, ?_⟩, h2.keep fun b _ hlt => hb.block b hlt⟩
  rcases h1.2 with h0 | ⟨g, cap, cur, e, hg, hh, r⟩
  · exact .inl h0
  · refine .inr ⟨g, cap, cur, e, hg, ?_, r⟩
    have hlt : g < w.heap.size := by
      rcases Nat.lt_or_ge g w.heap.size with hlt | hge
      · exact hlt
      · rw [Array.getElem?_eq_none hge] at hh; cases hh
    exact (hb.block g hlt).trans hh
theorem OwnA.lt (h : OwnA X B w v l) : ∀ g, v.ownBlock = some g → B ≤ g ∧ g < w.heap.size := by
  obtain ⟨xs, h1, _⟩ := h
  exact fun g hg => h1.lt g hg
theorem OwnA.less {B' : Nat} (h : OwnA X B w v l) (hB : B' ≤ B) : OwnA X B' w v l := by
  obtain ⟨xs, h1, h2⟩ := h
  exact ⟨xs, own_less h1 hB, h2⟩
theorem OwnA.values (h : OwnA X B w v l) : NodesV (fun _ => True) w v l := by
  obtain ⟨xs, h1, h2⟩ := h
  rcases h1.2 with ⟨rfl, h0⟩ | ⟨g, cap, cur, rfl, hg, hh, hnc, _, hsz, ht⟩
  · exact ⟨none, 0, xs, by rw [h0], by omega, ⟨h1.1, fun h => by omega⟩, h2.mono fun _ _ _ => trivial⟩
  · refine ⟨_, cap, xs, rfl, hnc, ⟨h1.1, fun _ => ⟨g, 0, rfl, trivial, fun j u hu => ?_⟩⟩, h2.mono fun _ _ _ => trivial⟩
    have hj : j < l.length * 4 := by have := (List.getElem?_eq_some_iff.1 hu).1; rw [h1.1] at this; exact this
    rw [Nat.zero_add]
    unfold World.cell?
    rw [hh]
    simp only [Option.isSome_none, Bool.false_eq_true, if_false]
    rw [← ht, List.getElem?_take_of_lt hj] at hu
    rw [← hu]; simp
theorem OwnA.form (h : OwnA X B w v l) : ∃ A c, v = .slice A l.length c ∧ l.length ≤ c := by
  obtain ⟨A, c, xs, e, h1, _⟩ := h.values
  exact ⟨A, c, e, h1⟩
/-- A block of one node is a row. -/
theorem OwnA.one {K : Nat} {n : Nd} {a b c d : Value} (hb : Blk w K 24 #[a, b, c, d]) (hBK : B ≤ K) (hC : NodeC (fun b => b < X) w n [a, b, c, d]) : OwnA X B w (.slice (some ⟨K, 0, none⟩) 1 1) [n] :=
  ⟨[a, b, c, d], ⟨rfl, .inr ⟨K, 1, #[a, b, c, d], rfl, hBK, hb, Nat.le_refl _, by unfold maxLen; omega, rfl, rfl⟩⟩, NodesC.one hC⟩
end
theorem nodesC_one {X : Nat → Prop} {w : World} : ∀ {l : List Nd} {xs : List Value}, NodesC X w l xs → ∀ u ∈ xs, u.oneCell' = true
  | [], xs, h => by unfold NodesC at h; subst h; simp
  | n :: l, xs, h => by
    unfold NodesC at h
    obtain ⟨ys, zs, rfl, h1, h2⟩ := h
    obtain ⟨A, cap, _, rfl, _⟩ := h1.toV
    intro u hu
    rcases List.mem_append.1 hu with hu | hu
    · exact one_node n A cap u hu
    · exact nodesC_one h2 u hu
/-- A row of nodes is appended. -/
theorem wpList_appA {ops : Array Oper} {rest : List Oper} {o : Oper} {a : Act} {Q : Exit → Act → World → Prop} (hgd : o.guard = none) (s x : Operand)
    (ho : o.op = .call { callee := .builtin .append, args := #[s, x], argTypes := #[22, 22] })
    (X B B1 : Nat) (w1 : World) (u v : Value) (l m : List Nd) (hs : a.eval s = u) (hx : a.eval x = v)
    (hO : OwnA X B w1 u l) (hV : OwnA X B1 w1 v m) (hXB : X ≤ B) (hB : B ≤ w1.heap.size) (hl : l.length + m.length ≤ 1000000)
    (h : ∀ v' w2, OwnA X B w2 v' (l ++ m) → Below B w1 w2 → wpList Tryz.prog ops Q rest (a.put o.dst v') w2) :
    wpList Tryz.prog ops Q (o :: rest) a w1 := by
  obtain ⟨i0, hi, hz0, hz1, hz2⟩ := info_parts infoNd
  obtain ⟨A, c, rfl, _⟩ := hV.form
  obtain ⟨xs, h1, h2⟩ := hO
  obtain ⟨ys, h3, h4⟩ := hV
  refine wpList_append_any w1 hgd s x 22 ho B 24 i0 _ 4 56 Tryz.underlying22 hi hz0 hz1 hz2 rfl (by omega) u l.length xs hs h1 w1.heap.size A m.length c ys hx (Reads.of_own h3) (nodesC_one h4) (by unfold maxLen; omega) (by omega) hB ?_
  intro v' w2 hown1 hg _
  have hk : ∀ b, b < X → b < w1.heap.size → w2.heap[b]? = w1.heap[b]? := fun b hb hlt => hg.block b hlt (fun e => by have := (h1.lt b e.symm).1; omega)
  refine h v' w2 ⟨xs ++ ys, ?_, (h2.keep hk).app (h4.keep hk)⟩ (grownBy_of_row hg (fun g hg => (h1.lt g hg).1) hB)
  rw [List.length_append]
  exact hown1

set_option maxRecDepth 100000 in
set_option maxHeartbeats 4000000 in
theorem uall_any (X : Nat) : ∀ (d : Nat) (v : Value) (n : Nd) (w : World), d ≤ 1000 → NodeV (fun b => b < X) w v n → X ≤ w.heap.size → Wee d n → (lefts d n).length ≤ 400000 →
    Calls Tryz.prog 12 #[v, .int .i64 (d : Int)] w fun e w' => (∃ v', e = .returned v' ∧ OwnA X w.heap.size w' v' (allT d n)) ∧ Below w.heap.size w w' := by
  intro d
  induction d with
  | zero =>
    intro v n w _ hv _ _ _
    obtain ⟨A, cp, rfl, hC⟩ := hv.toC
    clear hv hC
    have hB := (Below.refl w.heap.size w).alloc (Nat.le_refl _) (.cells #[.int .i64 n.kind, .string n.text, .slice A n.kids.length cp, .int .i64 n.pos] 24)
    go_enter Tryz.func12, Tryz.ntmps12
    go_wp2_with fail
    go_ret
    exact ⟨⟨_, rfl, OwnA.nil _ _ _⟩, hB⟩
  | succ d ih =>
    intro v n w hd hv hX hw hN
    have HV := Lib.hid hv
    have HW := Lib.hid hw
    have HI := Lib.hid ih
    have HN := Lib.hid hN
    have hlk := hw.1.1
    obtain ⟨A, cp, rfl, hC⟩ := hv.toC
    clear hv hw ih hN
    have hB := (Below.refl w.heap.size w).alloc (Nat.le_refl _) (.cells #[.int .i64 n.kind, .string n.text, .slice A n.kids.length cp, .int .i64 n.pos] 24)
    have b1 : Blk (w.alloc (.cells #[.int .i64 n.kind, .string n.text, .slice A n.kids.length cp, .int .i64 n.pos] 24)) w.heap.size 24 #[.int .i64 n.kind, .string n.text, .slice A n.kids.length cp, .int .i64 n.pos] := Blk.new w _ _
    have hz : ((d : Int) + 1 == 0) = false := by simp; omega
    have HT := Lib.hid (show allT (d + 1) n = n :: n.kids.flatMap (allT d) from rfl)
    have HC := Lib.hid hC
    clear hC
    go_enter Tryz.func12, Tryz.ntmps12
    go_wp2_with fail
    have hO0 : OwnA X (w.heap.size + 1) ((w.alloc (.cells #[.int .i64 n.kind, .string n.text, .slice A n.kids.length cp, .int .i64 n.pos] 24)).alloc (.cells #[.int .i64 n.kind, .string n.text, .slice A n.kids.length cp, .int .i64 n.pos] 24)) (.slice (some ⟨w.heap.size + 1, 0, none⟩) 1 1) [n] :=
      OwnA.one (Blk.new_at (by simp) _ _) (Nat.le_refl _) ((HC.out.keep (fun b _ hlt => Below.heap_alloc w _ b hlt)).keep (fun b _ hlt => Below.heap_alloc _ _ b hlt))
    have hB0 := hB.alloc (by simp) (.cells #[.int .i64 n.kind, .string n.text, .slice A n.kids.length cp, .int .i64 n.pos] 24)
    have b0 := b1.alloc (.cells #[.int .i64 n.kind, .string n.text, .slice A n.kids.length cp, .int .i64 n.pos] 24)
    go_loopg [5, 6] n.kids.length (fun g1 u5 u6 wr => ∃ i : Nat, i ≤ n.kids.length ∧ n.kids.length - i ≤ g1 ∧ u6 = .int .i64 (i : Int) ∧ OwnA X (w.heap.size + 1) wr u5 (n :: (n.kids.take i).flatMap (allT d)) ∧ Below w.heap.size w wr ∧ Blk wr w.heap.size 24 #[.int .i64 n.kind, .string n.text, .slice A n.kids.length cp, .int .i64 n.pos])
    case atStart => exact ⟨0, Nat.zero_le _, by omega, rfl, by simpa using hO0, hB0, b0⟩
    case round =>
      clear hB b1 hO0 hB0 b0
      obtain ⟨i, hi, hg, rfl, hO, hB, b1⟩ := hrel
      have HO := Lib.hid hO
      clear hO
      obtain ⟨x0, x1, x2, x3, -, -, -, -⟩ := blk4 b1
      by_cases hlt : i < n.kids.length
      · have hlt2 : (i : Int) < (n.kids.length : Int) := by omega
        have h0 : (0 : Int) ≤ (i : Int) := by omega
        obtain ⟨b, off, A1, cp1, rfl, -, hbl, k0, k1, k2, k3, hkn⟩ := (HV.out.below hB).kidsV.kid i hlt
        have hmem := List.getElem_mem hlt
        have HM := Lib.hid (HW.out.2 _ hmem)
        have HTK := Lib.hid (show n :: (n.kids.take (i + 1)).flatMap (allT d) = (n :: (n.kids.take i).flatMap (allT d)) ++ allT d n.kids[i] by rw [List.take_succ_eq_append_getElem hlt, List.flatMap_append]; simp)
        have hle : ((n.kids.take i).flatMap (lefts d)).length + (lefts d n.kids[i]).length ≤ (n.kids.flatMap (lefts d)).length := by
          conv => rhs; rw [← List.take_append_drop (i + 1) n.kids, List.flatMap_append, List.take_succ_eq_append_getElem hlt, List.flatMap_append]
          simp
        have hle2 : ((n.kids.take i).flatMap (allT d)).length = ((n.kids.take i).flatMap (lefts d)).length := by
          rw [List.length_flatMap, List.length_flatMap]
          congr 1
          exact List.map_congr_left fun k _ => allT_len d k
        clear hmem
        generalize n.kids[i] = x at *
        have hle3 := allT_len d x
        have hNN := HN.out
        rw [lefts, List.length_cons] at hNN
        have HLE := Lib.hid (show (n :: (n.kids.take i).flatMap (allT d)).length + (allT d x).length ≤ 1000000 by rw [List.length_cons]; omega)
        have HC2 := Lib.hid (HI.out _ x wr (by omega) hkn (Nat.le_trans hX hB.size) HM.out (by omega))
        generalize (n :: (n.kids.take i).flatMap (allT d)) = acc at *
        clear hkn hle hle2 hle3 hNN HM
        go_wp2_with fail
        refine HC2.out.mono ?_
        rintro e w2 ⟨⟨v2, rfl, hv2⟩, hb2⟩
        have HO2 := Lib.hid (HO.out.below hb2)
        have HV2 := Lib.hid hv2
        have HB2 := hB.trans (hb2.mono hB.size)
        have b2 := b1.below hb2 b1.lt
        have hlt9 := b2.lt
        clear hb2 hv2 HC2 HO k0 k1 k2 k3 x0 x1 x2 x3 b1
        go_wp2_with (at_builtin; refine wpList_appA rfl (.tmp 18) (.tmp 26) rfl X (w.heap.size + 1) _ _ _ _ _ _ rfl rfl HO2.out HV2.out (by omega) (by omega) HLE.out ?_; intro v3 w3 hO3 hB3)
        have HO3 := Lib.hid hO3
        have b3 := b2.below hB3 (Nat.lt_succ_self _)
        clear hO3 b2
        go_roundg (n.kids.length - (i + 1))
        case measure => omega
        case rel => exact ⟨i + 1, by omega, by omega, by go_num, by rw [HTK.out]; exact HO3.out, HB2.trans (hB3.mono (Nat.le_succ _)), b3⟩
      · have hlt2 : ¬ (i : Int) < (n.kids.length : Int) := by omega
        have ht : n.kids.take i = n.kids := List.take_of_length_le (by omega)
        rw [ht, ← HT.out] at HO
        clear ht
        go_wp2_with fail
        go_ret
        exact ⟨⟨_, rfl, HO.out.less (Nat.le_succ _)⟩, hB⟩
end Go.Proofs.YtnalfjaojcahhaaGreatDoor
