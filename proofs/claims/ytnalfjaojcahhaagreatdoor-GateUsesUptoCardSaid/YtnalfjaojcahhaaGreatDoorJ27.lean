/-
  demoticref06.inter. By an AI agent.
  demoticref06.fields. By an AI agent.
  demoticref06.params. By an AI agent.
  demoticref06.block, exprs. By an AI agent.
-/
import Derived.Test.YtnalfjaojcahhaaGreatDoorJ26
namespace Go.Proofs.YtnalfjaojcahhaaGreatDoor
open Go.RowKit Go.Lib Go.Proofs
attribute [local go_sem ↓] Go.wp_at_zero Go.wp_at_succ

theorem named1_eq (k : Int) (f : Nd → Bool) (so : ByteArray → Bool) (p : Nd) : ofT k [f] (namedT so p) = (decide (p.kind = k) && (oneT f p.kids && so p.text)) := by
  obtain ⟨j, t, l, a⟩ := p
  rw [show namedT so (.mk j t l a) = if so t = true then .mk j (⟨#[]⟩ : ByteArray) l a else .mk 37 (⟨#[]⟩ : ByteArray) [] 0 from rfl]
  by_cases hs : so t = true
  · rw [if_pos hs, of1_eq]
    simp [hs]
    rfl
  · rw [if_neg hs, of1_eq]
    rw [Bool.not_eq_true] at hs
    simp [hs, oneT]
theorem termT_eq (F : TFns) (p : Nd) : termT F p = (decide (p.kind = 15) && (oneT F.typ p.kids && tildeT p.text)) := named1_eq 15 _ _ _
theorem fieldT_eq (F : TFns) (p : Nd) : fieldT F p = (decide (p.kind = 9) && (oneT F.typ p.kids && nameT p.text)) := named1_eq 9 _ _ _
theorem tparamT_eq (F : TFns) (p : Nd) : tparamT F p = (decide (p.kind = 7) && (oneT (orT (named1T F) (interT F)) p.kids && nameT p.text)) := named1_eq 7 _ _ _

set_option maxRecDepth 100000 in
set_option maxHeartbeats 8000000 in
theorem uinter_any (d : Nat) (hT : RefC d 18 (tfns d).typ) : ∀ (v : Value) (n : Nd) (w : World), NodeW w v n → DLe (d + 1) n → Calls Tryz.prog 39 #[v] w fun e w' => e = .returned (.bool (interT (tfns d) n)) ∧ Below w.heap.size w w' := by
  intro v n w hv hd
  have HV := Lib.hid hv
  have HD := Lib.hid hd
  have hlen := hd.1.1
  obtain ⟨A, cp, rfl, hC⟩ := hv.toC
  have hB := (Below.refl w.heap.size w).alloc (Nat.le_refl _) (.cells #[.int .i64 n.kind, .string n.text, .slice A n.kids.length cp, .int .i64 n.pos] 24)
  have hBn : Blk (w.alloc (.cells #[.int .i64 n.kind, .string n.text, .slice A n.kids.length cp, .int .i64 n.pos] 24)) w.heap.size 24 #[.int .i64 n.kind, .string n.text, .slice A n.kids.length cp, .int .i64 n.pos] := Blk.new w _ _
  have H0 := Lib.hid hT
  clear hv hC hd hT
  generalize tfns d = F at *
  obtain ⟨nk, nt, nl, np⟩ := n
  simp only [Nd.kind_mk, Nd.text_mk, Nd.kids_mk, Nd.pos_mk] at *
  by_cases h1 : nk = 14
  rotate_left
  · have hne : (nk != 14) = true := by simpa using h1
    have HX := Lib.hid (show interT F (.mk nk nt nl np) = false by simp [interT, h1])
    clear h1
    go_enter Tryz.func39, Tryz.ntmps39
    go_wp2_with fail
    go_ret
    exact ⟨by rw [HX.out]; rfl, hB⟩
  subst h1
  by_cases h2 : nt = ⟨#[]⟩
  rotate_left
  · have hne : nt.toList.isEmpty = false := by rw [isEmpty_dec]; simpa using h2
    have HX := Lib.hid (show interT F (.mk 14 nt nl np) = false by simp [interT, h2])
    clear h2
    go_enter Tryz.func39, Tryz.ntmps39
    go_wp2_with fail
    go_ret
    exact ⟨by rw [HX.out]; rfl, hB⟩
  subst h2
  by_cases h3 : nl.length = 0
  · have hne : ((nl.length : Int) == 0) = true := by rw [beq_iff_eq]; omega
    have HX := Lib.hid (show interT F (.mk 14 ⟨#[]⟩ nl np) = false by simp [interT, h3])
    clear h3
    generalize nl.length = m at *
    go_enter Tryz.func39, Tryz.ntmps39
    go_wp2_with fail
    go_ret
    exact ⟨by rw [HX.out]; rfl, hB⟩
  have hne : ((nl.length : Int) == 0) = false := by rw [beq_eq_false_iff_ne]; omega
  have HALL := Lib.hid (show interT F (.mk 14 ⟨#[]⟩ nl np) = nl.all (termT F) by simp [interT, Nat.pos_of_ne_zero h3])
  clear h3
  go_enter Tryz.func39, Tryz.ntmps39
  go_wp2_with fail
  go_loopg [3, 4] nl.length (fun k u3 _ wr => ∃ i : Nat, i ≤ nl.length ∧ nl.length - i ≤ k ∧ u3 = .int .i64 (i : Int) ∧ Below w.heap.size w wr ∧ Blk wr w.heap.size 24 #[.int .i64 14, .string ⟨#[]⟩, .slice A nl.length cp, .int .i64 np] ∧ (nl.take i).all (termT F) = true)
  case atStart => exact ⟨0, Nat.zero_le _, by omega, rfl, hB, hBn, rfl⟩
  case round =>
    clear hB hBn hne
    obtain ⟨i, hi, hk, rfl, hBr, hBn, hall⟩ := hrel
    obtain ⟨x0, x1, x2, x3, -, -, -, -⟩ := blk4 hBn
    by_cases hlt : i < nl.length
    · have hlt2 : (i : Int) < (nl.length : Int) := by omega
      have h0 : (0 : Int) ≤ (i : Int) := by omega
      obtain ⟨bp, op, A2, c2, hA0, hp⟩ := kid_at (NodeV.below HV.out hBr) i hlt
      simp only [Nd.kids_mk] at hp
      subst hA0
      have HOK := Lib.hid (show termT F nl[i] = true → (nl.take (i + 1)).all (termT F) = true by
        intro h
        rw [List.take_succ_eq_append_getElem hlt, List.all_append, hall]
        simp [h])
      have HBAD := Lib.hid (show termT F nl[i] = false → interT F (.mk 14 ⟨#[]⟩ nl np) = false by
        intro h
        rw [HALL.out, List.all_eq_false]
        exact ⟨_, List.getElem_mem hlt, by simp [h]⟩)
      have HDQ := Lib.hid (HD.out.kid (k := nl[i]) (List.getElem_mem hlt))
      rw [termT_eq] at HOK HBAD
      generalize nl[i] = q at *
      obtain ⟨qk, qt, ql, qp⟩ := q
      obtain ⟨p0, p1, p2, p3, hpn⟩ := hp
      simp only [Nd.kind_mk, Nd.text_mk, Nd.kids_mk, Nd.pos_mk] at HOK HBAD p0 p1 p2 p3 hpn
      have HPN := Lib.hid hpn
      have hBr1 := hBr.alloc hBr.size (.cells #[.int .i64 qk, .string qt, .slice A2 ql.length c2, .int .i64 qp] 24)
      have hbox := Blk.new wr 24 #[.int .i64 qk, .string qt, .slice A2 ql.length c2, .int .i64 qp]
      have hgr := (Below.refl wr.heap.size wr).alloc (Nat.le_refl _) (.cells #[.int .i64 qk, .string qt, .slice A2 ql.length c2, .int .i64 qp] 24)
      clear hall hpn
      by_cases q1 : qk = 15
      rotate_left
      · have hne : (qk != 15) = true := by simpa using q1
        have HX := Lib.hid (HBAD.out (by simp [q1]))
        clear q1 HOK HBAD
        go_wp2_with fail
        go_ret
        exact ⟨by rw [HX.out]; rfl, hBr1⟩
      subst q1
      by_cases q2 : tildeT qt = true
      rotate_left
      · have q3 := Bool.eq_false_iff.2 q2
        have e1 : qt.toList.isEmpty = false := by
          unfold tildeT at q3
          rw [isEmpty_dec]
          exact (Bool.or_eq_false_iff.1 q3).1
        have e2 : (qt.toList == [126]) = false := by
          unfold tildeT at q3
          rw [← eq_list qt [126]]
          exact (Bool.or_eq_false_iff.1 q3).2
        have HX := Lib.hid (HBAD.out (by simp [q3]))
        clear q2 q3 HOK HBAD
        go_wp2_with fail
        go_ret
        exact ⟨by rw [HX.out]; rfl, hBr1⟩
      by_cases q3 : ql.length = 1
      rotate_left
      · have hne : ((ql.length : Int) != 1) = true := by simp; omega
        have HX := Lib.hid (HBAD.out (by rw [oneT_ne _ q3]; simp))
        have q2' : qt = ⟨#[]⟩ ∨ qt = ⟨#[126]⟩ := by unfold tildeT at q2; simpa using q2
        clear q2 q3 HOK HBAD
        rcases q2' with rfl | rfl
        all_goals
          go_wp2_with fail
          go_ret
          exact ⟨by rw [HX.out]; rfl, hBr1⟩
      obtain ⟨x, rfl⟩ := one_of q3
      rw [oneT_one] at HOK HBAD
      have HPN1 : NodeW wr (.agg #[.int .i64 15, .string qt, .slice A2 1 c2, .int .i64 qp]) (.mk 15 qt [x] qp) := HPN.out
      have hBr1 : Below w.heap.size w (wr.alloc (.cells #[.int .i64 15, .string qt, .slice A2 1 c2, .int .i64 qp] 24)) := hBr1
      obtain ⟨bx, ox, A3, c3, rfl, hx⟩ := kid_at HPN1 0 (by simp)
      simp only [Nd.kids_mk, List.getElem_cons_zero, Nat.zero_mul, Nat.add_zero] at hx
      obtain ⟨y0, y1, y2, y3, hxn⟩ := hx.below ((Below.refl wr.heap.size wr).alloc (Nat.le_refl _) (.cells #[.int .i64 15, .string qt, .slice (some ⟨bx, ox, none⟩) 1 c2, .int .i64 qp] 24))
      have HTX := Lib.hid (H0.out _ x _ hxn (HDQ.out.kid' (k := x) (by simp)))
      have q2' : qt = ⟨#[]⟩ ∨ qt = ⟨#[126]⟩ := by unfold tildeT at q2; simpa using q2
      clear hx hxn q3 HPN HPN1
      cases q4 : F.typ x with
      | false =>
        have HX := Lib.hid (HBAD.out (by simp [q4]))
        rw [q4] at HTX
        clear q4 q2 HOK HBAD
        rcases q2' with rfl | rfl
        all_goals
          go_wp2_with fail
          refine (HTX.out).mono ?_
          rintro e w3 ⟨rfl, hb3⟩
          go_wp2_with fail
          go_ret
          exact ⟨by rw [HX.out]; rfl, hBr1.trans (hb3.mono hBr1.size)⟩
      | true =>
        have HX := Lib.hid (HOK.out (by simp [q4, q2]))
        rw [q4] at HTX
        clear q4 q2 HOK HBAD
        rcases q2' with rfl | rfl
        all_goals
          go_wp2_with fail
          refine (HTX.out).mono ?_
          rintro e w3 ⟨rfl, hb3⟩
          go_wp2_with fail
          go_roundg (nl.length - (i + 1))
          case measure => omega
          case rel => exact ⟨i + 1, by omega, Nat.le_refl _, by go_num, hBr1.trans (hb3.mono hBr1.size), (hBn.below hgr hBn.lt).below hb3 (by simp; exact Nat.lt_succ_of_lt hBn.lt), HX.out⟩
    · have hlt2 : ¬ (i : Int) < (nl.length : Int) := by omega
      have HX := Lib.hid (show interT F (.mk 14 ⟨#[]⟩ nl np) = true by rw [HALL.out, ← hall, List.take_of_length_le (by omega)])
      clear hall
      go_wp2_with fail
      go_ret
      exact ⟨by rw [HX.out]; rfl, hBr⟩
end Go.Proofs.YtnalfjaojcahhaaGreatDoor
namespace Go.Proofs.YtnalfjaojcahhaaGreatDoor
open Go.RowKit Go.Lib Go.Proofs
attribute [local go_sem ↓] Go.wp_at_zero Go.wp_at_succ

set_option maxRecDepth 100000 in
set_option maxHeartbeats 8000000 in
theorem ufields_any (d : Nat) (hT : RefC d 18 (tfns d).typ) : ∀ (v : Value) (n : Nd) (w : World), NodeW w v n → DLe (d + 1) n → Calls Tryz.prog 38 #[v] w fun e w' => e = .returned (.bool (structT (tfns d) n)) ∧ Below w.heap.size w w' := by
  intro v n w hv hd
  have HV := Lib.hid hv
  have HD := Lib.hid hd
  have hlen := hd.1.1
  obtain ⟨A, cp, rfl, hC⟩ := hv.toC
  have hB := (Below.refl w.heap.size w).alloc (Nat.le_refl _) (.cells #[.int .i64 n.kind, .string n.text, .slice A n.kids.length cp, .int .i64 n.pos] 24)
  have hBn : Blk (w.alloc (.cells #[.int .i64 n.kind, .string n.text, .slice A n.kids.length cp, .int .i64 n.pos] 24)) w.heap.size 24 #[.int .i64 n.kind, .string n.text, .slice A n.kids.length cp, .int .i64 n.pos] := Blk.new w _ _
  have H0 := Lib.hid hT
  clear hv hC hd hT
  generalize tfns d = F at *
  obtain ⟨nk, nt, nl, np⟩ := n
  simp only [Nd.kind_mk, Nd.text_mk, Nd.kids_mk, Nd.pos_mk] at *
  by_cases h1 : nk = 13
  rotate_left
  · have hne : (nk != 13) = true := by simpa using h1
    have HX := Lib.hid (show structT F (.mk nk nt nl np) = false by simp [structT, h1])
    clear h1
    go_enter Tryz.func38, Tryz.ntmps38
    go_wp2_with fail
    go_ret
    exact ⟨by rw [HX.out]; rfl, hB⟩
  subst h1
  by_cases h2 : nt = ⟨#[]⟩
  rotate_left
  · have hne : nt.toList.isEmpty = false := by rw [isEmpty_dec]; simpa using h2
    have HX := Lib.hid (show structT F (.mk 13 nt nl np) = false by simp [structT, h2])
    clear h2
    go_enter Tryz.func38, Tryz.ntmps38
    go_wp2_with fail
    go_ret
    exact ⟨by rw [HX.out]; rfl, hB⟩
  subst h2
  have HALL := Lib.hid (show structT F (.mk 13 ⟨#[]⟩ nl np) = nl.all (fieldT F) by simp [structT])
  go_enter Tryz.func38, Tryz.ntmps38
  go_wp2_with fail
  go_loopg [3, 4] nl.length (fun k u3 _ wr => ∃ i : Nat, i ≤ nl.length ∧ nl.length - i ≤ k ∧ u3 = .int .i64 (i : Int) ∧ Below w.heap.size w wr ∧ Blk wr w.heap.size 24 #[.int .i64 13, .string ⟨#[]⟩, .slice A nl.length cp, .int .i64 np] ∧ (nl.take i).all (fieldT F) = true)
  case atStart => exact ⟨0, Nat.zero_le _, by omega, rfl, hB, hBn, rfl⟩
  case round =>
    clear hB hBn
    obtain ⟨i, hi, hk, rfl, hBr, hBn, hall⟩ := hrel
    obtain ⟨x0, x1, x2, x3, -, -, -, -⟩ := blk4 hBn
    by_cases hlt : i < nl.length
    · have hlt2 : (i : Int) < (nl.length : Int) := by omega
      have h0 : (0 : Int) ≤ (i : Int) := by omega
      obtain ⟨bp, op, A2, c2, hA0, hp⟩ := kid_at (NodeV.below HV.out hBr) i hlt
      simp only [Nd.kids_mk] at hp
      subst hA0
      have HOK := Lib.hid (show fieldT F nl[i] = true → (nl.take (i + 1)).all (fieldT F) = true by
        intro h
        rw [List.take_succ_eq_append_getElem hlt, List.all_append, hall]
        simp [h])
      have HBAD := Lib.hid (show fieldT F nl[i] = false → structT F (.mk 13 ⟨#[]⟩ nl np) = false by
        intro h
        rw [HALL.out, List.all_eq_false]
        exact ⟨_, List.getElem_mem hlt, by simp [h]⟩)
      have HDQ := Lib.hid (HD.out.kid (k := nl[i]) (List.getElem_mem hlt))
      rw [fieldT_eq] at HOK HBAD
      generalize nl[i] = q at *
      obtain ⟨qk, qt, ql, qp⟩ := q
      obtain ⟨p0, p1, p2, p3, hpn⟩ := hp
      simp only [Nd.kind_mk, Nd.text_mk, Nd.kids_mk, Nd.pos_mk] at HOK HBAD p0 p1 p2 p3 hpn
      have HPN := Lib.hid hpn
      have hBr1 := hBr.alloc hBr.size (.cells #[.int .i64 qk, .string qt, .slice A2 ql.length c2, .int .i64 qp] 24)
      have hbox := Blk.new wr 24 #[.int .i64 qk, .string qt, .slice A2 ql.length c2, .int .i64 qp]
      have hgr := (Below.refl wr.heap.size wr).alloc (Nat.le_refl _) (.cells #[.int .i64 qk, .string qt, .slice A2 ql.length c2, .int .i64 qp] 24)
      clear hall hpn
      by_cases q1 : qk = 9
      rotate_left
      · have hne : (qk != 9) = true := by simpa using q1
        have HX := Lib.hid (HBAD.out (by simp [q1]))
        clear q1 HOK HBAD
        go_wp2_with fail
        go_ret
        exact ⟨by rw [HX.out]; rfl, hBr1⟩
      subst q1
      cases q2 : nameT qt with
      | false =>
        have HX := Lib.hid (HBAD.out (by simp [q2]))
        clear HOK HBAD
        go_wp2_with fail
        refine (uname_any _ _).mono ?_
        rw [q2]
        rintro e w3 ⟨rfl, hb3⟩
        go_wp2_with fail
        go_ret
        exact ⟨by rw [HX.out]; rfl, hBr1.trans (hb3.mono hBr1.size)⟩
      | true =>
        by_cases q3 : ql.length = 1
        rotate_left
        · have hne : ((ql.length : Int) != 1) = true := by simp; omega
          have HX := Lib.hid (HBAD.out (by rw [oneT_ne _ q3]; simp))
          clear q3 HOK HBAD
          go_wp2_with fail
          refine (uname_any _ _).mono ?_
          rw [q2]
          rintro e w3 ⟨rfl, hb3⟩
          have hB3 := hBr1.trans (hb3.mono hBr1.size)
          have hbox3 := hbox.below hb3 hbox.lt
          obtain ⟨z0, z1, z2, z3, -, -, -, -⟩ := blk4 hbox3
          go_wp2_with fail
          go_ret
          exact ⟨by rw [HX.out]; rfl, hB3⟩
        obtain ⟨x, rfl⟩ := one_of q3
        rw [oneT_one] at HOK HBAD
        have HPN1 : NodeW wr (.agg #[.int .i64 9, .string qt, .slice A2 1 c2, .int .i64 qp]) (.mk 9 qt [x] qp) := HPN.out
        have hBr1 : Below w.heap.size w (wr.alloc (.cells #[.int .i64 9, .string qt, .slice A2 1 c2, .int .i64 qp] 24)) := hBr1
        have hbox : Blk (wr.alloc (.cells #[.int .i64 9, .string qt, .slice A2 1 c2, .int .i64 qp] 24)) wr.heap.size 24 #[.int .i64 9, .string qt, .slice A2 1 c2, .int .i64 qp] := hbox
        obtain ⟨bx, ox, A3, c3, rfl, hx⟩ := kid_at HPN1 0 (by simp)
        simp only [Nd.kids_mk, List.getElem_cons_zero, Nat.zero_mul, Nat.add_zero] at hx
        have hgr : Below wr.heap.size wr (wr.alloc (.cells #[.int .i64 9, .string qt, .slice (some ⟨bx, ox, none⟩) 1 c2, .int .i64 qp] 24)) := hgr
        have HX1 := Lib.hid (hx.below hgr)
        have HTX := Lib.hid (fun w' (h : C4 w' bx ox x A3 c3) => H0.out _ x w' h.2.2.2.2 (HDQ.out.kid' (k := x) (by simp)))
        have hbn1 := hBn.below hgr hBn.lt
        clear hx q3 HPN HPN1 hgr
        cases q4 : F.typ x with
        | false =>
          have HX := Lib.hid (HBAD.out (by simp [q4]))
          rw [q4] at HTX
          clear q4 HOK HBAD
          go_wp2_with fail
          refine (uname_any _ _).mono ?_
          rw [q2]
          rintro e w3 ⟨rfl, hb3⟩
          have hB3 := hBr1.trans (hb3.mono hBr1.size)
          have hbox3 := hbox.below hb3 hbox.lt
          obtain ⟨z0, z1, z2, z3, -, -, -, -⟩ := blk4 hbox3
          have HX3 := Lib.hid (HX1.out.below hb3)
          obtain ⟨y0, y1, y2, y3, -⟩ := HX3.out
          go_wp2_with fail
          refine (HTX.out _ HX3.out).mono ?_
          rintro e w4 ⟨rfl, hb4⟩
          go_wp2_with fail
          go_ret
          exact ⟨by rw [HX.out]; rfl, hB3.trans (hb4.mono hB3.size)⟩
        | true =>
          have HX := Lib.hid (HOK.out (by simp [q4, q2]))
          rw [q4] at HTX
          clear q4 HOK HBAD
          go_wp2_with fail
          refine (uname_any _ _).mono ?_
          rw [q2]
          rintro e w3 ⟨rfl, hb3⟩
          have hB3 := hBr1.trans (hb3.mono hBr1.size)
          have hbox3 := hbox.below hb3 hbox.lt
          obtain ⟨z0, z1, z2, z3, -, -, -, -⟩ := blk4 hbox3
          have HX3 := Lib.hid (HX1.out.below hb3)
          obtain ⟨y0, y1, y2, y3, -⟩ := HX3.out
          have hbn3 := hbn1.below hb3 hbn1.lt
          go_wp2_with fail
          refine (HTX.out _ HX3.out).mono ?_
          rintro e w4 ⟨rfl, hb4⟩
          go_wp2_with fail
          go_roundg (nl.length - (i + 1))
          case measure => omega
          case rel => exact ⟨i + 1, by omega, Nat.le_refl _, by go_num, hB3.trans (hb4.mono hB3.size), hbn3.below hb4 hbn3.lt, HX.out⟩
    · have hlt2 : ¬ (i : Int) < (nl.length : Int) := by omega
      have HX := Lib.hid (show structT F (.mk 13 ⟨#[]⟩ nl np) = true by rw [HALL.out, ← hall, List.take_of_length_le (by omega)])
      clear hall
      go_wp2_with fail
      go_ret
      exact ⟨by rw [HX.out]; rfl, hBr⟩
end Go.Proofs.YtnalfjaojcahhaaGreatDoor
namespace Go.Proofs.YtnalfjaojcahhaaGreatDoor
open Go.RowKit Go.Lib Go.Proofs
attribute [local go_sem ↓] Go.wp_at_zero Go.wp_at_succ

set_option maxRecDepth 100000 in
set_option maxHeartbeats 8000000 in
theorem uparams_any (d : Nat) (hT : RefC d 18 (tfns d).typ) (hI : RefC d 39 (interT (tfns d))) : ∀ (v : Value) (n : Nd) (w : World), NodeW w v n → DLe (d + 1) n → Calls Tryz.prog 36 #[v] w fun e w' => e = .returned (.bool (paramsT (tfns d) n)) ∧ Below w.heap.size w w' := by
  intro v n w hv hd
  have HV := Lib.hid hv
  have HD := Lib.hid hd
  have hlen := hd.1.1
  obtain ⟨A, cp, rfl, hC⟩ := hv.toC
  have hB := (Below.refl w.heap.size w).alloc (Nat.le_refl _) (.cells #[.int .i64 n.kind, .string n.text, .slice A n.kids.length cp, .int .i64 n.pos] 24)
  have hBn : Blk (w.alloc (.cells #[.int .i64 n.kind, .string n.text, .slice A n.kids.length cp, .int .i64 n.pos] 24)) w.heap.size 24 #[.int .i64 n.kind, .string n.text, .slice A n.kids.length cp, .int .i64 n.pos] := Blk.new w _ _
  have H0 := Lib.hid hT
  have H1 := Lib.hid hI
  clear hv hC hd hT hI
  generalize tfns d = F at *
  obtain ⟨nk, nt, nl, np⟩ := n
  simp only [Nd.kind_mk, Nd.text_mk, Nd.kids_mk, Nd.pos_mk] at *
  by_cases h1 : nk = 6
  rotate_left
  · have hne : (nk != 6) = true := by simpa using h1
    have HX := Lib.hid (show paramsT F (.mk nk nt nl np) = false by simp [paramsT, listT, h1])
    clear h1
    go_enter Tryz.func36, Tryz.ntmps36
    go_wp2_with fail
    go_ret
    exact ⟨by rw [HX.out]; rfl, hB⟩
  subst h1
  by_cases h2 : nt = ⟨#[]⟩
  rotate_left
  · have hne : nt.toList.isEmpty = false := by rw [isEmpty_dec]; simpa using h2
    have HX := Lib.hid (show paramsT F (.mk 6 nt nl np) = false by simp [paramsT, listT, h2])
    clear h2
    go_enter Tryz.func36, Tryz.ntmps36
    go_wp2_with fail
    go_ret
    exact ⟨by rw [HX.out]; rfl, hB⟩
  subst h2
  have HALL := Lib.hid (show paramsT F (.mk 6 ⟨#[]⟩ nl np) = nl.all (tparamT F) by simp [paramsT, listT])
  go_enter Tryz.func36, Tryz.ntmps36
  go_wp2_with fail
  go_loopg [3, 4, 5] nl.length (fun k u3 _ _ wr => ∃ i : Nat, i ≤ nl.length ∧ nl.length - i ≤ k ∧ u3 = .int .i64 (i : Int) ∧ Below w.heap.size w wr ∧ Blk wr w.heap.size 24 #[.int .i64 6, .string ⟨#[]⟩, .slice A nl.length cp, .int .i64 np] ∧ (nl.take i).all (tparamT F) = true)
  case atStart => exact ⟨0, Nat.zero_le _, by omega, rfl, hB, hBn, rfl⟩
  case round =>
    clear hB hBn
    obtain ⟨i, hi, hk, rfl, hBr, hBn, hall⟩ := hrel
    obtain ⟨x0, x1, x2, x3, -, -, -, -⟩ := blk4 hBn
    by_cases hlt : i < nl.length
    · have hlt2 : (i : Int) < (nl.length : Int) := by omega
      have h0 : (0 : Int) ≤ (i : Int) := by omega
      obtain ⟨bp, op, A2, c2, hA0, hp⟩ := kid_at (NodeV.below HV.out hBr) i hlt
      simp only [Nd.kids_mk] at hp
      subst hA0
      have HOK := Lib.hid (show tparamT F nl[i] = true → (nl.take (i + 1)).all (tparamT F) = true by
        intro h
        rw [List.take_succ_eq_append_getElem hlt, List.all_append, hall]
        simp [h])
      have HBAD := Lib.hid (show tparamT F nl[i] = false → paramsT F (.mk 6 ⟨#[]⟩ nl np) = false by
        intro h
        rw [HALL.out, List.all_eq_false]
        exact ⟨_, List.getElem_mem hlt, by simp [h]⟩)
      have HDQ := Lib.hid (HD.out.kid (k := nl[i]) (List.getElem_mem hlt))
      rw [tparamT_eq] at HOK HBAD
      generalize nl[i] = q at *
      obtain ⟨qk, qt, ql, qp⟩ := q
      obtain ⟨p0, p1, p2, p3, hpn⟩ := hp
      simp only [Nd.kind_mk, Nd.text_mk, Nd.kids_mk, Nd.pos_mk] at HOK HBAD p0 p1 p2 p3 hpn
      have HPN := Lib.hid hpn
      have hBr1 := hBr.alloc hBr.size (.cells #[.int .i64 qk, .string qt, .slice A2 ql.length c2, .int .i64 qp] 24)
      have hbox := Blk.new wr 24 #[.int .i64 qk, .string qt, .slice A2 ql.length c2, .int .i64 qp]
      have hgr := (Below.refl wr.heap.size wr).alloc (Nat.le_refl _) (.cells #[.int .i64 qk, .string qt, .slice A2 ql.length c2, .int .i64 qp] 24)
      clear hall hpn
      by_cases q1 : qk = 7
      rotate_left
      · have hne : (qk != 7) = true := by simpa using q1
        have HX := Lib.hid (HBAD.out (by simp [q1]))
        clear q1 HOK HBAD
        go_wp2_with fail
        go_ret
        exact ⟨by rw [HX.out]; rfl, hBr1⟩
      subst q1
      cases q2 : nameT qt with
      | false =>
        have HX := Lib.hid (HBAD.out (by simp [q2]))
        clear HOK HBAD
        go_wp2_with fail
        refine (uname_any _ _).mono ?_
        rw [q2]
        rintro e w3 ⟨rfl, hb3⟩
        go_wp2_with fail
        go_ret
        exact ⟨by rw [HX.out]; rfl, hBr1.trans (hb3.mono hBr1.size)⟩
      | true =>
        by_cases q3 : ql.length = 1
        rotate_left
        · have hne : ((ql.length : Int) != 1) = true := by simp; omega
          have HX := Lib.hid (HBAD.out (by rw [oneT_ne _ q3]; simp))
          clear q3 HOK HBAD
          go_wp2_with fail
          refine (uname_any _ _).mono ?_
          rw [q2]
          rintro e w3 ⟨rfl, hb3⟩
          have hB3 := hBr1.trans (hb3.mono hBr1.size)
          have hbox3 := hbox.below hb3 hbox.lt
          obtain ⟨z0, z1, z2, z3, -, -, -, -⟩ := blk4 hbox3
          go_wp2_with fail
          go_ret
          exact ⟨by rw [HX.out]; rfl, hB3⟩
        obtain ⟨x, rfl⟩ := one_of q3
        rw [oneT_one] at HOK HBAD
        have HPN1 : NodeW wr (.agg #[.int .i64 7, .string qt, .slice A2 1 c2, .int .i64 qp]) (.mk 7 qt [x] qp) := HPN.out
        have hBr1 : Below w.heap.size w (wr.alloc (.cells #[.int .i64 7, .string qt, .slice A2 1 c2, .int .i64 qp] 24)) := hBr1
        have hbox : Blk (wr.alloc (.cells #[.int .i64 7, .string qt, .slice A2 1 c2, .int .i64 qp] 24)) wr.heap.size 24 #[.int .i64 7, .string qt, .slice A2 1 c2, .int .i64 qp] := hbox
        obtain ⟨bx, ox, A3, c3, rfl, hx⟩ := kid_at HPN1 0 (by simp)
        simp only [Nd.kids_mk, List.getElem_cons_zero, Nat.zero_mul, Nat.add_zero] at hx
        have hgr : Below wr.heap.size wr (wr.alloc (.cells #[.int .i64 7, .string qt, .slice (some ⟨bx, ox, none⟩) 1 c2, .int .i64 qp] 24)) := hgr
        have HX1 := Lib.hid (hx.below hgr)
        have HTX := Lib.hid (fun w' (h : C4 w' bx ox x A3 c3) => H0.out _ x w' h.2.2.2.2 (HDQ.out.kid' (k := x) (by simp)))
        have HIX := Lib.hid (fun w' (h : C4 w' bx ox x A3 c3) => H1.out _ x w' h.2.2.2.2 (HDQ.out.kid' (k := x) (by simp)))
        have hbn1 := hBn.below hgr hBn.lt
        clear hx q3 HPN HPN1 hgr
        unfold orT named1T at HOK HBAD
        cases q4 : interT F x with
        | true =>
          have HX := Lib.hid (HOK.out (by simp [q4, q2]))
          rw [q4] at HIX
          clear q4 HOK HBAD
          go_wp2_with fail
          refine (uname_any _ _).mono ?_
          rw [q2]
          rintro e w3 ⟨rfl, hb3⟩
          have hB3 := hBr1.trans (hb3.mono hBr1.size)
          have hbox3 := hbox.below hb3 hbox.lt
          obtain ⟨z0, z1, z2, z3, -, -, -, -⟩ := blk4 hbox3
          have HX3 := Lib.hid (HX1.out.below hb3)
          obtain ⟨y0, y1, y2, y3, -⟩ := HX3.out
          have hbn3 := hbn1.below hb3 hbn1.lt
          have hB4 := hB3.alloc hB3.size (.cells #[.int .i64 x.kind, .string x.text, .slice A3 x.kids.length c3, .int .i64 x.pos] 24)
          have hgr3 := (Below.refl w3.heap.size w3).alloc (Nat.le_refl _) (.cells #[.int .i64 x.kind, .string x.text, .slice A3 x.kids.length c3, .int .i64 x.pos] 24)
          have HX4 := Lib.hid (HX3.out.below hgr3)
          have hbn4 := hbn3.below hgr3 hbn3.lt
          have hbx4 := Blk.new w3 24 #[.int .i64 x.kind, .string x.text, .slice A3 x.kids.length c3, .int .i64 x.pos]
          clear hgr3
          go_wp2_with fail
          refine (HIX.out _ HX4.out).mono ?_
          rintro e w5 ⟨rfl, hb5⟩
          have hB5 := hB4.trans (hb5.mono hB4.size)
          have hbn5 := hbn4.below hb5 hbn4.lt
          have hbx5 := hbx4.below hb5 hbx4.lt
          have HX5 := Lib.hid (HX4.out.below hb5)
          clear y0 y1 y2 y3 z0 z1 z2 z3 p0 p1 p2 p3 x0 x1 x2 x3
          obtain ⟨z0, z1, z2, z3, -, -, -, -⟩ := blk4 hbx5
          go_wp2_with fail
          go_roundg (nl.length - (i + 1))
          case measure => omega
          case rel => exact ⟨i + 1, by omega, Nat.le_refl _, by go_num, hB5, hbn5, HX.out⟩
        | false =>
          rw [q4] at HIX
          by_cases q5 : x.kind = 10
          rotate_left
          · have hnk : (x.kind != 10) = true := by simpa using q5
            have HX := Lib.hid (HBAD.out (by simp [q4, q5]))
            clear q4 q5 HOK HBAD
            go_wp2_with fail
            refine (uname_any _ _).mono ?_
            rw [q2]
            rintro e w3 ⟨rfl, hb3⟩
            have hB3 := hBr1.trans (hb3.mono hBr1.size)
            have hbox3 := hbox.below hb3 hbox.lt
            obtain ⟨z0, z1, z2, z3, -, -, -, -⟩ := blk4 hbox3
            have HX3 := Lib.hid (HX1.out.below hb3)
            obtain ⟨y0, y1, y2, y3, -⟩ := HX3.out
            have hbn3 := hbn1.below hb3 hbn1.lt
            have hB4 := hB3.alloc hB3.size (.cells #[.int .i64 x.kind, .string x.text, .slice A3 x.kids.length c3, .int .i64 x.pos] 24)
            have hgr3 := (Below.refl w3.heap.size w3).alloc (Nat.le_refl _) (.cells #[.int .i64 x.kind, .string x.text, .slice A3 x.kids.length c3, .int .i64 x.pos] 24)
            have HX4 := Lib.hid (HX3.out.below hgr3)
            have hbn4 := hbn3.below hgr3 hbn3.lt
            have hbx4 := Blk.new w3 24 #[.int .i64 x.kind, .string x.text, .slice A3 x.kids.length c3, .int .i64 x.pos]
            clear hgr3
            go_wp2_with fail
            refine (HIX.out _ HX4.out).mono ?_
            rintro e w5 ⟨rfl, hb5⟩
            have hB5 := hB4.trans (hb5.mono hB4.size)
            have hbn5 := hbn4.below hb5 hbn4.lt
            have hbx5 := hbx4.below hb5 hbx4.lt
            have HX5 := Lib.hid (HX4.out.below hb5)
            clear y0 y1 y2 y3 z0 z1 z2 z3 p0 p1 p2 p3 x0 x1 x2 x3
            obtain ⟨z0, z1, z2, z3, -, -, -, -⟩ := blk4 hbx5
            go_wp2_with fail
            go_ret
            exact ⟨by rw [HX.out]; rfl, hB5⟩
          have hnk : (x.kind != 10) = false := by simpa using q5
          cases q6 : F.typ x with
          | false =>
            have HX := Lib.hid (HBAD.out (by simp [q4, q6]))
            rw [q6] at HTX
            clear q4 q5 q6 HOK HBAD
            go_wp2_with fail
            refine (uname_any _ _).mono ?_
            rw [q2]
            rintro e w3 ⟨rfl, hb3⟩
            have hB3 := hBr1.trans (hb3.mono hBr1.size)
            have hbox3 := hbox.below hb3 hbox.lt
            obtain ⟨z0, z1, z2, z3, -, -, -, -⟩ := blk4 hbox3
            have HX3 := Lib.hid (HX1.out.below hb3)
            obtain ⟨y0, y1, y2, y3, -⟩ := HX3.out
            have hbn3 := hbn1.below hb3 hbn1.lt
            have hB4 := hB3.alloc hB3.size (.cells #[.int .i64 x.kind, .string x.text, .slice A3 x.kids.length c3, .int .i64 x.pos] 24)
            have hgr3 := (Below.refl w3.heap.size w3).alloc (Nat.le_refl _) (.cells #[.int .i64 x.kind, .string x.text, .slice A3 x.kids.length c3, .int .i64 x.pos] 24)
            have HX4 := Lib.hid (HX3.out.below hgr3)
            have hbn4 := hbn3.below hgr3 hbn3.lt
            have hbx4 := Blk.new w3 24 #[.int .i64 x.kind, .string x.text, .slice A3 x.kids.length c3, .int .i64 x.pos]
            clear hgr3
            go_wp2_with fail
            refine (HIX.out _ HX4.out).mono ?_
            rintro e w5 ⟨rfl, hb5⟩
            have hB5 := hB4.trans (hb5.mono hB4.size)
            have hbn5 := hbn4.below hb5 hbn4.lt
            have hbx5 := hbx4.below hb5 hbx4.lt
            have HX5 := Lib.hid (HX4.out.below hb5)
            clear y0 y1 y2 y3 z0 z1 z2 z3 p0 p1 p2 p3 x0 x1 x2 x3
            obtain ⟨z0, z1, z2, z3, -, -, -, -⟩ := blk4 hbx5
            go_wp2_with fail
            refine (HTX.out _ HX5.out).mono ?_
            rintro e w6 ⟨rfl, hb6⟩
            go_wp2_with fail
            go_ret
            exact ⟨by rw [HX.out]; rfl, hB5.trans (hb6.mono hB5.size)⟩
          | true =>
            have HX := Lib.hid (HOK.out (by simp [q5, q6, q2]))
            rw [q6] at HTX
            clear q4 q5 q6 HOK HBAD
            go_wp2_with fail
            refine (uname_any _ _).mono ?_
            rw [q2]
            rintro e w3 ⟨rfl, hb3⟩
            have hB3 := hBr1.trans (hb3.mono hBr1.size)
            have hbox3 := hbox.below hb3 hbox.lt
            obtain ⟨z0, z1, z2, z3, -, -, -, -⟩ := blk4 hbox3
            have HX3 := Lib.hid (HX1.out.below hb3)
            obtain ⟨y0, y1, y2, y3, -⟩ := HX3.out
            have hbn3 := hbn1.below hb3 hbn1.lt
            have hB4 := hB3.alloc hB3.size (.cells #[.int .i64 x.kind, .string x.text, .slice A3 x.kids.length c3, .int .i64 x.pos] 24)
            have hgr3 := (Below.refl w3.heap.size w3).alloc (Nat.le_refl _) (.cells #[.int .i64 x.kind, .string x.text, .slice A3 x.kids.length c3, .int .i64 x.pos] 24)
            have HX4 := Lib.hid (HX3.out.below hgr3)
            have hbn4 := hbn3.below hgr3 hbn3.lt
            have hbx4 := Blk.new w3 24 #[.int .i64 x.kind, .string x.text, .slice A3 x.kids.length c3, .int .i64 x.pos]
            clear hgr3
            go_wp2_with fail
            refine (HIX.out _ HX4.out).mono ?_
            rintro e w5 ⟨rfl, hb5⟩
            have hB5 := hB4.trans (hb5.mono hB4.size)
            have hbn5 := hbn4.below hb5 hbn4.lt
            have hbx5 := hbx4.below hb5 hbx4.lt
            have HX5 := Lib.hid (HX4.out.below hb5)
            clear y0 y1 y2 y3 z0 z1 z2 z3 p0 p1 p2 p3 x0 x1 x2 x3
            obtain ⟨z0, z1, z2, z3, -, -, -, -⟩ := blk4 hbx5
            go_wp2_with fail
            refine (HTX.out _ HX5.out).mono ?_
            rintro e w6 ⟨rfl, hb6⟩
            go_wp2_with fail
            go_roundg (nl.length - (i + 1))
            case measure => omega
            case rel => exact ⟨i + 1, by omega, Nat.le_refl _, by go_num, hB5.trans (hb6.mono hB5.size), hbn5.below hb6 hbn5.lt, HX.out⟩
    · have hlt2 : ¬ (i : Int) < (nl.length : Int) := by omega
      have HX := Lib.hid (show paramsT F (.mk 6 ⟨#[]⟩ nl np) = true by rw [HALL.out, ← hall, List.take_of_length_le (by omega)])
      clear hall
      go_wp2_with fail
      go_ret
      exact ⟨by rw [HX.out]; rfl, hBr⟩
end Go.Proofs.YtnalfjaojcahhaaGreatDoor
namespace Go.Proofs.YtnalfjaojcahhaaGreatDoor
open Go.RowKit Go.Lib Go.Proofs
attribute [local go_sem ↓] Go.wp_at_zero Go.wp_at_succ

set_option maxRecDepth 100000 in
set_option maxHeartbeats 8000000 in
theorem ublock_any (d : Nat) (hT : RefC d 20 (tfns d).stmt) : ∀ (v : Value) (n : Nd) (w : World), NodeW w v n → DLe (d + 1) n → Calls Tryz.prog 37 #[v] w fun e w' => e = .returned (.bool (blockT (tfns d) n)) ∧ Below w.heap.size w w' := by
  intro v n w hv hd
  have HV := Lib.hid hv
  have HD := Lib.hid hd
  have hlen := hd.1.1
  obtain ⟨A, cp, rfl, hC⟩ := hv.toC
  have hB := (Below.refl w.heap.size w).alloc (Nat.le_refl _) (.cells #[.int .i64 n.kind, .string n.text, .slice A n.kids.length cp, .int .i64 n.pos] 24)
  have hBn : Blk (w.alloc (.cells #[.int .i64 n.kind, .string n.text, .slice A n.kids.length cp, .int .i64 n.pos] 24)) w.heap.size 24 #[.int .i64 n.kind, .string n.text, .slice A n.kids.length cp, .int .i64 n.pos] := Blk.new w _ _
  have H0 := Lib.hid hT
  clear hv hC hd hT
  generalize tfns d = F at *
  obtain ⟨nk, nt, nl, np⟩ := n
  simp only [Nd.kind_mk, Nd.text_mk, Nd.kids_mk, Nd.pos_mk] at *
  by_cases h1 : nk = 36
  rotate_left
  · have hne : (nk != 36) = true := by simpa using h1
    have HX := Lib.hid (show blockT F (.mk nk nt nl np) = false by simp [blockT, h1])
    clear h1
    go_enter Tryz.func37, Tryz.ntmps37
    go_wp2_with fail
    go_ret
    exact ⟨by rw [HX.out]; rfl, hB⟩
  subst h1
  by_cases h2 : nt = ⟨#[]⟩
  rotate_left
  · have hne : nt.toList.isEmpty = false := by rw [isEmpty_dec]; simpa using h2
    have HX := Lib.hid (show blockT F (.mk 36 nt nl np) = false by simp [blockT, h2])
    clear h2
    go_enter Tryz.func37, Tryz.ntmps37
    go_wp2_with fail
    go_ret
    exact ⟨by rw [HX.out]; rfl, hB⟩
  subst h2
  have HALL := Lib.hid (show blockT F (.mk 36 ⟨#[]⟩ nl np) = nl.all F.stmt by simp [blockT])
  go_enter Tryz.func37, Tryz.ntmps37
  go_wp2_with fail
  go_loopg [3] nl.length (fun k u3 wr => ∃ i : Nat, i ≤ nl.length ∧ nl.length - i ≤ k ∧ u3 = .int .i64 (i : Int) ∧ Below w.heap.size w wr ∧ Blk wr w.heap.size 24 #[.int .i64 36, .string ⟨#[]⟩, .slice A nl.length cp, .int .i64 np] ∧ (nl.take i).all F.stmt = true)
  case atStart => exact ⟨0, Nat.zero_le _, by omega, rfl, hB, hBn, rfl⟩
  case round =>
    clear hB hBn
    obtain ⟨i, hi, hk, rfl, hBr, hBn, hall⟩ := hrel
    obtain ⟨x0, x1, x2, x3, -, -, -, -⟩ := blk4 hBn
    by_cases hlt : i < nl.length
    · have hlt2 : (i : Int) < (nl.length : Int) := by omega
      have h0 : (0 : Int) ≤ (i : Int) := by omega
      obtain ⟨bp, op, A2, c2, hA0, hp⟩ := kid_at (NodeV.below HV.out hBr) i hlt
      simp only [Nd.kids_mk] at hp
      subst hA0
      have HOK := Lib.hid (show F.stmt nl[i] = true → (nl.take (i + 1)).all F.stmt = true by
        intro h
        rw [List.take_succ_eq_append_getElem hlt, List.all_append, hall]
        simp [h])
      have HBAD := Lib.hid (show F.stmt nl[i] = false → blockT F (.mk 36 ⟨#[]⟩ nl np) = false by
        intro h
        rw [HALL.out, List.all_eq_false]
        exact ⟨_, List.getElem_mem hlt, by simp [h]⟩)
      have HDQ := Lib.hid (HD.out.kid (k := nl[i]) (List.getElem_mem hlt))
      generalize nl[i] = q at *
      have HTX := Lib.hid (H0.out _ q wr hp.2.2.2.2 HDQ.out)
      obtain ⟨p0, p1, p2, p3, -⟩ := hp
      clear hall
      cases q3 : F.stmt q with
      | false =>
        have HX := Lib.hid (HBAD.out q3)
        rw [q3] at HTX
        clear q3 HOK HBAD
        go_wp2_with fail
        refine (HTX.out).mono ?_
        rintro e w3 ⟨rfl, hb3⟩
        go_wp2_with fail
        go_ret
        exact ⟨by rw [HX.out]; rfl, hBr.trans (hb3.mono hBr.size)⟩
      | true =>
        have HX := Lib.hid (HOK.out q3)
        rw [q3] at HTX
        clear q3 HOK HBAD
        go_wp2_with fail
        refine (HTX.out).mono ?_
        rintro e w3 ⟨rfl, hb3⟩
        go_wp2_with fail
        go_roundg (nl.length - (i + 1))
        case measure => omega
        case rel => exact ⟨i + 1, by omega, Nat.le_refl _, by go_num, hBr.trans (hb3.mono hBr.size), hBn.below hb3 hBn.lt, HX.out⟩
    · have hlt2 : ¬ (i : Int) < (nl.length : Int) := by omega
      have HX := Lib.hid (show blockT F (.mk 36 ⟨#[]⟩ nl np) = true by rw [HALL.out, ← hall, List.take_of_length_le (by omega)])
      clear hall
      go_wp2_with fail
      go_ret
      exact ⟨by rw [HX.out]; rfl, hBr⟩

set_option maxRecDepth 100000 in
set_option maxHeartbeats 4000000 in
theorem uexprs_any (d : Nat) (hT : RefC d 19 (tfns d).expr) (A : Option Addr) (cp : Nat) (nl : List Nd) (w : World) (hv : NodesW w (.slice A nl.length cp) nl) (hd : ∀ n ∈ nl, DLe d n) (hlen : nl.length ≤ 1000000000) :
    Calls Tryz.prog 41 #[.slice A nl.length cp] w fun e w' => e = .returned (.bool (nl.all (tfns d).expr)) ∧ Below w.heap.size w w' := by
  have HV := Lib.hid hv
  have HD := Lib.hid hd
  have H0 := Lib.hid hT
  clear hv hd hT
  generalize tfns d = F at *
  have HR := Lib.hid (show nl.all F.expr = nl.all F.expr from rfl)
  generalize hres : nl.all F.expr = res at HR ⊢
  have HRES := Lib.hid hres
  clear hres HR
  go_enter Tryz.func41, Tryz.ntmps41
  go_wp2_with fail
  go_loopg [3] nl.length (fun k u3 wr => ∃ i : Nat, i ≤ nl.length ∧ nl.length - i ≤ k ∧ u3 = .int .i64 (i : Int) ∧ Below w.heap.size w wr ∧ (nl.take i).all F.expr = true)
  case atStart => exact ⟨0, Nat.zero_le _, by omega, rfl, Below.refl _ _, rfl⟩
  case round =>
    obtain ⟨i, hi, hk, rfl, hBr, hall⟩ := hrel
    by_cases hlt : i < nl.length
    · have hlt2 : (i : Int) < (nl.length : Int) := by omega
      have h0 : (0 : Int) ≤ (i : Int) := by omega
      obtain ⟨-, b, off, A1, c1, rfl, hbl, p0, p1, p2, p3, hpn⟩ := NodesW.at_ (NodesV.below HV.out hBr) i hlt
      have HOK := Lib.hid (show F.expr nl[i] = true → (nl.take (i + 1)).all F.expr = true by
        intro h
        rw [List.take_succ_eq_append_getElem hlt, List.all_append, hall]
        simp [h])
      have HBAD := Lib.hid (show F.expr nl[i] = false → res = false by
        intro h
        rw [← HRES.out, List.all_eq_false]
        exact ⟨_, List.getElem_mem hlt, by simp [h]⟩)
      have HDQ := Lib.hid (HD.out nl[i] (List.getElem_mem hlt))
      generalize nl[i] = q at *
      have HTX := Lib.hid (H0.out _ q wr hpn HDQ.out)
      clear hall hpn
      cases q3 : F.expr q with
      | false =>
        obtain rfl := HBAD.out q3
        rw [q3] at HTX
        clear q3 HOK HBAD
        go_wp2_with fail
        refine (HTX.out).mono ?_
        rintro e w3 ⟨rfl, hb3⟩
        go_wp2_with fail
        go_ret
        exact ⟨rfl, hBr.trans (hb3.mono hBr.size)⟩
      | true =>
        have HX := Lib.hid (HOK.out q3)
        rw [q3] at HTX
        clear q3 HOK HBAD
        go_wp2_with fail
        refine (HTX.out).mono ?_
        rintro e w3 ⟨rfl, hb3⟩
        go_wp2_with fail
        go_roundg (nl.length - (i + 1))
        case measure => omega
        case rel => exact ⟨i + 1, by omega, Nat.le_refl _, by go_num, hBr.trans (hb3.mono hBr.size), HX.out⟩
    · have hlt2 : ¬ (i : Int) < (nl.length : Int) := by omega
      obtain rfl : res = true := by rw [← HRES.out, ← hall, List.take_of_length_le (by omega)]
      clear hall
      go_wp2_with fail
      go_ret
      exact ⟨rfl, hBr⟩
end Go.Proofs.YtnalfjaojcahhaaGreatDoor
