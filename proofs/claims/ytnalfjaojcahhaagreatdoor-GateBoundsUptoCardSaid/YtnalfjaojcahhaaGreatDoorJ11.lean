/-
  tree's small questions: empty, named, or. By an AI agent.
  tree's all, list; the library's ContainsFunc at nodes. By an AI agent.
  tree's of: a node of a kind whose kids are so, one by one. By an AI agent.
-/
import Derived.Test.YtnalfjaojcahhaaGreatDoorJ08
namespace Go.Proofs.YtnalfjaojcahhaaGreatDoor
open Go.RowKit Go.Lib Go.Proofs
attribute [local go_sem ↓] Go.wp_at_zero Go.wp_at_succ

set_option maxHeartbeats 1000000 in
theorem empty_any (w : World) (v : Value) (n : Nd) (hv : NodeW w v n) : Calls Tryz.prog 123 #[v] w fun e w' => e = .returned (.bool (emptyT n)) ∧ Below w.heap.size w w' := by
  obtain ⟨A, cp, rfl, hC⟩ := hv.toC
  have hE : emptyT n = (n.kind == 0 && (n.text.toList.isEmpty && ((n.kids.length : Int) == 0))) := by
    unfold emptyT
    rw [isEmpty_dec, beq_dec, beq_dec]
    congr 2
    rw [decide_eq_decide]
    omega
  rw [hE]
  generalize hl : (n.kids.length : Int) = m at *
  generalize n.kind = k at *
  generalize n.text = t at *
  clear hE hv hC
  cases h1 : (k == 0) <;> cases h2 : t.toList.isEmpty <;> cases h3 : (m == 0)
  all_goals
    go_enter Tryz.func123, Tryz.ntmps123
    go_wp2_with fail
    go_ret
    refine ⟨rfl, ?_⟩
    (repeat' (first | with_reducible exact Below.refl _ _ | with_reducible refine Below.alloc ?_ ?_ _ | with_reducible refine Below.setCell ?_ ?_ _ | with_reducible refine Below.drew ?_ | with_reducible refine below_drewN ?_ _ | (simp <;> omega) | omega))

theorem NodeV.retext {X : Nat → Prop} {w : World} {k : Value} {t p : Value} {A : Option Addr} {c : Nat} {n : Nd} (h : NodeV X w (.agg #[k, t, .slice A n.kids.length c, p]) n) (x : ByteArray) :
    NodeV X w (.agg #[.int .i64 n.kind, .string x, .slice A n.kids.length c, .int .i64 n.pos]) (.mk n.kind x n.kids n.pos) := by
  obtain ⟨A1, c1, xs, e, h1, h2, h3⟩ := h
  injection e with e
  injection e with e
  simp only [List.cons.injEq, and_true] at e
  obtain ⟨_, _, e, _⟩ := e
  injection e with e1 _ e3
  subst e1 e3
  exact ⟨A, c, xs, rfl, h1, h2, h3⟩
/-- A node is handed back. -/
def PostV (w : World) (n : Nd) (e : Ending) (w' : World) : Prop := ∃ v, e = .returned v ∧ NodeW w' v n ∧ Below w.heap.size w w'

set_option maxHeartbeats 1000000 in
theorem named_any (w : World) (v : Value) (n : Nd) (hv : NodeW w v n) (f : Fv) (P : ByteArray → Bool) (hs : SoS P f w) (ht : n.text.size ≤ 1000000000) :
    Calls Tryz.prog 104 #[v, .func (.func f.k) #[] f.cap] w (PostV w (namedT P n)) := by
  have hV0 := hv
  obtain ⟨A, cp, rfl, hC⟩ := hv.toC
  have he := hs.enter
  have HS := Lib.hid hs
  have hB := ((Below.refl w.heap.size w).alloc (Nat.le_refl _) (.cells #[.int .i64 n.kind, .string n.text, .slice A n.kids.length cp, .int .i64 n.pos] 24)).alloc (by simp) (.cells ndZ 24)
  have b1 : Blk ((w.alloc (.cells #[.int .i64 n.kind, .string n.text, .slice A n.kids.length cp, .int .i64 n.pos] 24)).alloc (.cells ndZ 24)) w.heap.size 24 #[.int .i64 n.kind, .string n.text, .slice A n.kids.length cp, .int .i64 n.pos] := (Blk.new w _ _).alloc _
  have b2 : Blk ((w.alloc (.cells #[.int .i64 n.kind, .string n.text, .slice A n.kids.length cp, .int .i64 n.pos] 24)).alloc (.cells ndZ 24)) (w.heap.size + 1) 24 ndZ := Blk.new_at (by simp) _ _
  have HV0 := Lib.hid hV0
  clear hV0 hv hC hs
  go_enter Tryz.func104, Tryz.ntmps104
  go_wp2_with fail
  refine (HS.out.out _ _ hB ht).mono ?_
  rintro e w1 ⟨rfl, hb1⟩
  have c1 := b1.below hb1 (by simp; omega)
  have c2 := b2.below hb1 (by simp)
  have hB1 := hB.trans (hb1.mono hB.size)
  clear b1 b2 hB hb1 he HS
  obtain ⟨x0, x1, x2, x3, y0, y1, y2, y3⟩ := blk4 c1
  obtain ⟨z0, z1, z2, z3, u0, u1, u2, u3⟩ := blk4 c2
  have hne : w.heap.size + 1 ≠ w.heap.size := by omega
  cases hP : P n.text with
  | true =>
    have HN := Lib.hid (show namedT P n = .mk n.kind (⟨#[]⟩ : ByteArray) n.kids n.pos by unfold namedT; rw [hP]; rfl)
    clear hP
    go_wp2_with fail
    have hb : Blk (put4 (w1.setCell ⟨w.heap.size, 1, none⟩ (.string (⟨#[]⟩ : ByteArray))) (w.heap.size + 1) (.int .i64 n.kind) (.string (⟨#[]⟩ : ByteArray)) (.slice A n.kids.length cp) (.int .i64 n.pos)) (w.heap.size + 1) 24 #[.int .i64 n.kind, .string (⟨#[]⟩ : ByteArray), .slice A n.kids.length cp, .int .i64 n.pos] := put4_blk (c2.far (p := ⟨w.heap.size, 1, none⟩) (by show w.heap.size + 1 ≠ w.heap.size; omega) _) _ _ _ _
    refine bodyPost_ret (results_node rfl _ (by rfl) hb) rfl ?_
    rw [HN.out]
    exact ⟨_, rfl, (NodeV.retext HV0.out (⟨#[]⟩ : ByteArray)).below (by (repeat' (first | with_reducible assumption | with_reducible exact Below.refl _ _ | with_reducible refine Below.alloc ?_ ?_ _ | with_reducible refine Below.setCell ?_ ?_ _ | with_reducible refine Below.drew ?_ | with_reducible refine below_drewN ?_ _ | (simp <;> omega) | omega))), by (repeat' (first | with_reducible assumption | with_reducible exact Below.refl _ _ | with_reducible refine Below.alloc ?_ ?_ _ | with_reducible refine Below.setCell ?_ ?_ _ | with_reducible refine Below.drew ?_ | with_reducible refine below_drewN ?_ _ | (simp <;> omega) | omega))⟩
  | false =>
    have HN := Lib.hid (show namedT P n = .mk 37 (⟨#[]⟩ : ByteArray) [] 0 by unfold namedT; rw [hP]; rfl)
    clear hP
    go_wp2_with fail
    have hb : Blk (put4 w1 (w.heap.size + 1) (.int .i64 37) (.string (⟨#[]⟩ : ByteArray)) (.slice none 0 0) (.int .i64 0)) (w.heap.size + 1) 24 #[.int .i64 37, .string (⟨#[]⟩ : ByteArray), .slice none 0 0, .int .i64 0] := put4_blk c2 _ _ _ _
    refine bodyPost_ret (results_node rfl _ (by rfl) hb) rfl ?_
    rw [HN.out]
    exact ⟨_, rfl, NodeV.leaf _ _ _, by (repeat' (first | with_reducible assumption | with_reducible exact Below.refl _ _ | with_reducible refine Below.alloc ?_ ?_ _ | with_reducible refine Below.setCell ?_ ?_ _ | with_reducible refine Below.drew ?_ | with_reducible refine below_drewN ?_ _ | (simp <;> omega) | omega))⟩

theorem blk1 {w : World} {g : Nat} {t : TypeId} {a : Value} (h : Blk w g t #[a]) : w.cell? ⟨g, 0, none⟩ = some a := by
  have c0 := h.cell 0
  simp at c0
  exact c0

set_option maxHeartbeats 1000000 in
theorem or_part (d : Nat) (P Q : Nd → Bool) (f g : Fv) (w0 : World) (hf : SoC d P f w0) (hg : SoC d Q g w0) (a b : Nat)
    (ha : Blk w0 a 33 #[.func (.func f.k) #[] f.cap]) (hb : Blk w0 b 33 #[.func (.func g.k) #[] g.cap]) :
    SoC d (orT P Q) ⟨165, #[.pointer (some ⟨a, 0, none⟩), .pointer (some ⟨b, 0, none⟩)]⟩ w0 := by
  refine ⟨fun a w => by kernel_rfl, fun w v n hw hv hd => ?_⟩
  have hef := hf.enter
  have heg := hg.enter
  have hV0 := hv
  obtain ⟨A, cp, rfl, hC⟩ := hv.toC
  have hB := (Below.refl w.heap.size w).alloc (Nat.le_refl _) (.cells #[.int .i64 n.kind, .string n.text, .slice A n.kids.length cp, .int .i64 n.pos] 24)
  have hw1 := hw.alloc hw.size (.cells #[.int .i64 n.kind, .string n.text, .slice A n.kids.length cp, .int .i64 n.pos] 24)
  have b1 : Blk (w.alloc (.cells #[.int .i64 n.kind, .string n.text, .slice A n.kids.length cp, .int .i64 n.pos] 24)) w.heap.size 24 #[.int .i64 n.kind, .string n.text, .slice A n.kids.length cp, .int .i64 n.pos] := Blk.new w _ _
  have ca := blk1 (ha.below hw1 ha.lt)
  have HF := Lib.hid (hf.out _ _ n hw1 (hV0.below hB) hd)
  have hlb := hb.lt
  have HV := Lib.hid (hV0.below hB)
  have HG := Lib.hid hg
  have HBB := Lib.hid hb
  have hws := hw.size
  show Calls _ _ _ w fun e w' => e = .returned (.bool (P n || Q n)) ∧ _
  clear hf hg hV0 hv hC ha hb
  go_enter Tryz.func165, Tryz.ntmps165
  go_wp2_with fail
  refine HF.out.mono ?_
  rintro e w1 ⟨rfl, hb1⟩
  have hw2 := hw1.trans (hb1.mono hw1.size)
  have cb := blk1 (HBB.out.below hw2 hlb)
  obtain ⟨x0, x1, x2, x3, _, _, _, _⟩ := blk4 (b1.below hb1 (by simp))
  have HG1 := Lib.hid (HG.out.out _ _ n hw2 (HV.out.below hb1) hd)
  have hB1 := hB.trans (hb1.mono hB.size)
  clear hb1 hB b1 hw1 ca HF
  cases hP : P n with
  | true =>
    go_wp2_with fail
    go_ret
    exact ⟨by rw [hP]; rfl, hB1⟩
  | false =>
    go_wp2_with fail
    refine HG1.out.mono ?_
    rintro e w2 ⟨rfl, hb2⟩
    have hB2 := hB1.trans (hb2.mono hB1.size)
    clear hb2 HG1 hB1
    go_wp2_with fail
    go_ret
    exact ⟨by rw [hP]; rfl, hB2⟩

set_option maxHeartbeats 1000000 in
theorem or_any (d : Nat) (P Q : Nd → Bool) (f g : Fv) (w : World) (hf : SoC d P f w) (hg : SoC d Q g w) :
    Calls Tryz.prog 107 #[.func (.func f.k) #[] f.cap, .func (.func g.k) #[] g.cap] w fun e w' => ∃ h : Fv, e = .returned (.func (.func h.k) #[] h.cap) ∧ SoC d (orT P Q) h w' ∧ Below w.heap.size w w' := by
  have HF := Lib.hid hf
  have HG := Lib.hid hg
  have hB := ((Below.refl w.heap.size w).alloc (Nat.le_refl _) (.cells #[.func (.func f.k) #[] f.cap] 33)).alloc (by simp) (.cells #[.func (.func g.k) #[] g.cap] 33)
  have b1 : Blk ((w.alloc (.cells #[.func (.func f.k) #[] f.cap] 33)).alloc (.cells #[.func (.func g.k) #[] g.cap] 33)) w.heap.size 33 #[.func (.func f.k) #[] f.cap] := (Blk.new w _ _).alloc _
  have b2 : Blk ((w.alloc (.cells #[.func (.func f.k) #[] f.cap] 33)).alloc (.cells #[.func (.func g.k) #[] g.cap] 33)) (w.heap.size + 1) 33 #[.func (.func g.k) #[] g.cap] := Blk.new_at (by simp) _ _
  clear hf hg
  go_enter Tryz.func107, Tryz.ntmps107
  go_wp2_with fail
  go_ret
  exact ⟨⟨165, #[.pointer (some ⟨w.heap.size, 0, none⟩), .pointer (some ⟨w.heap.size + 1, 0, none⟩)]⟩, rfl, or_part d P Q f g _ (HF.out.below hB) (HG.out.below hB) _ _ b1 b2, hB⟩
end Go.Proofs.YtnalfjaojcahhaaGreatDoor
namespace Go.Proofs.YtnalfjaojcahhaaGreatDoor
open Go.RowKit Go.Lib Go.Proofs
attribute [local go_sem ↓] Go.wp_at_zero Go.wp_at_succ

/-- A node's kid, as its four cells. -/
theorem NodesW.at_ {w : World} {A : Option Addr} {n c : Nat} {l : List Nd} (h : NodesW w (.slice A n c) l) (i : Nat) (hi : i < l.length) :
    n = l.length ∧ ∃ b off A1 cp, A = some ⟨b, off, none⟩ ∧ b < w.heap.size ∧ w.cell? ⟨b, off + i * 4, none⟩ = some (.int .i64 l[i].kind) ∧ w.cell? ⟨b, off + i * 4 + 1, none⟩ = some (.string l[i].text) ∧
      w.cell? ⟨b, off + i * 4 + 2, none⟩ = some (.slice A1 l[i].kids.length cp) ∧ w.cell? ⟨b, off + i * 4 + 3, none⟩ = some (.int .i64 l[i].pos) ∧
      NodeW w (.agg #[.int .i64 l[i].kind, .string l[i].text, .slice A1 l[i].kids.length cp, .int .i64 l[i].pos]) l[i] := by
  have hn : n = l.length := by
    obtain ⟨_, _, _, e, _⟩ := h
    injection e
  obtain ⟨b, off, A1, cp, e, _, h1, h2, h3, h4, h5, h6⟩ := h.kid i hi
  exact ⟨hn, b, off, A1, cp, e, h1, h2, h3, h4, h5, h6⟩

/-- The first node of which a question is true. -/
def idxB (P : Nd → Bool) : List Nd → Nat → Int
  | [], _ => -1
  | n :: l, i => if P n then (i : Int) else idxB P l (i + 1)
theorem idxB_any (P : Nd → Bool) : ∀ (l : List Nd) (i : Nat), decide (0 ≤ idxB P l i) = l.any P
  | [], i => rfl
  | n :: l, i => by
    rw [idxB, List.any_cons]
    cases hP : P n with
    | true => simp
    | false => simpa using idxB_any P l (i + 1)
theorem idxB_drop (P : Nd → Bool) (l : List Nd) (i : Nat) (hi : i < l.length) : idxB P (l.drop i) i = if P l[i] then (i : Int) else idxB P (l.drop (i + 1)) (i + 1) := by
  rw [List.drop_eq_getElem_cons hi, idxB]

set_option maxHeartbeats 1000000 in
theorem indexFunc_any (d : Nat) (P : Nd → Bool) (f : Fv) (A : Option Addr) (c : Nat) (l : List Nd) (w : World) (hv : NodesW w (.slice A l.length c) l) (hd : ∀ n ∈ l, DLe d n) (hl : l.length ≤ 1000000000) (hf : SoC d P f w) :
    Calls Tryz.prog 161 #[.slice A l.length c, .func (.func f.k) #[] f.cap] w fun e w' => e = .returned (.int .i64 (idxB P l 0)) ∧ Below w.heap.size w w' := by
  have he := hf.enter
  have HF := Lib.hid hf
  have HV := Lib.hid hv
  have HD := Lib.hid hd
  generalize hI : idxB P l 0 = I
  have HI := Lib.hid hI
  clear hf hv hd hI
  go_enter Tryz.func161, Tryz.ntmps161
  go_wp2_with fail
  go_loopg [5, 8] l.length (fun g _ u8 wr => ∃ i : Nat, i ≤ l.length ∧ l.length - i ≤ g ∧ u8 = .int .i64 (i : Int) ∧ idxB P (l.drop i) i = I ∧ Below w.heap.size w wr)
  case atStart => exact ⟨0, Nat.zero_le _, by omega, rfl, by simpa using HI.out, Below.refl _ _⟩
  case round =>
    obtain ⟨i, hi, hg, rfl, hI, hB⟩ := hrel
    have HI := Lib.hid hI
    clear hI
    by_cases hlt : i < l.length
    · have hlt2 : (i : Int) < (l.length : Int) := by omega
      have h0 : (0 : Int) ≤ (i : Int) := by omega
      obtain ⟨_, b, off, A1, cp, rfl, hb, k0, k1, k2, k3, hn⟩ := NodesW.at_ (HV.out.below hB) i hlt
      have HC := Lib.hid (HF.out.out _ _ l[i] hB hn (HD.out _ (List.getElem_mem hlt)))
      have HE := Lib.hid (idxB_drop P l i hlt)
      generalize l[i] = x at *
      clear hn
      cases hP : P x with
      | true =>
        have HX := Lib.hid (show I = (i : Int) by rw [← HI.out, HE.out, hP]; rfl)
        go_wp2_with fail
        refine HC.out.mono ?_
        rw [hP]
        rintro e w1 ⟨rfl, hb1⟩
        have hB1 := hB.trans (hb1.mono hB.size)
        clear hb1 HC
        go_wp2_with fail
        go_ret
        exact ⟨by rw [HX.out]; rfl, hB1⟩
      | false =>
        have HX := Lib.hid (show idxB P (l.drop (i + 1)) (i + 1) = I by rw [← HI.out, HE.out, hP]; rfl)
        go_wp2_with fail
        refine HC.out.mono ?_
        rw [hP]
        rintro e w1 ⟨rfl, hb1⟩
        have hB1 := hB.trans (hb1.mono hB.size)
        clear hb1 HC
        go_wp2_with fail
        go_roundg (l.length - (i + 1))
        case measure => omega
        case rel => exact ⟨i + 1, by omega, Nat.le_refl _, by go_num, HX.out, hB1⟩
    · have hlt2 : ¬ (i : Int) < (l.length : Int) := by omega
      have hnil : l.drop i = [] := List.drop_of_length_le (by omega)
      have HX := Lib.hid (show I = -1 by rw [← HI.out, hnil]; rfl)
      clear hnil
      go_wp2_with fail
      go_ret
      exact ⟨by rw [HX.out]; rfl, hB⟩

set_option maxHeartbeats 1000000 in
theorem containsFunc_any (d : Nat) (P : Nd → Bool) (f : Fv) (A : Option Addr) (c : Nat) (l : List Nd) (w : World) (hv : NodesW w (.slice A l.length c) l) (hd : ∀ n ∈ l, DLe d n) (hl : l.length ≤ 1000000000) (hf : SoC d P f w) :
    Calls Tryz.prog 101 #[.slice A l.length c, .func (.func f.k) #[] f.cap] w fun e w' => e = .returned (.bool (l.any P)) ∧ Below w.heap.size w w' := by
  have HI := Lib.hid (indexFunc_any d P f A c l w hv hd hl hf)
  rw [← idxB_any P l 0]
  clear hv hd hf
  go_enter Tryz.func101, Tryz.ntmps101
  go_wp2_with fail
  refine HI.out.mono ?_
  rintro e w1 ⟨rfl, hb1⟩
  go_wp2_with fail
  go_ret
  exact ⟨rfl, hb1⟩

/-- 'not so'. -/
theorem all_part (d : Nat) (P : Nd → Bool) (f : Fv) (w0 : World) (hf : SoC d P f w0) (a : Nat) (ha : Blk w0 a 33 #[.func (.func f.k) #[] f.cap]) :
    SoC d (fun n => !P n) ⟨102, #[.pointer (some ⟨a, 0, none⟩)]⟩ w0 := by
  refine ⟨fun a w => by kernel_rfl, fun w v n hw hv hd => ?_⟩
  have hef := hf.enter
  have hV0 := hv
  obtain ⟨A, cp, rfl, hC⟩ := hv.toC
  have hB := (Below.refl w.heap.size w).alloc (Nat.le_refl _) (.cells #[.int .i64 n.kind, .string n.text, .slice A n.kids.length cp, .int .i64 n.pos] 24)
  have hw1 := hw.alloc hw.size (.cells #[.int .i64 n.kind, .string n.text, .slice A n.kids.length cp, .int .i64 n.pos] 24)
  have ca := blk1 (ha.below hw1 ha.lt)
  have HF := Lib.hid (hf.out _ _ n hw1 (hV0.below hB) hd)
  have hla := ha.lt
  have hws := hw.size
  show Calls _ _ _ w fun e w' => e = .returned (.bool (!P n)) ∧ _
  clear hf hV0 hv hC ha
  go_enter Tryz.func102, Tryz.ntmps102
  go_wp2_with fail
  refine HF.out.mono ?_
  rintro e w1 ⟨rfl, hb1⟩
  have hB1 := hB.trans (hb1.mono hB.size)
  clear hb1 hB hw1 ca HF
  go_wp2_with fail
  go_ret
  exact ⟨rfl, hB1⟩

theorem any_not (P : Nd → Bool) (l : List Nd) : (!(l.any fun n => !P n)) = l.all P := by
  induction l with
  | nil => rfl
  | cons n l ih => rw [List.any_cons, List.all_cons, ← ih]; cases P n <;> simp

set_option maxHeartbeats 1000000 in
theorem tall_any (d : Nat) (P : Nd → Bool) (f : Fv) (A : Option Addr) (c : Nat) (l : List Nd) (w : World) (hv : NodesW w (.slice A l.length c) l) (hd : ∀ n ∈ l, DLe d n) (hl : l.length ≤ 1000000000) (hf : SoC d P f w) :
    Calls Tryz.prog 71 #[.slice A l.length c, .func (.func f.k) #[] f.cap] w fun e w' => e = .returned (.bool (l.all P)) ∧ Below w.heap.size w w' := by
  have hB := (Below.refl w.heap.size w).alloc (Nat.le_refl _) (.cells #[.func (.func f.k) #[] f.cap] 33)
  have b1 := Blk.new w 33 #[.func (.func f.k) #[] f.cap]
  have HI := Lib.hid (containsFunc_any d (fun n => !P n) ⟨102, #[.pointer (some ⟨w.heap.size, 0, none⟩)]⟩ A c l _ (hv.below hB) hd hl (all_part d P f _ (hf.below hB) _ b1))
  have he : ∀ a w, (callFunc 102 a).run Tryz.prog w = .ok (.enter 102 a) w := fun a w => by kernel_rfl
  rw [← any_not P l]
  clear hv hd hf b1
  go_enter Tryz.func71, Tryz.ntmps71
  go_wp2_with fail
  refine HI.out.mono ?_
  rintro e w1 ⟨rfl, hb1⟩
  have hB1 := hB.trans (hb1.mono hB.size)
  clear hb1 hB
  go_wp2_with fail
  go_ret
  exact ⟨rfl, hB1⟩

set_option maxHeartbeats 1000000 in
theorem list_any (d : Nat) (P : Nd → Bool) (f : Fv) (v : Value) (n : Nd) (w : World) (hv : NodeW w v n) (hd : DLe (d + 1) n) (hf : SoC d P f w) :
    Calls Tryz.prog 163 #[v, .func (.func f.k) #[] f.cap] w fun e w' => e = .returned (.bool (listT P n)) ∧ Below w.heap.size w w' := by
  have hV0 := hv
  obtain ⟨A, cp, rfl, hC⟩ := hv.toC
  have hB := (Below.refl w.heap.size w).alloc (Nat.le_refl _) (.cells #[.int .i64 n.kind, .string n.text, .slice A n.kids.length cp, .int .i64 n.pos] 24)
  have HI := Lib.hid (tall_any d P f A cp n.kids _ (hV0.below hB).kidsV hd.2 hd.1.1 (hf.below hB))
  have hE : listT P n = (n.kind == 6 && (n.text.toList.isEmpty && n.kids.all P)) := by
    unfold listT
    rw [isEmpty_dec, beq_dec]
  rw [hE]
  clear hE hV0 hv hC hd hf
  generalize n.kids.all P = q at *
  generalize n.kind = k at *
  generalize n.text = t at *
  cases h1 : (k == 6) <;> cases h2 : t.toList.isEmpty
  all_goals
    go_enter Tryz.func163, Tryz.ntmps163
    go_wp2_with fail
    try
      refine HI.out.mono ?_
      rintro e w1 ⟨rfl, hb1⟩
      have hB1 := hB.trans (hb1.mono hB.size)
      clear hb1
      go_wp2_with fail
    go_ret
    exact ⟨rfl, by assumption⟩
end Go.Proofs.YtnalfjaojcahhaaGreatDoor
namespace Go.Proofs.YtnalfjaojcahhaaGreatDoor
open Go.RowKit Go.Lib Go.Proofs
attribute [local go_sem ↓] Go.wp_at_zero Go.wp_at_succ

theorem askAll_len : ∀ (l : List (Nd → Bool)) (ns : List Nd), l.length ≠ ns.length → askAll l ns = false
  | [], [], h => absurd rfl h
  | [], _ :: _, _ => rfl
  | _ :: _, [], _ => rfl
  | p :: l, n :: ns, h => by
    rw [askAll, askAll_len l ns (by simpa using h)]
    simp
theorem askAll_drop (l : List (Nd → Bool)) (ns : List Nd) (i : Nat) (hi : i < l.length) (hn : i < ns.length) : askAll (l.drop i) (ns.drop i) = (l[i] ns[i] && askAll (l.drop (i + 1)) (ns.drop (i + 1))) := by
  rw [List.drop_eq_getElem_cons hi, List.drop_eq_getElem_cons hn, askAll]

/-- Function values in a row of the call's. -/
def FvsAt (w : World) (B : Option Addr) (fs : List (Fv × (Nd → Bool))) : Prop :=
  (fs = [] ∧ B = none) ∨ ∃ b, B = some ⟨b, 0, none⟩ ∧ Blk w b 33 (fs.map fun x => Value.func (.func x.1.k) #[] x.1.cap).toArray
theorem FvsAt.below {w w' : World} {B : Option Addr} {fs : List (Fv × (Nd → Bool))} (h : FvsAt w B fs) (hb : Below w.heap.size w w') : FvsAt w' B fs := by
  rcases h with h | ⟨b, e, h⟩
  · exact .inl h
  · exact .inr ⟨b, e, h.below hb h.lt⟩
theorem FvsAt.get {w : World} {B : Option Addr} {fs : List (Fv × (Nd → Bool))} (h : FvsAt w B fs) (i : Nat) (hi : i < fs.length) : ∃ b, B = some ⟨b, 0, none⟩ ∧ b < w.heap.size ∧ w.cell? ⟨b, i, none⟩ = some (.func (.func fs[i].1.k) #[] fs[i].1.cap) := by
  rcases h with ⟨rfl, _⟩ | ⟨b, e, h⟩
  · simp at hi
  · refine ⟨b, e, h.lt, ?_⟩
    rw [h.cell i]
    simp [hi]

set_option maxHeartbeats 2000000 in
theorem tof_any (d : Nat) (fs : List (Fv × (Nd → Bool))) (k : Int) (v : Value) (n : Nd) (B : Option Addr) (w : World) (m : Nat) (hm : fs.length = m) (hm9 : m ≤ 9)
    (hv : NodeW w v n) (hd : DLe (d + 1) n) (hB : FvsAt w B fs) (hs : ∀ x ∈ fs, SoC d x.2 x.1 w) :
    Calls Tryz.prog 103 #[v, .int .i64 k, .slice B m m] w fun e w' => e = .returned (.bool (ofT k (fs.map (·.2)) n)) ∧ Below w.heap.size w w' := by
  have hV0 := hv
  obtain ⟨A, cp, rfl, hC⟩ := hv.toC
  have hb0 := (Below.refl w.heap.size w).alloc (Nat.le_refl _) (.cells #[.int .i64 n.kind, .string n.text, .slice A n.kids.length cp, .int .i64 n.pos] 24)
  have b1 : Blk (w.alloc (.cells #[.int .i64 n.kind, .string n.text, .slice A n.kids.length cp, .int .i64 n.pos] 24)) w.heap.size 24 #[.int .i64 n.kind, .string n.text, .slice A n.kids.length cp, .int .i64 n.pos] := Blk.new w _ _
  have HK := Lib.hid (NodeV.kidsV (hV0.below hb0))
  have HF := Lib.hid (hB.below hb0)
  have HS := Lib.hid (fun x hx => (hs x hx).below hb0)
  have HM := Lib.hid hm
  have HD := Lib.hid hd.2
  have hlen := hd.1.1
  have hE : ofT k (fs.map (·.2)) n = (!(n.kind != k) && (!(!n.text.toList.isEmpty) && (!((n.kids.length : Int) != (m : Int)) && askAll (fs.map (·.2)) n.kids))) := by
    unfold ofT
    rw [isEmpty_dec]
    by_cases h3 : n.kids.length = m
    · have : ((n.kids.length : Int) != (m : Int)) = false := by simp [h3]
      rw [this]
      simp [bne, beq_dec]
    · have h4 : ((n.kids.length : Int) != (m : Int)) = true := by simp; omega
      rw [h4, askAll_len (fs.map (·.2)) n.kids (by rw [List.length_map]; omega)]
      simp
  rw [hE]
  clear hE hV0 hv hC hd hB hs hm
  generalize hI : askAll (fs.map (·.2)) n.kids = I
  have HI := Lib.hid hI
  clear hI
  generalize n.kind = nk at *
  generalize n.text = nt at *
  generalize n.kids = ks at *
  cases h1 : (nk != k) with
  | true =>
    go_enter Tryz.func103, Tryz.ntmps103
    go_wp2_with fail
    go_ret
    exact ⟨rfl, hb0⟩
  | false =>
    cases h2 : nt.toList.isEmpty with
    | false =>
      go_enter Tryz.func103, Tryz.ntmps103
      go_wp2_with fail
      go_ret
      exact ⟨rfl, hb0⟩
    | true =>
      cases h3 : ((ks.length : Int) != (m : Int)) with
      | true =>
        go_enter Tryz.func103, Tryz.ntmps103
        go_wp2_with fail
        go_ret
        exact ⟨rfl, hb0⟩
      | false =>
        have HKM := Lib.hid (show ks.length = m by simp at h3; omega)
        go_enter Tryz.func103, Tryz.ntmps103
        go_wp2_with fail
        clear h3
        go_loopg [7, 8, 28] m (fun g _ _ u28 wr => ∃ i : Nat, i ≤ m ∧ m - i ≤ g ∧ u28 = .int .i64 (i : Int) ∧ askAll ((fs.map (·.2)).drop i) (ks.drop i) = I ∧ Below (w.heap.size + 1) (w.alloc (.cells #[.int .i64 nk, .string nt, .slice A ks.length cp, .int .i64 n.pos] 24)) wr)
        case atStart => exact ⟨0, Nat.zero_le _, by omega, rfl, by simpa using HI.out, Below.refl _ _⟩
        case round =>
          obtain ⟨i, hi, hg, rfl, hI, hB⟩ := hrel
          have HI := Lib.hid hI
          have hBr := hb0.trans (hB.mono (by omega))
          have HB2 := Lib.hid (show Below (w.alloc (.cells #[.int .i64 nk, .string nt, .slice A ks.length cp, .int .i64 n.pos] 24)).heap.size (w.alloc (.cells #[.int .i64 nk, .string nt, .slice A ks.length cp, .int .i64 n.pos] 24)) wr by simpa using hB)
          obtain ⟨x0, x1, x2, x3, _, _, _, _⟩ := blk4 (b1.below hB (by omega))
          have hsz : w.heap.size + 1 ≤ wr.heap.size := by have := hB.size; simpa using this
          clear hI hB
          by_cases hlt : i < m
          · have hlt2 : (i : Int) < (m : Int) := by omega
            have h0 : (0 : Int) ≤ (i : Int) := by omega
            have hlt3 : (i : Int) < (ks.length : Int) := by rw [HKM.out]; omega
            obtain ⟨_, b, off, A1, cp1, rfl, hb, k0, k1, k2, k3, hn⟩ := NodesW.at_ (HK.out.below HB2.out) i (by rw [HKM.out]; exact hlt)
            obtain ⟨bf, rfl, hbf, f0⟩ := (HF.out.below HB2.out).get i (by rw [HM.out]; exact hlt)
            have HSo := HS.out (fs[i]'(by rw [HM.out]; exact hlt)) (List.getElem_mem _)
            have he := HSo.enter
            have HC := Lib.hid (HSo.out _ _ _ HB2.out hn (HD.out _ (List.getElem_mem _)))
            have HE := Lib.hid (askAll_drop (fs.map (·.2)) ks i (by rw [List.length_map, HM.out]; exact hlt) (by rw [HKM.out]; exact hlt))
            simp only [List.getElem_map] at HE
            generalize fs[i]'(by rw [HM.out]; exact hlt) = ff at *
            generalize ks[i]'(by rw [HKM.out]; exact hlt) = x at *
            clear hn HSo
            cases hP : ff.2 x with
            | true =>
              have HX := Lib.hid (show askAll ((fs.map (·.2)).drop (i + 1)) (ks.drop (i + 1)) = I by rw [← HI.out, HE.out, hP]; rfl)
              go_wp2_with fail
              refine HC.out.mono ?_
              rw [hP]
              rintro e w1 ⟨rfl, hb1⟩
              have hB1 := HB2.out.trans (hb1.mono HB2.out.size)
              clear hb1 HC
              go_wp2_with fail
              go_roundg (m - (i + 1))
              case measure => omega
              case rel => exact ⟨i + 1, by omega, Nat.le_refl _, by go_num, HX.out, by simpa using hB1⟩
            | false =>
              have HX := Lib.hid (show I = false by rw [← HI.out, HE.out, hP]; rfl)
              go_wp2_with fail
              refine HC.out.mono ?_
              rw [hP]
              rintro e w1 ⟨rfl, hb1⟩
              have hB1 := hBr.trans (hb1.mono hBr.size)
              clear hb1 HC
              go_wp2_with fail
              go_ret
              exact ⟨by rw [HX.out]; rfl, hB1⟩
          · have hlt2 : ¬ (i : Int) < (m : Int) := by omega
            have h4 : ks.drop i = [] := List.drop_of_length_le (by rw [HKM.out]; omega)
            have h5 : (fs.map (·.2)).drop i = [] := List.drop_of_length_le (by rw [List.length_map, HM.out]; omega)
            have HX := Lib.hid (show I = true by rw [← HI.out, h4, h5]; rfl)
            clear h4 h5
            go_wp2_with fail
            go_ret
            exact ⟨by rw [HX.out]; rfl, hBr⟩
end Go.Proofs.YtnalfjaojcahhaaGreatDoor
