/-
  Variables' declarations: variable. By an AI agent.
-/
import Derived.Test.YtnalfjaojcahhaaGreatDoorJ11
namespace Go.Proofs.YtnalfjaojcahhaaGreatDoor
open Go.RowKit Go.Lib Go.Proofs
attribute [local go_sem ↓] Go.wp_at_zero Go.wp_at_succ
attribute [local go_sem] fld_tok0 fld_tok1 fld_tok2 fld_nd0 fld_nd1 fld_nd2 fld_nd3

/-- A node whose kids' row is a block known whole. -/
theorem NodeV.of_block {X : Nat → Prop} {w : World} {K k : Nat} {l : List Nd} {xs : List Value} (hk : l.length = k) (hb : Blk w K 24 xs.toArray) (hX : X K) (hn : NodesC X w l xs) (kind : Int) (t : ByteArray) (pos : Int) :
    NodeV X w (.agg #[.int .i64 kind, .string t, .slice (some ⟨K, 0, none⟩) k k, .int .i64 pos]) (.mk kind t l pos) := by
  subst hk
  refine ⟨some ⟨K, 0, none⟩, l.length, xs, rfl, Nat.le_refl _, ⟨hn.len, fun _ => ⟨K, 0, rfl, hX, fun j u hu => ?_⟩⟩, hn⟩
  have := hb.cell (0 + j)
  rw [this, Nat.zero_add]
  simpa using hu
theorem nd0_cells {X : Nat → Prop} {w : World} : NodeC X w nd0 [.int .i64 0, .string ⟨#[]⟩, .slice none 0 0, .int .i64 0] := by
  unfold nd0 NodeC
  exact ⟨none, 0, [], rfl, Nat.le_refl _, ⟨rfl, fun h => absurd h (by simp)⟩, NodesC.nil⟩

/-- The eight cells of a row of two, and which are not frozen. -/
theorem blk8 {w : World} {g : Nat} {t : TypeId} {a b c d a' b' c' d' : Value} (h : Blk w g t #[a, b, c, d, a', b', c', d']) :
    w.cell? ⟨g, 0, none⟩ = some a ∧ w.cell? ⟨g, 1, none⟩ = some b ∧ w.cell? ⟨g, 2, none⟩ = some c ∧ w.cell? ⟨g, 3, none⟩ = some d ∧ w.cell? ⟨g, 4, none⟩ = some a' ∧ w.cell? ⟨g, 5, none⟩ = some b' ∧ w.cell? ⟨g, 6, none⟩ = some c' ∧ w.cell? ⟨g, 7, none⟩ = some d' ∧ (∀ i, w.frozen? ⟨g, i, none⟩ = false) := by
  have c0 := h.cell 0
  have c1 := h.cell 1
  have c2 := h.cell 2
  have c3 := h.cell 3
  have c4 := h.cell 4
  have c5 := h.cell 5
  have c6 := h.cell 6
  have c7 := h.cell 7
  simp at c0 c1 c2 c3 c4 c5 c6 c7
  exact ⟨c0, c1, c2, c3, c4, c5, c6, c7, h.frozen⟩

set_option maxRecDepth 100000 in
set_option maxHeartbeats 4000000 in
theorem variable_any (E : Env) (F : Fns) (hF : OkF E F) : ReadC E (variableR F) 99 := by
  intro w s h hno
  generalize hres : variableR F E.c s = res at *
  have HRES := Lib.hid hres
  have HNE := Lib.hid hno
  have hltR := h.lt
  clear hres hno
  go_enter Tryz.func99, Tryz.ntmps99
  go_wp2_with fail
  refine (next_any E s _ (h.alloc _)).mono ?_
  unfold tokV
  rintro e w1 ⟨rfl, hb1⟩
  have hq1 := ((Seen.refl h).alloc _).step hb1
  have hG1 := (Blk.new w 24 ndZ).below hb1 (by simp)
  have hltG1 := hG1.lt
  clear hb1
  go_wp2_with fail
  cases hA : isS E.c s (⟨#[118, 97, 114]⟩ : ByteArray) with
  | false =>
    refine (need_no E s _ _ hq1.rd hA).mono ?_
    rintro e w4 ⟨rfl, hb4⟩
    unfold wrongV
    exact ⟨rfl, end_fail (by rw [← HRES.out, variableR, need]; simp [hA]) hq1.moved.gr (grownBy_of_below _ hb4)⟩
  | true =>
    have HE := Lib.hid (show (nameR E.c (adv s)).bind (fun x s2 => if isS E.c s2 (⟨#[61]⟩ : ByteArray) then (F.expr E.c (adv s2)).bind fun v s3 => .ok (.mk 5 x [nd0, v] (posS E.c s)) s3 else (F.typ E.c s2).bind fun t s3 => if isS E.c s3 (⟨#[61]⟩ : ByteArray) then (F.expr E.c (adv s3)).bind fun v s4 => .ok (.mk 5 x [t, v] (posS E.c s)) s4 else .ok (.mk 5 x [t, nd0] (posS E.c s)) s3) = res by
      rw [← HRES.out, variableR, need]; simp only [hA, if_true, Res.bind_ok])
    refine (need_yes E s _ _ hq1.rd hA).mono ?_
    rintro e w2 ⟨rfl, hm2⟩
    have hG2 := hG1.grown hm2.gr (fun e => by injection e with e; omega)
    have hM2 := hq1.moved.trans hm2
    clear HRES hA hG1 hq1 hm2
    go_wp2_with fail
    by_cases hN : (tokAt E.c (adv s).at_).kind = 1
    case neg =>
      refine (name_no E (adv s) _ hM2.rd hN).mono ?_
      rintro e w6 ⟨rfl, hb6⟩
      unfold wrongV
      exact ⟨rfl, end_fail (by rw [← HE.out, nameR, if_neg hN]; rfl) hM2.gr (grownBy_of_below _ hb6)⟩
    have HE2 := Lib.hid (show (if isS E.c (adv (adv s)) (⟨#[61]⟩ : ByteArray) then (F.expr E.c (adv (adv (adv s)))).bind fun v s3 => .ok (.mk 5 (tokAt E.c (adv s).at_).text [nd0, v] (posS E.c s)) s3 else (F.typ E.c (adv (adv s))).bind fun t s3 => if isS E.c s3 (⟨#[61]⟩ : ByteArray) then (F.expr E.c (adv s3)).bind fun v s4 => .ok (.mk 5 (tokAt E.c (adv s).at_).text [t, v] (posS E.c s)) s4 else .ok (.mk 5 (tokAt E.c (adv s).at_).text [t, nd0] (posS E.c s)) s3) = res by
      rw [← HE.out, nameR, if_pos hN]; rfl)
    refine (name_yes E (adv s) _ hM2.rd hN).mono ?_
    rintro e w3 ⟨rfl, hm3⟩
    have hG3 := hG2.grown hm3.gr (fun e => by injection e with e; omega)
    have hM3 := hM2.trans hm3
    have hltG3 := hG3.lt
    clear HE hN hG2 hM2 hm3
    generalize (tokAt E.c (adv s).at_).text = tx at *
    go_wp2_with fail
    refine (node_any _ _ _ _ _ ⟨_, _, _, rfl⟩).mono ?_
    rintro e w4 ⟨rfl, hb4⟩
    have hK4 := (Blk.new w3 24 #[.int .i64 0, .string (⟨#[]⟩ : ByteArray), .slice none 0 0, .int .i64 0, .int .i64 0, .string (⟨#[]⟩ : ByteArray), .slice none 0 0, .int .i64 0]).below hb4 (by simp)
    have hG4 := (hG3.alloc _).below hb4 (by simp; omega)
    have hM4 := (hM3.alloc _).step hb4
    have hs4 : w3.heap.size + 1 ≤ w4.heap.size := by have := hb4.size; simp at this; omega
    clear hb4 hG3 hM3
    go_wp2_with fail
    have hL5 := Blk.new w4 24 #[.int .i64 5, .string tx, .slice (some ⟨w3.heap.size, 0, none⟩) 2 2, .int .i64 (posS E.c s)]
    have hK5 := hK4.alloc (.cells #[.int .i64 5, .string tx, .slice (some ⟨w3.heap.size, 0, none⟩) 2 2, .int .i64 (posS E.c s)] 24)
    have hG5 := hG4.alloc (.cells #[.int .i64 5, .string tx, .slice (some ⟨w3.heap.size, 0, none⟩) 2 2, .int .i64 (posS E.c s)] 24)
    have hM5 := hM4.alloc (.cells #[.int .i64 5, .string tx, .slice (some ⟨w3.heap.size, 0, none⟩) 2 2, .int .i64 (posS E.c s)] 24)
    clear hK4 hG4 hM4
    cases hI : isS E.c (adv (adv s)) (⟨#[61]⟩ : ByteArray) with
    | true =>
      have HE3 := Lib.hid (show (F.expr E.c (adv (adv (adv s)))).bind (fun v s3 => .ok (.mk 5 tx [nd0, v] (posS E.c s)) s3) = res by rw [← HE2.out]; simp only [hI, if_true])
      refine (takes_yes E (adv (adv s)) _ _ hM5.rd hI).mono ?_
      rintro e w6 ⟨rfl, hm6⟩
      have hL6 := hL5.grown hm6.gr (fun e => by injection e with e; omega)
      have hK6 := hK5.grown hm6.gr (fun e => by injection e with e; omega)
      have hG6 := hG5.grown hm6.gr (fun e => by injection e with e; omega)
      have hM6 := hM5.trans hm6
      have hs6 : w4.heap.size + 1 ≤ w6.heap.size := by have := hm6.gr.size; simp at this; omega
      clear HE2 hI hL5 hK5 hG5 hM5 hm6
      obtain ⟨x0, x1, x2, x3, _, _, _, _⟩ := blk4 hL6
      cases hP : F.expr E.c (adv (adv (adv s))) with
      | out => exact absurd HE3.out.symm (by rw [hP]; exact HNE.out)
      | fail q =>
        have HF := Lib.hid (show res = .fail q by rw [← HE3.out, hP]; rfl)
        go_wp2_with fail
        let SS : World → Prop := fun w' => w'.cell? ⟨w4.heap.size, 2, none⟩ = some (.slice (some ⟨w3.heap.size, 0, none⟩) 2 2)
        have HSS : SS w6.drew := x2
        (refine wp_region_held_drew (S := SS) (by kernel_rfl) HSS ?_; intro hSd; (refine wpAnyH_take (i := 0) (v := ?vv1x0) rfl (by kernel_rfl) (by kernel_rfl) (by kernel_rfl) (fun _ _ _ h => h) (Or.inl ⟨by rfl, ?hy1x0⟩) hSd ?rest1x0); (case hy1x0 => (intro w hSw; (try dsimp only [SS] at hSw); go_simp; try (with_reducible rfl))); (refine wpAnyH_take (i := 1) (v := ?vv1x1) rfl (by kernel_rfl) (by kernel_rfl) (by kernel_rfl) (fun _ _ _ h => h) (Or.inl ⟨by rfl, ?hy1x1⟩) hSd ?rest1x1); (case hy1x1 => (intro w hSw; (try dsimp only [SS] at hSw); go_simp; try (with_reducible rfl))); (refine wpAnyH_take (i := 2) (v := ?vv1x2) rfl (by kernel_rfl) (by kernel_rfl) (by kernel_rfl) (fun _ _ _ h => h) (Or.inl ⟨by rfl, ?hy1x2⟩) hSd ?rest1x2); (case hy1x2 => (intro w hSw; (try dsimp only [SS] at hSw); go_simp; try (with_reducible rfl))); (refine wpAnyH_ready (rs := [3]) (by kernel_rfl) (by simp) ?_); (refine AllReadyH.cons rfl (fun K hK => ?_) AllReadyH.nil); go_simp)
        refine (hF.expr _ _ hM6.drew.rd (by rw [hP]; exact nofun)).mono ?_
        rw [hP]
        rintro e w7 ⟨rfl, hg7⟩
        unfold wrongV
        exact ⟨rfl, end_fail HF.out hM6.drew.gr hg7⟩
      | ok n2 s3 =>
        have HF := Lib.hid (show res = .ok (.mk 5 tx [nd0, n2] (posS E.c s)) s3 by rw [← HE3.out, hP]; rfl)
        have HC := Lib.hid (fun W (hr : RdAt E W (adv (adv (adv s)))) => hF.expr W _ hr (by rw [hP]; exact nofun))
        rw [hP] at HC
        clear HE3 hP
        have hRL : w4.heap.size ≠ E.R := by omega
        have hKL : w3.heap.size ≠ w4.heap.size := by omega
        go_wp2_with fail
        go_region_held3 (fun w' => w'.cell? ⟨w4.heap.size, 2, none⟩ = some (.slice (some ⟨w3.heap.size, 0, none⟩) 2 2))
          (first | with_reducible exact z2 | exact x2 | (rw [World.cell?_setCell_far _ _ _ _ (by exact hKL), World.cell?_setCell_far _ _ _ _ (by exact hKL), World.cell?_setCell_far _ _ _ _ (by exact hKL), World.cell?_setCell_far _ _ _ _ (by exact hKL)]; exact z2))
          ((go_at_call 157; refine (HC.out _ hM6.drew.rd).mono ?_; rintro e w7 ⟨⟨v, rfl, hv7⟩, hm7⟩; obtain ⟨A7, c7, rfl, hC7⟩ := hv7.toC; have hL7 := hL6.drew.grown hm7.gr (fun e => hRL (by injection e)); have hK7 := hK6.drew.grown hm7.gr (fun e => by injection e with e; omega); have hG7 := hG6.drew.grown hm7.gr (fun e => by injection e with e; omega); obtain ⟨z0, z1, z2, z3, _, _, _, _⟩ := blk4 hL7; obtain ⟨k0, k1, k2, k3, k4, k5, k6, k7, kf⟩ := blk8 hK7; have kf4 := kf 4; have kf5 := kf 5; have kf6 := kf 6; have kf7 := kf 7; clear kf))
        have hM7 := hM6.drew.trans hm7
        have hs7 : w6.heap.size ≤ w7.heap.size := hm7.gr.size
        obtain ⟨d0, d1, d2, d3, e0, e1, e2, e3⟩ := blk4 hG7
        have hKG : w3.heap.size ≠ w.heap.size := by omega
        have hGL : w4.heap.size ≠ w.heap.size := by omega
        go_wp2_with fail
        have hK8 : Blk ((((w7.setCell ⟨w3.heap.size, 4, none⟩ (.int .i64 n2.kind)).setCell ⟨w3.heap.size, 5, none⟩ (.string n2.text)).setCell ⟨w3.heap.size, 6, none⟩ (.slice A7 n2.kids.length c7)).setCell ⟨w3.heap.size, 7, none⟩ (.int .i64 n2.pos)) w3.heap.size 24 #[.int .i64 0, .string (⟨#[]⟩ : ByteArray), .slice none 0 0, .int .i64 0, .int .i64 n2.kind, .string n2.text, .slice A7 n2.kids.length c7, .int .i64 n2.pos] := by
          simpa using (((hK7.set_ 4 (.int .i64 n2.kind)).set_ 5 (.string n2.text)).set_ 6 (.slice A7 n2.kids.length c7)).set_ 7 (.int .i64 n2.pos)
        have hC8 := (hC7.mono (Y := fun b => w6.heap.size ≤ b) (fun b hb _ => hb)).keep (w' := (((w7.setCell ⟨w3.heap.size, 4, none⟩ (.int .i64 n2.kind)).setCell ⟨w3.heap.size, 5, none⟩ (.string n2.text)).setCell ⟨w3.heap.size, 6, none⟩ (.slice A7 n2.kids.length c7)).setCell ⟨w3.heap.size, 7, none⟩ (.int .i64 n2.pos)) (KeepsX.block (by
          refine ((((KeepsX.refl _ _).setCell ?_ _).setCell ?_ _).setCell ?_ _).setCell ?_ _ <;> (intro hX; simp at hX; omega)))
        have hM8 := (((hM7.own (p := ⟨w3.heap.size, 4, none⟩) (by show w.heap.size ≤ w3.heap.size; omega) (by show E.R < w3.heap.size; omega) (.int .i64 n2.kind)).own (p := ⟨w3.heap.size, 5, none⟩) (by show w.heap.size ≤ w3.heap.size; omega) (by show E.R < w3.heap.size; omega) (.string n2.text)).own (p := ⟨w3.heap.size, 6, none⟩) (by show w.heap.size ≤ w3.heap.size; omega) (by show E.R < w3.heap.size; omega) (.slice A7 n2.kids.length c7)).own (p := ⟨w3.heap.size, 7, none⟩) (by show w.heap.size ≤ w3.heap.size; omega) (by show E.R < w3.heap.size; omega) (.int .i64 n2.pos)
        have hG8 := (((hG7.far (p := ⟨w3.heap.size, 4, none⟩) (by exact hKG.symm) (.int .i64 n2.kind)).far (p := ⟨w3.heap.size, 5, none⟩) (by exact hKG.symm) (.string n2.text)).far (p := ⟨w3.heap.size, 6, none⟩) (by exact hKG.symm) (.slice A7 n2.kids.length c7)).far (p := ⟨w3.heap.size, 7, none⟩) (by exact hKG.symm) (.int .i64 n2.pos)
        have hV := NodeV.of_block (X := fun b => w.heap.size + 1 ≤ b) (k := 2) rfl hK8 (by show w.heap.size + 1 ≤ w3.heap.size; omega) (NodesC.cons nd0_cells (NodesC.one (hC8.mono (Y := fun b => w.heap.size + 1 ≤ b) (fun b hb _ => by omega)))) 5 tx (posS E.c s)
        refine end_node HF.out hV hM8 hG8 (Nat.le_refl _) hltR ?_ rfl (by rfl) rfl
        intro b hb
        constructor <;> omega
    | false =>
      have HE3 := Lib.hid (show (F.typ E.c (adv (adv s))).bind (fun t s3 => if isS E.c s3 (⟨#[61]⟩ : ByteArray) then (F.expr E.c (adv s3)).bind fun v s4 => .ok (.mk 5 tx [t, v] (posS E.c s)) s4 else .ok (.mk 5 tx [t, nd0] (posS E.c s)) s3) = res by rw [← HE2.out]; simp only [hI, Bool.false_eq_true, if_false])
      refine (takes_no E (adv (adv s)) _ _ hM5.rd hI).mono ?_
      rintro e w6 ⟨rfl, hq6⟩
      have hL6 := hL5.below hq6.bel (by simp)
      have hK6 := hK5.below hq6.bel (by simp; omega)
      have hG6 := hG5.below hq6.bel (by simp; omega)
      have hM6 := hM5.trans hq6.moved
      have hs6 : w4.heap.size + 1 ≤ w6.heap.size := by have := hq6.bel.size; simp at this; omega
      clear HE2 hI hL5 hK5 hG5 hM5 hq6
      obtain ⟨x0, x1, x2, x3, _, _, _, _⟩ := blk4 hL6
      have hRL : w4.heap.size ≠ E.R := by omega
      have hKL : w3.heap.size ≠ w4.heap.size := by omega
      have hKG : w3.heap.size ≠ w.heap.size := by omega
      have hGL : w4.heap.size ≠ w.heap.size := by omega
      cases hP : F.typ E.c (adv (adv s)) with
      | out => exact absurd HE3.out.symm (by rw [hP]; exact HNE.out)
      | fail q =>
        have HF := Lib.hid (show res = .fail q by rw [← HE3.out, hP]; rfl)
        go_wp2_with fail
        let SS : World → Prop := fun w' => w'.cell? ⟨w4.heap.size, 2, none⟩ = some (.slice (some ⟨w3.heap.size, 0, none⟩) 2 2)
        have HSS : SS w6.drew := x2
        (refine wp_region_held_drew (S := SS) (by kernel_rfl) HSS ?_; intro hSd; (refine wpAnyH_take (i := 0) (v := ?vv2x0) rfl (by kernel_rfl) (by kernel_rfl) (by kernel_rfl) (fun _ _ _ h => h) (Or.inl ⟨by rfl, ?hy2x0⟩) hSd ?rest2x0); (case hy2x0 => (intro w hSw; (try dsimp only [SS] at hSw); go_simp; try (with_reducible rfl))); (refine wpAnyH_take (i := 1) (v := ?vv2x1) rfl (by kernel_rfl) (by kernel_rfl) (by kernel_rfl) (fun _ _ _ h => h) (Or.inl ⟨by rfl, ?hy2x1⟩) hSd ?rest2x1); (case hy2x1 => (intro w hSw; (try dsimp only [SS] at hSw); go_simp; try (with_reducible rfl))); (refine wpAnyH_take (i := 2) (v := ?vv2x2) rfl (by kernel_rfl) (by kernel_rfl) (by kernel_rfl) (fun _ _ _ h => h) (Or.inl ⟨by rfl, ?hy2x2⟩) hSd ?rest2x2); (case hy2x2 => (intro w hSw; (try dsimp only [SS] at hSw); go_simp; try (with_reducible rfl))); (refine wpAnyH_ready (rs := [3]) (by kernel_rfl) (by simp) ?_); (refine AllReadyH.cons rfl (fun K hK => ?_) AllReadyH.nil); go_simp)
        refine (hF.typ _ _ hM6.drew.rd (by rw [hP]; exact nofun)).mono ?_
        rw [hP]
        rintro e w7 ⟨rfl, hg7⟩
        unfold wrongV
        exact ⟨rfl, end_fail HF.out hM6.drew.gr hg7⟩
      | ok n2 s3 =>
        have HE4 := Lib.hid (show (if isS E.c s3 (⟨#[61]⟩ : ByteArray) then (F.expr E.c (adv s3)).bind (fun v s4 => .ok (.mk 5 tx [n2, v] (posS E.c s)) s4) else .ok (.mk 5 tx [n2, nd0] (posS E.c s)) s3) = res by rw [← HE3.out, hP]; rfl)
        have HC := Lib.hid (fun W (hr : RdAt E W (adv (adv s))) => hF.typ W _ hr (by rw [hP]; exact nofun))
        rw [hP] at HC
        clear HE3 hP
        go_wp2_with fail
        go_region_held3 (fun w' => w'.cell? ⟨w4.heap.size, 2, none⟩ = some (.slice (some ⟨w3.heap.size, 0, none⟩) 2 2))
          (first | with_reducible exact z2 | exact x2 | (rw [World.cell?_setCell_far _ _ _ _ (by exact hKL), World.cell?_setCell_far _ _ _ _ (by exact hKL), World.cell?_setCell_far _ _ _ _ (by exact hKL), World.cell?_setCell_far _ _ _ _ (by exact hKL)]; exact z2))
          ((go_at_call 150; refine (HC.out _ hM6.drew.rd).mono ?_; rintro e w7 ⟨⟨v, rfl, hv7⟩, hm7⟩; obtain ⟨A7, c7, rfl, hC7⟩ := hv7.toC; have hL7 := hL6.drew.grown hm7.gr (fun e => hRL (by injection e)); have hK7 := hK6.drew.grown hm7.gr (fun e => by injection e with e; omega); have hG7 := hG6.drew.grown hm7.gr (fun e => by injection e with e; omega); obtain ⟨z0, z1, z2, z3, _, _, _, _⟩ := blk4 hL7; obtain ⟨k0, k1, k2, k3, k4, k5, k6, k7, kf⟩ := blk8 hK7; have kf0 := kf 0; have kf1 := kf 1; have kf2 := kf 2; have kf3 := kf 3; clear kf))
        have hM7 := hM6.drew.trans hm7
        have hs7 : w6.heap.size ≤ w7.heap.size := hm7.gr.size
        have hK8 : Blk ((((w7.setCell ⟨w3.heap.size, 0, none⟩ (.int .i64 n2.kind)).setCell ⟨w3.heap.size, 1, none⟩ (.string n2.text)).setCell ⟨w3.heap.size, 2, none⟩ (.slice A7 n2.kids.length c7)).setCell ⟨w3.heap.size, 3, none⟩ (.int .i64 n2.pos)) w3.heap.size 24 #[.int .i64 n2.kind, .string n2.text, .slice A7 n2.kids.length c7, .int .i64 n2.pos, .int .i64 0, .string (⟨#[]⟩ : ByteArray), .slice none 0 0, .int .i64 0] := by
          simpa using (((hK7.set_ 0 (.int .i64 n2.kind)).set_ 1 (.string n2.text)).set_ 2 (.slice A7 n2.kids.length c7)).set_ 3 (.int .i64 n2.pos)
        have hC8 := (hC7.mono (Y := fun b => w6.heap.size ≤ b) (fun b hb _ => hb)).keep (w' := (((w7.setCell ⟨w3.heap.size, 0, none⟩ (.int .i64 n2.kind)).setCell ⟨w3.heap.size, 1, none⟩ (.string n2.text)).setCell ⟨w3.heap.size, 2, none⟩ (.slice A7 n2.kids.length c7)).setCell ⟨w3.heap.size, 3, none⟩ (.int .i64 n2.pos)) (KeepsX.block (by
          refine ((((KeepsX.refl _ _).setCell ?_ _).setCell ?_ _).setCell ?_ _).setCell ?_ _ <;> (intro hX; simp at hX; omega)))
        have hM8 := (((hM7.own (p := ⟨w3.heap.size, 0, none⟩) (by show w.heap.size ≤ w3.heap.size; omega) (by show E.R < w3.heap.size; omega) (.int .i64 n2.kind)).own (p := ⟨w3.heap.size, 1, none⟩) (by show w.heap.size ≤ w3.heap.size; omega) (by show E.R < w3.heap.size; omega) (.string n2.text)).own (p := ⟨w3.heap.size, 2, none⟩) (by show w.heap.size ≤ w3.heap.size; omega) (by show E.R < w3.heap.size; omega) (.slice A7 n2.kids.length c7)).own (p := ⟨w3.heap.size, 3, none⟩) (by show w.heap.size ≤ w3.heap.size; omega) (by show E.R < w3.heap.size; omega) (.int .i64 n2.pos)
        have hG8 := (((hG7.far (p := ⟨w3.heap.size, 0, none⟩) (by exact hKG.symm) (.int .i64 n2.kind)).far (p := ⟨w3.heap.size, 1, none⟩) (by exact hKG.symm) (.string n2.text)).far (p := ⟨w3.heap.size, 2, none⟩) (by exact hKG.symm) (.slice A7 n2.kids.length c7)).far (p := ⟨w3.heap.size, 3, none⟩) (by exact hKG.symm) (.int .i64 n2.pos)
        have hL8 := (((hL7.far (p := ⟨w3.heap.size, 0, none⟩) (by exact hKL.symm) (.int .i64 n2.kind)).far (p := ⟨w3.heap.size, 1, none⟩) (by exact hKL.symm) (.string n2.text)).far (p := ⟨w3.heap.size, 2, none⟩) (by exact hKL.symm) (.slice A7 n2.kids.length c7)).far (p := ⟨w3.heap.size, 3, none⟩) (by exact hKL.symm) (.int .i64 n2.pos)
        have hs8 : w7.heap.size ≤ ((((w7.setCell ⟨w3.heap.size, 0, none⟩ (.int .i64 n2.kind)).setCell ⟨w3.heap.size, 1, none⟩ (.string n2.text)).setCell ⟨w3.heap.size, 2, none⟩ (.slice A7 n2.kids.length c7)).setCell ⟨w3.heap.size, 3, none⟩ (.int .i64 n2.pos)).heap.size := by simp
        clear hK7 hC7 hM7 hG7 hL7 z0 z1 z2 z3 k0 k1 k2 k3 k4 k5 k6 k7 kf0 kf1 kf2 kf3 hv7 hm7 hK6 hG6 hL6 hM6 x0 x1 x2 x3
        generalize ((((w7.setCell ⟨w3.heap.size, 0, none⟩ (.int .i64 n2.kind)).setCell ⟨w3.heap.size, 1, none⟩ (.string n2.text)).setCell ⟨w3.heap.size, 2, none⟩ (.slice A7 n2.kids.length c7)).setCell ⟨w3.heap.size, 3, none⟩ (.int .i64 n2.pos)) = w8 at *
        go_wp2_with fail
        cases hJ : isS E.c s3 (⟨#[61]⟩ : ByteArray) with
        | false =>
          have HF := Lib.hid (show res = .ok (.mk 5 tx [n2, nd0] (posS E.c s)) s3 by rw [← HE4.out]; simp only [hJ, Bool.false_eq_true, if_false])
          refine (takes_no E s3 _ _ hM8.rd hJ).mono ?_
          rintro e w9 ⟨rfl, hq9⟩
          have hK9 := hK8.below hq9.bel (by omega)
          have hG9 := hG8.below hq9.bel (by omega)
          have hL9 := hL8.below hq9.bel (by omega)
          have hC9 := hC8.keep (w' := w9) (fun b _ hlt => hq9.bel.block b hlt)
          obtain ⟨z0, z1, z2, z3, _, _, _, _⟩ := blk4 hL9
          obtain ⟨d0, d1, d2, d3, e0, e1, e2, e3⟩ := blk4 hG9
          have hV := NodeV.of_block (X := fun b => w.heap.size + 1 ≤ b) (k := 2) rfl hK9 (by show w.heap.size + 1 ≤ w3.heap.size; omega) (NodesC.cons (hC9.mono (Y := fun b => w.heap.size + 1 ≤ b) (fun b hb _ => by omega)) (NodesC.one nd0_cells)) 5 tx (posS E.c s)
          clear HE4 hJ
          go_wp2_with fail
          refine end_node HF.out hV (hM8.trans hq9.moved) hG9 (Nat.le_refl _) hltR ?_ rfl (by rfl) rfl
          intro b hb
          constructor <;> omega
        | true =>
          have HE5 := Lib.hid (show (F.expr E.c (adv s3)).bind (fun v s4 => .ok (.mk 5 tx [n2, v] (posS E.c s)) s4) = res by rw [← HE4.out]; simp only [hJ, if_true])
          refine (takes_yes E s3 _ _ hM8.rd hJ).mono ?_
          rintro e w9 ⟨rfl, hm9⟩
          have hL9 := hL8.grown hm9.gr (fun e => hRL (by injection e))
          have hK9 := hK8.grown hm9.gr (fun e => by injection e with e; omega)
          have hG9 := hG8.grown hm9.gr (fun e => by injection e with e; omega)
          have hM9 := hM8.trans hm9
          have hs9 : w8.heap.size ≤ w9.heap.size := hm9.gr.size
          have hC9 := hC8.keep (w' := w9) (KeepsX.of_grown (X := fun b => w6.heap.size ≤ b) hm9.gr (fun g e hX => by injection e with e; have hX : w6.heap.size ≤ g := hX; omega)).block
          clear HE4 hJ hL8 hK8 hG8 hM8 hm9 hC8
          obtain ⟨x0, x1, x2, x3, _, _, _, _⟩ := blk4 hL9
          cases hP2 : F.expr E.c (adv s3) with
          | out => exact absurd HE5.out.symm (by rw [hP2]; exact HNE.out)
          | fail q =>
            have HF := Lib.hid (show res = .fail q by rw [← HE5.out, hP2]; rfl)
            go_wp2_with fail
            let SS : World → Prop := fun w' => w'.cell? ⟨w4.heap.size, 2, none⟩ = some (.slice (some ⟨w3.heap.size, 0, none⟩) 2 2)
            have HSS : SS w9.drew := x2
            (refine wp_region_held_drew (S := SS) (by kernel_rfl) HSS ?_; intro hSd; (refine wpAnyH_take (i := 0) (v := ?vv3x0) rfl (by kernel_rfl) (by kernel_rfl) (by kernel_rfl) (fun _ _ _ h => h) (Or.inl ⟨by rfl, ?hy3x0⟩) hSd ?rest3x0); (case hy3x0 => (intro w hSw; (try dsimp only [SS] at hSw); go_simp; try (with_reducible rfl))); (refine wpAnyH_take (i := 1) (v := ?vv3x1) rfl (by kernel_rfl) (by kernel_rfl) (by kernel_rfl) (fun _ _ _ h => h) (Or.inl ⟨by rfl, ?hy3x1⟩) hSd ?rest3x1); (case hy3x1 => (intro w hSw; (try dsimp only [SS] at hSw); go_simp; try (with_reducible rfl))); (refine wpAnyH_take (i := 2) (v := ?vv3x2) rfl (by kernel_rfl) (by kernel_rfl) (by kernel_rfl) (fun _ _ _ h => h) (Or.inl ⟨by rfl, ?hy3x2⟩) hSd ?rest3x2); (case hy3x2 => (intro w hSw; (try dsimp only [SS] at hSw); go_simp; try (with_reducible rfl))); (refine wpAnyH_ready (rs := [3]) (by kernel_rfl) (by simp) ?_); (refine AllReadyH.cons rfl (fun K hK => ?_) AllReadyH.nil); go_simp)
            refine (hF.expr _ _ hM9.drew.rd (by rw [hP2]; exact nofun)).mono ?_
            rw [hP2]
            rintro e w10 ⟨rfl, hg10⟩
            unfold wrongV
            exact ⟨rfl, end_fail HF.out hM9.drew.gr hg10⟩
          | ok n3 s4 =>
            have HF := Lib.hid (show res = .ok (.mk 5 tx [n2, n3] (posS E.c s)) s4 by rw [← HE5.out, hP2]; rfl)
            clear HC
            have HC := Lib.hid (fun W (hr : RdAt E W (adv s3)) => hF.expr W _ hr (by rw [hP2]; exact nofun))
            rw [hP2] at HC
            clear HE5 hP2
            go_wp2_with fail
            go_region_held3 (fun w' => w'.cell? ⟨w4.heap.size, 2, none⟩ = some (.slice (some ⟨w3.heap.size, 0, none⟩) 2 2))
              (first | with_reducible exact z2 | exact x2 | (rw [World.cell?_setCell_far _ _ _ _ (by exact hKL), World.cell?_setCell_far _ _ _ _ (by exact hKL), World.cell?_setCell_far _ _ _ _ (by exact hKL), World.cell?_setCell_far _ _ _ _ (by exact hKL)]; exact z2))
              ((go_at_call 157; refine (HC.out _ hM9.drew.rd).mono ?_; rintro e w10 ⟨⟨v, rfl, hv10⟩, hm10⟩; obtain ⟨A10, c10, rfl, hC10⟩ := hv10.toC; have hL10 := hL9.drew.grown hm10.gr (fun e => hRL (by injection e)); have hK10 := hK9.drew.grown hm10.gr (fun e => by injection e with e; omega); have hG10 := hG9.drew.grown hm10.gr (fun e => by injection e with e; omega); obtain ⟨z0, z1, z2, z3, _, _, _, _⟩ := blk4 hL10; obtain ⟨k0, k1, k2, k3, k4, k5, k6, k7, kf⟩ := blk8 hK10; have kf4 := kf 4; have kf5 := kf 5; have kf6 := kf 6; have kf7 := kf 7; clear kf))
            have hM10 := hM9.drew.trans hm10
            have hs10 : w9.heap.size ≤ w10.heap.size := hm10.gr.size
            have hT10 := (hC9.keep (w := w9) (w' := w9.drew) (fun _ _ _ => rfl)).keep (w' := w10) (KeepsX.of_grown (X := fun b => w6.heap.size ≤ b) hm10.gr (fun g e hX => by injection e with e; have hX : w6.heap.size ≤ g := hX; omega)).block
            obtain ⟨d0, d1, d2, d3, e0, e1, e2, e3⟩ := blk4 hG10
            go_wp2_with fail
            have hK11 : Blk ((((w10.setCell ⟨w3.heap.size, 4, none⟩ (.int .i64 n3.kind)).setCell ⟨w3.heap.size, 5, none⟩ (.string n3.text)).setCell ⟨w3.heap.size, 6, none⟩ (.slice A10 n3.kids.length c10)).setCell ⟨w3.heap.size, 7, none⟩ (.int .i64 n3.pos)) w3.heap.size 24 #[.int .i64 n2.kind, .string n2.text, .slice A7 n2.kids.length c7, .int .i64 n2.pos, .int .i64 n3.kind, .string n3.text, .slice A10 n3.kids.length c10, .int .i64 n3.pos] := by
              simpa using (((hK10.set_ 4 (.int .i64 n3.kind)).set_ 5 (.string n3.text)).set_ 6 (.slice A10 n3.kids.length c10)).set_ 7 (.int .i64 n3.pos)
            have hkp : KeepsX (fun b => w6.heap.size ≤ b) w10 ((((w10.setCell ⟨w3.heap.size, 4, none⟩ (.int .i64 n3.kind)).setCell ⟨w3.heap.size, 5, none⟩ (.string n3.text)).setCell ⟨w3.heap.size, 6, none⟩ (.slice A10 n3.kids.length c10)).setCell ⟨w3.heap.size, 7, none⟩ (.int .i64 n3.pos)) := by
              refine ((((KeepsX.refl _ _).setCell ?_ _).setCell ?_ _).setCell ?_ _).setCell ?_ _ <;> (intro hX; simp at hX; omega)
            have hC11 := (hC10.mono (Y := fun b => w6.heap.size ≤ b) (fun b hb _ => by have hb : w9.heap.size ≤ b := hb; omega)).keep hkp.block
            have hT11 := hT10.keep hkp.block
            have hM11 := (((hM10.own (p := ⟨w3.heap.size, 4, none⟩) (by show w.heap.size ≤ w3.heap.size; omega) (by show E.R < w3.heap.size; omega) (.int .i64 n3.kind)).own (p := ⟨w3.heap.size, 5, none⟩) (by show w.heap.size ≤ w3.heap.size; omega) (by show E.R < w3.heap.size; omega) (.string n3.text)).own (p := ⟨w3.heap.size, 6, none⟩) (by show w.heap.size ≤ w3.heap.size; omega) (by show E.R < w3.heap.size; omega) (.slice A10 n3.kids.length c10)).own (p := ⟨w3.heap.size, 7, none⟩) (by show w.heap.size ≤ w3.heap.size; omega) (by show E.R < w3.heap.size; omega) (.int .i64 n3.pos)
            have hG11 := (((hG10.far (p := ⟨w3.heap.size, 4, none⟩) (by exact hKG.symm) (.int .i64 n3.kind)).far (p := ⟨w3.heap.size, 5, none⟩) (by exact hKG.symm) (.string n3.text)).far (p := ⟨w3.heap.size, 6, none⟩) (by exact hKG.symm) (.slice A10 n3.kids.length c10)).far (p := ⟨w3.heap.size, 7, none⟩) (by exact hKG.symm) (.int .i64 n3.pos)
            have hV := NodeV.of_block (X := fun b => w.heap.size + 1 ≤ b) (k := 2) rfl hK11 (by show w.heap.size + 1 ≤ w3.heap.size; omega) (NodesC.cons (hT11.mono (Y := fun b => w.heap.size + 1 ≤ b) (fun b hb _ => by omega)) (NodesC.one (hC11.mono (Y := fun b => w.heap.size + 1 ≤ b) (fun b hb _ => by omega)))) 5 tx (posS E.c s)
            refine end_node HF.out hV hM11 hG11 (Nat.le_refl _) hltR ?_ rfl (by rfl) rfl
            intro b hb
            constructor <;> omega
end Go.Proofs.YtnalfjaojcahhaaGreatDoor
