/-
  Declarations: decl. By an AI agent.
-/
import Derived.Test.YtnalfjaojcahhaaGreatDoorJ17
import Derived.Test.YtnalfjaojcahhaaGreatDoorJ18
import Derived.Test.YtnalfjaojcahhaaGreatDoorJ05
import Derived.Test.YtnalfjaojcahhaaGreatDoorJ19
import Derived.Deep.RegionHeld2
namespace Go.Proofs.YtnalfjaojcahhaaGreatDoor
open Go.RowKit Go.Lib Go.Proofs
attribute [local go_sem ↓] Go.wp_at_zero Go.wp_at_succ
attribute [local go_sem] fld_tok0 fld_tok1 fld_tok2 fld_nd0 fld_nd1 fld_nd2 fld_nd3

/-- The cells of two nodes. -/
abbrev Eight (P Q : Nat) (p0 p1 p2 p3 q0 q1 q2 q3 : Value) (w : World) : Prop :=
  w.cell? ⟨P, 0, none⟩ = some p0 ∧ w.cell? ⟨P, 1, none⟩ = some p1 ∧ w.cell? ⟨P, 2, none⟩ = some p2 ∧ w.cell? ⟨P, 3, none⟩ = some p3 ∧
  w.cell? ⟨Q, 0, none⟩ = some q0 ∧ w.cell? ⟨Q, 1, none⟩ = some q1 ∧ w.cell? ⟨Q, 2, none⟩ = some q2 ∧ w.cell? ⟨Q, 3, none⟩ = some q3
theorem eight_of {w : World} {P Q : Nat} {t t' : TypeId} {p0 p1 p2 p3 q0 q1 q2 q3 : Value} (hP : Blk w P t #[p0, p1, p2, p3]) (hQ : Blk w Q t' #[q0, q1, q2, q3]) : Eight P Q p0 p1 p2 p3 q0 q1 q2 q3 w :=
  ⟨by simpa using hP.cell 0, by simpa using hP.cell 1, by simpa using hP.cell 2, by simpa using hP.cell 3, by simpa using hQ.cell 0, by simpa using hQ.cell 1, by simpa using hQ.cell 2, by simpa using hQ.cell 3⟩

set_option maxRecDepth 100000 in
set_option maxHeartbeats 4000000 in
theorem decl_any (E : Env) (F : Fns) (hF : OkF E F) : ReadC E (declR F) 68 := by
  intro w s h hno
  generalize hres : declR F E.c s = res at *
  have HRES := Lib.hid hres
  have HNE := Lib.hid hno
  have hltR := h.lt
  clear hres hno
  go_enter Tryz.func68, Tryz.ntmps68
  go_wp2_with fail
  refine (next_any E s _ (h.alloc _)).mono ?_
  unfold tokV
  rintro e w1 ⟨rfl, hb1⟩
  have hq1 := ((Seen.refl h).alloc _).step hb1
  have hG1 := (Blk.new w 24 ndZ).below hb1 (by simp)
  have hltG1 := hG1.lt
  clear hb1
  go_wp2_with fail
  cases hA : isS E.c s (⟨#[102, 117, 110, 99]⟩ : ByteArray) with
  | true =>
    have HE := Lib.hid (show (nameR E.c (adv s)).bind (fun x s1 => (paramsR F E.c s1).bind fun ps s2 => (sigR F (posS E.c s) E.c s2).bind fun sg s3 => (blockR F E.c s3).bind fun b s4 => .ok (.mk 2 x [ps, sg, b] (posS E.c s)) s4) = res by rw [← HRES.out, declR, if_pos hA])
    refine (takes_yes E s _ w1 hq1.rd hA).mono ?_
    rintro e w2 ⟨rfl, hm2⟩
    have hG2 := hG1.grown hm2.gr (fun e => by injection e with e; omega)
    have hM2 := hq1.moved.trans hm2
    have hs2 := hm2.gr.size
    clear HRES hA hG1 hq1 hm2
    go_wp2_with fail
    by_cases hN : (tokAt E.c (adv s).at_).kind = 1
    case neg =>
      refine (name_no E (adv s) _ hM2.rd hN).mono ?_
      rintro e w6 ⟨rfl, hb6⟩
      unfold wrongV
      exact ⟨rfl, end_fail (by rw [← HE.out, nameR, if_neg hN]; rfl) hM2.gr (grownBy_of_below _ hb6)⟩
    have HE2 := Lib.hid (show (paramsR F E.c (adv (adv s))).bind (fun ps s2 => (sigR F (posS E.c s) E.c s2).bind fun sg s3 => (blockR F E.c s3).bind fun b s4 => .ok (.mk 2 (tokAt E.c (adv s).at_).text [ps, sg, b] (posS E.c s)) s4) = res by
      rw [← HE.out, nameR, if_pos hN]; rfl)
    refine (name_yes E (adv s) _ hM2.rd hN).mono ?_
    rintro e w3 ⟨rfl, hm3⟩
    have hG3 := hG2.grown hm3.gr (fun e => by injection e with e; omega)
    have hM3 := hM2.trans hm3
    have hs3 := hm3.gr.size
    clear HE hN hG2 hM2 hm3
    generalize (tokAt E.c (adv s).at_).text = tx at *
    generalize hpp : posS E.c s = pp at *
    rw [show (tokAt E.c s.at_).pos = pp from hpp]
    clear hpp
    go_wp2_with fail
    cases hP : paramsR F E.c (adv (adv s)) with
    | out => exact absurd HE2.out.symm (by rw [hP]; exact HNE.out)
    | fail q =>
      refine (rparams_any E F hF _ (adv (adv s)) hM3.rd (by rw [hP]; exact nofun)).mono ?_
      rw [hP]
      rintro e w4 ⟨rfl, hg4⟩
      unfold wrongV
      exact ⟨rfl, end_fail (by rw [← HE2.out, hP]; rfl) hM3.gr hg4⟩
    | ok ps s2 =>
      have HE3 := Lib.hid (show (sigR F pp E.c s2).bind (fun sg s3 => (blockR F E.c s3).bind fun b s4 => .ok (.mk 2 tx [ps, sg, b] pp) s4) = res by rw [← HE2.out, hP]; rfl)
      refine (rparams_any E F hF _ (adv (adv s)) hM3.rd (by rw [hP]; exact nofun)).mono ?_
      rw [hP]
      rintro e w4 ⟨⟨v, rfl, hv⟩, hm4⟩
      obtain ⟨A4, c4, rfl, hC4⟩ := hv.toC
      have hC4 := hC4.mono (Y := fun b => w.heap.size + 1 ≤ b) (fun b hb _ => by omega)
      have hG4 := hG3.grown hm4.gr (fun e => by injection e with e; omega)
      have hM4 := hM3.trans hm4
      have hs4 := hm4.gr.size
      clear hP HE2 hM3 hG3 hm4 hv
      go_wp2_with fail
      have hP5 := Blk.new w4 24 #[.int .i64 ps.kind, .string ps.text, .slice A4 ps.kids.length c4, .int .i64 ps.pos]
      have hG5 := hG4.alloc (.cells #[.int .i64 ps.kind, .string ps.text, .slice A4 ps.kids.length c4, .int .i64 ps.pos] 24)
      have hM5 := hM4.alloc (.cells #[.int .i64 ps.kind, .string ps.text, .slice A4 ps.kids.length c4, .int .i64 ps.pos] 24)
      have hC5 := hC4.keep (w' := w4.alloc (.cells #[.int .i64 ps.kind, .string ps.text, .slice A4 ps.kids.length c4, .int .i64 ps.pos] 24)) (fun b _ hlt => Below.heap_alloc w4 _ b hlt)
      have hs5 : w4.heap.size + 1 = (w4.alloc (.cells #[.int .i64 ps.kind, .string ps.text, .slice A4 ps.kids.length c4, .int .i64 ps.pos] 24)).heap.size := by simp
      generalize hPP : w4.heap.size = P at *
      generalize w4.alloc (.cells #[.int .i64 ps.kind, .string ps.text, .slice A4 ps.kids.length c4, .int .i64 ps.pos] 24) = w5 at *
      clear hG4 hM4 hC4 hPP
      cases hS : sigR F pp E.c s2 with
      | out => exact absurd HE3.out.symm (by rw [hS]; exact HNE.out)
      | fail q =>
        refine (signature_any E F hF pp _ s2 hM5.rd (by rw [hS]; exact nofun)).mono ?_
        rw [hS]
        rintro e w6 ⟨rfl, hg6⟩
        unfold wrongV
        exact ⟨rfl, end_fail (by rw [← HE3.out, hS]; rfl) hM5.gr hg6⟩
      | ok sg s3 =>
        have HE4 := Lib.hid (show (blockR F E.c s3).bind (fun b s4 => .ok (.mk 2 tx [ps, sg, b] pp) s4) = res by rw [← HE3.out, hS]; rfl)
        refine (signature_any E F hF pp _ s2 hM5.rd (by rw [hS]; exact nofun)).mono ?_
        rw [hS]
        rintro e w6 ⟨⟨v, rfl, hv⟩, hm6⟩
        obtain ⟨A6, c6, rfl, hC6⟩ := hv.toC
        have hC6 := hC6.mono (Y := fun b => w.heap.size + 1 ≤ b) (fun b hb _ => by omega)
        have hG6 := hG5.grown hm6.gr (fun e => by injection e with e; omega)
        have hP6 := hP5.grown hm6.gr (fun e => by injection e with e; omega)
        have hC5 := hC5.keep (w' := w6) (KeepsX.of_grown (X := fun b => w.heap.size + 1 ≤ b) hm6.gr (fun g e hX => by injection e with e; have hX : w.heap.size + 1 ≤ g := hX; omega)).block
        have hM6 := hM5.trans hm6
        have hs6 := hm6.gr.size
        clear hS HE3 hM5 hG5 hP5 hm6 hv
        go_wp2_with fail
        have hQ7 := Blk.new w6 24 #[.int .i64 sg.kind, .string sg.text, .slice A6 sg.kids.length c6, .int .i64 sg.pos]
        have hP7 := hP6.alloc (.cells #[.int .i64 sg.kind, .string sg.text, .slice A6 sg.kids.length c6, .int .i64 sg.pos] 24)
        have hG7 := hG6.alloc (.cells #[.int .i64 sg.kind, .string sg.text, .slice A6 sg.kids.length c6, .int .i64 sg.pos] 24)
        have hM7 := hM6.alloc (.cells #[.int .i64 sg.kind, .string sg.text, .slice A6 sg.kids.length c6, .int .i64 sg.pos] 24)
        have hC6 := hC6.keep (w' := w6.alloc (.cells #[.int .i64 sg.kind, .string sg.text, .slice A6 sg.kids.length c6, .int .i64 sg.pos] 24)) (fun b _ hlt => Below.heap_alloc w6 _ b hlt)
        have hC5 := hC5.keep (w' := w6.alloc (.cells #[.int .i64 sg.kind, .string sg.text, .slice A6 sg.kids.length c6, .int .i64 sg.pos] 24)) (fun b _ hlt => Below.heap_alloc w6 _ b hlt)
        have hs7 : w6.heap.size + 1 = (w6.alloc (.cells #[.int .i64 sg.kind, .string sg.text, .slice A6 sg.kids.length c6, .int .i64 sg.pos] 24)).heap.size := by simp
        generalize hQQ : w6.heap.size = Q at *
        generalize w6.alloc (.cells #[.int .i64 sg.kind, .string sg.text, .slice A6 sg.kids.length c6, .int .i64 sg.pos] 24) = w7 at *
        clear hG6 hM6 hQQ hP6
        have s7 := eight_of hP7 hQ7
        have s7d := eight_of hP7.drew hQ7.drew
        have hRP : P ≠ E.R := by omega
        have hRQ : Q ≠ E.R := by omega
        have hPG : w.heap.size ≠ P := by omega
        have hQG : w.heap.size ≠ Q := by omega
        cases hB : blockR F E.c s3 with
        | out => exact absurd HE4.out.symm (by rw [hB]; exact HNE.out)
        | fail q =>
          have HC := Lib.hid (fun W (hr : RdAt E W s3) => block_any E F hF W s3 hr (by rw [hB]; exact nofun))
          have HF := Lib.hid (show res = .fail q by rw [← HE4.out, hB]; rfl)
          rw [hB] at HC
          clear HE4 hB
          let SS : World → Prop := fun w' => w'.cell? ⟨P, 0, none⟩ = some (.int .i64 ps.kind) ∧ w'.cell? ⟨P, 1, none⟩ = some (.string ps.text) ∧ w'.cell? ⟨P, 2, none⟩ = some (.slice A4 ps.kids.length c4) ∧ w'.cell? ⟨P, 3, none⟩ = some (.int .i64 ps.pos) ∧ w'.cell? ⟨Q, 0, none⟩ = some (.int .i64 sg.kind) ∧ w'.cell? ⟨Q, 1, none⟩ = some (.string sg.text) ∧ w'.cell? ⟨Q, 2, none⟩ = some (.slice A6 sg.kids.length c6) ∧ w'.cell? ⟨Q, 3, none⟩ = some (.int .i64 sg.pos)
          have HSS : SS w7.drew := s7
          (refine wp_region_held_drew (S := SS) (by kernel_rfl) HSS ?_; intro hSd; (refine wpAnyH_take (i := 0) (v := ?vv1x0) rfl (by kernel_rfl) (by kernel_rfl) (by kernel_rfl) (fun _ _ _ h => h) (Or.inl ⟨by rfl, ?hy1x0⟩) hSd ?rest1x0); (case hy1x0 => (intro w hSw; (try dsimp only [SS] at hSw); go_simp; try (with_reducible rfl))); (refine wpAnyH_take (i := 1) (v := ?vv1x1) rfl (by kernel_rfl) (by kernel_rfl) (by kernel_rfl) (fun _ _ _ h => h) (Or.inl ⟨by rfl, ?hy1x1⟩) hSd ?rest1x1); (case hy1x1 => (intro w hSw; (try dsimp only [SS] at hSw); go_simp; try (with_reducible rfl))); (refine wpAnyH_take (i := 2) (v := ?vv1x2) rfl (by kernel_rfl) (by kernel_rfl) (by kernel_rfl) (fun _ _ _ h => h) (Or.inl ⟨by rfl, ?hy1x2⟩) hSd ?rest1x2); (case hy1x2 => (intro w hSw; (try dsimp only [SS] at hSw); go_simp; try (with_reducible rfl))); (refine wpAnyH_take (i := 3) (v := ?vv1x3) rfl (by kernel_rfl) (by kernel_rfl) (by kernel_rfl) (fun _ _ _ h => h) (Or.inl ⟨by rfl, ?hy1x3⟩) hSd ?rest1x3); (case hy1x3 => (intro w hSw; (try dsimp only [SS] at hSw); go_simp; try (with_reducible rfl))); (refine wpAnyH_take (i := 4) (v := ?vv1x4) rfl (by kernel_rfl) (by kernel_rfl) (by kernel_rfl) (fun _ _ _ h => h) (Or.inl ⟨by rfl, ?hy1x4⟩) hSd ?rest1x4); (case hy1x4 => (intro w hSw; (try dsimp only [SS] at hSw); go_simp; try (with_reducible rfl))); (refine wpAnyH_ready (rs := [5]) (by kernel_rfl) (by simp) ?_); (refine AllReadyH.cons rfl (fun K hK => ?_) AllReadyH.nil); go_simp)
          refine (HC.out _ hM7.drew.rd).mono ?_
          rintro e w8 ⟨rfl, hg8⟩
          unfold wrongV
          exact ⟨rfl, end_fail HF.out hM7.drew.gr hg8⟩
        | ok b s4 =>
          have HC := Lib.hid (fun W (hr : RdAt E W s3) => block_any E F hF W s3 hr (by rw [hB]; exact nofun))
          have HF := Lib.hid (show res = .ok (.mk 2 tx [ps, sg, b] pp) s4 by rw [← HE4.out, hB]; rfl)
          rw [hB] at HC
          clear HE4 hB
          go_region_held3 (fun w' => w'.cell? ⟨P, 0, none⟩ = some (.int .i64 ps.kind) ∧ w'.cell? ⟨P, 1, none⟩ = some (.string ps.text) ∧ w'.cell? ⟨P, 2, none⟩ = some (.slice A4 ps.kids.length c4) ∧ w'.cell? ⟨P, 3, none⟩ = some (.int .i64 ps.pos) ∧ w'.cell? ⟨Q, 0, none⟩ = some (.int .i64 sg.kind) ∧ w'.cell? ⟨Q, 1, none⟩ = some (.string sg.text) ∧ w'.cell? ⟨Q, 2, none⟩ = some (.slice A6 sg.kids.length c6) ∧ w'.cell? ⟨Q, 3, none⟩ = some (.int .i64 sg.pos))
            (first | with_reducible exact s9 _ _ _ _ | with_reducible exact s8b | with_reducible exact s8a _ | with_reducible exact s8 | with_reducible exact s7d | with_reducible exact s7)
            (first
              | (go_at_call 97; refine (HC.out _ hM7.drew.rd).mono ?_; rintro e w8 ⟨⟨v, rfl, hv⟩, hm8⟩; obtain ⟨An, cn, rfl, hC8⟩ := hv.toC; have hP8 := hP7.drew.grown hm8.gr (fun e => hRP (by injection e)); have hQ8 := hQ7.drew.grown hm8.gr (fun e => hRQ (by injection e)); have s8 := eight_of hP8 hQ8; have s8a := fun o : Obj => eight_of (hP8.alloc o) (hQ8.alloc o))
              | (go_at_call 64; refine (node_any _ _ _ _ _ ⟨_, _, _, rfl⟩).mono ?_; rintro e w9 ⟨rfl, hb9⟩; have hP9 := (hP8.alloc _).below hb9 (by have := hP8.lt; simp; omega); have hQ9 := (hQ8.alloc _).below hb9 (by have := hQ8.lt; simp; omega); have s8b := eight_of hP9 hQ9; have s9 := fun a b c d : Value => eight_of ((((hP9.far (p := ⟨w.heap.size, 0, none⟩) (by exact hPG.symm) a).far (p := ⟨w.heap.size, 1, none⟩) (by exact hPG.symm) b).far (p := ⟨w.heap.size, 2, none⟩) (by exact hPG.symm) c).far (p := ⟨w.heap.size, 3, none⟩) (by exact hPG.symm) d) ((((hQ9.far (p := ⟨w.heap.size, 0, none⟩) (by exact hQG.symm) a).far (p := ⟨w.heap.size, 1, none⟩) (by exact hQG.symm) b).far (p := ⟨w.heap.size, 2, none⟩) (by exact hQG.symm) c).far (p := ⟨w.heap.size, 3, none⟩) (by exact hQG.symm) d); have hG9 := ((hG7.drew.grown hm8.gr (fun e => by injection e with e; omega)).alloc _).below hb9 (by have := (hG7.drew.grown hm8.gr (fun e => by injection e with e; omega)).lt; simp; omega); obtain ⟨g0, g1, g2, g3, k0, k1, k2, k3⟩ := blk4 hG9))
          all_goals go_wp2_with fail
          have hs8 : w7.heap.size ≤ w8.heap.size := hm8.gr.size
          have hCp := (hC5.keep (w := w7) (w' := w7.drew) (fun _ _ _ => rfl)).keep (w' := w8) (KeepsX.of_grown (X := fun b => w.heap.size + 1 ≤ b) hm8.gr (fun g e hX => by injection e with e; have hX : w.heap.size + 1 ≤ g := hX; omega)).block
          have hCs := (hC6.keep (w := w7) (w' := w7.drew) (fun _ _ _ => rfl)).keep (w' := w8) (KeepsX.of_grown (X := fun b => w.heap.size + 1 ≤ b) hm8.gr (fun g e hX => by injection e with e; have hX : w.heap.size + 1 ≤ g := hX; omega)).block
          have hz8 : w7.drew.heap.size = w7.heap.size := rfl
          have hV := NodeV.make 3 rfl (NodesC.cons hCp (NodesC.cons hCs (NodesC.one (hC8.mono (Y := fun b => w.heap.size + 1 ≤ b) fun b hb _ => by omega)))) 2 tx pp hb9
          refine end_node HF.out hV (((hM7.drew.trans hm8).alloc _).step hb9) hG9 (Nat.le_refl _) hltR ?_ rfl (by rfl) rfl
          rintro b (⟨hb, _⟩ | rfl) <;> constructor <;> omega
  | false =>
    refine (takes_no E s _ w1 hq1.rd hA).mono ?_
    rintro e w2 ⟨rfl, hq2⟩
    have hG2 := hG1.below hq2.bel hltG1
    have hM2 := hq1.moved.trans hq2.moved
    have hs2 := hq2.bel.size
    clear hG1 hq1 hq2
    go_wp2_with fail
    cases hT : isS E.c s (⟨#[116, 121, 112, 101]⟩ : ByteArray) with
    | true =>
      have HE := Lib.hid (show typeDeclR F (posS E.c s) E.c (adv s) = res by rw [← HRES.out, declR, if_neg (by rw [hA]; decide), if_pos hT])
      refine (takes_yes E s _ w2 hM2.rd hT).mono ?_
      rintro e w3 ⟨rfl, hm3⟩
      have hG3 := hG2.grown hm3.gr (fun e => by injection e with e; omega)
      have hM3 := hM2.trans hm3
      have hs3 := hm3.gr.size
      clear HRES hA hT hG2 hM2 hm3
      go_wp2_with fail
      refine (typeDecl_any E F hF (posS E.c s) _ (adv s) hM3.rd (by rw [HE.out]; exact HNE.out)).mono ?_
      rw [HE.out]
      cases hres : res with
      | out => exact absurd hres HNE.out
      | fail p =>
        rintro e w5 ⟨rfl, hg5⟩
        unfold wrongV
        exact ⟨rfl, end_fail (by first | rfl | exact hres) hM3.gr hg5⟩
      | ok n5 s5 =>
        rintro e w5 ⟨⟨v5, rfl, hv5⟩, hm5⟩
        obtain ⟨A5, c5, rfl, hC5⟩ := hv5.toC
        have hG5 := hG3.grown hm5.gr (fun e => by injection e with e; omega)
        have hM5 := hM3.trans hm5
        obtain ⟨d0, d1, d2, d3, e0, e1, e2, e3⟩ := blk4 hG5
        go_wp2_with fail
        refine end_node (by first | rfl | exact hres) hv5 hM5 hG5 (Nat.le_refl _) hltR ?_ rfl (by rfl) rfl
        intro b hb
        constructor <;> omega
    | false =>
      have HE := Lib.hid (show variableR F E.c s = res by rw [← HRES.out, declR, if_neg (by rw [hA]; decide), if_neg (by rw [hT]; decide)])
      refine (takes_no E s _ w2 hM2.rd hT).mono ?_
      rintro e w3 ⟨rfl, hq3⟩
      have hG3 := hG2.below hq3.bel hG2.lt
      have hM3 := hM2.trans hq3.moved
      have hs3 := hq3.bel.size
      clear HRES hA hT hG2 hM2 hq3
      go_wp2_with fail
      refine (variable_any E F hF _ s hM3.rd (by rw [HE.out]; exact HNE.out)).mono ?_
      rw [HE.out]
      cases hres : res with
      | out => exact absurd hres HNE.out
      | fail p =>
        rintro e w5 ⟨rfl, hg5⟩
        unfold wrongV
        exact ⟨rfl, end_fail (by first | rfl | exact hres) hM3.gr hg5⟩
      | ok n5 s5 =>
        rintro e w5 ⟨⟨v5, rfl, hv5⟩, hm5⟩
        obtain ⟨A5, c5, rfl, hC5⟩ := hv5.toC
        have hG5 := hG3.grown hm5.gr (fun e => by injection e with e; omega)
        have hM5 := hM3.trans hm5
        obtain ⟨d0, d1, d2, d3, e0, e1, e2, e3⟩ := blk4 hG5
        go_wp2_with fail
        refine end_node (by first | rfl | exact hres) hv5 hM5 hG5 (Nat.le_refl _) hltR ?_ rfl (by rfl) rfl
        intro b hb
        constructor <;> omega
end Go.Proofs.YtnalfjaojcahhaaGreatDoor
