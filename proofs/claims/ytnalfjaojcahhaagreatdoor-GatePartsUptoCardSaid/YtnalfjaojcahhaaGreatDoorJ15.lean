/-
  Declarations: decl. By an AI agent.
  Files: file. By an AI agent.
  What a node needs, as plain functions. By an AI agent.
  The text of the law's example: its tokens, its tree, what it needs: plain reckoning. By an AI agent.
-/
import Derived.Test.YtnalfjaojcahhaaGreatDoorJ12
import Derived.Test.YtnalfjaojcahhaaGreatDoorJ13
import Derived.Test.YtnalfjaojcahhaaGreatDoorJ04
import Derived.Test.YtnalfjaojcahhaaGreatDoorJ14
import Derived.Test.YtnalfjaojcahhaaGreatDoorJ06
import Derived.Test.YtnalfjaojcahhaaGreatDoorJ10
import Derived.Deep.RegionHeld2
namespace Go.Proofs.YtnalfjaojcahhaaGreatDoor
open Go.RowKit Go.Lib Go.Proofs
attribute [local go_sem ↓] Go.wp_at_zero Go.wp_at_succ
attribute [local go_sem] fld_tok0 fld_tok1 fld_tok2 fld_nd0 fld_nd1 fld_nd2 fld_nd3

/-- The cells of two nodes. -/
abbrev Eight (P Q : Nat) (p0 p1 p2 p3 q0 q1 q2 q3 : Value) (w : World) : Prop :=
  w.cell? ⟨P, 0, none⟩ = some p0 ∧ w.cell? ⟨P, 1, none⟩ = some p1 ∧ w.cell? ⟨P, 2, none⟩ = some p2 ∧ w.cell? ⟨P, 3, none⟩ = some p3 ∧
  w.cell? ⟨Q, 0, none⟩ = some q0 ∧ w.cell? ⟨Q, 1, none⟩ = some q1 ∧ w.cell? ⟨Q, 2, none⟩ = some q2 ∧ w.cell? ⟨Q, 3, none⟩ = some q3
theorem eight_of {w : World} {P Q : Nat} {t t' : TypeId} {p0 p1 p2 p3 q0 q1 q2 q3 : Value} (hP : Blk w P t #[p0, p1, p2, p3]) (hQ : Blk w Q t' #[q0, q1, q2, q3]) : Eight P Q p0 p1 p2 p3 q0 q1 q2 q3 w :=
  ⟨by simpa using hP.cell 0, by simpa using hP.cell 1, by simpa using hP.cell 2, by simpa using hP.cell 3, by simpa using hQ.cell 0, by simpa using hQ.cell 1, by simpa using hQ.cell 2, by simpa using hQ.cell 3⟩

set_option maxRecDepth 100000 in
set_option maxHeartbeats 4000000 in
theorem decl_any (E : Env) (F : Fns) (hF : OkF E F) : ReadC E (declR F) 68 := by
  intro w s h hno
  generalize hres : declR F E.c s = res at *
  have HRES := Lib.hid hres
  have HNE := Lib.hid hno
  have hltR := h.lt
  clear hres hno
  go_enter Tryz.func68, Tryz.ntmps68
  go_wp2_with fail
  refine (next_any E s _ (h.alloc _)).mono ?_
  unfold tokV
  rintro e w1 ⟨rfl, hb1⟩
  have hq1 := ((Seen.refl h).alloc _).step hb1
  have hG1 := (Blk.new w 24 ndZ).below hb1 (by simp)
  have hltG1 := hG1.lt
  clear hb1
  go_wp2_with fail
  cases hA : isS E.c s (⟨#[102, 117, 110, 99]⟩ : ByteArray) with
  | true =>
    have HE := Lib.hid (show (nameR E.c (adv s)).bind (fun x s1 => (paramsR F E.c s1).bind fun ps s2 => (sigR F (posS E.c s) E.c s2).bind fun sg s3 => (blockR F E.c s3).bind fun b s4 => .ok (.mk 2 x [ps, sg, b] (posS E.c s)) s4) = res by rw [← HRES.out, declR, if_pos hA])
    refine (takes_yes E s _ w1 hq1.rd hA).mono ?_
    rintro e w2 ⟨rfl, hm2⟩
    have hG2 := hG1.grown hm2.gr (fun e => by injection e with e; omega)
    have hM2 := hq1.moved.trans hm2
    have hs2 := hm2.gr.size
    clear HRES hA hG1 hq1 hm2
    go_wp2_with fail
    by_cases hN : (tokAt E.c (adv s).at_).kind = 1
    case neg =>
      refine (name_no E (adv s) _ hM2.rd hN).mono ?_
      rintro e w6 ⟨rfl, hb6⟩
      unfold wrongV
      exact ⟨rfl, end_fail (by rw [← HE.out, nameR, if_neg hN]; rfl) hM2.gr (grownBy_of_below _ hb6)⟩
    have HE2 := Lib.hid (show (paramsR F E.c (adv (adv s))).bind (fun ps s2 => (sigR F (posS E.c s) E.c s2).bind fun sg s3 => (blockR F E.c s3).bind fun b s4 => .ok (.mk 2 (tokAt E.c (adv s).at_).text [ps, sg, b] (posS E.c s)) s4) = res by
      rw [← HE.out, nameR, if_pos hN]; rfl)
    refine (name_yes E (adv s) _ hM2.rd hN).mono ?_
    rintro e w3 ⟨rfl, hm3⟩
    have hG3 := hG2.grown hm3.gr (fun e => by injection e with e; omega)
    have hM3 := hM2.trans hm3
    have hs3 := hm3.gr.size
    clear HE hN hG2 hM2 hm3
    generalize (tokAt E.c (adv s).at_).text = tx at *
    generalize hpp : posS E.c s = pp at *
    rw [show (tokAt E.c s.at_).pos = pp from hpp]
    clear hpp
    go_wp2_with fail
    cases hP : paramsR F E.c (adv (adv s)) with
    | out => exact absurd HE2.out.symm (by rw [hP]; exact HNE.out)
    | fail q =>
      refine (rparams_any E F hF _ (adv (adv s)) hM3.rd (by rw [hP]; exact nofun)).mono ?_
      rw [hP]
      rintro e w4 ⟨rfl, hg4⟩
      unfold wrongV
      exact ⟨rfl, end_fail (by rw [← HE2.out, hP]; rfl) hM3.gr hg4⟩
    | ok ps s2 =>
      have HE3 := Lib.hid (show (sigR F pp E.c s2).bind (fun sg s3 => (blockR F E.c s3).bind fun b s4 => .ok (.mk 2 tx [ps, sg, b] pp) s4) = res by rw [← HE2.out, hP]; rfl)
      refine (rparams_any E F hF _ (adv (adv s)) hM3.rd (by rw [hP]; exact nofun)).mono ?_
      rw [hP]
      rintro e w4 ⟨⟨v, rfl, hv⟩, hm4⟩
      obtain ⟨A4, c4, rfl, hC4⟩ := hv.toC
      have hC4 := hC4.mono (Y := fun b => w.heap.size + 1 ≤ b) (fun b hb _ => by omega)
      have hG4 := hG3.grown hm4.gr (fun e => by injection e with e; omega)
      have hM4 := hM3.trans hm4
      have hs4 := hm4.gr.size
      clear hP HE2 hM3 hG3 hm4 hv
      go_wp2_with fail
      have hP5 := Blk.new w4 24 #[.int .i64 ps.kind, .string ps.text, .slice A4 ps.kids.length c4, .int .i64 ps.pos]
      have hG5 := hG4.alloc (.cells #[.int .i64 ps.kind, .string ps.text, .slice A4 ps.kids.length c4, .int .i64 ps.pos] 24)
      have hM5 := hM4.alloc (.cells #[.int .i64 ps.kind, .string ps.text, .slice A4 ps.kids.length c4, .int .i64 ps.pos] 24)
      have hC5 := hC4.keep (w' := w4.alloc (.cells #[.int .i64 ps.kind, .string ps.text, .slice A4 ps.kids.length c4, .int .i64 ps.pos] 24)) (fun b _ hlt => Below.heap_alloc w4 _ b hlt)
      have hs5 : w4.heap.size + 1 = (w4.alloc (.cells #[.int .i64 ps.kind, .string ps.text, .slice A4 ps.kids.length c4, .int .i64 ps.pos] 24)).heap.size := by simp
      generalize hPP : w4.heap.size = P at *
      generalize w4.alloc (.cells #[.int .i64 ps.kind, .string ps.text, .slice A4 ps.kids.length c4, .int .i64 ps.pos] 24) = w5 at *
      clear hG4 hM4 hC4 hPP
      cases hS : sigR F pp E.c s2 with
      | out => exact absurd HE3.out.symm (by rw [hS]; exact HNE.out)
      | fail q =>
        refine (signature_any E F hF pp _ s2 hM5.rd (by rw [hS]; exact nofun)).mono ?_
        rw [hS]
        rintro e w6 ⟨rfl, hg6⟩
        unfold wrongV
        exact ⟨rfl, end_fail (by rw [← HE3.out, hS]; rfl) hM5.gr hg6⟩
      | ok sg s3 =>
        have HE4 := Lib.hid (show (blockR F E.c s3).bind (fun b s4 => .ok (.mk 2 tx [ps, sg, b] pp) s4) = res by rw [← HE3.out, hS]; rfl)
        refine (signature_any E F hF pp _ s2 hM5.rd (by rw [hS]; exact nofun)).mono ?_
        rw [hS]
        rintro e w6 ⟨⟨v, rfl, hv⟩, hm6⟩
        obtain ⟨A6, c6, rfl, hC6⟩ := hv.toC
        have hC6 := hC6.mono (Y := fun b => w.heap.size + 1 ≤ b) (fun b hb _ => by omega)
        have hG6 := hG5.grown hm6.gr (fun e => by injection e with e; omega)
        have hP6 := hP5.grown hm6.gr (fun e => by injection e with e; omega)
        have hC5 := hC5.keep (w' := w6) (KeepsX.of_grown (X := fun b => w.heap.size + 1 ≤ b) hm6.gr (fun g e hX => by injection e with e; have hX : w.heap.size + 1 ≤ g := hX; omega)).block
        have hM6 := hM5.trans hm6
        have hs6 := hm6.gr.size
        clear hS HE3 hM5 hG5 hP5 hm6 hv
        go_wp2_with fail
        have hQ7 := Blk.new w6 24 #[.int .i64 sg.kind, .string sg.text, .slice A6 sg.kids.length c6, .int .i64 sg.pos]
        have hP7 := hP6.alloc (.cells #[.int .i64 sg.kind, .string sg.text, .slice A6 sg.kids.length c6, .int .i64 sg.pos] 24)
        have hG7 := hG6.alloc (.cells #[.int .i64 sg.kind, .string sg.text, .slice A6 sg.kids.length c6, .int .i64 sg.pos] 24)
        have hM7 := hM6.alloc (.cells #[.int .i64 sg.kind, .string sg.text, .slice A6 sg.kids.length c6, .int .i64 sg.pos] 24)
        have hC6 := hC6.keep (w' := w6.alloc (.cells #[.int .i64 sg.kind, .string sg.text, .slice A6 sg.kids.length c6, .int .i64 sg.pos] 24)) (fun b _ hlt => Below.heap_alloc w6 _ b hlt)
        have hC5 := hC5.keep (w' := w6.alloc (.cells #[.int .i64 sg.kind, .string sg.text, .slice A6 sg.kids.length c6, .int .i64 sg.pos] 24)) (fun b _ hlt => Below.heap_alloc w6 _ b hlt)
        have hs7 : w6.heap.size + 1 = (w6.alloc (.cells #[.int .i64 sg.kind, .string sg.text, .slice A6 sg.kids.length c6, .int .i64 sg.pos] 24)).heap.size := by simp
        generalize hQQ : w6.heap.size = Q at *
        generalize w6.alloc (.cells #[.int .i64 sg.kind, .string sg.text, .slice A6 sg.kids.length c6, .int .i64 sg.pos] 24) = w7 at *
        clear hG6 hM6 hQQ hP6
        have s7 := eight_of hP7 hQ7
        have s7d := eight_of hP7.drew hQ7.drew
        have hRP : P ≠ E.R := by omega
        have hRQ : Q ≠ E.R := by omega
        have hPG : w.heap.size ≠ P := by omega
        have hQG : w.heap.size ≠ Q := by omega
        cases hB : blockR F E.c s3 with
        | out => exact absurd HE4.out.symm (by rw [hB]; exact HNE.out)
        | fail q =>
          have HC := Lib.hid (fun W (hr : RdAt E W s3) => block_any E F hF W s3 hr (by rw [hB]; exact nofun))
          have HF := Lib.hid (show res = .fail q by rw [← HE4.out, hB]; rfl)
          rw [hB] at HC
          clear HE4 hB
          let SS : World → Prop := fun w' => w'.cell? ⟨P, 0, none⟩ = some (.int .i64 ps.kind) ∧ w'.cell? ⟨P, 1, none⟩ = some (.string ps.text) ∧ w'.cell? ⟨P, 2, none⟩ = some (.slice A4 ps.kids.length c4) ∧ w'.cell? ⟨P, 3, none⟩ = some (.int .i64 ps.pos) ∧ w'.cell? ⟨Q, 0, none⟩ = some (.int .i64 sg.kind) ∧ w'.cell? ⟨Q, 1, none⟩ = some (.string sg.text) ∧ w'.cell? ⟨Q, 2, none⟩ = some (.slice A6 sg.kids.length c6) ∧ w'.cell? ⟨Q, 3, none⟩ = some (.int .i64 sg.pos)
          have HSS : SS w7.drew := s7
          (refine wp_region_held_drew (S := SS) (by kernel_rfl) HSS ?_; intro hSd; (refine wpAnyH_take (i := 0) (v := ?vv1x0) rfl (by kernel_rfl) (by kernel_rfl) (by kernel_rfl) (fun _ _ _ h => h) (Or.inl ⟨by rfl, ?hy1x0⟩) hSd ?rest1x0); (case hy1x0 => (intro w hSw; (try dsimp only [SS] at hSw); go_simp; try (with_reducible rfl))); (refine wpAnyH_take (i := 1) (v := ?vv1x1) rfl (by kernel_rfl) (by kernel_rfl) (by kernel_rfl) (fun _ _ _ h => h) (Or.inl ⟨by rfl, ?hy1x1⟩) hSd ?rest1x1); (case hy1x1 => (intro w hSw; (try dsimp only [SS] at hSw); go_simp; try (with_reducible rfl))); (refine wpAnyH_take (i := 2) (v := ?vv1x2) rfl (by kernel_rfl) (by kernel_rfl) (by kernel_rfl) (fun _ _ _ h => h) (Or.inl ⟨by rfl, ?hy1x2⟩) hSd ?rest1x2); (case hy1x2 => (intro w hSw; (try dsimp only [SS] at hSw); go_simp; try (with_reducible rfl))); (refine wpAnyH_take (i := 3) (v := ?vv1x3) rfl (by kernel_rfl) (by kernel_rfl) (by kernel_rfl) (fun _ _ _ h => h) (Or.inl ⟨by rfl, ?hy1x3⟩) hSd ?rest1x3); (case hy1x3 => (intro w hSw; (try dsimp only [SS] at hSw); go_simp; try (with_reducible rfl))); (refine wpAnyH_take (i := 4) (v := ?vv1x4) rfl (by kernel_rfl) (by kernel_rfl) (by kernel_rfl) (fun _ _ _ h => h) (Or.inl ⟨by rfl, ?hy1x4⟩) hSd ?rest1x4); (case hy1x4 => (intro w hSw; (try dsimp only [SS] at hSw); go_simp; try (with_reducible rfl))); (refine wpAnyH_ready (rs := [5]) (by kernel_rfl) (by simp) ?_); (refine AllReadyH.cons rfl (fun K hK => ?_) AllReadyH.nil); go_simp)
          refine (HC.out _ hM7.drew.rd).mono ?_
          rintro e w8 ⟨rfl, hg8⟩
          unfold wrongV
          exact ⟨rfl, end_fail HF.out hM7.drew.gr hg8⟩
        | ok b s4 =>
          have HC := Lib.hid (fun W (hr : RdAt E W s3) => block_any E F hF W s3 hr (by rw [hB]; exact nofun))
          have HF := Lib.hid (show res = .ok (.mk 2 tx [ps, sg, b] pp) s4 by rw [← HE4.out, hB]; rfl)
          rw [hB] at HC
          clear HE4 hB
          go_region_held3 (fun w' => w'.cell? ⟨P, 0, none⟩ = some (.int .i64 ps.kind) ∧ w'.cell? ⟨P, 1, none⟩ = some (.string ps.text) ∧ w'.cell? ⟨P, 2, none⟩ = some (.slice A4 ps.kids.length c4) ∧ w'.cell? ⟨P, 3, none⟩ = some (.int .i64 ps.pos) ∧ w'.cell? ⟨Q, 0, none⟩ = some (.int .i64 sg.kind) ∧ w'.cell? ⟨Q, 1, none⟩ = some (.string sg.text) ∧ w'.cell? ⟨Q, 2, none⟩ = some (.slice A6 sg.kids.length c6) ∧ w'.cell? ⟨Q, 3, none⟩ = some (.int .i64 sg.pos))
            (first | with_reducible exact s9 _ _ _ _ | with_reducible exact s8b | with_reducible exact s8a _ | with_reducible exact s8 | with_reducible exact s7d | with_reducible exact s7)
            (first
              | (go_at_call 97; refine (HC.out _ hM7.drew.rd).mono ?_; rintro e w8 ⟨⟨v, rfl, hv⟩, hm8⟩; obtain ⟨An, cn, rfl, hC8⟩ := hv.toC; have hP8 := hP7.drew.grown hm8.gr (fun e => hRP (by injection e)); have hQ8 := hQ7.drew.grown hm8.gr (fun e => hRQ (by injection e)); have s8 := eight_of hP8 hQ8; have s8a := fun o : Obj => eight_of (hP8.alloc o) (hQ8.alloc o))
              | (go_at_call 64; refine (node_any _ _ _ _ _ ⟨_, _, _, rfl⟩).mono ?_; rintro e w9 ⟨rfl, hb9⟩; have hP9 := (hP8.alloc _).below hb9 (by have := hP8.lt; simp; omega); have hQ9 := (hQ8.alloc _).below hb9 (by have := hQ8.lt; simp; omega); have s8b := eight_of hP9 hQ9; have s9 := fun a b c d : Value => eight_of ((((hP9.far (p := ⟨w.heap.size, 0, none⟩) (by exact hPG.symm) a).far (p := ⟨w.heap.size, 1, none⟩) (by exact hPG.symm) b).far (p := ⟨w.heap.size, 2, none⟩) (by exact hPG.symm) c).far (p := ⟨w.heap.size, 3, none⟩) (by exact hPG.symm) d) ((((hQ9.far (p := ⟨w.heap.size, 0, none⟩) (by exact hQG.symm) a).far (p := ⟨w.heap.size, 1, none⟩) (by exact hQG.symm) b).far (p := ⟨w.heap.size, 2, none⟩) (by exact hQG.symm) c).far (p := ⟨w.heap.size, 3, none⟩) (by exact hQG.symm) d); have hG9 := ((hG7.drew.grown hm8.gr (fun e => by injection e with e; omega)).alloc _).below hb9 (by have := (hG7.drew.grown hm8.gr (fun e => by injection e with e; omega)).lt; simp; omega); obtain ⟨g0, g1, g2, g3, k0, k1, k2, k3⟩ := blk4 hG9))
          all_goals go_wp2_with fail
          have hs8 : w7.heap.size ≤ w8.heap.size := hm8.gr.size
          have hCp := (hC5.keep (w := w7) (w' := w7.drew) (fun _ _ _ => rfl)).keep (w' := w8) (KeepsX.of_grown (X := fun b => w.heap.size + 1 ≤ b) hm8.gr (fun g e hX => by injection e with e; have hX : w.heap.size + 1 ≤ g := hX; omega)).block
          have hCs := (hC6.keep (w := w7) (w' := w7.drew) (fun _ _ _ => rfl)).keep (w' := w8) (KeepsX.of_grown (X := fun b => w.heap.size + 1 ≤ b) hm8.gr (fun g e hX => by injection e with e; have hX : w.heap.size + 1 ≤ g := hX; omega)).block
          have hz8 : w7.drew.heap.size = w7.heap.size := rfl
          have hV := NodeV.make 3 rfl (NodesC.cons hCp (NodesC.cons hCs (NodesC.one (hC8.mono (Y := fun b => w.heap.size + 1 ≤ b) fun b hb _ => by omega)))) 2 tx pp hb9
          refine end_node HF.out hV (((hM7.drew.trans hm8).alloc _).step hb9) hG9 (Nat.le_refl _) hltR ?_ rfl (by rfl) rfl
          rintro b (⟨hb, _⟩ | rfl) <;> constructor <;> omega
  | false =>
    refine (takes_no E s _ w1 hq1.rd hA).mono ?_
    rintro e w2 ⟨rfl, hq2⟩
    have hG2 := hG1.below hq2.bel hltG1
    have hM2 := hq1.moved.trans hq2.moved
    have hs2 := hq2.bel.size
    clear hG1 hq1 hq2
    go_wp2_with fail
    cases hT : isS E.c s (⟨#[116, 121, 112, 101]⟩ : ByteArray) with
    | true =>
      have HE := Lib.hid (show typeDeclR F (posS E.c s) E.c (adv s) = res by rw [← HRES.out, declR, if_neg (by rw [hA]; decide), if_pos hT])
      refine (takes_yes E s _ w2 hM2.rd hT).mono ?_
      rintro e w3 ⟨rfl, hm3⟩
      have hG3 := hG2.grown hm3.gr (fun e => by injection e with e; omega)
      have hM3 := hM2.trans hm3
      have hs3 := hm3.gr.size
      clear HRES hA hT hG2 hM2 hm3
      go_wp2_with fail
      refine (typeDecl_any E F hF (posS E.c s) _ (adv s) hM3.rd (by rw [HE.out]; exact HNE.out)).mono ?_
      rw [HE.out]
      cases hres : res with
      | out => exact absurd hres HNE.out
      | fail p =>
        rintro e w5 ⟨rfl, hg5⟩
        unfold wrongV
        exact ⟨rfl, end_fail (by first | rfl | exact hres) hM3.gr hg5⟩
      | ok n5 s5 =>
        rintro e w5 ⟨⟨v5, rfl, hv5⟩, hm5⟩
        obtain ⟨A5, c5, rfl, hC5⟩ := hv5.toC
        have hG5 := hG3.grown hm5.gr (fun e => by injection e with e; omega)
        have hM5 := hM3.trans hm5
        obtain ⟨d0, d1, d2, d3, e0, e1, e2, e3⟩ := blk4 hG5
        go_wp2_with fail
        refine end_node (by first | rfl | exact hres) hv5 hM5 hG5 (Nat.le_refl _) hltR ?_ rfl (by rfl) rfl
        intro b hb
        constructor <;> omega
    | false =>
      have HE := Lib.hid (show variableR F E.c s = res by rw [← HRES.out, declR, if_neg (by rw [hA]; decide), if_neg (by rw [hT]; decide)])
      refine (takes_no E s _ w2 hM2.rd hT).mono ?_
      rintro e w3 ⟨rfl, hq3⟩
      have hG3 := hG2.below hq3.bel hG2.lt
      have hM3 := hM2.trans hq3.moved
      have hs3 := hq3.bel.size
      clear HRES hA hT hG2 hM2 hq3
      go_wp2_with fail
      refine (variable_any E F hF _ s hM3.rd (by rw [HE.out]; exact HNE.out)).mono ?_
      rw [HE.out]
      cases hres : res with
      | out => exact absurd hres HNE.out
      | fail p =>
        rintro e w5 ⟨rfl, hg5⟩
        unfold wrongV
        exact ⟨rfl, end_fail (by first | rfl | exact hres) hM3.gr hg5⟩
      | ok n5 s5 =>
        rintro e w5 ⟨⟨v5, rfl, hv5⟩, hm5⟩
        obtain ⟨A5, c5, rfl, hC5⟩ := hv5.toC
        have hG5 := hG3.grown hm5.gr (fun e => by injection e with e; omega)
        have hM5 := hM3.trans hm5
        obtain ⟨d0, d1, d2, d3, e0, e1, e2, e3⟩ := blk4 hG5
        go_wp2_with fail
        refine end_node (by first | rfl | exact hres) hv5 hM5 hG5 (Nat.le_refl _) hltR ?_ rfl (by rfl) rfl
        intro b hb
        constructor <;> omega
end Go.Proofs.YtnalfjaojcahhaaGreatDoor
namespace Go.Proofs.YtnalfjaojcahhaaGreatDoor
open Go.RowKit Go.Lib Go.Proofs
attribute [local go_sem ↓] Go.wp_at_zero Go.wp_at_succ
attribute [local go_sem] fld_tok0 fld_tok1 fld_tok2 fld_nd0 fld_nd1 fld_nd2 fld_nd3

set_option maxRecDepth 100000 in
set_option maxHeartbeats 4000000 in
theorem file_any (E : Env) (F : Fns) (hF : OkF E F) : ReadC E (fileR F) 48 := by
  intro w s h hno
  generalize hres : fileR F E.c s = res at *
  have HRES := Lib.hid hres
  have HNE := Lib.hid hno
  have hltR := h.lt
  have hM0 := (Moved.refl h).alloc (.cells ndZ 24)
  clear hres hno
  go_enter Tryz.func48, Tryz.ntmps48
  go_wp2_with fail
  refine (next_any E s _ (h.alloc _)).mono ?_
  unfold tokV
  rintro e w1 ⟨rfl, hb1⟩
  have hG1 := (Blk.new w 24 ndZ).below hb1 (by simp)
  have hM1 := hM0.step hb1
  have hltG1 := hG1.lt
  clear hb1 hM0
  go_wp2_with fail
  cases hA : isS E.c s (⟨#[112, 97, 99, 107, 97, 103, 101]⟩ : ByteArray) with
  | false =>
    refine (need_no E s _ _ hM1.rd hA).mono ?_
    rintro e w4 ⟨rfl, hb4⟩
    unfold wrongV
    exact ⟨rfl, end_fail (by rw [← HRES.out, fileR, need]; simp [hA]) hM1.gr (grownBy_of_below _ hb4)⟩
  | true =>
    have HE := Lib.hid (show (nameR E.c (adv s)).bind (fun x s2 => fileGo F (posS E.c s) x F.g [] E.c s2) = res by rw [← HRES.out, fileR, need]; simp only [hA, if_true, Res.bind_ok])
    refine (need_yes E s _ _ hM1.rd hA).mono ?_
    rintro e w2 ⟨rfl, hm2⟩
    have hG2 := hG1.grown hm2.gr (fun e => by injection e with e; omega)
    have hM2 := hM1.trans hm2
    have hs2 := hm2.gr.size
    clear HRES hA hG1 hM1 hm2
    go_wp2_with fail
    by_cases hN : (tokAt E.c (adv s).at_).kind = 1
    case neg =>
      refine (name_no E (adv s) _ hM2.rd hN).mono ?_
      rintro e w6 ⟨rfl, hb6⟩
      unfold wrongV
      exact ⟨rfl, end_fail (by rw [← HE.out, nameR, if_neg hN]; rfl) hM2.gr (grownBy_of_below _ hb6)⟩
    have HE2 := Lib.hid (show fileGo F (posS E.c s) (tokAt E.c (adv s).at_).text F.g [] E.c (adv (adv s)) = res by
      rw [← HE.out, nameR, if_pos hN]; rfl)
    refine (name_yes E (adv s) _ hM2.rd hN).mono ?_
    rintro e w3 ⟨rfl, hm3⟩
    have hG3 := hG2.grown hm3.gr (fun e => by injection e with e; omega)
    have hM3 := hM2.trans hm3
    have hs3 := hm3.gr.size
    clear HE hN hG2 hM2 hm3
    generalize (tokAt E.c (adv s).at_).text = tx at *
    generalize hpp : posS E.c s = p at *
    rw [show (tokAt E.c s.at_).pos = p from hpp]
    clear hpp
    go_wp2_with fail
    refine (node_any _ _ _ _ _ ⟨_, _, _, rfl⟩).mono ?_
    rintro e w4 ⟨rfl, hb4⟩
    have hG4 := hG3.below hb4 hG3.lt
    have hM4 := hM3.step hb4
    have hltG4 := hG4.lt
    clear hb4 hM3 hG3
    have hL5 := Blk.new w4 24 #[.int .i64 1, .string tx, .slice none 0 0, .int .i64 p]
    have hG5 := hG4.alloc (.cells #[.int .i64 1, .string tx, .slice none 0 0, .int .i64 p] 24)
    have hM5 := hM4.alloc (.cells #[.int .i64 1, .string tx, .slice none 0 0, .int .i64 p] 24)
    go_wp2_with fail
    generalize hL : w4.heap.size = L at *
    have hltL : w.heap.size < L := by omega
    generalize w4.alloc (.cells #[.int .i64 1, .string tx, .slice none 0 0, .int .i64 p] 24) = w5 at *
    clear hG4 hM4 hL
    go_loopg [] F.g (fun g wr => ∃ (acc : List Nd) (s' : St) (u : Value), Blk wr L 24 #[.int .i64 1, .string tx, u, .int .i64 p] ∧ OwnZ (w.heap.size + 1) (fun b => b = L) wr u acc ∧ Blk wr w.heap.size 24 ndZ ∧ acc.length + g ≤ 1000001 ∧ fileGo F p tx g acc E.c s' = res ∧ Moved E s' w wr)
    case atStart => exact ⟨[], adv (adv s), _, hL5, OwnZ.nil _ _ _, hG5, by have := hF.g; simp; omega, HE2.out, hM5⟩
    case round =>
      clear hL5 hG5 hM5 HE2
      obtain ⟨acc, s2, u, hL, HO, hG, hlen, hr, hM⟩ := hrel
      have HR := Lib.hid hr
      clear hr
      cases gk with
      | zero => exact absurd HR.out.symm (by rw [fileGo]; exact HNE.out)
      | succ g1 =>
        go_wp2_with fail
        refine (takeSemi_any E s2 _ hM.rd).mono ?_
        rintro e w6 ⟨rfl, hm6⟩
        have hL6 := hL.grown hm6.gr (fun e => by injection e with e; omega)
        have hG6 := hG.grown hm6.gr (fun e => by injection e with e; omega)
        have HO6 := HO.grown hm6.gr (by omega)
        have hM6 := hM.trans hm6
        clear hL hG HO hM hm6
        cases hS0 : semiB E.c s2 with
        | false =>
          have HF := Lib.hid (show res = .fail (posS E.c s2) by rw [← HR.out, fileGo]; simp only [hS0, Bool.false_eq_true, if_false])
          rw [show semiS E.c s2 = s2 by unfold semiS; rw [hS0]; rfl] at hM6
          go_wp2_with fail
          refine (fail_any E s2 _ hM6.rd).mono ?_
          rintro e w13 ⟨rfl, hb13⟩
          unfold wrongV
          exact ⟨rfl, end_fail HF.out hM6.gr (grownBy_of_below _ hb13)⟩
        | true =>
          rw [show semiS E.c s2 = adv s2 by unfold semiS; rw [hS0]; rfl] at hM6
          obtain ⟨c0, c1, -, -, -, -⟩ := hM6.rd.cells
          cases hEq : (((adv s2).at_ : Int) == (E.c.toks.length : Int)) with
          | true =>
            have HF := Lib.hid (show res = .ok (.mk 1 tx acc p) (adv s2) by
              have e : (adv s2).at_ = s2.at_ + 1 := rfl
              rw [beq_iff_eq] at hEq
              rw [← HR.out, fileGo]
              simp only [hS0, if_true]
              rw [if_pos (by omega)])
            clear HR
            obtain ⟨A4, c4, hu4, _⟩ := HO6.form
            subst hu4
            go_wp2_with fail
            go_quiet (fail)
            clear c0 c1
            obtain ⟨x0, x1, x2, x3, _, _, _, _⟩ := blk4 (hL6.drewN nq)
            obtain ⟨d0, d1, d2, d3, e0, e1, e2, e3⟩ := blk4 (hG6.drewN nq)
            go_wp2_with fail
            refine end_node HF.out (NodeV.of_slice (HO6.kept ((KeepsX.refl _ _).drewN nq)).values 1 tx p) (hM6.drewN nq) (hG6.drewN nq) (Nat.le_refl _) hltR ?_ rfl (by rfl) rfl
            rintro b ⟨hb, _⟩
            constructor <;> omega
          | false =>
            have HE := Lib.hid (show (if isS E.c (adv s2) (⟨#[102, 117, 110, 99]⟩ : ByteArray) || (isS E.c (adv s2) (⟨#[116, 121, 112, 101]⟩ : ByteArray) || isS E.c (adv s2) (⟨#[118, 97, 114]⟩ : ByteArray)) then (declR F E.c (adv s2)).bind fun d s1 => fileGo F p tx g1 (acc ++ [d]) E.c s1 else .fail (posS E.c (adv s2))) = res by
              have e : (adv s2).at_ = s2.at_ + 1 := rfl
              rw [beq_eq_false_iff_ne] at hEq
              rw [← HR.out, fileGo]
              simp only [hS0, if_true]
              rw [if_neg (show ¬ s2.at_ + 1 = E.c.toks.length by omega)])
            clear HR
            go_wp2_with fail
            go_quiet (fail)
            clear c0 c1
            have hL7 := hL6.drewN nq
            have hG7 := hG6.drewN nq
            have HO7 := HO6.kept ((KeepsX.refl _ _).drewN nq)
            have hM7 := hM6.drewN nq
            generalize w6.drewN nq = w7 at *
            clear hL6 hG6 HO6 hM6 hEq
            generalize hc1 : isS E.c (adv s2) (⟨#[102, 117, 110, 99]⟩ : ByteArray) = c1 at *
            generalize hc2 : isS E.c (adv s2) (⟨#[116, 121, 112, 101]⟩ : ByteArray) = c2 at *
            generalize hc3 : isS E.c (adv s2) (⟨#[118, 97, 114]⟩ : ByteArray) = c3 at *
            go_upto_region 7 with fail
            go_cut [39] (fun s39 wx => s39 = .bool (!(c1 || (c2 || c3))) ∧ Below w7.heap.size w7 wx)
            case first =>
              have HI := Lib.hid (fun (w' : World) (hb : Below w7.heap.size w7 w') x => is_any E (adv s2) x w' (hM7.rd.below hb))
              go_wp2_with fail
              refine (HI.out w7 (Below.refl _ _) _).mono ?_
              rw [hc1]
              rintro e wa ⟨rfl, hba⟩
              cases c1 with
              | true =>
                go_wp2_with fail
                go_meet
                exact ⟨rfl, hba⟩
              | false =>
                go_wp2_with fail
                refine (HI.out wa hba _).mono ?_
                rw [hc2]
                rintro e wb ⟨rfl, hbb⟩
                have hbb := hba.trans (hbb.mono hba.size)
                cases c2 with
                | true =>
                  go_wp2_with fail
                  go_meet
                  exact ⟨rfl, hbb⟩
                | false =>
                  go_wp2_with fail
                  refine (HI.out wb hbb _).mono ?_
                  rw [hc3]
                  rintro e wd ⟨rfl, hbd⟩
                  have hbd := hbb.trans (hbd.mono hbb.size)
                  go_wp2_with fail
                  go_meet
                  exact ⟨by cases c3 <;> rfl, hbd⟩
            case rest =>
              obtain ⟨rfl, hb8⟩ := hcut
              have hL8 := hL7.below hb8 hL7.lt
              have hG8 := hG7.below hb8 hG7.lt
              have HO8 := HO7.kept (KeepsX.of_below hb8 (fun b _ hlt => hlt))
              have hM8 := hM7.step hb8
              clear hL7 hG7 HO7 hM7 hb8
              cases hcc : (c1 || (c2 || c3)) with
              | false =>
                have HF := Lib.hid (show res = .fail (posS E.c (adv s2)) by rw [← HE.out, hcc]; rfl)
                go_wp2_with fail
                refine (fail_any E (adv s2) _ hM8.rd).mono ?_
                rintro e w13 ⟨rfl, hb13⟩
                unfold wrongV
                exact ⟨rfl, end_fail HF.out hM8.gr (grownBy_of_below _ hb13)⟩
              | true =>
                have HE2 := Lib.hid (show (declR F E.c (adv s2)).bind (fun d s1 => fileGo F p tx g1 (acc ++ [d]) E.c s1) = res by rw [← HE.out, hcc]; rfl)
                clear HE hcc
                obtain ⟨A4, c4, hu4, _⟩ := HO8.form
                subst hu4
                obtain ⟨x0, x1, x2, x3, y0, y1, y2, y3⟩ := blk4 hL8
                have hltL8 := hL8.lt
                cases hP : declR F E.c (adv s2) with
                | out => exact absurd HE2.out.symm (by rw [hP]; exact HNE.out)
                | fail q =>
                  have HF := Lib.hid (show res = .fail q by rw [← HE2.out, hP]; rfl)
                  go_wp2_with fail
                  let SS : World → Prop := fun w' => w'.cell? ⟨L, 2, none⟩ = some (.slice A4 acc.length c4)
                  have HSS : SS wc.drew := x2
                  (refine wp_region_held_drew (S := SS) (by kernel_rfl) HSS ?_; intro hSd; (refine wpAnyH_take (i := 0) (v := ?vv1x0) rfl (by kernel_rfl) (by kernel_rfl) (by kernel_rfl) (fun _ _ _ h => h) (Or.inl ⟨by rfl, ?hy1x0⟩) hSd ?rest1x0); (case hy1x0 => (intro w hSw; (try dsimp only [SS] at hSw); go_simp; try (with_reducible rfl))); (refine wpAnyH_take (i := 1) (v := ?vv1x1) rfl (by kernel_rfl) (by kernel_rfl) (by kernel_rfl) (fun _ _ _ h => h) (Or.inl ⟨by rfl, ?hy1x1⟩) hSd ?rest1x1); (case hy1x1 => (intro w hSw; (try dsimp only [SS] at hSw); go_simp; try (with_reducible rfl))); (refine wpAnyH_take (i := 2) (v := ?vv1x2) rfl (by kernel_rfl) (by kernel_rfl) (by kernel_rfl) (fun _ _ _ h => h) (Or.inl ⟨by rfl, ?hy1x2⟩) hSd ?rest1x2); (case hy1x2 => (intro w hSw; (try dsimp only [SS] at hSw); go_simp; try (with_reducible rfl))); (refine wpAnyH_ready (rs := [3]) (by kernel_rfl) (by simp) ?_); (refine AllReadyH.cons rfl (fun K hK => ?_) AllReadyH.nil); go_simp)
                  refine (decl_any E F hF _ (adv s2) hM8.drew.rd (by rw [hP]; exact nofun)).mono ?_
                  rw [hP]
                  rintro e w9 ⟨rfl, hg9⟩
                  unfold wrongV
                  exact ⟨rfl, end_fail HF.out hM8.drew.gr hg9⟩
                | ok n2 s3 =>
                  have HE3 := Lib.hid (show fileGo F p tx g1 (acc ++ [n2]) E.c s3 = res by rw [← HE2.out, hP]; rfl)
                  have HC := Lib.hid (fun W (hr : RdAt E W (adv s2)) => decl_any E F hF W (adv s2) hr (by rw [hP]; exact nofun))
                  rw [hP] at HC
                  clear HE2 hP
                  go_wp2_with fail
                  have hacc : acc.length ≤ 1000000 := by omega
                  have hRL : E.R < w.heap.size + 1 := by omega
                  have hsz : w.heap.size + 1 ≤ wc.heap.size := by omega
                  go_region_law (first
                    | (refine step_pushZ (by rfl) (.tmp 43) (.tmp 46) (by rfl) E s3 (w.heap.size + 1) wc.heap.size (fun b => b = L) w w10 (.slice A4 acc.length c4) acc n2 A7 c7 (by rfl) (by rfl) HO10 hM10 (Nat.le_succ _) hRL hsz hs10 (fun b hb => by rw [hb]; exact hltL8) (fun g hg => (HO8.lt g hg).2) hacc hC7 ?_
                       intro g c w11 hp11
                       have hL11 : Blk w11 L 24 #[.int .i64 1, .string tx, .slice A4 acc.length c4, .int .i64 p] := (hp11.old L hltL10 (.inl rfl)).trans hL10
                       obtain ⟨v0, v1, v2, v3, f0, f1, f2, f3⟩ := blk4 hL11)
                    | (go_simp
                       go_at_call 68
                       refine (HC.out _ hM8.drew.rd).mono ?_
                       rintro e w10 ⟨⟨v, rfl, hv10⟩, hm10⟩
                       obtain ⟨A7, c7, rfl, hC7⟩ := hv10.toC
                       have hL10 := hL8.drew.grown hm10.gr (fun e => by injection e with e; omega)
                       have hG10 := hG8.drew.grown hm10.gr (fun e => by injection e with e; omega)
                       have HO10 := (HO8.kept ((KeepsX.refl _ _).drew)).grown hm10.gr hRL
                       have hM10 := hM8.drew.trans hm10
                       have hs10 : wc.heap.size ≤ w10.heap.size := hm10.gr.size
                       have hltL10 := hL10.lt
                       obtain ⟨z0, z1, z2, z3, _, _, _, _⟩ := blk4 hL10))
                  all_goals go_wp2_with fail
                  all_goals
                    go_roundg g1
                    case measure => omega
                    case rel =>
                      refine ⟨acc ++ [n2], s3, _, by simpa using hL11.set_ 2 (.slice (some ⟨g, 0, none⟩) (acc.length + 1) c), ?_, ?_, by rw [List.length_append]; simp; omega, HE3.out, ?_⟩
                      · exact hp11.own.kept ((KeepsX.refl _ _).setCell (fun hX => hX.2 rfl) _)
                      · exact Blk.far (show Blk w11 w.heap.size 24 ndZ from (hp11.old w.heap.size (by have := hG10.lt; omega) (.inr (by omega))).trans hG10) (p := ⟨L, 2, none⟩) (by show w.heap.size ≠ L; omega) _
                      · exact hp11.mov.own (p := ⟨L, 2, none⟩) (by show w.heap.size ≤ L; omega) (by show E.R < L; omega) _
end Go.Proofs.YtnalfjaojcahhaaGreatDoor
namespace Go.Proofs.YtnalfjaojcahhaaGreatDoor

/-- Uses: which minor version, and where. -/
abbrev Us := List (Int × Int)
def usC (u : Int × Int) : List Value := [.int .i64 u.1, .int .i64 u.2]
def usesC (l : Us) : List Value := l.flatMap usC
def headU (n : Nd) : Us :=
  match (n.kids.getD 0 nd0).kids with
  | [] => []
  | k :: _ => (18, k.pos) :: (if n.kind = 4 then [(24, n.pos)] else [])
def interU (n : Nd) : Us := if n.kind = 3 ∧ (n.kids.getD 1 nd0).kind = 14 then [(18, (n.kids.getD 1 nd0).pos)] else []
/-- What a node itself needs. -/
def hereN (n : Nd) : Us :=
  if n.kind = 2 ∨ n.kind = 3 ∨ n.kind = 4 then headU n ++ interU n
  else if n.kind = 10 then (if 0 < n.kids.length then [(18, n.pos)] else [])
  else if n.kind = 22 then (if 2 < n.kids.length ∨ (n.kids.getD 1 nd0).kind = 11 ∨ (n.kids.getD 1 nd0).kind = 12 then [(18, n.pos)] else [])
  else []
def hereT : Nat → Nd → Us
  | 0, _ => []
  | g + 1, n => hereN n ++ n.kids.flatMap (hereT g)
/-- The kids that are asked for are there. -/
def Need : Nat → Nd → Prop
  | 0, _ => True
  | g + 1, n => ((n.kind = 2 ∨ n.kind = 4 → 1 ≤ n.kids.length) ∧ (n.kind = 3 ∨ n.kind = 22 → 2 ≤ n.kids.length)) ∧ ∀ k ∈ n.kids, Need g k

theorem headU_le (n : Nd) : (headU n).length ≤ 1 + (if n.kind = 4 then 1 else 0) := by
  unfold headU
  split
  · simp
  · split <;> simp
theorem hereN_le (n : Nd) : (hereN n).length ≤ 2 := by
  unfold hereN
  split
  · have := headU_le n
    rw [List.length_append]
    unfold interU
    by_cases h4 : n.kind = 4
    · rw [if_pos h4] at this
      rw [if_neg (by omega)]
      simpa using this
    · rw [if_neg h4] at this
      split <;> simp <;> omega
  · split
    · split <;> simp
    · split
      · split <;> simp
      · simp
theorem flatMap_le {α β γ : Type} (f : α → List β) (h : α → List γ) (l : List α) (hl : ∀ x ∈ l, (f x).length ≤ 2 * (h x).length) : (l.flatMap f).length ≤ 2 * (l.flatMap h).length := by
  induction l with
  | nil => simp
  | cons x l ih =>
    rw [List.flatMap_cons, List.flatMap_cons, List.length_append, List.length_append]
    have h1 := hl x List.mem_cons_self
    have h2 := ih fun y hy => hl y (List.mem_cons_of_mem _ hy)
    omega
theorem hereT_le : ∀ (g : Nat) (n : Nd), (hereT g n).length ≤ 2 * (lefts g n).length
  | 0, _ => by simp [hereT]
  | g + 1, n => by
    rw [hereT, lefts, List.length_append, List.length_cons]
    have h1 := hereN_le n
    have h2 := flatMap_le (hereT g) (lefts g) n.kids fun k _ => hereT_le g k
    omega
end Go.Proofs.YtnalfjaojcahhaaGreatDoor
namespace Go.Proofs.YtnalfjaojcahhaaGreatDoor
open Go.RowKit Go.Lib Go.Proofs

/-- The functions that are met again, but for types: none. -/
def fnsT : Nat → Fns
  | 0 => ⟨0, fun _ _ => .out, fun _ _ => .out, fun _ _ => .out, fun _ _ => .out, fun _ _ => .out⟩
  | g + 1 => ⟨g + 1, typR (fnsT g), fun _ _ => .out, fun _ _ => .out, fun _ _ => .out, fun _ _ => .out⟩
theorem readC_out (E : Env) (f : FuncId) : ReadC E (fun _ _ => .out) f := fun _ _ _ h => absurd rfl h
theorem okF_T (E : Env) : ∀ g, g ≤ 1000000 → OkF E (fnsT g)
  | 0, _ => ⟨readC_out _ _, readC_out _ _, readC_out _ _, readC_out _ _, readC_out _ _, Nat.zero_le _⟩
  | g + 1, h => ⟨typ_any E (fnsT g) (okF_T E g (by omega)), readC_out _ _, readC_out _ _, readC_out _ _, readC_out _ _, h⟩

def awkS : ByteArray := (⟨#[112, 97, 99, 107, 97, 103, 101, 32, 112, 10, 116, 121, 112, 101, 32, 65, 91, 80, 32, 97, 110, 121, 93, 32, 61, 32, 91, 93, 80]⟩ : ByteArray)
def awkL : List Tok := [⟨2, (⟨#[112, 97, 99, 107, 97, 103, 101]⟩ : ByteArray), 0⟩, ⟨1, (⟨#[112]⟩ : ByteArray), 8⟩, ⟨6, (⟨#[10]⟩ : ByteArray), 9⟩, ⟨2, (⟨#[116, 121, 112, 101]⟩ : ByteArray), 10⟩, ⟨1, (⟨#[65]⟩ : ByteArray), 15⟩, ⟨6, (⟨#[91]⟩ : ByteArray), 16⟩, ⟨1, (⟨#[80]⟩ : ByteArray), 17⟩, ⟨1, (⟨#[97, 110, 121]⟩ : ByteArray), 19⟩, ⟨6, (⟨#[93]⟩ : ByteArray), 22⟩, ⟨6, (⟨#[61]⟩ : ByteArray), 24⟩, ⟨6, (⟨#[91]⟩ : ByteArray), 26⟩, ⟨6, (⟨#[93]⟩ : ByteArray), 27⟩, ⟨1, (⟨#[80]⟩ : ByteArray), 28⟩, ⟨6, (⟨#[10]⟩ : ByteArray), 29⟩]
def awkN : Nd := .mk 1 (⟨#[112]⟩ : ByteArray) [.mk 4 (⟨#[65]⟩ : ByteArray) [.mk 6 (⟨#[]⟩ : ByteArray) [.mk 7 (⟨#[80]⟩ : ByteArray) [.mk 10 (⟨#[97, 110, 121]⟩ : ByteArray) [] 19] 17] 16, .mk 11 (⟨#[]⟩ : ByteArray) [.mk 10 (⟨#[80]⟩ : ByteArray) [] 28] 26] 10] 0

theorem awk_goes : Goes awkS 31 awkL where
  ascii := by
    have h : ∀ j, j < 29 → 0 < (awkS.data.toList.getD j 0).toNat ∧ (awkS.data.toList.getD j 0).toNat < 128 := by decide +kernel
    exact h
  most := by decide +kernel
  mark := by kernel_rfl
  toks := by kernel_rfl
  look := by decide +kernel
theorem awk_reads : fileR (fnsT 12) ⟨awkL, 29⟩ ⟨0, false, -1⟩ = .ok awkN ⟨14, false, -1⟩ := by kernel_rfl
theorem awk_right : rightFile awkN = true := by kernel_rfl
theorem awk_here : hereT 100 awkN = [(18, 17), (24, 10)] := by kernel_rfl
end Go.Proofs.YtnalfjaojcahhaaGreatDoor
