/-
  Declarations of types: typeDecl. PRINTED by gentype.py. By an AI agent.
-/
import Derived.Test.YtnalfjaojcahhaaGreatDoorJ11
import Derived.Test.YtnalfjaojcahhaaGreatDoorJ10
namespace Go.Proofs.YtnalfjaojcahhaaGreatDoor
open Go.RowKit Go.Lib Go.Proofs
attribute [local go_sem ↓] Go.wp_at_zero Go.wp_at_succ
attribute [local go_sem] fld_tok0 fld_tok1 fld_tok2 fld_nd0 fld_nd1 fld_nd2 fld_nd3

/-- What typeDecl reads behind its parameters. -/
def typeTail (F : Fns) (p : Int) (x : ByteArray) (ps : Nd) : R Nd := fun c s2 =>
  if isS c s2 (⟨#[61]⟩ : ByteArray) then (F.typ c (adv s2)).bind fun t s3 => .ok (.mk 4 x [ps, t] p) s3
  else if isS c s2 (⟨#[115, 116, 114, 117, 99, 116]⟩ : ByteArray) then (fieldsR F (posS c s2) c (adv s2)).bind fun t s3 => .ok (.mk 3 x [ps, t] p) s3
  else if isS c s2 (⟨#[105, 110, 116, 101, 114, 102, 97, 99, 101]⟩ : ByteArray) then (interR F (posS c s2) c (adv s2)).bind fun t s3 => .ok (.mk 3 x [ps, t] p) s3
  else (F.typ c s2).bind fun t s3 => .ok (.mk 3 x [ps, t] p) s3

set_option maxRecDepth 100000 in
set_option maxHeartbeats 4000000 in
theorem typeDecl_any (E : Env) (F : Fns) (hF : OkF E F) (p : Int) (w : World) (s : St) (h : RdAt E w s) (hno : typeDeclR F p E.c s ≠ .out) :
    Calls Tryz.prog 98 #[.pointer (some ⟨E.R, 0, none⟩), .int .i64 p] w (PostN E w (typeDeclR F p E.c s)) := by
  generalize hres : typeDeclR F p E.c s = res at *
  have HRES := Lib.hid (show (nameR E.c s).bind (fun x s1 => (paramsR F E.c s1).bind fun ps s2 => typeTail F p x ps E.c s2) = res from hres)
  have HNE := Lib.hid hno
  have hltR := h.lt
  have hM0 := (Moved.refl h).alloc (.cells ndZ 24)
  have hG0 := Blk.new w 24 ndZ
  clear hres hno
  go_enter Tryz.func98, Tryz.ntmps98
  go_wp2_with fail
  by_cases hN : (tokAt E.c s.at_).kind = 1
  case neg =>
    refine (name_no E s _ hM0.rd hN).mono ?_
    rintro e w6 ⟨rfl, hb6⟩
    unfold wrongV
    exact ⟨rfl, end_fail (by rw [← HRES.out, nameR, if_neg hN]; rfl) hM0.gr (grownBy_of_below _ hb6)⟩
  have HE := Lib.hid (show (paramsR F E.c (adv s)).bind (fun ps s2 => typeTail F p (tokAt E.c s.at_).text ps E.c s2) = res by
    rw [← HRES.out, nameR, if_pos hN]; rfl)
  refine (name_yes E s _ hM0.rd hN).mono ?_
  rintro e w1 ⟨rfl, hm1⟩
  have hG1 := hG0.grown hm1.gr (fun e => by injection e with e; omega)
  have hM1 := hM0.trans hm1
  have hltG1 := hG1.lt
  generalize (tokAt E.c s.at_).text = tx at *
  clear HRES hN hG0 hM0 hm1
  go_wp2_with fail
  cases hP : paramsR F E.c (adv s) with
  | out => exact absurd HE.out.symm (by rw [hP]; exact HNE.out)
  | fail q =>
    refine (rparams_any E F hF _ (adv s) hM1.rd (by rw [hP]; exact nofun)).mono ?_
    rw [hP]
    rintro e w2 ⟨rfl, hg2⟩
    unfold wrongV
    exact ⟨rfl, end_fail (by rw [← HE.out, hP]; rfl) hM1.gr hg2⟩
  | ok ps s2 =>
    have HT := Lib.hid (show typeTail F p tx ps E.c s2 = res by rw [← HE.out, hP]; rfl)
    refine (rparams_any E F hF _ (adv s) hM1.rd (by rw [hP]; exact nofun)).mono ?_
    rw [hP]
    rintro e w2 ⟨⟨v, rfl, hv⟩, hm2⟩
    obtain ⟨A, cp, rfl, hC⟩ := hv.toC
    have hG2 := hG1.grown hm2.gr (fun e => by injection e with e; omega)
    have hM2 := hM1.trans hm2
    have hs2 : w1.heap.size ≤ w2.heap.size := hm2.gr.size
    clear hP HE hm2 hM1 hG1
    go_wp2_with fail
    refine (node_any _ _ _ _ _ ⟨_, _, _, rfl⟩).mono ?_
    rintro e w3 ⟨rfl, hb3⟩
    have hK3 := (Blk.new w2 24 #[.int .i64 ps.kind, .string ps.text, .slice A ps.kids.length cp, .int .i64 ps.pos]).below hb3 (by simp)
    have hG3 := (hG2.alloc _).below hb3 (by simp; omega)
    have hM3 := (hM2.alloc _).step hb3
    have hs3 : w2.heap.size + 1 ≤ w3.heap.size := by have := hb3.size; simp at this; omega
    have HO3 : OwnZ (w.heap.size + 1) (fun b => b = w3.heap.size) w3 (.slice (some ⟨w2.heap.size, 0, none⟩) 1 1) [ps] :=
      OwnZ.one (S := w.heap.size + 1) hK3 (by omega) rfl (hC.mono fun b hb _ => by omega) (Nat.le_refl _)
        (fun b _ hlt => (hb3.block b (by simp; omega)).trans (Below.heap_alloc w2 _ b hlt)) (fun b _ hb => by omega) (by omega)
    clear hb3 hK3 hG2 hM2 hC hv
    go_wp2_with fail
    have hL4 := Blk.new w3 24 #[.int .i64 3, .string tx, .slice (some ⟨w2.heap.size, 0, none⟩) 1 1, .int .i64 p]
    have hG4 := hG3.alloc (.cells #[.int .i64 3, .string tx, .slice (some ⟨w2.heap.size, 0, none⟩) 1 1, .int .i64 p] 24)
    have hM4 := hM3.alloc (.cells #[.int .i64 3, .string tx, .slice (some ⟨w2.heap.size, 0, none⟩) 1 1, .int .i64 p] 24)
    have HO4 := HO3.kept (((KeepsX.refl _ w3).alloc (.cells #[.int .i64 3, .string tx, .slice (some ⟨w2.heap.size, 0, none⟩) 1 1, .int .i64 p] 24)))
    have hs4 : w3.heap.size + 1 ≤ (w3.alloc (.cells #[.int .i64 3, .string tx, .slice (some ⟨w2.heap.size, 0, none⟩) 1 1, .int .i64 p] 24)).heap.size := by simp
    refine (next_any E s2 _ hM4.rd).mono ?_
    unfold tokV
    rintro e w5 ⟨rfl, hb5⟩
    have hL5 := hL4.below hb5 (by simp)
    have hG5 := hG4.below hb5 (by simp; omega)
    have HO5 := HO4.kept (KeepsX.of_below hb5 (fun b _ hlt => hlt))
    have hM5 := hM4.step hb5
    have hs5 := hb5.size
    generalize (w3.alloc (.cells #[.int .i64 3, .string tx, .slice (some ⟨w2.heap.size, 0, none⟩) 1 1, .int .i64 p] 24)) = w4 at *
    generalize hL : w3.heap.size = L at *
    generalize hK : w2.heap.size = K at *
    have hltL : w.heap.size + 1 < L := by omega
    clear HO3 hG3 hM3 hL4 hG4 HO4 hM4 hb5
    go_wp2_with fail
    cases hEq : isS E.c s2 (⟨#[61]⟩ : ByteArray) with
    | true =>
      have HA := Lib.hid (show (F.typ E.c (adv s2)).bind (fun t s3 => .ok (.mk 4 tx [ps, t] p) s3) = res by rw [← HT.out, typeTail, if_pos hEq])
      refine (takes_yes E s2 _ _ hM5.rd hEq).mono ?_
      rintro e w6 ⟨rfl, hm6⟩
      have hL6 := hL5.grown hm6.gr (fun e => by injection e with e; omega)
      have hG6 := hG5.grown hm6.gr (fun e => by injection e with e; omega)
      have HO6 := HO5.grown hm6.gr (by omega)
      have hM6 := hM5.trans hm6
      have hs6 := hm6.gr.size
      clear hL5 hG5 HO5 hM5 hm6
      clear HT hEq
      obtain ⟨x0, x1, x2, x3, y0, y1, y2, y3⟩ := blk4 hL6
      go_wp2_with fail
      have hL7 : Blk (w6.setCell ⟨L, 0, none⟩ (.int .i64 4)) L 24 #[.int .i64 4, .string tx, .slice (some ⟨K, 0, none⟩) 1 1, .int .i64 p] := by simpa using hL6.set_ 0 (.int .i64 4)
      have hG7 := hG6.far (p := ⟨L, 0, none⟩) (by show w.heap.size ≠ L; omega) (.int .i64 4)
      have HO7 := HO6.kept ((KeepsX.refl _ _).setCell (p := ⟨L, 0, none⟩) (fun hX => hX.2 rfl) (.int .i64 4))
      have hM7 := hM6.own (p := ⟨L, 0, none⟩) (by show w.heap.size ≤ L; omega) (by show E.R < L; omega) (.int .i64 4)
      have hs7 : w6.heap.size ≤ (w6.setCell ⟨L, 0, none⟩ (.int .i64 4)).heap.size := by simp
      clear x0 x1 x2 x3 y0 y1 y2 y3 hL6 hG6 HO6 hM6
      generalize w6.setCell ⟨L, 0, none⟩ (.int .i64 4) = w8 at *
      have hL8 := hL7
      have hG8 := hG7
      have HO8 := HO7
      have hM8 := hM7
      clear hL7 hG7 HO7 hM7
      have hltL8 := hL8.lt
      have hRL : E.R < w.heap.size + 1 := by omega
      have hsz : w.heap.size + 1 ≤ w8.heap.size := by omega
      obtain ⟨x0, x1, x2, x3, y0, y1, y2, y3⟩ := blk4 hL8
      cases hP : F.typ E.c (adv s2) with
      | out => exact absurd HA.out.symm (by rw [hP]; exact HNE.out)
      | fail q =>
        have HF := Lib.hid (show res = .fail q by rw [← HA.out, hP]; rfl)
        go_wp2_with fail
        let SS : World → Prop := fun w' => w'.cell? ⟨L, 2, none⟩ = some (.slice (some ⟨K, 0, none⟩) 1 1)
        have HSS : SS w8.drew := x2
        (refine wp_region_held_drew (S := SS) (by kernel_rfl) HSS ?_; intro hSd; (refine wpAnyH_take (i := 0) (v := ?vv1x0) rfl (by kernel_rfl) (by kernel_rfl) (by kernel_rfl) (fun _ _ _ h => h) (Or.inl ⟨by rfl, ?hy1x0⟩) hSd ?rest1x0); (case hy1x0 => (intro w hSw; (try dsimp only [SS] at hSw); go_simp; try (with_reducible rfl))); (refine wpAnyH_take (i := 1) (v := ?vv1x1) rfl (by kernel_rfl) (by kernel_rfl) (by kernel_rfl) (fun _ _ _ h => h) (Or.inl ⟨by rfl, ?hy1x1⟩) hSd ?rest1x1); (case hy1x1 => (intro w hSw; (try dsimp only [SS] at hSw); go_simp; try (with_reducible rfl))); (refine wpAnyH_take (i := 2) (v := ?vv1x2) rfl (by kernel_rfl) (by kernel_rfl) (by kernel_rfl) (fun _ _ _ h => h) (Or.inl ⟨by rfl, ?hy1x2⟩) hSd ?rest1x2); (case hy1x2 => (intro w hSw; (try dsimp only [SS] at hSw); go_simp; try (with_reducible rfl))); (refine wpAnyH_ready (rs := [3]) (by kernel_rfl) (by simp) ?_); (refine AllReadyH.cons rfl (fun K hK => ?_) AllReadyH.nil); go_simp)
        refine (hF.typ _ _ hM8.drew.rd (by rw [hP]; exact nofun)).mono ?_
        rw [hP]
        rintro e w7 ⟨rfl, hg7⟩
        unfold wrongV
        exact ⟨rfl, end_fail HF.out hM8.drew.gr hg7⟩
      | ok n2 s4 =>
        have HF := Lib.hid (show res = .ok (.mk 4 tx [ps, n2] p) s4 by rw [← HA.out, hP]; rfl)
        have HC := Lib.hid (fun W (hr : RdAt E W (adv s2)) => hF.typ W _ hr (by rw [hP]; exact nofun))
        rw [hP] at HC
        clear HA hP
        go_wp2_with fail
        go_region_law (first
          | (refine step_pushZ (by rfl) (.tmp 29) (.tmp 32) (by rfl) E s4 (w.heap.size + 1) w8.heap.size (fun b => b = L) w w7 (.slice (some ⟨K, 0, none⟩) 1 1) [ps] n2 A7 c7 (by rfl) (by rfl) HO7 hM7 (Nat.le_succ _) hRL hsz hs7 (fun b hb => by rw [hb]; exact hltL8) (fun g hg => (HO8.lt g hg).2) (by simp) hC7 ?_
             intro g c w9 hp9
             have hL9 : Blk w9 L 24 #[.int .i64 4, .string tx, .slice (some ⟨K, 0, none⟩) 1 1, .int .i64 p] := (hp9.old L hltL7 (.inl rfl)).trans hL7
             obtain ⟨v0, v1, v2, v3, f0, f1, f2, f3⟩ := blk4 hL9)
          | (go_simp
             go_at_call 150
             refine (HC.out _ hM8.drew.rd).mono ?_
             rintro e w7 ⟨⟨v, rfl, hv7⟩, hm7⟩
             obtain ⟨A7, c7, rfl, hC7⟩ := hv7.toC
             have hL7 := hL8.drew.grown hm7.gr (fun e => by injection e with e; omega)
             have hG7 := hG8.drew.grown hm7.gr (fun e => by injection e with e; omega)
             have HO7 := (HO8.kept ((KeepsX.refl _ _).drew)).grown hm7.gr hRL
             have hM7 := hM8.drew.trans hm7
             have hs7 : w8.heap.size ≤ w7.heap.size := hm7.gr.size
             have hltL7 := hL7.lt
             obtain ⟨z0, z1, z2, z3, _, _, _, _⟩ := blk4 hL7))
        all_goals
          have hM10 := hp9.mov.own (p := ⟨L, 2, none⟩) (by show w.heap.size ≤ L; omega) (by show E.R < L; omega) (.slice (some ⟨g, 0, none⟩) 2 c)
          have hL10 : Blk (w9.setCell ⟨L, 2, none⟩ (.slice (some ⟨g, 0, none⟩) 2 c)) L 24 #[.int .i64 4, .string tx, .slice (some ⟨g, 0, none⟩) 2 c, .int .i64 p] := by simpa using hL9.set_ 2 (.slice (some ⟨g, 0, none⟩) 2 c)
          have hG10 := Blk.far (show Blk w9 w.heap.size 24 ndZ from (hp9.old w.heap.size (by have := hG7.lt; omega) (.inr (by omega))).trans hG7) (p := ⟨L, 2, none⟩) (by show w.heap.size ≠ L; omega) (.slice (some ⟨g, 0, none⟩) 2 c)
          have HO10 := hp9.own.kept ((KeepsX.refl _ _).setCell (p := ⟨L, 2, none⟩) (fun hX => hX.2 rfl) (.slice (some ⟨g, 0, none⟩) 2 c))
          clear v0 v1 v2 v3 f0 f1 f2 f3 z0 z1 z2 z3 x0 x1 x2 x3 y0 y1 y2 y3
          obtain ⟨x0, x1, x2, x3, _, _, _, _⟩ := blk4 hL10
          obtain ⟨d0, d1, d2, d3, e0, e1, e2, e3⟩ := blk4 hG10
          generalize w9.setCell ⟨L, 2, none⟩ (.slice (some ⟨g, 0, none⟩) 2 c) = w10 at *
          go_wp2_with fail
          refine end_node HF.out (NodeV.of_slice HO10.values 4 tx p) hM10 hG10 (Nat.le_refl _) hltR ?_ rfl (by rfl) rfl
          rintro b ⟨hb, _⟩
          constructor <;> omega
    | false =>
      refine (takes_no E s2 _ _ hM5.rd hEq).mono ?_
      rintro e w6 ⟨rfl, hq6⟩
      have hL6 := hL5.below hq6.bel hL5.lt
      have hG6 := hG5.below hq6.bel hG5.lt
      have HO6 := HO5.kept (KeepsX.of_below hq6.bel (fun b _ hlt => hlt))
      have hM6 := hM5.trans hq6.moved
      have hs6 := hq6.bel.size
      clear hL5 hG5 HO5 hM5 hq6
      go_wp2_with fail
      cases hSt : isS E.c s2 (⟨#[115, 116, 114, 117, 99, 116]⟩ : ByteArray) with
      | true =>
        have HA := Lib.hid (show (fieldsR F (posS E.c s2) E.c (adv s2)).bind (fun t s3 => .ok (.mk 3 tx [ps, t] p) s3) = res by rw [← HT.out, typeTail, if_neg (by rw [hEq]; decide), if_pos hSt])
        refine (takes_yes E s2 _ _ hM6.rd hSt).mono ?_
        rintro e w8 ⟨rfl, hm8⟩
        have hL8 := hL6.grown hm8.gr (fun e => by injection e with e; omega)
        have hG8 := hG6.grown hm8.gr (fun e => by injection e with e; omega)
        have HO8 := HO6.grown hm8.gr (by omega)
        have hM8 := hM6.trans hm8
        have hs8 := hm8.gr.size
        clear hL6 hG6 HO6 hM6 hm8
        clear HT hEq hSt
        go_wp2_with fail
        have hltL8 := hL8.lt
        have hRL : E.R < w.heap.size + 1 := by omega
        have hsz : w.heap.size + 1 ≤ w8.heap.size := by omega
        obtain ⟨x0, x1, x2, x3, y0, y1, y2, y3⟩ := blk4 hL8
        cases hP : fieldsR F (posS E.c s2) E.c (adv s2) with
        | out => exact absurd HA.out.symm (by rw [hP]; exact HNE.out)
        | fail q =>
          have HF := Lib.hid (show res = .fail q by rw [← HA.out, hP]; rfl)
          go_wp2_with fail
          let SS : World → Prop := fun w' => w'.cell? ⟨L, 2, none⟩ = some (.slice (some ⟨K, 0, none⟩) 1 1)
          have HSS : SS w8.drew := x2
          (refine wp_region_held_drew (S := SS) (by kernel_rfl) HSS ?_; intro hSd; (refine wpAnyH_take (i := 0) (v := ?vv2x0) rfl (by kernel_rfl) (by kernel_rfl) (by kernel_rfl) (fun _ _ _ h => h) (Or.inl ⟨by rfl, ?hy2x0⟩) hSd ?rest2x0); (case hy2x0 => (intro w hSw; (try dsimp only [SS] at hSw); go_simp; try (with_reducible rfl))); (refine wpAnyH_take (i := 1) (v := ?vv2x1) rfl (by kernel_rfl) (by kernel_rfl) (by kernel_rfl) (fun _ _ _ h => h) (Or.inl ⟨by rfl, ?hy2x1⟩) hSd ?rest2x1); (case hy2x1 => (intro w hSw; (try dsimp only [SS] at hSw); go_simp; try (with_reducible rfl))); (refine wpAnyH_take (i := 2) (v := ?vv2x2) rfl (by kernel_rfl) (by kernel_rfl) (by kernel_rfl) (fun _ _ _ h => h) (Or.inl ⟨by rfl, ?hy2x2⟩) hSd ?rest2x2); (case hy2x2 => (intro w hSw; (try dsimp only [SS] at hSw); go_simp; try (with_reducible rfl))); (refine wpAnyH_take (i := 3) (v := ?vv2x3) rfl (by kernel_rfl) (by kernel_rfl) (by kernel_rfl) (fun _ _ _ h => h) (Or.inl ⟨by rfl, ?hy2x3⟩) hSd ?rest2x3); (case hy2x3 => (intro w hSw; (try dsimp only [SS] at hSw); go_simp; try (with_reducible rfl))); (refine wpAnyH_ready (rs := [4]) (by kernel_rfl) (by simp) ?_); (refine AllReadyH.cons rfl (fun K hK => ?_) AllReadyH.nil); go_simp)
          refine (fields_any E F hF (posS E.c s2) _ _ hM8.drew.rd (by rw [hP]; exact nofun)).mono ?_
          rw [hP]
          rintro e w7 ⟨rfl, hg7⟩
          unfold wrongV
          exact ⟨rfl, end_fail HF.out hM8.drew.gr hg7⟩
        | ok n2 s4 =>
          have HF := Lib.hid (show res = .ok (.mk 3 tx [ps, n2] p) s4 by rw [← HA.out, hP]; rfl)
          have HC := Lib.hid (fun W (hr : RdAt E W (adv s2)) => fields_any E F hF (posS E.c s2) W _ hr (by rw [hP]; exact nofun))
          rw [hP] at HC
          clear HA hP
          go_wp2_with fail
          go_region_law (first
            | (refine step_pushZ (by rfl) (.tmp 39) (.tmp 43) (by rfl) E s4 (w.heap.size + 1) w8.heap.size (fun b => b = L) w w7 (.slice (some ⟨K, 0, none⟩) 1 1) [ps] n2 A7 c7 (by rfl) (by rfl) HO7 hM7 (Nat.le_succ _) hRL hsz hs7 (fun b hb => by rw [hb]; exact hltL8) (fun g hg => (HO8.lt g hg).2) (by simp) hC7 ?_
               intro g c w9 hp9
               have hL9 : Blk w9 L 24 #[.int .i64 3, .string tx, .slice (some ⟨K, 0, none⟩) 1 1, .int .i64 p] := (hp9.old L hltL7 (.inl rfl)).trans hL7
               obtain ⟨v0, v1, v2, v3, f0, f1, f2, f3⟩ := blk4 hL9)
            | (go_simp
               go_at_call 155
               refine (HC.out _ hM8.drew.rd).mono ?_
               rintro e w7 ⟨⟨v, rfl, hv7⟩, hm7⟩
               obtain ⟨A7, c7, rfl, hC7⟩ := hv7.toC
               have hL7 := hL8.drew.grown hm7.gr (fun e => by injection e with e; omega)
               have hG7 := hG8.drew.grown hm7.gr (fun e => by injection e with e; omega)
               have HO7 := (HO8.kept ((KeepsX.refl _ _).drew)).grown hm7.gr hRL
               have hM7 := hM8.drew.trans hm7
               have hs7 : w8.heap.size ≤ w7.heap.size := hm7.gr.size
               have hltL7 := hL7.lt
               obtain ⟨z0, z1, z2, z3, _, _, _, _⟩ := blk4 hL7))
          all_goals
            have hM10 := hp9.mov.own (p := ⟨L, 2, none⟩) (by show w.heap.size ≤ L; omega) (by show E.R < L; omega) (.slice (some ⟨g, 0, none⟩) 2 c)
            have hL10 : Blk (w9.setCell ⟨L, 2, none⟩ (.slice (some ⟨g, 0, none⟩) 2 c)) L 24 #[.int .i64 3, .string tx, .slice (some ⟨g, 0, none⟩) 2 c, .int .i64 p] := by simpa using hL9.set_ 2 (.slice (some ⟨g, 0, none⟩) 2 c)
            have hG10 := Blk.far (show Blk w9 w.heap.size 24 ndZ from (hp9.old w.heap.size (by have := hG7.lt; omega) (.inr (by omega))).trans hG7) (p := ⟨L, 2, none⟩) (by show w.heap.size ≠ L; omega) (.slice (some ⟨g, 0, none⟩) 2 c)
            have HO10 := hp9.own.kept ((KeepsX.refl _ _).setCell (p := ⟨L, 2, none⟩) (fun hX => hX.2 rfl) (.slice (some ⟨g, 0, none⟩) 2 c))
            clear v0 v1 v2 v3 f0 f1 f2 f3 z0 z1 z2 z3 x0 x1 x2 x3 y0 y1 y2 y3
            obtain ⟨x0, x1, x2, x3, _, _, _, _⟩ := blk4 hL10
            obtain ⟨d0, d1, d2, d3, e0, e1, e2, e3⟩ := blk4 hG10
            generalize w9.setCell ⟨L, 2, none⟩ (.slice (some ⟨g, 0, none⟩) 2 c) = w10 at *
            go_wp2_with fail
            refine end_node HF.out (NodeV.of_slice HO10.values 3 tx p) hM10 hG10 (Nat.le_refl _) hltR ?_ rfl (by rfl) rfl
            rintro b ⟨hb, _⟩
            constructor <;> omega
      | false =>
        refine (takes_no E s2 _ _ hM6.rd hSt).mono ?_
        rintro e w17 ⟨rfl, hq17⟩
        have hL17 := hL6.below hq17.bel hL6.lt
        have hG17 := hG6.below hq17.bel hG6.lt
        have HO17 := HO6.kept (KeepsX.of_below hq17.bel (fun b _ hlt => hlt))
        have hM17 := hM6.trans hq17.moved
        have hs17 := hq17.bel.size
        clear hL6 hG6 HO6 hM6 hq17
        go_wp2_with fail
        cases hIn : isS E.c s2 (⟨#[105, 110, 116, 101, 114, 102, 97, 99, 101]⟩ : ByteArray) with
        | true =>
          have HA := Lib.hid (show (interR F (posS E.c s2) E.c (adv s2)).bind (fun t s3 => .ok (.mk 3 tx [ps, t] p) s3) = res by rw [← HT.out, typeTail, if_neg (by rw [hEq]; decide), if_neg (by rw [hSt]; decide), if_pos hIn])
          refine (takes_yes E s2 _ _ hM17.rd hIn).mono ?_
          rintro e w8 ⟨rfl, hm8⟩
          have hL8 := hL17.grown hm8.gr (fun e => by injection e with e; omega)
          have hG8 := hG17.grown hm8.gr (fun e => by injection e with e; omega)
          have HO8 := HO17.grown hm8.gr (by omega)
          have hM8 := hM17.trans hm8
          have hs8 := hm8.gr.size
          clear hL17 hG17 HO17 hM17 hm8
          clear HT hEq hSt hIn
          go_wp2_with fail
          have hltL8 := hL8.lt
          have hRL : E.R < w.heap.size + 1 := by omega
          have hsz : w.heap.size + 1 ≤ w8.heap.size := by omega
          obtain ⟨x0, x1, x2, x3, y0, y1, y2, y3⟩ := blk4 hL8
          cases hP : interR F (posS E.c s2) E.c (adv s2) with
          | out => exact absurd HA.out.symm (by rw [hP]; exact HNE.out)
          | fail q =>
            have HF := Lib.hid (show res = .fail q by rw [← HA.out, hP]; rfl)
            go_wp2_with fail
            let SS : World → Prop := fun w' => w'.cell? ⟨L, 2, none⟩ = some (.slice (some ⟨K, 0, none⟩) 1 1)
            have HSS : SS w8.drew := x2
            (refine wp_region_held_drew (S := SS) (by kernel_rfl) HSS ?_; intro hSd; (refine wpAnyH_take (i := 0) (v := ?vv3x0) rfl (by kernel_rfl) (by kernel_rfl) (by kernel_rfl) (fun _ _ _ h => h) (Or.inl ⟨by rfl, ?hy3x0⟩) hSd ?rest3x0); (case hy3x0 => (intro w hSw; (try dsimp only [SS] at hSw); go_simp; try (with_reducible rfl))); (refine wpAnyH_take (i := 1) (v := ?vv3x1) rfl (by kernel_rfl) (by kernel_rfl) (by kernel_rfl) (fun _ _ _ h => h) (Or.inl ⟨by rfl, ?hy3x1⟩) hSd ?rest3x1); (case hy3x1 => (intro w hSw; (try dsimp only [SS] at hSw); go_simp; try (with_reducible rfl))); (refine wpAnyH_take (i := 2) (v := ?vv3x2) rfl (by kernel_rfl) (by kernel_rfl) (by kernel_rfl) (fun _ _ _ h => h) (Or.inl ⟨by rfl, ?hy3x2⟩) hSd ?rest3x2); (case hy3x2 => (intro w hSw; (try dsimp only [SS] at hSw); go_simp; try (with_reducible rfl))); (refine wpAnyH_take (i := 3) (v := ?vv3x3) rfl (by kernel_rfl) (by kernel_rfl) (by kernel_rfl) (fun _ _ _ h => h) (Or.inl ⟨by rfl, ?hy3x3⟩) hSd ?rest3x3); (case hy3x3 => (intro w hSw; (try dsimp only [SS] at hSw); go_simp; try (with_reducible rfl))); (refine wpAnyH_ready (rs := [4]) (by kernel_rfl) (by simp) ?_); (refine AllReadyH.cons rfl (fun K hK => ?_) AllReadyH.nil); go_simp)
            refine (inter_any E F hF (posS E.c s2) _ _ hM8.drew.rd (by rw [hP]; exact nofun)).mono ?_
            rw [hP]
            rintro e w7 ⟨rfl, hg7⟩
            unfold wrongV
            exact ⟨rfl, end_fail HF.out hM8.drew.gr hg7⟩
          | ok n2 s4 =>
            have HF := Lib.hid (show res = .ok (.mk 3 tx [ps, n2] p) s4 by rw [← HA.out, hP]; rfl)
            have HC := Lib.hid (fun W (hr : RdAt E W (adv s2)) => inter_any E F hF (posS E.c s2) W _ hr (by rw [hP]; exact nofun))
            rw [hP] at HC
            clear HA hP
            go_wp2_with fail
            go_region_law (first
              | (refine step_pushZ (by rfl) (.tmp 50) (.tmp 54) (by rfl) E s4 (w.heap.size + 1) w8.heap.size (fun b => b = L) w w7 (.slice (some ⟨K, 0, none⟩) 1 1) [ps] n2 A7 c7 (by rfl) (by rfl) HO7 hM7 (Nat.le_succ _) hRL hsz hs7 (fun b hb => by rw [hb]; exact hltL8) (fun g hg => (HO8.lt g hg).2) (by simp) hC7 ?_
                 intro g c w9 hp9
                 have hL9 : Blk w9 L 24 #[.int .i64 3, .string tx, .slice (some ⟨K, 0, none⟩) 1 1, .int .i64 p] := (hp9.old L hltL7 (.inl rfl)).trans hL7
                 obtain ⟨v0, v1, v2, v3, f0, f1, f2, f3⟩ := blk4 hL9)
              | (go_simp
                 go_at_call 156
                 refine (HC.out _ hM8.drew.rd).mono ?_
                 rintro e w7 ⟨⟨v, rfl, hv7⟩, hm7⟩
                 obtain ⟨A7, c7, rfl, hC7⟩ := hv7.toC
                 have hL7 := hL8.drew.grown hm7.gr (fun e => by injection e with e; omega)
                 have hG7 := hG8.drew.grown hm7.gr (fun e => by injection e with e; omega)
                 have HO7 := (HO8.kept ((KeepsX.refl _ _).drew)).grown hm7.gr hRL
                 have hM7 := hM8.drew.trans hm7
                 have hs7 : w8.heap.size ≤ w7.heap.size := hm7.gr.size
                 have hltL7 := hL7.lt
                 obtain ⟨z0, z1, z2, z3, _, _, _, _⟩ := blk4 hL7))
            all_goals
              have hM10 := hp9.mov.own (p := ⟨L, 2, none⟩) (by show w.heap.size ≤ L; omega) (by show E.R < L; omega) (.slice (some ⟨g, 0, none⟩) 2 c)
              have hL10 : Blk (w9.setCell ⟨L, 2, none⟩ (.slice (some ⟨g, 0, none⟩) 2 c)) L 24 #[.int .i64 3, .string tx, .slice (some ⟨g, 0, none⟩) 2 c, .int .i64 p] := by simpa using hL9.set_ 2 (.slice (some ⟨g, 0, none⟩) 2 c)
              have hG10 := Blk.far (show Blk w9 w.heap.size 24 ndZ from (hp9.old w.heap.size (by have := hG7.lt; omega) (.inr (by omega))).trans hG7) (p := ⟨L, 2, none⟩) (by show w.heap.size ≠ L; omega) (.slice (some ⟨g, 0, none⟩) 2 c)
              have HO10 := hp9.own.kept ((KeepsX.refl _ _).setCell (p := ⟨L, 2, none⟩) (fun hX => hX.2 rfl) (.slice (some ⟨g, 0, none⟩) 2 c))
              clear v0 v1 v2 v3 f0 f1 f2 f3 z0 z1 z2 z3 x0 x1 x2 x3 y0 y1 y2 y3
              obtain ⟨x0, x1, x2, x3, _, _, _, _⟩ := blk4 hL10
              obtain ⟨d0, d1, d2, d3, e0, e1, e2, e3⟩ := blk4 hG10
              generalize w9.setCell ⟨L, 2, none⟩ (.slice (some ⟨g, 0, none⟩) 2 c) = w10 at *
              go_wp2_with fail
              refine end_node HF.out (NodeV.of_slice HO10.values 3 tx p) hM10 hG10 (Nat.le_refl _) hltR ?_ rfl (by rfl) rfl
              rintro b ⟨hb, _⟩
              constructor <;> omega
        | false =>
          have HA := Lib.hid (show (F.typ E.c s2).bind (fun t s3 => .ok (.mk 3 tx [ps, t] p) s3) = res by rw [← HT.out, typeTail, if_neg (by rw [hEq]; decide), if_neg (by rw [hSt]; decide), if_neg (by rw [hIn]; decide)])
          refine (takes_no E s2 _ _ hM17.rd hIn).mono ?_
          rintro e w8 ⟨rfl, hq8⟩
          have hL8 := hL17.below hq8.bel hL17.lt
          have hG8 := hG17.below hq8.bel hG17.lt
          have HO8 := HO17.kept (KeepsX.of_below hq8.bel (fun b _ hlt => hlt))
          have hM8 := hM17.trans hq8.moved
          have hs8 := hq8.bel.size
          clear hL17 hG17 HO17 hM17 hq8
          go_wp2_with fail
          clear HT hEq hSt hIn
          have hltL8 := hL8.lt
          have hRL : E.R < w.heap.size + 1 := by omega
          have hsz : w.heap.size + 1 ≤ w8.heap.size := by omega
          obtain ⟨x0, x1, x2, x3, y0, y1, y2, y3⟩ := blk4 hL8
          cases hP : F.typ E.c s2 with
          | out => exact absurd HA.out.symm (by rw [hP]; exact HNE.out)
          | fail q =>
            have HF := Lib.hid (show res = .fail q by rw [← HA.out, hP]; rfl)
            go_wp2_with fail
            let SS : World → Prop := fun w' => w'.cell? ⟨L, 2, none⟩ = some (.slice (some ⟨K, 0, none⟩) 1 1)
            have HSS : SS w8.drew := x2
            (refine wp_region_held_drew (S := SS) (by kernel_rfl) HSS ?_; intro hSd; (refine wpAnyH_take (i := 0) (v := ?vv4x0) rfl (by kernel_rfl) (by kernel_rfl) (by kernel_rfl) (fun _ _ _ h => h) (Or.inl ⟨by rfl, ?hy4x0⟩) hSd ?rest4x0); (case hy4x0 => (intro w hSw; (try dsimp only [SS] at hSw); go_simp; try (with_reducible rfl))); (refine wpAnyH_take (i := 1) (v := ?vv4x1) rfl (by kernel_rfl) (by kernel_rfl) (by kernel_rfl) (fun _ _ _ h => h) (Or.inl ⟨by rfl, ?hy4x1⟩) hSd ?rest4x1); (case hy4x1 => (intro w hSw; (try dsimp only [SS] at hSw); go_simp; try (with_reducible rfl))); (refine wpAnyH_take (i := 2) (v := ?vv4x2) rfl (by kernel_rfl) (by kernel_rfl) (by kernel_rfl) (fun _ _ _ h => h) (Or.inl ⟨by rfl, ?hy4x2⟩) hSd ?rest4x2); (case hy4x2 => (intro w hSw; (try dsimp only [SS] at hSw); go_simp; try (with_reducible rfl))); (refine wpAnyH_ready (rs := [3]) (by kernel_rfl) (by simp) ?_); (refine AllReadyH.cons rfl (fun K hK => ?_) AllReadyH.nil); go_simp)
            refine (hF.typ _ _ hM8.drew.rd (by rw [hP]; exact nofun)).mono ?_
            rw [hP]
            rintro e w7 ⟨rfl, hg7⟩
            unfold wrongV
            exact ⟨rfl, end_fail HF.out hM8.drew.gr hg7⟩
          | ok n2 s4 =>
            have HF := Lib.hid (show res = .ok (.mk 3 tx [ps, n2] p) s4 by rw [← HA.out, hP]; rfl)
            have HC := Lib.hid (fun W (hr : RdAt E W s2) => hF.typ W _ hr (by rw [hP]; exact nofun))
            rw [hP] at HC
            clear HA hP
            go_wp2_with fail
            go_region_law (first
              | (refine step_pushZ (by rfl) (.tmp 18) (.tmp 21) (by rfl) E s4 (w.heap.size + 1) w8.heap.size (fun b => b = L) w w7 (.slice (some ⟨K, 0, none⟩) 1 1) [ps] n2 A7 c7 (by rfl) (by rfl) HO7 hM7 (Nat.le_succ _) hRL hsz hs7 (fun b hb => by rw [hb]; exact hltL8) (fun g hg => (HO8.lt g hg).2) (by simp) hC7 ?_
                 intro g c w9 hp9
                 have hL9 : Blk w9 L 24 #[.int .i64 3, .string tx, .slice (some ⟨K, 0, none⟩) 1 1, .int .i64 p] := (hp9.old L hltL7 (.inl rfl)).trans hL7
                 obtain ⟨v0, v1, v2, v3, f0, f1, f2, f3⟩ := blk4 hL9)
              | (go_simp
                 go_at_call 150
                 refine (HC.out _ hM8.drew.rd).mono ?_
                 rintro e w7 ⟨⟨v, rfl, hv7⟩, hm7⟩
                 obtain ⟨A7, c7, rfl, hC7⟩ := hv7.toC
                 have hL7 := hL8.drew.grown hm7.gr (fun e => by injection e with e; omega)
                 have hG7 := hG8.drew.grown hm7.gr (fun e => by injection e with e; omega)
                 have HO7 := (HO8.kept ((KeepsX.refl _ _).drew)).grown hm7.gr hRL
                 have hM7 := hM8.drew.trans hm7
                 have hs7 : w8.heap.size ≤ w7.heap.size := hm7.gr.size
                 have hltL7 := hL7.lt
                 obtain ⟨z0, z1, z2, z3, _, _, _, _⟩ := blk4 hL7))
            all_goals
              have hM10 := hp9.mov.own (p := ⟨L, 2, none⟩) (by show w.heap.size ≤ L; omega) (by show E.R < L; omega) (.slice (some ⟨g, 0, none⟩) 2 c)
              have hL10 : Blk (w9.setCell ⟨L, 2, none⟩ (.slice (some ⟨g, 0, none⟩) 2 c)) L 24 #[.int .i64 3, .string tx, .slice (some ⟨g, 0, none⟩) 2 c, .int .i64 p] := by simpa using hL9.set_ 2 (.slice (some ⟨g, 0, none⟩) 2 c)
              have hG10 := Blk.far (show Blk w9 w.heap.size 24 ndZ from (hp9.old w.heap.size (by have := hG7.lt; omega) (.inr (by omega))).trans hG7) (p := ⟨L, 2, none⟩) (by show w.heap.size ≠ L; omega) (.slice (some ⟨g, 0, none⟩) 2 c)
              have HO10 := hp9.own.kept ((KeepsX.refl _ _).setCell (p := ⟨L, 2, none⟩) (fun hX => hX.2 rfl) (.slice (some ⟨g, 0, none⟩) 2 c))
              clear v0 v1 v2 v3 f0 f1 f2 f3 z0 z1 z2 z3 x0 x1 x2 x3 y0 y1 y2 y3
              obtain ⟨x0, x1, x2, x3, _, _, _, _⟩ := blk4 hL10
              obtain ⟨d0, d1, d2, d3, e0, e1, e2, e3⟩ := blk4 hG10
              generalize w9.setCell ⟨L, 2, none⟩ (.slice (some ⟨g, 0, none⟩) 2 c) = w10 at *
              go_wp2_with fail
              refine end_node HF.out (NodeV.of_slice HO10.values 3 tx p) hM10 hG10 (Nat.le_refl _) hltR ?_ rfl (by rfl) rfl
              rintro b ⟨hb, _⟩
              constructor <;> omega

end Go.Proofs.YtnalfjaojcahhaaGreatDoor
