/-
  Blocks: block. By an AI agent.
-/
import Derived.Test.YtnalfjaojcahhaaGreatDoorJ11
import Derived.Test.YtnalfjaojcahhaaGreatDoorJ07
import Derived.Deep.RegionLaw
namespace Go.Proofs.YtnalfjaojcahhaaGreatDoor
open Go.RowKit Go.Lib Go.Proofs
attribute [local go_sem ↓] Go.wp_at_zero Go.wp_at_succ
attribute [local go_sem] fld_tok0 fld_tok1 fld_tok2 fld_nd0 fld_nd1 fld_nd2 fld_nd3

theorem enter_block (a : Array Value) (w : World) : (callFunc 153 a).run Tryz.prog w = .ok (.enter 153 a) w := by kernel_rfl

set_option maxRecDepth 100000 in
set_option maxHeartbeats 4000000 in
theorem block_part (E : Env) (F : Fns) (hF : OkF E F) (B : Nat) (w0 : World) (hB : Blk w0 B 59 #[.pointer (some ⟨E.R, 0, none⟩)]) (hne : B ≠ E.R) :
    PartC E 153 #[.pointer (some ⟨B, 0, none⟩)] (blockIn F) w0 := by
  intro w s hw h hno
  generalize hres : blockIn F E.c s = res at *
  have HRES := Lib.hid hres
  have HNE := Lib.hid hno
  have hB0 := hB.grown hw (fun e => hne (by injection e))
  have b0 := blk1 hB0
  have hltB := hB0.lt
  have hltR := h.lt
  have hM0 := (Moved.refl h).alloc (.cells ndZ 24)
  clear hres hno hB hw
  go_enter Tryz.func153, Tryz.ntmps153
  go_wp2_with fail
  refine (next_any E s _ (h.alloc _)).mono ?_
  unfold tokV
  rintro e w1 ⟨rfl, hb1⟩
  have hG1 := (Blk.new w 24 ndZ).below hb1 (by simp)
  have hB1 := (hB0.alloc (.cells ndZ 24)).below hb1 (by simp; omega)
  have hM1 := hM0.step hb1
  have hltG1 := hG1.lt
  clear hb1 hM0 hB0 b0
  go_wp2_with fail
  refine (node_any _ _ _ _ _ ⟨_, _, _, rfl⟩).mono ?_
  rintro e w2 ⟨rfl, hb2⟩
  have hG2 := hG1.below hb2 hltG1
  have hB2 := hB1.below hb2 (by omega)
  have hM2 := hM1.step hb2
  have hltG2 := hG2.lt
  clear hb2 hM1 hB1 hG1
  have hL3 := Blk.new w2 24 #[.int .i64 36, .string (⟨#[]⟩ : ByteArray), .slice none 0 0, .int .i64 (tokAt E.c s.at_).pos]
  have hG3 := hG2.alloc (.cells #[.int .i64 36, .string (⟨#[]⟩ : ByteArray), .slice none 0 0, .int .i64 (tokAt E.c s.at_).pos] 24)
  have hB3 := hB2.alloc (.cells #[.int .i64 36, .string (⟨#[]⟩ : ByteArray), .slice none 0 0, .int .i64 (tokAt E.c s.at_).pos] 24)
  have b3 := blk1 hB3
  have hM3 := hM2.alloc (.cells #[.int .i64 36, .string (⟨#[]⟩ : ByteArray), .slice none 0 0, .int .i64 (tokAt E.c s.at_).pos] 24)
  go_wp2_with fail
  cases hA : isS E.c s (⟨#[123]⟩ : ByteArray) with
  | false =>
    refine (need_no E s _ _ hM3.rd hA).mono ?_
    rintro e w4 ⟨rfl, hb4⟩
    unfold wrongV
    exact ⟨rfl, end_fail (by rw [← HRES.out, blockIn, need]; simp [hA]) hM3.gr (grownBy_of_below _ hb4)⟩
  | true =>
    have HE := Lib.hid (show blockGo F (tokAt E.c s.at_).pos F.g [] E.c (adv s) = res by rw [← HRES.out, blockIn, need]; simp only [hA, if_true, Res.bind_ok]; rfl)
    refine (need_yes E s _ _ hM3.rd hA).mono ?_
    rintro e w4 ⟨rfl, hm4⟩
    have hL4 := hL3.grown hm4.gr (fun e => by injection e with e; omega)
    have hG4 := hG3.grown hm4.gr (fun e => by injection e with e; omega)
    have hB4 := hB3.grown hm4.gr (fun e => by injection e with e; omega)
    have hM4 := hM3.trans hm4
    generalize hL : w2.heap.size = L at *
    have hltL : w.heap.size < L := by omega
    generalize (tokAt E.c s.at_).pos = p at *
    clear hL3 hG3 hB3 hM3 hm4 hA HRES hG2 hB2 hM2 hL b3
    go_wp2_with fail
    go_loopg [] F.g (fun g wr => ∃ (acc : List Nd) (s' : St) (u : Value), Blk wr L 24 #[.int .i64 36, .string (⟨#[]⟩ : ByteArray), u, .int .i64 p] ∧ OwnZ (w.heap.size + 1) (fun b => b = L) wr u acc ∧ Blk wr w.heap.size 24 ndZ ∧ Blk wr B 59 #[.pointer (some ⟨E.R, 0, none⟩)] ∧ acc.length + g ≤ 1000001 ∧ blockGo F p g acc E.c s' = res ∧ Moved E s' w wr)
    case atStart => exact ⟨[], adv s, _, hL4, OwnZ.nil _ _ _, hG4, hB4, by have := hF.g; simp; omega, HE.out, hM4⟩
    case round =>
      clear hL4 hG4 hM4 hB4 HE
      obtain ⟨acc, s2, u, hL, HO, hG, hBB, hlen, hr, hM⟩ := hrel
      have HR := Lib.hid hr
      clear hr
      cases gk with
      | zero => exact absurd HR.out.symm (by rw [blockGo]; exact HNE.out)
      | succ g1 =>
        have b0 := blk1 hBB
        cases hA : isS E.c s2 (⟨#[125]⟩ : ByteArray) with
        | true =>
          have HF := Lib.hid (show res = .ok (.mk 36 (⟨#[]⟩ : ByteArray) acc p) (adv s2) by rw [← HR.out, blockGo]; simp only [hA, if_true])
          clear HR
          go_wp2_with fail
          refine (takes_yes E s2 _ _ hM.rd hA).mono ?_
          rintro e w4 ⟨rfl, hm4⟩
          have hL4 := hL.grown hm4.gr (fun e => by injection e with e; omega)
          have hG4 := hG.grown hm4.gr (fun e => by injection e with e; omega)
          have HO4 := HO.grown hm4.gr (by omega)
          obtain ⟨A4, c4, hu4, _⟩ := HO4.form
          subst hu4
          obtain ⟨x0, x1, x2, x3, _, _, _, _⟩ := blk4 hL4
          obtain ⟨d0, d1, d2, d3, e0, e1, e2, e3⟩ := blk4 hG4
          clear hA b0
          go_wp2_with fail
          refine end_node HF.out (NodeV.of_slice HO4.values 36 (⟨#[]⟩ : ByteArray) p) (hM.trans hm4) hG4 (Nat.le_refl _) hltR ?_ rfl (by rfl) rfl
          rintro b ⟨hb, _⟩
          constructor <;> omega
        | false =>
          have HE := Lib.hid (show (if semiB E.c s2 then blockGo F p g1 acc E.c (adv s2) else (F.stmt E.c s2).bind fun n s1 => if semiB E.c s1 then blockGo F p g1 (acc ++ [n]) E.c (adv s1) else if isS E.c s1 (⟨#[125]⟩ : ByteArray) then blockGo F p g1 (acc ++ [n]) E.c s1 else .fail (posS E.c s1)) = res by
            rw [← HR.out, blockGo]; simp only [hA, Bool.false_eq_true, if_false])
          clear HR
          go_wp2_with fail
          refine (takes_no E s2 _ _ hM.rd hA).mono ?_
          rintro e w4 ⟨rfl, hq4⟩
          have hL4 := hL.below hq4.bel hL.lt
          have hG4 := hG.below hq4.bel hG.lt
          have hB4 := hBB.below hq4.bel hBB.lt
          have HO4 := HO.kept (KeepsX.of_below hq4.bel (fun b _ hlt => hlt))
          have hM4 := hM.trans hq4.moved
          clear hA hL hG HO hM hq4 b0 hBB
          have b4 := blk1 hB4
          go_wp2_with fail
          refine (takeSemi_any E s2 _ hM4.rd).mono ?_
          rintro e w5 ⟨rfl, hm5⟩
          have hL5 := hL4.grown hm5.gr (fun e => by injection e with e; omega)
          have hG5 := hG4.grown hm5.gr (fun e => by injection e with e; omega)
          have hB5 := hB4.grown hm5.gr (fun e => hne (by injection e))
          have HO5 := HO4.grown hm5.gr (by omega)
          have hM5 := hM4.trans hm5
          clear hL4 hG4 HO4 hM4 hB4 b4 hm5
          cases hS0 : semiB E.c s2 with
          | true =>
            have HE1 := Lib.hid (show blockGo F p g1 acc E.c (adv s2) = res by rw [← HE.out]; simp only [hS0, if_true])
            rw [show semiS E.c s2 = adv s2 by unfold semiS; rw [hS0]; rfl] at hM5
            clear HE
            go_wp2_with fail
            go_roundg g1
            case measure => omega
            case rel => exact ⟨acc, adv s2, _, hL5, HO5, hG5, hB5, by omega, HE1.out, hM5⟩
          | false =>
          have HE2 := Lib.hid (show ((F.stmt E.c s2).bind fun n s1 => if semiB E.c s1 then blockGo F p g1 (acc ++ [n]) E.c (adv s1) else if isS E.c s1 (⟨#[125]⟩ : ByteArray) then blockGo F p g1 (acc ++ [n]) E.c s1 else .fail (posS E.c s1)) = res by rw [← HE.out]; simp only [hS0, Bool.false_eq_true, if_false])
          rw [show semiS E.c s2 = s2 by unfold semiS; rw [hS0]; rfl] at hM5
          clear HE
          obtain ⟨A4, c4, hu4, _⟩ := HO5.form
          subst hu4
          obtain ⟨x0, x1, x2, x3, y0, y1, y2, y3⟩ := blk4 hL5
          have b5 := blk1 hB5
          have hltL5 := hL5.lt
          cases hP : F.stmt E.c s2 with
          | out => exact absurd HE2.out.symm (by rw [hP]; exact HNE.out)
          | fail q =>
            have HF := Lib.hid (show res = .fail q by rw [← HE2.out, hP]; rfl)
            go_wp2_with fail
            let SS : World → Prop := fun w' => w'.cell? ⟨L, 2, none⟩ = some (.slice A4 acc.length c4) ∧ w'.cell? ⟨B, 0, none⟩ = some (.pointer (some ⟨E.R, 0, none⟩))
            have HSS : SS w5.drew := ⟨x2, b5⟩
            (refine wp_region_held_drew (S := SS) (by kernel_rfl) HSS ?_; intro hSd; (refine wpAnyH_take (i := 0) (v := ?vv1x0) rfl (by kernel_rfl) (by kernel_rfl) (by kernel_rfl) (fun _ _ _ h => h) (Or.inl ⟨by rfl, ?hy1x0⟩) hSd ?rest1x0); (case hy1x0 => (intro w hSw; (try dsimp only [SS] at hSw); go_simp; try (with_reducible rfl))); (refine wpAnyH_take (i := 1) (v := ?vv1x1) rfl (by kernel_rfl) (by kernel_rfl) (by kernel_rfl) (fun _ _ _ h => h) (Or.inl ⟨by rfl, ?hy1x1⟩) hSd ?rest1x1); (case hy1x1 => (intro w hSw; (try dsimp only [SS] at hSw); go_simp; try (with_reducible rfl))); (refine wpAnyH_take (i := 2) (v := ?vv1x2) rfl (by kernel_rfl) (by kernel_rfl) (by kernel_rfl) (fun _ _ _ h => h) (Or.inl ⟨by rfl, ?hy1x2⟩) hSd ?rest1x2); (case hy1x2 => (intro w hSw; (try dsimp only [SS] at hSw); go_simp; try (with_reducible rfl))); (refine wpAnyH_ready (rs := [3]) (by kernel_rfl) (by simp) ?_); (refine AllReadyH.cons rfl (fun K hK => ?_) AllReadyH.nil); go_simp)
            refine (hF.stmt _ s2 hM5.drew.rd (by rw [hP]; exact nofun)).mono ?_
            rw [hP]
            rintro e w7 ⟨rfl, hg7⟩
            unfold wrongV
            exact ⟨rfl, end_fail HF.out hM5.drew.gr hg7⟩
          | ok n2 s3 =>
            have HE3 := Lib.hid (show (if semiB E.c s3 then blockGo F p g1 (acc ++ [n2]) E.c (adv s3) else if isS E.c s3 (⟨#[125]⟩ : ByteArray) then blockGo F p g1 (acc ++ [n2]) E.c s3 else .fail (posS E.c s3)) = res by rw [← HE2.out, hP]; rfl)
            have HC := Lib.hid (fun W (hr : RdAt E W s2) => hF.stmt W s2 hr (by rw [hP]; exact nofun))
            rw [hP] at HC
            clear HE2 hP
            go_wp2_with fail
            have hacc : acc.length ≤ 1000000 := by omega
            have hRL : E.R < w.heap.size + 1 := by omega
            have hsz5 : w.heap.size + 1 ≤ w5.heap.size := by omega
            have hBL : B ≠ L := by omega
            go_region_law (first
              | (refine step_pushZ (by rfl) (.tmp 15) (.tmp 18) (by rfl) E s3 (w.heap.size + 1) w5.heap.size (fun b => b = L) w w7 (.slice A4 acc.length c4) acc n2 A7 c7 (by rfl) (by rfl) HO7 hM7 (Nat.le_succ _) hRL hsz5 hs7 (fun b hb => by rw [hb]; exact hltL5) (fun g hg => (HO5.lt g hg).2) hacc hC7 ?_
                 intro g c w9 hp9
                 have hL9 : Blk w9 L 24 #[.int .i64 36, .string (⟨#[]⟩ : ByteArray), .slice A4 acc.length c4, .int .i64 p] := (hp9.old L hltL7 (.inl rfl)).trans hL7
                 have hB9 : Blk w9 B 59 #[.pointer (some ⟨E.R, 0, none⟩)] := (hp9.old B hB7.lt (.inr (by omega))).trans hB7
                 have b9 := blk1 hB9
                 obtain ⟨v0, v1, v2, v3, f0, f1, f2, f3⟩ := blk4 hL9)
              | (go_simp
                 go_at_call 154
                 refine (HC.out _ hM5.drew.rd).mono ?_
                 rintro e w7 ⟨⟨v, rfl, hv7⟩, hm7⟩
                 obtain ⟨A7, c7, rfl, hC7⟩ := hv7.toC
                 have hL7 := hL5.drew.grown hm7.gr (fun e => by injection e with e; omega)
                 have hG7 := hG5.drew.grown hm7.gr (fun e => by injection e with e; omega)
                 have hB7 := hB5.drew.grown hm7.gr (fun e => hne (by injection e))
                 have b7 := blk1 hB7
                 have HO7 := (HO5.kept ((KeepsX.refl _ _).drew)).grown hm7.gr hRL
                 have hM7 := hM5.drew.trans hm7
                 have hs7 : w5.heap.size ≤ w7.heap.size := hm7.gr.size
                 have hltL7 := hL7.lt
                 obtain ⟨z0, z1, z2, z3, _, _, _, _⟩ := blk4 hL7))
            all_goals
              have hM10 := hp9.mov.own (p := ⟨L, 2, none⟩) (by show w.heap.size ≤ L; omega) (by show E.R < L; omega) (.slice (some ⟨g, 0, none⟩) (acc.length + 1) c)
              have hL10 : Blk (w9.setCell ⟨L, 2, none⟩ (.slice (some ⟨g, 0, none⟩) (acc.length + 1) c)) L 24 #[.int .i64 36, .string (⟨#[]⟩ : ByteArray), .slice (some ⟨g, 0, none⟩) (acc.length + 1) c, .int .i64 p] := by simpa using hL9.set_ 2 (.slice (some ⟨g, 0, none⟩) (acc.length + 1) c)
              have hB10 := hB9.far (p := ⟨L, 2, none⟩) (by show B ≠ L; omega) (.slice (some ⟨g, 0, none⟩) (acc.length + 1) c)
              have hG10 := Blk.far (show Blk w9 w.heap.size 24 ndZ from (hp9.old w.heap.size (by have := hG7.lt; omega) (.inr (by omega))).trans hG7) (p := ⟨L, 2, none⟩) (by show w.heap.size ≠ L; omega) (.slice (some ⟨g, 0, none⟩) (acc.length + 1) c)
              have HO10 := hp9.own.kept ((KeepsX.refl _ _).setCell (p := ⟨L, 2, none⟩) (fun hX => hX.2 rfl) (.slice (some ⟨g, 0, none⟩) (acc.length + 1) c))
              clear v0 v1 v2 v3 f0 f1 f2 f3 z0 z1 z2 z3 x0 x1 x2 x3 y0 y1 y2 y3 b5 b7 b9
              generalize w9.setCell ⟨L, 2, none⟩ (.slice (some ⟨g, 0, none⟩) (acc.length + 1) c) = w10 at *
              have b10 := blk1 hB10
              go_wp2_with fail
              refine (takeSemi_any E s3 _ hM10.rd).mono ?_
              rintro e w11 ⟨rfl, hm11⟩
              have hL11 := hL10.grown hm11.gr (fun e => by injection e with e; omega)
              have hG11 := hG10.grown hm11.gr (fun e => by injection e with e; omega)
              have hB11 := hB10.grown hm11.gr (fun e => hne (by injection e))
              have HO11 := HO10.grown hm11.gr (by omega)
              have hM11 := hM10.trans hm11
              have b11 := blk1 hB11
              clear hM10 hL10 hG10 HO10 hB10 b10
              cases hS : semiB E.c s3 with
              | true =>
                have HE4 := Lib.hid (show blockGo F p g1 (acc ++ [n2]) E.c (adv s3) = res by rw [← HE3.out]; simp only [hS, if_true])
                rw [show semiS E.c s3 = adv s3 by unfold semiS; rw [hS]; rfl] at hM11
                clear HE3 hm11
                go_wp2_with fail
                go_roundg g1
                case measure => omega
                case rel => exact ⟨acc ++ [n2], adv s3, _, hL11, HO11, hG11, hB11, by rw [List.length_append]; simp; omega, HE4.out, hM11⟩
              | false =>
                rw [show semiS E.c s3 = s3 by unfold semiS; rw [hS]; rfl] at hM11
                go_wp2_with fail
                refine (is_any E s3 _ _ hM11.rd).mono ?_
                rintro e w12 ⟨rfl, hb12⟩
                have hL12 := hL11.below hb12 hL11.lt
                have hG12 := hG11.below hb12 hG11.lt
                have hB12 := hB11.below hb12 hB11.lt
                have HO12 := HO11.kept (KeepsX.of_below hb12 (fun b _ hlt => hlt))
                have hM12 := hM11.step hb12
                have b12 := blk1 hB12
                clear hL11 hG11 HO11 hM11 hm11 hB11 b11
                cases hI : isS E.c s3 (⟨#[125]⟩ : ByteArray) with
                | true =>
                  have HE4 := Lib.hid (show blockGo F p g1 (acc ++ [n2]) E.c s3 = res by rw [← HE3.out]; simp only [hS, hI, Bool.false_eq_true, if_false, if_true])
                  clear HE3
                  go_wp2_with fail
                  go_roundg g1
                  case measure => omega
                  case rel => exact ⟨acc ++ [n2], s3, _, hL12, HO12, hG12, hB12, by rw [List.length_append]; simp; omega, HE4.out, hM12⟩
                | false =>
                  have HF := Lib.hid (show res = .fail (posS E.c s3) by rw [← HE3.out]; simp only [hS, hI, Bool.false_eq_true, if_false])
                  go_wp2_with fail
                  refine (fail_any E s3 _ hM12.rd).mono ?_
                  rintro e w13 ⟨rfl, hb13⟩
                  unfold wrongV
                  exact ⟨rfl, end_fail HF.out hM12.gr (grownBy_of_below _ hb13)⟩

set_option maxHeartbeats 2000000 in
theorem block_any (E : Env) (F : Fns) (hF : OkF E F) : ReadC E (blockR F) 97 := by
  intro w s h hno
  have hltR := h.lt
  have hM0 := ((Moved.refl h).alloc (.cells #[.pointer (some ⟨E.R, 0, none⟩)] 59)).alloc (.cells ndZ 24)
  have hB0 : Blk ((w.alloc (.cells #[.pointer (some ⟨E.R, 0, none⟩)] 59)).alloc (.cells ndZ 24)) w.heap.size 59 #[.pointer (some ⟨E.R, 0, none⟩)] := (Blk.new w _ _).alloc _
  have hG0 : Blk ((w.alloc (.cells #[.pointer (some ⟨E.R, 0, none⟩)] 59)).alloc (.cells ndZ 24)) (w.heap.size + 1) 24 ndZ := by
    have := Blk.new (w.alloc (.cells #[.pointer (some ⟨E.R, 0, none⟩)] 59)) 24 ndZ
    simpa using this
  have HC := Lib.hid (free_any E 153 #[] #[.pointer (some ⟨w.heap.size, 0, none⟩)] (blockIn F) s _ hM0.rd enter_block (by
    simpa using block_part E F hF w.heap.size _ hB0 (by omega)) hno)
  have HNE := Lib.hid hno
  have HSZ := Lib.hid (show ((w.alloc (.cells #[.pointer (some ⟨E.R, 0, none⟩)] 59)).alloc (.cells ndZ 24)).heap.size = w.heap.size + 2 by simp)
  generalize hres : blockR F E.c s = res at *
  rw [show freeR (blockIn F) E.c s = res from hres] at HC
  clear hres hno hB0
  go_enter Tryz.func97, Tryz.ntmps97
  go_wp2_with fail
  refine HC.out.mono ?_
  cases hres : res with
  | out => exact absurd hres HNE.out
  | fail p =>
    rintro e w5 ⟨rfl, hg5⟩
    unfold wrongV
    exact ⟨rfl, end_fail (by first | rfl | exact hres) hM0.gr hg5⟩
  | ok n5 s5 =>
    rintro e w5 ⟨⟨v5, rfl, hv5⟩, hm5⟩
    obtain ⟨A5, c5, rfl, hC5⟩ := hv5.toC
    have hG5 := hG0.grown hm5.gr (fun e => by injection e with e; omega)
    have hM5 := hM0.trans hm5
    obtain ⟨d0, d1, d2, d3, e0, e1, e2, e3⟩ := blk4 hG5
    go_wp2_with fail
    refine end_node (by first | rfl | exact hres) hv5 hM5 hG5 (Nat.le_succ _) (by omega) ?_ rfl (by rfl) rfl
    intro b hb
    have := HSZ.out
    constructor <;> omega
end Go.Proofs.YtnalfjaojcahhaaGreatDoor
