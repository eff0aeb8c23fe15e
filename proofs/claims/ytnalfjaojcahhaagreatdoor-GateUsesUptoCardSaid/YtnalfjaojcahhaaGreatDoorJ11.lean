/-
  Structs: fields. By an AI agent.
-/
import Derived.Test.YtnalfjaojcahhaaGreatDoorJ10
namespace Go.Proofs.YtnalfjaojcahhaaGreatDoor
open Go.RowKit Go.Lib Go.Proofs
attribute [local go_sem ↓] Go.wp_at_zero Go.wp_at_succ
attribute [local go_sem] fld_tok0 fld_tok1 fld_tok2 fld_nd0 fld_nd1 fld_nd2 fld_nd3

theorem NodeV.cells {X : Nat → Prop} {w : World} {k t a : Value} {A : Option Addr} {m c : Nat} {n : Nd} (h : NodeV X w (.agg #[k, t, .slice A m c, a]) n) : NodeC X w n [.int .i64 n.kind, .string n.text, .slice A n.kids.length c, .int .i64 n.pos] := by
  obtain ⟨A1, c1, e, hC⟩ := h.toC
  injection e with e
  injection e with e
  simp only [List.cons.injEq, and_true] at e
  obtain ⟨_, _, e, _⟩ := e
  injection e with e1 _ e3
  rw [e1, e3]
  exact hC

set_option maxRecDepth 100000 in
set_option maxHeartbeats 4000000 in
theorem fields_any (E : Env) (F : Fns) (hF : OkF E F) (p : Int) (w : World) (s : St) (h : RdAt E w s) (hno : fieldsR F p E.c s ≠ .out) :
    Calls Tryz.prog 155 #[.pointer (some ⟨E.R, 0, none⟩), .int .i64 p] w (PostN E w (fieldsR F p E.c s)) := by
  generalize hres : fieldsR F p E.c s = res at *
  have HRES := Lib.hid hres
  have HNE := Lib.hid hno
  have hltR := h.lt
  have hM0 := (Moved.refl h).alloc (.cells ndZ 24)
  clear hres hno
  go_enter Tryz.func155, Tryz.ntmps155
  go_wp2_with fail
  refine (node_any _ _ _ _ _ ⟨_, _, _, rfl⟩).mono ?_
  rintro e w2 ⟨rfl, hb2⟩
  have hG2 := (Blk.new w 24 ndZ).below hb2 (by simp)
  have hM2 := hM0.step hb2
  have hltG2 := hG2.lt
  clear hb2 hM0
  go_wp2_with fail
  have hL3 := Blk.new w2 24 #[.int .i64 13, .string (⟨#[]⟩ : ByteArray), .slice none 0 0, .int .i64 p]
  have hG3 := hG2.alloc (.cells #[.int .i64 13, .string (⟨#[]⟩ : ByteArray), .slice none 0 0, .int .i64 p] 24)
  have hM3 := hM2.alloc (.cells #[.int .i64 13, .string (⟨#[]⟩ : ByteArray), .slice none 0 0, .int .i64 p] 24)
  cases hA : isS E.c s (⟨#[123]⟩ : ByteArray) with
  | false =>
    refine (need_no E s _ _ hM3.rd hA).mono ?_
    rintro e w4 ⟨rfl, hb4⟩
    unfold wrongV
    exact ⟨rfl, end_fail (by rw [← HRES.out, fieldsR, need]; simp [hA]) hM3.gr (grownBy_of_below _ hb4)⟩
  | true =>
    have HE := Lib.hid (show fieldsGo F p F.g [] E.c (adv s) = res by rw [← HRES.out, fieldsR, need]; simp only [hA, if_true, Res.bind_ok])
    refine (need_yes E s _ _ hM3.rd hA).mono ?_
    rintro e w4 ⟨rfl, hm4⟩
    have hL4 := hL3.grown hm4.gr (fun e => by injection e with e; omega)
    have hG4 := hG3.grown hm4.gr (fun e => by injection e with e; omega)
    have hM4 := hM3.trans hm4
    generalize hL : w2.heap.size = L at *
    have hltL : w.heap.size < L := by omega
    clear hL3 hG3 hM3 hm4 hA HRES hG2 hM2 hL
    go_wp2_with fail
    go_loopg [6, 7] F.g (fun g _ _ wr => ∃ (acc : List Nd) (s' : St) (u : Value), Blk wr L 24 #[.int .i64 13, .string (⟨#[]⟩ : ByteArray), u, .int .i64 p] ∧ OwnZ (w.heap.size + 1) (fun b => b = L) wr u acc ∧ Blk wr w.heap.size 24 ndZ ∧ acc.length + g ≤ 1000001 ∧ fieldsGo F p g acc E.c s' = res ∧ Moved E s' w wr)
    case atStart => exact ⟨[], adv s, _, hL4, OwnZ.nil _ _ _, hG4, by have := hF.g; simp; omega, HE.out, hM4⟩
    case round =>
      clear hL4 hG4 hM4 HE
      obtain ⟨acc, s2, u, hL, HO, hG, hlen, hr, hM⟩ := hrel
      have HR := Lib.hid hr
      clear hr
      cases gk with
      | zero => exact absurd HR.out.symm (by rw [fieldsGo]; exact HNE.out)
      | succ g1 =>
        cases hA : isS E.c s2 (⟨#[125]⟩ : ByteArray) with
        | true =>
          have HF := Lib.hid (show res = .ok (.mk 13 (⟨#[]⟩ : ByteArray) acc p) (adv s2) by rw [← HR.out, fieldsGo]; simp only [hA, if_true])
          clear HR
          go_wp2_with fail
          refine (takes_yes E s2 _ _ hM.rd hA).mono ?_
          rintro e w4 ⟨rfl, hm4⟩
          have hL4 := hL.grown hm4.gr (fun e => by injection e with e; omega)
          have hG4 := hG.grown hm4.gr (fun e => by injection e with e; omega)
          have HO4 := HO.grown hm4.gr (by omega)
          obtain ⟨A4, c4, hu4, _⟩ := HO4.form
          subst hu4
          obtain ⟨x0, x1, x2, x3, _, _, _, _⟩ := blk4 hL4
          obtain ⟨d0, d1, d2, d3, e0, e1, e2, e3⟩ := blk4 hG4
          clear hA
          go_wp2_with fail
          refine end_node HF.out (NodeV.of_slice HO4.values 13 (⟨#[]⟩ : ByteArray) p) (hM.trans hm4) hG4 (Nat.le_refl _) hltR ?_ rfl (by rfl) rfl
          rintro b ⟨hb, _⟩
          constructor <;> omega
        | false =>
          have HE := Lib.hid (show (nameR E.c s2).bind (fun x s1 => (F.typ E.c s1).bind fun t s3 => if semiB E.c s3 then fieldsGo F p g1 (acc ++ [.mk 9 x [t] (posS E.c s2)]) E.c (adv s3) else if isS E.c s3 (⟨#[125]⟩ : ByteArray) then fieldsGo F p g1 (acc ++ [.mk 9 x [t] (posS E.c s2)]) E.c s3 else .fail (posS E.c s3)) = res by
            rw [← HR.out, fieldsGo]; simp only [hA, Bool.false_eq_true, if_false])
          clear HR
          go_wp2_with fail
          refine (takes_no E s2 _ _ hM.rd hA).mono ?_
          rintro e w4 ⟨rfl, hq4⟩
          have hL4 := hL.below hq4.bel hL.lt
          have hG4 := hG.below hq4.bel hG.lt
          have HO4 := HO.kept (KeepsX.of_below hq4.bel (fun b _ hlt => hlt))
          have hM4 := hM.trans hq4.moved
          clear hA hL hG HO hM hq4
          go_wp2_with fail
          refine (next_any E s2 _ hM4.rd).mono ?_
          unfold tokV
          rintro e w5 ⟨rfl, hb5⟩
          have hL5 := hL4.below hb5 hL4.lt
          have hG5 := hG4.below hb5 hG4.lt
          have HO5 := HO4.kept (KeepsX.of_below hb5 (fun b _ hlt => hlt))
          have hM5 := hM4.step hb5
          clear hL4 hG4 HO4 hM4 hb5
          go_wp2_with fail
          by_cases hN : (tokAt E.c s2.at_).kind = 1
          case neg =>
            refine (name_no E s2 _ hM5.rd hN).mono ?_
            rintro e w6 ⟨rfl, hb6⟩
            unfold wrongV
            refine ⟨rfl, end_fail (by rw [← HE.out, nameR, if_neg hN]; rfl) hM5.gr (grownBy_of_below _ hb6)⟩
          have HE2 := Lib.hid (show (F.typ E.c (adv s2)).bind (fun t s3 => if semiB E.c s3 then fieldsGo F p g1 (acc ++ [.mk 9 (tokAt E.c s2.at_).text [t] (posS E.c s2)]) E.c (adv s3) else if isS E.c s3 (⟨#[125]⟩ : ByteArray) then fieldsGo F p g1 (acc ++ [.mk 9 (tokAt E.c s2.at_).text [t] (posS E.c s2)]) E.c s3 else .fail (posS E.c s3)) = res by
            rw [← HE.out, nameR, if_pos hN]; rfl)
          refine (name_yes E s2 _ hM5.rd hN).mono ?_
          rintro e w6 ⟨rfl, hm6⟩
          have hL6 := hL5.grown hm6.gr (fun e => by injection e with e; omega)
          have hG6 := hG5.grown hm6.gr (fun e => by injection e with e; omega)
          have HO6 := HO5.grown hm6.gr (by omega)
          have hM6 := hM5.trans hm6
          clear HE hN hL5 hG5 HO5 hM5 hm6
          obtain ⟨A4, c4, hu4, _⟩ := HO6.form
          subst hu4
          obtain ⟨x0, x1, x2, x3, y0, y1, y2, y3⟩ := blk4 hL6
          have hltL6 := hL6.lt
          generalize (tokAt E.c s2.at_).text = tx at *
          cases hP : F.typ E.c (adv s2) with
          | out => exact absurd HE2.out.symm (by rw [hP]; exact HNE.out)
          | fail q =>
            have HF := Lib.hid (show res = .fail q by rw [← HE2.out, hP]; rfl)
            go_wp2_with fail
            let SS : World → Prop := fun w' => w'.cell? ⟨L, 2, none⟩ = some (.slice A4 acc.length c4)
            have HSS : SS w6.drew := x2
            (refine wp_region_held_drew (S := SS) (by kernel_rfl) HSS ?_; intro hSd; (refine wpAnyH_take (i := 0) (v := ?vv1x0) rfl (by kernel_rfl) (by kernel_rfl) (by kernel_rfl) (fun _ _ _ h => h) (Or.inl ⟨by rfl, ?hy1x0⟩) hSd ?rest1x0); (case hy1x0 => (intro w hSw; (try dsimp only [SS] at hSw); go_simp; try (with_reducible rfl))); (refine wpAnyH_take (i := 1) (v := ?vv1x1) rfl (by kernel_rfl) (by kernel_rfl) (by kernel_rfl) (fun _ _ _ h => h) (Or.inl ⟨by rfl, ?hy1x1⟩) hSd ?rest1x1); (case hy1x1 => (intro w hSw; (try dsimp only [SS] at hSw); go_simp; try (with_reducible rfl))); (refine wpAnyH_take (i := 2) (v := ?vv1x2) rfl (by kernel_rfl) (by kernel_rfl) (by kernel_rfl) (fun _ _ _ h => h) (Or.inl ⟨by rfl, ?hy1x2⟩) hSd ?rest1x2); (case hy1x2 => (intro w hSw; (try dsimp only [SS] at hSw); go_simp; try (with_reducible rfl))); (refine wpAnyH_take (i := 3) (v := ?vv1x3) rfl (by kernel_rfl) (by kernel_rfl) (by kernel_rfl) (fun _ _ _ h => h) (Or.inl ⟨by rfl, ?hy1x3⟩) hSd ?rest1x3); (case hy1x3 => (intro w hSw; (try dsimp only [SS] at hSw); go_simp; try (with_reducible rfl))); (refine wpAnyH_take (i := 4) (v := ?vv1x4) rfl (by kernel_rfl) (by kernel_rfl) (by kernel_rfl) (fun _ _ _ h => h) (Or.inl ⟨by rfl, ?hy1x4⟩) hSd ?rest1x4); (case hy1x4 => (intro w hSw; (try dsimp only [SS] at hSw); go_simp; try (with_reducible rfl))); (refine wpAnyH_ready (rs := [5]) (by kernel_rfl) (by simp) ?_); (refine AllReadyH.cons rfl (fun K hK => ?_) AllReadyH.nil); go_simp)
            refine (hF.typ _ (adv s2) hM6.drew.rd (by rw [hP]; exact nofun)).mono ?_
            rw [hP]
            rintro e w7 ⟨rfl, hg7⟩
            unfold wrongV
            exact ⟨rfl, end_fail HF.out hM6.drew.gr hg7⟩
          | ok n2 s3 =>
            have HE3 := Lib.hid (show (if semiB E.c s3 then fieldsGo F p g1 (acc ++ [.mk 9 tx [n2] (posS E.c s2)]) E.c (adv s3) else if isS E.c s3 (⟨#[125]⟩ : ByteArray) then fieldsGo F p g1 (acc ++ [.mk 9 tx [n2] (posS E.c s2)]) E.c s3 else .fail (posS E.c s3)) = res by rw [← HE2.out, hP]; rfl)
            have HC := Lib.hid (fun W (hr : RdAt E W (adv s2)) => hF.typ W (adv s2) hr (by rw [hP]; exact nofun))
            rw [hP] at HC
            clear HE2 hP
            go_wp2_with fail
            have hacc : acc.length ≤ 1000000 := by omega
            have hRL : E.R < w.heap.size + 1 := by omega
            have hsz4 : w.heap.size + 1 ≤ w6.heap.size := by omega
            go_region_law (first
              | (refine step_pushZ (by rfl) (.tmp 21) (.tmp 28) (by rfl) E s3 (w.heap.size + 1) w6.heap.size (fun b => b = L) w w8 (.slice A4 acc.length c4) acc (.mk 9 tx [n2] (posS E.c s2)) _ _ (by rfl) (by rfl) HO8 hM8 (Nat.le_succ _) hRL hsz4 hs8 (fun b hb => by rw [hb]; exact hltL6) (fun g hg => (HO6.lt g hg).2) hacc hV8.cells ?_
                 intro g c w9 hp9
                 have hL9 : Blk w9 L 24 #[.int .i64 13, .string (⟨#[]⟩ : ByteArray), .slice A4 acc.length c4, .int .i64 p] := (hp9.old L hltL8 (.inl rfl)).trans hL8
                 obtain ⟨v0, v1, v2, v3, f0, f1, f2, f3⟩ := blk4 hL9)
              | (go_simp
                 go_at_call 150
                 refine (HC.out _ hM6.drew.rd).mono ?_
                 rintro e w7 ⟨⟨v, rfl, hv7⟩, hm7⟩
                 obtain ⟨A7, c7, rfl, hC7⟩ := hv7.toC
                 have hL7 := hL6.drew.grown hm7.gr (fun e => by injection e with e; omega)
                 have hG7 := hG6.drew.grown hm7.gr (fun e => by injection e with e; omega)
                 have HO7 := (HO6.kept ((KeepsX.refl _ _).drew)).grown hm7.gr hRL
                 have hM7 := hM6.drew.trans hm7
                 have hs7 : w6.heap.size ≤ w7.heap.size := hm7.gr.size
                 have hltL7 := hL7.lt
                 obtain ⟨z0, z1, z2, z3, _, _, _, _⟩ := blk4 hL7)
              | (go_simp
                 go_at_call 64
                 refine (node_any _ _ _ _ _ ⟨_, _, _, rfl⟩).mono ?_
                 rintro e w8 ⟨rfl, hb8⟩
                 have hV8 := (NodeV.make 1 rfl (NodesC.one hC7) 9 tx (posS E.c s2) hb8).mono (Y := fun b => w6.heap.size ≤ b) (fun b hb _ => hb.elim (fun h => h.1) (fun h => by rw [h]; exact hs7))
                 have hL8 := (hL7.alloc _).below hb8 (by simp; omega)
                 have hG8 := (hG7.alloc _).below hb8 (by have := hG7.lt; simp; omega)
                 have HO8 := (HO7.kept ((KeepsX.refl _ _).alloc _)).kept (KeepsX.of_below hb8 (fun b _ hlt => hlt))
                 have hM8 := (hM7.alloc _).step hb8
                 have hs8 : w6.heap.size ≤ w8.heap.size := by have := hb8.size; simp at this; omega
                 have hltL8 := hL8.lt
                 obtain ⟨u0, u1, u2, u3, _, _, _, _⟩ := blk4 hL8))
            all_goals go_wp2_with fail
            all_goals
              have hM10 := hp9.mov.own (p := ⟨L, 2, none⟩) (by show w.heap.size ≤ L; omega) (by show E.R < L; omega) (.slice (some ⟨g, 0, none⟩) (acc.length + 1) c)
              have hL10 : Blk (w9.setCell ⟨L, 2, none⟩ (.slice (some ⟨g, 0, none⟩) (acc.length + 1) c)) L 24 #[.int .i64 13, .string (⟨#[]⟩ : ByteArray), .slice (some ⟨g, 0, none⟩) (acc.length + 1) c, .int .i64 p] := by simpa using hL9.set_ 2 (.slice (some ⟨g, 0, none⟩) (acc.length + 1) c)
              have hG10 := Blk.far (show Blk w9 w.heap.size 24 ndZ from (hp9.old w.heap.size (by have := hG8.lt; omega) (.inr (by omega))).trans hG8) (p := ⟨L, 2, none⟩) (by show w.heap.size ≠ L; omega) (.slice (some ⟨g, 0, none⟩) (acc.length + 1) c)
              have HO10 := hp9.own.kept ((KeepsX.refl _ _).setCell (p := ⟨L, 2, none⟩) (fun hX => hX.2 rfl) (.slice (some ⟨g, 0, none⟩) (acc.length + 1) c))
              refine (takeSemi_any E s3 _ hM10.rd).mono ?_
              rintro e w11 ⟨rfl, hm11⟩
              have hL11 := hL10.grown hm11.gr (fun e => by injection e with e; omega)
              have hG11 := hG10.grown hm11.gr (fun e => by injection e with e; omega)
              have HO11 := HO10.grown hm11.gr (by omega)
              have hM11 := hM10.trans hm11
              clear hM10 hL10 hG10 HO10
              cases hS : semiB E.c s3 with
              | true =>
                have HE4 := Lib.hid (show fieldsGo F p g1 (acc ++ [.mk 9 tx [n2] (posS E.c s2)]) E.c (adv s3) = res by rw [← HE3.out]; simp only [hS, if_true])
                rw [show semiS E.c s3 = adv s3 by unfold semiS; rw [hS]; rfl] at hM11
                clear HE3 hm11
                go_wp2_with fail
                go_roundg g1
                case measure => omega
                case rel => exact ⟨acc ++ [.mk 9 tx [n2] (posS E.c s2)], adv s3, _, hL11, HO11, hG11, by rw [List.length_append]; simp; omega, HE4.out, hM11⟩
              | false =>
                rw [show semiS E.c s3 = s3 by unfold semiS; rw [hS]; rfl] at hM11
                go_wp2_with fail
                refine (is_any E s3 _ _ hM11.rd).mono ?_
                rintro e w12 ⟨rfl, hb12⟩
                have hL12 := hL11.below hb12 hL11.lt
                have hG12 := hG11.below hb12 hG11.lt
                have HO12 := HO11.kept (KeepsX.of_below hb12 (fun b _ hlt => hlt))
                have hM12 := hM11.step hb12
                clear hL11 hG11 HO11 hM11 hm11
                cases hI : isS E.c s3 (⟨#[125]⟩ : ByteArray) with
                | true =>
                  have HE4 := Lib.hid (show fieldsGo F p g1 (acc ++ [.mk 9 tx [n2] (posS E.c s2)]) E.c s3 = res by rw [← HE3.out]; simp only [hS, hI, Bool.false_eq_true, if_false, if_true])
                  clear HE3
                  go_wp2_with fail
                  go_roundg g1
                  case measure => omega
                  case rel => exact ⟨acc ++ [.mk 9 tx [n2] (posS E.c s2)], s3, _, hL12, HO12, hG12, by rw [List.length_append]; simp; omega, HE4.out, hM12⟩
                | false =>
                  have HF := Lib.hid (show res = .fail (posS E.c s3) by rw [← HE3.out]; simp only [hS, hI, Bool.false_eq_true, if_false])
                  go_wp2_with fail
                  refine (fail_any E s3 _ hM12.rd).mono ?_
                  rintro e w13 ⟨rfl, hb13⟩
                  unfold wrongV
                  exact ⟨rfl, end_fail HF.out hM12.gr (grownBy_of_below _ hb13)⟩
end Go.Proofs.YtnalfjaojcahhaaGreatDoor
