/-
  Files: file. By an AI agent.
  What a node needs, as plain functions. By an AI agent.
  The text of the law's example: its tokens, its tree, what it needs: plain reckoning. By an AI agent.
-/
import Derived.Test.YtnalfjaojcahhaaGreatDoorJ20
import Derived.Test.YtnalfjaojcahhaaGreatDoorJ08
import Derived.Test.YtnalfjaojcahhaaGreatDoorJ15
namespace Go.Proofs.YtnalfjaojcahhaaGreatDoor
open Go.RowKit Go.Lib Go.Proofs
attribute [local go_sem ↓] Go.wp_at_zero Go.wp_at_succ
attribute [local go_sem] fld_tok0 fld_tok1 fld_tok2 fld_nd0 fld_nd1 fld_nd2 fld_nd3

set_option maxRecDepth 100000 in
set_option maxHeartbeats 4000000 in
theorem file_any (E : Env) (F : Fns) (hF : OkF E F) : ReadC E (fileR F) 48 := by
  intro w s h hno
  generalize hres : fileR F E.c s = res at *
  have HRES := Lib.hid hres
  have HNE := Lib.hid hno
  have hltR := h.lt
  have hM0 := (Moved.refl h).alloc (.cells ndZ 24)
  clear hres hno
  go_enter Tryz.func48, Tryz.ntmps48
  go_wp2_with fail
  refine (next_any E s _ (h.alloc _)).mono ?_
  unfold tokV
  rintro e w1 ⟨rfl, hb1⟩
  have hG1 := (Blk.new w 24 ndZ).below hb1 (by simp)
  have hM1 := hM0.step hb1
  have hltG1 := hG1.lt
  clear hb1 hM0
  go_wp2_with fail
  cases hA : isS E.c s (⟨#[112, 97, 99, 107, 97, 103, 101]⟩ : ByteArray) with
  | false =>
    refine (need_no E s _ _ hM1.rd hA).mono ?_
    rintro e w4 ⟨rfl, hb4⟩
    unfold wrongV
    exact ⟨rfl, end_fail (by rw [← HRES.out, fileR, need]; simp [hA]) hM1.gr (grownBy_of_below _ hb4)⟩
  | true =>
    have HE := Lib.hid (show (nameR E.c (adv s)).bind (fun x s2 => fileGo F (posS E.c s) x F.g [] E.c s2) = res by rw [← HRES.out, fileR, need]; simp only [hA, if_true, Res.bind_ok])
    refine (need_yes E s _ _ hM1.rd hA).mono ?_
    rintro e w2 ⟨rfl, hm2⟩
    have hG2 := hG1.grown hm2.gr (fun e => by injection e with e; omega)
    have hM2 := hM1.trans hm2
    have hs2 := hm2.gr.size
    clear HRES hA hG1 hM1 hm2
    go_wp2_with fail
    by_cases hN : (tokAt E.c (adv s).at_).kind = 1
    case neg =>
      refine (name_no E (adv s) _ hM2.rd hN).mono ?_
      rintro e w6 ⟨rfl, hb6⟩
      unfold wrongV
      exact ⟨rfl, end_fail (by rw [← HE.out, nameR, if_neg hN]; rfl) hM2.gr (grownBy_of_below _ hb6)⟩
    have HE2 := Lib.hid (show fileGo F (posS E.c s) (tokAt E.c (adv s).at_).text F.g [] E.c (adv (adv s)) = res by
      rw [← HE.out, nameR, if_pos hN]; rfl)
    refine (name_yes E (adv s) _ hM2.rd hN).mono ?_
    rintro e w3 ⟨rfl, hm3⟩
    have hG3 := hG2.grown hm3.gr (fun e => by injection e with e; omega)
    have hM3 := hM2.trans hm3
    have hs3 := hm3.gr.size
    clear HE hN hG2 hM2 hm3
    generalize (tokAt E.c (adv s).at_).text = tx at *
    generalize hpp : posS E.c s = p at *
    rw [show (tokAt E.c s.at_).pos = p from hpp]
    clear hpp
    go_wp2_with fail
    refine (node_any _ _ _ _ _ ⟨_, _, _, rfl⟩).mono ?_
    rintro e w4 ⟨rfl, hb4⟩
    have hG4 := hG3.below hb4 hG3.lt
    have hM4 := hM3.step hb4
    have hltG4 := hG4.lt
    clear hb4 hM3 hG3
    have hL5 := Blk.new w4 24 #[.int .i64 1, .string tx, .slice none 0 0, .int .i64 p]
    have hG5 := hG4.alloc (.cells #[.int .i64 1, .string tx, .slice none 0 0, .int .i64 p] 24)
    have hM5 := hM4.alloc (.cells #[.int .i64 1, .string tx, .slice none 0 0, .int .i64 p] 24)
    go_wp2_with fail
    generalize hL : w4.heap.size = L at *
    have hltL : w.heap.size < L := by omega
    generalize w4.alloc (.cells #[.int .i64 1, .string tx, .slice none 0 0, .int .i64 p] 24) = w5 at *
    clear hG4 hM4 hL
    go_loopg [] F.g (fun g wr => ∃ (acc : List Nd) (s' : St) (u : Value), Blk wr L 24 #[.int .i64 1, .string tx, u, .int .i64 p] ∧ OwnZ (w.heap.size + 1) (fun b => b = L) wr u acc ∧ Blk wr w.heap.size 24 ndZ ∧ acc.length + g ≤ 1000001 ∧ fileGo F p tx g acc E.c s' = res ∧ Moved E s' w wr)
    case atStart => exact ⟨[], adv (adv s), _, hL5, OwnZ.nil _ _ _, hG5, by have := hF.g; simp; omega, HE2.out, hM5⟩
    case round =>
      clear hL5 hG5 hM5 HE2
      obtain ⟨acc, s2, u, hL, HO, hG, hlen, hr, hM⟩ := hrel
      have HR := Lib.hid hr
      clear hr
      cases gk with
      | zero => exact absurd HR.out.symm (by rw [fileGo]; exact HNE.out)
      | succ g1 =>
        go_wp2_with fail
        refine (takeSemi_any E s2 _ hM.rd).mono ?_
        rintro e w6 ⟨rfl, hm6⟩
        have hL6 := hL.grown hm6.gr (fun e => by injection e with e; omega)
        have hG6 := hG.grown hm6.gr (fun e => by injection e with e; omega)
        have HO6 := HO.grown hm6.gr (by omega)
        have hM6 := hM.trans hm6
        clear hL hG HO hM hm6
        cases hS0 : semiB E.c s2 with
        | false =>
          have HF := Lib.hid (show res = .fail (posS E.c s2) by rw [← HR.out, fileGo]; simp only [hS0, Bool.false_eq_true, if_false])
          rw [show semiS E.c s2 = s2 by unfold semiS; rw [hS0]; rfl] at hM6
          go_wp2_with fail
          refine (fail_any E s2 _ hM6.rd).mono ?_
          rintro e w13 ⟨rfl, hb13⟩
          unfold wrongV
          exact ⟨rfl, end_fail HF.out hM6.gr (grownBy_of_below _ hb13)⟩
        | true =>
          rw [show semiS E.c s2 = adv s2 by unfold semiS; rw [hS0]; rfl] at hM6
          obtain ⟨c0, c1, -, -, -, -⟩ := hM6.rd.cells
          cases hEq : (((adv s2).at_ : Int) == (E.c.toks.length : Int)) with
          | true =>
            have HF := Lib.hid (show res = .ok (.mk 1 tx acc p) (adv s2) by
              have e : (adv s2).at_ = s2.at_ + 1 := rfl
              rw [beq_iff_eq] at hEq
              rw [← HR.out, fileGo]
              simp only [hS0, if_true]
              rw [if_pos (by omega)])
            clear HR
            obtain ⟨A4, c4, hu4, _⟩ := HO6.form
            subst hu4
            go_wp2_with fail
            go_quiet (fail)
            clear c0 c1
            obtain ⟨x0, x1, x2, x3, _, _, _, _⟩ := blk4 (hL6.drewN nq)
            obtain ⟨d0, d1, d2, d3, e0, e1, e2, e3⟩ := blk4 (hG6.drewN nq)
            go_wp2_with fail
            refine end_node HF.out (NodeV.of_slice (HO6.kept ((KeepsX.refl _ _).drewN nq)).values 1 tx p) (hM6.drewN nq) (hG6.drewN nq) (Nat.le_refl _) hltR ?_ rfl (by rfl) rfl
            rintro b ⟨hb, _⟩
            constructor <;> omega
          | false =>
            have HE := Lib.hid (show (if isS E.c (adv s2) (⟨#[102, 117, 110, 99]⟩ : ByteArray) || (isS E.c (adv s2) (⟨#[116, 121, 112, 101]⟩ : ByteArray) || isS E.c (adv s2) (⟨#[118, 97, 114]⟩ : ByteArray)) then (declR F E.c (adv s2)).bind fun d s1 => fileGo F p tx g1 (acc ++ [d]) E.c s1 else .fail (posS E.c (adv s2))) = res by
              have e : (adv s2).at_ = s2.at_ + 1 := rfl
              rw [beq_eq_false_iff_ne] at hEq
              rw [← HR.out, fileGo]
              simp only [hS0, if_true]
              rw [if_neg (show ¬ s2.at_ + 1 = E.c.toks.length by omega)])
            clear HR
            go_wp2_with fail
            go_quiet (fail)
            clear c0 c1
            have hL7 := hL6.drewN nq
            have hG7 := hG6.drewN nq
            have HO7 := HO6.kept ((KeepsX.refl _ _).drewN nq)
            have hM7 := hM6.drewN nq
            generalize w6.drewN nq = w7 at *
            clear hL6 hG6 HO6 hM6 hEq
            generalize hc1 : isS E.c (adv s2) (⟨#[102, 117, 110, 99]⟩ : ByteArray) = c1 at *
            generalize hc2 : isS E.c (adv s2) (⟨#[116, 121, 112, 101]⟩ : ByteArray) = c2 at *
            generalize hc3 : isS E.c (adv s2) (⟨#[118, 97, 114]⟩ : ByteArray) = c3 at *
            go_upto_region 7 with fail
            go_cut [39] (fun s39 wx => s39 = .bool (!(c1 || (c2 || c3))) ∧ Below w7.heap.size w7 wx)
            case first =>
              have HI := Lib.hid (fun (w' : World) (hb : Below w7.heap.size w7 w') x => is_any E (adv s2) x w' (hM7.rd.below hb))
              go_wp2_with fail
              refine (HI.out w7 (Below.refl _ _) _).mono ?_
              rw [hc1]
              rintro e wa ⟨rfl, hba⟩
              cases c1 with
              | true =>
                go_wp2_with fail
                go_meet
                exact ⟨rfl, hba⟩
              | false =>
                go_wp2_with fail
                refine (HI.out wa hba _).mono ?_
                rw [hc2]
                rintro e wb ⟨rfl, hbb⟩
                have hbb := hba.trans (hbb.mono hba.size)
                cases c2 with
                | true =>
                  go_wp2_with fail
                  go_meet
                  exact ⟨rfl, hbb⟩
                | false =>
                  go_wp2_with fail
                  refine (HI.out wb hbb _).mono ?_
                  rw [hc3]
                  rintro e wd ⟨rfl, hbd⟩
                  have hbd := hbb.trans (hbd.mono hbb.size)
                  go_wp2_with fail
                  go_meet
                  exact ⟨by cases c3 <;> rfl, hbd⟩
            case rest =>
              obtain ⟨rfl, hb8⟩ := hcut
              have hL8 := hL7.below hb8 hL7.lt
              have hG8 := hG7.below hb8 hG7.lt
              have HO8 := HO7.kept (KeepsX.of_below hb8 (fun b _ hlt => hlt))
              have hM8 := hM7.step hb8
              clear hL7 hG7 HO7 hM7 hb8
              cases hcc : (c1 || (c2 || c3)) with
              | false =>
                have HF := Lib.hid (show res = .fail (posS E.c (adv s2)) by rw [← HE.out, hcc]; rfl)
                go_wp2_with fail
                refine (fail_any E (adv s2) _ hM8.rd).mono ?_
                rintro e w13 ⟨rfl, hb13⟩
                unfold wrongV
                exact ⟨rfl, end_fail HF.out hM8.gr (grownBy_of_below _ hb13)⟩
              | true =>
                have HE2 := Lib.hid (show (declR F E.c (adv s2)).bind (fun d s1 => fileGo F p tx g1 (acc ++ [d]) E.c s1) = res by rw [← HE.out, hcc]; rfl)
                clear HE hcc
                obtain ⟨A4, c4, hu4, _⟩ := HO8.form
                subst hu4
                obtain ⟨x0, x1, x2, x3, y0, y1, y2, y3⟩ := blk4 hL8
                have hltL8 := hL8.lt
                cases hP : declR F E.c (adv s2) with
                | out => exact absurd HE2.out.symm (by rw [hP]; exact HNE.out)
                | fail q =>
                  have HF := Lib.hid (show res = .fail q by rw [← HE2.out, hP]; rfl)
                  go_wp2_with fail
                  let SS : World → Prop := fun w' => w'.cell? ⟨L, 2, none⟩ = some (.slice A4 acc.length c4)
                  have HSS : SS wc.drew := x2
                  (refine wp_region_held_drew (S := SS) (by kernel_rfl) HSS ?_; intro hSd; (refine wpAnyH_take (i := 0) (v := ?vv1x0) rfl (by kernel_rfl) (by kernel_rfl) (by kernel_rfl) (fun _ _ _ h => h) (Or.inl ⟨by rfl, ?hy1x0⟩) hSd ?rest1x0); (case hy1x0 => (intro w hSw; (try dsimp only [SS] at hSw); go_simp; try (with_reducible rfl))); (refine wpAnyH_take (i := 1) (v := ?vv1x1) rfl (by kernel_rfl) (by kernel_rfl) (by kernel_rfl) (fun _ _ _ h => h) (Or.inl ⟨by rfl, ?hy1x1⟩) hSd ?rest1x1); (case hy1x1 => (intro w hSw; (try dsimp only [SS] at hSw); go_simp; try (with_reducible rfl))); (refine wpAnyH_take (i := 2) (v := ?vv1x2) rfl (by kernel_rfl) (by kernel_rfl) (by kernel_rfl) (fun _ _ _ h => h) (Or.inl ⟨by rfl, ?hy1x2⟩) hSd ?rest1x2); (case hy1x2 => (intro w hSw; (try dsimp only [SS] at hSw); go_simp; try (with_reducible rfl))); (refine wpAnyH_ready (rs := [3]) (by kernel_rfl) (by simp) ?_); (refine AllReadyH.cons rfl (fun K hK => ?_) AllReadyH.nil); go_simp)
                  refine (decl_any E F hF _ (adv s2) hM8.drew.rd (by rw [hP]; exact nofun)).mono ?_
                  rw [hP]
                  rintro e w9 ⟨rfl, hg9⟩
                  unfold wrongV
                  exact ⟨rfl, end_fail HF.out hM8.drew.gr hg9⟩
                | ok n2 s3 =>
                  have HE3 := Lib.hid (show fileGo F p tx g1 (acc ++ [n2]) E.c s3 = res by rw [← HE2.out, hP]; rfl)
                  have HC := Lib.hid (fun W (hr : RdAt E W (adv s2)) => decl_any E F hF W (adv s2) hr (by rw [hP]; exact nofun))
                  rw [hP] at HC
                  clear HE2 hP
                  go_wp2_with fail
                  have hacc : acc.length ≤ 1000000 := by omega
                  have hRL : E.R < w.heap.size + 1 := by omega
                  have hsz : w.heap.size + 1 ≤ wc.heap.size := by omega
                  go_region_law (first
                    | (refine step_pushZ (by rfl) (.tmp 43) (.tmp 46) (by rfl) E s3 (w.heap.size + 1) wc.heap.size (fun b => b = L) w w10 (.slice A4 acc.length c4) acc n2 A7 c7 (by rfl) (by rfl) HO10 hM10 (Nat.le_succ _) hRL hsz hs10 (fun b hb => by rw [hb]; exact hltL8) (fun g hg => (HO8.lt g hg).2) hacc hC7 ?_
                       intro g c w11 hp11
                       have hL11 : Blk w11 L 24 #[.int .i64 1, .string tx, .slice A4 acc.length c4, .int .i64 p] := (hp11.old L hltL10 (.inl rfl)).trans hL10
                       obtain ⟨v0, v1, v2, v3, f0, f1, f2, f3⟩ := blk4 hL11)
                    | (go_simp
                       go_at_call 68
                       refine (HC.out _ hM8.drew.rd).mono ?_
                       rintro e w10 ⟨⟨v, rfl, hv10⟩, hm10⟩
                       obtain ⟨A7, c7, rfl, hC7⟩ := hv10.toC
                       have hL10 := hL8.drew.grown hm10.gr (fun e => by injection e with e; omega)
                       have hG10 := hG8.drew.grown hm10.gr (fun e => by injection e with e; omega)
                       have HO10 := (HO8.kept ((KeepsX.refl _ _).drew)).grown hm10.gr hRL
                       have hM10 := hM8.drew.trans hm10
                       have hs10 : wc.heap.size ≤ w10.heap.size := hm10.gr.size
                       have hltL10 := hL10.lt
                       obtain ⟨z0, z1, z2, z3, _, _, _, _⟩ := blk4 hL10))
                  all_goals go_wp2_with fail
                  all_goals
                    go_roundg g1
                    case measure => omega
                    case rel =>
                      refine ⟨acc ++ [n2], s3, _, by simpa using hL11.set_ 2 (.slice (some ⟨g, 0, none⟩) (acc.length + 1) c), ?_, ?_, by rw [List.length_append]; simp; omega, HE3.out, ?_⟩
                      · exact hp11.own.kept ((KeepsX.refl _ _).setCell (fun hX => hX.2 rfl) _)
                      · exact Blk.far (show Blk w11 w.heap.size 24 ndZ from (hp11.old w.heap.size (by have := hG10.lt; omega) (.inr (by omega))).trans hG10) (p := ⟨L, 2, none⟩) (by show w.heap.size ≠ L; omega) _
                      · exact hp11.mov.own (p := ⟨L, 2, none⟩) (by show w.heap.size ≤ L; omega) (by show E.R < L; omega) _
end Go.Proofs.YtnalfjaojcahhaaGreatDoor
namespace Go.Proofs.YtnalfjaojcahhaaGreatDoor

/-- Uses: which minor version, and where. -/
abbrev Us := List (Int × Int)
def usC (u : Int × Int) : List Value := [.int .i64 u.1, .int .i64 u.2]
def usesC (l : Us) : List Value := l.flatMap usC
def headU (n : Nd) : Us :=
  match (n.kids.getD 0 nd0).kids with
  | [] => []
  | k :: _ => (18, k.pos) :: (if n.kind = 4 then [(24, n.pos)] else [])
def interU (n : Nd) : Us := if n.kind = 3 ∧ (n.kids.getD 1 nd0).kind = 14 then [(18, (n.kids.getD 1 nd0).pos)] else []
/-- What a node itself needs. -/
def hereN (n : Nd) : Us :=
  if n.kind = 2 ∨ n.kind = 3 ∨ n.kind = 4 then headU n ++ interU n
  else if n.kind = 10 then (if 0 < n.kids.length then [(18, n.pos)] else [])
  else if n.kind = 22 then (if 2 < n.kids.length ∨ (n.kids.getD 1 nd0).kind = 11 ∨ (n.kids.getD 1 nd0).kind = 12 then [(18, n.pos)] else [])
  else []
def hereT : Nat → Nd → Us
  | 0, _ => []
  | g + 1, n => hereN n ++ n.kids.flatMap (hereT g)
/-- The kids that are asked for are there. -/
def Need : Nat → Nd → Prop
  | 0, _ => True
  | g + 1, n => ((n.kind = 2 ∨ n.kind = 4 → 1 ≤ n.kids.length) ∧ (n.kind = 3 ∨ n.kind = 22 → 2 ≤ n.kids.length)) ∧ ∀ k ∈ n.kids, Need g k

theorem headU_le (n : Nd) : (headU n).length ≤ 1 + (if n.kind = 4 then 1 else 0) := by
  unfold headU
  split
  · simp
  · split <;> simp
theorem hereN_le (n : Nd) : (hereN n).length ≤ 2 := by
  unfold hereN
  split
  · have := headU_le n
    rw [List.length_append]
    unfold interU
    by_cases h4 : n.kind = 4
    · rw [if_pos h4] at this
      rw [if_neg (by omega)]
      simpa using this
    · rw [if_neg h4] at this
      split <;> simp <;> omega
  · split
    · split <;> simp
    · split
      · split <;> simp
      · simp
theorem flatMap_le {α β γ : Type} (f : α → List β) (h : α → List γ) (l : List α) (hl : ∀ x ∈ l, (f x).length ≤ 2 * (h x).length) : (l.flatMap f).length ≤ 2 * (l.flatMap h).length := by
  induction l with
  | nil => simp
  | cons x l ih =>
    rw [List.flatMap_cons, List.flatMap_cons, List.length_append, List.length_append]
    have h1 := hl x List.mem_cons_self
    have h2 := ih fun y hy => hl y (List.mem_cons_of_mem _ hy)
    omega
theorem hereT_le : ∀ (g : Nat) (n : Nd), (hereT g n).length ≤ 2 * (lefts g n).length
  | 0, _ => by simp [hereT]
  | g + 1, n => by
    rw [hereT, lefts, List.length_append, List.length_cons]
    have h1 := hereN_le n
    have h2 := flatMap_le (hereT g) (lefts g) n.kids fun k _ => hereT_le g k
    omega
end Go.Proofs.YtnalfjaojcahhaaGreatDoor
namespace Go.Proofs.YtnalfjaojcahhaaGreatDoor
open Go.RowKit Go.Lib Go.Proofs

/-- The functions that are met again, but for types: none. -/
def fnsT : Nat → Fns
  | 0 => ⟨0, fun _ _ => .out, fun _ _ => .out, fun _ _ => .out, fun _ _ => .out, fun _ _ => .out⟩
  | g + 1 => ⟨g + 1, typR (fnsT g), fun _ _ => .out, fun _ _ => .out, fun _ _ => .out, fun _ _ => .out⟩
theorem readC_out (E : Env) (f : FuncId) : ReadC E (fun _ _ => .out) f := fun _ _ _ h => absurd rfl h
theorem okF_T (E : Env) : ∀ g, g ≤ 1000000 → OkF E (fnsT g)
  | 0, _ => ⟨readC_out _ _, readC_out _ _, readC_out _ _, readC_out _ _, readC_out _ _, Nat.zero_le _⟩
  | g + 1, h => ⟨typ_any E (fnsT g) (okF_T E g (by omega)), readC_out _ _, readC_out _ _, readC_out _ _, readC_out _ _, h⟩

def awkS : ByteArray := (⟨#[112, 97, 99, 107, 97, 103, 101, 32, 112, 10, 116, 121, 112, 101, 32, 65, 91, 80, 32, 97, 110, 121, 93, 32, 61, 32, 91, 93, 80]⟩ : ByteArray)
def awkL : List Tok := [⟨2, (⟨#[112, 97, 99, 107, 97, 103, 101]⟩ : ByteArray), 0⟩, ⟨1, (⟨#[112]⟩ : ByteArray), 8⟩, ⟨6, (⟨#[10]⟩ : ByteArray), 9⟩, ⟨2, (⟨#[116, 121, 112, 101]⟩ : ByteArray), 10⟩, ⟨1, (⟨#[65]⟩ : ByteArray), 15⟩, ⟨6, (⟨#[91]⟩ : ByteArray), 16⟩, ⟨1, (⟨#[80]⟩ : ByteArray), 17⟩, ⟨1, (⟨#[97, 110, 121]⟩ : ByteArray), 19⟩, ⟨6, (⟨#[93]⟩ : ByteArray), 22⟩, ⟨6, (⟨#[61]⟩ : ByteArray), 24⟩, ⟨6, (⟨#[91]⟩ : ByteArray), 26⟩, ⟨6, (⟨#[93]⟩ : ByteArray), 27⟩, ⟨1, (⟨#[80]⟩ : ByteArray), 28⟩, ⟨6, (⟨#[10]⟩ : ByteArray), 29⟩]
def awkN : Nd := .mk 1 (⟨#[112]⟩ : ByteArray) [.mk 4 (⟨#[65]⟩ : ByteArray) [.mk 6 (⟨#[]⟩ : ByteArray) [.mk 7 (⟨#[80]⟩ : ByteArray) [.mk 10 (⟨#[97, 110, 121]⟩ : ByteArray) [] 19] 17] 16, .mk 11 (⟨#[]⟩ : ByteArray) [.mk 10 (⟨#[80]⟩ : ByteArray) [] 28] 26] 10] 0

theorem awk_goes : Goes awkS 31 awkL where
  ascii := by
    have h : ∀ j, j < 29 → 0 < (awkS.data.toList.getD j 0).toNat ∧ (awkS.data.toList.getD j 0).toNat < 128 := by decide +kernel
    exact h
  most := by decide +kernel
  mark := by kernel_rfl
  toks := by kernel_rfl
  look := by decide +kernel
theorem awk_reads : fileR (fnsT 12) ⟨awkL, 29⟩ ⟨0, false, -1⟩ = .ok awkN ⟨14, false, -1⟩ := by kernel_rfl
theorem awk_right : rightFile awkN = true := by kernel_rfl
theorem awk_here : hereT 100 awkN = [(18, 17), (24, 10)] := by kernel_rfl
end Go.Proofs.YtnalfjaojcahhaaGreatDoor
