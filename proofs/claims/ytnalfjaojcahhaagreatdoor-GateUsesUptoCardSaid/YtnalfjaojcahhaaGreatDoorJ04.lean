/-
  Types of functions, signatures. By an AI agent.
  Signatures. By an AI agent.
  Types: typ. By an AI agent.
-/
import Derived.Test.YtnalfjaojcahhaaGreatDoorJ03
import Derived.Deep.RegionHeld2
namespace Go.Proofs.YtnalfjaojcahhaaGreatDoor
open Go.RowKit Go.Lib Go.Proofs
attribute [local go_sem ↓] Go.wp_at_zero Go.wp_at_succ
attribute [local go_sem] fld_tok0 fld_tok1 fld_tok2 fld_nd0 fld_nd1 fld_nd2 fld_nd3

theorem enter_ft (a : Array Value) (w : World) : (callFunc 217 a).run Tryz.prog w = .ok (.enter 217 a) w := by kernel_rfl

set_option maxRecDepth 100000 in
set_option maxHeartbeats 4000000 in
theorem funcType_any (E : Env) (F : Fns) (hF : OkF E F) (p : Int) (w : World) (s : St) (h : RdAt E w s) (hno : funcTypeR F p E.c s ≠ .out) :
    Calls Tryz.prog 194 #[.pointer (some ⟨E.R, 0, none⟩), .int .i64 p] w (PostN E w (funcTypeR F p E.c s)) := by
  generalize hres : funcTypeR F p E.c s = res at *
  have HRES := Lib.hid hres
  have HNE := Lib.hid hno
  have hltR := h.lt
  clear hres hno
  go_enter Tryz.func194, Tryz.ntmps194
  go_wp2_with fail
  have hB0 : Blk ((w.alloc (.cells #[.pointer (some ⟨E.R, 0, none⟩)] 59)).alloc (.cells ndZ 24)) w.heap.size 59 #[.pointer (some ⟨E.R, 0, none⟩)] := (Blk.new w _ _).alloc _
  have hG0 : Blk ((w.alloc (.cells #[.pointer (some ⟨E.R, 0, none⟩)] 59)).alloc (.cells ndZ 24)) (w.heap.size + 1) 24 ndZ := by
    have := Blk.new (w.alloc (.cells #[.pointer (some ⟨E.R, 0, none⟩)] 59)) 24 ndZ
    simpa using this
  refine (next_any E s _ ((h.alloc _).alloc _)).mono ?_
  unfold tokV
  rintro e w1 ⟨rfl, hb1⟩
  have hq1 := (((Seen.refl h).alloc _).alloc _).step hb1
  have hG1 := hG0.below hb1 (by simp)
  have hB1 := hB0.below hb1 (by simp; omega)
  have b1 := hB1.cell 0
  simp at b1
  clear hb1 hG0 hB0
  go_wp2_with fail
  cases hA : isS E.c s (⟨#[40]⟩ : ByteArray) with
  | false =>
    refine (need_no E s _ w1 hq1.rd hA).mono ?_
    rintro e w2 ⟨rfl, hb2⟩
    unfold wrongV
    exact ⟨rfl, end_fail (by rw [← HRES.out, funcTypeR, need]; simp [hA]) hq1.moved.gr (grownBy_of_below _ hb2)⟩
  | true =>
    have HR2 := Lib.hid (show ((rowGo (ftPart F) (⟨#[41]⟩ : ByteArray) F.g [] E.c (adv s)).bind fun l s2 => (resultR F E.c s2).bind fun r s3 => .ok (.mk 12 (⟨#[]⟩ : ByteArray) [.mk 6 (⟨#[]⟩ : ByteArray) l (posS E.c s), r] p) s3) = res by rw [← HRES.out, funcTypeR, need]; simp only [hA, if_true, Res.bind_ok])
    refine (need_yes E s _ w1 hq1.rd hA).mono ?_
    rintro e w2 ⟨rfl, hm2⟩
    have hG2 := hG1.grown hm2.gr (fun e => by injection e with e; omega)
    have hB2 := hB1.grown hm2.gr (fun e => by injection e with e; omega)
    have hm2' := hq1.moved.trans hm2
    have hltB := hB1.lt
    have hltG := hG1.lt
    have hs2 := hm2.gr.size
    clear HRES hA hm2 hG1 hB1 b1
    go_wp2_with fail
    refine (node_any _ _ _ _ _ ⟨_, _, _, rfl⟩).mono ?_
    rintro e w3 ⟨rfl, hb3⟩
    have hm3 := hm2'.step hb3
    have hG3 := hG2.below hb3 (by omega)
    have hB3 := hB2.below hb3 (by omega)
    have b3 := hB3.cell 0
    simp at b3
    have hs3 := hb3.size
    have hltG3 := hG3.lt
    have hltB3 := hB3.lt
    have hneB3 := Nat.ne_of_lt hltB3
    clear hb3 hG2 hB2 hm2'
    go_wp2_with fail
    have hm4 := hm3.alloc (.cells #[.int .i64 6, .string (⟨#[]⟩ : ByteArray), .slice none 0 0, .int .i64 (posS E.c s)] 24)
    have hB4 := hB3.alloc (.cells #[.int .i64 6, .string (⟨#[]⟩ : ByteArray), .slice none 0 0, .int .i64 (posS E.c s)] 24)
    have hG4 := hG3.alloc (.cells #[.int .i64 6, .string (⟨#[]⟩ : ByteArray), .slice none 0 0, .int .i64 (posS E.c s)] 24)
    have hL4 := Blk.new w3 24 #[.int .i64 6, .string (⟨#[]⟩ : ByteArray), .slice none 0 0, .int .i64 (posS E.c s)]
    have hs4 : (w3.alloc (.cells #[.int .i64 6, .string (⟨#[]⟩ : ByteArray), .slice none 0 0, .int .i64 (posS E.c s)] 24)).heap.size = w3.heap.size + 1 := by simp
    have hneR : w.heap.size ≠ E.R := by omega
    clear hm3 hB3 hG3
    cases hR : rowGo (ftPart F) (⟨#[41]⟩ : ByteArray) F.g [] E.c (adv s) with
    | out => exact absurd HR2.out.symm (by rw [hR]; exact HNE.out)
    | fail q =>
      refine (row_any E 217 #[] #[.pointer (some ⟨w.heap.size, 0, none⟩)] (ftPart F) (⟨#[41]⟩ : ByteArray) F.g (adv s) _ hm4.rd enter_ft (ft_part E F hF w.heap.size _ hB4 hneR) (by rw [hR]; exact nofun) hF.g).mono ?_
      rw [hR]
      rintro e w5 ⟨rfl, hg5⟩
      unfold wrongV
      exact ⟨rfl, end_fail (by rw [← HR2.out, hR]; rfl) hm4.gr hg5⟩
    | ok l s2 =>
      have HR3 := Lib.hid (show (resultR F E.c s2).bind (fun r s3 => .ok (.mk 12 (⟨#[]⟩ : ByteArray) [.mk 6 (⟨#[]⟩ : ByteArray) l (posS E.c s), r] p) s3) = res by rw [← HR2.out, hR]; rfl)
      refine (row_any E 217 #[] #[.pointer (some ⟨w.heap.size, 0, none⟩)] (ftPart F) (⟨#[41]⟩ : ByteArray) F.g (adv s) _ hm4.rd enter_ft (ft_part E F hF w.heap.size _ hB4 hneR) (by rw [hR]; exact nofun) hF.g).mono ?_
      rw [hR]
      rintro e w5 ⟨⟨v, rfl, hv⟩, hm5⟩
      obtain ⟨A, cp, xs, rfl, hv1, hv2, hv3⟩ := hv
      have hL5 := hL4.grown hm5.gr (fun e => by injection e with e; omega)
      have hG5 := hG4.grown hm5.gr (fun e => by injection e with e; omega)
      have hB5 := hB4.grown hm5.gr (fun e => by injection e with e; omega)
      obtain ⟨l0, l1, l2, l3, f0, f1, f2, f3⟩ := blk4 hL5
      have hltL := hL5.lt
      clear hR HR2 hL4 hG4 hB4
      go_wp2_with fail
      have hL6 : Blk (w5.setCell ⟨w3.heap.size, 2, none⟩ (.slice A l.length cp)) w3.heap.size 24 #[.int .i64 6, .string (⟨#[]⟩ : ByteArray), .slice A l.length cp, .int .i64 (posS E.c s)] := by
        simpa using hL5.set_ 2 (.slice A l.length cp)
      have hG6 := hG5.far (p := ⟨w3.heap.size, 2, none⟩) (by show w.heap.size + 1 ≠ w3.heap.size; omega) (.slice A l.length cp)
      have hB6 := hB5.far (p := ⟨w3.heap.size, 2, none⟩) (by show w.heap.size ≠ w3.heap.size; omega) (.slice A l.length cp)
      have hm6 := (hm4.trans hm5).own (p := ⟨w3.heap.size, 2, none⟩) (by show w.heap.size ≤ w3.heap.size; omega) (by show E.R < w3.heap.size; omega) (.slice A l.length cp)
      have hv6 : NodesV (fun b => w3.heap.size + 1 ≤ b) (w5.setCell ⟨w3.heap.size, 2, none⟩ (.slice A l.length cp)) (.slice A l.length cp) l := by
        have hk : KeepsX (fun b => w3.heap.size + 1 ≤ b) w5 (w5.setCell ⟨w3.heap.size, 2, none⟩ (.slice A l.length cp)) := (KeepsX.refl _ _).setCell (fun h => by simp at h; omega) _
        have hv5 : NodesV (fun b => w3.heap.size + 1 ≤ b) w5 (.slice A l.length cp) l := ⟨A, cp, xs, rfl, hv1, by simpa using hv2, by simpa using hv3⟩
        exact hv5.kept hk
      have hz6 : w5.heap.size ≤ (w5.setCell ⟨w3.heap.size, 2, none⟩ (.slice A l.length cp)).heap.size := by simp
      clear hL5 hG5 hB5 hm5 hm4 l0 l1 l2 l3 f0 f1 f2 f3 hv1 hv2 hv3
      generalize w5.setCell ⟨w3.heap.size, 2, none⟩ (.slice A l.length cp) = w6 at *
      obtain ⟨l0, l1, l2, l3, f0, f1, f2, f3⟩ := blk4 hL6
      have b6 := hB6.cell 0
      simp at b6
      have hltL6 := hL6.lt
      have hneL := Nat.ne_of_lt hltL6
      have hneRL : E.R ≠ w3.heap.size := by omega
      cases hP : resultR F E.c s2 with
      | out => exact absurd HR3.out.symm (by rw [hP]; exact HNE.out)
      | fail q =>
        have HC := Lib.hid (fun W (hr : RdAt E W s2) => result_any E F hF W s2 hr (by rw [hP]; exact nofun))
        have HF := Lib.hid (show res = .fail q by rw [← HR3.out, hP]; rfl)
        rw [hP] at HC
        clear HR3 hP
        have s6 : Five ⟨w3.heap.size, 0, none⟩ ⟨w3.heap.size, 1, none⟩ ⟨w3.heap.size, 2, none⟩ ⟨w3.heap.size, 3, none⟩ ⟨w.heap.size, 0, none⟩ (.int .i64 6) (.string (⟨#[]⟩ : ByteArray)) (.slice A l.length cp) (.int .i64 (posS E.c s)) (.pointer (some ⟨E.R, 0, none⟩)) w6 := ⟨l0, l1, l2, l3, b6⟩
        let SS : World → Prop := fun w' => w'.cell? ⟨w3.heap.size, 0, none⟩ = some (.int .i64 6) ∧ w'.cell? ⟨w3.heap.size, 1, none⟩ = some (.string (⟨#[]⟩ : ByteArray)) ∧ w'.cell? ⟨w3.heap.size, 2, none⟩ = some (.slice A l.length cp) ∧ w'.cell? ⟨w3.heap.size, 3, none⟩ = some (.int .i64 (posS E.c s)) ∧ w'.cell? ⟨w.heap.size, 0, none⟩ = some (.pointer (some ⟨E.R, 0, none⟩))
        have HSS : SS w6.drew := s6.drew
        (refine wp_region_held_drew (S := SS) (by kernel_rfl) HSS ?_; intro hSd; (refine wpAnyH_take (i := 0) (v := ?vv1x0) rfl (by kernel_rfl) (by kernel_rfl) (by kernel_rfl) (fun _ _ _ h => h) (Or.inl ⟨by rfl, ?hy1x0⟩) hSd ?rest1x0); (case hy1x0 => (intro w hSw; (try dsimp only [SS] at hSw); go_simp; try (with_reducible rfl))); (refine wpAnyH_take (i := 1) (v := ?vv1x1) rfl (by kernel_rfl) (by kernel_rfl) (by kernel_rfl) (fun _ _ _ h => h) (Or.inl ⟨by rfl, ?hy1x1⟩) hSd ?rest1x1); (case hy1x1 => (intro w hSw; (try dsimp only [SS] at hSw); go_simp; try (with_reducible rfl))); (refine wpAnyH_take (i := 2) (v := ?vv1x2) rfl (by kernel_rfl) (by kernel_rfl) (by kernel_rfl) (fun _ _ _ h => h) (Or.inl ⟨by rfl, ?hy1x2⟩) hSd ?rest1x2); (case hy1x2 => (intro w hSw; (try dsimp only [SS] at hSw); go_simp; try (with_reducible rfl))); (refine wpAnyH_ready (rs := [3]) (by kernel_rfl) (by simp) ?_); (refine AllReadyH.cons rfl (fun K hK => ?_) AllReadyH.nil); go_simp)
        refine (HC.out _ (hm6.drew).rd).mono ?_
        rintro e w7 ⟨rfl, hg7⟩
        unfold wrongV
        exact ⟨rfl, end_fail HF.out hm6.drew.gr hg7⟩
      | ok n s3 =>
        have HC := Lib.hid (fun W (hr : RdAt E W s2) => result_any E F hF W s2 hr (by rw [hP]; exact nofun))
        have HF := Lib.hid (show res = .ok (.mk 12 (⟨#[]⟩ : ByteArray) [.mk 6 (⟨#[]⟩ : ByteArray) l (posS E.c s), n] p) s3 by rw [← HR3.out, hP]; rfl)
        rw [hP] at HC
        clear HR3 hP
        have hnLG : w3.heap.size ≠ w.heap.size + 1 := by omega
        have hnBG : w.heap.size ≠ w.heap.size + 1 := by omega
        have s6 : Five ⟨w3.heap.size, 0, none⟩ ⟨w3.heap.size, 1, none⟩ ⟨w3.heap.size, 2, none⟩ ⟨w3.heap.size, 3, none⟩ ⟨w.heap.size, 0, none⟩ (.int .i64 6) (.string (⟨#[]⟩ : ByteArray)) (.slice A l.length cp) (.int .i64 (posS E.c s)) (.pointer (some ⟨E.R, 0, none⟩)) w6 := ⟨l0, l1, l2, l3, b6⟩
        go_region_held3 (fun w' => w'.cell? ⟨w3.heap.size, 0, none⟩ = some (.int .i64 6) ∧ w'.cell? ⟨w3.heap.size, 1, none⟩ = some (.string (⟨#[]⟩ : ByteArray)) ∧ w'.cell? ⟨w3.heap.size, 2, none⟩ = some (.slice A l.length cp) ∧ w'.cell? ⟨w3.heap.size, 3, none⟩ = some (.int .i64 (posS E.c s)) ∧ w'.cell? ⟨w.heap.size, 0, none⟩ = some (.pointer (some ⟨E.R, 0, none⟩)))
          (first | with_reducible exact s9 _ _ _ _ | with_reducible exact s8 | with_reducible exact s7.alloc _ | with_reducible exact s7 | with_reducible exact s6.drew)
          (first
            | (go_at_call 151; refine (HC.out _ (hm6.drew).rd).mono ?_; rintro e w7 ⟨⟨v, rfl, hv⟩, hm7⟩; obtain ⟨An, cn, rfl, hC⟩ := hv.toC; have hm8 := hm6.drew.trans hm7; have s7 := s6.drew.grown hm7.gr hneRL.symm hneRL.symm hneRL.symm hneRL.symm hneR)
            | (go_at_call 64; refine (node_any _ _ _ _ _ ⟨_, _, _, rfl⟩).mono ?_; rintro e w8 ⟨rfl, hb8⟩; have s8 := (s7.alloc _).below hb8; have s9 := s8.put (w.heap.size + 1) hnLG hnLG hnLG hnLG hnBG; have hG8 := ((hG6.drew.grown hm7.gr (fun e => by injection e with e; omega)).alloc _).below hb8 (by have := (hG6.drew.grown hm7.gr (fun e => by injection e with e; omega)).lt; simp; omega); obtain ⟨g0, g1, g2, g3, k0, k1, k2, k3⟩ := blk4 hG8))
        all_goals go_wp2_with fail
        have hs7 := hm7.gr.size
        have hz8 : w6.drew.heap.size = w6.heap.size := rfl
        have hvL := (hv6.kept ((KeepsX.refl _ _).drew.trans (KeepsX.of_grown hm7.gr (fun g e hX => by injection e with e; subst e; omega)))).mono (Y := fun b => w3.heap.size + 1 ≤ b) (fun b hb _ => hb)
        obtain ⟨AL, cL, eL, hCL⟩ := (NodeV.of_slice hvL 6 (⟨#[]⟩ : ByteArray) (posS E.c s)).toC
        simp only [Nd.kids_mk, Nd.kind_mk, Nd.text_mk, Nd.pos_mk, Value.agg.injEq, Array.mk.injEq, List.cons.injEq, Value.slice.injEq, true_and, and_true] at eL
        obtain ⟨rfl, rfl⟩ := eL
        have hV := NodeV.make 2 rfl (NodesC.cons hCL (NodesC.one (hC.mono (Y := fun b => w3.heap.size + 1 ≤ b) fun b hb _ => by omega))) 12 (⟨#[]⟩ : ByteArray) p hb8
        refine end_node HF.out hV ((hm8.alloc _).step hb8) hG8 (by omega) (by omega) ?_ rfl (by rfl) rfl
        rintro b (⟨hb, _⟩ | rfl) <;> constructor <;> omega
end Go.Proofs.YtnalfjaojcahhaaGreatDoor
namespace Go.Proofs.YtnalfjaojcahhaaGreatDoor
open Go.RowKit Go.Lib Go.Proofs
attribute [local go_sem ↓] Go.wp_at_zero Go.wp_at_succ
attribute [local go_sem] fld_tok0 fld_tok1 fld_tok2 fld_nd0 fld_nd1 fld_nd2 fld_nd3

theorem enter_sig (a : Array Value) (w : World) : (callFunc 149 a).run Tryz.prog w = .ok (.enter 149 a) w := by kernel_rfl

set_option maxRecDepth 100000 in
set_option maxHeartbeats 4000000 in
theorem signature_any (E : Env) (F : Fns) (hF : OkF E F) (p : Int) (w : World) (s : St) (h : RdAt E w s) (hno : sigR F p E.c s ≠ .out) :
    Calls Tryz.prog 96 #[.pointer (some ⟨E.R, 0, none⟩), .int .i64 p] w (PostN E w (sigR F p E.c s)) := by
  generalize hres : sigR F p E.c s = res at *
  have HRES := Lib.hid hres
  have HNE := Lib.hid hno
  have hltR := h.lt
  clear hres hno
  go_enter Tryz.func96, Tryz.ntmps96
  go_wp2_with fail
  have hB0 : Blk ((w.alloc (.cells #[.pointer (some ⟨E.R, 0, none⟩)] 59)).alloc (.cells ndZ 24)) w.heap.size 59 #[.pointer (some ⟨E.R, 0, none⟩)] := (Blk.new w _ _).alloc _
  have hG0 : Blk ((w.alloc (.cells #[.pointer (some ⟨E.R, 0, none⟩)] 59)).alloc (.cells ndZ 24)) (w.heap.size + 1) 24 ndZ := by
    have := Blk.new (w.alloc (.cells #[.pointer (some ⟨E.R, 0, none⟩)] 59)) 24 ndZ
    simpa using this
  refine (next_any E s _ ((h.alloc _).alloc _)).mono ?_
  unfold tokV
  rintro e w1 ⟨rfl, hb1⟩
  have hq1 := (((Seen.refl h).alloc _).alloc _).step hb1
  have hG1 := hG0.below hb1 (by simp)
  have hB1 := hB0.below hb1 (by simp; omega)
  have b1 := hB1.cell 0
  simp at b1
  clear hb1 hG0 hB0
  go_wp2_with fail
  cases hA : isS E.c s (⟨#[40]⟩ : ByteArray) with
  | false =>
    refine (need_no E s _ w1 hq1.rd hA).mono ?_
    rintro e w2 ⟨rfl, hb2⟩
    unfold wrongV
    exact ⟨rfl, end_fail (by rw [← HRES.out, sigR, need]; simp [hA]) hq1.moved.gr (grownBy_of_below _ hb2)⟩
  | true =>
    have HR2 := Lib.hid (show ((rowGo (sigPart F) (⟨#[41]⟩ : ByteArray) F.g [] E.c (adv s)).bind fun l s2 => (resultR F E.c s2).bind fun r s3 => .ok (.mk 12 (⟨#[]⟩ : ByteArray) [.mk 6 (⟨#[]⟩ : ByteArray) l (posS E.c s), r] p) s3) = res by rw [← HRES.out, sigR, need]; simp only [hA, if_true, Res.bind_ok])
    refine (need_yes E s _ w1 hq1.rd hA).mono ?_
    rintro e w2 ⟨rfl, hm2⟩
    have hG2 := hG1.grown hm2.gr (fun e => by injection e with e; omega)
    have hB2 := hB1.grown hm2.gr (fun e => by injection e with e; omega)
    have hm2' := hq1.moved.trans hm2
    have hltB := hB1.lt
    have hltG := hG1.lt
    have hs2 := hm2.gr.size
    clear HRES hA hm2 hG1 hB1 b1
    go_wp2_with fail
    refine (node_any _ _ _ _ _ ⟨_, _, _, rfl⟩).mono ?_
    rintro e w3 ⟨rfl, hb3⟩
    have hm3 := hm2'.step hb3
    have hG3 := hG2.below hb3 (by omega)
    have hB3 := hB2.below hb3 (by omega)
    have b3 := hB3.cell 0
    simp at b3
    have hs3 := hb3.size
    have hltG3 := hG3.lt
    have hltB3 := hB3.lt
    have hneB3 := Nat.ne_of_lt hltB3
    clear hb3 hG2 hB2 hm2'
    go_wp2_with fail
    have hm4 := hm3.alloc (.cells #[.int .i64 6, .string (⟨#[]⟩ : ByteArray), .slice none 0 0, .int .i64 (posS E.c s)] 24)
    have hB4 := hB3.alloc (.cells #[.int .i64 6, .string (⟨#[]⟩ : ByteArray), .slice none 0 0, .int .i64 (posS E.c s)] 24)
    have hG4 := hG3.alloc (.cells #[.int .i64 6, .string (⟨#[]⟩ : ByteArray), .slice none 0 0, .int .i64 (posS E.c s)] 24)
    have hL4 := Blk.new w3 24 #[.int .i64 6, .string (⟨#[]⟩ : ByteArray), .slice none 0 0, .int .i64 (posS E.c s)]
    have hs4 : (w3.alloc (.cells #[.int .i64 6, .string (⟨#[]⟩ : ByteArray), .slice none 0 0, .int .i64 (posS E.c s)] 24)).heap.size = w3.heap.size + 1 := by simp
    have hneR : w.heap.size ≠ E.R := by omega
    clear hm3 hB3 hG3
    cases hR : rowGo (sigPart F) (⟨#[41]⟩ : ByteArray) F.g [] E.c (adv s) with
    | out => exact absurd HR2.out.symm (by rw [hR]; exact HNE.out)
    | fail q =>
      refine (row_any E 149 #[] #[.pointer (some ⟨w.heap.size, 0, none⟩)] (sigPart F) (⟨#[41]⟩ : ByteArray) F.g (adv s) _ hm4.rd enter_sig (sig_part E F hF w.heap.size _ hB4 hneR) (by rw [hR]; exact nofun) hF.g).mono ?_
      rw [hR]
      rintro e w5 ⟨rfl, hg5⟩
      unfold wrongV
      exact ⟨rfl, end_fail (by rw [← HR2.out, hR]; rfl) hm4.gr hg5⟩
    | ok l s2 =>
      have HR3 := Lib.hid (show (resultR F E.c s2).bind (fun r s3 => .ok (.mk 12 (⟨#[]⟩ : ByteArray) [.mk 6 (⟨#[]⟩ : ByteArray) l (posS E.c s), r] p) s3) = res by rw [← HR2.out, hR]; rfl)
      refine (row_any E 149 #[] #[.pointer (some ⟨w.heap.size, 0, none⟩)] (sigPart F) (⟨#[41]⟩ : ByteArray) F.g (adv s) _ hm4.rd enter_sig (sig_part E F hF w.heap.size _ hB4 hneR) (by rw [hR]; exact nofun) hF.g).mono ?_
      rw [hR]
      rintro e w5 ⟨⟨v, rfl, hv⟩, hm5⟩
      obtain ⟨A, cp, xs, rfl, hv1, hv2, hv3⟩ := hv
      have hL5 := hL4.grown hm5.gr (fun e => by injection e with e; omega)
      have hG5 := hG4.grown hm5.gr (fun e => by injection e with e; omega)
      have hB5 := hB4.grown hm5.gr (fun e => by injection e with e; omega)
      obtain ⟨l0, l1, l2, l3, f0, f1, f2, f3⟩ := blk4 hL5
      have hltL := hL5.lt
      clear hR HR2 hL4 hG4 hB4
      go_wp2_with fail
      have hL6 : Blk (w5.setCell ⟨w3.heap.size, 2, none⟩ (.slice A l.length cp)) w3.heap.size 24 #[.int .i64 6, .string (⟨#[]⟩ : ByteArray), .slice A l.length cp, .int .i64 (posS E.c s)] := by
        simpa using hL5.set_ 2 (.slice A l.length cp)
      have hG6 := hG5.far (p := ⟨w3.heap.size, 2, none⟩) (by show w.heap.size + 1 ≠ w3.heap.size; omega) (.slice A l.length cp)
      have hB6 := hB5.far (p := ⟨w3.heap.size, 2, none⟩) (by show w.heap.size ≠ w3.heap.size; omega) (.slice A l.length cp)
      have hm6 := (hm4.trans hm5).own (p := ⟨w3.heap.size, 2, none⟩) (by show w.heap.size ≤ w3.heap.size; omega) (by show E.R < w3.heap.size; omega) (.slice A l.length cp)
      have hv6 : NodesV (fun b => w3.heap.size + 1 ≤ b) (w5.setCell ⟨w3.heap.size, 2, none⟩ (.slice A l.length cp)) (.slice A l.length cp) l := by
        have hk : KeepsX (fun b => w3.heap.size + 1 ≤ b) w5 (w5.setCell ⟨w3.heap.size, 2, none⟩ (.slice A l.length cp)) := (KeepsX.refl _ _).setCell (fun h => by simp at h; omega) _
        have hv5 : NodesV (fun b => w3.heap.size + 1 ≤ b) w5 (.slice A l.length cp) l := ⟨A, cp, xs, rfl, hv1, by simpa using hv2, by simpa using hv3⟩
        exact hv5.kept hk
      have hz6 : w5.heap.size ≤ (w5.setCell ⟨w3.heap.size, 2, none⟩ (.slice A l.length cp)).heap.size := by simp
      clear hL5 hG5 hB5 hm5 hm4 l0 l1 l2 l3 f0 f1 f2 f3 hv1 hv2 hv3
      generalize w5.setCell ⟨w3.heap.size, 2, none⟩ (.slice A l.length cp) = w6 at *
      obtain ⟨l0, l1, l2, l3, f0, f1, f2, f3⟩ := blk4 hL6
      have b6 := hB6.cell 0
      simp at b6
      have hltL6 := hL6.lt
      have hneL := Nat.ne_of_lt hltL6
      have hneRL : E.R ≠ w3.heap.size := by omega
      cases hP : resultR F E.c s2 with
      | out => exact absurd HR3.out.symm (by rw [hP]; exact HNE.out)
      | fail q =>
        have HC := Lib.hid (fun W (hr : RdAt E W s2) => result_any E F hF W s2 hr (by rw [hP]; exact nofun))
        have HF := Lib.hid (show res = .fail q by rw [← HR3.out, hP]; rfl)
        rw [hP] at HC
        clear HR3 hP
        have s6 : Five ⟨w3.heap.size, 0, none⟩ ⟨w3.heap.size, 1, none⟩ ⟨w3.heap.size, 2, none⟩ ⟨w3.heap.size, 3, none⟩ ⟨w.heap.size, 0, none⟩ (.int .i64 6) (.string (⟨#[]⟩ : ByteArray)) (.slice A l.length cp) (.int .i64 (posS E.c s)) (.pointer (some ⟨E.R, 0, none⟩)) w6 := ⟨l0, l1, l2, l3, b6⟩
        let SS : World → Prop := fun w' => w'.cell? ⟨w3.heap.size, 0, none⟩ = some (.int .i64 6) ∧ w'.cell? ⟨w3.heap.size, 1, none⟩ = some (.string (⟨#[]⟩ : ByteArray)) ∧ w'.cell? ⟨w3.heap.size, 2, none⟩ = some (.slice A l.length cp) ∧ w'.cell? ⟨w3.heap.size, 3, none⟩ = some (.int .i64 (posS E.c s)) ∧ w'.cell? ⟨w.heap.size, 0, none⟩ = some (.pointer (some ⟨E.R, 0, none⟩))
        have HSS : SS w6.drew := s6.drew
        (refine wp_region_held_drew (S := SS) (by kernel_rfl) HSS ?_; intro hSd; (refine wpAnyH_take (i := 0) (v := ?vv1x0) rfl (by kernel_rfl) (by kernel_rfl) (by kernel_rfl) (fun _ _ _ h => h) (Or.inl ⟨by rfl, ?hy1x0⟩) hSd ?rest1x0); (case hy1x0 => (intro w hSw; (try dsimp only [SS] at hSw); go_simp; try (with_reducible rfl))); (refine wpAnyH_take (i := 1) (v := ?vv1x1) rfl (by kernel_rfl) (by kernel_rfl) (by kernel_rfl) (fun _ _ _ h => h) (Or.inl ⟨by rfl, ?hy1x1⟩) hSd ?rest1x1); (case hy1x1 => (intro w hSw; (try dsimp only [SS] at hSw); go_simp; try (with_reducible rfl))); (refine wpAnyH_take (i := 2) (v := ?vv1x2) rfl (by kernel_rfl) (by kernel_rfl) (by kernel_rfl) (fun _ _ _ h => h) (Or.inl ⟨by rfl, ?hy1x2⟩) hSd ?rest1x2); (case hy1x2 => (intro w hSw; (try dsimp only [SS] at hSw); go_simp; try (with_reducible rfl))); (refine wpAnyH_ready (rs := [3]) (by kernel_rfl) (by simp) ?_); (refine AllReadyH.cons rfl (fun K hK => ?_) AllReadyH.nil); go_simp)
        refine (HC.out _ (hm6.drew).rd).mono ?_
        rintro e w7 ⟨rfl, hg7⟩
        unfold wrongV
        exact ⟨rfl, end_fail HF.out hm6.drew.gr hg7⟩
      | ok n s3 =>
        have HC := Lib.hid (fun W (hr : RdAt E W s2) => result_any E F hF W s2 hr (by rw [hP]; exact nofun))
        have HF := Lib.hid (show res = .ok (.mk 12 (⟨#[]⟩ : ByteArray) [.mk 6 (⟨#[]⟩ : ByteArray) l (posS E.c s), n] p) s3 by rw [← HR3.out, hP]; rfl)
        rw [hP] at HC
        clear HR3 hP
        have hnLG : w3.heap.size ≠ w.heap.size + 1 := by omega
        have hnBG : w.heap.size ≠ w.heap.size + 1 := by omega
        have s6 : Five ⟨w3.heap.size, 0, none⟩ ⟨w3.heap.size, 1, none⟩ ⟨w3.heap.size, 2, none⟩ ⟨w3.heap.size, 3, none⟩ ⟨w.heap.size, 0, none⟩ (.int .i64 6) (.string (⟨#[]⟩ : ByteArray)) (.slice A l.length cp) (.int .i64 (posS E.c s)) (.pointer (some ⟨E.R, 0, none⟩)) w6 := ⟨l0, l1, l2, l3, b6⟩
        go_region_held3 (fun w' => w'.cell? ⟨w3.heap.size, 0, none⟩ = some (.int .i64 6) ∧ w'.cell? ⟨w3.heap.size, 1, none⟩ = some (.string (⟨#[]⟩ : ByteArray)) ∧ w'.cell? ⟨w3.heap.size, 2, none⟩ = some (.slice A l.length cp) ∧ w'.cell? ⟨w3.heap.size, 3, none⟩ = some (.int .i64 (posS E.c s)) ∧ w'.cell? ⟨w.heap.size, 0, none⟩ = some (.pointer (some ⟨E.R, 0, none⟩)))
          (first | with_reducible exact s9 _ _ _ _ | with_reducible exact s8 | with_reducible exact s7.alloc _ | with_reducible exact s7 | with_reducible exact s6.drew)
          (first
            | (go_at_call 151; refine (HC.out _ (hm6.drew).rd).mono ?_; rintro e w7 ⟨⟨v, rfl, hv⟩, hm7⟩; obtain ⟨An, cn, rfl, hC⟩ := hv.toC; have hm8 := hm6.drew.trans hm7; have s7 := s6.drew.grown hm7.gr hneRL.symm hneRL.symm hneRL.symm hneRL.symm hneR)
            | (go_at_call 64; refine (node_any _ _ _ _ _ ⟨_, _, _, rfl⟩).mono ?_; rintro e w8 ⟨rfl, hb8⟩; have s8 := (s7.alloc _).below hb8; have s9 := s8.put (w.heap.size + 1) hnLG hnLG hnLG hnLG hnBG; have hG8 := ((hG6.drew.grown hm7.gr (fun e => by injection e with e; omega)).alloc _).below hb8 (by have := (hG6.drew.grown hm7.gr (fun e => by injection e with e; omega)).lt; simp; omega); obtain ⟨g0, g1, g2, g3, k0, k1, k2, k3⟩ := blk4 hG8))
        all_goals go_wp2_with fail
        have hs7 := hm7.gr.size
        have hz8 : w6.drew.heap.size = w6.heap.size := rfl
        have hvL := (hv6.kept ((KeepsX.refl _ _).drew.trans (KeepsX.of_grown hm7.gr (fun g e hX => by injection e with e; subst e; omega)))).mono (Y := fun b => w3.heap.size + 1 ≤ b) (fun b hb _ => hb)
        obtain ⟨AL, cL, eL, hCL⟩ := (NodeV.of_slice hvL 6 (⟨#[]⟩ : ByteArray) (posS E.c s)).toC
        simp only [Nd.kids_mk, Nd.kind_mk, Nd.text_mk, Nd.pos_mk, Value.agg.injEq, Array.mk.injEq, List.cons.injEq, Value.slice.injEq, true_and, and_true] at eL
        obtain ⟨rfl, rfl⟩ := eL
        have hV := NodeV.make 2 rfl (NodesC.cons hCL (NodesC.one (hC.mono (Y := fun b => w3.heap.size + 1 ≤ b) fun b hb _ => by omega))) 12 (⟨#[]⟩ : ByteArray) p hb8
        refine end_node HF.out hV ((hm8.alloc _).step hb8) hG8 (by omega) (by omega) ?_ rfl (by rfl) rfl
        rintro b (⟨hb, _⟩ | rfl) <;> constructor <;> omega
end Go.Proofs.YtnalfjaojcahhaaGreatDoor
namespace Go.Proofs.YtnalfjaojcahhaaGreatDoor
open Go.RowKit Go.Lib Go.Proofs
attribute [local go_sem ↓] Go.wp_at_zero Go.wp_at_succ
attribute [local go_sem] fld_tok0 fld_tok1 fld_tok2 fld_nd0 fld_nd1 fld_nd2 fld_nd3

theorem enter_typ (a : Array Value) (w : World) : (callFunc 150 a).run Tryz.prog w = .ok (.enter 150 a) w := by kernel_rfl

set_option maxRecDepth 100000 in
set_option maxHeartbeats 4000000 in
theorem typ_any (E : Env) (F : Fns) (hF : OkF E F) : ReadC E (typR F) 150 := by
  intro w s h hno
  generalize hres : typR F E.c s = res at *
  have HRES := Lib.hid hres
  have HNE := Lib.hid hno
  have hltR := h.lt
  have hmost := h.most
  clear hres hno
  go_enter Tryz.func150, Tryz.ntmps150
  go_wp2_with fail
  refine (next_any E s _ (h.alloc _)).mono ?_
  unfold tokV
  rintro e w1 ⟨rfl, hb1⟩
  have hq1 := ((Seen.refl h).alloc _).step hb1
  have hG1 := (Blk.new w 24 ndZ).below hb1 (by simp)
  have hltG1 := hG1.lt
  clear hb1
  go_wp2_with fail
  cases hA : isS E.c s (⟨#[40]⟩ : ByteArray) with
  | true =>
    have HE := Lib.hid (show (F.typ E.c (adv s)).bind (fun t s1 => (need (⟨#[41]⟩ : ByteArray) E.c s1).bind fun _ s2 => .ok t s2) = res by rw [← HRES.out, typR, if_pos hA])
    refine (takes_yes E s _ w1 hq1.rd hA).mono ?_
    rintro e w2 ⟨rfl, hm2⟩
    have hG2 := hG1.grown hm2.gr (fun e => by injection e with e; omega)
    have hM2 := hq1.moved.trans hm2
    have hs2 := hm2.gr.size
    clear HRES hA
    go_wp2_with fail
    cases hP : F.typ E.c (adv s) with
    | out => exact absurd HE.out.symm (by rw [hP]; exact HNE.out)
    | fail p =>
      refine (hF.typ w2 (adv s) hm2.rd (by rw [hP]; exact nofun)).mono ?_
      rw [hP]
      rintro e w3 ⟨rfl, hg3⟩
      unfold wrongV
      exact ⟨rfl, end_fail (by rw [← HE.out, hP]; rfl) hM2.gr hg3⟩
    | ok n s1 =>
      have HE2 := Lib.hid (show (need (⟨#[41]⟩ : ByteArray) E.c s1).bind (fun _ s2 => .ok n s2) = res by rw [← HE.out, hP]; rfl)
      refine (hF.typ w2 (adv s) hm2.rd (by rw [hP]; exact nofun)).mono ?_
      rw [hP]
      rintro e w3 ⟨⟨v, rfl, hv⟩, hm3⟩
      obtain ⟨A, cp, rfl, hC⟩ := hv.toC
      have hG3 := hG2.grown hm3.gr (fun e => by injection e with e; omega)
      have hM3 := (hM2.trans hm3).alloc (.cells #[.int .i64 n.kind, .string n.text, .slice A n.kids.length cp, .int .i64 n.pos] 24)
      have hs3 := hm3.gr.size
      have hltR3 := hm3.rd.lt
      clear hP HE hm3 hm2 hM2
      go_wp2_with fail
      cases hD : isS E.c s1 (⟨#[41]⟩ : ByteArray) with
      | false =>
        refine (need_no E s1 _ _ hM3.rd hD).mono ?_
        rintro e w4 ⟨rfl, hb4⟩
        unfold wrongV
        exact ⟨rfl, end_fail (by rw [← HE2.out, need]; simp [hD]) hM3.gr (grownBy_of_below _ hb4)⟩
      | true =>
        have HF := Lib.hid (show res = .ok n (adv s1) by rw [← HE2.out, need]; simp [hD])
        refine (need_yes E s1 _ _ hM3.rd hD).mono ?_
        rintro e w4 ⟨rfl, hm4⟩
        have hX4 := (Blk.new w3 24 #[.int .i64 n.kind, .string n.text, .slice A n.kids.length cp, .int .i64 n.pos]).grown hm4.gr (fun e => by injection e with e; omega)
        have hG4 := (hG3.alloc _).grown hm4.gr (fun e => by injection e with e; omega)
        obtain ⟨x0, x1, x2, x3, _, _, _, _⟩ := blk4 hX4
        obtain ⟨d0, d1, d2, d3, e0, e1, e2, e3⟩ := blk4 hG4
        clear hD HE2
        go_wp2_with fail
        refine end_node HF.out (hv.kept (((KeepsX.refl _ _).alloc _).trans (KeepsX.of_grown hm4.gr (fun g e hX => by injection e with e; subst e; omega)))) (hM3.trans hm4) hG4 (Nat.le_refl _) hltR ?_ rfl (by rfl) rfl
        intro b hb
        constructor <;> omega
  | false =>
    refine (takes_no E s _ w1 hq1.rd hA).mono ?_
    rintro e w2 ⟨rfl, hq2⟩
    have hG2 := hG1.below hq2.bel hltG1
    replace hq2 := hq1.step hq2.bel
    have hltG2 := hG2.lt
    clear hq1 hG1 hltG1
    go_wp2_with fail
    cases hB : isS E.c s (⟨#[91]⟩ : ByteArray) with
    | true =>
      have HE := Lib.hid (show (need (⟨#[93]⟩ : ByteArray) E.c (adv s)).bind (fun _ s1 => (F.typ E.c s1).bind fun t s2 => .ok (.mk 11 (⟨#[]⟩ : ByteArray) [t] (posS E.c s)) s2) = res by rw [← HRES.out, typR]; simp only [hA, hB, Bool.false_eq_true, if_false, if_true])
      refine (takes_yes E s _ w2 hq2.rd hB).mono ?_
      rintro e w3 ⟨rfl, hm3⟩
      have hG3 := hG2.grown hm3.gr (fun e => by injection e with e; omega)
      have hM3 := hq2.moved.trans hm3
      have hs3 := hm3.gr.size
      clear HRES hA hB
      go_wp2_with fail
      cases hD : isS E.c (adv s) (⟨#[93]⟩ : ByteArray) with
      | false =>
        refine (need_no E (adv s) _ _ hM3.rd hD).mono ?_
        rintro e w4 ⟨rfl, hb4⟩
        unfold wrongV
        exact ⟨rfl, end_fail (by rw [← HE.out, need]; simp [hD]) hM3.gr (grownBy_of_below _ hb4)⟩
      | true =>
        have HE2 := Lib.hid (show (F.typ E.c (adv (adv s))).bind (fun t s2 => .ok (.mk 11 (⟨#[]⟩ : ByteArray) [t] (posS E.c s)) s2) = res by rw [← HE.out, need]; simp only [hD, if_true, Res.bind_ok])
        refine (need_yes E (adv s) _ _ hM3.rd hD).mono ?_
        rintro e w4 ⟨rfl, hm4⟩
        have hG4 := hG3.grown hm4.gr (fun e => by injection e with e; omega)
        have hM4 := hM3.trans hm4
        have hs4 := hm4.gr.size
        clear hD HE hM3
        go_wp2_with fail
        cases hP : F.typ E.c (adv (adv s)) with
        | out => exact absurd HE2.out.symm (by rw [hP]; exact HNE.out)
        | fail p =>
          refine (hF.typ w4 _ hm4.rd (by rw [hP]; exact nofun)).mono ?_
          rw [hP]
          rintro e w5 ⟨rfl, hg5⟩
          unfold wrongV
          exact ⟨rfl, end_fail (by rw [← HE2.out, hP]; rfl) hM4.gr hg5⟩
        | ok n s2 =>
          have HF := Lib.hid (show res = .ok (.mk 11 (⟨#[]⟩ : ByteArray) [n] (posS E.c s)) s2 by rw [← HE2.out, hP]; rfl)
          refine (hF.typ w4 _ hm4.rd (by rw [hP]; exact nofun)).mono ?_
          rw [hP]
          rintro e w5 ⟨⟨v, rfl, hv⟩, hm5⟩
          obtain ⟨A, cp, rfl, hC⟩ := hv.toC
          have hG5 := hG4.grown hm5.gr (fun e => by injection e with e; omega)
          have hM5 := hM4.trans hm5
          have hs5 := hm5.gr.size
          have hltG5 := hG5.lt
          clear hP HE2 hm4 hm3 hM4
          go_wp2_with fail
          refine (node_any _ _ _ _ _ ⟨_, _, _, rfl⟩).mono ?_
          rintro e w6 ⟨rfl, hb6⟩
          have hV := NodeV.make 1 rfl (NodesC.one hC) 11 (⟨#[]⟩ : ByteArray) (posS E.c s) hb6
          have hG6 := (hG5.alloc _).below hb6 (by simp; omega)
          have hM6 := (hM5.alloc _).step hb6
          obtain ⟨d0, d1, d2, d3, e0, e1, e2, e3⟩ := blk4 hG6
          clear hb6
          go_wp2_with fail
          refine end_node HF.out hV hM6 hG6 (Nat.le_refl _) hltR ?_ rfl (by rfl) rfl
          rintro b (⟨hb, _⟩ | rfl) <;> constructor <;> omega
    | false =>
      refine (takes_no E s _ w2 hq2.rd hB).mono ?_
      rintro e w3 ⟨rfl, hq3⟩
      have hG3 := hG2.below hq3.bel hltG2
      replace hq3 := hq2.step hq3.bel
      have hltG3 := hG3.lt
      clear hq2 hG2 hltG2
      go_wp2_with fail
      cases hK : isS E.c s (⟨#[102, 117, 110, 99]⟩ : ByteArray) with
      | true =>
        have HE := Lib.hid (show funcTypeR F (posS E.c s) E.c (adv s) = res by rw [← HRES.out, typR]; simp only [hA, hB, hK, Bool.false_eq_true, if_false, if_true])
        refine (takes_yes E s _ w3 hq3.rd hK).mono ?_
        rintro e w4 ⟨rfl, hm4⟩
        have hG4 := hG3.grown hm4.gr (fun e => by injection e with e; omega)
        have hM4 := hq3.moved.trans hm4
        have hs4 := hm4.gr.size
        clear HRES hA hB hK
        go_wp2_with fail
        refine (funcType_any E F hF _ w4 (adv s) hm4.rd (by rw [show funcTypeR F (tokAt E.c s.at_).pos E.c (adv s) = res from HE.out]; exact HNE.out)).mono ?_
        rw [show funcTypeR F (tokAt E.c s.at_).pos E.c (adv s) = res from HE.out]
        cases hres : res with
        | out => exact absurd hres HNE.out
        | fail p =>
          rintro e w5 ⟨rfl, hg5⟩
          unfold wrongV
          exact ⟨rfl, end_fail rfl hM4.gr hg5⟩
        | ok n s2 =>
          rintro e w5 ⟨⟨v, rfl, hv⟩, hm5⟩
          obtain ⟨A, cp, rfl, hC⟩ := hv.toC
          have hG5 := hG4.grown hm5.gr (fun e => by injection e with e; omega)
          obtain ⟨d0, d1, d2, d3, e0, e1, e2, e3⟩ := blk4 hG5
          have HF := Lib.hid hres
          clear HE hres HNE
          go_wp2_with fail
          refine end_node HF.out hv (hM4.trans hm5) hG5 (Nat.le_refl _) hltR ?_ rfl (by rfl) rfl
          intro b hb
          constructor <;> omega
      | false =>
        refine (takes_no E s _ w3 hq3.rd hK).mono ?_
        rintro e w4 ⟨rfl, hq4⟩
        have hG4 := hG3.below hq4.bel hltG3
        replace hq4 := hq3.step hq4.bel
        have hltG4 := hG4.lt
        have HE := Lib.hid (show (nameR E.c s).bind (fun x s1 => if isS E.c s1 (⟨#[91]⟩ : ByteArray) && !sliceB E.c s1 then (rowGo F.typ (⟨#[93]⟩ : ByteArray) F.g [] E.c (adv s1)).bind fun l s2 => if l.length = 0 then .fail (posS E.c s2) else .ok (.mk 10 x l (posS E.c s)) s2 else .ok (.mk 10 x [] (posS E.c s)) s1) = res by
          rw [← HRES.out, typR]; simp only [hA, hB, hK, Bool.false_eq_true, if_false])
        clear hq3 hG3 hltG3 hA hB hK HRES
        go_wp2_with fail
        by_cases hN : (tokAt E.c s.at_).kind = 1
        case neg =>
          refine (name_no E s w4 hq4.rd hN).mono ?_
          rintro e w5 ⟨rfl, hb5⟩
          unfold wrongV
          exact ⟨rfl, end_fail (by rw [← HE.out, nameR, if_neg hN]; rfl) hq4.moved.gr (grownBy_of_below _ hb5)⟩
        have HE2 := Lib.hid (show (if isS E.c (adv s) (⟨#[91]⟩ : ByteArray) && !sliceB E.c (adv s) then (rowGo F.typ (⟨#[93]⟩ : ByteArray) F.g [] E.c (adv (adv s))).bind fun l s2 => if l.length = 0 then .fail (posS E.c s2) else .ok (.mk 10 (tokAt E.c s.at_).text l (posS E.c s)) s2 else .ok (.mk 10 (tokAt E.c s.at_).text [] (posS E.c s)) (adv s)) = res by
          rw [← HE.out, nameR, if_pos hN]; rfl)
        refine (name_yes E s w4 hq4.rd hN).mono ?_
        rintro e w5 ⟨rfl, hm5⟩
        have hG5 := hG4.grown hm5.gr (fun e => by injection e with e; omega)
        have hM5 := hq4.moved.trans hm5
        have hs5 := hm5.gr.size
        clear HE hN hm5 hq4 hG4
        generalize (tokAt E.c s.at_).text = tx at *
        go_wp2_with fail
        refine (node_any _ _ _ _ _ ⟨_, _, _, rfl⟩).mono ?_
        rintro e w6 ⟨rfl, hb6⟩
        have hG6 := hG5.below hb6 (by omega)
        have hM6 := hM5.step hb6
        have hs6 := hb6.size
        clear hb6 hG5 hM5
        go_wp2_with fail
        have hL7 := Blk.new w6 24 #[.int .i64 10, .string tx, .slice none 0 0, .int .i64 (posS E.c s)]
        have hG7 := hG6.alloc (.cells #[.int .i64 10, .string tx, .slice none 0 0, .int .i64 (posS E.c s)] 24)
        have hM7 := hM6.alloc (.cells #[.int .i64 10, .string tx, .slice none 0 0, .int .i64 (posS E.c s)] 24)
        refine (is_any E (adv s) _ _ hM7.rd).mono ?_
        rintro e w8 ⟨rfl, hb8⟩
        have hL8 := hL7.below hb8 (by simp)
        have hG8 := hG7.below hb8 (by simp; omega)
        have hM8 := hM7.step hb8
        have hs8 : w6.heap.size + 1 ≤ w8.heap.size := by have := hb8.size; simp at this; omega
        clear hL7 hG7 hM7 hb8
        cases hI : isS E.c (adv s) (⟨#[91]⟩ : ByteArray) with
        | false =>
          have HF := Lib.hid (show res = .ok (.mk 10 tx [] (posS E.c s)) (adv s) by rw [← HE2.out]; simp [hI])
          obtain ⟨x0, x1, x2, x3, _, _, _, _⟩ := blk4 hL8
          obtain ⟨d0, d1, d2, d3, e0, e1, e2, e3⟩ := blk4 hG8
          clear HE2
          go_wp2_with fail
          refine end_node (X := fun _ => False) HF.out (NodeV.leaf _ _ _) hM8 hG8 (Nat.le_refl _) hltR ?_ rfl (by rfl) rfl
          exact fun _ h => h.elim
        | true =>
          go_wp2_with fail
          refine (slice_any E (adv s) _ hM8.rd).mono ?_
          rintro e w9 ⟨rfl, hq9⟩
          have hL9 := hL8.below hq9.bel (by omega)
          have hG9 := hG8.below hq9.bel (by omega)
          have hM9 := hM8.trans hq9.moved
          have hs9 := hq9.bel.size
          clear hL8 hG8 hM8 hq9
          cases hJ : sliceB E.c (adv s) with
          | true =>
            have HF := Lib.hid (show res = .ok (.mk 10 tx [] (posS E.c s)) (adv s) by rw [← HE2.out]; simp [hI, hJ])
            obtain ⟨x0, x1, x2, x3, _, _, _, _⟩ := blk4 hL9
            obtain ⟨d0, d1, d2, d3, e0, e1, e2, e3⟩ := blk4 hG9
            clear HE2
            go_wp2_with fail
            refine end_node (X := fun _ => False) HF.out (NodeV.leaf _ _ _) hM9 hG9 (Nat.le_refl _) hltR ?_ rfl (by rfl) rfl
            exact fun _ h => h.elim
          | false =>
            have HE3 := Lib.hid (show (rowGo F.typ (⟨#[93]⟩ : ByteArray) F.g [] E.c (adv (adv s))).bind (fun l s2 => if l.length = 0 then .fail (posS E.c s2) else .ok (.mk 10 tx l (posS E.c s)) s2) = res by rw [← HE2.out]; simp [hI, hJ])
            have hlt1 := isS_lt hM9.rd hI
            obtain ⟨c0, c1, c2, c3, c4, f0⟩ := hM9.rd.cells
            have f1 := f0 1
            have hltR9 := hM9.rd.lt
            clear HE2 hI hJ f0
            go_wp2_with fail
            have hM10 := hM9.setAt ((adv s).at_ + 1) (by omega)
            have hL10 := hL9.far (p := ⟨E.R, 1, none⟩) (by show w6.heap.size ≠ E.R; omega) (.int .i64 (((adv s).at_ + 1 : Nat) : Int))
            have hG10 := hG9.far (p := ⟨E.R, 1, none⟩) (by show w.heap.size ≠ E.R; omega) (.int .i64 (((adv s).at_ + 1 : Nat) : Int))
            have hs10 : w9.heap.size ≤ (w9.setCell ⟨E.R, 1, none⟩ (.int .i64 (((adv s).at_ + 1 : Nat) : Int))).heap.size := by simp
            clear hL9 hG9 hM9 c0 c1 c2 c3 c4 f1
            cases hP : rowGo F.typ (⟨#[93]⟩ : ByteArray) F.g [] E.c (adv (adv s)) with
            | out => exact absurd HE3.out.symm (by rw [hP]; exact HNE.out)
            | fail q =>
              refine (row_any E 150 #[.pointer (some ⟨E.R, 0, none⟩)] #[] F.typ (⟨#[93]⟩ : ByteArray) F.g (adv (adv s)) _ hM10.rd enter_typ (hF.typ.part _) (by rw [hP]; exact nofun) hF.g).mono ?_
              rw [hP]
              rintro e w11 ⟨rfl, hg11⟩
              unfold wrongV
              exact ⟨rfl, end_fail (by rw [← HE3.out, hP]; rfl) hM10.gr hg11⟩
            | ok l s2 =>
              have HE4 := Lib.hid (show (if l.length = 0 then .fail (posS E.c s2) else .ok (.mk 10 tx l (posS E.c s)) s2) = res by rw [← HE3.out, hP]; rfl)
              refine (row_any E 150 #[.pointer (some ⟨E.R, 0, none⟩)] #[] F.typ (⟨#[93]⟩ : ByteArray) F.g (adv (adv s)) _ hM10.rd enter_typ (hF.typ.part _) (by rw [hP]; exact nofun) hF.g).mono ?_
              rw [hP]
              rintro e w11 ⟨⟨v, rfl, hv⟩, hm11⟩
              have hL11 := hL10.grown hm11.gr (fun e => by injection e with e; omega)
              have hG11 := hG10.grown hm11.gr (fun e => by injection e with e; omega)
              have hM11 := hM10.trans hm11
              have hs11 := hm11.gr.size
              have hvk := hv.mono (Y := fun b => w6.heap.size + 1 ≤ b) (fun b hb _ => by omega)
              obtain ⟨A, cp, xs, rfl, _, _, _⟩ := hv
              obtain ⟨x0, x1, x2, x3, y0, y1, y2, y3⟩ := blk4 hL11
              have hltL := hL11.lt
              clear HE3 hP hL10 hG10 hM10 hm11
              by_cases hz : l.length = 0
              · have HF := Lib.hid (show res = .fail (posS E.c s2) by rw [← HE4.out, if_pos hz])
                have hzz : ((l.length : Int) == 0) = true := by rw [hz]; rfl
                clear HE4 hz
                go_wp2_with fail
                have hM12 := hM11.own (p := ⟨w6.heap.size, 2, none⟩) (by show w.heap.size ≤ w6.heap.size; omega) (by show E.R < w6.heap.size; omega) (.slice A l.length cp)
                refine (fail_any E s2 _ hM12.rd).mono ?_
                rintro e w13 ⟨rfl, hb13⟩
                unfold wrongV
                exact ⟨rfl, end_fail HF.out hM12.gr (grownBy_of_below _ hb13)⟩
              · have HF := Lib.hid (show res = .ok (.mk 10 tx l (posS E.c s)) s2 by rw [← HE4.out, if_neg hz])
                have hzz : ((l.length : Int) == 0) = false := by rw [beq_eq_false_iff_ne]; omega
                obtain ⟨d0, d1, d2, d3, e0, e1, e2, e3⟩ := blk4 hG11
                have hneG : w.heap.size ≠ w6.heap.size := by omega
                clear HE4 hz
                go_wp2_with fail
                have hM12 := hM11.own (p := ⟨w6.heap.size, 2, none⟩) (by show w.heap.size ≤ w6.heap.size; omega) (by show E.R < w6.heap.size; omega) (.slice A l.length cp)
                refine end_node (X := fun b => w6.heap.size + 1 ≤ b) HF.out ?_ hM12 (hG11.far (p := ⟨w6.heap.size, 2, none⟩) (by show w.heap.size ≠ w6.heap.size; omega) (.slice A l.length cp)) (Nat.le_refl _) hltR ?_ rfl (by rfl) rfl
                · exact (NodeV.of_slice hvk 10 tx (posS E.c s)).kept ((KeepsX.refl _ _).setCell (fun hX => by simp at hX; omega) _)
                · intro b hb
                  constructor <;> omega
end Go.Proofs.YtnalfjaojcahhaaGreatDoor
