/-
  tree's questions on parameters of types. By an AI agent.
  tree's questions on variables and declarations. By an AI agent.
  A row of nodes without its first; the question on a part in [ ]. By an AI agent.
-/
import Derived.Test.YtnalfjaojcahhaaGreatDoorJ22
import Derived.Laws.Slices
namespace Go.Proofs.YtnalfjaojcahhaaGreatDoor
open Go.RowKit Go.Lib Go.Proofs
attribute [local go_sem ↓] Go.wp_at_zero Go.wp_at_succ

theorem ent_named1 (a : Array Value) (w : World) : (callFunc 162 a).run Tryz.prog w = .ok (.enter 162 a) w := by kernel_rfl

set_option maxHeartbeats 2000000 in
theorem named1_T (g : Nat) (F : TFns) (hF : OkT g F) : AskC g (named1T F) 162 := by
  intro w v n hT hv hd
  have hV0 := hv
  obtain ⟨A, cp, rfl, hC⟩ := hv.toC
  have hB := (Below.refl w.heap.size w).alloc (Nat.le_refl _) (.cells #[.int .i64 n.kind, .string n.text, .slice A n.kids.length cp, .int .i64 n.pos] 24)
  have HI := Lib.hid (hF.typ _ _ n (hT.below hB) (hV0.below hB) hd)
  have hE : named1T F n = (n.kind == 10 && F.typ n) := by unfold named1T; rw [beq_dec]
  rw [hE]
  clear hE hV0 hv hC hT hF hd
  generalize F.typ n = q at *
  generalize n.kind = k at *
  cases h1 : (k == 10)
  all_goals
    go_enter Tryz.func162, Tryz.ntmps162
    go_wp2_with fail
    try
      rw [beq_iff_eq] at h1
      subst h1
      refine HI.out.mono ?_
      rintro e w1 ⟨rfl, hb1⟩
      replace hB := hB.trans (hb1.mono hB.size)
      clear hb1
      go_wp2_with fail
    go_ret
    exact ⟨rfl, hB⟩

theorem cells5 {w : World} {g b : Nat} {t u : TypeId} {a0 a1 a2 a3 x : Value} (h : Blk w g t #[a0, a1, a2, a3]) (h' : Blk w b u #[x]) :
    w.cell? ⟨g, 0, none⟩ = some a0 ∧ w.cell? ⟨g, 1, none⟩ = some a1 ∧ w.cell? ⟨g, 2, none⟩ = some a2 ∧ w.cell? ⟨g, 3, none⟩ = some a3 ∧ w.cell? ⟨b, 0, none⟩ = some x := by
  obtain ⟨x0, x1, x2, x3⟩ := four h
  exact ⟨x0, x1, x2, x3, blk1 h'⟩

set_option maxHeartbeats 4000000 in
theorem tparam_so (g : Nat) (F : TFns) (hF : OkT g F) (b : Nat) (w0 : World) (hT : Tab w0) (hb : Blk w0 b 33 #[.func (.func 162) #[] #[]]) :
    SoC g (tparamT F) ⟨164, #[.pointer (some ⟨b, 0, none⟩)]⟩ w0 := by
  refine ⟨fun a w => by kernel_rfl, fun w v n hw hv hd => ?_⟩
  cases g with
  | zero => exact hd.elim
  | succ d =>
    have hV0 := hv
    obtain ⟨A, cp, rfl, hC⟩ := hv.toC
    have hB := (Below.refl w.heap.size w).alloc (Nat.le_refl _) (.cells #[.int .i64 n.kind, .string n.text, .slice A n.kids.length cp, .int .i64 n.pos] 24)
    have hw1 := hw.alloc hw.size (.cells #[.int .i64 n.kind, .string n.text, .slice A n.kids.length cp, .int .i64 n.pos] 24)
    have c0 : Blk (w.alloc (.cells #[.int .i64 n.kind, .string n.text, .slice A n.kids.length cp, .int .i64 n.pos] 24)) w.heap.size 24 #[.int .i64 n.kind, .string n.text, .slice A n.kids.length cp, .int .i64 n.pos] := Blk.new w _ _
    have cb := hb.below hw1 hb.lt
    have HV := Lib.hid (hV0.below hB)
    have HT := Lib.hid (hT.below hw1)
    have HF := Lib.hid hF.pred
    have HD := Lib.hid hd
    have hlb := hb.lt
    have hws := hw.size
    show Calls _ _ _ w fun e w' => e = .returned (.bool (ofT 7 [orT (named1T F) (interT F)] (namedT nameT n))) ∧ _
    clear hV0 hv hC hb hT hF hd hw1
    go_enter Tryz.func164, Tryz.ntmps164
    go_wp2_with fail
    generalize w.alloc (.cells #[.int .i64 n.kind, .string n.text, .slice A n.kids.length cp, .int .i64 n.pos] 24) = W at *
    have hdr : Below W.heap.size W W.drew := (Below.refl _ _).drew
    have hl0 := c0.lt
    have hl1 := cb.lt
    have hB1 := hB.trans (hdr.mono hB.size)
    have HVD := Lib.hid (HV.out.below hdr)
    have HTD := Lib.hid (HT.out.below hdr)
    have C0 := Lib.hid c0.drew
    have CB := Lib.hid cb.drew
    clear c0 cb HV HT hB
    go_region_held3 (fun w' => w'.cell? ⟨w.heap.size, 0, none⟩ = some (.int .i64 n.kind) ∧ w'.cell? ⟨w.heap.size, 1, none⟩ = some (.string n.text) ∧ w'.cell? ⟨w.heap.size, 2, none⟩ = some (.slice A n.kids.length cp) ∧ w'.cell? ⟨w.heap.size, 3, none⟩ = some (.int .i64 n.pos) ∧ w'.cell? ⟨b, 0, none⟩ = some (.func (.func 162) #[] #[]))
      (first | with_reducible exact cells5 q4 r4 | with_reducible exact cells5 (q3.alloc _) (r3.alloc _) | with_reducible exact cells5 q3 r3 | with_reducible exact cells5 q2 r2 | with_reducible exact cells5 C0.out CB.out)
      (first
        | (go_at_call 104; refine (named_any _ _ n HVD.out ⟨70, #[]⟩ nameT (name_so _) HD.out.txt).mono ?_; rintro e w2 ⟨v1, rfl, hv1, hb2⟩; have q2 := C0.out.below hb2 hl0; have r2 := CB.out.below hb2 hl1; have HT2 := Lib.hid (HTD.out.below hb2))
        | (go_at_call 107; refine (or_any d (named1T F) (interT F) ⟨162, #[]⟩ ⟨109, #[]⟩ _ ((named1_T d F HF.out).so ent_named1 _ HT2.out) (((inter_T d F HF.out).le fun _ => DLe.succ).so ent_inter _ HT2.out)).mono ?_; rintro e w3 ⟨h, rfl, hso, hb3⟩; have q3 := q2.below hb3 q2.lt; have r3 := r2.below hb3 r2.lt)
        | (go_at_call 103; refine (tof_any d [(h, orT (named1T F) (interT F))] 7 v1 (namedT nameT n) _ _ 1 rfl (by omega) ((hv1.below hb3).below ((Below.refl _ w3).alloc (Nat.le_refl _) _)) HD.out.named (FvsAt.new _ rfl (Blk.new w3 _ _)) (forall_1 (hso.below ((Below.refl _ w3).alloc (Nat.le_refl _) _)))).mono ?_; rintro e w4 ⟨rfl, hb4⟩; have q4 := (q3.alloc _).below hb4 (q3.alloc _).lt; have r4 := (r3.alloc _).below hb4 (r3.alloc _).lt))
    all_goals go_wp2_with fail
    all_goals go_ret
    all_goals
      have hB2 := hB1.trans (hb2.mono hB1.size)
      have hB3 := hB2.trans (hb3.mono hB2.size)
      exact ⟨rfl, (hB3.alloc hB3.size _).trans (hb4.mono (hB3.alloc hB3.size _).size)⟩

set_option maxHeartbeats 2000000 in
theorem params_any (g : Nat) (F : TFns) (hF : OkT g F) : AskC (g + 1) (paramsT F) 105 := by
  intro w v n hT hv hd
  have hV0 := hv
  obtain ⟨A, cp, rfl, hC⟩ := hv.toC
  have hB := ((Below.refl w.heap.size w).alloc (Nat.le_refl _) (.cells #[.int .i64 n.kind, .string n.text, .slice A n.kids.length cp, .int .i64 n.pos] 24)).alloc (by simp) (.cells #[.func (.func 162) #[] #[]] 33)
  have b1 : Blk ((w.alloc (.cells #[.int .i64 n.kind, .string n.text, .slice A n.kids.length cp, .int .i64 n.pos] 24)).alloc (.cells #[.func (.func 162) #[] #[]] 33)) (w.heap.size + 1) 33 #[.func (.func 162) #[] #[]] := Blk.new_at (by simp) _ _
  have HI := Lib.hid (list_any g (tparamT F) ⟨164, #[.pointer (some ⟨w.heap.size + 1, 0, none⟩)]⟩ _ n _ (hV0.below hB) hd (tparam_so g F hF _ _ (hT.below hB) b1))
  show Calls _ _ _ w fun e w' => e = .returned (.bool (listT (tparamT F) n)) ∧ _
  clear hV0 hv hC b1 hT hF hd
  go_enter Tryz.func105, Tryz.ntmps105
  go_wp2_with fail
  refine HI.out.mono ?_
  rintro e w1 ⟨rfl, hb1⟩
  have hB1 := hB.trans (hb1.mono hB.size)
  clear hb1
  go_wp2_with fail
  go_ret
  exact ⟨rfl, hB1⟩
end Go.Proofs.YtnalfjaojcahhaaGreatDoor
namespace Go.Proofs.YtnalfjaojcahhaaGreatDoor
open Go.RowKit Go.Lib Go.Proofs
attribute [local go_sem ↓] Go.wp_at_zero Go.wp_at_succ

theorem ent_var (a : Array Value) (w : World) : (callFunc 110 a).run Tryz.prog w = .ok (.enter 110 a) w := by kernel_rfl
theorem ofT_len {k : Int} {l : List (Nd → Bool)} {so : ByteArray → Bool} {n : Nd} (hl : l.length ≠ 0) (h : ofT k l (namedT so n) = true) : n.kids.length = l.length := by
  unfold ofT at h
  simp only [Bool.and_eq_true] at h
  have h3 := h.2.2
  rcases Decidable.em (l.length = (namedT so n).kids.length) with e | e
  · unfold namedT at e
    split at e
    · exact e.symm
    · exact absurd e hl
  · rw [askAll_len _ _ e] at h3
    cases h3

set_option maxHeartbeats 4000000 in
theorem var_any (g : Nat) (F : TFns) (hF : OkT g F) : AskC (g + 1) (varT F) 110 := by
  intro w v n hT hv hd
  have hV0 := hv
  obtain ⟨A, cp, rfl, hC⟩ := hv.toC
  have hB := (Below.refl w.heap.size w).alloc (Nat.le_refl _) (.cells #[.int .i64 n.kind, .string n.text, .slice A n.kids.length cp, .int .i64 n.pos] 24)
  have b1 : Blk (w.alloc (.cells #[.int .i64 n.kind, .string n.text, .slice A n.kids.length cp, .int .i64 n.pos] 24)) w.heap.size 24 #[.int .i64 n.kind, .string n.text, .slice A n.kids.length cp, .int .i64 n.pos] := Blk.new w _ _
  have HV := Lib.hid (hV0.below hB)
  have HV0 := Lib.hid hV0
  have HT := Lib.hid (hT.below hB)
  have HF := Lib.hid hF
  have HD := Lib.hid hd
  clear hV0 hv hC hT hF hd
  have hc0 := Below.refl (w.alloc (.cells #[.int .i64 n.kind, .string n.text, .slice A n.kids.length cp, .int .i64 n.pos] 24)).heap.size (w.alloc (.cells #[.int .i64 n.kind, .string n.text, .slice A n.kids.length cp, .int .i64 n.pos] 24))
  have hE : varT F n = (ofT 5 [orT emptyT F.typ, orT emptyT F.expr] (namedT nameT n) && (!(emptyT (n.kids.getD 0 nd0)) || !(emptyT (n.kids.getD 1 nd0)))) := rfl
  rw [hE]
  clear hE
  go_enter Tryz.func110, Tryz.ntmps110
  go_wp2_with fail
  refine (named_any _ _ n HV.out ⟨70, #[]⟩ nameT (name_so _) HD.out.txt).mono ?_
  rintro e w1 ⟨v1, rfl, hv1, hb1⟩
  have hB1 := hB.trans (hb1.mono hB.size)
  have HT1 := Lib.hid (Tab.below HT.out hb1)
  have hc1 := hc0.trans (hb1.mono hc0.size)
  have HV1 := Lib.hid hv1
  clear hb1 hv1
  go_wp2_with fail
  refine (or_any g emptyT F.typ ⟨123, #[]⟩ ⟨73, #[]⟩ _ (empty_so g _) (HF.out.typ.so ent_type _ HT1.out)).mono ?_
  rintro e w2 ⟨h1, rfl, soh1, hb2⟩
  have hB2 := hB1.trans (hb2.mono hB1.size)
  have HT2 := Lib.hid (Tab.below HT1.out hb2)
  have hc2 := hc1.trans (hb2.mono hc1.size)
  have hv2 := Lib.hid (HV1.out.below hb2)
  have SOh1 := Lib.hid soh1
  clear hb2 soh1
  go_wp2_with fail
  refine (or_any g emptyT F.expr ⟨123, #[]⟩ ⟨74, #[]⟩ _ (empty_so g _) (HF.out.expr.so ent_expr _ HT2.out)).mono ?_
  rintro e w3 ⟨h2, rfl, soh2, hb3⟩
  have hB3 := hB2.trans (hb3.mono hB2.size)
  have HT3 := Lib.hid (Tab.below HT2.out hb3)
  have sh13 := Lib.hid (SOh1.out.below hb3)
  have hc3 := hc2.trans (hb3.mono hc2.size)
  have hv3 := Lib.hid (hv2.out.below hb3)
  have SOh2 := Lib.hid soh2
  clear hb3 soh2
  go_wp2_with fail
  have hn4 := (Below.refl w3.heap.size w3).alloc (Nat.le_refl _) (.cells #[.func (.func h1.k) #[] h1.cap, .func (.func h2.k) #[] h2.cap] 33)
  have hBn4 := hB3.trans (hn4.mono hB3.size)
  refine (tof_any g [(h1, (orT emptyT F.typ)), (h2, (orT emptyT F.expr))] 5 v1 (namedT nameT n) _ _ 2 rfl (by omega) (hv3.out.below hn4) HD.out.named (FvsAt.new _ rfl (Blk.new w3 _ _)) (forall_2 (sh13.out.below hn4) (SOh2.out.below hn4))).mono ?_
  rintro e w4 ⟨rfl, hb4⟩
  have hB4 := hBn4.trans (hb4.mono hBn4.size)
  have HT4 := Lib.hid (Tab.below (Tab.below HT3.out hn4) hb4)
  have hcn4 := hc3.trans (hn4.mono hc3.size)
  have hc4 := hcn4.trans (hb4.mono hcn4.size)
  clear hn4 hBn4
  clear hb4
  cases hq : ofT 5 [orT emptyT F.typ, orT emptyT F.expr] (namedT nameT n) with
  | false =>
    go_wp2_with fail
    go_ret
    exact ⟨by rw [hq]; rfl, hB4⟩
  | true =>
    have HQ := Lib.hid hq
    have hl := ofT_len (by simp) hq
    have HL := Lib.hid hl
    have hl0 : 0 < n.kids.length := by simp at hl; omega
    have hl1 : 1 < n.kids.length := by simp at hl; omega
    have hB1' := b1.below hc4 (by simp)
    obtain ⟨x0, x1, x2, x3, _, _, _, _⟩ := blk4 hB1'
    obtain ⟨-, b, off, A1, cp1, rfl, hbl, k0, k1, k2, k3, hn0⟩ := NodesW.at_ (NodeV.kidsV (HV.out.below hc4)) 0 hl0
    obtain ⟨_, b', off', A2, cp2, e2, hbl', j0, j1, j2, j3, hn1⟩ := NodesW.at_ (NodeV.kidsV (HV.out.below hc4)) 1 hl1
    injection e2 with e2
    injection e2 with e2 e3
    subst e2 e3
    have K0 := Lib.hid (show n.kids.getD 0 nd0 = n.kids[0] by simp [hl0])
    have K1 := Lib.hid (show n.kids.getD 1 nd0 = n.kids[1] by simp [hl1])
    simp only [Nat.zero_mul, Nat.add_zero, Nat.one_mul] at k0 k1 k2 k3 j0 j1 j2 j3
    generalize n.kids[0] = y0 at *
    generalize n.kids[1] = y1 at *
    have HE0 := Lib.hid (empty_any _ _ y0 hn0)
    have HN1 := Lib.hid hn1
    have hsz := hc4.size
    have hz0 : (0 : Int) < (n.kids.length : Int) := by omega
    have hz1 : (1 : Int) < (n.kids.length : Int) := by omega
    clear hn0 hn1 hl hq
    go_wp2_with fail
    refine HE0.out.mono ?_
    rintro e w9 ⟨rfl, hb9⟩
    have hB9 := hB4.trans (hb9.mono hB4.size)
    cases hq0 : emptyT y0 with
    | false =>
      clear hb9
      go_wp2_with fail
      go_ret
      exact ⟨by rw [HQ.out, K0.out, K1.out, hq0]; rfl, hB9⟩
    | true =>
      obtain ⟨x0', x1', x2', x3', _, _, _, _⟩ := blk4 (hB1'.below hb9 hB1'.lt)
      have j0' := (hb9.cell (p := ⟨b, off + 4, none⟩) hbl).trans j0
      have j1' := (hb9.cell (p := ⟨b, off + 4 + 1, none⟩) hbl).trans j1
      have j2' := (hb9.cell (p := ⟨b, off + 4 + 2, none⟩) hbl).trans j2
      have j3' := (hb9.cell (p := ⟨b, off + 4 + 3, none⟩) hbl).trans j3
      have HE1 := Lib.hid (empty_any _ _ y1 (HN1.out.below hb9))
      clear hb9 x0 x1 x2 x3 k0 k1 k2 k3 j0 j1 j2 j3 hB1'
      go_wp2_with fail
      refine HE1.out.mono ?_
      rintro e w10 ⟨rfl, hb10⟩
      have hB10 := hB9.trans (hb10.mono hB9.size)
      clear hb10
      go_wp2_with fail
      go_ret
      exact ⟨by rw [HQ.out, K0.out, K1.out, hq0]; rfl, hB10⟩

set_option maxHeartbeats 4000000 in
theorem decl_T (g : Nat) (F : TFns) (hF : OkT g F) : AskC (g + 1) (declT F) 72 := by
  intro w v n hT hv hd
  obtain ⟨nk, nt, nl, np⟩ := n
  have hV0 := hv
  obtain ⟨A, cp, rfl, hC⟩ := hv.toC
  simp only [Nd.kind_mk, Nd.text_mk, Nd.kids_mk, Nd.pos_mk] at hV0 ⊢
  have hB := (Below.refl w.heap.size w).alloc (Nat.le_refl _) (.cells #[.int .i64 nk, .string nt, .slice A nl.length cp, .int .i64 np] 24)
  have b1 : Blk (w.alloc (.cells #[.int .i64 nk, .string nt, .slice A nl.length cp, .int .i64 np] 24)) w.heap.size 24 #[.int .i64 nk, .string nt, .slice A nl.length cp, .int .i64 np] := Blk.new w _ _
  have HV := Lib.hid (hV0.below hB)
  have HV0 := Lib.hid hV0
  have HT := Lib.hid (hT.below hB)
  have HF := Lib.hid hF
  have HD := Lib.hid hd
  clear hV0 hv hC hT hF hd
  by_cases hk2 : nk = 2
  · subst hk2
    have HE := Lib.hid (show declT F (Nd.mk 2 nt nl np) = ofT 2 [paramsT F, isSigT F, F.block] (namedT nameT (Nd.mk 2 nt nl np)) from rfl)
    go_enter Tryz.func72, Tryz.ntmps72
    go_wp2_with fail
    refine (named_any _ _ (Nd.mk 2 nt nl np) HV.out ⟨70, #[]⟩ nameT (name_so _) HD.out.txt).mono ?_
    rintro e w1 ⟨v1, rfl, hv1, hb1⟩
    have hB1 := hB.trans (hb1.mono hB.size)
    have HT1 := Lib.hid (Tab.below HT.out hb1)
    have HV1 := Lib.hid hv1
    clear hb1 hv1
    go_wp2_with fail
    have hn2 := (Below.refl w1.heap.size w1).alloc (Nat.le_refl _) (.cells #[.func (.func 105) #[] #[], .func (.func 76) #[] #[], .func (.func 106) #[] #[]] 33)
    have hBn2 := hB1.trans (hn2.mono hB1.size)
    refine (tof_any g [(⟨105, #[]⟩, (paramsT F)), (⟨76, #[]⟩, (isSigT F)), (⟨106, #[]⟩, F.block)] 2 v1 (namedT nameT (Nd.mk 2 nt nl np)) _ _ 3 rfl (by omega) (HV1.out.below hn2) HD.out.named (FvsAt.new _ rfl (Blk.new w1 _ _)) (forall_3 (((params_any g F HF.out).le fun _ => DLe.succ).so ent_params _ (Tab.below HT1.out hn2)) (((isig_any g F HF.out).le fun _ => DLe.succ).so ent_isig _ (Tab.below HT1.out hn2)) (HF.out.block.so ent_block _ (Tab.below HT1.out hn2)))).mono ?_
    rintro e w2 ⟨rfl, hb2⟩
    have hB2 := hBn2.trans (hb2.mono hBn2.size)
    have HT2 := Lib.hid (Tab.below (Tab.below HT1.out hn2) hb2)
    clear hn2 hBn2
    clear hb2
    go_wp2_with fail
    go_ret
    exact ⟨by rw [HE.out]; rfl, hB2⟩
  by_cases hk3 : nk = 3
  · subst hk3
    clear hk2
    have HE := Lib.hid (show declT F (Nd.mk 3 nt nl np) = ofT 3 [paramsT F, orT (orT F.typ (structT F)) (interT F)] (namedT nameT (Nd.mk 3 nt nl np)) from rfl)
    go_enter Tryz.func72, Tryz.ntmps72
    go_wp2_with fail
    refine (named_any _ _ (Nd.mk 3 nt nl np) HV.out ⟨70, #[]⟩ nameT (name_so _) HD.out.txt).mono ?_
    rintro e w1 ⟨v1, rfl, hv1, hb1⟩
    have hB1 := hB.trans (hb1.mono hB.size)
    have HT1 := Lib.hid (Tab.below HT.out hb1)
    have HV1 := Lib.hid hv1
    clear hb1 hv1
    go_wp2_with fail
    refine (or_any g F.typ (structT F) ⟨73, #[]⟩ ⟨108, #[]⟩ _ (HF.out.typ.so ent_type _ HT1.out) (((struct_any g F HF.out).le fun _ => DLe.succ).so ent_struct _ HT1.out)).mono ?_
    rintro e w2 ⟨h1, rfl, soh1, hb2⟩
    have hB2 := hB1.trans (hb2.mono hB1.size)
    have HT2 := Lib.hid (Tab.below HT1.out hb2)
    have hv2 := Lib.hid (HV1.out.below hb2)
    have SOh1 := Lib.hid soh1
    clear hb2 soh1
    go_wp2_with fail
    refine (or_any g (orT F.typ (structT F)) (interT F) h1 ⟨109, #[]⟩ _ (SOh1.out) (((inter_T g F HF.out).le fun _ => DLe.succ).so ent_inter _ HT2.out)).mono ?_
    rintro e w3 ⟨h2, rfl, soh2, hb3⟩
    have hB3 := hB2.trans (hb3.mono hB2.size)
    have HT3 := Lib.hid (Tab.below HT2.out hb3)
    have sh13 := Lib.hid (SOh1.out.below hb3)
    have hv3 := Lib.hid (hv2.out.below hb3)
    have SOh2 := Lib.hid soh2
    clear hb3 soh2
    go_wp2_with fail
    have hn4 := (Below.refl w3.heap.size w3).alloc (Nat.le_refl _) (.cells #[.func (.func 105) #[] #[], .func (.func h2.k) #[] h2.cap] 33)
    have hBn4 := hB3.trans (hn4.mono hB3.size)
    refine (tof_any g [(⟨105, #[]⟩, (paramsT F)), (h2, (orT (orT F.typ (structT F)) (interT F)))] 3 v1 (namedT nameT (Nd.mk 3 nt nl np)) _ _ 2 rfl (by omega) (hv3.out.below hn4) HD.out.named (FvsAt.new _ rfl (Blk.new w3 _ _)) (forall_2 (((params_any g F HF.out).le fun _ => DLe.succ).so ent_params _ (Tab.below HT3.out hn4)) (SOh2.out.below hn4))).mono ?_
    rintro e w4 ⟨rfl, hb4⟩
    have hB4 := hBn4.trans (hb4.mono hBn4.size)
    have HT4 := Lib.hid (Tab.below (Tab.below HT3.out hn4) hb4)
    clear hn4 hBn4
    clear hb4
    go_wp2_with fail
    go_ret
    exact ⟨by rw [HE.out]; rfl, hB4⟩
  by_cases hk4 : nk = 4
  · subst hk4
    clear hk2 hk3
    have HE := Lib.hid (show declT F (Nd.mk 4 nt nl np) = ofT 4 [paramsT F, F.typ] (namedT nameT (Nd.mk 4 nt nl np)) from rfl)
    go_enter Tryz.func72, Tryz.ntmps72
    go_wp2_with fail
    refine (named_any _ _ (Nd.mk 4 nt nl np) HV.out ⟨70, #[]⟩ nameT (name_so _) HD.out.txt).mono ?_
    rintro e w1 ⟨v1, rfl, hv1, hb1⟩
    have hB1 := hB.trans (hb1.mono hB.size)
    have HT1 := Lib.hid (Tab.below HT.out hb1)
    have HV1 := Lib.hid hv1
    clear hb1 hv1
    go_wp2_with fail
    have hn2 := (Below.refl w1.heap.size w1).alloc (Nat.le_refl _) (.cells #[.func (.func 105) #[] #[], .func (.func 73) #[] #[]] 33)
    have hBn2 := hB1.trans (hn2.mono hB1.size)
    refine (tof_any g [(⟨105, #[]⟩, (paramsT F)), (⟨73, #[]⟩, F.typ)] 4 v1 (namedT nameT (Nd.mk 4 nt nl np)) _ _ 2 rfl (by omega) (HV1.out.below hn2) HD.out.named (FvsAt.new _ rfl (Blk.new w1 _ _)) (forall_2 (((params_any g F HF.out).le fun _ => DLe.succ).so ent_params _ (Tab.below HT1.out hn2)) (HF.out.typ.so ent_type _ (Tab.below HT1.out hn2)))).mono ?_
    rintro e w2 ⟨rfl, hb2⟩
    have hB2 := hBn2.trans (hb2.mono hBn2.size)
    have HT2 := Lib.hid (Tab.below (Tab.below HT1.out hn2) hb2)
    clear hn2 hBn2
    clear hb2
    go_wp2_with fail
    go_ret
    exact ⟨by rw [HE.out]; rfl, hB2⟩
  have HE := Lib.hid (show declT F (Nd.mk nk nt nl np) = varT F (Nd.mk nk nt nl np) by unfold declT; simp only [Nd.kind_mk, hk2, hk3, hk4, if_false])
  have t2 : (nk == 2) = false := by simpa using hk2
  have t3 : (nk == 3) = false := by simpa using hk3
  have t4 : (nk == 4) = false := by simpa using hk4
  clear hk2 hk3 hk4
  go_enter Tryz.func72, Tryz.ntmps72
  go_wp2_with fail
  refine (var_any g F HF.out _ _ (Nd.mk nk nt nl np) HT.out HV.out HD.out).mono ?_
  rintro e w1 ⟨rfl, hb1⟩
  have hB1 := hB.trans (hb1.mono hB.size)
  clear hb1
  go_wp2_with fail
  go_ret
  exact ⟨by rw [HE.out]; rfl, hB1⟩

end Go.Proofs.YtnalfjaojcahhaaGreatDoor
namespace Go.Proofs.YtnalfjaojcahhaaGreatDoor
open Go.RowKit Go.Lib Go.Proofs
attribute [local go_sem ↓] Go.wp_at_zero Go.wp_at_succ

theorem elemNd : Tryz.prog.underlying 22 = some (.slice (Tryz.prog.elem 22)) := by kernel_rfl
theorem elemNdE : Tryz.prog.elem 22 = 24 := by kernel_rfl
theorem sizeNd (w : World) : (sizeOf (Tryz.prog.elem 22)).run Tryz.prog w = .ok 4 w := by rw [elemNdE]; exact Tryz.sizeOf24 w
theorem ReadsX.tail {X : Nat → Prop} {w : World} {A : Option Addr} {n c : Nat} {xs : List Value} (h : ReadsX X w 4 A n xs) (hn : 1 ≤ n) (hc : n ≤ c) : ReadsX X w 4 (if c = 1 then A else A.map (·.add 4)) (n - 1) (xs.drop 4) := by
  refine ⟨by rw [List.length_drop, h.1]; omega, fun hp => ?_⟩
  obtain ⟨b, off, rfl, hb, hcell⟩ := h.2 (by omega)
  rw [if_neg (by omega)]
  refine ⟨b, off + 4, by simp [Addr.add], hb, fun j u hu => ?_⟩
  rw [List.getElem?_drop] at hu
  have := hcell _ u hu
  rwa [← Nat.add_assoc] at this
theorem run_tail (A : Option Addr) (q c : Nat) (h1 : 1 ≤ q) (hq : q ≤ c) : ∃ A', (∀ W : World, (Instr.slice 22 (.slice A q c) (some (.int .i64 1)) none none).run Tryz.prog W = .ok (.slice A' (q - 1) (c - 1)) W) ∧
    ∀ (X : Nat → Prop) (w : World) (l : List Nd), NodesV X w (.slice A q c) l → NodesV X w (.slice A' (q - 1) (c - 1)) (l.drop 1) := by
  refine ⟨if c = 1 then A else A.map (·.add 4), fun W => ?_, fun X w l h => ?_⟩
  · rw [run_slice_l (P := Tryz.prog) W 22 A q c elemNd .i64 1 (by omega) (by omega), sizeNd]
    simp [Result.andThen, sliced]
  · obtain ⟨A1, c1, xs, e, h2, h3, h4⟩ := h
    injection e with e1 e2 e3
    subst e1 e2 e3
    refine ⟨_, c - 1, xs.drop 4, by rw [List.length_drop], by rw [List.length_drop]; omega, ?_, ?_⟩
    · rw [List.length_drop]; exact h3.tail h1 hq
    · have := (h4.split 1).2
      simpa using this

theorem ent_part (a : Array Value) (w : World) : (callFunc 117 a).run Tryz.prog w = .ok (.enter 117 a) w := by kernel_rfl
theorem bne_dec (a b : Int) : (a != b) = decide (a ≠ b) := by rw [Bool.eq_iff_iff]; simp

set_option maxHeartbeats 2000000 in
theorem part_T (g : Nat) (F : TFns) (hF : OkT g F) : AskC g (partT F) 117 := by
  intro w v n hT hv hd
  have hV0 := hv
  obtain ⟨A, cp, rfl, hC⟩ := hv.toC
  have hB := (Below.refl w.heap.size w).alloc (Nat.le_refl _) (.cells #[.int .i64 n.kind, .string n.text, .slice A n.kids.length cp, .int .i64 n.pos] 24)
  have b1 : Blk (w.alloc (.cells #[.int .i64 n.kind, .string n.text, .slice A n.kids.length cp, .int .i64 n.pos] 24)) w.heap.size 24 #[.int .i64 n.kind, .string n.text, .slice A n.kids.length cp, .int .i64 n.pos] := Blk.new w _ _
  have HI := Lib.hid (hF.expr _ _ n (hT.below hB) (hV0.below hB) hd)
  have HJ := Lib.hid (fun w' (hb : Below (w.alloc (.cells #[.int .i64 n.kind, .string n.text, .slice A n.kids.length cp, .int .i64 n.pos] 24)).heap.size (w.alloc (.cells #[.int .i64 n.kind, .string n.text, .slice A n.kids.length cp, .int .i64 n.pos] 24)) w') => hF.typ _ _ n ((hT.below hB).below hb) ((hV0.below hB).below hb) hd)
  have hE : partT F n = (F.expr n || ((n.kind != 10) && F.typ n)) := by unfold partT; rw [bne_dec]
  rw [hE]
  clear hE hV0 hv hC hT hF hd
  generalize hq1 : F.expr n = q1 at *
  generalize F.typ n = q2 at *
  clear hq1
  go_enter Tryz.func117, Tryz.ntmps117
  go_wp2_with fail
  refine HI.out.mono ?_
  rintro e w1 ⟨rfl, hb1⟩
  have hB1 := hB.trans (hb1.mono hB.size)
  cases q1 with
  | true =>
    clear hb1
    go_wp2_with fail
    go_ret
    exact ⟨rfl, hB1⟩
  | false =>
    obtain ⟨x0, x1, x2, x3, _, _, _, _⟩ := blk4 (b1.below hb1 (by simp))
    have HJ1 := Lib.hid (HJ.out w1 hb1)
    clear hb1 HJ HI b1
    cases h1 : (n.kind != 10) with
    | false =>
      go_wp2_with fail
      go_ret
      exact ⟨by rw [h1]; rfl, hB1⟩
    | true =>
      go_wp2_with fail
      refine HJ1.out.mono ?_
      rintro e w2 ⟨rfl, hb2⟩
      have hB2 := hB1.trans (hb2.mono hB1.size)
      clear hb2
      go_wp2_with fail
      go_ret
      exact ⟨by rw [h1]; rfl, hB2⟩
end Go.Proofs.YtnalfjaojcahhaaGreatDoor
