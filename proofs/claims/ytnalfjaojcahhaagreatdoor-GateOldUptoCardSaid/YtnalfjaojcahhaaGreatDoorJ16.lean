/-
  tree's questions on types: signature, isType. By an AI agent.
  tree's questions on constraints, structs, parameters, variables, declarations. By an AI agent.
  tree's questions on parameters of types. By an AI agent.
  tree's questions on variables and declarations. By an AI agent.
-/
import Derived.Test.YtnalfjaojcahhaaGreatDoorJ08
import Derived.Laws.EntriesVeiled
namespace Go.Proofs.YtnalfjaojcahhaaGreatDoor
open Go.RowKit Go.Lib Go.Proofs
attribute [local go_sem ↓] Go.wp_at_zero Go.wp_at_succ

/-- What is asked of nodes of less depth is answered. -/
structure OkT (g : Nat) (F : TFns) : Prop where
  typ : AskC g F.typ 73
  expr : AskC g F.expr 74
  block : AskC g F.block 106
  stmt : AskC g F.stmt 75
  ifS : AskC g F.ifS 122
theorem OkT.pred {d : Nat} {F : TFns} (h : OkT (d + 1) F) : OkT d F :=
  ⟨h.typ.le fun _ => DLe.succ, h.expr.le fun _ => DLe.succ, h.block.le fun _ => DLe.succ, h.stmt.le fun _ => DLe.succ, h.ifS.le fun _ => DLe.succ⟩
theorem ent_type (a : Array Value) (w : World) : (callFunc 73 a).run Tryz.prog w = .ok (.enter 73 a) w := by kernel_rfl
theorem ent_expr (a : Array Value) (w : World) : (callFunc 74 a).run Tryz.prog w = .ok (.enter 74 a) w := by kernel_rfl
theorem ent_block (a : Array Value) (w : World) : (callFunc 106 a).run Tryz.prog w = .ok (.enter 106 a) w := by kernel_rfl
theorem ent_stmt (a : Array Value) (w : World) : (callFunc 75 a).run Tryz.prog w = .ok (.enter 75 a) w := by kernel_rfl
theorem ent_if (a : Array Value) (w : World) : (callFunc 122 a).run Tryz.prog w = .ok (.enter 122 a) w := by kernel_rfl
theorem ent_empty (a : Array Value) (w : World) : (callFunc 123 a).run Tryz.prog w = .ok (.enter 123 a) w := by kernel_rfl
theorem empty_so (d : Nat) (w0 : World) : SoC d emptyT ⟨123, #[]⟩ w0 := ⟨ent_empty, fun w v n _ hv _ => empty_any w v n hv⟩

/-- A row of function values that the call has just laid. -/
theorem FvsAt.new {w : World} {b : Nat} (fs : List (Fv × (Nd → Bool))) {cs : Array Value} (hc : cs = (fs.map fun x => Value.func (.func x.1.k) #[] x.1.cap).toArray) (h : Blk w b 33 cs) : FvsAt w (some ⟨b, 0, none⟩) fs :=
  .inr ⟨b, rfl, by rw [← hc]; exact h⟩

set_option maxHeartbeats 2000000 in
theorem param_so (g : Nat) (F : TFns) (hF : OkT g F) (so : ByteArray → Bool) (f : Fv) (b : Nat) (w0 : World) (hT : Tab w0) (hs : SoS so f w0) (hb : Blk w0 b 42 #[.func (.func f.k) #[] f.cap]) :
    SoC g (paramT F so) ⟨169, #[.pointer (some ⟨b, 0, none⟩)]⟩ w0 := by
  refine ⟨fun a w => by kernel_rfl, fun w v n hw hv hd => ?_⟩
  cases g with
  | zero => exact hd.elim
  | succ d =>
    have hV0 := hv
    obtain ⟨A, cp, rfl, hC⟩ := hv.toC
    have hB := (Below.refl w.heap.size w).alloc (Nat.le_refl _) (.cells #[.int .i64 n.kind, .string n.text, .slice A n.kids.length cp, .int .i64 n.pos] 24)
    have hw1 := hw.alloc hw.size (.cells #[.int .i64 n.kind, .string n.text, .slice A n.kids.length cp, .int .i64 n.pos] 24)
    have ca := blk1 (hb.below hw1 hb.lt)
    have HN := Lib.hid (named_any _ _ n (hV0.below hB) f so (hs.below hw1) hd.txt)
    have HT := Lib.hid (hT.below hw1)
    have HF := Lib.hid hF
    have HD := Lib.hid hd
    have hlb := hb.lt
    have hws := hw.size
    show Calls _ _ _ w fun e w' => e = .returned (.bool (ofT 8 [F.typ] (namedT so n))) ∧ _
    clear hV0 hv hC hb hs hT hF hd
    go_enter Tryz.func169, Tryz.ntmps169
    go_wp2_with fail
    refine HN.out.mono ?_
    rintro e w1 ⟨v1, rfl, hv1, hb1⟩
    have HT1 := Lib.hid (HT.out.below hb1)
    have hB1 := hB.trans (hb1.mono hB.size)
    clear hb1 HN hB hw1 ca HT
    go_wp2_with fail
    have hb2 := (Below.refl w1.heap.size w1).alloc (Nat.le_refl _) (.cells #[.func (.func 73) #[] #[]] 33)
    have hB2 := hB1.trans (hb2.mono hB1.size)
    refine (tof_any d [(⟨73, #[]⟩, F.typ)] 8 v1 (namedT so n) _ _ 1 rfl (by omega) (hv1.below hb2) HD.out.named (FvsAt.new _ rfl (Blk.new w1 _ _)) (by
      intro x hx
      obtain rfl := List.mem_singleton.1 hx
      exact HF.out.pred.typ.so ent_type _ (HT1.out.below hb2))).mono ?_
    rintro e w2 ⟨rfl, hb3⟩
    have hB3 := hB2.trans (hb3.mono hB2.size)
    clear hb2 hb3 hB2
    go_wp2_with fail
    go_ret
    exact ⟨rfl, hB3⟩

set_option maxHeartbeats 2000000 in
theorem plist_so (g : Nat) (P : Nd → Bool) (f : Fv) (b : Nat) (w0 : World) (hs : SoC g P f w0) (hb : Blk w0 b 33 #[.func (.func f.k) #[] f.cap]) :
    SoC g (listT P) ⟨170, #[.pointer (some ⟨b, 0, none⟩)]⟩ w0 := by
  refine ⟨fun a w => by kernel_rfl, fun w v n hw hv hd => ?_⟩
  cases g with
  | zero => exact hd.elim
  | succ d =>
    have hV0 := hv
    obtain ⟨A, cp, rfl, hC⟩ := hv.toC
    have hB := (Below.refl w.heap.size w).alloc (Nat.le_refl _) (.cells #[.int .i64 n.kind, .string n.text, .slice A n.kids.length cp, .int .i64 n.pos] 24)
    have hw1 := hw.alloc hw.size (.cells #[.int .i64 n.kind, .string n.text, .slice A n.kids.length cp, .int .i64 n.pos] 24)
    have ca := blk1 (hb.below hw1 hb.lt)
    have HI := Lib.hid (list_any d P f _ n _ (hV0.below hB) hd ⟨hs.enter, fun w' v' n' h1 h2 h3 => hs.out w' v' n' (hw1.trans (h1.mono hw1.size)) h2 h3.succ⟩)
    have hlb := hb.lt
    have hws := hw.size
    clear hV0 hv hC hb hs hd
    go_enter Tryz.func170, Tryz.ntmps170
    go_wp2_with fail
    refine HI.out.mono ?_
    rintro e w1 ⟨rfl, hb1⟩
    have hB1 := hB.trans (hb1.mono hB.size)
    clear hb1 HI hB
    go_wp2_with fail
    go_ret
    exact ⟨rfl, hB1⟩

theorem four {w : World} {g : Nat} {t : TypeId} {a b c d : Value} (h : Blk w g t #[a, b, c, d]) : w.cell? ⟨g, 0, none⟩ = some a ∧ w.cell? ⟨g, 1, none⟩ = some b ∧ w.cell? ⟨g, 2, none⟩ = some c ∧ w.cell? ⟨g, 3, none⟩ = some d := by
  obtain ⟨x0, x1, x2, x3, _⟩ := blk4 h
  exact ⟨x0, x1, x2, x3⟩
theorem sig_both {d : Nat} {w : World} {f g : Fv} {P Q : Nd → Bool} (hf : SoC d P f w) (hg : SoC d Q g w) : ∀ x ∈ [(f, P), (g, Q)], SoC d x.2 x.1 w := by
  intro x hx
  rcases List.mem_cons.1 hx with rfl | hx
  · exact hf
  · obtain rfl := List.mem_singleton.1 hx
    exact hg

set_option maxHeartbeats 4000000 in
theorem sig_any (g : Nat) (F : TFns) (hF : OkT g F) (so : ByteArray → Bool) (f : Fv) (v : Value) (n : Nd) (w : World) (hT : Tab w) (hv : NodeW w v n) (hd : DLe (g + 1) n) (hs : SoS so f w) :
    Calls Tryz.prog 111 #[v, .func (.func f.k) #[] f.cap] w fun e w' => e = .returned (.bool (sigT F so n)) ∧ Below w.heap.size w w' := by
  have hV0 := hv
  obtain ⟨A, cp, rfl, hC⟩ := hv.toC
  have HV := Lib.hid hV0
  have HT := Lib.hid hT
  have HS := Lib.hid hs
  have HD := Lib.hid hd
  have HF := Lib.hid hF
  clear hV0 hv hC hT hs hd hF
  show Calls _ _ _ w fun e w' => e = .returned (.bool (ofT 12 [listT (paramT F so), orT emptyT F.typ] n)) ∧ _
  go_enter Tryz.func111, Tryz.ntmps111
  go_wp2_with fail
  have c0 : Blk (((w.alloc (.cells #[.int .i64 n.kind, .string n.text, .slice A n.kids.length cp, .int .i64 n.pos] 24)).alloc (.cells #[.func (.func f.k) #[] f.cap] 42)).alloc (.cells #[.func (.func 169) #[] #[.pointer (some ⟨w.heap.size + 1, 0, none⟩)]] 33)) w.heap.size 24 #[.int .i64 n.kind, .string n.text, .slice A n.kids.length cp, .int .i64 n.pos] := ((Blk.new w _ _).alloc _).alloc _
  have c1 : Blk (((w.alloc (.cells #[.int .i64 n.kind, .string n.text, .slice A n.kids.length cp, .int .i64 n.pos] 24)).alloc (.cells #[.func (.func f.k) #[] f.cap] 42)).alloc (.cells #[.func (.func 169) #[] #[.pointer (some ⟨w.heap.size + 1, 0, none⟩)]] 33)) (w.heap.size + 1) 42 #[.func (.func f.k) #[] f.cap] := (Blk.new_at (by simp) _ _).alloc _
  have c2 : Blk (((w.alloc (.cells #[.int .i64 n.kind, .string n.text, .slice A n.kids.length cp, .int .i64 n.pos] 24)).alloc (.cells #[.func (.func f.k) #[] f.cap] 42)).alloc (.cells #[.func (.func 169) #[] #[.pointer (some ⟨w.heap.size + 1, 0, none⟩)]] 33)) (w.heap.size + 1 + 1) 33 #[.func (.func 169) #[] #[.pointer (some ⟨w.heap.size + 1, 0, none⟩)]] := Blk.new_at (by simp) _ _
  have hB : Below w.heap.size w (((w.alloc (.cells #[.int .i64 n.kind, .string n.text, .slice A n.kids.length cp, .int .i64 n.pos] 24)).alloc (.cells #[.func (.func f.k) #[] f.cap] 42)).alloc (.cells #[.func (.func 169) #[] #[.pointer (some ⟨w.heap.size + 1, 0, none⟩)]] 33)) := by (repeat' (first | with_reducible assumption | with_reducible exact Below.refl _ _ | with_reducible refine Below.alloc ?_ ?_ _ | with_reducible refine Below.setCell ?_ ?_ _ | with_reducible refine Below.drew ?_ | with_reducible refine below_drewN ?_ _ | (simp <;> omega) | omega))
  generalize (((w.alloc (.cells #[.int .i64 n.kind, .string n.text, .slice A n.kids.length cp, .int .i64 n.pos] 24)).alloc (.cells #[.func (.func f.k) #[] f.cap] 42)).alloc (.cells #[.func (.func 169) #[] #[.pointer (some ⟨w.heap.size + 1, 0, none⟩)]] 33)) = W at *
  have HVW := Lib.hid (HV.out.below hB)
  have HTW := Lib.hid (HT.out.below hB)
  have HL := Lib.hid (plist_so g (paramT F so) ⟨169, #[.pointer (some ⟨w.heap.size + 1, 0, none⟩)]⟩ (w.heap.size + 1 + 1) W (param_so g F HF.out so f _ W HTW.out (HS.out.below hB) c1) c2)
  have hl0 := c0.lt
  have hl2 := c2.lt
  have hdr : Below W.heap.size W W.drew := (Below.refl _ _).drew
  have HTD := Lib.hid (HTW.out.below hdr)
  have hB1 := hB.trans (hdr.mono hB.size)
  have C0 := Lib.hid c0.drew
  clear c1 c2 c0 hB HT HV HS
  go_region_held3 (fun w' => w'.cell? ⟨w.heap.size, 0, none⟩ = some (.int .i64 n.kind) ∧ w'.cell? ⟨w.heap.size, 1, none⟩ = some (.string n.text) ∧ w'.cell? ⟨w.heap.size, 2, none⟩ = some (.slice A n.kids.length cp) ∧ w'.cell? ⟨w.heap.size, 3, none⟩ = some (.int .i64 n.pos))
    (first | with_reducible exact four q3 | with_reducible exact four (q2.alloc _) | with_reducible exact four q2 | with_reducible exact four C0.out)
    (first
      | (go_at_call 107; refine (or_any g emptyT F.typ ⟨123, #[]⟩ ⟨73, #[]⟩ _ (empty_so g _) (HF.out.typ.so ent_type _ HTD.out)).mono ?_; rintro e w2 ⟨h, rfl, hso, hb2⟩; have q2 := C0.out.below hb2 hl0)
      | (go_at_call 103; refine (tof_any g [(⟨170, #[.pointer (some ⟨w.heap.size + 1 + 1, 0, none⟩)]⟩, listT (paramT F so)), (h, orT emptyT F.typ)] 12 _ n _ _ 2 rfl (by omega) ((HVW.out.below hdr).below (hb2.alloc hb2.size _)) HD.out (FvsAt.new _ rfl (Blk.new w2 _ _)) (sig_both ((HL.out.below hdr).below (hb2.alloc hb2.size _)) (hso.below ((Below.refl _ w2).alloc (Nat.le_refl _) _)))).mono ?_; rintro e w3 ⟨rfl, hb3⟩; have q3 := (q2.alloc _).below hb3 (Nat.lt_of_lt_of_le hl0 (Nat.le_trans hb2.size (by simp)))))
  all_goals go_wp2_with fail
  all_goals go_ret
  all_goals exact ⟨rfl, (hB1.trans (hb2.mono hB1.size)).trans ((((Below.refl _ w2).alloc (Nat.le_refl _) _).trans (hb3.mono (by simp))).mono (Nat.le_trans hB1.size hb2.size))⟩
end Go.Proofs.YtnalfjaojcahhaaGreatDoor
namespace Go.Proofs.YtnalfjaojcahhaaGreatDoor
open Go.RowKit Go.Lib Go.Proofs
attribute [local go_sem ↓] Go.wp_at_zero Go.wp_at_succ

theorem forall_1 {d : Nat} {w : World} {f : Fv} {P : Nd → Bool} (hf : SoC d P f w) : ∀ x ∈ [(f, P)], SoC d x.2 x.1 w := by
  intro x hx
  obtain rfl := List.mem_singleton.1 hx
  exact hf
theorem forall_2 {d : Nat} {w : World} {f g : Fv} {P Q : Nd → Bool} (hf : SoC d P f w) (hg : SoC d Q g w) : ∀ x ∈ [(f, P), (g, Q)], SoC d x.2 x.1 w := sig_both hf hg
theorem forall_3 {d : Nat} {w : World} {f g h : Fv} {P Q R : Nd → Bool} (hf : SoC d P f w) (hg : SoC d Q g w) (hh : SoC d R h w) : ∀ x ∈ [(f, P), (g, Q), (h, R)], SoC d x.2 x.1 w := by
  intro x hx
  rcases List.mem_cons.1 hx with rfl | hx
  · exact hf
  · exact forall_2 hg hh x hx
theorem forall_4 {d : Nat} {w : World} {f g h k : Fv} {P Q R S : Nd → Bool} (hf : SoC d P f w) (hg : SoC d Q g w) (hh : SoC d R h w) (hk : SoC d S k w) : ∀ x ∈ [(f, P), (g, Q), (h, R), (k, S)], SoC d x.2 x.1 w := by
  intro x hx
  rcases List.mem_cons.1 hx with rfl | hx
  · exact hf
  · exact forall_3 hg hh hk x hx

theorem ent_term (a : Array Value) (w : World) : (callFunc 167 a).run Tryz.prog w = .ok (.enter 167 a) w := by kernel_rfl
theorem ent_field (a : Array Value) (w : World) : (callFunc 166 a).run Tryz.prog w = .ok (.enter 166 a) w := by kernel_rfl
theorem ent_params (a : Array Value) (w : World) : (callFunc 105 a).run Tryz.prog w = .ok (.enter 105 a) w := by kernel_rfl
theorem ent_isig (a : Array Value) (w : World) : (callFunc 76 a).run Tryz.prog w = .ok (.enter 76 a) w := by kernel_rfl
theorem ent_struct (a : Array Value) (w : World) : (callFunc 108 a).run Tryz.prog w = .ok (.enter 108 a) w := by kernel_rfl
theorem ent_inter (a : Array Value) (w : World) : (callFunc 109 a).run Tryz.prog w = .ok (.enter 109 a) w := by kernel_rfl

set_option maxHeartbeats 4000000 in
theorem term_T (g : Nat) (F : TFns) (hF : OkT g F) : AskC (g + 1) (termT F) 167 := by
  intro w v n hT hv hd
  have hV0 := hv
  obtain ⟨A, cp, rfl, hC⟩ := hv.toC
  have hB := (Below.refl w.heap.size w).alloc (Nat.le_refl _) (.cells #[.int .i64 n.kind, .string n.text, .slice A n.kids.length cp, .int .i64 n.pos] 24)
  have b1 : Blk (w.alloc (.cells #[.int .i64 n.kind, .string n.text, .slice A n.kids.length cp, .int .i64 n.pos] 24)) w.heap.size 24 #[.int .i64 n.kind, .string n.text, .slice A n.kids.length cp, .int .i64 n.pos] := Blk.new w _ _
  have HV := Lib.hid (hV0.below hB)
  have HV0 := Lib.hid hV0
  have HT := Lib.hid (hT.below hB)
  have HF := Lib.hid hF
  have HD := Lib.hid hd
  clear hV0 hv hC hT hF hd
  have HE := Lib.hid (show termT F n = ofT 15 [F.typ] (namedT tildeT n) from rfl)
  go_enter Tryz.func167, Tryz.ntmps167
  go_wp2_with fail
  refine (named_any _ _ n HV.out ⟨168, #[]⟩ tildeT (tilde_so _) HD.out.txt).mono ?_
  rintro e w1 ⟨v1, rfl, hv1, hb1⟩
  have hB1 := hB.trans (hb1.mono hB.size)
  have HT1 := Lib.hid (Tab.below HT.out hb1)
  have HV1 := Lib.hid hv1
  clear hb1 hv1
  go_wp2_with fail
  have hn2 := (Below.refl w1.heap.size w1).alloc (Nat.le_refl _) (.cells #[.func (.func 73) #[] #[]] 33)
  have hBn2 := hB1.trans (hn2.mono hB1.size)
  refine (tof_any g [(⟨73, #[]⟩, F.typ)] 15 v1 (namedT tildeT n) _ _ 1 rfl (by omega) (HV1.out.below hn2) HD.out.named (FvsAt.new _ rfl (Blk.new w1 _ _)) (forall_1 (HF.out.typ.so ent_type _ (Tab.below HT1.out hn2)))).mono ?_
  rintro e w2 ⟨rfl, hb2⟩
  have hB2 := hBn2.trans (hb2.mono hBn2.size)
  have HT2 := Lib.hid (Tab.below (Tab.below HT1.out hn2) hb2)
  clear hn2 hBn2
  clear hb2
  go_wp2_with fail
  go_ret
  exact ⟨by rw [HE.out]; rfl, hB2⟩

set_option maxHeartbeats 4000000 in
theorem field_T (g : Nat) (F : TFns) (hF : OkT g F) : AskC (g + 1) (fieldT F) 166 := by
  intro w v n hT hv hd
  have hV0 := hv
  obtain ⟨A, cp, rfl, hC⟩ := hv.toC
  have hB := (Below.refl w.heap.size w).alloc (Nat.le_refl _) (.cells #[.int .i64 n.kind, .string n.text, .slice A n.kids.length cp, .int .i64 n.pos] 24)
  have b1 : Blk (w.alloc (.cells #[.int .i64 n.kind, .string n.text, .slice A n.kids.length cp, .int .i64 n.pos] 24)) w.heap.size 24 #[.int .i64 n.kind, .string n.text, .slice A n.kids.length cp, .int .i64 n.pos] := Blk.new w _ _
  have HV := Lib.hid (hV0.below hB)
  have HV0 := Lib.hid hV0
  have HT := Lib.hid (hT.below hB)
  have HF := Lib.hid hF
  have HD := Lib.hid hd
  clear hV0 hv hC hT hF hd
  have HE := Lib.hid (show fieldT F n = ofT 9 [F.typ] (namedT nameT n) from rfl)
  go_enter Tryz.func166, Tryz.ntmps166
  go_wp2_with fail
  refine (named_any _ _ n HV.out ⟨70, #[]⟩ nameT (name_so _) HD.out.txt).mono ?_
  rintro e w1 ⟨v1, rfl, hv1, hb1⟩
  have hB1 := hB.trans (hb1.mono hB.size)
  have HT1 := Lib.hid (Tab.below HT.out hb1)
  have HV1 := Lib.hid hv1
  clear hb1 hv1
  go_wp2_with fail
  have hn2 := (Below.refl w1.heap.size w1).alloc (Nat.le_refl _) (.cells #[.func (.func 73) #[] #[]] 33)
  have hBn2 := hB1.trans (hn2.mono hB1.size)
  refine (tof_any g [(⟨73, #[]⟩, F.typ)] 9 v1 (namedT nameT n) _ _ 1 rfl (by omega) (HV1.out.below hn2) HD.out.named (FvsAt.new _ rfl (Blk.new w1 _ _)) (forall_1 (HF.out.typ.so ent_type _ (Tab.below HT1.out hn2)))).mono ?_
  rintro e w2 ⟨rfl, hb2⟩
  have hB2 := hBn2.trans (hb2.mono hBn2.size)
  have HT2 := Lib.hid (Tab.below (Tab.below HT1.out hn2) hb2)
  clear hn2 hBn2
  clear hb2
  go_wp2_with fail
  go_ret
  exact ⟨by rw [HE.out]; rfl, hB2⟩

set_option maxHeartbeats 2000000 in
theorem inter_T (g : Nat) (F : TFns) (hF : OkT g F) : AskC (g + 1) (interT F) 109 := by
  intro w v n hT hv hd
  have hV0 := hv
  obtain ⟨A, cp, rfl, hC⟩ := hv.toC
  have hB := (Below.refl w.heap.size w).alloc (Nat.le_refl _) (.cells #[.int .i64 n.kind, .string n.text, .slice A n.kids.length cp, .int .i64 n.pos] 24)
  have b1 : Blk (w.alloc (.cells #[.int .i64 n.kind, .string n.text, .slice A n.kids.length cp, .int .i64 n.pos] 24)) w.heap.size 24 #[.int .i64 n.kind, .string n.text, .slice A n.kids.length cp, .int .i64 n.pos] := Blk.new w _ _
  have HV := Lib.hid (hV0.below hB)
  have HV0 := Lib.hid hV0
  have HT := Lib.hid (hT.below hB)
  have HF := Lib.hid hF
  have HD := Lib.hid hd
  clear hV0 hv hC hT hF hd
  have HI := Lib.hid (tall_any g (termT F) ⟨167, #[]⟩ A cp n.kids _ HV.out.kidsV HD.out.2 HD.out.1.1 (((term_T g F HF.out).le fun _ => DLe.succ).so ent_term _ HT.out))
  have hE : interT F n = ((n.kind == 14) && (n.text.toList.isEmpty && (decide (0 < n.kids.length) && n.kids.all (termT F)))) := by
    unfold interT
    rw [isEmpty_dec, beq_dec]
  rw [hE]
  clear hE
  generalize n.kids.all (termT F) = q at *
  cases h0 : (n.kind == 14) <;> cases h1 : n.text.toList.isEmpty <;> cases h2 : decide (0 < n.kids.length)
  all_goals
    go_enter Tryz.func109, Tryz.ntmps109
    go_wp2_with fail
    try
      refine HI.out.mono ?_
      rintro e w1 ⟨rfl, hb1⟩
      replace hB := hB.trans (hb1.mono hB.size)
      clear hb1
      go_wp2_with fail
    go_ret
    exact ⟨rfl, hB⟩

set_option maxHeartbeats 2000000 in
theorem struct_any (g : Nat) (F : TFns) (hF : OkT g F) : AskC (g + 1) (structT F) 108 := by
  intro w v n hT hv hd
  have hV0 := hv
  obtain ⟨A, cp, rfl, hC⟩ := hv.toC
  have hB := (Below.refl w.heap.size w).alloc (Nat.le_refl _) (.cells #[.int .i64 n.kind, .string n.text, .slice A n.kids.length cp, .int .i64 n.pos] 24)
  have b1 : Blk (w.alloc (.cells #[.int .i64 n.kind, .string n.text, .slice A n.kids.length cp, .int .i64 n.pos] 24)) w.heap.size 24 #[.int .i64 n.kind, .string n.text, .slice A n.kids.length cp, .int .i64 n.pos] := Blk.new w _ _
  have HV := Lib.hid (hV0.below hB)
  have HV0 := Lib.hid hV0
  have HT := Lib.hid (hT.below hB)
  have HF := Lib.hid hF
  have HD := Lib.hid hd
  clear hV0 hv hC hT hF hd
  have HI := Lib.hid (tall_any g (fieldT F) ⟨166, #[]⟩ A cp n.kids _ HV.out.kidsV HD.out.2 HD.out.1.1 (((field_T g F HF.out).le fun _ => DLe.succ).so ent_field _ HT.out))
  have hE : structT F n = ((n.kind == 13) && (n.text.toList.isEmpty && n.kids.all (fieldT F))) := by
    unfold structT
    rw [isEmpty_dec, beq_dec]
  rw [hE]
  clear hE
  generalize n.kids.all (fieldT F) = q at *
  cases h0 : (n.kind == 13) <;> cases h1 : n.text.toList.isEmpty
  all_goals
    go_enter Tryz.func108, Tryz.ntmps108
    go_wp2_with fail
    try
      refine HI.out.mono ?_
      rintro e w1 ⟨rfl, hb1⟩
      replace hB := hB.trans (hb1.mono hB.size)
      clear hb1
      go_wp2_with fail
    go_ret
    exact ⟨rfl, hB⟩

set_option maxHeartbeats 4000000 in
theorem isig_any (g : Nat) (F : TFns) (hF : OkT g F) : AskC (g + 1) (isSigT F) 76 := by
  intro w v n hT hv hd
  have hV0 := hv
  obtain ⟨A, cp, rfl, hC⟩ := hv.toC
  have hB := (Below.refl w.heap.size w).alloc (Nat.le_refl _) (.cells #[.int .i64 n.kind, .string n.text, .slice A n.kids.length cp, .int .i64 n.pos] 24)
  have b1 : Blk (w.alloc (.cells #[.int .i64 n.kind, .string n.text, .slice A n.kids.length cp, .int .i64 n.pos] 24)) w.heap.size 24 #[.int .i64 n.kind, .string n.text, .slice A n.kids.length cp, .int .i64 n.pos] := Blk.new w _ _
  have HV := Lib.hid (hV0.below hB)
  have HV0 := Lib.hid hV0
  have HT := Lib.hid (hT.below hB)
  have HF := Lib.hid hF
  have HD := Lib.hid hd
  clear hV0 hv hC hT hF hd
  have HI := Lib.hid (sig_any g F HF.out nameT ⟨70, #[]⟩ _ n _ HT.out HV.out HD.out (name_so _))
  rw [show isSigT F n = sigT F nameT n from rfl]
  go_enter Tryz.func76, Tryz.ntmps76
  go_wp2_with fail
  refine HI.out.mono ?_
  rintro e w1 ⟨rfl, hb1⟩
  have hB1 := hB.trans (hb1.mono hB.size)
  clear hb1
  go_wp2_with fail
  go_ret
  exact ⟨rfl, hB1⟩

set_option maxHeartbeats 4000000 in
theorem type_T (g : Nat) (F : TFns) (hF : OkT g F) : AskC (g + 1) (typT F) 73 := by
  intro w v n hT hv hd
  obtain ⟨nk, nt, nl, np⟩ := n
  have hV0 := hv
  obtain ⟨A, cp, rfl, hC⟩ := hv.toC
  simp only [Nd.kind_mk, Nd.text_mk, Nd.kids_mk, Nd.pos_mk] at hV0 ⊢
  have hB := (Below.refl w.heap.size w).alloc (Nat.le_refl _) (.cells #[.int .i64 nk, .string nt, .slice A nl.length cp, .int .i64 np] 24)
  have b1 : Blk (w.alloc (.cells #[.int .i64 nk, .string nt, .slice A nl.length cp, .int .i64 np] 24)) w.heap.size 24 #[.int .i64 nk, .string nt, .slice A nl.length cp, .int .i64 np] := Blk.new w _ _
  have HV := Lib.hid (hV0.below hB)
  have HV0 := Lib.hid hV0
  have HT := Lib.hid (hT.below hB)
  have HF := Lib.hid hF
  have HD := Lib.hid hd
  clear hV0 hv hC hT hF hd
  by_cases hk10 : nk = 10
  · subst hk10
    have HE := Lib.hid (show typT F (Nd.mk 10 nt nl np) = (nameT nt && nl.all F.typ) from rfl)
    go_enter Tryz.func73, Tryz.ntmps73
    go_wp2_with fail
    have HI := Lib.hid (fun w' (hb : Below (w.alloc (.cells #[.int .i64 10, .string nt, .slice A nl.length cp, .int .i64 np] 24)).heap.size (w.alloc (.cells #[.int .i64 10, .string nt, .slice A nl.length cp, .int .i64 np] 24)) w') => tall_any g F.typ ⟨73, #[]⟩ A cp nl _ (HV.out.below hb).kidsV HD.out.2 HD.out.1.1 (HF.out.typ.so ent_type _ (HT.out.below hb)))
    refine (name_T _ _).mono ?_
    rintro e w1 ⟨rfl, hb1⟩
    have hB1 := hB.trans (hb1.mono hB.size)
    have HI1 := Lib.hid (HI.out _ hb1)
    obtain ⟨x0, x1, x2, x3, _, _, _, _⟩ := blk4 (b1.below hb1 (by simp))
    clear hb1 HI
    cases hq : nameT nt with
    | false =>
      go_wp2_with fail
      go_ret
      exact ⟨by rw [HE.out, hq]; rfl, hB1⟩
    | true =>
      go_wp2_with fail
      refine HI1.out.mono ?_
      rintro e w2 ⟨rfl, hb2⟩
      have hB2 := hB1.trans (hb2.mono hB1.size)
      clear hb2
      go_wp2_with fail
      go_ret
      exact ⟨by rw [HE.out, hq]; rfl, hB2⟩
  by_cases hk11 : nk = 11
  · subst hk11
    clear hk10
    have HE := Lib.hid (show typT F (Nd.mk 11 nt nl np) = ofT 11 [F.typ] (Nd.mk 11 nt nl np) from rfl)
    go_enter Tryz.func73, Tryz.ntmps73
    go_wp2_with fail
    have hn1 := (Below.refl (w.alloc (.cells #[.int .i64 11, .string nt, .slice A nl.length cp, .int .i64 np] 24)).heap.size (w.alloc (.cells #[.int .i64 11, .string nt, .slice A nl.length cp, .int .i64 np] 24))).alloc (Nat.le_refl _) (.cells #[.func (.func 73) #[] #[]] 33)
    have hBn1 := hB.trans (hn1.mono hB.size)
    refine (tof_any g [(⟨73, #[]⟩, F.typ)] 11 _ ((Nd.mk 11 nt nl np)) _ _ 1 rfl (by omega) (HV.out.below hn1) HD.out (FvsAt.new _ rfl (Blk.new_at (n := w.heap.size + 1) (by simp) _ _)) (forall_1 (HF.out.typ.so ent_type _ (Tab.below HT.out hn1)))).mono ?_
    rintro e w1 ⟨rfl, hb1⟩
    have hB1 := hBn1.trans (hb1.mono hBn1.size)
    have HT1 := Lib.hid (Tab.below (Tab.below HT.out hn1) hb1)
    clear hn1 hBn1
    clear hb1
    go_wp2_with fail
    go_ret
    exact ⟨by rw [HE.out]; rfl, hB1⟩
  by_cases hk12 : nk = 12
  · subst hk12
    clear hk10 hk11
    have HE := Lib.hid (show typT F (Nd.mk 12 nt nl np) = sigT F noText (Nd.mk 12 nt nl np) from rfl)
    go_enter Tryz.func73, Tryz.ntmps73
    go_wp2_with fail
    refine (sig_any g F HF.out noText ⟨112, #[]⟩ _ (Nd.mk 12 nt nl np) _ HT.out HV.out HD.out (noText_so _)).mono ?_
    rintro e w1 ⟨rfl, hb1⟩
    have hB1 := hB.trans (hb1.mono hB.size)
    clear hb1
    go_wp2_with fail
    go_ret
    exact ⟨by rw [HE.out]; rfl, hB1⟩
  have HE := Lib.hid (show typT F (Nd.mk nk nt nl np) = false by unfold typT; simp only [Nd.kind_mk, hk10, hk11, hk12, if_false])
  have t10 : (nk == 10) = false := by simpa using hk10
  have t11 : (nk == 11) = false := by simpa using hk11
  have t12 : (nk == 12) = false := by simpa using hk12
  clear hk10 hk11 hk12
  go_enter Tryz.func73, Tryz.ntmps73
  go_wp2_with fail
  go_ret
  exact ⟨by rw [HE.out]; rfl, hB⟩

end Go.Proofs.YtnalfjaojcahhaaGreatDoor
namespace Go.Proofs.YtnalfjaojcahhaaGreatDoor
open Go.RowKit Go.Lib Go.Proofs
attribute [local go_sem ↓] Go.wp_at_zero Go.wp_at_succ

theorem ent_named1 (a : Array Value) (w : World) : (callFunc 162 a).run Tryz.prog w = .ok (.enter 162 a) w := by kernel_rfl

set_option maxHeartbeats 2000000 in
theorem named1_T (g : Nat) (F : TFns) (hF : OkT g F) : AskC g (named1T F) 162 := by
  intro w v n hT hv hd
  have hV0 := hv
  obtain ⟨A, cp, rfl, hC⟩ := hv.toC
  have hB := (Below.refl w.heap.size w).alloc (Nat.le_refl _) (.cells #[.int .i64 n.kind, .string n.text, .slice A n.kids.length cp, .int .i64 n.pos] 24)
  have HI := Lib.hid (hF.typ _ _ n (hT.below hB) (hV0.below hB) hd)
  have hE : named1T F n = (n.kind == 10 && F.typ n) := by unfold named1T; rw [beq_dec]
  rw [hE]
  clear hE hV0 hv hC hT hF hd
  generalize F.typ n = q at *
  generalize n.kind = k at *
  cases h1 : (k == 10)
  all_goals
    go_enter Tryz.func162, Tryz.ntmps162
    go_wp2_with fail
    try
      rw [beq_iff_eq] at h1
      subst h1
      refine HI.out.mono ?_
      rintro e w1 ⟨rfl, hb1⟩
      replace hB := hB.trans (hb1.mono hB.size)
      clear hb1
      go_wp2_with fail
    go_ret
    exact ⟨rfl, hB⟩

theorem cells5 {w : World} {g b : Nat} {t u : TypeId} {a0 a1 a2 a3 x : Value} (h : Blk w g t #[a0, a1, a2, a3]) (h' : Blk w b u #[x]) :
    w.cell? ⟨g, 0, none⟩ = some a0 ∧ w.cell? ⟨g, 1, none⟩ = some a1 ∧ w.cell? ⟨g, 2, none⟩ = some a2 ∧ w.cell? ⟨g, 3, none⟩ = some a3 ∧ w.cell? ⟨b, 0, none⟩ = some x := by
  obtain ⟨x0, x1, x2, x3⟩ := four h
  exact ⟨x0, x1, x2, x3, blk1 h'⟩

set_option maxHeartbeats 4000000 in
theorem tparam_so (g : Nat) (F : TFns) (hF : OkT g F) (b : Nat) (w0 : World) (hT : Tab w0) (hb : Blk w0 b 33 #[.func (.func 162) #[] #[]]) :
    SoC g (tparamT F) ⟨164, #[.pointer (some ⟨b, 0, none⟩)]⟩ w0 := by
  refine ⟨fun a w => by kernel_rfl, fun w v n hw hv hd => ?_⟩
  cases g with
  | zero => exact hd.elim
  | succ d =>
    have hV0 := hv
    obtain ⟨A, cp, rfl, hC⟩ := hv.toC
    have hB := (Below.refl w.heap.size w).alloc (Nat.le_refl _) (.cells #[.int .i64 n.kind, .string n.text, .slice A n.kids.length cp, .int .i64 n.pos] 24)
    have hw1 := hw.alloc hw.size (.cells #[.int .i64 n.kind, .string n.text, .slice A n.kids.length cp, .int .i64 n.pos] 24)
    have c0 : Blk (w.alloc (.cells #[.int .i64 n.kind, .string n.text, .slice A n.kids.length cp, .int .i64 n.pos] 24)) w.heap.size 24 #[.int .i64 n.kind, .string n.text, .slice A n.kids.length cp, .int .i64 n.pos] := Blk.new w _ _
    have cb := hb.below hw1 hb.lt
    have HV := Lib.hid (hV0.below hB)
    have HT := Lib.hid (hT.below hw1)
    have HF := Lib.hid hF.pred
    have HD := Lib.hid hd
    have hlb := hb.lt
    have hws := hw.size
    show Calls _ _ _ w fun e w' => e = .returned (.bool (ofT 7 [orT (named1T F) (interT F)] (namedT nameT n))) ∧ _
    clear hV0 hv hC hb hT hF hd hw1
    go_enter Tryz.func164, Tryz.ntmps164
    go_wp2_with fail
    generalize w.alloc (.cells #[.int .i64 n.kind, .string n.text, .slice A n.kids.length cp, .int .i64 n.pos] 24) = W at *
    have hdr : Below W.heap.size W W.drew := (Below.refl _ _).drew
    have hl0 := c0.lt
    have hl1 := cb.lt
    have hB1 := hB.trans (hdr.mono hB.size)
    have HVD := Lib.hid (HV.out.below hdr)
    have HTD := Lib.hid (HT.out.below hdr)
    have C0 := Lib.hid c0.drew
    have CB := Lib.hid cb.drew
    clear c0 cb HV HT hB
    go_region_held3 (fun w' => w'.cell? ⟨w.heap.size, 0, none⟩ = some (.int .i64 n.kind) ∧ w'.cell? ⟨w.heap.size, 1, none⟩ = some (.string n.text) ∧ w'.cell? ⟨w.heap.size, 2, none⟩ = some (.slice A n.kids.length cp) ∧ w'.cell? ⟨w.heap.size, 3, none⟩ = some (.int .i64 n.pos) ∧ w'.cell? ⟨b, 0, none⟩ = some (.func (.func 162) #[] #[]))
      (first | with_reducible exact cells5 q4 r4 | with_reducible exact cells5 (q3.alloc _) (r3.alloc _) | with_reducible exact cells5 q3 r3 | with_reducible exact cells5 q2 r2 | with_reducible exact cells5 C0.out CB.out)
      (first
        | (go_at_call 104; refine (named_any _ _ n HVD.out ⟨70, #[]⟩ nameT (name_so _) HD.out.txt).mono ?_; rintro e w2 ⟨v1, rfl, hv1, hb2⟩; have q2 := C0.out.below hb2 hl0; have r2 := CB.out.below hb2 hl1; have HT2 := Lib.hid (HTD.out.below hb2))
        | (go_at_call 107; refine (or_any d (named1T F) (interT F) ⟨162, #[]⟩ ⟨109, #[]⟩ _ ((named1_T d F HF.out).so ent_named1 _ HT2.out) (((inter_T d F HF.out).le fun _ => DLe.succ).so ent_inter _ HT2.out)).mono ?_; rintro e w3 ⟨h, rfl, hso, hb3⟩; have q3 := q2.below hb3 q2.lt; have r3 := r2.below hb3 r2.lt)
        | (go_at_call 103; refine (tof_any d [(h, orT (named1T F) (interT F))] 7 v1 (namedT nameT n) _ _ 1 rfl (by omega) ((hv1.below hb3).below ((Below.refl _ w3).alloc (Nat.le_refl _) _)) HD.out.named (FvsAt.new _ rfl (Blk.new w3 _ _)) (forall_1 (hso.below ((Below.refl _ w3).alloc (Nat.le_refl _) _)))).mono ?_; rintro e w4 ⟨rfl, hb4⟩; have q4 := (q3.alloc _).below hb4 (q3.alloc _).lt; have r4 := (r3.alloc _).below hb4 (r3.alloc _).lt))
    all_goals go_wp2_with fail
    all_goals go_ret
    all_goals
      have hB2 := hB1.trans (hb2.mono hB1.size)
      have hB3 := hB2.trans (hb3.mono hB2.size)
      exact ⟨rfl, (hB3.alloc hB3.size _).trans (hb4.mono (hB3.alloc hB3.size _).size)⟩

set_option maxHeartbeats 2000000 in
theorem params_any (g : Nat) (F : TFns) (hF : OkT g F) : AskC (g + 1) (paramsT F) 105 := by
  intro w v n hT hv hd
  have hV0 := hv
  obtain ⟨A, cp, rfl, hC⟩ := hv.toC
  have hB := ((Below.refl w.heap.size w).alloc (Nat.le_refl _) (.cells #[.int .i64 n.kind, .string n.text, .slice A n.kids.length cp, .int .i64 n.pos] 24)).alloc (by simp) (.cells #[.func (.func 162) #[] #[]] 33)
  have b1 : Blk ((w.alloc (.cells #[.int .i64 n.kind, .string n.text, .slice A n.kids.length cp, .int .i64 n.pos] 24)).alloc (.cells #[.func (.func 162) #[] #[]] 33)) (w.heap.size + 1) 33 #[.func (.func 162) #[] #[]] := Blk.new_at (by simp) _ _
  have HI := Lib.hid (list_any g (tparamT F) ⟨164, #[.pointer (some ⟨w.heap.size + 1, 0, none⟩)]⟩ _ n _ (hV0.below hB) hd (tparam_so g F hF _ _ (hT.below hB) b1))
  show Calls _ _ _ w fun e w' => e = .returned (.bool (listT (tparamT F) n)) ∧ _
  clear hV0 hv hC b1 hT hF hd
  go_enter Tryz.func105, Tryz.ntmps105
  go_wp2_with fail
  refine HI.out.mono ?_
  rintro e w1 ⟨rfl, hb1⟩
  have hB1 := hB.trans (hb1.mono hB.size)
  clear hb1
  go_wp2_with fail
  go_ret
  exact ⟨rfl, hB1⟩
end Go.Proofs.YtnalfjaojcahhaaGreatDoor
namespace Go.Proofs.YtnalfjaojcahhaaGreatDoor
open Go.RowKit Go.Lib Go.Proofs
attribute [local go_sem ↓] Go.wp_at_zero Go.wp_at_succ

theorem ent_var (a : Array Value) (w : World) : (callFunc 110 a).run Tryz.prog w = .ok (.enter 110 a) w := by kernel_rfl
theorem ofT_len {k : Int} {l : List (Nd → Bool)} {so : ByteArray → Bool} {n : Nd} (hl : l.length ≠ 0) (h : ofT k l (namedT so n) = true) : n.kids.length = l.length := by
  unfold ofT at h
  simp only [Bool.and_eq_true] at h
  have h3 := h.2.2
  rcases Decidable.em (l.length = (namedT so n).kids.length) with e | e
  · unfold namedT at e
    split at e
    · exact e.symm
    · exact absurd e hl
  · rw [askAll_len _ _ e] at h3
    cases h3

set_option maxHeartbeats 4000000 in
theorem var_any (g : Nat) (F : TFns) (hF : OkT g F) : AskC (g + 1) (varT F) 110 := by
  intro w v n hT hv hd
  have hV0 := hv
  obtain ⟨A, cp, rfl, hC⟩ := hv.toC
  have hB := (Below.refl w.heap.size w).alloc (Nat.le_refl _) (.cells #[.int .i64 n.kind, .string n.text, .slice A n.kids.length cp, .int .i64 n.pos] 24)
  have b1 : Blk (w.alloc (.cells #[.int .i64 n.kind, .string n.text, .slice A n.kids.length cp, .int .i64 n.pos] 24)) w.heap.size 24 #[.int .i64 n.kind, .string n.text, .slice A n.kids.length cp, .int .i64 n.pos] := Blk.new w _ _
  have HV := Lib.hid (hV0.below hB)
  have HV0 := Lib.hid hV0
  have HT := Lib.hid (hT.below hB)
  have HF := Lib.hid hF
  have HD := Lib.hid hd
  clear hV0 hv hC hT hF hd
  have hc0 := Below.refl (w.alloc (.cells #[.int .i64 n.kind, .string n.text, .slice A n.kids.length cp, .int .i64 n.pos] 24)).heap.size (w.alloc (.cells #[.int .i64 n.kind, .string n.text, .slice A n.kids.length cp, .int .i64 n.pos] 24))
  have hE : varT F n = (ofT 5 [orT emptyT F.typ, orT emptyT F.expr] (namedT nameT n) && (!(emptyT (n.kids.getD 0 nd0)) || !(emptyT (n.kids.getD 1 nd0)))) := rfl
  rw [hE]
  clear hE
  go_enter Tryz.func110, Tryz.ntmps110
  go_wp2_with fail
  refine (named_any _ _ n HV.out ⟨70, #[]⟩ nameT (name_so _) HD.out.txt).mono ?_
  rintro e w1 ⟨v1, rfl, hv1, hb1⟩
  have hB1 := hB.trans (hb1.mono hB.size)
  have HT1 := Lib.hid (Tab.below HT.out hb1)
  have hc1 := hc0.trans (hb1.mono hc0.size)
  have HV1 := Lib.hid hv1
  clear hb1 hv1
  go_wp2_with fail
  refine (or_any g emptyT F.typ ⟨123, #[]⟩ ⟨73, #[]⟩ _ (empty_so g _) (HF.out.typ.so ent_type _ HT1.out)).mono ?_
  rintro e w2 ⟨h1, rfl, soh1, hb2⟩
  have hB2 := hB1.trans (hb2.mono hB1.size)
  have HT2 := Lib.hid (Tab.below HT1.out hb2)
  have hc2 := hc1.trans (hb2.mono hc1.size)
  have hv2 := Lib.hid (HV1.out.below hb2)
  have SOh1 := Lib.hid soh1
  clear hb2 soh1
  go_wp2_with fail
  refine (or_any g emptyT F.expr ⟨123, #[]⟩ ⟨74, #[]⟩ _ (empty_so g _) (HF.out.expr.so ent_expr _ HT2.out)).mono ?_
  rintro e w3 ⟨h2, rfl, soh2, hb3⟩
  have hB3 := hB2.trans (hb3.mono hB2.size)
  have HT3 := Lib.hid (Tab.below HT2.out hb3)
  have sh13 := Lib.hid (SOh1.out.below hb3)
  have hc3 := hc2.trans (hb3.mono hc2.size)
  have hv3 := Lib.hid (hv2.out.below hb3)
  have SOh2 := Lib.hid soh2
  clear hb3 soh2
  go_wp2_with fail
  have hn4 := (Below.refl w3.heap.size w3).alloc (Nat.le_refl _) (.cells #[.func (.func h1.k) #[] h1.cap, .func (.func h2.k) #[] h2.cap] 33)
  have hBn4 := hB3.trans (hn4.mono hB3.size)
  refine (tof_any g [(h1, (orT emptyT F.typ)), (h2, (orT emptyT F.expr))] 5 v1 (namedT nameT n) _ _ 2 rfl (by omega) (hv3.out.below hn4) HD.out.named (FvsAt.new _ rfl (Blk.new w3 _ _)) (forall_2 (sh13.out.below hn4) (SOh2.out.below hn4))).mono ?_
  rintro e w4 ⟨rfl, hb4⟩
  have hB4 := hBn4.trans (hb4.mono hBn4.size)
  have HT4 := Lib.hid (Tab.below (Tab.below HT3.out hn4) hb4)
  have hcn4 := hc3.trans (hn4.mono hc3.size)
  have hc4 := hcn4.trans (hb4.mono hcn4.size)
  clear hn4 hBn4
  clear hb4
  cases hq : ofT 5 [orT emptyT F.typ, orT emptyT F.expr] (namedT nameT n) with
  | false =>
    go_wp2_with fail
    go_ret
    exact ⟨by rw [hq]; rfl, hB4⟩
  | true =>
    have HQ := Lib.hid hq
    have hl := ofT_len (by simp) hq
    have HL := Lib.hid hl
    have hl0 : 0 < n.kids.length := by simp at hl; omega
    have hl1 : 1 < n.kids.length := by simp at hl; omega
    have hB1' := b1.below hc4 (by simp)
    obtain ⟨x0, x1, x2, x3, _, _, _, _⟩ := blk4 hB1'
    obtain ⟨-, b, off, A1, cp1, rfl, hbl, k0, k1, k2, k3, hn0⟩ := NodesW.at_ (NodeV.kidsV (HV.out.below hc4)) 0 hl0
    obtain ⟨_, b', off', A2, cp2, e2, hbl', j0, j1, j2, j3, hn1⟩ := NodesW.at_ (NodeV.kidsV (HV.out.below hc4)) 1 hl1
    injection e2 with e2
    injection e2 with e2 e3
    subst e2 e3
    have K0 := Lib.hid (show n.kids.getD 0 nd0 = n.kids[0] by simp [hl0])
    have K1 := Lib.hid (show n.kids.getD 1 nd0 = n.kids[1] by simp [hl1])
    simp only [Nat.zero_mul, Nat.add_zero, Nat.one_mul] at k0 k1 k2 k3 j0 j1 j2 j3
    generalize n.kids[0] = y0 at *
    generalize n.kids[1] = y1 at *
    have HE0 := Lib.hid (empty_any _ _ y0 hn0)
    have HN1 := Lib.hid hn1
    have hsz := hc4.size
    have hz0 : (0 : Int) < (n.kids.length : Int) := by omega
    have hz1 : (1 : Int) < (n.kids.length : Int) := by omega
    clear hn0 hn1 hl hq
    go_wp2_with fail
    refine HE0.out.mono ?_
    rintro e w9 ⟨rfl, hb9⟩
    have hB9 := hB4.trans (hb9.mono hB4.size)
    cases hq0 : emptyT y0 with
    | false =>
      clear hb9
      go_wp2_with fail
      go_ret
      exact ⟨by rw [HQ.out, K0.out, K1.out, hq0]; rfl, hB9⟩
    | true =>
      obtain ⟨x0', x1', x2', x3', _, _, _, _⟩ := blk4 (hB1'.below hb9 hB1'.lt)
      have j0' := (hb9.cell (p := ⟨b, off + 4, none⟩) hbl).trans j0
      have j1' := (hb9.cell (p := ⟨b, off + 4 + 1, none⟩) hbl).trans j1
      have j2' := (hb9.cell (p := ⟨b, off + 4 + 2, none⟩) hbl).trans j2
      have j3' := (hb9.cell (p := ⟨b, off + 4 + 3, none⟩) hbl).trans j3
      have HE1 := Lib.hid (empty_any _ _ y1 (HN1.out.below hb9))
      clear hb9 x0 x1 x2 x3 k0 k1 k2 k3 j0 j1 j2 j3 hB1'
      go_wp2_with fail
      refine HE1.out.mono ?_
      rintro e w10 ⟨rfl, hb10⟩
      have hB10 := hB9.trans (hb10.mono hB9.size)
      clear hb10
      go_wp2_with fail
      go_ret
      exact ⟨by rw [HQ.out, K0.out, K1.out, hq0]; rfl, hB10⟩

set_option maxHeartbeats 4000000 in
theorem decl_T (g : Nat) (F : TFns) (hF : OkT g F) : AskC (g + 1) (declT F) 72 := by
  intro w v n hT hv hd
  obtain ⟨nk, nt, nl, np⟩ := n
  have hV0 := hv
  obtain ⟨A, cp, rfl, hC⟩ := hv.toC
  simp only [Nd.kind_mk, Nd.text_mk, Nd.kids_mk, Nd.pos_mk] at hV0 ⊢
  have hB := (Below.refl w.heap.size w).alloc (Nat.le_refl _) (.cells #[.int .i64 nk, .string nt, .slice A nl.length cp, .int .i64 np] 24)
  have b1 : Blk (w.alloc (.cells #[.int .i64 nk, .string nt, .slice A nl.length cp, .int .i64 np] 24)) w.heap.size 24 #[.int .i64 nk, .string nt, .slice A nl.length cp, .int .i64 np] := Blk.new w _ _
  have HV := Lib.hid (hV0.below hB)
  have HV0 := Lib.hid hV0
  have HT := Lib.hid (hT.below hB)
  have HF := Lib.hid hF
  have HD := Lib.hid hd
  clear hV0 hv hC hT hF hd
  by_cases hk2 : nk = 2
  · subst hk2
    have HE := Lib.hid (show declT F (Nd.mk 2 nt nl np) = ofT 2 [paramsT F, isSigT F, F.block] (namedT nameT (Nd.mk 2 nt nl np)) from rfl)
    go_enter Tryz.func72, Tryz.ntmps72
    go_wp2_with fail
    refine (named_any _ _ (Nd.mk 2 nt nl np) HV.out ⟨70, #[]⟩ nameT (name_so _) HD.out.txt).mono ?_
    rintro e w1 ⟨v1, rfl, hv1, hb1⟩
    have hB1 := hB.trans (hb1.mono hB.size)
    have HT1 := Lib.hid (Tab.below HT.out hb1)
    have HV1 := Lib.hid hv1
    clear hb1 hv1
    go_wp2_with fail
    have hn2 := (Below.refl w1.heap.size w1).alloc (Nat.le_refl _) (.cells #[.func (.func 105) #[] #[], .func (.func 76) #[] #[], .func (.func 106) #[] #[]] 33)
    have hBn2 := hB1.trans (hn2.mono hB1.size)
    refine (tof_any g [(⟨105, #[]⟩, (paramsT F)), (⟨76, #[]⟩, (isSigT F)), (⟨106, #[]⟩, F.block)] 2 v1 (namedT nameT (Nd.mk 2 nt nl np)) _ _ 3 rfl (by omega) (HV1.out.below hn2) HD.out.named (FvsAt.new _ rfl (Blk.new w1 _ _)) (forall_3 (((params_any g F HF.out).le fun _ => DLe.succ).so ent_params _ (Tab.below HT1.out hn2)) (((isig_any g F HF.out).le fun _ => DLe.succ).so ent_isig _ (Tab.below HT1.out hn2)) (HF.out.block.so ent_block _ (Tab.below HT1.out hn2)))).mono ?_
    rintro e w2 ⟨rfl, hb2⟩
    have hB2 := hBn2.trans (hb2.mono hBn2.size)
    have HT2 := Lib.hid (Tab.below (Tab.below HT1.out hn2) hb2)
    clear hn2 hBn2
    clear hb2
    go_wp2_with fail
    go_ret
    exact ⟨by rw [HE.out]; rfl, hB2⟩
  by_cases hk3 : nk = 3
  · subst hk3
    clear hk2
    have HE := Lib.hid (show declT F (Nd.mk 3 nt nl np) = ofT 3 [paramsT F, orT (orT F.typ (structT F)) (interT F)] (namedT nameT (Nd.mk 3 nt nl np)) from rfl)
    go_enter Tryz.func72, Tryz.ntmps72
    go_wp2_with fail
    refine (named_any _ _ (Nd.mk 3 nt nl np) HV.out ⟨70, #[]⟩ nameT (name_so _) HD.out.txt).mono ?_
    rintro e w1 ⟨v1, rfl, hv1, hb1⟩
    have hB1 := hB.trans (hb1.mono hB.size)
    have HT1 := Lib.hid (Tab.below HT.out hb1)
    have HV1 := Lib.hid hv1
    clear hb1 hv1
    go_wp2_with fail
    refine (or_any g F.typ (structT F) ⟨73, #[]⟩ ⟨108, #[]⟩ _ (HF.out.typ.so ent_type _ HT1.out) (((struct_any g F HF.out).le fun _ => DLe.succ).so ent_struct _ HT1.out)).mono ?_
    rintro e w2 ⟨h1, rfl, soh1, hb2⟩
    have hB2 := hB1.trans (hb2.mono hB1.size)
    have HT2 := Lib.hid (Tab.below HT1.out hb2)
    have hv2 := Lib.hid (HV1.out.below hb2)
    have SOh1 := Lib.hid soh1
    clear hb2 soh1
    go_wp2_with fail
    refine (or_any g (orT F.typ (structT F)) (interT F) h1 ⟨109, #[]⟩ _ (SOh1.out) (((inter_T g F HF.out).le fun _ => DLe.succ).so ent_inter _ HT2.out)).mono ?_
    rintro e w3 ⟨h2, rfl, soh2, hb3⟩
    have hB3 := hB2.trans (hb3.mono hB2.size)
    have HT3 := Lib.hid (Tab.below HT2.out hb3)
    have sh13 := Lib.hid (SOh1.out.below hb3)
    have hv3 := Lib.hid (hv2.out.below hb3)
    have SOh2 := Lib.hid soh2
    clear hb3 soh2
    go_wp2_with fail
    have hn4 := (Below.refl w3.heap.size w3).alloc (Nat.le_refl _) (.cells #[.func (.func 105) #[] #[], .func (.func h2.k) #[] h2.cap] 33)
    have hBn4 := hB3.trans (hn4.mono hB3.size)
    refine (tof_any g [(⟨105, #[]⟩, (paramsT F)), (h2, (orT (orT F.typ (structT F)) (interT F)))] 3 v1 (namedT nameT (Nd.mk 3 nt nl np)) _ _ 2 rfl (by omega) (hv3.out.below hn4) HD.out.named (FvsAt.new _ rfl (Blk.new w3 _ _)) (forall_2 (((params_any g F HF.out).le fun _ => DLe.succ).so ent_params _ (Tab.below HT3.out hn4)) (SOh2.out.below hn4))).mono ?_
    rintro e w4 ⟨rfl, hb4⟩
    have hB4 := hBn4.trans (hb4.mono hBn4.size)
    have HT4 := Lib.hid (Tab.below (Tab.below HT3.out hn4) hb4)
    clear hn4 hBn4
    clear hb4
    go_wp2_with fail
    go_ret
    exact ⟨by rw [HE.out]; rfl, hB4⟩
  by_cases hk4 : nk = 4
  · subst hk4
    clear hk2 hk3
    have HE := Lib.hid (show declT F (Nd.mk 4 nt nl np) = ofT 4 [paramsT F, F.typ] (namedT nameT (Nd.mk 4 nt nl np)) from rfl)
    go_enter Tryz.func72, Tryz.ntmps72
    go_wp2_with fail
    refine (named_any _ _ (Nd.mk 4 nt nl np) HV.out ⟨70, #[]⟩ nameT (name_so _) HD.out.txt).mono ?_
    rintro e w1 ⟨v1, rfl, hv1, hb1⟩
    have hB1 := hB.trans (hb1.mono hB.size)
    have HT1 := Lib.hid (Tab.below HT.out hb1)
    have HV1 := Lib.hid hv1
    clear hb1 hv1
    go_wp2_with fail
    have hn2 := (Below.refl w1.heap.size w1).alloc (Nat.le_refl _) (.cells #[.func (.func 105) #[] #[], .func (.func 73) #[] #[]] 33)
    have hBn2 := hB1.trans (hn2.mono hB1.size)
    refine (tof_any g [(⟨105, #[]⟩, (paramsT F)), (⟨73, #[]⟩, F.typ)] 4 v1 (namedT nameT (Nd.mk 4 nt nl np)) _ _ 2 rfl (by omega) (HV1.out.below hn2) HD.out.named (FvsAt.new _ rfl (Blk.new w1 _ _)) (forall_2 (((params_any g F HF.out).le fun _ => DLe.succ).so ent_params _ (Tab.below HT1.out hn2)) (HF.out.typ.so ent_type _ (Tab.below HT1.out hn2)))).mono ?_
    rintro e w2 ⟨rfl, hb2⟩
    have hB2 := hBn2.trans (hb2.mono hBn2.size)
    have HT2 := Lib.hid (Tab.below (Tab.below HT1.out hn2) hb2)
    clear hn2 hBn2
    clear hb2
    go_wp2_with fail
    go_ret
    exact ⟨by rw [HE.out]; rfl, hB2⟩
  have HE := Lib.hid (show declT F (Nd.mk nk nt nl np) = varT F (Nd.mk nk nt nl np) by unfold declT; simp only [Nd.kind_mk, hk2, hk3, hk4, if_false])
  have t2 : (nk == 2) = false := by simpa using hk2
  have t3 : (nk == 3) = false := by simpa using hk3
  have t4 : (nk == 4) = false := by simpa using hk4
  clear hk2 hk3 hk4
  go_enter Tryz.func72, Tryz.ntmps72
  go_wp2_with fail
  refine (var_any g F HF.out _ _ (Nd.mk nk nt nl np) HT.out HV.out HD.out).mono ?_
  rintro e w1 ⟨rfl, hb1⟩
  have hB1 := hB.trans (hb1.mono hB.size)
  clear hb1
  go_wp2_with fail
  go_ret
  exact ⟨by rw [HE.out]; rfl, hB1⟩

end Go.Proofs.YtnalfjaojcahhaaGreatDoor
