/-
  tree's of: a node of a kind whose kids are so, one by one. By an AI agent.
  Questions on texts, as function values: name, bound, and their kin. By an AI agent.
  lit.Plain: is it a number that is written plainly? By an AI agent.
  The scanner: add, ends, line. By an AI agent.
  The scanner: while, at letters and figures. By an AI agent.
  The scanner: ends, line. By an AI agent.
-/
import Derived.Test.YtnalfjaojcahhaaGreatDoorJ07
import Derived.Test.YtnalfjaojcahhaaGreatDoorJ06
import Derived.Deep.LoopGhost
import Derived.BigQuiet
namespace Go.Proofs.YtnalfjaojcahhaaGreatDoor
open Go.RowKit Go.Lib Go.Proofs
attribute [local go_sem ↓] Go.wp_at_zero Go.wp_at_succ

theorem askAll_len : ∀ (l : List (Nd → Bool)) (ns : List Nd), l.length ≠ ns.length → askAll l ns = false
  | [], [], h => absurd rfl h
  | [], _ :: _, _ => rfl
  | _ :: _, [], _ => rfl
  | p :: l, n :: ns, h => by
    rw [askAll, askAll_len l ns (by simpa using h)]
    simp
theorem askAll_drop (l : List (Nd → Bool)) (ns : List Nd) (i : Nat) (hi : i < l.length) (hn : i < ns.length) : askAll (l.drop i) (ns.drop i) = (l[i] ns[i] && askAll (l.drop (i + 1)) (ns.drop (i + 1))) := by
  rw [List.drop_eq_getElem_cons hi, List.drop_eq_getElem_cons hn, askAll]

/-- Function values in a row of the call's. -/
def FvsAt (w : World) (B : Option Addr) (fs : List (Fv × (Nd → Bool))) : Prop :=
  (fs = [] ∧ B = none) ∨ ∃ b, B = some ⟨b, 0, none⟩ ∧ Blk w b 33 (fs.map fun x => Value.func (.func x.1.k) #[] x.1.cap).toArray
theorem FvsAt.below {w w' : World} {B : Option Addr} {fs : List (Fv × (Nd → Bool))} (h : FvsAt w B fs) (hb : Below w.heap.size w w') : FvsAt w' B fs := by
  rcases h with h | ⟨b, e, h⟩
  · exact .inl h
  · exact .inr ⟨b, e, h.below hb h.lt⟩
theorem FvsAt.get {w : World} {B : Option Addr} {fs : List (Fv × (Nd → Bool))} (h : FvsAt w B fs) (i : Nat) (hi : i < fs.length) : ∃ b, B = some ⟨b, 0, none⟩ ∧ b < w.heap.size ∧ w.cell? ⟨b, i, none⟩ = some (.func (.func fs[i].1.k) #[] fs[i].1.cap) := by
  rcases h with ⟨rfl, _⟩ | ⟨b, e, h⟩
  · simp at hi
  · refine ⟨b, e, h.lt, ?_⟩
    rw [h.cell i]
    simp [hi]

set_option maxHeartbeats 2000000 in
theorem tof_any (d : Nat) (fs : List (Fv × (Nd → Bool))) (k : Int) (v : Value) (n : Nd) (B : Option Addr) (w : World) (m : Nat) (hm : fs.length = m) (hm9 : m ≤ 9)
    (hv : NodeW w v n) (hd : DLe (d + 1) n) (hB : FvsAt w B fs) (hs : ∀ x ∈ fs, SoC d x.2 x.1 w) :
    Calls Tryz.prog 103 #[v, .int .i64 k, .slice B m m] w fun e w' => e = .returned (.bool (ofT k (fs.map (·.2)) n)) ∧ Below w.heap.size w w' := by
  have hV0 := hv
  obtain ⟨A, cp, rfl, hC⟩ := hv.toC
  have hb0 := (Below.refl w.heap.size w).alloc (Nat.le_refl _) (.cells #[.int .i64 n.kind, .string n.text, .slice A n.kids.length cp, .int .i64 n.pos] 24)
  have b1 : Blk (w.alloc (.cells #[.int .i64 n.kind, .string n.text, .slice A n.kids.length cp, .int .i64 n.pos] 24)) w.heap.size 24 #[.int .i64 n.kind, .string n.text, .slice A n.kids.length cp, .int .i64 n.pos] := Blk.new w _ _
  have HK := Lib.hid (NodeV.kidsV (hV0.below hb0))
  have HF := Lib.hid (hB.below hb0)
  have HS := Lib.hid (fun x hx => (hs x hx).below hb0)
  have HM := Lib.hid hm
  have HD := Lib.hid hd.2
  have hlen := hd.1.1
  have hE : ofT k (fs.map (·.2)) n = (!(n.kind != k) && (!(!n.text.toList.isEmpty) && (!((n.kids.length : Int) != (m : Int)) && askAll (fs.map (·.2)) n.kids))) := by
    unfold ofT
    rw [isEmpty_dec]
    by_cases h3 : n.kids.length = m
    · have : ((n.kids.length : Int) != (m : Int)) = false := by simp [h3]
      rw [this]
      simp [bne, beq_dec]
    · have h4 : ((n.kids.length : Int) != (m : Int)) = true := by simp; omega
      rw [h4, askAll_len (fs.map (·.2)) n.kids (by rw [List.length_map]; omega)]
      simp
  rw [hE]
  clear hE hV0 hv hC hd hB hs hm
  generalize hI : askAll (fs.map (·.2)) n.kids = I
  have HI := Lib.hid hI
  clear hI
  generalize n.kind = nk at *
  generalize n.text = nt at *
  generalize n.kids = ks at *
  cases h1 : (nk != k) with
  | true =>
    go_enter Tryz.func103, Tryz.ntmps103
    go_wp2_with fail
    go_ret
    exact ⟨rfl, hb0⟩
  | false =>
    cases h2 : nt.toList.isEmpty with
    | false =>
      go_enter Tryz.func103, Tryz.ntmps103
      go_wp2_with fail
      go_ret
      exact ⟨rfl, hb0⟩
    | true =>
      cases h3 : ((ks.length : Int) != (m : Int)) with
      | true =>
        go_enter Tryz.func103, Tryz.ntmps103
        go_wp2_with fail
        go_ret
        exact ⟨rfl, hb0⟩
      | false =>
        have HKM := Lib.hid (show ks.length = m by simp at h3; omega)
        go_enter Tryz.func103, Tryz.ntmps103
        go_wp2_with fail
        clear h3
        go_loopg [7, 8, 28] m (fun g _ _ u28 wr => ∃ i : Nat, i ≤ m ∧ m - i ≤ g ∧ u28 = .int .i64 (i : Int) ∧ askAll ((fs.map (·.2)).drop i) (ks.drop i) = I ∧ Below (w.heap.size + 1) (w.alloc (.cells #[.int .i64 nk, .string nt, .slice A ks.length cp, .int .i64 n.pos] 24)) wr)
        case atStart => exact ⟨0, Nat.zero_le _, by omega, rfl, by simpa using HI.out, Below.refl _ _⟩
        case round =>
          obtain ⟨i, hi, hg, rfl, hI, hB⟩ := hrel
          have HI := Lib.hid hI
          have hBr := hb0.trans (hB.mono (by omega))
          have HB2 := Lib.hid (show Below (w.alloc (.cells #[.int .i64 nk, .string nt, .slice A ks.length cp, .int .i64 n.pos] 24)).heap.size (w.alloc (.cells #[.int .i64 nk, .string nt, .slice A ks.length cp, .int .i64 n.pos] 24)) wr by simpa using hB)
          obtain ⟨x0, x1, x2, x3, _, _, _, _⟩ := blk4 (b1.below hB (by omega))
          have hsz : w.heap.size + 1 ≤ wr.heap.size := by have := hB.size; simpa using this
          clear hI hB
          by_cases hlt : i < m
          · have hlt2 : (i : Int) < (m : Int) := by omega
            have h0 : (0 : Int) ≤ (i : Int) := by omega
            have hlt3 : (i : Int) < (ks.length : Int) := by rw [HKM.out]; omega
            obtain ⟨_, b, off, A1, cp1, rfl, hb, k0, k1, k2, k3, hn⟩ := NodesW.at_ (HK.out.below HB2.out) i (by rw [HKM.out]; exact hlt)
            obtain ⟨bf, rfl, hbf, f0⟩ := (HF.out.below HB2.out).get i (by rw [HM.out]; exact hlt)
            have HSo := HS.out (fs[i]'(by rw [HM.out]; exact hlt)) (List.getElem_mem _)
            have he := HSo.enter
            have HC := Lib.hid (HSo.out _ _ _ HB2.out hn (HD.out _ (List.getElem_mem _)))
            have HE := Lib.hid (askAll_drop (fs.map (·.2)) ks i (by rw [List.length_map, HM.out]; exact hlt) (by rw [HKM.out]; exact hlt))
            simp only [List.getElem_map] at HE
            generalize fs[i]'(by rw [HM.out]; exact hlt) = ff at *
            generalize ks[i]'(by rw [HKM.out]; exact hlt) = x at *
            clear hn HSo
            cases hP : ff.2 x with
            | true =>
              have HX := Lib.hid (show askAll ((fs.map (·.2)).drop (i + 1)) (ks.drop (i + 1)) = I by rw [← HI.out, HE.out, hP]; rfl)
              go_wp2_with fail
              refine HC.out.mono ?_
              rw [hP]
              rintro e w1 ⟨rfl, hb1⟩
              have hB1 := HB2.out.trans (hb1.mono HB2.out.size)
              clear hb1 HC
              go_wp2_with fail
              go_roundg (m - (i + 1))
              case measure => omega
              case rel => exact ⟨i + 1, by omega, Nat.le_refl _, by go_num, HX.out, by simpa using hB1⟩
            | false =>
              have HX := Lib.hid (show I = false by rw [← HI.out, HE.out, hP]; rfl)
              go_wp2_with fail
              refine HC.out.mono ?_
              rw [hP]
              rintro e w1 ⟨rfl, hb1⟩
              have hB1 := hBr.trans (hb1.mono hBr.size)
              clear hb1 HC
              go_wp2_with fail
              go_ret
              exact ⟨by rw [HX.out]; rfl, hB1⟩
          · have hlt2 : ¬ (i : Int) < (m : Int) := by omega
            have h4 : ks.drop i = [] := List.drop_of_length_le (by rw [HKM.out]; omega)
            have h5 : (fs.map (·.2)).drop i = [] := List.drop_of_length_le (by rw [List.length_map, HM.out]; omega)
            have HX := Lib.hid (show I = true by rw [← HI.out, h4, h5]; rfl)
            clear h4 h5
            go_wp2_with fail
            go_ret
            exact ⟨by rw [HX.out]; rfl, hBr⟩
end Go.Proofs.YtnalfjaojcahhaaGreatDoor
namespace Go.Proofs.YtnalfjaojcahhaaGreatDoor
open Go.RowKit Go.Lib Go.Proofs
attribute [local go_sem ↓] Go.wp_at_zero Go.wp_at_succ

theorem eq_list (s : ByteArray) (l : List UInt8) : decide (s = ⟨l.toArray⟩) = (s.toList == l) := by
  rw [← toList_beq, ByteArray.toList_eq ⟨l.toArray⟩]
theorem contains_any (s sub : ByteArray) (w : World) (hT : Tab w) (hs : s.size ≤ 2000000000) :
    Calls Tryz.prog 90 #[.string s, .string sub] w fun e w' => e = .returned (.bool (Lib.contains s.data.toList sub.data.toList)) ∧ w = w' := by
  obtain ⟨m, hm⟩ := hT
  exact (Any.strings_Contains Tryz.laysContains s sub m w (by omega) hm).mono fun _ _ h => ⟨h.1, h.2.symm⟩
theorem cut_any (s sep : ByteArray) (w : World) (hT : Tab w) (hs : s.size ≤ 2000000000) :
    Calls Tryz.prog 174 #[.string s, .string sep] w fun e w' => e = .returned (.tuple #[.string ⟨(Lib.cut s.data.toList sep.data.toList).1.toArray⟩, .string ⟨(Lib.cut s.data.toList sep.data.toList).2.1.toArray⟩, .bool (Lib.cut s.data.toList sep.data.toList).2.2]) ∧ Below w.heap.size w w' := by
  obtain ⟨m, hm⟩ := hT
  exact (Any.strings_Cut Tryz.laysCut s sep m w (by omega) hm).mono fun _ _ h => ⟨h.1, by obtain ⟨n, e⟩ := h.2; subst e; exact below_drewN (Below.refl _ _) n⟩

theorem name_T (s : ByteArray) (w : World) : Calls Tryz.prog 70 #[.string s] w fun e w' => e = .returned (.bool (nameT s)) ∧ Below w.heap.size w w' := by
  have hE : nameT s = (decide ((s.size : Int) ≤ 100) && tokName s) := by
    unfold nameT
    congr 1
    rw [decide_eq_decide]
    omega
  rw [hE]
  have HT := Lib.hid (tokName_any s w)
  generalize tokName s = q at *
  clear hE
  cases h1 : decide ((s.size : Int) ≤ 100)
  all_goals
    go_enter Tryz.func70, Tryz.ntmps70
    go_wp2_with fail
    try
      refine HT.out.mono ?_
      rintro e w1 ⟨rfl, hb1⟩
      go_wp2_with fail
    go_ret
    exact ⟨rfl, by first | assumption | exact Below.refl _ _⟩
theorem bound_T (s : ByteArray) (w : World) : Calls Tryz.prog 171 #[.string s] w fun e w' => e = .returned (.bool (boundT s)) ∧ Below w.heap.size w w' := by
  have hE : boundT s = (nameT s && !(s.toList == [95])) := by
    unfold boundT
    rw [← eq_list s [95], ← decide_not]
  rw [hE]
  have HT := Lib.hid (name_T s w)
  generalize nameT s = q at *
  clear hE
  cases q <;> cases h1 : (s.toList == [95])
  all_goals
    go_enter Tryz.func171, Tryz.ntmps171
    go_wp2_with fail
    refine HT.out.mono ?_
    rintro e w1 ⟨rfl, hb1⟩
    go_wp2_with fail
    go_ret
    exact ⟨rfl, hb1⟩

/-- A question on texts that is a function of the program. -/
theorem sos_of {P : ByteArray → Bool} {f : FuncId} (he : ∀ a w, (callFunc f a).run Tryz.prog w = .ok (.enter f a) w) (w0 : World)
    (h : ∀ (s : ByteArray) (w : World), Below w0.heap.size w0 w → s.size ≤ 1000000000 → Calls Tryz.prog f #[.string s] w fun e w' => e = .returned (.bool (P s)) ∧ Below w.heap.size w w') : SoS P ⟨f, #[]⟩ w0 :=
  ⟨he, fun w s hb hs => h s w hb hs⟩
theorem name_so (w0 : World) : SoS nameT ⟨70, #[]⟩ w0 := sos_of (fun a w => by kernel_rfl) w0 fun s w _ _ => name_T s w
theorem bound_so (w0 : World) : SoS boundT ⟨171, #[]⟩ w0 := sos_of (fun a w => by kernel_rfl) w0 fun s w _ _ => bound_T s w
theorem noText_so (w0 : World) : SoS noText ⟨112, #[]⟩ w0 := sos_of (fun a w => by kernel_rfl) w0 fun s w _ _ => by
  have hE : noText s = s.toList.isEmpty := by unfold noText; rw [isEmpty_dec]
  rw [hE]
  cases h1 : s.toList.isEmpty
  all_goals
    go_enter Tryz.func112, Tryz.ntmps112
    go_wp2_with fail
    go_ret
    exact ⟨rfl, Below.refl _ _⟩
theorem tilde_so (w0 : World) : SoS tildeT ⟨168, #[]⟩ w0 := sos_of (fun a w => by kernel_rfl) w0 fun s w _ _ => by
  have hE : tildeT s = (s.toList.isEmpty || s.toList == [126]) := by unfold tildeT; rw [isEmpty_dec, eq_list s [126]]
  rw [hE]
  cases h1 : s.toList.isEmpty <;> cases h2 : (s.toList == [126])
  all_goals
    go_enter Tryz.func168, Tryz.ntmps168
    go_wp2_with fail
    go_ret
    exact ⟨rfl, Below.refl _ _⟩
theorem short_so (w0 : World) : SoS shortStr ⟨114, #[]⟩ w0 := sos_of (fun a w => by kernel_rfl) w0 fun s w _ _ => by
  have hE : shortStr s = decide ((s.size : Int) ≤ 1000) := by unfold shortStr; rw [decide_eq_decide]; omega
  rw [hE]
  go_enter Tryz.func114, Tryz.ntmps114
  go_wp2_with fail
  go_ret
  exact ⟨rfl, Below.refl _ _⟩
theorem unary_so (w0 : World) : SoS unaryT ⟨115, #[]⟩ w0 := sos_of (fun a w => by kernel_rfl) w0 fun s w _ _ => by
  have hE : unaryT s = (s.toList == [45] || s.toList == [33]) := by unfold unaryT; rw [eq_list s [45], eq_list s [33]]
  rw [hE]
  cases h1 : (s.toList == [45]) <;> cases h2 : (s.toList == [33])
  all_goals
    go_enter Tryz.func115, Tryz.ntmps115
    go_wp2_with fail
    go_ret
    exact ⟨rfl, Below.refl _ _⟩
theorem step_so (w0 : World) : SoS stepT ⟨172, #[]⟩ w0 := sos_of (fun a w => by kernel_rfl) w0 fun s w _ _ => by
  have hE : stepT s = (s.toList == [43, 43] || s.toList == [45, 45]) := by unfold stepT; rw [eq_list s [43, 43], eq_list s [45, 45]]
  rw [hE]
  cases h1 : (s.toList == [43, 43]) <;> cases h2 : (s.toList == [45, 45])
  all_goals
    go_enter Tryz.func172, Tryz.ntmps172
    go_wp2_with fail
    go_ret
    exact ⟨rfl, Below.refl _ _⟩
theorem signs_has (x : ByteArray) (w : World) (hT : Tab w) :
    Calls Tryz.prog 90 #[.string (⟨#[32, 43, 32, 45, 32, 42, 32, 47, 32, 37, 32, 61, 61, 32, 33, 61, 32, 60, 32, 60, 61, 32, 62, 32, 62, 61, 32, 38, 38, 32, 124, 124, 32]⟩ : ByteArray), .string x] w fun e w' => e = .returned (.bool (Lib.contains (32 :: signText) x.data.toList)) ∧ w = w' :=
  contains_any _ x w hT (Nat.le_trans (show _ ≤ 100 by decide +kernel) (by omega))
theorem binary_so (w0 : World) (hT : Tab w0) : SoS binaryT ⟨116, #[]⟩ w0 := sos_of (fun a w => by kernel_rfl) w0 fun s w hb hs => by
  have HT := Lib.hid (hT.below hb)
  have hE : binaryT s = (!s.toList.isEmpty && (!(Lib.contains s.data.toList [32]) && Lib.contains (32 :: signText) (32 :: (s.data.toList ++ [32])))) := by
    unfold binaryT
    rw [isEmpty_dec, ← decide_not]
  rw [hE]
  clear hE
  have h1 := Lib.hid (contains_any s ⟨#[32]⟩ w HT.out (by omega))
  have e2 : ((⟨#[32]⟩ ++ s ++ ⟨#[32]⟩ : ByteArray)).data.toList = 32 :: (s.data.toList ++ [32]) := by simp [ByteArray.data_append]
  have h2 := signs_has (⟨#[32]⟩ ++ s ++ ⟨#[32]⟩) w HT.out
  rw [e2] at h2
  generalize Lib.contains (32 :: signText) (32 :: (s.data.toList ++ [32])) = q2 at *
  have H2 := Lib.hid h2
  rw [show (⟨#[32]⟩ : ByteArray).data.toList = [32] from rfl] at h1
  clear h2 e2
  cases hq : Lib.contains s.data.toList [32] <;> cases hE : s.toList.isEmpty
  all_goals
    go_enter Tryz.func116, Tryz.ntmps116
    go_wp2_with fail
    try
      refine h1.out.mono ?_
      rw [hq]
      rintro e w1 ⟨rfl, rfl⟩
      go_wp2_with fail
    try
      refine H2.out.mono ?_
      rintro e w1 ⟨rfl, rfl⟩
      go_wp2_with fail
    go_ret
    exact ⟨rfl, Below.refl _ _⟩
theorem ranged_so (w0 : World) (hT : Tab w0) : SoS rangedT ⟨124, #[]⟩ w0 := sos_of (fun a w => by kernel_rfl) w0 fun s w hb hs => by
  have HT := Lib.hid (hT.below hb)
  have h1 := Lib.hid (cut_any s ⟨#[44]⟩ w HT.out (by omega))
  have hE : rangedT s = (s.toList.isEmpty || (((cutT s).2.2 && (nameT ⟨(cutT s).1.toArray⟩ && boundT ⟨(cutT s).2.1.toArray⟩)) || (!(cutT s).2.2 && boundT ⟨(cutT s).1.toArray⟩))) := by
    unfold rangedT
    rw [isEmpty_dec]
  rw [hE]
  clear hE
  rw [show Lib.cut s.data.toList (⟨#[44]⟩ : ByteArray).data.toList = cutT s from rfl] at h1
  generalize cutT s = q at *
  obtain ⟨q1, q2, q3⟩ := q
  simp only at *
  have hn := Lib.hid (fun w => name_T ⟨q1.toArray⟩ w)
  have hb1 := Lib.hid (fun w => bound_T ⟨q1.toArray⟩ w)
  have hb2 := Lib.hid (fun w => bound_T ⟨q2.toArray⟩ w)
  generalize nameT ⟨q1.toArray⟩ = n1 at *
  generalize boundT ⟨q1.toArray⟩ = b1 at *
  generalize boundT ⟨q2.toArray⟩ = b2 at *
  cases hEm : s.toList.isEmpty <;> cases q3 <;> cases n1 <;> cases b1 <;> cases b2
  all_goals
    go_enter Tryz.func124, Tryz.ntmps124
    go_wp2_with fail
    refine h1.out.mono ?_
    rintro e w1 ⟨rfl, hB⟩
    go_wp2_with (first
      | (go_at_call 70; with_reducible refine (hn.out _).mono ?_; rintro e w2 ⟨rfl, hB2⟩; replace hB := hB.trans (hB2.mono hB.size); clear hB2)
      | (go_at_call 171; with_reducible refine (hb2.out _).mono ?_; rintro e w2 ⟨rfl, hB2⟩; replace hB := hB.trans (hB2.mono hB.size); clear hB2)
      | (go_at_call 171; with_reducible refine (hb1.out _).mono ?_; rintro e w2 ⟨rfl, hB2⟩; replace hB := hB.trans (hB2.mono hB.size); clear hB2))
    go_ret
    exact ⟨rfl, hB⟩
end Go.Proofs.YtnalfjaojcahhaaGreatDoor
namespace Go.Proofs.YtnalfjaojcahhaaGreatDoor
open Go.RowKit Go.Lib Go.Proofs
attribute [local go_sem ↓] Go.wp_at_zero Go.wp_at_succ

theorem figures_iff (l : List UInt8) : l.all figureB = true ↔ ∀ j, j < l.length → runeFigure ((l.getD j 0).toNat : Int) = true := by
  rw [List.all_eq_true]
  constructor
  · intro h j hj
    have := h l[j] (List.getElem_mem _)
    rw [figureB_rune] at this
    simpa [hj] using this
  · intro h x hx
    obtain ⟨j, hj, rfl⟩ := List.mem_iff_getElem.1 hx
    have := h j hj
    rw [figureB_rune]
    simpa [hj] using this

theorem head_ne {s : ByteArray} (h : 0 < s.size) : decide (s.data.toList.head? ≠ some 48) = ((s[0].toNat : Int) != 48) := by
  have e : s.data.toList.head? = some s[0] := by
    rw [List.head?_eq_getElem?, List.getElem?_eq_getElem (by simpa using h)]
    rfl
  rw [e, Bool.eq_iff_iff]
  simp only [ne_eq, Option.some.injEq, decide_not, Bool.not_eq_true', decide_eq_false_iff_not, bne_iff_ne]
  rw [← UInt8.toNat_inj]
  simp only [UInt8.reduceToNat]
  omega

set_option maxHeartbeats 2000000 in
theorem plain_any (s : ByteArray) (w : World) : Calls Tryz.prog 113 #[.string s] w fun e w' => e = .returned (.bool (plainT s)) ∧ Below w.heap.size w w' := by
  have hT : plainT s = (s.data.toList.all figureB && (s.toList == [48] || (!s.toList.isEmpty && (decide ((s.size : Int) ≤ 200) && decide (s.data.toList.head? ≠ some 48))))) := by
    unfold plainT
    rw [isEmpty_dec, eq_list s [48]]
    congr 3
    · simp
    · congr 1
      rw [decide_eq_decide]
      omega
  have hN := figures_iff s.data.toList
  rw [hT]
  generalize s.data.toList.all figureB = nc at *
  have HN := Lib.hid hN
  clear hT hN
  have i1 := World.iter_heap w s 0
  have i2 : Below w.heap.size w (w.iter s 0) := (Below.refl _ w).alloc (Nat.le_refl _) _
  go_enter Tryz.func113, Tryz.ntmps113
  go_wp2_with fail
  go_loopg [4, 7, 8] s.size (fun g _ _ _ wr => ∃ i : Nat, i ≤ s.size ∧ s.size - i ≤ g ∧ wr.heap[w.heap.size]? = some (.stringIter s i) ∧ Below w.heap.size w wr ∧ (∀ j, j < i → runeFigure ((s.data.toList.getD j 0).toNat : Int) = true))
  case atStart => exact ⟨0, Nat.zero_le _, by omega, i1, i2, fun j hj => by omega⟩
  case round =>
    clear i1 i2
    obtain ⟨i, hi, hg, hit, hB, hall⟩ := hrel
    have HIT := Lib.hid hit
    have HA := Lib.hid hall
    clear hit hall
    by_cases hlt : i < s.size
    · have hw := decode_pos s i hlt
      have hdc := decode_cases s i hlt
      have hnext := fun ty => run_next_any_at (P := Tryz.prog) wr w.heap.size s i ty HIT.out hlt
      generalize hb : (s.data.toList.getD i 0).toNat = b at *
      generalize hd : Utf8.decode s i = q at *
      obtain ⟨r, k⟩ := q
      simp only at hw hnext hdc
      have hbad : runeFigure (r : Int) = runeFigure (b : Int) ∧ (runeFigure (r : Int) = true → k = 1) := by
        rcases hdc with ⟨e, _⟩ | ⟨h1, h2⟩
        · injection e with e1 e2
          subst e1 e2
          exact ⟨rfl, fun _ => rfl⟩
        · rw [runeFigure_high (by omega), runeFigure_high (by omega)]
          exact ⟨rfl, by simp⟩
      have HBAD := Lib.hid hbad
      have HBB := Lib.hid hb
      have j1 := iterAt_heap wr w.heap.size s i (i + k) HIT.out
      have j2 : Below w.heap.size w (wr.iterAt w.heap.size s (i + k)) := iterAt_below hB (Nat.le_refl _)
      generalize wr.iterAt w.heap.size s (i + k) = W1 at hnext j1 j2
      have J1 := Lib.hid j1
      clear hbad hdc j1 hd hb
      have hfin : runeFigure (r : Int) = false → nc = false := by
        intro hf
        cases hn : nc with
        | false => rfl
        | true =>
          have := (HN.out.1 hn) i (by simpa using hlt)
          rw [HBB.out, ← HBAD.out.1, hf] at this
          cases this
      have HFIN := Lib.hid hfin
      have hgo : runeFigure (r : Int) = true → ∀ j, j < i + k → runeFigure ((s.data.toList.getD j 0).toNat : Int) = true := by
        intro hf j hj
        have hk := HBAD.out.2 hf
        by_cases e : j = i
        · subst e; rw [HBB.out, ← HBAD.out.1, hf]
        · exact HA.out j (by omega)
      have HGO := Lib.hid hgo
      clear hfin hgo HBAD HBB HA
      unfold runeFigure at HFIN HGO
      cases h1 : decide ((r : Int) < 48) with
      | true =>
        have HX := Lib.hid (HFIN.out (by have : decide (48 ≤ (r : Int)) = false := by simp at h1 ⊢; omega
                                         rw [this]; rfl))
        go_wp2_with fail
        go_ret
        exact ⟨by rw [HX.out]; rfl, j2⟩
      | false =>
        have h1' : decide (48 ≤ (r : Int)) = true := by simp at h1 ⊢; omega
        cases h2 : decide (57 < (r : Int)) with
        | true =>
          have HX := Lib.hid (HFIN.out (by have : decide ((r : Int) ≤ 57) = false := by simp at h2 ⊢; omega
                                           rw [this]; simp))
          clear h1'
          go_wp2_with fail
          go_ret
          exact ⟨by rw [HX.out]; rfl, j2⟩
        | false =>
          have HNEW := Lib.hid (HGO.out (by have : decide ((r : Int) ≤ 57) = true := by simp at h2 ⊢; omega
                                            rw [h1', this]; rfl))
          clear h1'
          go_wp2_with fail
          go_roundg (s.size - (i + k))
          case measure => omega
          case rel => exact ⟨i + k, hw.2, Nat.le_refl _, J1.out, j2, HNEW.out⟩
    · have hend : i = s.size := by omega
      have hnext := fun ty => run_next_end_at (P := Tryz.prog) wr w.heap.size s i ty HIT.out hlt
      have HX := Lib.hid (show nc = true from HN.out.2 fun j hj => HA.out j (by simp at hj; omega))
      clear hend
      cases hE0 : (s.toList == [48]) with
      | true =>
        go_wp2_with fail
        go_ret
        exact ⟨by rw [HX.out, hE0]; rfl, hB⟩
      | false =>
        cases hE : s.toList.isEmpty with
        | true =>
          go_wp2_with fail
          go_ret
          exact ⟨by rw [HX.out, hE0, hE]; rfl, hB⟩
        | false =>
          cases hL : decide ((s.size : Int) ≤ 200) with
          | false =>
            go_wp2_with fail
            go_ret
            exact ⟨by rw [HX.out, hE0, hE, hL]; rfl, hB⟩
          | true =>
            have hp : 0 < s.size := by
              rcases Nat.eq_zero_or_pos s.size with h0 | h0
              · have : s.toList = [] := by rw [ByteArray.toList_eq]; exact List.eq_nil_of_length_eq_zero h0
                rw [this] at hE
                cases hE
              · exact h0
            have hp2 : (0 : Int) < (s.size : Int) := by omega
            go_wp2_with fail
            go_ret
            refine ⟨?_, hB⟩
            rw [HX.out, hE0, hE, hL, head_ne hp]
            rfl
theorem plain_so (w0 : World) : SoS plainT ⟨113, #[]⟩ w0 := sos_of (fun a w => by kernel_rfl) w0 fun s w _ _ => plain_any s w
end Go.Proofs.YtnalfjaojcahhaaGreatDoor
namespace Go.Proofs.YtnalfjaojcahhaaGreatDoor
open Go.RowKit Go.Lib Go.Proofs
attribute [local go_sem ↓] Go.wp_at_zero Go.wp_at_succ
attribute [local go_sem] fld_tok0 fld_tok1 fld_tok2

/-- How a function of the scanner's ends. -/
def PostS (X : Nat) (s : ByteArray) (nv : Value) (w : World) (i : Nat) (l : List Tok) (v : Value) (e : Ending) (w' : World) : Prop :=
  e = .returned v ∧ ScAt w' X s i l nv ∧ Below X w w'

set_option maxRecDepth 100000 in
set_option maxHeartbeats 4000000 in
theorem add_any (X : Nat) (s : ByteArray) (i : Nat) (l : List Tok) (nv : Value) (k : Int) (j : Nat) (hj : j ≤ i) (hl : l.length + 1 ≤ 65537) (w : World) (h : ScAt w X s i l nv) :
    Calls Tryz.prog 181 #[.pointer (some ⟨X, 0, none⟩), .int .i64 k, .int .i64 (j : Int)] w (PostS X s nv w i (l ++ [⟨k, s.extract j i, j⟩]) (.tuple #[])) := by
  obtain ⟨lv, hb, hO⟩ := h.out
  have hlt := hb.lt
  have hle := h.le
  have hmo := h.most
  obtain ⟨A0, c0, hlv, _⟩ := hO.form
  subst hlv
  obtain ⟨x0, x1, x2, x3, f0, f1, f2, f3⟩ := blk4 hb
  have p0 : (0 : Int) ≤ (j : Int) := by omega
  have p1 : (j : Int) ≤ (i : Int) := by omega
  have p2 : (i : Int) ≤ (s.size : Int) := by omega
  go_enter Tryz.func181, Tryz.ntmps181
  go_wp2_with fail
  go_region_law (first
    | (refine step_pushT (by rfl) (.tmp 10) (.tmp 24) (by rfl) (X + 1) _ _ l ⟨k, s.extract j i, j⟩ (by rfl) _ (by rfl) (by simp) (hO.below (Below.refl _ _).drew) (by simp; omega) (by omega) ?_
       intro g c w1 hO1 hB1
       have hb1 := (Blk.drew hb).below hB1 (Nat.lt_succ_self _)
       obtain ⟨z0, z1, z2, z3, y0, y1, y2, y3⟩ := blk4 hb1))
  all_goals
    go_end0
    exact ⟨rfl, h.row hb1 hO1 (by rw [List.length_append]; simpa using hl), ((Below.refl X w).drew.trans (hB1.mono (Nat.le_succ _))).setCell (Nat.le_refl _) _⟩
end Go.Proofs.YtnalfjaojcahhaaGreatDoor
namespace Go.Proofs.YtnalfjaojcahhaaGreatDoor
open Go.RowKit Go.Lib Go.Proofs
attribute [local go_sem ↓] Go.wp_at_zero Go.wp_at_succ

def wordRune (c : Int) : Bool := runeLetter c || runeFigure c
/-- How many bytes of a word stand ahead. -/
def wordLen (l : List UInt8) : Nat := (l.takeWhile fun c => wordRune (c.toNat : Int)).length
theorem takeWhile_at {α : Type} [Inhabited α] (p : α → Bool) : ∀ (l : List α) (j : Nat), j ≤ l.length → (∀ k, k < j → p (l.getD k default) = true) → (j < l.length → p (l.getD j default) = false) → (l.takeWhile p).length = j
  | [], j, h, _, _ => by simp at h; simp [h]
  | x :: l, 0, _, _, h => by
    have := h (by simp)
    rw [List.takeWhile_cons, if_neg (by simpa using this)]
    rfl
  | x :: l, j + 1, hj, h1, h2 => by
    have h0 := h1 0 (by omega)
    rw [List.takeWhile_cons, if_pos (by simpa using h0), List.length_cons, takeWhile_at p l j (by simpa using hj) (fun k hk => by simpa using h1 (k + 1) (by omega)) (fun h => by simpa using h2 (by simpa using h))]
theorem extract_drop (s : ByteArray) (i : Nat) : (s.extract i s.size).data.toList = s.data.toList.drop i := by
  rw [ByteArray.data_extract, Array.toList_extract]
  rw [List.extract_eq_take_drop]
  exact List.take_of_length_le (by rw [List.length_drop]; exact Nat.le_of_eq rfl)
theorem extract_size (s : ByteArray) (i : Nat) : (s.extract i s.size).size = s.size - i := by
  have := congrArg List.length (extract_drop s i)
  rw [List.length_drop] at this
  exact this

theorem ent_n1 (a : Array Value) (w : World) : (callFunc 180 a).run Tryz.prog w = .ok (.enter 180 a) w := by kernel_rfl
theorem ent_n2 (a : Array Value) (w : World) : (callFunc 182 a).run Tryz.prog w = .ok (.enter 182 a) w := by kernel_rfl
theorem n1_any (c : Int) (w : World) : Calls Tryz.prog 180 #[.int .i32 c] w fun e w' => e = .returned (.bool (wordRune c)) ∧ w = w' := by
  unfold wordRune
  cases hL : runeLetter c <;> cases hF : runeFigure c
  all_goals
    go_enter Tryz.func180, Tryz.ntmps180
    go_wp2_with fail
    refine (letter_any _ _).mono ?_
    rw [hL]
    rintro e w1 ⟨rfl, rfl⟩
    go_wp2_with fail
    try
      refine (figure_any _ _).mono ?_
      rw [hF]
      rintro e w1 ⟨rfl, rfl⟩
      go_wp2_with fail
    go_ret
    exact ⟨rfl, rfl⟩
theorem n2_any (c : Int) (w : World) : Calls Tryz.prog 182 #[.int .i32 c] w fun e w' => e = .returned (.bool (wordRune c)) ∧ w = w' := by
  unfold wordRune
  cases hL : runeLetter c <;> cases hF : runeFigure c
  all_goals
    go_enter Tryz.func182, Tryz.ntmps182
    go_wp2_with fail
    refine (letter_any _ _).mono ?_
    rw [hL]
    rintro e w1 ⟨rfl, rfl⟩
    go_wp2_with fail
    try
      refine (figure_any _ _).mono ?_
      rw [hF]
      rintro e w1 ⟨rfl, rfl⟩
      go_wp2_with fail
    go_ret
    exact ⟨rfl, rfl⟩
theorem wordRune_high {c : Int} (h : 128 ≤ c) : wordRune c = false := by
  unfold wordRune
  rw [runeLetter_high h, runeFigure_high h]
  rfl

set_option maxRecDepth 100000 in
set_option maxHeartbeats 4000000 in
theorem while_any (f : FuncId) (hf : ∀ a w, (callFunc f a).run Tryz.prog w = .ok (.enter f a) w) (hC : ∀ (c : Int) (w : World), Calls Tryz.prog f #[.int .i32 c] w fun e w' => e = .returned (.bool (wordRune c)) ∧ w = w')
    (X : Nat) (s : ByteArray) (i : Nat) (l : List Tok) (nv : Value) (w : World) (h : ScAt w X s i l nv) :
    Calls Tryz.prog 179 #[.pointer (some ⟨X, 0, none⟩), .func (.func f) #[] #[]] w (PostS X s nv w (i + wordLen (s.data.toList.drop i)) l (.tuple #[])) := by
  obtain ⟨lv, hb, hO⟩ := h.out
  have hlt := hb.lt
  have hle := h.le
  have hmo := h.most
  have HH := Lib.hid h
  obtain ⟨x0, x1, x2, x3, f0, f1, f2, f3⟩ := blk4 hb
  have p0 : (0 : Int) ≤ (i : Int) := by omega
  have p2 : (i : Int) ≤ (s.size : Int) := by omega
  go_enter Tryz.func179, Tryz.ntmps179
  go_upto_region 0 with fail
  go_cut [15] (fun s15 wx => ∃ b, s15 = .pointer (some ⟨b, 0, none⟩) ∧ wx.heap[b]? = some (.stringIter (s.extract i s.size) 0) ∧ w.heap.size ≤ b ∧ Below w.heap.size w wx)
  case first =>
    go_region_law (fail)
    all_goals go_wp2_with fail
    all_goals
      go_meet
      exact ⟨_, rfl, World.iter_heap w.drew _ 0, Nat.le_refl _, ((Below.refl w.heap.size w).drew.alloc (Nat.le_refl _) _)⟩
  case rest =>
    obtain ⟨b, rfl, hit, hbl, hBel⟩ := hcut
    have HT := Lib.hid (extract_drop s i)
    have HTS := Lib.hid (extract_size s i)
    generalize s.extract i s.size = t at *
    have hts : t.size = s.size - i := HTS.out
    clear x0 x1 x2 x3 f0 f1 f2 f3
    go_wp2_with fail
    go_loopg [4, 5, 16, 17] t.size (fun g _ _ _ _ wr => ∃ j : Nat, j ≤ t.size ∧ t.size - j ≤ g ∧ wr.heap[b]? = some (.stringIter t j) ∧ Below w.heap.size w wr ∧ (∀ k, k < j → wordRune ((t.data.toList.getD k 0).toNat : Int) = true))
    case atStart => exact ⟨0, Nat.zero_le _, by omega, hit, hBel, fun k hk => by omega⟩
    case round =>
      clear hit hBel
      obtain ⟨j, hj, hg, hit, hB, hall⟩ := hrel
      have HIT := Lib.hid hit
      have HA := Lib.hid hall
      clear hit hall
      by_cases hlt2 : j < t.size
      · have hw := decode_pos t j hlt2
        have hdc := decode_cases t j hlt2
        have hnext := fun ty => run_next_any_at (P := Tryz.prog) wr b t j ty HIT.out hlt2
        generalize hbb : (t.data.toList.getD j 0).toNat = bb at *
        generalize hd : Utf8.decode t j = q at *
        obtain ⟨r, k⟩ := q
        simp only at hw hnext hdc
        have hbad : wordRune (r : Int) = wordRune (bb : Int) ∧ (wordRune (r : Int) = true → k = 1) := by
          rcases hdc with ⟨e, _⟩ | ⟨h1, h2⟩
          · injection e with e1 e2
            subst e1 e2
            exact ⟨rfl, fun _ => rfl⟩
          · rw [wordRune_high (by omega), wordRune_high (by omega)]
            exact ⟨rfl, by simp⟩
        have HBB := Lib.hid hbb
        have HBAD := Lib.hid hbad
        have j1 := iterAt_heap wr b t j (j + k) HIT.out
        have j2 : Below w.heap.size w (wr.iterAt b t (j + k)) := iterAt_below hB hbl
        generalize wr.iterAt b t (j + k) = W1 at hnext j1 j2
        have J1 := Lib.hid j1
        have hB1 := HH.out.below j2
        obtain ⟨lv1, hb1, hO1⟩ := hB1.out
        obtain ⟨x0, x1, x2, x3, f0, f1, f2, f3⟩ := blk4 hb1
        clear hbad hdc j1 hd hbb
        cases hW : wordRune (r : Int) with
        | true =>
          have hk := HBAD.out.2 hW
          have HNEW := Lib.hid (show ∀ k', k' < j + k → wordRune ((t.data.toList.getD k' 0).toNat : Int) = true by
            intro k' hk'
            by_cases e : k' = j
            · subst e; rw [HBB.out, ← HBAD.out.1, hW]
            · exact HA.out k' (by omega))
          clear x0 x1 x2 x3 f0 f1 f2 f3 HBAD HA
          go_wp2_with fail
          refine (hC _ _).mono ?_
          rw [hW]
          rintro e w1 ⟨rfl, rfl⟩
          go_wp2_with fail
          go_roundg (t.size - (j + k))
          case measure => omega
          case rel => exact ⟨j + k, hw.2, Nat.le_refl _, J1.out, j2, HNEW.out⟩
        | false =>
          have HL := Lib.hid (show i + wordLen (s.data.toList.drop i) = i + j by
            rw [← HT.out]
            congr 1
            refine takeWhile_at _ _ j (by simpa using hj) (fun k' hk' => HA.out k' hk') (fun _ => ?_)
            have := HBAD.out.1
            rw [hW, ← HBB.out] at this
            exact this.symm)
          clear HBAD HA
          go_wp2_with fail
          refine (hC _ _).mono ?_
          rw [hW]
          rintro e w1 ⟨rfl, rfl⟩
          have q1 : IntKind.i64.wrap ((i : Int) + (j : Int)) = (i : Int) + (j : Int) := IntWalk.i64_in _ (by omega)
          go_wp2_with fail
          refine bodyPost_ret (results_none rfl _ _ _) rfl ?_
          rw [HL.out]
          have hset := hB1.set (i + j) (by omega)
          rw [show ((i + j : Nat) : Int) = (i : Int) + (j : Int) by omega] at hset
          exact ⟨rfl, hset, (j2.mono (Nat.le_of_lt hlt)).setCell (Nat.le_refl _) _⟩
      · have hjt : j = t.size := by omega
        have HL := Lib.hid (show i + wordLen (s.data.toList.drop i) = s.size by
          rw [← HT.out, show wordLen t.data.toList = j from takeWhile_at _ _ j (by simpa using hj) (fun k' hk' => HA.out k' hk') (fun h => absurd h (by rw [hjt]; simp))]
          omega)
        have hend := fun ty => run_next_end_at (P := Tryz.prog) wr b t j ty HIT.out hlt2
        have hB1 := HH.out.below hB
        obtain ⟨lv1, hb1, hO1⟩ := hB1.out
        obtain ⟨x0, x1, x2, x3, f0, f1, f2, f3⟩ := blk4 hb1
        go_wp2_with fail
        go_end0
        rw [HL.out]
        exact ⟨rfl, hB1.set s.size (Nat.le_refl _), (hB.mono (Nat.le_of_lt hlt)).setCell (Nat.le_refl _) _⟩
end Go.Proofs.YtnalfjaojcahhaaGreatDoor
namespace Go.Proofs.YtnalfjaojcahhaaGreatDoor
open Go.RowKit Go.Lib Go.Proofs
attribute [local go_sem ↓] Go.wp_at_zero Go.wp_at_succ
attribute [local go_sem] fld_tok0 fld_tok1 fld_tok2

def endSigns : ByteArray := (⟨#[32, 43, 43, 32, 45, 45, 32, 41, 32, 93, 32, 125, 32]⟩ : ByteArray)
/-- Does a line end behind this token? -/
def endsT (t : Tok) : Bool :=
  if t.kind = 1 ∨ t.kind = 4 ∨ t.kind = 5 then true
  else if t.kind = 2 ∨ t.kind = 3 then decide (t.text = (⟨#[98, 114, 101, 97, 107]⟩ : ByteArray)) || (decide (t.text = (⟨#[99, 111, 110, 116, 105, 110, 117, 101]⟩ : ByteArray)) || (decide (t.text = (⟨#[114, 101, 116, 117, 114, 110]⟩ : ByteArray)) || decide (t.text = (⟨#[102, 97, 108, 108, 116, 104, 114, 111, 117, 103, 104]⟩ : ByteArray))))
  else Lib.contains endSigns.data.toList ((⟨#[32]⟩ ++ t.text ++ ⟨#[32]⟩ : ByteArray)).data.toList
def lineEnds (l : List Tok) : Bool := match l.getLast? with
  | none => false
  | some t => endsT t

theorem OwnT.at_ {B : Nat} {w : World} {v : Value} {l : List Tok} (h : OwnT B w v l) (i : Nat) (hi : i < l.length) :
    ∃ g c, v = .slice (some ⟨g, 0, none⟩) l.length c ∧ B ≤ g ∧ g < w.heap.size ∧ w.cell? ⟨g, i * 3, none⟩ = some (.int .i64 l[i].kind) ∧ w.cell? ⟨g, i * 3 + 1, none⟩ = some (.string l[i].text) ∧ w.cell? ⟨g, i * 3 + 2, none⟩ = some (.int .i64 l[i].pos) := by
  obtain ⟨g, c, hv, hg, hlt⟩ := World.ownsRow.form h (by omega)
  obtain ⟨A, c', e, _⟩ := h.form
  rw [hv] at e
  injection e with e1 e2 e3
  subst e1 e3
  have hr := Reads.of_own (hv ▸ h : w.ownsRow B _ 3 (.slice (some ⟨g, 0, none⟩) l.length c) l.length (l.flatMap encT))
  obtain ⟨b, off, hA, hb, hc⟩ := hr.el encT_len (by omega) rfl hi
  injection hA with hA
  injection hA with e4 e5
  subst e4 e5
  have k0 := hc i hi 0 _ rfl
  have k1 := hc i hi 1 _ rfl
  have k2 := hc i hi 2 _ rfl
  simp only [Nat.zero_add, Nat.add_zero] at k0 k1 k2
  exact ⟨g, c, hv, hg, hlt, k0, k1, k2⟩

theorem blk3 {w : World} {g : Nat} {t : TypeId} {a b c : Value} (h : Blk w g t #[a, b, c]) : w.cell? ⟨g, 0, none⟩ = some a ∧ w.cell? ⟨g, 1, none⟩ = some b ∧ w.cell? ⟨g, 2, none⟩ = some c := by
  have c0 := h.cell 0
  have c1 := h.cell 1
  have c2 := h.cell 2
  simp at c0 c1 c2
  exact ⟨c0, c1, c2⟩

set_option maxRecDepth 100000 in
set_option maxHeartbeats 4000000 in
theorem scEnds_any (X : Nat) (s : ByteArray) (i : Nat) (l : List Tok) (nv : Value) (w : World) (h : ScAt w X s i l nv) (hT : Tab w) (hsz : ∀ t ∈ l, t.text.size ≤ 65536) :
    Calls Tryz.prog 185 #[.pointer (some ⟨X, 0, none⟩)] w fun e w' => e = .returned (.bool (lineEnds l)) ∧ Below w.heap.size w w' := by
  obtain ⟨lv, hb, hO⟩ := h.out
  have hlt := hb.lt
  have hfew := h.few
  obtain ⟨A0, c0, hlv, hcap⟩ := hO.form
  obtain ⟨x0, x1, x2, x3, -, -, -, -⟩ := blk4 hb
  rw [hlv] at x2
  by_cases hl : l.length = 0
  · have hE := Lib.hid (show lineEnds l = false by rw [List.eq_nil_of_length_eq_zero hl]; rfl)
    rw [hl] at x2
    go_enter Tryz.func185, Tryz.ntmps185
    go_wp2_with fail
    go_ret
    exact ⟨by rw [hE.out]; rfl, Below.refl _ _⟩
  · obtain ⟨g, c, hv, hg, hgl, k0, k1, k2⟩ := hO.at_ (l.length - 1) (by omega)
    rw [hlv] at hv
    injection hv with e1 e2 e3
    subst e1 e3
    have hlast : l.getLast? = some (l[l.length - 1]'(by omega)) := by rw [List.getLast?_eq_getElem?, List.getElem?_eq_getElem]
    have HE := Lib.hid (show lineEnds l = endsT (l[l.length - 1]'(by omega)) by unfold lineEnds; rw [hlast])
    have HSZ := Lib.hid (hsz _ (List.getElem_mem (show l.length - 1 < l.length by omega)))
    generalize l[l.length - 1]'(by omega) = t at *
    obtain ⟨tk, tt, tp⟩ := t
    simp only at k0 k1 k2
    have hne : ((l.length : Int) == 0) = false := by rw [beq_eq_false_iff_ne]; omega
    have p1 : (0 : Int) ≤ (l.length : Int) - 1 := by omega
    have p2 : (l.length : Int) - 1 < (l.length : Int) := by omega
    have p3 : (1 : Int) ≤ (l.length : Int) := by omega
    have q2 : ((l.length : Int) - 1).toNat = l.length - 1 := by omega
    have q1 : IntKind.i64.wrap ((l.length : Int) - 1) = (l.length : Int) - 1 := IntWalk.i64_in _ (by omega)
    have HT := Lib.hid hT
    clear hlast hT hsz
    go_enter Tryz.func185, Tryz.ntmps185
    go_upto_region 3 with fail
    go_cut [3] (fun s3 wx => ∃ b, s3 = .pointer (some ⟨b, 0, none⟩) ∧ Blk wx b 86 #[.int .i64 tk, .string tt, .int .i64 tp] ∧ Below w.heap.size w wx)
    case first =>
      go_region_law (fail)
      all_goals
        go_wp2_with fail
        go_meet
        exact ⟨_, rfl, (Blk.new _ _ _).drew, ((Below.refl _ _).alloc (Nat.le_refl _) _).drew⟩
    case rest =>
      obtain ⟨b, rfl, hB, hBel⟩ := hcut
      obtain ⟨y0, y1, y2⟩ := blk3 hB
      have HCO := Lib.hid (contains_any endSigns (⟨#[32]⟩ ++ tt ++ ⟨#[32]⟩) wc (HT.out.below hBel) (by unfold endSigns; simp [ByteArray.size]))
      clear k0 k1 k2 x0 x1 x2 x3 hB
      by_cases h1 : tk = 1 ∨ tk = 4 ∨ tk = 5
      · have HE1 := Lib.hid (show lineEnds l = true by rw [HE.out, endsT, if_pos h1])
        rcases h1 with rfl | rfl | rfl
        all_goals
          go_wp2_with fail
          go_ret
          exact ⟨by rw [HE1.out]; rfl, hBel⟩
      · by_cases h2 : tk = 2 ∨ tk = 3
        · have HE1 := Lib.hid (show lineEnds l = ((tt.toList == [98, 114, 101, 97, 107]) || ((tt.toList == [99, 111, 110, 116, 105, 110, 117, 101]) || ((tt.toList == [114, 101, 116, 117, 114, 110]) || (tt.toList == [102, 97, 108, 108, 116, 104, 114, 111, 117, 103, 104])))) by
            rw [HE.out, endsT, if_neg h1, if_pos h2, ← eq_list tt [98, 114, 101, 97, 107], ← eq_list tt [99, 111, 110, 116, 105, 110, 117, 101], ← eq_list tt [114, 101, 116, 117, 114, 110], ← eq_list tt [102, 97, 108, 108, 116, 104, 114, 111, 117, 103, 104]])
          cases g1 : (tt.toList == [98, 114, 101, 97, 107]) <;> cases g2 : (tt.toList == [99, 111, 110, 116, 105, 110, 117, 101]) <;> cases g3 : (tt.toList == [114, 101, 116, 117, 114, 110]) <;> cases g4 : (tt.toList == [102, 97, 108, 108, 116, 104, 114, 111, 117, 103, 104]) <;> rcases h2 with rfl | rfl
          all_goals
            rw [g1, g2, g3, g4] at HE1
            go_wp2_with fail
            go_ret
            exact ⟨by rw [HE1.out]; rfl, hBel⟩
        · have HE1 := Lib.hid (show lineEnds l = Lib.contains endSigns.data.toList ((⟨#[32]⟩ ++ tt ++ ⟨#[32]⟩ : ByteArray)).data.toList by rw [HE.out, endsT, if_neg h1, if_neg h2])
          generalize Lib.contains endSigns.data.toList ((⟨#[32]⟩ ++ tt ++ ⟨#[32]⟩ : ByteArray)).data.toList = q at *
          have e1 : (tk == 1) = false := by rw [beq_eq_false_iff_ne]; omega
          have e2 : (tk == 2) = false := by rw [beq_eq_false_iff_ne]; omega
          have e3 : (tk == 3) = false := by rw [beq_eq_false_iff_ne]; omega
          have e4 : (tk == 4) = false := by rw [beq_eq_false_iff_ne]; omega
          have e5 : (tk == 5) = false := by rw [beq_eq_false_iff_ne]; omega
          clear h1 h2
          unfold endSigns at HCO
          have hsz : tt.size ≤ 65536 := HSZ.out
          go_wp2_with fail
          refine HCO.out.mono ?_
          rintro e w2 ⟨rfl, rfl⟩
          go_wp2_with fail
          go_ret
          exact ⟨by rw [HE1.out]; rfl, hBel⟩
end Go.Proofs.YtnalfjaojcahhaaGreatDoor
