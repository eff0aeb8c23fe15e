/-
  The document's answer on uses, in plain Lean: a row with a use put into it, all uses of a right file; the same as gate's. By an AI agent.
  A right file needs something just if something new is in it, in plain Lean. By an AI agent.
  What a file needs is what files of one of its declarations each need, in plain Lean. By an AI agent.
  Slices of the document's uses, cut in two; rows of them. By an AI agent.
-/
import Derived.Test.YtnalfjaojcahhaaGreatDoorJ20
import Derived.Test.YtnalfjaojcahhaaGreatDoorJ21
import Derived.Test.YtnalfjaojcahhaaGreatDoorJ22
import Derived.Laws.Slices
namespace Go.Proofs.YtnalfjaojcahhaaGreatDoor
open Go.Sort Go.Lib

instance : DecidableRel ltU := fun x y => by unfold ltU; infer_instance

/-- A node and all in it, to a depth. -/
def allT : Nat → Nd → List Nd
  | 0, _ => []
  | g + 1, n => n :: n.kids.flatMap (allT g)
theorem allT_len : ∀ (g : Nat) (n : Nd), (allT g n).length = (lefts g n).length
  | 0, _ => rfl
  | g + 1, n => by
    rw [allT, lefts, List.length_cons, List.length_cons, List.length_flatMap, List.length_flatMap]
    congr 2
    exact List.map_congr_left fun k _ => allT_len g k
theorem hereT_all : ∀ (g : Nat) (n : Nd), hereT g n = (allT g n).flatMap hereN
  | 0, _ => rfl
  | g + 1, n => by
    rw [hereT, allT, List.flatMap_cons, List.flatMap_assoc]
    congr 1
    rw [List.flatMap_def, List.flatMap_def]
    congr 1
    exact List.map_congr_left fun k _ => hereT_all g k
theorem allT_deep : ∀ (g h : Nat) (n : Nd), DLe g n → g ≤ h → allT h n = allT g n
  | 0, _, _, hd, _ => hd.elim
  | g + 1, 0, _, _, hh => by omega
  | g + 1, h + 1, n, hd, hh => by
    rw [allT, allT, List.flatMap_def, List.flatMap_def]
    congr 2
    exact List.map_congr_left fun k hk => allT_deep g h k (hd.2 k hk) (by omega)

/-- A use among others, once. -/
def putU : Us → Use1 → Us
  | [], u => [u]
  | x :: l, u => if ltU x u then x :: putU l u else if x = u then x :: l else u :: x :: l
theorem mem_putU : ∀ (l : Us) (u x : Use1), x ∈ putU l u ↔ x = u ∨ x ∈ l
  | [], u, x => by simp [putU]
  | y :: l, u, x => by
    rw [putU]
    split
    · rw [List.mem_cons, mem_putU l u x, List.mem_cons]
      constructor
      · rintro (h | h | h)
        · exact .inr (.inl h)
        · exact .inl h
        · exact .inr (.inr h)
      · rintro (h | h | h)
        · exact .inr (.inl h)
        · exact .inl h
        · exact .inr (.inr h)
    · split
      · rename_i h
        subst h
        simp
      · simp
theorem putU_pair : ∀ {l : Us} (u : Use1), l.Pairwise ltU → (putU l u).Pairwise ltU
  | [], u, _ => by simp [putU]
  | y :: l, u, h => by
    obtain ⟨h1, h2⟩ := List.pairwise_cons.1 h
    rw [putU]
    split
    · rename_i hy
      refine List.pairwise_cons.2 ⟨fun x hx => ?_, putU_pair u h2⟩
      rcases (mem_putU l u x).1 hx with rfl | hx
      · exact hy
      · exact h1 x hx
    · split
      · exact h
      · rename_i hy hne
        have hu : ltU u y := by
          rcases ltU_tri u y with e | e | e
          · exact e
          · exact absurd e.symm hne
          · exact absurd e hy
        refine List.pairwise_cons.2 ⟨fun x hx => ?_, h⟩
        rcases List.mem_cons.1 hx with rfl | hx
        · exact hu
        · exact ltU_trans hu (h1 x hx)
theorem putU_at : ∀ (l : Us) (u : Use1) (i : Nat), i ≤ l.length → (∀ x ∈ l.take i, ltU x u) → (∀ x, l[i]? = some x → ¬ ltU x u) →
    putU l u = if l[i]? = some u then l else l.take i ++ u :: l.drop i
  | [], u, i, hi, _, _ => by
    obtain rfl : i = 0 := by simpa using hi
    simp [putU]
  | y :: l, u, 0, _, _, h2 => by
    have := h2 y rfl
    rw [putU, if_neg this]
    by_cases e : y = u
    · simp [e]
    · simp [e]
  | y :: l, u, i + 1, hi, h1, h2 => by
    have hy : ltU y u := h1 y (by simp)
    rw [putU, if_pos hy, putU_at l u i (by simpa using hi) (fun x hx => h1 x (by simp [hx])) (fun x hx => h2 x (by simpa using hx))]
    rw [List.getElem?_cons_succ]
    split
    · rfl
    · simp
theorem putU_len (l : Us) (u : Use1) : (putU l u).length ≤ l.length + 1 := by
  induction l with
  | nil => simp [putU]
  | cons x l ih =>
    rw [putU]
    split
    · simp; omega
    · split <;> simp
/-- All uses of these nodes. -/
def putsU (l : Us) (us : Us) : Us := us.foldl putU l
theorem putsU_pair : ∀ {l : Us} (us : Us), l.Pairwise ltU → (putsU l us).Pairwise ltU
  | _, [], h => h
  | _, u :: us, h => putsU_pair us (putU_pair u h)
theorem mem_putsU : ∀ (us l : Us) (x : Use1), x ∈ putsU l us ↔ x ∈ l ∨ x ∈ us
  | [], l, x => by simp [putsU]
  | u :: us, l, x => by
    show x ∈ putsU (putU l u) us ↔ _
    rw [mem_putsU us, mem_putU, List.mem_cons]
    constructor
    · rintro ((h | h) | h)
      · exact .inr (.inl h)
      · exact .inl h
      · exact .inr (.inr h)
    · rintro (h | h | h)
      · exact .inl (.inr h)
      · exact .inl (.inl h)
      · exact .inr h
theorem putsU_len : ∀ (us l : Us), (putsU l us).length ≤ l.length + us.length
  | [], l => by simp [putsU]
  | u :: us, l => by
    show (putsU (putU l u) us).length ≤ _
    have := putsU_len us (putU l u)
    have := putU_len l u
    rw [List.length_cons]
    omega
theorem putsU_sd (us : Us) : putsU [] us = sd us := pair_unique (putsU_pair us List.Pairwise.nil) (sd_pair us) fun x => by rw [mem_putsU, mem_sd]; simp
/-- What the document tells of a right file. -/
def rusesT (n : Nd) : Us := putsU [] ((allT 200 n).flatMap hereN)
theorem rusesT_eq (n : Nd) (h : DLe 100 n) : rusesT n = sd (hereT 100 n) := by
  rw [rusesT, putsU_sd, hereT_all, allT_deep 100 200 n h (by decide)]
end Go.Proofs.YtnalfjaojcahhaaGreatDoor
namespace Go.Proofs.YtnalfjaojcahhaaGreatDoor

/-- Is a node itself new? -/
def newsN (n : Nd) : Bool :=
  if n.kind = 7 ∨ n.kind = 14 then true
  else if n.kind = 10 then decide (0 < n.kids.length)
  else if n.kind = 22 then decide (2 < n.kids.length ∨ (n.kids.getD 1 nd0).kind = 11 ∨ (n.kids.getD 1 nd0).kind = 12)
  else false
def useN (n : Nd) : Bool := decide (0 < (hereN n).length)
mutual
def newsA : Nd → Bool
  | .mk k t l a => newsN (.mk k t l a) || newsL l
def newsL : List Nd → Bool
  | [] => false
  | n :: l => newsA n || newsL l
end
mutual
def useA : Nd → Bool
  | .mk k t l a => useN (.mk k t l a) || useL l
def useL : List Nd → Bool
  | [] => false
  | n :: l => useA n || useL l
end
theorem newsL_any : ∀ l : List Nd, newsL l = l.any newsA
  | [] => rfl
  | n :: l => by rw [newsL, newsL_any l]; rfl
theorem useL_any : ∀ l : List Nd, useL l = l.any useA
  | [] => rfl
  | n :: l => by rw [useL, useL_any l]; rfl
theorem newsA_eq (n : Nd) : newsA n = (newsN n || n.kids.any newsA) := by
  cases n with
  | mk k t l a => rw [newsA, newsL_any]; rfl
theorem useA_eq (n : Nd) : useA n = (useN n || n.kids.any useA) := by
  cases n with
  | mk k t l a => rw [useA, useL_any]; rfl
theorem any_flatMap {α β : Type} (f : α → List β) (p : β → Bool) (l : List α) : (l.flatMap f).any p = l.any fun x => (f x).any p := by
  induction l with
  | nil => rfl
  | cons x l ih => rw [List.flatMap_cons, List.any_append, ih]; rfl
theorem any_congr' {α : Type} {p q : α → Bool} {l : List α} (h : ∀ x ∈ l, p x = q x) : l.any p = l.any q := by
  induction l with
  | nil => rfl
  | cons x l ih => rw [List.any_cons, List.any_cons, h x List.mem_cons_self, ih fun y hy => h y (List.mem_cons_of_mem _ hy)]
theorem allT_news : ∀ (g : Nat) (n : Nd), DLe g n → (allT g n).any newsN = newsA n
  | 0, _, h => h.elim
  | g + 1, n, h => by
    rw [allT, List.any_cons, newsA_eq, any_flatMap]
    congr 1
    exact any_congr' fun k hk => allT_news g k (h.2 k hk)
theorem allT_use : ∀ (g : Nat) (n : Nd), DLe g n → (allT g n).any useN = useA n
  | 0, _, h => h.elim
  | g + 1, n, h => by
    rw [allT, List.any_cons, useA_eq, any_flatMap]
    congr 1
    exact any_congr' fun k hk => allT_use g k (h.2 k hk)
theorem flat_pos {α β : Type} (f : α → List β) (l : List α) : decide (0 < (l.flatMap f).length) = l.any fun x => decide (0 < (f x).length) := by
  induction l with
  | nil => rfl
  | cons x l ih =>
    rw [List.flatMap_cons, List.any_cons, ← ih, List.length_append, Bool.eq_iff_iff]
    simp only [decide_eq_true_eq, Bool.or_eq_true]
    omega

/-- A question whose yes tells that what is new is what is needed. -/
def Same (p : Nd → Bool) : Prop := ∀ n, p n = true → newsA n = useA n
/-- Kinds that are neither declarations nor new in themselves. -/
def KindS (k : Int) : Prop := k ≠ 2 ∧ k ≠ 3 ∧ k ≠ 4 ∧ k ≠ 7 ∧ k ≠ 14
theorem same_own {n : Nd} (h : KindS n.kind) : newsN n = useN n := by
  obtain ⟨h2, h3, h4, h7, h14⟩ := h
  unfold newsN useN hereN
  rw [if_neg (by omega), if_neg (show ¬ (n.kind = 2 ∨ n.kind = 3 ∨ n.kind = 4) by omega)]
  split
  · split <;> simp_all
  · split
    · split <;> simp_all
    · rfl
theorem sa_kidsAll {n : Nd} (h : KindS n.kind) (hl : ∀ k ∈ n.kids, newsA k = useA k) : newsA n = useA n := by
  rw [newsA_eq, useA_eq, same_own h, any_congr' hl]
theorem sa_ask {k : Int} {l : List (Nd → Bool)} {n : Nd} (hk : n.kind = k) (ha : askAll l n.kids = true) (hs : KindS k) (hl : ∀ p ∈ l, Same p) : newsA n = useA n := by
  refine sa_kidsAll (by rw [hk]; exact hs) fun m hm => ?_
  obtain ⟨p, hp, e⟩ := askAll_mems _ _ ha m hm
  exact hl p hp m e
theorem sa_of {k : Int} {l : List (Nd → Bool)} (hs : KindS k) (hl : ∀ p ∈ l, Same p) : Same (ofT k l) := by
  intro n h
  unfold ofT at h
  simp only [Bool.and_eq_true, decide_eq_true_eq] at h
  exact sa_ask h.1 h.2.2 hs hl
theorem named_ask {k : Int} {l : List (Nd → Bool)} {so : ByteArray → Bool} (h37 : k ≠ 37) {n : Nd} (h : ofT k l (namedT so n) = true) : n.kind = k ∧ askAll l n.kids = true := by
  unfold ofT namedT at h
  by_cases hn : so n.text = true
  · rw [if_pos hn] at h
    simp only [Bool.and_eq_true, decide_eq_true_eq] at h
    exact ⟨h.1, h.2.2⟩
  · rw [if_neg hn] at h
    simp only [Bool.and_eq_true, decide_eq_true_eq] at h
    exact absurd h.1.symm h37
theorem sa_named {k : Int} {l : List (Nd → Bool)} {so : ByteArray → Bool} (h37 : k ≠ 37) (hs : KindS k) (hl : ∀ p ∈ l, Same p) : Same (fun n => ofT k l (namedT so n)) := by
  intro n h
  obtain ⟨h1, h2⟩ := named_ask h37 h
  exact sa_ask h1 h2 hs hl
theorem sa_kids {n : Nd} {p : Nd → Bool} (h : n.kids.all p = true) (hs : KindS n.kind) (hp : Same p) : newsA n = useA n :=
  sa_kidsAll hs fun k hk => hp k (List.all_eq_true.1 h k hk)
theorem sa_empty : Same emptyT := by
  intro n h
  unfold emptyT at h
  simp only [Bool.and_eq_true, decide_eq_true_eq] at h
  refine sa_kidsAll (by rw [h.1]; unfold KindS; omega) ?_
  rw [List.eq_nil_of_length_eq_zero h.2.2]
  simp
theorem sa_or {a b : Nd → Bool} (ha : Same a) (hb : Same b) : Same (orT a b) := by
  intro n h
  unfold orT at h
  rw [Bool.or_eq_true] at h
  exact h.elim (ha n) (hb n)
theorem sa_list {p : Nd → Bool} (hp : Same p) : Same (listT p) := by
  intro n h
  unfold listT at h
  simp only [Bool.and_eq_true, decide_eq_true_eq] at h
  exact sa_kids h.2.2 (by rw [h.1]; unfold KindS; omega) hp
theorem same_nil : ∀ p ∈ ([] : List (Nd → Bool)), Same p := by simp
theorem same_cons {p : Nd → Bool} {l : List (Nd → Bool)} (h : Same p) (hl : ∀ p ∈ l, Same p) : ∀ q ∈ p :: l, Same q := by
  intro q hq
  rcases List.mem_cons.1 hq with rfl | hq
  · exact h
  · exact hl q hq
structure OkS (F : TFns) : Prop where
  typ : Same F.typ
  expr : Same F.expr
  block : Same F.block
  stmt : Same F.stmt
  ifS : Same F.ifS
theorem ks {k : Int} (h : k ≠ 2 ∧ k ≠ 3 ∧ k ≠ 4 ∧ k ≠ 7 ∧ k ≠ 14) : KindS k := h
section
variable {F : TFns}
theorem sa_param (h : OkS F) (so : ByteArray → Bool) : Same (paramT F so) := sa_named (by decide) (ks (by decide)) (same_cons h.typ same_nil)
theorem sa_sig (h : OkS F) (so : ByteArray → Bool) : Same (sigT F so) := sa_of (ks (by decide)) (same_cons (sa_list (sa_param h so)) (same_cons (sa_or sa_empty h.typ) same_nil))
theorem sa_isSig (h : OkS F) : Same (isSigT F) := sa_sig h nameT
theorem sa_typ (h : OkS F) : Same (typT F) := by
  intro n hn
  unfold typT at hn
  split at hn
  case isTrue hk =>
    rw [Bool.and_eq_true] at hn
    exact sa_kids hn.2 (ks (by rw [hk]; decide)) h.typ
  case isFalse =>
    split at hn
    · exact sa_of (ks (by decide)) (same_cons h.typ same_nil) n hn
    · split at hn
      · exact sa_sig h _ n hn
      · cases hn
theorem sa_field (h : OkS F) : Same (fieldT F) := sa_named (by decide) (ks (by decide)) (same_cons h.typ same_nil)
theorem sa_struct (h : OkS F) : Same (structT F) := by
  intro n hn
  unfold structT at hn
  simp only [Bool.and_eq_true, decide_eq_true_eq] at hn
  exact sa_kids hn.2.2 (ks (by rw [hn.1]; decide)) (sa_field h)
theorem sa_var (h : OkS F) : Same (varT F) := by
  intro n hn
  unfold varT at hn
  rw [Bool.and_eq_true] at hn
  exact sa_named (k := 5) (by decide) (ks (by decide)) (same_cons (sa_or sa_empty h.typ) (same_cons (sa_or sa_empty h.expr) same_nil)) n hn.1
theorem list3 {a b c : Nd → Bool} {l : List Nd} (h : askAll [a, b, c] l = true) : ∃ x y z, l = [x, y, z] ∧ a x = true ∧ b y = true ∧ c z = true := by
  rcases l with _ | ⟨x, _ | ⟨y, _ | ⟨z, _ | ⟨u, l⟩⟩⟩⟩ <;> simp [askAll] at h
  exact ⟨x, y, z, rfl, h.1, h.2.1, h.2.2⟩
theorem list2 {a b : Nd → Bool} {l : List Nd} (h : askAll [a, b] l = true) : ∃ x y, l = [x, y] ∧ a x = true ∧ b y = true := by
  rcases l with _ | ⟨x, _ | ⟨y, _ | ⟨z, l⟩⟩⟩ <;> simp [askAll] at h
  exact ⟨x, y, rfl, h.1, h.2⟩
/-- Parameters of types: none, or something new. -/
theorem params_two {x : Nd} (h : paramsT F x = true) : (x.kids = [] ∧ newsA x = false ∧ useA x = false) ∨ (x.kids ≠ [] ∧ newsA x = true) := by
  unfold paramsT listT at h
  simp only [Bool.and_eq_true, decide_eq_true_eq] at h
  have hk : KindS x.kind := ks (by rw [h.1]; decide)
  rcases hx : x.kids with _ | ⟨y, ys⟩
  · left
    have hn : newsA x = useA x := sa_kidsAll hk (by rw [hx]; simp)
    refine ⟨rfl, ?_, ?_⟩
    · rw [newsA_eq, hx]
      unfold newsN
      simp [h.1]
    · rw [useA_eq, hx]
      unfold useN hereN
      simp [h.1]
  · right
    refine ⟨by simp, ?_⟩
    have hy := List.all_eq_true.1 h.2.2 y (by rw [hx]; simp)
    obtain ⟨hy1, -⟩ := named_ask (k := 7) (by decide) hy
    rw [newsA_eq, hx, List.any_cons, newsA_eq y]
    simp [newsN, hy1]
theorem headU_pos (n : Nd) : 0 < (headU n).length ↔ (n.kids.getD 0 nd0).kids ≠ [] := by
  unfold headU
  split
  · rename_i h; rw [h]; simp
  · rename_i h; rw [h]; simp
theorem inter_news {n : Nd} (h : n.kind = 14) : newsA n = true := by rw [newsA_eq]; simp [newsN, h]
theorem sa_decl (h : OkS F) : Same (declT F) := by
  intro n hn
  unfold declT at hn
  split at hn
  case isTrue h2 =>
    obtain ⟨-, ha⟩ := named_ask (k := 2) (by decide) hn
    obtain ⟨x, y, z, e, hx, hy, hz⟩ := list3 ha
    rw [newsA_eq, useA_eq, e]
    simp only [List.any_cons, List.any_nil, sa_isSig h y hy, h.block z hz]
    have hu : useN n = decide (x.kids ≠ []) := by
      unfold useN hereN interU
      rw [if_pos (.inl h2), if_neg (by omega), List.append_nil, decide_eq_decide, headU_pos, e]
      rfl
    have hnn : newsN n = false := by unfold newsN; simp [h2]
    rw [hu, hnn]
    rcases params_two hx with ⟨e1, e2, e3⟩ | ⟨e1, e2⟩
    · simp [e1, e2, e3]
    · simp [e1, e2]
  split at hn
  case isTrue h3 =>
    obtain ⟨-, ha⟩ := named_ask (k := 3) (by decide) hn
    obtain ⟨x, y, e, hx, hy⟩ := list2 ha
    rw [newsA_eq, useA_eq, e]
    simp only [List.any_cons, List.any_nil]
    have hu : useN n = (decide (x.kids ≠ []) || decide (y.kind = 14)) := by
      unfold useN hereN interU
      rw [if_pos (.inr (.inl h3)), List.length_append, e, Bool.eq_iff_iff]
      simp only [Bool.or_eq_true, decide_eq_true_eq, List.getD_eq_getElem?_getD, List.getElem?_cons_succ, List.getElem?_cons_zero, Option.getD_some]
      have hh := headU_pos n
      rw [e] at hh
      simp only [List.getD_eq_getElem?_getD, List.getElem?_cons_zero, Option.getD_some] at hh
      rw [← hh]
      by_cases hyk : y.kind = 14
      · simp [h3, hyk]
      · simp [h3, hyk]
    have hnn : newsN n = false := by unfold newsN; simp [h3]
    rw [hu, hnn]
    have hyy : newsA y = (decide (y.kind = 14) || useA y) := by
      by_cases hyk : y.kind = 14
      · rw [inter_news hyk]; simp [hyk]
      · have hs : newsA y = useA y := by
          unfold orT at hy
          rw [Bool.or_eq_true, Bool.or_eq_true] at hy
          rcases hy with (hy | hy) | hy
          · exact h.typ y hy
          · exact sa_struct h y hy
          · unfold interT at hy
            simp only [Bool.and_eq_true, decide_eq_true_eq] at hy
            exact absurd hy.1 hyk
        simp [hyk, hs]
    rw [hyy]
    rcases params_two hx with ⟨e1, e2, e3⟩ | ⟨e1, e2⟩
    · simp [e1, e2, e3]
    · simp [e1, e2]
  split at hn
  case isTrue h4 =>
    obtain ⟨-, ha⟩ := named_ask (k := 4) (by decide) hn
    obtain ⟨x, y, e, hx, hy⟩ := list2 ha
    rw [newsA_eq, useA_eq, e]
    simp only [List.any_cons, List.any_nil, h.typ y hy]
    have hu : useN n = decide (x.kids ≠ []) := by
      unfold useN hereN interU
      rw [if_pos (.inr (.inr h4)), if_neg (by omega), List.append_nil, decide_eq_decide, headU_pos, e]
      rfl
    have hnn : newsN n = false := by unfold newsN; simp [h4]
    rw [hu, hnn]
    rcases params_two hx with ⟨e1, e2, e3⟩ | ⟨e1, e2⟩
    · simp [e1, e2, e3]
    · simp [e1, e2]
  · exact sa_var h n hn
theorem sa_part (h : OkS F) : Same (partT F) := by
  intro n hn
  unfold partT at hn
  rw [Bool.or_eq_true, Bool.and_eq_true] at hn
  exact hn.elim (h.expr n) (fun e => h.typ n e.2)
theorem sa_expr (h : OkS F) : Same (exprT F) := by
  intro n hn
  unfold exprT at hn
  split at hn
  · exact sa_named (k := 16) (by decide) (ks (by decide)) same_nil n hn
  split at hn
  · exact sa_named (k := 17) (by decide) (ks (by decide)) same_nil n hn
  split at hn
  · exact sa_named (k := 18) (by decide) (ks (by decide)) same_nil n hn
  split at hn
  · exact sa_named (k := 19) (by decide) (ks (by decide)) (same_cons h.expr same_nil) n hn
  split at hn
  · exact sa_named (k := 20) (by decide) (ks (by decide)) (same_cons h.expr (same_cons h.expr same_nil)) n hn
  split at hn
  case isTrue hk =>
    simp only [Bool.and_eq_true, decide_eq_true_eq] at hn
    exact sa_kids hn.2.2 (ks (by rw [hk]; decide)) h.expr
  split at hn
  case isTrue hk =>
    simp only [Bool.and_eq_true, decide_eq_true_eq] at hn
    obtain ⟨_, hl, h0, hr⟩ := hn
    refine sa_kidsAll (ks (by rw [hk]; decide)) fun k hm => ?_
    rcases hkk : n.kids with _ | ⟨z, zs⟩
    · rw [hkk] at hl; simp at hl
    · rw [hkk] at hm h0 hr
      rcases List.mem_cons.1 hm with rfl | hm
      · exact h.expr _ h0
      · exact sa_part h k (List.all_eq_true.1 hr k hm)
  split at hn
  · exact sa_named (k := 23) (by decide) (ks (by decide)) (same_cons h.expr same_nil) n hn
  split at hn
  case isTrue hk =>
    simp only [Bool.and_eq_true, decide_eq_true_eq] at hn
    obtain ⟨_, hl, _, h0, hr⟩ := hn
    refine sa_kidsAll (ks (by rw [hk]; decide)) fun k hm => ?_
    rcases hkk : n.kids with _ | ⟨z, zs⟩
    · rw [hkk] at hl; simp at hl
    · rw [hkk] at hm h0 hr
      rcases List.mem_cons.1 hm with rfl | hm
      · exact h.typ _ h0
      · exact h.expr k (List.all_eq_true.1 hr k hm)
  · exact sa_of (ks (by decide)) (same_cons (sa_isSig h) (same_cons h.block same_nil)) n hn
theorem sa_inc (h : OkS F) : Same (incT F) := sa_named (by decide) (ks (by decide)) (same_cons h.expr same_nil)
theorem sa_set (h : OkS F) : Same (setT F) := sa_of (ks (by decide)) (same_cons h.expr (same_cons h.expr same_nil))
theorem sa_callX (h : OkS F) : Same (callX F) := by
  intro n hn
  unfold callX at hn
  rw [Bool.and_eq_true] at hn
  exact h.expr n hn.2
theorem sa_call (h : OkS F) : Same (callT F) := sa_of (ks (by decide)) (same_cons (sa_callX h) same_nil)
theorem sa_short (h : OkS F) : Same (shortT F) := sa_named (by decide) (ks (by decide)) (same_cons h.expr same_nil)
theorem sa_block (h : OkS F) : Same (blockT F) := by
  intro n hn
  unfold blockT at hn
  simp only [Bool.and_eq_true, decide_eq_true_eq] at hn
  exact sa_kids hn.2.2 (ks (by rw [hn.1]; decide)) h.stmt
theorem sa_if (h : OkS F) : Same (ifT F) := sa_of (ks (by decide)) (same_cons h.expr (same_cons h.block (same_cons (sa_or (sa_or sa_empty h.block) h.ifS) same_nil)))
theorem sa_stmt (h : OkS F) : Same (stmtT F) := by
  intro n hn
  unfold stmtT at hn
  split at hn
  · exact sa_var h n hn
  split at hn
  · exact sa_short h n hn
  split at hn
  · exact sa_set h n hn
  split at hn
  · exact sa_inc h n hn
  split at hn
  · exact sa_call h n hn
  split at hn
  · exact sa_if h n hn
  split at hn
  · exact sa_of (ks (by decide)) (same_cons (sa_or (sa_or sa_empty (sa_short h)) (sa_or (sa_set h) (sa_inc h))) (same_cons (sa_or sa_empty h.expr) (same_cons (sa_or (sa_or sa_empty (sa_set h)) (sa_or (sa_inc h) (sa_call h))) (same_cons h.block same_nil)))) n hn
  split at hn
  · exact sa_named (k := 32) (by decide) (ks (by decide)) (same_cons h.expr (same_cons h.block same_nil)) n hn
  split at hn
  · exact sa_of (ks (by decide)) (same_cons (sa_or sa_empty h.expr) same_nil) n hn
  split at hn
  case isTrue hk => exact sa_of (ks (by omega)) same_nil n hn
  · exact sa_block h n hn
end
theorem okS : ∀ g : Nat, OkS (tfns g)
  | 0 => ⟨fun _ h => by simp [tfns] at h, fun _ h => by simp [tfns] at h, fun _ h => by simp [tfns] at h, fun _ h => by simp [tfns] at h, fun _ h => by simp [tfns] at h⟩
  | g + 1 => ⟨sa_typ (okS g), sa_expr (okS g), sa_block (okS g), sa_stmt (okS g), sa_if (okS g)⟩
/-- In a right file what is new is what is needed. -/
theorem same_right (n : Nd) (h : rightFile n = true) : newsA n = useA n := by
  unfold rightFile at h
  simp only [Bool.and_eq_true] at h
  have h2 := h.2.2
  unfold fileT at h2
  simp only [Bool.and_eq_true, decide_eq_true_eq] at h2
  exact sa_kids h2.2.2 (ks (by rw [h2.1]; decide)) (sa_decl (okS 100))
theorem sd_pos (l : Us) : decide (0 < (sd l).length) = decide (0 < l.length) := by
  rw [decide_eq_decide]
  constructor
  · intro h
    have := sd_len l
    omega
  · intro h
    obtain ⟨x, hx⟩ := List.exists_mem_of_length_pos h
    exact List.length_pos_of_mem (mem_sd.2 hx)
theorem old_right (n : Nd) (h : rightFile n = true) (hd : DLe 100 n) : decide (0 < (sd (hereT 100 n)).length) = (allT 200 n).any newsN := by
  rw [sd_pos, hereT_all, flat_pos, allT_deep 100 200 n hd (by decide), allT_news 100 n hd, same_right n h, ← allT_use 100 n hd]
  rfl
end Go.Proofs.YtnalfjaojcahhaaGreatDoor
namespace Go.Proofs.YtnalfjaojcahhaaGreatDoor

theorem mem_len_le {α β : Type} (f : α → List β) : ∀ {l : List α} {x : α}, x ∈ l → (f x).length ≤ (l.flatMap f).length
  | [], _, h => by simp at h
  | y :: l, x, h => by
    rw [List.flatMap_cons, List.length_append]
    rcases List.mem_cons.1 h with rfl | h
    · omega
    · have := mem_len_le f h
      omega
def partN (n k : Nd) : Nd := .mk 1 n.text [k] 0
theorem right_kind {n : Nd} (h : rightFile n = true) : n.kind = 1 ∧ nameT n.text = true ∧ n.kids.all (declT (tfns 100)) = true := by
  unfold rightFile at h
  simp only [Bool.and_eq_true] at h
  have h2 := h.2.2
  unfold fileT at h2
  simp only [Bool.and_eq_true, decide_eq_true_eq] at h2
  exact h2
theorem right_depth {n : Nd} (h : rightFile n = true) : depthT n ≤ 100 := by
  unfold rightFile at h
  simp only [Bool.and_eq_true, decide_eq_true_eq] at h
  exact h.1
theorem right_size {n : Nd} (h : rightFile n = true) : sizeT 100 n ≤ 65536 := by
  unfold rightFile at h
  simp only [Bool.and_eq_true, decide_eq_true_eq] at h
  exact h.2.1
theorem right_part {n k : Nd} (h : rightFile n = true) (hk : k ∈ n.kids) : rightFile (partN n k) = true := by
  obtain ⟨h1, h2, h3⟩ := right_kind h
  have hd := right_depth h
  have hs := right_size h
  have hsub : ∀ g, ∀ x ∈ lefts g (partN n k), x ∈ lefts g n := by
    intro g
    cases g with
    | zero => intro x hx; simp [lefts] at hx
    | succ g =>
      intro x hx
      rw [lefts] at hx ⊢
      rcases List.mem_cons.1 hx with rfl | hx
      · exact List.mem_cons_self
      · have hx' : x ∈ lefts g k := by simpa [partN] using hx
        exact List.mem_cons_of_mem _ (List.mem_flatMap.2 ⟨k, hk, hx'⟩)
  have e1 : depthT (partN n k) ≤ 100 := by
    unfold depthT at hd ⊢
    rw [foldl_max_iff] at hd ⊢
    exact ⟨hd.1, fun x hx => hd.2 x (hsub 101 x hx)⟩
  have e2 : sizeT 100 (partN n k) ≤ 65536 := by
    unfold sizeT at hs ⊢
    refine Nat.le_trans ?_ hs
    rw [lefts, lefts, List.length_cons, List.length_cons]
    have := mem_len_le (lefts 99) hk
    rw [show (partN n k).kids = [k] from rfl, List.flatMap_cons, List.flatMap_nil, List.append_nil]
    omega
  have e3 : fileT (tfns 100) (partN n k) = true := by
    unfold fileT
    have := List.all_eq_true.1 h3 k hk
    simp [partN, h2, this]
  unfold rightFile
  simp [e1, e2, e3]
theorem hereN_file {n : Nd} (h : n.kind = 1) : hereN n = [] := by simp [hereN, h]
theorem usesT_right {n : Nd} (h : rightFile n = true) : usesT n = sd (hereT 100 n) := if_pos h
theorem part_mem {n k : Nd} (h : rightFile n = true) (hk : k ∈ n.kids) (x : Use1) : x ∈ usesT (partN n k) ↔ x ∈ hereT 99 k := by
  rw [usesT_right (right_part h hk), mem_sd, hereT, hereN_file (n := partN n k) rfl]
  simp [partN]
/-- What a file needs is what its declarations need. -/
theorem uses_parts {n : Nd} (h : rightFile n = true) (x : Use1) : x ∈ usesT n ↔ ∃ k ∈ n.kids, x ∈ usesT (partN n k) := by
  rw [usesT_right h, mem_sd, hereT, hereN_file (right_kind h).1, List.nil_append, List.mem_flatMap]
  constructor
  · rintro ⟨k, hk, hx⟩
    exact ⟨k, hk, (part_mem h hk x).2 hx⟩
  · rintro ⟨k, hk, hx⟩
    exact ⟨k, hk, (part_mem h hk x).1 hx⟩
theorem usesT_not {n : Nd} (h : rightFile n = false) : usesT n = [] := by unfold usesT; rw [h]; rfl
end Go.Proofs.YtnalfjaojcahhaaGreatDoor
namespace Go.Proofs.YtnalfjaojcahhaaGreatDoor
open Go.RowKit

theorem infoUr : (Tryz.prog.info? 39).map (fun i => (i.zero, i.size, i.bytes)) = some (some (.agg #[.int .i64 0, .int .i64 0]), 2, 16) := by kernel_rfl
theorem elemUr : Tryz.prog.underlying 37 = some (.slice (Tryz.prog.elem 37)) := by kernel_rfl
theorem elemUe : Tryz.prog.elem 37 = 39 := by kernel_rfl
theorem sizeUr (w : World) : (sizeOf (Tryz.prog.elem 37)).run Tryz.prog w = .ok 2 w := by rw [elemUe]; exact Tryz.sizeOf39 w
theorem add_zero_ (A : Option Addr) : A.map (·.add 0) = A := by cases A <;> rfl
theorem front_ur (A : Option Addr) (q c k : Nat) (hk : k ≤ q) (hq : q ≤ c) (W : World) : (Instr.slice 37 (.slice A q c) none (some (.int .i64 (k : Int))) none).run Tryz.prog W = .ok (.slice A k c) W := by
  rw [run_slice_h (P := Tryz.prog) W 37 A q c elemUr .i64 (k : Int) (by omega) (by omega), sizeUr]
  simp only [Result.andThen, sliced, Nat.zero_mul, add_zero_, ite_self, Int.toNat_natCast, Nat.sub_zero]
theorem back_ur (A : Option Addr) (q c k : Nat) (hk : k ≤ q) (hq : q ≤ c) : ∃ A', (∀ W : World, (Instr.slice 37 (.slice A q c) (some (.int .i64 (k : Int))) none none).run Tryz.prog W = .ok (.slice A' (q - k) (c - k)) W) ∧
    ∀ (w : World) (B : Nat) (xs : List Value), Reads w B 2 A q xs → Reads w B 2 A' (q - k) (xs.drop (k * 2)) := by
  refine ⟨if c = k then A else A.map (·.add (k * 2)), fun W => ?_, fun w B xs h => h.cut hk hq⟩
  rw [run_slice_l (P := Tryz.prog) W 37 A q c elemUr .i64 (k : Int) (by omega) (by omega), sizeUr]
  simp only [Result.andThen, sliced, Int.toNat_natCast]
theorem own_less {w : World} {base base' : Nat} {e : TypeId} {size : Nat} {v : Value} {n : Nat} {xs : List Value} (h : w.ownsRow base e size v n xs) (hb : base' ≤ base) : w.ownsRow base' e size v n xs := by
  obtain ⟨h1, h2⟩ := h
  refine ⟨h1, ?_⟩
  rcases h2 with h2 | ⟨g, cap, cur, a, b, r⟩
  · exact .inl h2
  · exact .inr ⟨g, cap, cur, a, Nat.le_trans hb b, r⟩
theorem flat_take {α : Type} {enc : α → List Value} {sz : Nat} (hs : ∀ x, (enc x).length = sz) (ys : List α) (k : Nat) (hk : k ≤ ys.length) : (ys.flatMap enc).take (k * sz) = (ys.take k).flatMap enc ∧ (ys.flatMap enc).drop (k * sz) = (ys.drop k).flatMap enc := by
  have e : ys.flatMap enc = (ys.take k).flatMap enc ++ (ys.drop k).flatMap enc := by rw [← List.flatMap_append, List.take_append_drop]
  have hl : ((ys.take k).flatMap enc).length = k * sz := by rw [flat_len hs, List.length_take, Nat.min_eq_left hk]
  rw [e]
  exact ⟨by rw [← hl, List.take_left], by rw [← hl, List.drop_left]⟩
theorem Reads.front {w : World} {B size n : Nat} {A : Option Addr} {xs : List Value} (h : Reads w B size A n xs) {k : Nat} (hk : k ≤ n) : Reads w B size A k (xs.take (k * size)) := by
  refine ⟨by rw [List.length_take, h.1, Nat.min_eq_left (Nat.mul_le_mul_right _ hk)], fun hn => ?_⟩
  obtain ⟨ad, rfl, hb, hcell⟩ := h.2 (by omega)
  refine ⟨ad, rfl, hb, fun j u hu => hcell j u ?_⟩
  rw [List.getElem?_take] at hu
  split at hu
  · exact hu
  · cases hu
theorem empty_ur (w : World) : (w.alloc (.cells #[] 39)).ownsRow w.heap.size 39 2 (.slice (some ⟨w.heap.size, 0, none⟩) 0 0) 0 [] :=
  ⟨by simp, .inr ⟨w.heap.size, 0, #[], rfl, Nat.le_refl _, heap_alloc_new w _, Nat.le_refl _, by unfold maxLen; omega, by simp, by simp⟩⟩
theorem le_alloc_ (w : World) (o : Obj) : w.heap.size ≤ (w.alloc o).heap.size := by rw [World.size_alloc]; exact Nat.le_succ _
theorem empty_ur' (w : World) (o : Obj) : ((w.alloc o).alloc (.cells #[] 39)).ownsRow w.heap.size 39 2 (.slice (some ⟨w.heap.size + 1, 0, none⟩) 0 0) 0 [] := by
  have h := own_less (empty_ur (w.alloc o)) (le_alloc_ w o)
  rw [World.size_alloc] at h
  exact h
theorem own_slice {w : World} {base : Nat} {e : TypeId} {size n : Nat} {v : Value} {xs : List Value} (h : w.ownsRow base e size v n xs) : ∃ A c, v = .slice A n c ∧ n ≤ c ∧ Reads w w.heap.size size A n xs := by
  have h2 := h.2
  rcases h2 with ⟨rfl, rfl⟩ | ⟨g, cap, cur, rfl, _, _, hc, _⟩
  · exact ⟨none, 0, rfl, Nat.le_refl _, h.1, fun h => absurd h (by omega)⟩
  · exact ⟨_, cap, rfl, hc, Reads.of_own h⟩
end Go.Proofs.YtnalfjaojcahhaaGreatDoor
