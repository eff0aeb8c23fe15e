/-
  In a right file's tree the kids that gate asks for are there. By an AI agent.
  DERIVED: THE SHELF's CONTRACTS AT THIS DUMP, IN PLAIN WORDS (tools/lay-plain.mjs out of 'TryzShelf.lean', which tools/lay-shelf.mjs wrote): THE SAME DECLARATIONS UNDER THE SAME NAMES: 'import', 'namespace', 'open', 'def', 'theorem' AND NOTHING ELSE: no command of the shelf's: FOR A HAND-IN. Each laying: the table of numbers ('.._ren') and one theorem, a field a fact of the dump's own or the kernel's comparison; each contract: ONE APPLICATION.
  slices.SortFunc and slices.CompactFunc at uses; gate.Uses. By an AI agent.
-/
import Derived.Test.YtnalfjaojcahhaaGreatDoorJ21
import Derived.Test.YtnalfjaojcahhaaGreatDoorProg
import Derived.Test.YtnalfjaojcahhaaGreatDoorJ29
import Derived.Test.YtnalfjaojcahhaaGreatDoorJ30
import Derived.Shelf.SlGeneric
import Derived.Ground.NamesProg
import Derived.Ground.SlsfProg
import Derived.Ground.SlgfProg
import Derived.Shelf.SlSortCmp.NoneTotal
namespace Go.Proofs.YtnalfjaojcahhaaGreatDoor

/-- The kids that are asked for, by the kind. -/
def ShapeK (k : Int) (m : Nat) : Prop := (k = 2 ∨ k = 4 → 1 ≤ m) ∧ (k = 3 ∨ k = 22 → 2 ≤ m)
mutual
def NeedA : Nd → Prop
  | .mk k _ l _ => ShapeK k l.length ∧ NeedL l
def NeedL : List Nd → Prop
  | [] => True
  | n :: l => NeedA n ∧ NeedL l
end
theorem needL_iff : ∀ l : List Nd, NeedL l ↔ ∀ k ∈ l, NeedA k
  | [] => by simp [NeedL]
  | n :: l => by rw [NeedL, needL_iff l]; simp
theorem needA_iff (n : Nd) : NeedA n ↔ ShapeK n.kind n.kids.length ∧ ∀ k ∈ n.kids, NeedA k := by
  cases n with
  | mk k t l a => rw [NeedA, needL_iff]; rfl
theorem NeedA.need : ∀ (g : Nat) (n : Nd), NeedA n → Need g n
  | 0, _, _ => trivial
  | g + 1, n, h => ⟨((needA_iff n).1 h).1, fun k hk => NeedA.need g k (((needA_iff n).1 h).2 k hk)⟩

theorem askAll_lens : ∀ (ps : List (Nd → Bool)) (ns : List Nd), askAll ps ns = true → ns.length = ps.length
  | [], [], _ => rfl
  | [], _ :: _, h => by simp [askAll] at h
  | _ :: _, [], h => by simp [askAll] at h
  | p :: ps, n :: ns, h => by
    simp only [askAll, Bool.and_eq_true] at h
    rw [List.length_cons, List.length_cons, askAll_lens ps ns h.2]
theorem askAll_mems : ∀ (ps : List (Nd → Bool)) (ns : List Nd), askAll ps ns = true → ∀ k ∈ ns, ∃ p ∈ ps, p k = true
  | [], [], _ => by simp
  | [], _ :: _, h => by simp [askAll] at h
  | _ :: _, [], h => by simp [askAll] at h
  | p :: ps, n :: ns, h => by
    simp only [askAll, Bool.and_eq_true] at h
    intro k hk
    rcases List.mem_cons.1 hk with rfl | hk
    · exact ⟨p, List.mem_cons_self, h.1⟩
    · obtain ⟨q, hq, e⟩ := askAll_mems ps ns h.2 k hk
      exact ⟨q, List.mem_cons_of_mem _ hq, e⟩
/-- A question whose yes tells that the kids are there. -/
def Tells (p : Nd → Bool) : Prop := ∀ n, p n = true → NeedA n
theorem na_ask {k : Int} {l : List (Nd → Bool)} {n : Nd} (hk : n.kind = k) (ha : askAll l n.kids = true) (hs : ShapeK k l.length) (hl : ∀ p ∈ l, Tells p) : NeedA n := by
  rw [needA_iff]
  refine ⟨by rw [hk, askAll_lens _ _ ha]; exact hs, fun m hm => ?_⟩
  obtain ⟨p, hp, e⟩ := askAll_mems _ _ ha m hm
  exact hl p hp m e
theorem na_of {k : Int} {l : List (Nd → Bool)} (hs : ShapeK k l.length) (hl : ∀ p ∈ l, Tells p) : Tells (ofT k l) := by
  intro n h
  unfold ofT at h
  simp only [Bool.and_eq_true, decide_eq_true_eq] at h
  exact na_ask h.1 h.2.2 hs hl
theorem na_named {k : Int} {l : List (Nd → Bool)} {so : ByteArray → Bool} (h37 : k ≠ 37) (hs : ShapeK k l.length) (hl : ∀ p ∈ l, Tells p) : Tells (fun n => ofT k l (namedT so n)) := by
  intro n h
  have h : ofT k l (namedT so n) = true := h
  unfold ofT namedT at h
  by_cases hn : so n.text = true
  · rw [if_pos hn] at h
    simp only [Bool.and_eq_true, decide_eq_true_eq] at h
    exact na_ask h.1 h.2.2 hs hl
  · rw [if_neg hn] at h
    simp only [Bool.and_eq_true, decide_eq_true_eq] at h
    exact absurd h.1.symm h37
theorem na_kids {n : Nd} {p : Nd → Bool} (h : n.kids.all p = true) (hs : ShapeK n.kind n.kids.length) (hp : Tells p) : NeedA n := by
  rw [needA_iff]
  exact ⟨hs, fun k hk => hp k (List.all_eq_true.1 h k hk)⟩
theorem na_empty : Tells emptyT := by
  intro n h
  unfold emptyT at h
  simp only [Bool.and_eq_true, decide_eq_true_eq] at h
  rw [needA_iff]
  refine ⟨by rw [h.1]; exact ⟨by omega, by omega⟩, ?_⟩
  rw [List.eq_nil_of_length_eq_zero h.2.2]
  simp
theorem na_or {a b : Nd → Bool} (ha : Tells a) (hb : Tells b) : Tells (orT a b) := by
  intro n h
  unfold orT at h
  rw [Bool.or_eq_true] at h
  exact h.elim (ha n) (hb n)
theorem shape_else {k : Int} {m : Nat} (h : k ≠ 2 ∧ k ≠ 3 ∧ k ≠ 4 ∧ k ≠ 22) : ShapeK k m := ⟨by omega, by omega⟩
theorem na_list {p : Nd → Bool} (hp : Tells p) : Tells (listT p) := by
  intro n h
  unfold listT at h
  simp only [Bool.and_eq_true, decide_eq_true_eq] at h
  exact na_kids h.2.2 (shape_else (by rw [h.1]; decide)) hp
theorem tells_nil : ∀ p ∈ ([] : List (Nd → Bool)), Tells p := by simp
theorem tells_cons {p : Nd → Bool} {l : List (Nd → Bool)} (h : Tells p) (hl : ∀ p ∈ l, Tells p) : ∀ q ∈ p :: l, Tells q := by
  intro q hq
  rcases List.mem_cons.1 hq with rfl | hq
  · exact h
  · exact hl q hq
structure OkN (F : TFns) : Prop where
  typ : Tells F.typ
  expr : Tells F.expr
  block : Tells F.block
  stmt : Tells F.stmt
  ifS : Tells F.ifS
section
variable {F : TFns}
theorem na_param (h : OkN F) (so : ByteArray → Bool) : Tells (paramT F so) := na_named (by decide) (shape_else (by decide)) (tells_cons h.typ tells_nil)
theorem na_sig (h : OkN F) (so : ByteArray → Bool) : Tells (sigT F so) := na_of (shape_else (by decide)) (tells_cons (na_list (na_param h so)) (tells_cons (na_or na_empty h.typ) tells_nil))
theorem na_isSig (h : OkN F) : Tells (isSigT F) := na_sig h nameT
theorem na_typ (h : OkN F) : Tells (typT F) := by
  intro n hn
  unfold typT at hn
  split at hn
  case isTrue hk =>
    rw [Bool.and_eq_true] at hn
    exact na_kids hn.2 (shape_else (by rw [hk]; decide)) h.typ
  case isFalse =>
    split at hn
    · exact na_of (shape_else (by decide)) (tells_cons h.typ tells_nil) n hn
    · split at hn
      · exact na_sig h _ n hn
      · cases hn
theorem na_term (h : OkN F) : Tells (termT F) := na_named (by decide) (shape_else (by decide)) (tells_cons h.typ tells_nil)
theorem na_inter (h : OkN F) : Tells (interT F) := by
  intro n hn
  unfold interT at hn
  simp only [Bool.and_eq_true, decide_eq_true_eq] at hn
  exact na_kids hn.2.2.2 (shape_else (by rw [hn.1]; decide)) (na_term h)
theorem na_field (h : OkN F) : Tells (fieldT F) := na_named (by decide) (shape_else (by decide)) (tells_cons h.typ tells_nil)
theorem na_struct (h : OkN F) : Tells (structT F) := by
  intro n hn
  unfold structT at hn
  simp only [Bool.and_eq_true, decide_eq_true_eq] at hn
  exact na_kids hn.2.2 (shape_else (by rw [hn.1]; decide)) (na_field h)
theorem na_named1 (h : OkN F) : Tells (named1T F) := by
  intro n hn
  unfold named1T at hn
  rw [Bool.and_eq_true] at hn
  exact h.typ n hn.2
theorem na_tparam (h : OkN F) : Tells (tparamT F) := na_named (by decide) (shape_else (by decide)) (tells_cons (na_or (na_named1 h) (na_inter h)) tells_nil)
theorem na_params (h : OkN F) : Tells (paramsT F) := na_list (na_tparam h)
theorem na_var (h : OkN F) : Tells (varT F) := by
  intro n hn
  unfold varT at hn
  rw [Bool.and_eq_true] at hn
  exact na_named (k := 5) (by decide) (shape_else (by decide)) (tells_cons (na_or na_empty h.typ) (tells_cons (na_or na_empty h.expr) tells_nil)) n hn.1
theorem na_decl (h : OkN F) : Tells (declT F) := by
  intro n hn
  unfold declT at hn
  split at hn
  · exact na_named (k := 2) (by decide) ⟨by simp, by simp⟩ (tells_cons (na_params h) (tells_cons (na_isSig h) (tells_cons h.block tells_nil))) n hn
  · split at hn
    · exact na_named (k := 3) (by decide) ⟨by simp, by simp⟩ (tells_cons (na_params h) (tells_cons (na_or (na_or h.typ (na_struct h)) (na_inter h)) tells_nil)) n hn
    · split at hn
      · exact na_named (k := 4) (by decide) ⟨by simp, by simp⟩ (tells_cons (na_params h) (tells_cons h.typ tells_nil)) n hn
      · exact na_var h n hn
theorem na_part (h : OkN F) : Tells (partT F) := by
  intro n hn
  unfold partT at hn
  rw [Bool.or_eq_true, Bool.and_eq_true] at hn
  exact hn.elim (h.expr n) (fun e => h.typ n e.2)
theorem na_expr (h : OkN F) : Tells (exprT F) := by
  intro n hn
  unfold exprT at hn
  split at hn
  · exact na_named (k := 16) (by decide) (shape_else (by decide)) tells_nil n hn
  split at hn
  · exact na_named (k := 17) (by decide) (shape_else (by decide)) tells_nil n hn
  split at hn
  · exact na_named (k := 18) (by decide) (shape_else (by decide)) tells_nil n hn
  split at hn
  · exact na_named (k := 19) (by decide) (shape_else (by decide)) (tells_cons h.expr tells_nil) n hn
  split at hn
  · exact na_named (k := 20) (by decide) (shape_else (by decide)) (tells_cons h.expr (tells_cons h.expr tells_nil)) n hn
  split at hn
  case isTrue hk =>
    simp only [Bool.and_eq_true, decide_eq_true_eq] at hn
    exact na_kids hn.2.2 (shape_else (by rw [hk]; decide)) h.expr
  split at hn
  case isTrue hk =>
    simp only [Bool.and_eq_true, decide_eq_true_eq] at hn
    obtain ⟨_, hl, h0, hr⟩ := hn
    rw [needA_iff]
    refine ⟨⟨by omega, fun _ => hl⟩, fun k hm => ?_⟩
    rcases hkk : n.kids with _ | ⟨z, zs⟩
    · rw [hkk] at hl; simp at hl
    · rw [hkk] at hm h0 hr
      rcases List.mem_cons.1 hm with rfl | hm
      · exact h.expr _ h0
      · exact na_part h k (List.all_eq_true.1 hr k hm)
  split at hn
  · exact na_named (k := 23) (by decide) (shape_else (by decide)) (tells_cons h.expr tells_nil) n hn
  split at hn
  case isTrue hk =>
    simp only [Bool.and_eq_true, decide_eq_true_eq] at hn
    obtain ⟨_, hl, _, h0, hr⟩ := hn
    rw [needA_iff]
    refine ⟨shape_else (by rw [hk]; decide), fun k hm => ?_⟩
    rcases hkk : n.kids with _ | ⟨z, zs⟩
    · rw [hkk] at hl; simp at hl
    · rw [hkk] at hm h0 hr
      rcases List.mem_cons.1 hm with rfl | hm
      · exact h.typ _ h0
      · exact h.expr k (List.all_eq_true.1 hr k hm)
  · exact na_of (shape_else (by decide)) (tells_cons (na_isSig h) (tells_cons h.block tells_nil)) n hn
theorem na_inc (h : OkN F) : Tells (incT F) := na_named (by decide) (shape_else (by decide)) (tells_cons h.expr tells_nil)
theorem na_set (h : OkN F) : Tells (setT F) := na_of (shape_else (by decide)) (tells_cons h.expr (tells_cons h.expr tells_nil))
theorem na_callX (h : OkN F) : Tells (callX F) := by
  intro n hn
  unfold callX at hn
  rw [Bool.and_eq_true] at hn
  exact h.expr n hn.2
theorem na_call (h : OkN F) : Tells (callT F) := na_of (shape_else (by decide)) (tells_cons (na_callX h) tells_nil)
theorem na_short (h : OkN F) : Tells (shortT F) := na_named (by decide) (shape_else (by decide)) (tells_cons h.expr tells_nil)
theorem na_block (h : OkN F) : Tells (blockT F) := by
  intro n hn
  unfold blockT at hn
  simp only [Bool.and_eq_true, decide_eq_true_eq] at hn
  exact na_kids hn.2.2 (shape_else (by rw [hn.1]; decide)) h.stmt
theorem na_if (h : OkN F) : Tells (ifT F) := na_of (shape_else (by decide)) (tells_cons h.expr (tells_cons h.block (tells_cons (na_or (na_or na_empty h.block) h.ifS) tells_nil)))
theorem na_stmt (h : OkN F) : Tells (stmtT F) := by
  intro n hn
  unfold stmtT at hn
  split at hn
  · exact na_var h n hn
  split at hn
  · exact na_short h n hn
  split at hn
  · exact na_set h n hn
  split at hn
  · exact na_inc h n hn
  split at hn
  · exact na_call h n hn
  split at hn
  · exact na_if h n hn
  split at hn
  · exact na_of (shape_else (by decide)) (tells_cons (na_or (na_or na_empty (na_short h)) (na_or (na_set h) (na_inc h))) (tells_cons (na_or na_empty h.expr) (tells_cons (na_or (na_or na_empty (na_set h)) (na_or (na_inc h) (na_call h))) (tells_cons h.block tells_nil)))) n hn
  split at hn
  · exact na_named (k := 32) (by decide) (shape_else (by decide)) (tells_cons h.expr (tells_cons h.block tells_nil)) n hn
  split at hn
  · exact na_of (shape_else (by decide)) (tells_cons (na_or na_empty h.expr) tells_nil) n hn
  split at hn
  case isTrue hk => exact na_of (shape_else (by omega)) tells_nil n hn
  · exact na_block h n hn
end
theorem okN : ∀ g : Nat, OkN (tfns g)
  | 0 => ⟨fun _ h => by simp [tfns] at h, fun _ h => by simp [tfns] at h, fun _ h => by simp [tfns] at h, fun _ h => by simp [tfns] at h, fun _ h => by simp [tfns] at h⟩
  | g + 1 => ⟨na_typ (okN g), na_expr (okN g), na_block (okN g), na_stmt (okN g), na_if (okN g)⟩
/-- A right file's nodes have their kids. -/
theorem need_right (n : Nd) (h : rightFile n = true) : NeedA n := by
  unfold rightFile at h
  simp only [Bool.and_eq_true] at h
  have h2 := h.2.2
  unfold fileT at h2
  simp only [Bool.and_eq_true, decide_eq_true_eq] at h2
  exact na_kids h2.2.2 (shape_else (by rw [h2.1]; decide)) (na_decl (okN 100))
end Go.Proofs.YtnalfjaojcahhaaGreatDoor
namespace Go.Proofs
open Go.Shelf
def Tryz.sortF_ren : Go.Shelf.Ren := ⟨fun | 6 => 25 | 15 => 53 | 14 => 52 | 28 => 86 | 29 => 87 | 20 => 78 | 21 => 79 | 22 => 80 | 23 => 81 | 24 => 82 | 25 => 83 | 26 => 84 | 27 => 85 | 46 => 127 | 47 => 128 | 48 => 129 | 49 => 130 | 50 => 131 | 57 => 175 | n => n, fun | 22 => 28 | 24 => 32 | 25 => 51 | 3 => 3 | 39 => 70 | 0 => 0 | 53 => 104 | 55 => 106 | 4 => 4 | 46 => 97 | 45 => 96 | 50 => 101 | 5 => 5 | 9 => 9 | 66 => 123 | 70 => 127 | 76 => 154 | 77 => 155 | n => n, fun | n => n⟩
theorem Tryz.sortF : Go.Proofs.SlLaysF0.n6 Tryz.prog Tryz.sortF_ren := {
  mixed := by kernel_rfl
  f6 := ⟨Tryz.f25.name, by decide, Tryz.func25.trans (congrArg some (by kernel_rfl))⟩
  f14 := ⟨Tryz.f52.name, by decide, Tryz.func52.trans (congrArg some (by kernel_rfl))⟩
  f15 := Tryz.func53.trans (congrArg some (by kernel_rfl))
  f20 := ⟨Tryz.f78.name, by decide, Tryz.func78.trans (congrArg some (by kernel_rfl))⟩
  f21 := ⟨Tryz.f79.name, by decide, Tryz.func79.trans (congrArg some (by kernel_rfl))⟩
  f22 := ⟨Tryz.f80.name, by decide, Tryz.func80.trans (congrArg some (by kernel_rfl))⟩
  f23 := ⟨Tryz.f81.name, by decide, Tryz.func81.trans (congrArg some (by kernel_rfl))⟩
  f24 := ⟨Tryz.f82.name, by decide, Tryz.func82.trans (congrArg some (by kernel_rfl))⟩
  f25 := ⟨Tryz.f83.name, by decide, Tryz.func83.trans (congrArg some (by kernel_rfl))⟩
  f26 := ⟨Tryz.f84.name, by decide, Tryz.func84.trans (congrArg some (by kernel_rfl))⟩
  f27 := ⟨Tryz.f85.name, by decide, Tryz.func85.trans (congrArg some (by kernel_rfl))⟩
  f28 := Tryz.func86.trans (congrArg some (by kernel_rfl))
  f29 := Tryz.func87.trans (congrArg some (by kernel_rfl))
  f46 := ⟨Tryz.f127.name, by decide, Tryz.func127.trans (congrArg some (by kernel_rfl))⟩
  f47 := Tryz.func128.trans (congrArg some (by kernel_rfl))
  f48 := Tryz.func129.trans (congrArg some (by kernel_rfl))
  f49 := ⟨Tryz.f130.name, by decide, Tryz.func130.trans (congrArg some (by kernel_rfl))⟩
  f50 := ⟨Tryz.f131.name, by decide, Tryz.func131.trans (congrArg some (by kernel_rfl))⟩
  f57 := ⟨Tryz.f175.name, by decide, Tryz.func175.trans (congrArg some (by kernel_rfl))⟩
  t0 := Tryz.underlying0
  a0 := Tryz.isAgg0
  z0 := Tryz.sizeOf0
  v0 := Tryz.zeroValue0
  t3 := Tryz.underlying3
  a3 := Tryz.isAgg3
  z3 := Tryz.sizeOf3
  v3 := Tryz.zeroValue3
  t4 := Tryz.underlying4
  a4 := Tryz.isAgg4
  z4 := Tryz.sizeOf4
  v4 := Tryz.zeroValue4
  t5 := Tryz.underlying5
  a5 := Tryz.isAgg5
  z5 := Tryz.sizeOf5
  v5 := Tryz.zeroValue5
  t9 := Tryz.underlying9
  a9 := Tryz.isAgg9
  z9 := Tryz.sizeOf9
  v9 := Tryz.zeroValue9
  t22 := Tryz.underlying28
  a22 := Tryz.isAgg28
  z22 := Tryz.sizeOf28
  v22 := Tryz.zeroValue28
  t25 := Tryz.underlying51
  a25 := Tryz.isAgg51
  z25 := Tryz.sizeOf51
  v25 := Tryz.zeroValue51
  t39 := Tryz.underlying70
  a39 := Tryz.isAgg70
  z39 := Tryz.sizeOf70
  v39 := Tryz.zeroValue70
  t45 := Tryz.underlying96
  a45 := Tryz.isAgg96
  z45 := Tryz.sizeOf96
  v45 := Tryz.zeroValue96
  t46 := Tryz.underlying97
  a46 := Tryz.isAgg97
  z46 := Tryz.sizeOf97
  v46 := Tryz.zeroValue97
  t50 := Tryz.underlying101
  a50 := Tryz.isAgg101
  z50 := Tryz.sizeOf101
  v50 := Tryz.zeroValue101
  t53 := Tryz.underlying104
  a53 := Tryz.isAgg104
  z53 := Tryz.sizeOf104
  v53 := Tryz.zeroValue104
  t55 := Tryz.underlying106
  a55 := Tryz.isAgg106
  z55 := Tryz.sizeOf106
  v55 := Tryz.zeroValue106
  t66 := Tryz.underlying123
  a66 := Tryz.isAgg123
  z66 := Tryz.sizeOf123
  v66 := Tryz.zeroValue123
  t70 := Tryz.underlying127
  a70 := Tryz.isAgg127
  z70 := Tryz.sizeOf127
  v70 := Tryz.zeroValue127
  t76 := Tryz.underlying154
  a76 := Tryz.isAgg154
  z76 := Tryz.sizeOf154
  v76 := Tryz.zeroValue154
  t77 := Tryz.underlying155
  a77 := Tryz.isAgg155
  z77 := Tryz.sizeOf155
  v77 := Tryz.zeroValue155 }
end Go.Proofs
namespace Go.Proofs.YtnalfjaojcahhaaGreatDoor
open Go.RowKit Go.Sort Go.Lib Go.Proofs
attribute [local go_sem ↓] Go.wp_at_zero Go.wp_at_succ

theorem cmpLays16 (blk off size : Nat) (w : World) : CmpLays Tryz.prog 26 #[] usC 2 cmpU blk off size w := fun _ _ _ _ x y => closure1 x y _

theorem sortFunc_any (g off cap : Nat) (d : Array Use1) (w : World) (hH : HoldsK usC 2 w g off d) (hblk : g < w.heap.size) (hsz : d.size ≤ 2000000) :
    Calls Tryz.prog 25 #[.slice (some ⟨g, off, none⟩) d.size cap, .func (.func 26) #[] #[]] w fun e w' => e = .returned (.tuple #[]) ∧ SWK usC 2 w g off (srt d.toList).toArray w' := by
  have eg : ∀ args w, (callFunc 26 args).run Tryz.prog w = .ok (.enter 26 args) w := enters_of Tryz.func26 (by kernel_rfl) rfl
  have hcon := AnyQ.slices_SortFunc_total Tryz.sortF 2 Tryz.isAgg32 Tryz.sizeOf32 usC usC_len usC_all cmpU swoU 26 #[] g off cap d w eg (cmpLays16 g off d.size w) hH hblk (by omega) totU
  change Calls Tryz.prog 25 _ _ _ at hcon
  exact hcon.mono fun e w' ⟨he, n, os, hw⟩ => ⟨he, n, os, hw⟩

theorem sortFunc_none (p : Option Addr) (cap : Nat) (w : World) :
    Calls Tryz.prog 25 #[.slice p 0 cap, .func (.func 26) #[] #[]] w fun e w' => e = .returned (.tuple #[]) ∧ w = w' := by
  have hcon := AnyF.slices_SortFunc_none Tryz.sortF p cap (.func (.func 26) #[] #[]) w
  change Calls Tryz.prog 25 _ _ _ at hcon
  exact hcon.mono fun e w' ⟨he, hw⟩ => ⟨he, hw.symm⟩

theorem compact_none (p : Option Addr) (cap : Nat) (w : World) :
    Calls Tryz.prog 29 #[.slice p 0 cap, .func (.func 30) #[] #[]] w fun e w' => e = .returned (.slice p 0 cap) ∧ w = w' := by
  go_enter Tryz.func29, Tryz.ntmps29
  go_wp2
  go_ret
  exact ⟨rfl, rfl⟩

/-- What is handed back: a slice that reads as a list. -/
def SliceU (w : World) (l : Us) (e : Ending) (w' : World) : Prop :=
  ∃ A c, e = .returned (.slice A l.length c) ∧ l.length ≤ c ∧ Reads w' w'.heap.size 2 A l.length (usesC l) ∧ Below w.heap.size w w'
/-- What a file needs, in order, each once. -/
def usesT (n : Nd) : Us := if rightFile n = true then sd (hereT 100 n) else []

set_option maxHeartbeats 2000000 in
theorem uses_any (v : Value) (n : Nd) (w : World) (hT : Tab w) (hv : NodeW w v n) (hw : Wee 101 n) (hc : (lefts 100 n).length ≤ 1000000000) :
    Calls Tryz.prog 11 #[v] w fun e w' => SliceU w (usesT n) e w' := by
  have HV0 := Lib.hid hv
  obtain ⟨A, cp, rfl, hC⟩ := hv.toC
  have hB := (Below.refl w.heap.size w).alloc (Nat.le_refl _) (.cells #[.int .i64 n.kind, .string n.text, .slice A n.kids.length cp, .int .i64 n.pos] 24)
  have b1 : Blk (w.alloc (.cells #[.int .i64 n.kind, .string n.text, .slice A n.kids.length cp, .int .i64 n.pos] 24)) w.heap.size 24 #[.int .i64 n.kind, .string n.text, .slice A n.kids.length cp, .int .i64 n.pos] := Blk.new w _ _
  have HR := Lib.hid (right_any _ n _ (hT.below hB) (HV0.out.below hB) hw hc)
  have HW := Lib.hid hw
  have HV := Lib.hid (HV0.out.below hB)
  clear hv hC HV0 hT hw hc
  go_enter Tryz.func11, Tryz.ntmps11
  go_wp2_with fail
  refine HR.out.mono ?_
  rintro e w1 ⟨rfl, hb1⟩
  have hB1 := hB.trans (hb1.mono hB.size)
  cases hr : rightFile n with
  | false =>
    have HU := Lib.hid (show usesT n = [] by unfold usesT; rw [if_neg (by rw [hr]; decide)])
    clear HR hr
    go_wp2_with fail
    go_ret
    rw [HU.out]
    exact ⟨none, 0, rfl, Nat.le_refl _, ⟨rfl, fun h => absurd h (Nat.lt_irrefl 0)⟩, hB1⟩
  | true =>
    have HU := Lib.hid (show usesT n = sd (hereT 100 n) by unfold usesT; rw [if_pos hr])
    obtain ⟨x0, x1, x2, x3, -, -, -, -⟩ := blk4 (b1.below hb1 (by simp))
    have hd : DLe 100 n := dle_of_depth (Wee.pred HW.out) (by
      unfold rightFile at hr
      simp only [Bool.and_eq_true, decide_eq_true_eq] at hr
      exact hr.1)
    have hs : (lefts 100 n).length ≤ 65536 := by
      unfold rightFile sizeT at hr
      simp only [Bool.and_eq_true, decide_eq_true_eq] at hr
      exact hr.2.1
    have HH := Lib.hid (here_any 100 _ n w1 (HV.out.below hb1) hd ((need_right n hr).need 100 n) (by omega))
    have hl2 := hereT_le 100 n
    have hlen : (hereT 100 n).length ≤ 200000 := by omega
    clear HR hr hl2 hd hs hb1 b1
    generalize hereT 100 n = xs at *
    go_wp2_with fail
    refine HH.out.mono ?_
    rintro e w2 ⟨⟨v2, rfl, hown⟩, hb2⟩
    have hB2 := hB1.trans (hb2.mono hB1.size)
    have hle := hB2.size
    clear HH x0 x1 x2 x3
    rcases Nat.eq_zero_or_pos xs.length with h0 | hpos
    · obtain rfl : xs = [] := List.eq_nil_of_length_eq_zero h0
      have hv : ∃ p cap, v2 = .slice p 0 cap := by
        obtain ⟨p, c, e, _⟩ := hown.form
        exact ⟨p, c, e⟩
      obtain ⟨p, cap, rfl⟩ := hv
      clear h0 hown hlen
      go_wp2_with fail
      refine (sortFunc_none _ _ _).mono ?_
      rintro e w3 ⟨rfl, rfl⟩
      go_wp2_with fail
      refine (compact_none _ _ _).mono ?_
      rintro e w3 ⟨rfl, rfl⟩
      go_wp2_with fail
      go_ret
      have e0 : sd [] = [] := by kernel_rfl
      rw [HU.out, e0]
      exact ⟨p, cap, rfl, Nat.zero_le _, ⟨rfl, fun h => absurd h (Nat.lt_irrefl 0)⟩, hB2⟩
    · obtain ⟨g, cap, rfl, hg, hlt⟩ := World.ownsRow.form hown hpos
      have hH := holdsK_of_own usC_len rfl hown
      have hcap : xs.length ≤ cap := by
        obtain ⟨_, _, e, h⟩ := hown.form
        injection e with _ _ e
        omega
      have HH := Lib.hid hH
      clear hown hH
      go_wp2_with fail
      have hs := sortFunc_any g 0 cap xs.toArray w2 HH.out hlt (by simp; omega)
      rw [show xs.toArray.size = xs.length by simp] at hs
      refine hs.mono ?_
      clear hs
      rintro e w3 ⟨rfl, hS⟩
      have hg2 : w.heap.size ≤ g := Nat.le_trans hB1.size hg
      have hb3 := SWK.below hS hg2 hle
      have hlt3 := hS.lt hlt
      have hH3 : HoldsK usC 2 w3 g 0 (srt xs).toArray := hS.holds hlt HH.out (by simp [srt_len])
      have HH3 := Lib.hid hH3
      clear hS hH3
      go_wp2_with fail
      have hc := compact_any g 0 cap (srt xs).toArray w3 HH3.out hlt3 (by simp [srt_len]; omega) (by simp [srt_len]; omega)
      rw [show (srt xs).toArray.size = xs.length by simp [srt_len]] at hc
      refine hc.mono ?_
      clear hc
      rintro e w4 hC
      obtain ⟨he, d', hs', hd', hS4⟩ := hC
      subst he
      have hb4 := SWK.below hS4 hg2 (Nat.le_trans hle hb3.size)
      have hr := reads_of_holds usC_len (hS4.holds hlt3 HH3.out hs') (m := (sd xs).length) rfl (fun j hj => hd' j (by simpa [sd] using hj)) (by rw [hs']; have := sd_len xs; simp [srt_len]; omega) (hS4.lt hlt3)
      have HR3 := Lib.hid hr
      have hsl := sd_len xs
      clear hr hd' hS4
      go_wp2_with fail
      go_ret
      rw [HU.out]
      exact ⟨some ⟨g, 0, none⟩, cap, by simp [sd], by omega, HR3.out, (hB2.trans hb3).trans hb4⟩
end Go.Proofs.YtnalfjaojcahhaaGreatDoor
