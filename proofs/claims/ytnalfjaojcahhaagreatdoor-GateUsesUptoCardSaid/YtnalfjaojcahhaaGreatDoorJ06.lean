/-
  What 'tree' asks of a node, as plain functions: depths are counted by a number that goes down. By an AI agent.
  Questions about nodes as function values; what they answer. By an AI agent.
  The argument of a law on a node, opened: the value reads as a tree, which is no greater than the reading's bulk. By an AI agent.
  What every row of the gate's asks beside its walk: a world for the witness, the search's bound out of the world's shape. By an AI agent.
  The scanner in memory: its state; add. By an AI agent.
  DERIVED: THE SHELF's CONTRACTS AT THIS DUMP, IN PLAIN WORDS (tools/lay-plain.mjs out of 'TryzShelf.lean', which tools/lay-shelf.mjs wrote): THE SAME DECLARATIONS UNDER THE SAME NAMES: 'import', 'namespace', 'open', 'def', 'theorem' AND NOTHING ELSE: no command of the shelf's: FOR A HAND-IN. Each laying: the table of numbers ('.._ren') and one theorem, a field a fact of the dump's own or the kernel's comparison; each contract: ONE APPLICATION.
-/
import Derived.Test.YtnalfjaojcahhaaGreatDoorJ00
import Derived.Test.YtnalfjaojcahhaaGreatDoorJ05
import Derived.Test.YtnalfjaojcahhaaGreatDoorRows
import Derived.Test.YtnalfjaojcahhaaGreatDoorCards
import Derived.Test.YtnalfjaojcahhaaGreatDoorTie
import Derived.Test.YtnalfjaojcahhaaGreatDoorProg
import Derived.Lib.IndexMore
import Derived.Lib.SmallJoins
import Derived.Deep.RegionLaw
import Derived.Ground.NamesProg
import Derived.Shelf.Lays
import Derived.Shelf.Strings.Search3
import Derived.Shelf.Strings.Cut
import Derived.Shelf.Strings.Prefix
import Derived.Shelf.Small.Strs
namespace Go.Proofs.YtnalfjaojcahhaaGreatDoor

def letterB (c : UInt8) : Bool := c == 95 || ((decide (97 ≤ c) && decide (c ≤ 122)) || (decide (65 ≤ c) && decide (c ≤ 90)))
def figureB (c : UInt8) : Bool := decide (48 ≤ c) && decide (c ≤ 57)
def words1 : List ByteArray := [(⟨#[98, 114, 101, 97, 107]⟩ : ByteArray), (⟨#[99, 111, 110, 116, 105, 110, 117, 101]⟩ : ByteArray), (⟨#[101, 108, 115, 101]⟩ : ByteArray), (⟨#[102, 111, 114]⟩ : ByteArray), (⟨#[102, 117, 110, 99]⟩ : ByteArray), (⟨#[105, 102]⟩ : ByteArray), (⟨#[105, 109, 112, 111, 114, 116]⟩ : ByteArray), (⟨#[105, 110, 116, 101, 114, 102, 97, 99, 101]⟩ : ByteArray), (⟨#[112, 97, 99, 107, 97, 103, 101]⟩ : ByteArray), (⟨#[114, 97, 110, 103, 101]⟩ : ByteArray), (⟨#[114, 101, 116, 117, 114, 110]⟩ : ByteArray), (⟨#[115, 116, 114, 117, 99, 116]⟩ : ByteArray), (⟨#[116, 121, 112, 101]⟩ : ByteArray), (⟨#[118, 97, 114]⟩ : ByteArray)]
def words2 : List ByteArray := [(⟨#[99, 97, 115, 101]⟩ : ByteArray), (⟨#[99, 104, 97, 110]⟩ : ByteArray), (⟨#[99, 111, 110, 115, 116]⟩ : ByteArray), (⟨#[100, 101, 102, 97, 117, 108, 116]⟩ : ByteArray), (⟨#[100, 101, 102, 101, 114]⟩ : ByteArray), (⟨#[102, 97, 108, 108, 116, 104, 114, 111, 117, 103, 104]⟩ : ByteArray), (⟨#[103, 111]⟩ : ByteArray), (⟨#[103, 111, 116, 111]⟩ : ByteArray), (⟨#[109, 97, 112]⟩ : ByteArray), (⟨#[115, 101, 108, 101, 99, 116]⟩ : ByteArray), (⟨#[115, 119, 105, 116, 99, 104]⟩ : ByteArray)]
def wordN (s : ByteArray) : Int := if words1.any (fun x => decide (s = x)) then 1 else if words2.any (fun x => decide (s = x)) then 2 else 0
def nameChars : List UInt8 → Bool
  | [] => true
  | c :: r => letterB c && r.all fun c => letterB c || figureB c
def tokName (s : ByteArray) : Bool := nameChars s.data.toList && (decide (s ≠ (⟨#[]⟩ : ByteArray)) && decide (wordN s = 0))
def nameT (s : ByteArray) : Bool := decide (s.size ≤ 100) && tokName s
def boundT (s : ByteArray) : Bool := nameT s && decide (s ≠ (⟨#[95]⟩ : ByteArray))
def plainT (s : ByteArray) : Bool := s.data.toList.all figureB && (decide (s = (⟨#[48]⟩ : ByteArray)) || (decide (s ≠ (⟨#[]⟩ : ByteArray)) && (decide (s.size ≤ 200) && decide (s.data.toList.head? ≠ some 48))))
def emptyT (n : Nd) : Bool := decide (n.kind = 0) && (decide (n.text = (⟨#[]⟩ : ByteArray)) && decide (n.kids.length = 0))

/-- The questions, one by one. -/
def askAll : List (Nd → Bool) → List Nd → Bool
  | [], [] => true
  | p :: ps, n :: ns => p n && askAll ps ns
  | _, _ => false
def ofT (k : Int) (l : List (Nd → Bool)) (n : Nd) : Bool := decide (n.kind = k) && (decide (n.text = (⟨#[]⟩ : ByteArray)) && askAll l n.kids)
def namedT (so : ByteArray → Bool) (n : Nd) : Nd := if so n.text then .mk n.kind (⟨#[]⟩ : ByteArray) n.kids n.pos else .mk 37 (⟨#[]⟩ : ByteArray) [] 0
def listT (so : Nd → Bool) (n : Nd) : Bool := decide (n.kind = 6) && (decide (n.text = (⟨#[]⟩ : ByteArray)) && n.kids.all so)
def orT (a b : Nd → Bool) (n : Nd) : Bool := a n || b n

/-- What is asked of nodes of less depth. -/
structure TFns where
  typ : Nd → Bool
  expr : Nd → Bool
  block : Nd → Bool
  stmt : Nd → Bool
  ifS : Nd → Bool
section
variable (F : TFns)
def paramT (so : ByteArray → Bool) (p : Nd) : Bool := ofT 8 [F.typ] (namedT so p)
def sigT (so : ByteArray → Bool) (n : Nd) : Bool := ofT 12 [listT (paramT F so), orT emptyT F.typ] n
def isSigT (n : Nd) : Bool := sigT F nameT n
def noText (s : ByteArray) : Bool := decide (s = (⟨#[]⟩ : ByteArray))
def typT (n : Nd) : Bool :=
  if n.kind = 10 then nameT n.text && n.kids.all F.typ
  else if n.kind = 11 then ofT 11 [F.typ] n
  else if n.kind = 12 then sigT F noText n
  else false
def tildeT (s : ByteArray) : Bool := decide (s = (⟨#[]⟩ : ByteArray)) || decide (s = (⟨#[126]⟩ : ByteArray))
def termT (t : Nd) : Bool := ofT 15 [F.typ] (namedT tildeT t)
def interT (n : Nd) : Bool := decide (n.kind = 14) && (decide (n.text = (⟨#[]⟩ : ByteArray)) && (decide (0 < n.kids.length) && n.kids.all (termT F)))
def fieldT (f : Nd) : Bool := ofT 9 [F.typ] (namedT nameT f)
def structT (n : Nd) : Bool := decide (n.kind = 13) && (decide (n.text = (⟨#[]⟩ : ByteArray)) && n.kids.all (fieldT F))
def named1T (c : Nd) : Bool := decide (c.kind = 10) && F.typ c
def tparamT (p : Nd) : Bool := ofT 7 [orT (named1T F) (interT F)] (namedT nameT p)
def paramsT (n : Nd) : Bool := listT (tparamT F) n
def varT (n : Nd) : Bool := ofT 5 [orT emptyT F.typ, orT emptyT F.expr] (namedT nameT n) && (!(emptyT (n.kids.getD 0 nd0)) || !(emptyT (n.kids.getD 1 nd0)))
def declT (n : Nd) : Bool :=
  if n.kind = 2 then ofT 2 [paramsT F, isSigT F, F.block] (namedT nameT n)
  else if n.kind = 3 then ofT 3 [paramsT F, orT (orT F.typ (structT F)) (interT F)] (namedT nameT n)
  else if n.kind = 4 then ofT 4 [paramsT F, F.typ] (namedT nameT n)
  else varT F n
def signText : List UInt8 := ((⟨#[43, 32, 45, 32, 42, 32, 47, 32, 37, 32, 61, 61, 32, 33, 61, 32, 60, 32, 60, 61, 32, 62, 32, 62, 61, 32, 38, 38, 32, 124, 124, 32]⟩ : ByteArray).data.toList)
def binaryT (s : ByteArray) : Bool := decide (s ≠ (⟨#[]⟩ : ByteArray)) && (!(Lib.contains s.data.toList [32]) && Lib.contains (32 :: signText) (32 :: (s.data.toList ++ [32])))
def unaryT (s : ByteArray) : Bool := decide (s = (⟨#[45]⟩ : ByteArray)) || decide (s = (⟨#[33]⟩ : ByteArray))
def shortStr (s : ByteArray) : Bool := decide (s.size ≤ 1000)
def partT (k : Nd) : Bool := F.expr k || (decide (k.kind ≠ 10) && F.typ k)
def exprT (n : Nd) : Bool :=
  if n.kind = 16 then ofT 16 [] (namedT plainT n)
  else if n.kind = 17 then ofT 17 [] (namedT shortStr n)
  else if n.kind = 18 then ofT 18 [] (namedT nameT n)
  else if n.kind = 19 then ofT 19 [F.expr] (namedT unaryT n)
  else if n.kind = 20 then ofT 20 [F.expr, F.expr] (namedT binaryT n)
  else if n.kind = 21 then decide (n.text = (⟨#[]⟩ : ByteArray)) && (decide (0 < n.kids.length) && n.kids.all F.expr)
  else if n.kind = 22 then decide (n.text = (⟨#[]⟩ : ByteArray)) && (decide (1 < n.kids.length) && (F.expr (n.kids.getD 0 nd0) && (n.kids.drop 1).all (partT F)))
  else if n.kind = 23 then ofT 23 [F.expr] (namedT nameT n)
  else if n.kind = 24 then decide (n.text = (⟨#[]⟩ : ByteArray)) && (decide (0 < n.kids.length) && (decide ((n.kids.getD 0 nd0).kind ≠ 12) && (F.typ (n.kids.getD 0 nd0) && (n.kids.drop 1).all F.expr)))
  else ofT 25 [isSigT F, F.block] n
def cutT (s : ByteArray) : List UInt8 × List UInt8 × Bool := Lib.cut s.data.toList [44]
def rangedT (s : ByteArray) : Bool :=
  decide (s = (⟨#[]⟩ : ByteArray)) || (((cutT s).2.2 && (nameT ⟨(cutT s).1.toArray⟩ && boundT ⟨(cutT s).2.1.toArray⟩)) || (!(cutT s).2.2 && boundT ⟨(cutT s).1.toArray⟩))
def stepT (s : ByteArray) : Bool := decide (s = (⟨#[43, 43]⟩ : ByteArray)) || decide (s = (⟨#[45, 45]⟩ : ByteArray))
def incT (n : Nd) : Bool := ofT 28 [F.expr] (namedT stepT n)
def setT (n : Nd) : Bool := ofT 27 [F.expr, F.expr] n
def callX (x : Nd) : Bool := decide (x.kind = 21) && F.expr x
def callT (n : Nd) : Bool := ofT 29 [callX F] n
def shortT (n : Nd) : Bool := ofT 26 [F.expr] (namedT boundT n)
def blockT (n : Nd) : Bool := decide (n.kind = 36) && (decide (n.text = (⟨#[]⟩ : ByteArray)) && n.kids.all F.stmt)
def ifT (n : Nd) : Bool := ofT 30 [F.expr, F.block, orT (orT emptyT F.block) F.ifS] n
def stmtT (n : Nd) : Bool :=
  if n.kind = 5 then varT F n
  else if n.kind = 26 then shortT F n
  else if n.kind = 27 then setT F n
  else if n.kind = 28 then incT F n
  else if n.kind = 29 then callT F n
  else if n.kind = 30 then ifT F n
  else if n.kind = 31 then ofT 31 [orT (orT emptyT (shortT F)) (orT (setT F) (incT F)), orT emptyT F.expr, orT (orT emptyT (setT F)) (orT (incT F) (callT F)), F.block] n
  else if n.kind = 32 then ofT 32 [F.expr, F.block] (namedT rangedT n)
  else if n.kind = 33 then ofT 33 [orT emptyT F.expr] n
  else if n.kind = 34 ∨ n.kind = 35 then ofT n.kind [] n
  else blockT F n
def fileT (n : Nd) : Bool := decide (n.kind = 1) && (nameT n.text && n.kids.all (declT F))
end
/-- The questions, at nodes of so much depth. -/
def tfns : Nat → TFns
  | 0 => ⟨fun _ => false, fun _ => false, fun _ => false, fun _ => false, fun _ => false⟩
  | g + 1 => ⟨typT (tfns g), exprT (tfns g), blockT (tfns g), stmtT (tfns g), ifT (tfns g)⟩

/-- No more than so much depth; no row of kids and no text is too long. -/
def DLe : Nat → Nd → Prop
  | 0, _ => False
  | g + 1, n => (n.kids.length ≤ 1000000000 ∧ n.text.size ≤ 1000000000) ∧ ∀ k ∈ n.kids, DLe g k
theorem DLe.succ : ∀ {g : Nat} {n : Nd}, DLe g n → DLe (g + 1) n
  | 0, _, h => h.elim
  | _ + 1, _, h => ⟨h.1, fun k hk => DLe.succ (h.2 k hk)⟩
theorem DLe.kid {g : Nat} {n k : Nd} (h : DLe (g + 1) n) (hk : k ∈ n.kids) : DLe g k := h.2 k hk
theorem DLe.len {g : Nat} {n : Nd} (h : DLe g n) : n.kids.length ≤ 1000000000 := by
  cases g with
  | zero => exact h.elim
  | succ g => exact h.1.1
theorem DLe.txt {g : Nat} {n : Nd} (h : DLe g n) : n.text.size ≤ 1000000000 := by
  cases g with
  | zero => exact h.elim
  | succ g => exact h.1.2
theorem DLe.named {g : Nat} {n : Nd} {so : ByteArray → Bool} (h : DLe g n) : DLe g (namedT so n) := by
  cases g with
  | zero => exact h.elim
  | succ g =>
    unfold namedT
    split
    · exact ⟨⟨h.1.1, by simp [ByteArray.size]⟩, h.2⟩
    · exact ⟨⟨by simp, by simp [ByteArray.size]⟩, fun k hk => by simp at hk⟩
/-- No row of kids and no text is too long, to a depth. -/
def Wee : Nat → Nd → Prop
  | 0, _ => True
  | g + 1, n => (n.kids.length ≤ 1000000000 ∧ n.text.size ≤ 1000000000) ∧ ∀ k ∈ n.kids, Wee g k

/-- A node and all in it, to a depth: how much depth is left at each. -/
def lefts : Nat → Nd → List Nat
  | 0, _ => []
  | l + 1, n => (l + 1) :: n.kids.flatMap (lefts l)
def sizeT (l : Nat) (n : Nd) : Nat := (lefts l n).length
def depthT (n : Nd) : Nat := (lefts 101 n).foldl (fun d l => max d (102 - l)) 0
theorem foldl_max_ge (l : List Nat) : ∀ d, d ≤ l.foldl (fun d l => max d (102 - l)) d := by
  induction l with
  | nil => exact fun d => Nat.le_refl _
  | cons x l ih => exact fun d => Nat.le_trans (Nat.le_max_left _ _) (ih _)
theorem foldl_max_iff (l : List Nat) : ∀ d m, l.foldl (fun d l => max d (102 - l)) d ≤ m ↔ d ≤ m ∧ ∀ x ∈ l, 102 - x ≤ m := by
  induction l with
  | nil => intro d m; simp
  | cons x l ih =>
    intro d m
    rw [List.foldl_cons, ih, Nat.max_le]
    constructor
    · rintro ⟨⟨h1, h2⟩, h3⟩
      refine ⟨h1, fun y hy => ?_⟩
      rcases List.mem_cons.1 hy with rfl | hy
      · exact h2
      · exact h3 y hy
    · rintro ⟨h1, h2⟩
      exact ⟨⟨h1, h2 x List.mem_cons_self⟩, fun y hy => h2 y (List.mem_cons_of_mem _ hy)⟩
theorem lefts_dle : ∀ (g : Nat) (n : Nd), Wee g n → (∀ x ∈ lefts (g + 1) n, 2 ≤ x) → DLe g n
  | 0, n, _, h => by
    have := h 1 (by simp [lefts])
    omega
  | g + 1, _, hw, h => ⟨hw.1, fun k hk => lefts_dle g k (hw.2 k hk) fun x hx => h x (by
      rw [lefts]
      exact List.mem_cons_of_mem _ (List.mem_flatMap.2 ⟨k, hk, hx⟩))⟩
theorem dle_of_depth {n : Nd} (hw : Wee 100 n) (h : depthT n ≤ 100) : DLe 100 n := by
  refine lefts_dle 100 n hw fun x hx => ?_
  have := ((foldl_max_iff _ _ _).1 h).2 x hx
  omega
def rightFile (n : Nd) : Bool := decide (depthT n ≤ 100) && (decide (sizeT 100 n ≤ 65536) && fileT (tfns 100) n)
end Go.Proofs.YtnalfjaojcahhaaGreatDoor
namespace Go.Proofs.YtnalfjaojcahhaaGreatDoor
open Go.RowKit Go.Lib Go.Proofs

/-- A node as a value, wherever it lies. -/
abbrev NodeW (w : World) (v : Value) (n : Nd) : Prop := NodeV (fun _ => True) w v n
theorem NodeV.wide {X : Nat → Prop} {w : World} {v : Value} {n : Nd} (h : NodeV X w v n) : NodeW w v n := h.mono fun _ _ _ => trivial
theorem NodeV.below {X : Nat → Prop} {w w' : World} {v : Value} {n : Nd} (h : NodeV X w v n) (hb : Below w.heap.size w w') : NodeV X w' v n := h.keep fun b _ hlt => hb.block b hlt
theorem NodesV.below {X : Nat → Prop} {w w' : World} {v : Value} {l : List Nd} (h : NodesV X w v l) (hb : Below w.heap.size w w') : NodesV X w' v l := by
  obtain ⟨A, cap, xs, e, h1, h2, h3⟩ := h
  exact ⟨A, cap, xs, e, h1, h2.keep fun b _ hlt => hb.block b hlt, h3.keep fun b _ hlt => hb.block b hlt⟩
abbrev NodesW (w : World) (v : Value) (l : List Nd) : Prop := NodesV (fun _ => True) w v l

theorem beq_dec (a b : Int) : (a == b) = decide (a = b) := by rw [Bool.eq_iff_iff]; simp
/-- What the library's variables hold. -/
def Tab (w : World) : Prop := ∃ m : Int, w.cell? ⟨0, 0, none⟩ = some (.int .i64 m)
theorem Tab.below {w w' : World} (h : Tab w) (hb : Below w.heap.size w w') : Tab w' := by
  obtain ⟨m, h⟩ := h
  exact ⟨m, (hb.cell (World.block_lt_of_cell? w _ h)).trans h⟩

/-- A function value. -/
structure Fv where
  k : FuncId
  cap : Array Value
def Fv.val (f : Fv) : Value := .func (.func f.k) #[] f.cap

/-- It answers a question on nodes of no more than so much depth. -/
structure SoC (d : Nat) (P : Nd → Bool) (f : Fv) (w0 : World) : Prop where
  enter : ∀ a w, (callFunc f.k a).run Tryz.prog w = .ok (.enter f.k a) w
  out : ∀ (w : World) (v : Value) (n : Nd), Below w0.heap.size w0 w → NodeW w v n → DLe d n → Calls Tryz.prog f.k (#[v] ++ f.cap) w fun e w' => e = .returned (.bool (P n)) ∧ Below w.heap.size w w'
theorem SoC.below {d : Nat} {P : Nd → Bool} {f : Fv} {w0 w1 : World} (h : SoC d P f w0) (hb : Below w0.heap.size w0 w1) : SoC d P f w1 :=
  ⟨h.enter, fun w v n hw => h.out w v n (hb.trans (hw.mono hb.size))⟩
/-- It answers a question on texts. -/
structure SoS (P : ByteArray → Bool) (f : Fv) (w0 : World) : Prop where
  enter : ∀ a w, (callFunc f.k a).run Tryz.prog w = .ok (.enter f.k a) w
  out : ∀ (w : World) (s : ByteArray), Below w0.heap.size w0 w → s.size ≤ 1000000000 → Calls Tryz.prog f.k (#[.string s] ++ f.cap) w fun e w' => e = .returned (.bool (P s)) ∧ Below w.heap.size w w'
theorem SoS.below {P : ByteArray → Bool} {f : Fv} {w0 w1 : World} (h : SoS P f w0) (hb : Below w0.heap.size w0 w1) : SoS P f w1 :=
  ⟨h.enter, fun w s hw => h.out w s (hb.trans (hw.mono hb.size))⟩
/-- A function of the program that answers a question on nodes. -/
def AskC (d : Nat) (P : Nd → Bool) (f : FuncId) : Prop :=
  ∀ (w : World) (v : Value) (n : Nd), Tab w → NodeW w v n → DLe d n → Calls Tryz.prog f #[v] w fun e w' => e = .returned (.bool (P n)) ∧ Below w.heap.size w w'
theorem AskC.so {d : Nat} {P : Nd → Bool} {f : FuncId} (h : AskC d P f) (he : ∀ a w, (callFunc f a).run Tryz.prog w = .ok (.enter f a) w) (w0 : World) (hT : Tab w0) : SoC d P ⟨f, #[]⟩ w0 :=
  ⟨he, fun w v n hb hv hd => h w v n (hT.below hb) hv hd⟩
theorem AskC.le {d d' : Nat} {P : Nd → Bool} {f : FuncId} (h : AskC d P f) (hd : ∀ n, DLe d' n → DLe d n) : AskC d' P f := fun w v n hT hv hn => h w v n hT hv (hd n hn)
end Go.Proofs.YtnalfjaojcahhaaGreatDoor
namespace Go.Proofs.YtnalfjaojcahhaaGreatDoor
open Go.RowKit Go.ChangeShapes Go.WideShapes Go.Deep Go.Joins

mutual
/-- How much a node is: its kids, its text's letters, itself. -/
def totN : Nd → Nat
  | .mk _ t l _ => t.size + totL l + 1
def totL : List Nd → Nat
  | [] => 0
  | n :: l => totN n + totL l
end
theorem totN_eq (n : Nd) : totN n = n.text.size + totL n.kids + 1 := by cases n; unfold totN; rfl
theorem totL_len : ∀ l : List Nd, l.length ≤ totL l
  | [] => by simp
  | n :: l => by
    have := totL_len l
    have := totN_eq n
    unfold totL
    rw [List.length_cons]
    omega
theorem totL_mem : ∀ {l : List Nd} {n : Nd}, n ∈ l → totN n ≤ totL l
  | m :: l, n, h => by
    unfold totL
    rcases List.mem_cons.1 h with rfl | h
    · omega
    · have := totL_mem h; omega
theorem lefts_tot : ∀ (g : Nat) (n : Nd), (lefts g n).length ≤ totN n
  | 0, n => by simp [lefts]
  | g + 1, n => by
    have key : ∀ l : List Nd, (l.flatMap (lefts g)).length ≤ totL l := by
      intro l
      induction l with
      | nil => simp
      | cons m l ih =>
        have := lefts_tot g m
        rw [List.flatMap_cons, List.length_append]
        unfold totL
        omega
    have := key n.kids
    unfold lefts
    rw [List.length_cons, totN_eq]
    omega
theorem wee_of : ∀ (g : Nat) (n : Nd), totN n ≤ 1000000000 → Wee g n
  | 0, n, _ => by unfold Wee; trivial
  | g + 1, n, h => by
    have e := totN_eq n
    have := totL_len n.kids
    unfold Wee
    refine ⟨⟨by omega, by omega⟩, fun k hk => wee_of g k ?_⟩
    have := totL_mem hk
    omega

/-- The cells of a row of nodes. -/
def encP (p : Nd × Value × Value × Value × Value) : List Value := [p.2.1, p.2.2.1, p.2.2.2.1, p.2.2.2.2]
theorem NodesC.of_rows {X : Nat → Prop} {w : World} : ∀ l : List (Nd × Value × Value × Value × Value), (∀ p ∈ l, NodeC X w p.1 (encP p)) →
    NodesC X w (l.map (·.1)) (l.flatMap encP)
  | [], _ => NodesC.nil
  | p :: l, h => by
    rw [List.map_cons, List.flatMap_cons]
    exact NodesC.cons (h p (by simp)) (NodesC.of_rows l fun q hq => h q (by simp [hq]))

section
variable {H : Type} {enc : TypeId × Value → H} {w : World} {base : Nat} {spare : Nat → Bool} {held : Bool}
theorem totL_bulk : ∀ (l : List Nd) (m : List (DataW H)), l.length = m.length → (∀ i (h : i < l.length) (h' : i < m.length), totN l[i] ≤ Rows.uptoBulk m[i]) → totL l ≤ Rows.uptoBulkAll m
  | [], _, _, _ => by unfold totL; exact Nat.zero_le _
  | n :: l, [], h, _ => by simp at h
  | n :: l, d :: m, h, hi => by
    have h0 := hi 0 (by simp) (by simp)
    have h1 := totL_bulk l m (by simpa using h) fun i h h' => by
      have := hi (i + 1) (by simpa using h) (by simpa using h')
      simpa using this
    unfold totL Rows.uptoBulkAll
    simp at h0
    omega

theorem cellsNd : Tryz.prog.cellsOf 24 = 4 := by kernel_rfl
theorem cellsInt : Tryz.prog.cellsOf 3 = 1 := by kernel_rfl
theorem cellsStr : Tryz.prog.cellsOf 9 = 1 := by kernel_rfl
theorem cellsRow : Tryz.prog.cellsOf 22 = 1 := by kernel_rfl
theorem readsX_any {A : Option Addr} {B n sz : Nat} {xs : List Value} (h : Reads w B sz A n xs) (hs : 0 < sz) : ReadsX (fun _ => True) w sz A n xs := by
  refine ⟨h.1, fun hn => ?_⟩
  obtain ⟨ad, hA, hb, hc⟩ := h.2 hn
  have hl : 0 < xs.length := by rw [h.1]; exact Nat.mul_pos hn hs
  have h0 := hc 0 xs[0] (List.getElem?_eq_getElem hl)
  have hsp := spot_of_cell (show w.cell? ad = some xs[0] from h0)
  obtain ⟨b, o, s⟩ := ad
  have hs' : s = none := by simpa using hsp
  subst hs'
  refine ⟨b, o, hA, trivial, fun j u hu => ?_⟩
  have := hc j u hu
  rwa [add_at] at this

theorem list4 {α : Type} : ∀ {l : List α}, l.length = 4 → ∃ a b c d, l = [a, b, c, d]
  | [a, b, c, d], _ => ⟨a, b, c, d, rfl⟩

theorem open_kids : ∀ (N fuel : Nat), fuel ≤ N → ∀ (cs : List Value) (x : DataW H × List MemPlace), DataW.trod enc Tryz.prog w base spare held fuel 22 cs = some x →
    ∃ (A : Option Addr) (len cap : Nat) (l : List Nd) (xs : List Value), cs = [.slice A len cap] ∧ l.length = len ∧ len ≤ cap ∧ ReadsX (fun _ => True) w 4 A len xs ∧ NodesC (fun _ => True) w l xs ∧ totL l ≤ Rows.uptoBulk x.1 := by
  intro N
  induction N with
  | zero =>
    intro fuel hN cs x h
    rcases DataW.trod_slice Tryz.underlying22 h with ⟨rfl, rfl⟩ | ⟨a, len, cap, elems, rest, n, hf, _⟩
    · exact ⟨none, 0, 0, [], [], rfl, rfl, Nat.le_refl _, ⟨rfl, fun h => absurd h (by simp)⟩, NodesC.nil, by unfold totL; exact Nat.zero_le _⟩
    · omega
  | succ N ih =>
    intro fuel hN cs x h
    rcases DataW.trod_slice Tryz.underlying22 h with ⟨rfl, rfl⟩ | ⟨a, len, cap, elems, rest, n, hf, rfl, rfl, hb, hl, hm, hlen, hel, -, -⟩
    · exact ⟨none, 0, 0, [], [], rfl, rfl, Nat.le_refl _, ⟨rfl, fun h => absurd h (by simp)⟩, NodesC.nil, by unfold totL; exact Nat.zero_le _⟩
    · have key : ∀ i, i < len → ∃ p : Nd × Value × Value × Value × Value, NodeC (fun _ => True) w p.1 (encP p) ∧ (∀ j u, (encP p)[j]? = some u → w.cell? (a.add (i * 4 + j)) = some u) ∧ ∃ e, elems[i]? = some e ∧ totN p.1 ≤ Rows.uptoBulk e.1 := by
        intro i hi
        have h1 := hel i hi
        have hie : i < elems.length := by omega
        rw [List.getElem?_eq_getElem hie, Option.bind_eq_some_iff, cellsNd] at h1
        obtain ⟨cs', hc, ht⟩ := h1
        obtain ⟨-, hcl, hat⟩ := World.cells?_some hc
        obtain ⟨ys, n', hn', hy, -, hyl, hff⟩ := DataW.trod_struct Tryz.underlying24 ht
        obtain ⟨c0, c1, c2, c3, rfl⟩ := list4 hcl
        obtain ⟨y0, y1, y2, y3, rfl⟩ := list4 (show ys.length = 4 from hyl)
        have t0 : DataW.trod enc Tryz.prog w base spare held n' 3 [c0] = some y0 := by
          have this : DataW.trod enc Tryz.prog w base spare held n' 3 (([c0, c1, c2, c3].drop 0).take (Tryz.prog.cellsOf 3)) = some y0 := hff 0 _ rfl
          rw [cellsInt] at this
          exact this
        have t1 : DataW.trod enc Tryz.prog w base spare held n' 9 [c1] = some y1 := by
          have this : DataW.trod enc Tryz.prog w base spare held n' 9 (([c0, c1, c2, c3].drop 1).take (Tryz.prog.cellsOf 9)) = some y1 := hff 1 _ rfl
          rw [cellsStr] at this
          exact this
        have t2 : DataW.trod enc Tryz.prog w base spare held n' 22 [c2] = some y2 := by
          have this : DataW.trod enc Tryz.prog w base spare held n' 22 (([c0, c1, c2, c3].drop 2).take (Tryz.prog.cellsOf 22)) = some y2 := hff 2 _ rfl
          rw [cellsRow] at this
          exact this
        have t3 : DataW.trod enc Tryz.prog w base spare held n' 3 [c3] = some y3 := by
          have this : DataW.trod enc Tryz.prog w base spare held n' 3 (([c0, c1, c2, c3].drop 3).take (Tryz.prog.cellsOf 3)) = some y3 := hff 3 _ rfl
          rw [cellsInt] at this
          exact this
        obtain ⟨z0, e0, f0, -⟩ := DataW.trod_int Tryz.underlying3 t0
        obtain ⟨s1, e1, f1, -⟩ := DataW.trod_string Tryz.underlying9 t1
        obtain ⟨A2, len2, cap2, l2, xs2, e2, hl2, hle2, hr2, hn2, hb2⟩ := ih n' (by omega) _ _ t2
        obtain ⟨z3, e3, f3, -⟩ := DataW.trod_int Tryz.underlying3 t3
        simp only [List.cons.injEq, and_true] at e0 e1 e2 e3
        subst e0 e1 e2 e3 f0 f1 f3 hl2
        refine ⟨(.mk z0 s1 l2 z3, .int .i64 z0, .string s1, .slice A2 l2.length cap2, .int .i64 z3), ?_, ?_, _, List.getElem?_eq_getElem hie, ?_⟩
        · unfold NodeC
          exact ⟨A2, cap2, xs2, rfl, hle2, hr2, hn2⟩
        · intro j u hu
          have hj : j < 4 := (List.getElem?_eq_some_iff.1 hu).1
          have := hat j hj
          rw [Go.Deep.add_add] at this
          rw [this]
          exact hu
        · rw [hy]
          unfold totN
          simp [Rows.uptoBulk, Rows.uptoBulkAll]
          omega
      obtain ⟨l, hll, hp⟩ := exists_list len key
      refine ⟨some a, len, cap, l.map (·.1), l.flatMap encP, rfl, by simpa using hll, hl, readsX_any (reads_of_cells (fun _ => rfl) (by omega) hll (fun i h j u hu => (hp i h).2.1 j u hu)) (by omega), NodesC.of_rows l (fun p hpm => ?_), ?_⟩
      · obtain ⟨i, hi, rfl⟩ := List.mem_iff_getElem.1 hpm
        exact (hp i hi).1
      · have := totL_bulk (l.map (·.1)) (elems.map (·.1)) (by simp [hll, hlen]) (fun i h h' => by
          have hi : i < l.length := by simpa using h
          obtain ⟨e, he, hb⟩ := (hp i hi).2.2
          have hi' : i < elems.length := by simpa using h'
          rw [List.getElem?_eq_getElem hi'] at he
          injection he with he
          subst he
          simpa using hb)
        unfold Rows.uptoBulk
        omega

set_option maxRecDepth 100000 in
/-- The argument, opened. -/
theorem open_nodeV {r : Reach} {b0 : Nat} {v : Value} {d : DataW H} {p : List MemPlace} (hv : Value.okWide Tryz.prog w r b0 24 v) (h : DataW.Trod enc Tryz.prog w base spare held 24 v d p) :
    ∃ n : Nd, NodeW w v n ∧ totN n ≤ Rows.uptoBulk d := by
  obtain ⟨v0, v1, v2, v3, y0, y1, y2, y3, m, rfl, rfl, -, t0, t1, t2, t3⟩ := open_agg4 Tryz.underlying24 (by kernel_rfl) cellsNd hv h
  obtain ⟨z0, e0, f0, -⟩ := DataW.trod_int Tryz.underlying3 t0
  obtain ⟨s1, e1, f1, -⟩ := DataW.trod_string Tryz.underlying9 t1
  obtain ⟨A2, len2, cap2, l2, xs2, e2, hl2, hle2, hr2, hn2, hb2⟩ := open_kids m m (Nat.le_refl _) _ _ t2
  obtain ⟨z3, e3, f3, -⟩ := DataW.trod_int Tryz.underlying3 t3
  simp only [List.cons.injEq, and_true] at e0 e1 e2 e3
  subst e0 e1 e2 e3 f0 f1 f3 hl2
  refine ⟨.mk z0 s1 l2 z3, ⟨A2, cap2, xs2, rfl, hle2, hr2, hn2⟩, ?_⟩
  unfold totN
  simp [Rows.uptoBulk, Rows.uptoBulkAll]
  omega
end
end Go.Proofs.YtnalfjaojcahhaaGreatDoor
namespace Go.Proofs.YtnalfjaojcahhaaGreatDoor
open Go.ChangeShapes Go.WideShapes Go.ChangeAt Go.RowKit

set_option maxRecDepth 100000 in
/-- The search's bound holds some number: by the world's shape. -/
theorem tab_of_shape {W : World} (h : W.ShapedOpen Tryz.prog) : Tab W := by
  obtain ⟨cs, hh, hs, hr⟩ := h.1 0 #[.int .i64 0] 3 (of_decide_eq_true (by kernel_rfl)) (by kernel_rfl)
  obtain ⟨ts, hts, _, hall⟩ := hr (by kernel_rfl)
  rw [show Tryz.prog.cellTypes Tryz.prog.depth 3 = some [3] by kernel_rfl] at hts
  cases hts
  have h1 : 0 < cs.size := by rw [hs]; decide
  obtain ⟨u, hu', hok⟩ := hall 0 cs[0] (by simp [h1])
  have : u = 3 := by simpa using hu'.symm
  subst this
  have hcell : W.cell? ⟨0, 0, none⟩ = some cs[0] := by simp [World.cell?, hh, h1]
  unfold Tab
  rw [hcell]
  unfold Cell.ok at hok
  rw [Tryz.underlying3] at hok
  cases hv : cs[0] <;> rw [hv] at hok <;> simp at hok
  obtain ⟨rfl, -⟩ := hok
  exact ⟨_, rfl⟩

/-- The cells of a listed table. -/
def cellsOne : DataW Unit → List Value
  | .lit (.int k n) => [.int k n]
  | .agg l => l.map fun | .lit (.int k n) => Value.int k n | _ => Value.bool false
  | _ => []
def cellsOfData : DataW Unit → Array Value
  | .agg l => (l.flatMap cellsOne).toArray
  | _ => #[]
def setTab (c : Array Value) : Obj → Obj
  | .cells _ t frozen => .cells c t frozen
  | o => o
noncomputable def laidWorld (os : Os) : World :=
  { World.holding Tryz.prog os ⟨#[], #[], []⟩ with heap := ((World.holding Tryz.prog os ⟨#[], #[], []⟩).heap.modify 2 (setTab (cellsOfData Rows.laid_unicode_utf8_acceptRanges))).modify 1 (setTab (cellsOfData Rows.laid_unicode_utf8_first)) }
/-- The witness's node. -/
def nodeV0 : Value := .agg #[.int .i64 0, .string ⟨#[]⟩, .slice none 0 0, .int .i64 0]
def nodeD0 {H : Type} : DataW H := .agg [.lit (.int .i64 0), .lit (.string []), .nil, .lit (.int .i64 0)]
end Go.Proofs.YtnalfjaojcahhaaGreatDoor
namespace Go.Proofs.YtnalfjaojcahhaaGreatDoor
open Go.RowKit Go.Lib Go.Proofs
attribute [local go_sem ↓] Go.wp_at_zero Go.wp_at_succ

theorem infoTok : (Tryz.prog.info? 86).map (fun i => (i.zero, i.size, i.bytes)) = some (some (.agg #[.int .i64 0, .string ⟨#[]⟩, .int .i64 0]), 3, 32) := by kernel_rfl
theorem encT_one (l : List Tok) : ∀ u ∈ l.flatMap encT, u.oneCell' = true := by
  intro u hu
  obtain ⟨x, _, hx⟩ := List.mem_flatMap.1 hu
  unfold encT at hx
  simp only [List.mem_cons, List.not_mem_nil, or_false] at hx
  rcases hx with rfl | rfl | rfl <;> rfl
/-- A row of the scanner's own, of tokens. -/
def OwnT (B : Nat) (w : World) (v : Value) (l : List Tok) : Prop := w.ownsRow B 86 3 v l.length (l.flatMap encT)
section
variable {B : Nat} {w w' : World} {v : Value} {l : List Tok}
theorem OwnT.nil (B : Nat) (w : World) : OwnT B w (.slice none 0 0) [] := World.ownsRow_nil _ _ _ _
theorem OwnT.keep (h : OwnT B w v l) (hk : ∀ b, B ≤ b → b < w.heap.size → w'.heap[b]? = w.heap[b]?) : OwnT B w' v l := by
  refine ⟨h.1, ?_⟩
  rcases h.2 with h0 | ⟨g, cap, cur, e, hg, hh, r⟩
  · exact .inl h0
  · refine .inr ⟨g, cap, cur, e, hg, ?_, r⟩
    have hlt : g < w.heap.size := by
      rcases Nat.lt_or_ge g w.heap.size with hlt | hge
      · exact hlt
      · rw [Array.getElem?_eq_none hge] at hh; cases hh
    exact (hk g hg hlt).trans hh
theorem OwnT.below (h : OwnT B w v l) (hb : Below w.heap.size w w') : OwnT B w' v l := h.keep fun b _ hlt => hb.block b hlt
theorem OwnT.lt (h : OwnT B w v l) : ∀ g, v.ownBlock = some g → B ≤ g ∧ g < w.heap.size := fun g hg => World.ownsRow.lt h g hg
theorem OwnT.form (h : OwnT B w v l) : ∃ A c, v = .slice A l.length c ∧ l.length ≤ c := by
  rcases h.2 with ⟨rfl, h0⟩ | ⟨g, cap, cur, rfl, _, _, hnc, _⟩
  · exact ⟨none, 0, by rw [h0], by omega⟩
  · exact ⟨_, cap, rfl, hnc⟩
end
theorem wp_pushT {o : Oper} {a : Act} {K : Act → World → Prop} {Q : Exit → Act → World → Prop} (s x : Operand)
    (ho : o.op = .call { callee := .builtin .append, args := #[s, x], argTypes := #[75, 75] })
    (B : Nat) (w1 : World) (u : Value) (l : List Tok) (t : Tok) (hs : a.eval s = u) (S : Nat) (hx : a.eval x = .slice (some ⟨S, 0, none⟩) 1 1) (hS : w1.heap.size = S)
    (hO : OwnT B w1 u l) (hB : B ≤ w1.heap.size) (hl : l.length ≤ 1000000)
    (h : ∀ g c w2, OwnT B w2 (.slice (some ⟨g, 0, none⟩) (l.length + 1) c) (l ++ [t]) → Below B w1 w2 → K (a.put o.dst (.slice (some ⟨g, 0, none⟩) (l.length + 1) c)) w2) :
    o.wp Tryz.prog a (w1.alloc (.cells #[.int .i64 t.kind, .string t.text, .int .i64 t.pos] 86)) K Q := by
  subst hS
  obtain ⟨i0, hi, hz0, hz1, hz2⟩ := info_parts infoTok
  refine wp_append_lies _ s x 75 ho B 86 i0 _ 3 32 Tryz.underlying75 hi hz0 hz1 hz2 rfl (by omega) u l.length _ hs (World.ownsRow.alloc hO _) ⟨w1.heap.size, 0, none⟩ 1 1 [.int .i64 t.kind, .string t.text, .int .i64 t.pos] hx rfl
    (World.news_of_block (cs := #[.int .i64 t.kind, .string t.text, .int .i64 t.pos]) (heap_alloc_new _ _)) (encT_one [t]) (by omega) (by unfold maxLen; omega) (by omega) (by rw [World.size_alloc]; omega) _ rfl ?_
  intro g c w2 hown1 hg hat _
  have e : (l ++ [t]).flatMap encT = l.flatMap encT ++ [.int .i64 t.kind, .string t.text, .int .i64 t.pos] := by rw [List.flatMap_append]; rfl
  have hb : Below B w1 w2 := by
    have h1 := (Below.refl B w1).alloc hB (.cells #[.int .i64 t.kind, .string t.text, .int .i64 t.pos] 86)
    exact h1.trans ⟨hg.os, hg.tape, hg.output, hg.size, fun k hk => hg.block k (by rw [World.size_alloc]; omega) (fun e => by have := (hO.lt k e.symm).1; omega)⟩
  refine h g c w2 ?_ hb
  unfold OwnT
  rw [e, List.length_append]
  exact hown1
theorem step_pushT {ops : Array Oper} {o : Oper} {a : Act} {K : Act → World → Prop} {Q : Exit → Act → World → Prop} {D : Prop} (hgd : o.guard = none) (s x : Operand)
    (ho : o.op = .call { callee := .builtin .append, args := #[s, x], argTypes := #[75, 75] })
    (B : Nat) (w1 : World) (u : Value) (l : List Tok) (t : Tok) (hs : a.eval s = u) (S : Nat) (hx : a.eval x = .slice (some ⟨S, 0, none⟩) 1 1) (hS : w1.heap.size = S)
    (hO : OwnT B w1 u l) (hB : B ≤ w1.heap.size) (hl : l.length ≤ 1000000)
    (h : ∀ g c w2, OwnT B w2 (.slice (some ⟨g, 0, none⟩) (l.length + 1) c) (l ++ [t]) → Below B w1 w2 → K (a.put o.dst (.slice (some ⟨g, 0, none⟩) (l.length + 1) c)) w2) :
    if Region.wanted o (yielded ops a.tmps) = true then Oper.wp Tryz.prog o a (w1.alloc (.cells #[.int .i64 t.kind, .string t.text, .int .i64 t.pos] 86)) K Q else D := by
  have hw : Region.wanted o (yielded ops a.tmps) = true := by simp [Region.wanted, hgd]
  rw [if_pos hw]
  exact wp_pushT s x ho B w1 u l t hs S hx hS hO hB hl h
theorem wpList_pushT {ops : Array Oper} {rest : List Oper} {o : Oper} {a : Act} {Q : Exit → Act → World → Prop} (hgd : o.guard = none) (s x : Operand)
    (ho : o.op = .call { callee := .builtin .append, args := #[s, x], argTypes := #[75, 75] })
    (B : Nat) (w1 : World) (u : Value) (l : List Tok) (t : Tok) (hs : a.eval s = u) (S : Nat) (hx : a.eval x = .slice (some ⟨S, 0, none⟩) 1 1) (hS : w1.heap.size = S)
    (hO : OwnT B w1 u l) (hB : B ≤ w1.heap.size) (hl : l.length ≤ 1000000)
    (h : ∀ g c w2, OwnT B w2 (.slice (some ⟨g, 0, none⟩) (l.length + 1) c) (l ++ [t]) → Below B w1 w2 → wpList Tryz.prog ops Q rest (a.put o.dst (.slice (some ⟨g, 0, none⟩) (l.length + 1) c)) w2) :
    wpList Tryz.prog ops Q (o :: rest) a (w1.alloc (.cells #[.int .i64 t.kind, .string t.text, .int .i64 t.pos] 86)) :=
  wpList_plain hgd fun _ hK => wp_pushT s x ho B w1 u l t hs S hx hS hO hB hl fun g c w2 h1 h2 => hK _ _ (h g c w2 h1 h2)

/-- The scanner's cells. -/
def scCells (s : ByteArray) (i : Nat) (lv nv : Value) : Array Value := #[.string s, .int .i64 (i : Int), lv, nv]
/-- The scanner is in a state: the text, where it is, its tokens. -/
structure ScAt (w : World) (X : Nat) (s : ByteArray) (i : Nat) (l : List Tok) (nv : Value) : Prop where
  out : ∃ lv, Blk w X 113 (scCells s i lv nv) ∧ OwnT (X + 1) w lv l
  le : i ≤ s.size
  most : s.size ≤ 65536
  few : l.length ≤ 65537
section
variable {w w' : World} {X : Nat} {s : ByteArray} {i : Nat} {l : List Tok} {nv : Value}
theorem ScAt.below (h : ScAt w X s i l nv) (hb : Below w.heap.size w w') : ScAt w' X s i l nv := by
  obtain ⟨lv, h1, h2⟩ := h.out
  exact ⟨⟨lv, h1.below hb h1.lt, h2.below hb⟩, h.le, h.most, h.few⟩
theorem ScAt.lt (h : ScAt w X s i l nv) : X < w.heap.size := by
  obtain ⟨lv, h1, _⟩ := h.out
  exact h1.lt
theorem ScAt.set (h : ScAt w X s i l nv) (j : Nat) (hj : j ≤ s.size) : ScAt (w.setCell ⟨X, 1, none⟩ (.int .i64 (j : Int))) X s j l nv := by
  obtain ⟨lv, h1, h2⟩ := h.out
  refine ⟨⟨lv, by simpa [scCells] using h1.set_ 1 (.int .i64 (j : Int)), h2.keep fun b hb _ => Below.heap_setCell w ⟨X, 1, none⟩ _ b (by show b ≠ X; omega)⟩, hj, h.most, h.few⟩
theorem ScAt.row {lv : Value} (h : ScAt w X s i l nv) (hb : Blk w' X 113 (scCells s i lv nv)) {lv' : Value} {l' : List Tok} (ho : OwnT (X + 1) w' lv' l') (hl : l'.length ≤ 65537) : ScAt (w'.setCell ⟨X, 2, none⟩ lv') X s i l' nv :=
  ⟨⟨lv', by simpa [scCells] using hb.set_ 2 lv', ho.keep fun b hb _ => Below.heap_setCell w' ⟨X, 2, none⟩ _ b (by show b ≠ X; omega)⟩, h.le, h.most, hl⟩
end
end Go.Proofs.YtnalfjaojcahhaaGreatDoor
namespace Go.Proofs
open Go.Shelf
def Tryz.laysContains_ren : Go.Shelf.Ren := ⟨fun | 144 => 90 | 143 => 136 | 219 => 186 | 217 => 191 | 225 => 205 | 224 => 206 | 267 => 207 | 266 => 212 | 314 => 225 | n => n, fun | 9 => 9 | 4 => 4 | 3 => 3 | 5 => 5 | 46 => 70 | 146 => 196 | 51 => 104 | n => n, fun | 1 => 0 | n => n⟩
theorem Tryz.laysContains : Go.Proofs.Lays.n144 Tryz.prog Tryz.laysContains_ren := {
  mixed := by kernel_rfl
  f143 := Tryz.func136.trans (congrArg some (by kernel_rfl))
  f144 := Tryz.func90.trans (congrArg some (by kernel_rfl))
  f217 := Tryz.func191.trans (congrArg some (by kernel_rfl))
  f219 := Tryz.func186.trans (congrArg some (by kernel_rfl))
  f224 := Tryz.func206.trans (congrArg some (by kernel_rfl))
  f225 := Tryz.func205.trans (congrArg some (by kernel_rfl))
  f266 := Tryz.func212.trans (congrArg some (by kernel_rfl))
  f267 := Tryz.func207.trans (congrArg some (by kernel_rfl))
  f314 := Tryz.func225.trans (congrArg some (by kernel_rfl))
  t3 := Tryz.underlying3
  a3 := Tryz.isAgg3
  z3 := Tryz.sizeOf3
  v3 := Tryz.zeroValue3
  t4 := Tryz.underlying4
  a4 := Tryz.isAgg4
  z4 := Tryz.sizeOf4
  v4 := Tryz.zeroValue4
  t5 := Tryz.underlying5
  a5 := Tryz.isAgg5
  z5 := Tryz.sizeOf5
  v5 := Tryz.zeroValue5
  t9 := Tryz.underlying9
  a9 := Tryz.isAgg9
  z9 := Tryz.sizeOf9
  v9 := Tryz.zeroValue9
  t46 := Tryz.underlying70
  a46 := Tryz.isAgg70
  z46 := Tryz.sizeOf70
  v46 := Tryz.zeroValue70
  t51 := Tryz.underlying104
  a51 := Tryz.isAgg104
  z51 := Tryz.sizeOf104
  v51 := Tryz.zeroValue104
  t146 := Tryz.underlying196
  a146 := Tryz.isAgg196
  z146 := Tryz.sizeOf196
  v146 := Tryz.zeroValue196
  g1 := by kernel_rfl }
def Tryz.laysCut_ren : Go.Shelf.Ren := ⟨fun | 145 => 174 | 220 => 200 | 219 => 186 | 217 => 191 | 225 => 205 | 224 => 206 | 267 => 207 | 266 => 212 | 314 => 225 | n => n, fun | 9 => 9 | 4 => 4 | 59 => 152 | 3 => 3 | 5 => 5 | 46 => 70 | 146 => 196 | 51 => 104 | n => n, fun | 1 => 0 | n => n⟩
theorem Tryz.laysCut : Go.Proofs.Lays.n145 Tryz.prog Tryz.laysCut_ren := {
  mixed := by kernel_rfl
  f145 := Tryz.func174.trans (congrArg some (by kernel_rfl))
  f217 := Tryz.func191.trans (congrArg some (by kernel_rfl))
  f219 := Tryz.func186.trans (congrArg some (by kernel_rfl))
  f220 := Tryz.func200.trans (congrArg some (by kernel_rfl))
  f224 := Tryz.func206.trans (congrArg some (by kernel_rfl))
  f225 := Tryz.func205.trans (congrArg some (by kernel_rfl))
  f266 := Tryz.func212.trans (congrArg some (by kernel_rfl))
  f267 := Tryz.func207.trans (congrArg some (by kernel_rfl))
  f314 := Tryz.func225.trans (congrArg some (by kernel_rfl))
  t3 := Tryz.underlying3
  a3 := Tryz.isAgg3
  z3 := Tryz.sizeOf3
  v3 := Tryz.zeroValue3
  t4 := Tryz.underlying4
  a4 := Tryz.isAgg4
  z4 := Tryz.sizeOf4
  v4 := Tryz.zeroValue4
  t5 := Tryz.underlying5
  a5 := Tryz.isAgg5
  z5 := Tryz.sizeOf5
  v5 := Tryz.zeroValue5
  t9 := Tryz.underlying9
  a9 := Tryz.isAgg9
  z9 := Tryz.sizeOf9
  v9 := Tryz.zeroValue9
  t46 := Tryz.underlying70
  a46 := Tryz.isAgg70
  z46 := Tryz.sizeOf70
  v46 := Tryz.zeroValue70
  t51 := Tryz.underlying104
  a51 := Tryz.isAgg104
  z51 := Tryz.sizeOf104
  v51 := Tryz.zeroValue104
  t59 := Tryz.underlying152
  a59 := Tryz.isAgg152
  z59 := Tryz.sizeOf152
  v59 := Tryz.zeroValue152
  t146 := Tryz.underlying196
  a146 := Tryz.isAgg196
  z146 := Tryz.sizeOf196
  v146 := Tryz.zeroValue196
  g1 := by kernel_rfl }
def Tryz.laysPrefix_ren : Go.Shelf.Ren := ⟨fun | 99 => 177 | 206 => 202 | n => n, fun | 9 => 9 | 4 => 4 | 3 => 3 | n => n, fun | n => n⟩
theorem Tryz.laysPrefix : Go.Proofs.Lays.n99 Tryz.prog Tryz.laysPrefix_ren := {
  mixed := by kernel_rfl
  f99 := Tryz.func177.trans (congrArg some (by kernel_rfl))
  f206 := Tryz.func202.trans (congrArg some (by kernel_rfl))
  t3 := Tryz.underlying3
  a3 := Tryz.isAgg3
  z3 := Tryz.sizeOf3
  v3 := Tryz.zeroValue3
  t4 := Tryz.underlying4
  a4 := Tryz.isAgg4
  z4 := Tryz.sizeOf4
  v4 := Tryz.zeroValue4
  t9 := Tryz.underlying9
  a9 := Tryz.isAgg9
  z9 := Tryz.sizeOf9
  v9 := Tryz.zeroValue9 }
def Tryz.laysIndexByte_ren : Go.Shelf.Ren := ⟨fun | 137 => 143 | 217 => 191 | 266 => 212 | n => n, fun | 9 => 9 | 5 => 5 | 3 => 3 | n => n, fun | n => n⟩
theorem Tryz.laysIndexByte : Go.Proofs.Lays.n137 Tryz.prog Tryz.laysIndexByte_ren := {
  mixed := by kernel_rfl
  f137 := Tryz.func143.trans (congrArg some (by kernel_rfl))
  f217 := Tryz.func191.trans (congrArg some (by kernel_rfl))
  f266 := Tryz.func212.trans (congrArg some (by kernel_rfl))
  t3 := Tryz.underlying3
  a3 := Tryz.isAgg3
  z3 := Tryz.sizeOf3
  v3 := Tryz.zeroValue3
  t5 := Tryz.underlying5
  a5 := Tryz.isAgg5
  z5 := Tryz.sizeOf5
  v5 := Tryz.zeroValue5
  t9 := Tryz.underlying9
  a9 := Tryz.isAgg9
  z9 := Tryz.sizeOf9
  v9 := Tryz.zeroValue9 }
def Tryz.laysIndex_ren : Go.Shelf.Ren := ⟨fun | 143 => 136 | 219 => 186 | 217 => 191 | 225 => 205 | 224 => 206 | 267 => 207 | 266 => 212 | 314 => 225 | n => n, fun | 9 => 9 | 3 => 3 | 4 => 4 | 5 => 5 | 46 => 70 | 146 => 196 | 51 => 104 | n => n, fun | 1 => 0 | n => n⟩
theorem Tryz.laysIndex : Go.Proofs.Lays.n143 Tryz.prog Tryz.laysIndex_ren := {
  mixed := by kernel_rfl
  f143 := Tryz.func136.trans (congrArg some (by kernel_rfl))
  f217 := Tryz.func191.trans (congrArg some (by kernel_rfl))
  f219 := Tryz.func186.trans (congrArg some (by kernel_rfl))
  f224 := Tryz.func206.trans (congrArg some (by kernel_rfl))
  f225 := Tryz.func205.trans (congrArg some (by kernel_rfl))
  f266 := Tryz.func212.trans (congrArg some (by kernel_rfl))
  f267 := Tryz.func207.trans (congrArg some (by kernel_rfl))
  f314 := Tryz.func225.trans (congrArg some (by kernel_rfl))
  t3 := Tryz.underlying3
  a3 := Tryz.isAgg3
  z3 := Tryz.sizeOf3
  v3 := Tryz.zeroValue3
  t4 := Tryz.underlying4
  a4 := Tryz.isAgg4
  z4 := Tryz.sizeOf4
  v4 := Tryz.zeroValue4
  t5 := Tryz.underlying5
  a5 := Tryz.isAgg5
  z5 := Tryz.sizeOf5
  v5 := Tryz.zeroValue5
  t9 := Tryz.underlying9
  a9 := Tryz.isAgg9
  z9 := Tryz.sizeOf9
  v9 := Tryz.zeroValue9
  t46 := Tryz.underlying70
  a46 := Tryz.isAgg70
  z46 := Tryz.sizeOf70
  v46 := Tryz.zeroValue70
  t51 := Tryz.underlying104
  a51 := Tryz.isAgg104
  z51 := Tryz.sizeOf104
  v51 := Tryz.zeroValue104
  t146 := Tryz.underlying196
  a146 := Tryz.isAgg196
  z146 := Tryz.sizeOf196
  v146 := Tryz.zeroValue196
  g1 := by kernel_rfl }
end Go.Proofs
