/-
  What the reader of files does, as plain functions: tokens, a place among them, nodes. By an AI agent.
  The reader in memory; its small functions: next, fail, is, takes, need, semi, takeSemi, name. By an AI agent.
-/
import Derived.Test.YtnalfjaojcahhaaGreatDoorJ00
import Derived.Test.YtnalfjaojcahhaaGreatDoorProg
import Derived.WalkKit
import Derived.Lib.Hide
import Derived.WalkLawsBesides
import Derived.WalkSpells
import Derived.RegionTactic
import Derived.Deep.QuietTactic
import Derived.BigQuiet
import Derived.Deep.DeepCutAuto
import Derived.Deep.CutBlock
import Derived.Deep.RegionHeld3
import Derived.Deep.RegionWith
import Derived.StillTailTactics
import Derived.Outline
import Derived.Deep.DrawnRows
import Derived.Deep.Draws
namespace Go.Proofs.YtnalfjaojcahhaaGreatDoor

structure Tok where
  kind : Int
  text : ByteArray
  pos : Int
structure Cx where
  toks : List Tok
  fin : Int
structure St where
  at_ : Nat
  head : Bool
  part : Int
inductive Res (α : Type) where
  | ok (a : α) (s : St)
  | fail (p : Int)
  | out
def R (α : Type) := Cx → St → Res α
def Res.bind {α β : Type} (r : Res α) (f : α → St → Res β) : Res β :=
  match r with
  | .ok a s => f a s
  | .fail p => .fail p
  | .out => .out
@[simp] theorem Res.bind_ok {α β : Type} (a : α) (s : St) (f : α → St → Res β) : (Res.ok a s).bind f = f a s := rfl
@[simp] theorem Res.bind_fail {α β : Type} (p : Int) (f : α → St → Res β) : (Res.fail p : Res α).bind f = .fail p := rfl
@[simp] theorem Res.bind_out {α β : Type} (f : α → St → Res β) : (Res.out : Res α).bind f = .out := rfl

def tokAt (c : Cx) (i : Nat) : Tok :=
  match c.toks[i]? with
  | some t => t
  | none => ⟨0, ⟨#[]⟩, c.fin⟩
def isT (t : Tok) (x : ByteArray) : Bool := (t.kind == 2 || t.kind == 6) && decide (t.text = x)
def isS (c : Cx) (s : St) (x : ByteArray) : Bool := isT (tokAt c s.at_) x
def adv (s : St) : St := { s with at_ := s.at_ + 1 }
def posS (c : Cx) (s : St) : Int := (tokAt c s.at_).pos
def failR {α : Type} : R α := fun c s => .fail (posS c s)
def need (x : ByteArray) : R Unit := fun c s => if isS c s x then .ok () (adv s) else .fail (posS c s)
def nameR : R ByteArray := fun c s => if (tokAt c s.at_).kind = 1 then .ok (tokAt c s.at_).text (adv s) else .fail (posS c s)
def semiB (c : Cx) (s : St) : Bool := isS c s (⟨#[59]⟩ : ByteArray) || isS c s (⟨#[10]⟩ : ByteArray)
/-- A semicolon is taken, if one comes. -/
def semiS (c : Cx) (s : St) : St := if semiB c s then adv s else s
def sliceB (c : Cx) (s : St) : Bool := isS c s (⟨#[91]⟩ : ByteArray) && (match c.toks[s.at_ + 1]? with | some t => t.kind == 6 && decide (t.text = (⟨#[93]⟩ : ByteArray)) | none => false)

def rowGo (part : R Nd) (en : ByteArray) : Nat → List Nd → R (List Nd)
  | 0, _ => fun _ _ => .out
  | g + 1, acc => fun c s =>
    if isS c s en then .ok acc (adv s) else
    (part c s).bind fun n s1 =>
    if isS c s1 en then .ok (acc ++ [n]) (adv s1) else
    (need (⟨#[44]⟩ : ByteArray) c s1).bind fun _ s2 => rowGo part en g (acc ++ [n]) c s2
def freeR {α : Type} (part : R α) : R α := fun c s => (part c { s with head := false }).bind fun a s1 => .ok a { s1 with head := s.head }
def headR {α : Type} (part : R α) : R α := fun c s => (part c { s with head := true }).bind fun a s1 => .ok a { s1 with head := s.head }
def typesB (c : Cx) (s : St) : Bool := (tokAt c s.at_).kind == 1 || (isS c s (⟨#[91]⟩ : ByteArray) || (isS c s (⟨#[40]⟩ : ByteArray) || isS c s (⟨#[102, 117, 110, 99]⟩ : ByteArray)))

/-- What is met again, with less fuel. -/
structure Fns where
  g : Nat
  typ : R Nd
  expr : R Nd
  unary : R Nd
  stmt : R Nd
  ifS : R Nd

section
variable (F : Fns)
def resultR : R Nd := fun c s => if typesB c s then F.typ c s else .ok nd0 s
def ftPart : R Nd := fun c s => (F.typ c s).bind fun t s1 => .ok (.mk 8 (⟨#[]⟩ : ByteArray) [t] (posS c s)) s1
def funcTypeR (p : Int) : R Nd := fun c s =>
  (need (⟨#[40]⟩ : ByteArray) c s).bind fun _ s1 => (rowGo (ftPart F) (⟨#[41]⟩ : ByteArray) F.g [] c s1).bind fun l s2 =>
  (resultR F c s2).bind fun r s3 => .ok (.mk 12 (⟨#[]⟩ : ByteArray) [.mk 6 (⟨#[]⟩ : ByteArray) l (posS c s), r] p) s3
def sigPart : R Nd := fun c s => (nameR c s).bind fun x s1 => (F.typ c s1).bind fun t s2 => .ok (.mk 8 x [t] (posS c s)) s2
def sigR (p : Int) : R Nd := fun c s =>
  (need (⟨#[40]⟩ : ByteArray) c s).bind fun _ s1 => (rowGo (sigPart F) (⟨#[41]⟩ : ByteArray) F.g [] c s1).bind fun l s2 =>
  (resultR F c s2).bind fun r s3 => .ok (.mk 12 (⟨#[]⟩ : ByteArray) [.mk 6 (⟨#[]⟩ : ByteArray) l (posS c s), r] p) s3
def typR : R Nd := fun c s =>
  if isS c s (⟨#[40]⟩ : ByteArray) then (F.typ c (adv s)).bind fun t s1 => (need (⟨#[41]⟩ : ByteArray) c s1).bind fun _ s2 => .ok t s2
  else if isS c s (⟨#[91]⟩ : ByteArray) then (need (⟨#[93]⟩ : ByteArray) c (adv s)).bind fun _ s1 => (F.typ c s1).bind fun t s2 => .ok (.mk 11 (⟨#[]⟩ : ByteArray) [t] (posS c s)) s2
  else if isS c s (⟨#[102, 117, 110, 99]⟩ : ByteArray) then funcTypeR F (posS c s) c (adv s)
  else (nameR c s).bind fun x s1 =>
    if isS c s1 (⟨#[91]⟩ : ByteArray) && !sliceB c s1 then
      (rowGo F.typ (⟨#[93]⟩ : ByteArray) F.g [] c (adv s1)).bind fun l s2 => if l.length = 0 then .fail (posS c s2) else .ok (.mk 10 x l (posS c s)) s2
    else .ok (.mk 10 x [] (posS c s)) s1
def termR : R Nd := fun c s =>
  if isS c s (⟨#[126]⟩ : ByteArray) then (F.typ c (adv s)).bind fun t s1 => .ok (.mk 15 (⟨#[126]⟩ : ByteArray) [t] (posS c s)) s1
  else (F.typ c s).bind fun t s1 => .ok (.mk 15 (⟨#[]⟩ : ByteArray) [t] (posS c s)) s1
def unionGo (p : Int) : Nat → List Nd → R Nd
  | 0, _ => fun _ _ => .out
  | g + 1, acc => fun c s =>
    if isS c s (⟨#[124]⟩ : ByteArray) then (termR F c (adv s)).bind fun t s1 => unionGo p g (acc ++ [t]) c s1
    else .ok (.mk 14 (⟨#[]⟩ : ByteArray) acc p) s
def unionR (p : Int) : R Nd := fun c s => (termR F c s).bind fun t s1 => unionGo F p F.g [t] c s1
def interR (p : Int) : R Nd := fun c s =>
  (need (⟨#[123]⟩ : ByteArray) c s).bind fun _ s1 => (unionR F p c s1).bind fun n s2 => (need (⟨#[125]⟩ : ByteArray) c (semiS c s2)).bind fun _ s3 => .ok n s3
/-- A union of one bare name is that name. -/
def bareB (n : Nd) : Option Nd :=
  match n.kids with
  | [t] => match t.kids with
    | k :: _ => if t.text = (⟨#[]⟩ : ByteArray) ∧ k.kind = 10 then some k else none
    | [] => none
  | _ => none
def constraintR : R Nd := fun c s =>
  if isS c s (⟨#[105, 110, 116, 101, 114, 102, 97, 99, 101]⟩ : ByteArray) then interR F (posS c s) c (adv s)
  else (unionR F (posS c s) c s).bind fun n s1 => .ok ((bareB n).getD n) s1
def paramPart : R Nd := fun c s => (nameR c s).bind fun x s1 => (constraintR F c s1).bind fun t s2 => .ok (.mk 7 x [t] (posS c s)) s2
def paramsR : R Nd := fun c s =>
  if isS c s (⟨#[91]⟩ : ByteArray) && !sliceB c s then
    (rowGo (paramPart F) (⟨#[93]⟩ : ByteArray) F.g [] c (adv s)).bind fun l s1 => if l.length = 0 then .fail (posS c s1) else .ok (.mk 6 (⟨#[]⟩ : ByteArray) l (posS c s)) s1
  else .ok (.mk 6 (⟨#[]⟩ : ByteArray) [] 0) s
def fieldsGo (p : Int) : Nat → List Nd → R Nd
  | 0, _ => fun _ _ => .out
  | g + 1, acc => fun c s =>
    if isS c s (⟨#[125]⟩ : ByteArray) then .ok (.mk 13 (⟨#[]⟩ : ByteArray) acc p) (adv s) else
    (nameR c s).bind fun x s1 => (F.typ c s1).bind fun t s2 =>
    if semiB c s2 then fieldsGo p g (acc ++ [.mk 9 x [t] (posS c s)]) c (adv s2)
    else if isS c s2 (⟨#[125]⟩ : ByteArray) then fieldsGo p g (acc ++ [.mk 9 x [t] (posS c s)]) c s2
    else .fail (posS c s2)
def fieldsR (p : Int) : R Nd := fun c s => (need (⟨#[123]⟩ : ByteArray) c s).bind fun _ s1 => fieldsGo F p F.g [] c s1
def variableR : R Nd := fun c s =>
  (need (⟨#[118, 97, 114]⟩ : ByteArray) c s).bind fun _ s1 => (nameR c s1).bind fun x s2 =>
  if isS c s2 (⟨#[61]⟩ : ByteArray) then (F.expr c (adv s2)).bind fun v s3 => .ok (.mk 5 x [nd0, v] (posS c s)) s3
  else (F.typ c s2).bind fun t s3 =>
    if isS c s3 (⟨#[61]⟩ : ByteArray) then (F.expr c (adv s3)).bind fun v s4 => .ok (.mk 5 x [t, v] (posS c s)) s4
    else .ok (.mk 5 x [t, nd0] (posS c s)) s3
def typeDeclR (p : Int) : R Nd := fun c s =>
  (nameR c s).bind fun x s1 => (paramsR F c s1).bind fun ps s2 =>
  if isS c s2 (⟨#[61]⟩ : ByteArray) then (F.typ c (adv s2)).bind fun t s3 => .ok (.mk 4 x [ps, t] p) s3
  else if isS c s2 (⟨#[115, 116, 114, 117, 99, 116]⟩ : ByteArray) then (fieldsR F (posS c s2) c (adv s2)).bind fun t s3 => .ok (.mk 3 x [ps, t] p) s3
  else if isS c s2 (⟨#[105, 110, 116, 101, 114, 102, 97, 99, 101]⟩ : ByteArray) then (interR F (posS c s2) c (adv s2)).bind fun t s3 => .ok (.mk 3 x [ps, t] p) s3
  else (F.typ c s2).bind fun t s3 => .ok (.mk 3 x [ps, t] p) s3
def blockGo (p : Int) : Nat → List Nd → R Nd
  | 0, _ => fun _ _ => .out
  | g + 1, acc => fun c s =>
    if isS c s (⟨#[125]⟩ : ByteArray) then .ok (.mk 36 (⟨#[]⟩ : ByteArray) acc p) (adv s)
    else if semiB c s then blockGo p g acc c (adv s)
    else (F.stmt c s).bind fun n s1 =>
      if semiB c s1 then blockGo p g (acc ++ [n]) c (adv s1)
      else if isS c s1 (⟨#[125]⟩ : ByteArray) then blockGo p g (acc ++ [n]) c s1
      else .fail (posS c s1)
def blockIn : R Nd := fun c s => (need (⟨#[123]⟩ : ByteArray) c s).bind fun _ s1 => blockGo F (posS c s) F.g [] c s1
def blockR : R Nd := freeR (blockIn F)
def declR : R Nd := fun c s =>
  if isS c s (⟨#[102, 117, 110, 99]⟩ : ByteArray) then
    (nameR c (adv s)).bind fun x s1 => (paramsR F c s1).bind fun ps s2 => (sigR F (posS c s) c s2).bind fun sg s3 => (blockR F c s3).bind fun b s4 => .ok (.mk 2 x [ps, sg, b] (posS c s)) s4
  else if isS c s (⟨#[116, 121, 112, 101]⟩ : ByteArray) then typeDeclR F (posS c s) c (adv s)
  else variableR F c s
def restR (p : Int) (x : Nd) : R Nd := fun c s =>
  if x.kind = 18 ∧ x.text ≠ (⟨#[95]⟩ : ByteArray) ∧ isS c s (⟨#[58, 61]⟩ : ByteArray) = true then (F.expr c (adv s)).bind fun v s1 => .ok (.mk 26 x.text [v] p) s1
  else if isS c s (⟨#[61]⟩ : ByteArray) then (F.expr c (adv s)).bind fun v s1 => .ok (.mk 27 (⟨#[]⟩ : ByteArray) [x, v] p) s1
  else if isS c s (⟨#[43, 43]⟩ : ByteArray) then .ok (.mk 28 (⟨#[43, 43]⟩ : ByteArray) [x] p) (adv s)
  else if isS c s (⟨#[45, 45]⟩ : ByteArray) then .ok (.mk 28 (⟨#[45, 45]⟩ : ByteArray) [x] p) (adv s)
  else if x.kind = 21 then .ok (.mk 29 (⟨#[]⟩ : ByteArray) [x] p) s
  else .fail (posS c s)
def simpleR : R Nd := fun c s => (F.expr c s).bind fun x s1 => restR F (posS c s) x c s1
def ifR : R Nd := fun c s =>
  (need (⟨#[105, 102]⟩ : ByteArray) c s).bind fun _ s1 => (headR F.expr c s1).bind fun x s2 => (blockR F c s2).bind fun b s3 =>
  if isS c s3 (⟨#[101, 108, 115, 101]⟩ : ByteArray) then
    if isS c (adv s3) (⟨#[105, 102]⟩ : ByteArray) then (F.ifS c (adv s3)).bind fun o s4 => .ok (.mk 30 (⟨#[]⟩ : ByteArray) [x, b, o] (posS c s)) s4
    else (blockR F c (adv s3)).bind fun o s4 => .ok (.mk 30 (⟨#[]⟩ : ByteArray) [x, b, o] (posS c s)) s4
  else .ok (.mk 30 (⟨#[]⟩ : ByteArray) [x, b, nd0] (posS c s)) s3
/-- The texts of some tokens with blanks between; nothing, where one is a text. -/
def textsB (l : List Tok) : ByteArray :=
  if l.any (fun t => t.kind == 5) then (⟨#[]⟩ : ByteArray) else
  match l with
  | [] => (⟨#[]⟩ : ByteArray)
  | t :: r => r.foldl (fun a u => a ++ (⟨#[32]⟩ : ByteArray) ++ u.text) t.text
def rangedR (c : Cx) (s : St) : Option (ByteArray × St) :=
  let l := c.toks.drop s.at_
  if isS c s (⟨#[114, 97, 110, 103, 101]⟩ : ByteArray) then some ((⟨#[]⟩ : ByteArray), adv s) else
  match l with
  | a :: b :: d :: _ =>
    if a.kind = 1 ∧ a.text ≠ (⟨#[95]⟩ : ByteArray) ∧ textsB [a, b, d] = a.text ++ (⟨#[32, 58, 61, 32, 114, 97, 110, 103, 101]⟩ : ByteArray) then some (a.text, { s with at_ := s.at_ + 3 })
    else if a.kind = 1 ∧ d.kind = 1 ∧ d.text ≠ (⟨#[95]⟩ : ByteArray) ∧ textsB (l.take 5) = a.text ++ (⟨#[32, 44, 32]⟩ : ByteArray) ++ d.text ++ (⟨#[32, 58, 61, 32, 114, 97, 110, 103, 101]⟩ : ByteArray) then some (a.text ++ (⟨#[44]⟩ : ByteArray) ++ d.text, { s with at_ := s.at_ + 5 })
    else none
  | _ => none
def headOfR : R Nd := fun c s => (F.expr c s).bind fun x s1 => if isS c s1 (⟨#[123]⟩ : ByteArray) then .ok x s1 else restR F (posS c s) x c s1
def postR : R Nd := fun c s => (simpleR F c s).bind fun x s1 => if x.kind = 26 then .fail (tokAt c (s.at_ + 1)).pos else .ok x s1
/-- A loop's head: its three parts. -/
def loopR : R (Nd × Nd × Nd) := fun c s =>
  let tail : Nd → R (Nd × Nd × Nd) := fun a c s =>
    (need (⟨#[59]⟩ : ByteArray) c s).bind fun _ s1 =>
    (if isS c s1 (⟨#[59]⟩ : ByteArray) then .ok nd0 s1 else headR F.expr c s1).bind fun b s2 =>
    (need (⟨#[59]⟩ : ByteArray) c s2).bind fun _ s3 =>
    (if isS c s3 (⟨#[123]⟩ : ByteArray) then .ok nd0 s3 else headR (postR F) c s3).bind fun d s4 => .ok (a, b, d) s4
  if isS c s (⟨#[59]⟩ : ByteArray) then tail nd0 c s else
  (headR (headOfR F) c s).bind fun x s1 =>
  if x.kind = 29 then .fail (posS c s1)
  else if x.kind < 26 then .ok (nd0, x, nd0) s1
  else tail x c s1
def forR : R Nd := fun c s =>
  (need (⟨#[102, 111, 114]⟩ : ByteArray) c s).bind fun _ s1 =>
  match rangedR c s1 with
  | some (x, s2) => (headR F.expr c s2).bind fun e s3 => (blockR F c s3).bind fun b s4 => .ok (.mk 32 x [e, b] (posS c s)) s4
  | none =>
    (if isS c s1 (⟨#[123]⟩ : ByteArray) then .ok (nd0, nd0, nd0) s1 else loopR F c s1).bind fun h s2 =>
    (blockR F c s2).bind fun b s3 => .ok (.mk 31 (⟨#[]⟩ : ByteArray) [h.1, h.2.1, h.2.2, b] (posS c s)) s3
def stmtR : R Nd := fun c s =>
  if isS c s (⟨#[118, 97, 114]⟩ : ByteArray) then variableR F c s
  else if isS c s (⟨#[105, 102]⟩ : ByteArray) then ifR F c s
  else if isS c s (⟨#[102, 111, 114]⟩ : ByteArray) then forR F c s
  else if isS c s (⟨#[123]⟩ : ByteArray) then blockR F c s
  else if isS c s (⟨#[114, 101, 116, 117, 114, 110]⟩ : ByteArray) then
    if semiB c (adv s) || isS c (adv s) (⟨#[125]⟩ : ByteArray) then .ok (.mk 33 (⟨#[]⟩ : ByteArray) [nd0] (posS c s)) (adv s)
    else (F.expr c (adv s)).bind fun x s1 => .ok (.mk 33 (⟨#[]⟩ : ByteArray) [x] (posS c s)) s1
  else if isS c s (⟨#[98, 114, 101, 97, 107]⟩ : ByteArray) then .ok (.mk 34 (⟨#[]⟩ : ByteArray) [] (posS c s)) (adv s)
  else if isS c s (⟨#[99, 111, 110, 116, 105, 110, 117, 101]⟩ : ByteArray) then .ok (.mk 35 (⟨#[]⟩ : ByteArray) [] (posS c s)) (adv s)
  else simpleR F c s
def endsB (c : Cx) (s : St) : Bool := isS c s (⟨#[44]⟩ : ByteArray) || isS c s (⟨#[93]⟩ : ByteArray)
def namedB (c : Cx) (s : St) : Bool :=
  decide (s.at_ + 2 < c.toks.length) && ((tokAt c (s.at_ + 1)).kind == 1 &&
    ((tokAt c (s.at_ + 2)).kind == 1 || (isS c { s with at_ := s.at_ + 2 } (⟨#[102, 117, 110, 99]⟩ : ByteArray) || (isS c { s with at_ := s.at_ + 2 } (⟨#[40]⟩ : ByteArray) || sliceB c { s with at_ := s.at_ + 2 }))))
def functionR (p : Int) (types : Bool) : R Nd := fun c s =>
  if types = true ∧ namedB c s = false ∧ s.at_ + 1 < c.toks.length ∧ (tokAt c (s.at_ + 1)).text ≠ (⟨#[41]⟩ : ByteArray) then
    (funcTypeR F p c s).bind fun t s1 => if endsB c s1 then .ok t s1 else .fail (posS c s1)
  else (sigR F p c s).bind fun sg s1 =>
    if types = true ∧ (sg.kids.headD nd0).kids.length = 0 ∧ endsB c s1 = true then .ok sg s1
    else (blockR F c s1).bind fun b s2 => .ok (.mk 25 (⟨#[]⟩ : ByteArray) [sg, b] p) s2
def literalR (t : Nd) : R Nd := fun c s =>
  (need (⟨#[123]⟩ : ByteArray) c s).bind fun _ s1 => (freeR (rowGo F.expr (⟨#[125]⟩ : ByteArray) F.g []) c s1).bind fun l s2 => .ok (.mk 24 (⟨#[]⟩ : ByteArray) (t :: l) t.pos) s2
def slicesR (types : Bool) : R Nd := fun c s =>
  (F.typ c s).bind fun t s1 => if types && endsB c s1 then .ok t s1 else literalR F t c s1
def bracketsR : R Nd := fun c s => F.expr c { s with part := s.at_ }
mutual
/-- An expression as a type. -/
def asType : Nd → Option Nd
  | .mk k t l a =>
    if k = 10 ∨ k = 11 ∨ k = 12 then some (.mk k t l a)
    else if k = 18 then some (.mk 10 t [] a)
    else if k = 22 then
      match l with
      | [] => none
      | x :: r => match asType x with
        | some (.mk k2 t2 l2 a2) => if k2 = 10 ∧ l2.length = 0 then (asTypes r).map fun r' => .mk k2 t2 r' a2 else none
        | none => none
    else none
def asTypes : List Nd → Option (List Nd)
  | [] => some []
  | x :: r => match asType x with
    | some y => (asTypes r).map fun r' => y :: r'
    | none => none
end
def litNum (_s : ByteArray) : ByteArray := (⟨#[]⟩ : ByteArray)
def litText (_s : ByteArray) : ByteArray := (⟨#[]⟩ : ByteArray)
def operandR : R (Nd × Bool) := fun c s =>
  let t := tokAt c s.at_
  let types : Bool := decide (s.part = (s.at_ : Int))
  let s0 : St := { s with part := -1 }
  if t.kind = 1 then .ok (.mk 18 t.text [] t.pos, true) (adv s0)
  else if t.kind = 4 then .ok (.mk 16 (litNum t.text) [] t.pos, false) (adv s0)
  else if t.kind = 5 then .ok (.mk 17 (litText t.text) [] t.pos, false) (adv s0)
  else if isS c s0 (⟨#[40]⟩ : ByteArray) then (freeR F.expr c (adv s0)).bind fun x s1 => (need (⟨#[41]⟩ : ByteArray) c s1).bind fun _ s2 => .ok (x, false) s2
  else if isS c s0 (⟨#[102, 117, 110, 99]⟩ : ByteArray) then (functionR F t.pos types c (adv s0)).bind fun x s1 => .ok (x, false) s1
  else if sliceB c s0 then (slicesR F types c s0).bind fun x s1 => .ok (x, false) s1
  else .fail t.pos
def primaryGo : Nat → Nd → Bool → R Nd
  | 0, _, _ => fun _ _ => .out
  | g + 1, out, bare => fun c s =>
    if isS c s (⟨#[40]⟩ : ByteArray) then (freeR (rowGo F.expr (⟨#[41]⟩ : ByteArray) F.g []) c (adv s)).bind fun l s1 => primaryGo g (.mk 21 (⟨#[]⟩ : ByteArray) (out :: l) out.pos) false c s1
    else if isS c s (⟨#[91]⟩ : ByteArray) then (freeR (rowGo (bracketsR F) (⟨#[93]⟩ : ByteArray) F.g []) c (adv s)).bind fun l s1 =>
      if l.length = 0 then .fail (tokAt c (s1.at_ - 1)).pos else primaryGo g (.mk 22 (⟨#[]⟩ : ByteArray) (out :: l) out.pos) bare c s1
    else if isS c s (⟨#[46]⟩ : ByteArray) then (nameR c (adv s)).bind fun x s1 => primaryGo g (.mk 23 x [out] out.pos) false c s1
    else if isS c s (⟨#[123]⟩ : ByteArray) && (bare && !s.head) then
      match asType out with
      | none => .ok out s
      | some t => (literalR F t c s).bind fun n s1 => primaryGo g n false c s1
    else .ok out s
def primaryR : R Nd := fun c s => (operandR F c s).bind fun x s1 => primaryGo F F.g x.1 x.2 c s1
def unaryR : R Nd := fun c s =>
  if isS c s (⟨#[45]⟩ : ByteArray) || isS c s (⟨#[33]⟩ : ByteArray) then (F.unary c (adv s)).bind fun x s1 => .ok (.mk 19 (tokAt c s.at_).text [x] (posS c s)) s1
  else primaryR F c s
/-- The signs of a level (the loosest is 5 from the end). -/
def lvl : Nat → List ByteArray
  | 5 => [(⟨#[124, 124]⟩ : ByteArray)]
  | 4 => [(⟨#[38, 38]⟩ : ByteArray)]
  | 3 => [(⟨#[61, 61]⟩ : ByteArray), (⟨#[33, 61]⟩ : ByteArray), (⟨#[60]⟩ : ByteArray), (⟨#[60, 61]⟩ : ByteArray), (⟨#[62]⟩ : ByteArray), (⟨#[62, 61]⟩ : ByteArray)]
  | 2 => [(⟨#[43]⟩ : ByteArray), (⟨#[45]⟩ : ByteArray)]
  | _ => [(⟨#[42]⟩ : ByteArray), (⟨#[47]⟩ : ByteArray), (⟨#[37]⟩ : ByteArray)]
def opB (k : Nat) (t : Tok) : Bool := t.kind == 6 && (lvl k).any fun x => decide (t.text = x)
def binGo (k : Nat) (below : R Nd) : Nat → Nd → R Nd
  | 0, _ => fun _ _ => .out
  | g + 1, out => fun c s =>
    if opB k (tokAt c s.at_) then (below c (adv s)).bind fun y s1 => binGo k below g (.mk 20 (tokAt c s.at_).text [out, y] out.pos) c s1
    else .ok out s
def binR : Nat → R Nd
  | 0 => unaryR F
  | k + 1 => fun c s => (binR k c s).bind fun x s1 => binGo (k + 1) (binR k) F.g x c s1
def exprR : R Nd := binR F 5
def fileGo (p : Int) (x : ByteArray) : Nat → List Nd → R Nd
  | 0, _ => fun _ _ => .out
  | g + 1, acc => fun c s =>
    if semiB c s then
      if s.at_ + 1 = c.toks.length then .ok (.mk 1 x acc p) (adv s)
      else if isS c (adv s) (⟨#[102, 117, 110, 99]⟩ : ByteArray) || (isS c (adv s) (⟨#[116, 121, 112, 101]⟩ : ByteArray) || isS c (adv s) (⟨#[118, 97, 114]⟩ : ByteArray)) then (declR F c (adv s)).bind fun d s1 => fileGo p x g (acc ++ [d]) c s1
      else .fail (posS c (adv s))
    else .fail (posS c s)
def fileR : R Nd := fun c s => (need (⟨#[112, 97, 99, 107, 97, 103, 101]⟩ : ByteArray) c s).bind fun _ s1 => (nameR c s1).bind fun x s2 => fileGo F (posS c s) x F.g [] c s2
end
/-- The functions with so much fuel. -/
def fns : Nat → Fns
  | 0 => ⟨0, fun _ _ => .out, fun _ _ => .out, fun _ _ => .out, fun _ _ => .out, fun _ _ => .out⟩
  | g + 1 => ⟨g + 1, typR (fns g), exprR (fns g), unaryR (fns g), stmtR (fns g), ifR (fns g)⟩
end Go.Proofs.YtnalfjaojcahhaaGreatDoor
namespace Go.Proofs.YtnalfjaojcahhaaGreatDoor
open Go.RowKit Go.Lib Go.Proofs
attribute [local go_sem ↓] Go.wp_at_zero Go.wp_at_succ

/-- The three cells of a token. -/
def encT (t : Tok) : List Value := [.int .i64 t.kind, .string t.text, .int .i64 t.pos]
theorem encT_len (t : Tok) : (encT t).length = 3 := rfl

/-- Where the reader lies, and where its tokens. -/
structure Env where
  R : Nat
  A : Option Addr
  cap : Nat
  c : Cx
def Env.ptr (E : Env) : Value := .pointer (some ⟨E.R, 0, none⟩)
def rdCells (E : Env) (s : St) : Array Value := #[.slice E.A E.c.toks.length E.cap, .int .i64 s.at_, .int .i64 E.c.fin, .bool s.head, .int .i64 s.part]
/-- The reader is in a state. -/
structure RdAt (E : Env) (w : World) (s : St) : Prop where
  blk : Blk w E.R 81 (rdCells E s)
  toks : ReadsX (· < E.R) w 3 E.A E.c.toks.length (E.c.toks.flatMap encT)
  le : s.at_ ≤ E.c.toks.length
  most : E.c.toks.length ≤ 1000000
  fits : E.c.toks.length ≤ E.cap
section
variable {E : Env} {w w' : World} {s s' : St}
theorem RdAt.lt (h : RdAt E w s) : E.R < w.heap.size := h.blk.lt
theorem RdAt.keep (h : RdAt E w s) (hk : ∀ b, b ≤ E.R → w'.heap[b]? = w.heap[b]?) : RdAt E w' s :=
  ⟨(hk _ (Nat.le_refl _)).trans h.blk, h.toks.keep (fun b hb _ => hk b (Nat.le_of_lt hb)), h.le, h.most, h.fits⟩
theorem RdAt.below (h : RdAt E w s) (hb : Below w.heap.size w w') : RdAt E w' s := h.keep fun b hbR => hb.block b (Nat.lt_of_le_of_lt hbR h.lt)
theorem RdAt.drew (h : RdAt E w s) : RdAt E w.drew s := h.below (Below.refl _ _).drew
theorem RdAt.drewN (h : RdAt E w s) (n : Nat) : RdAt E (w.drewN n) s := h.below (below_drewN (Below.refl _ _) n)
theorem RdAt.alloc (h : RdAt E w s) (o : Obj) : RdAt E (w.alloc o) s := h.below ((Below.refl _ _).alloc (Nat.le_refl _) o)
theorem RdAt.far (h : RdAt E w s) {p : Addr} (hp : E.R < p.block) (u : Value) : RdAt E (w.setCell p u) s :=
  h.keep fun b hb => Below.heap_setCell w p u b (by omega)
theorem RdAt.grown (h : RdAt E w s) {row : Option Nat} (hg : w.grownBy w' row) (hr : ∀ g, row = some g → E.R < g) : RdAt E w' s :=
  h.keep fun b hb => hg.block b (Nat.lt_of_le_of_lt hb h.lt) (fun e => by have := hr b e.symm; omega)
theorem RdAt.toks_keep (h : RdAt E w s) (hg : w.grownBy w' (some E.R)) : ReadsX (· < E.R) w' 3 E.A E.c.toks.length (E.c.toks.flatMap encT) :=
  h.toks.keep fun b hb hlt => hg.block b hlt (fun e => by injection e with e; omega)
/-- The reader's place is set. -/
theorem RdAt.setAt (h : RdAt E w s) (n : Nat) (hn : n ≤ E.c.toks.length) : RdAt E (w.setCell ⟨E.R, 1, none⟩ (.int .i64 (n : Int))) { s with at_ := n } :=
  ⟨by simpa [rdCells] using h.blk.set_ 1 (.int .i64 (n : Int)), h.toks_keep (grownBy_set _ _ _ _), hn, h.most, h.fits⟩
theorem RdAt.setHead (h : RdAt E w s) (b : Bool) : RdAt E (w.setCell ⟨E.R, 3, none⟩ (.bool b)) { s with head := b } :=
  ⟨by simpa [rdCells] using h.blk.set_ 3 (.bool b), h.toks_keep (grownBy_set _ _ _ _), h.le, h.most, h.fits⟩
theorem RdAt.setPart (h : RdAt E w s) (n : Int) : RdAt E (w.setCell ⟨E.R, 4, none⟩ (.int .i64 n)) { s with part := n } :=
  ⟨by simpa [rdCells] using h.blk.set_ 4 (.int .i64 n), h.toks_keep (grownBy_set _ _ _ _), h.le, h.most, h.fits⟩
/-- The reader's cells. -/
theorem RdAt.cells (h : RdAt E w s) : w.cell? ⟨E.R, 0, none⟩ = some (.slice E.A E.c.toks.length E.cap) ∧ w.cell? ⟨E.R, 1, none⟩ = some (.int .i64 s.at_) ∧ w.cell? ⟨E.R, 2, none⟩ = some (.int .i64 E.c.fin) ∧
    w.cell? ⟨E.R, 3, none⟩ = some (.bool s.head) ∧ w.cell? ⟨E.R, 4, none⟩ = some (.int .i64 s.part) ∧ (∀ i, w.frozen? ⟨E.R, i, none⟩ = false) := by
  have c0 := h.blk.cell 0
  have c1 := h.blk.cell 1
  have c2 := h.blk.cell 2
  have c3 := h.blk.cell 3
  have c4 := h.blk.cell 4
  simp [rdCells] at c0 c1 c2 c3 c4
  exact ⟨c0, c1, c2, c3, c4, h.blk.frozen⟩
/-- A token's cells. -/
theorem RdAt.tok (h : RdAt E w s) (i : Nat) (hi : i < E.c.toks.length) : ∃ b off, E.A = some ⟨b, off, none⟩ ∧ b < E.R ∧ w.cell? ⟨b, off + i * 3, none⟩ = some (.int .i64 (tokAt E.c i).kind) ∧
    w.cell? ⟨b, off + i * 3 + 1, none⟩ = some (.string (tokAt E.c i).text) ∧ w.cell? ⟨b, off + i * 3 + 2, none⟩ = some (.int .i64 (tokAt E.c i).pos) := by
  obtain ⟨b, off, e, hb, hc⟩ := h.toks.2 (by omega)
  have ht : tokAt E.c i = E.c.toks[i] := by unfold tokAt; rw [List.getElem?_eq_getElem hi]
  rw [ht]
  refine ⟨b, off, e, hb, hc (i * 3) _ ?_, hc (i * 3 + 1) _ ?_, hc (i * 3 + 2) _ ?_⟩
  · have := flat_get encT_len E.c.toks i 0 hi (by omega)
    rw [Nat.add_zero] at this; rw [this]; rfl
  · rw [flat_get encT_len E.c.toks i 1 hi (by omega)]; rfl
  · rw [flat_get encT_len E.c.toks i 2 hi (by omega)]; rfl
theorem tokAt_end (c : Cx) (i : Nat) (h : c.toks.length ≤ i) : tokAt c i = ⟨0, ⟨#[]⟩, c.fin⟩ := by
  unfold tokAt; rw [List.getElem?_eq_none h]
end

def tokV (t : Tok) : Value := .agg #[.int .i64 t.kind, .string t.text, .int .i64 t.pos]

theorem below_drewN {B : Nat} {a w : World} (h : Below B a w) (n : Nat) : Below B a (w.drewN n) := h.trans ⟨rfl, rfl, rfl, Nat.le_refl _, fun _ _ => rfl⟩

set_option maxHeartbeats 1000000 in
theorem next_any (E : Env) (s : St) (w : World) (h : RdAt E w s) : Calls Tryz.prog 62 #[.pointer (some ⟨E.R, 0, none⟩)] w fun e w' => e = .returned (tokV (tokAt E.c s.at_)) ∧ Below w.heap.size w w' := by
  obtain ⟨c0, c1, c2, _, _, _⟩ := h.cells
  have hlt := h.lt
  have hne := Nat.ne_of_lt hlt
  have hmost := h.most
  by_cases hat : s.at_ = E.c.toks.length
  · have ht := tokAt_end E.c s.at_ (by omega)
    rw [ht]
    rw [hat] at c1
    clear ht hat h
    go_enter Tryz.func62, Tryz.ntmps62
    go_wp2_with fail
    go_quiet (fail)
    go_wp2_with fail
    refine bodyPost_ret (v := tokV ⟨0, ⟨#[]⟩, E.c.fin⟩) (by simp [results, tokV, Tryz.results62, go_sem]) rfl ⟨rfl, ?_⟩
    (repeat' (first | with_reducible exact Below.refl _ _ | with_reducible refine Below.alloc ?_ ?_ _ | with_reducible refine Below.setCell ?_ ?_ _ | with_reducible refine Below.drew ?_ | with_reducible refine below_drewN ?_ _ | (simp <;> omega) | omega))
  · have hlt2 : s.at_ < E.c.toks.length := by have := h.le; omega
    obtain ⟨b, off, eA, hb, t0, t1, t2⟩ := h.tok s.at_ hlt2
    rw [eA] at c0
    have g1 : ((s.at_ : Int) == (E.c.toks.length : Int)) = false := by simp; omega
    have g2 : (0 : Int) ≤ (s.at_ : Int) := by omega
    have g3 : (s.at_ : Int) < (E.c.toks.length : Int) := by omega
    have hlt3 : b < w.heap.size := by omega
    have hne2 : b ≠ w.heap.size := by omega
    clear hat h eA
    go_enter Tryz.func62, Tryz.ntmps62
    go_wp2_with fail
    go_quiet (fail)
    go_wp2_with fail
    go_region
    go_wp2_with fail
    refine bodyPost_ret (v := tokV (tokAt E.c s.at_)) (by simp [results, tokV, Tryz.results62, go_sem]) rfl ⟨rfl, ?_⟩
    (repeat' (first | with_reducible exact Below.refl _ _ | with_reducible refine Below.alloc ?_ ?_ _ | with_reducible refine Below.setCell ?_ ?_ _ | with_reducible refine Below.drew ?_ | with_reducible refine below_drewN ?_ _ | (simp <;> omega) | omega))
end Go.Proofs.YtnalfjaojcahhaaGreatDoor
