/-
  The reader's rows: what a part is, row, free, inHead. By an AI agent.
  The reader's free, inHead, slice, result's helpers. By an AI agent.
  A region that draws its order, whose operations yield one value each in every world of a class, and leave a world of the class. By an AI agent.
-/
import Derived.Test.YtnalfjaojcahhaaGreatDoorJ02
import Derived.BigQuiet
import Derived.Deep.Draws
namespace Go.Proofs.YtnalfjaojcahhaaGreatDoor
open Go.RowKit Go.Lib Go.Proofs
attribute [local go_sem ↓] Go.wp_at_zero Go.wp_at_succ

/-- How a function that reads a node ends. -/
def PostN (E : Env) (w : World) (r : Res Nd) (e : Ending) (w' : World) : Prop :=
  match r with
  | .ok n s => (∃ v, e = .returned v ∧ NodeV (fun b => w.heap.size ≤ b) w' v n) ∧ Moved E s w w'
  | .fail p => e = wrongV p ∧ w.grownBy w' (some E.R)
  | .out => False
/-- Nodes as a slice. -/
def NodesV (X : Nat → Prop) (w : World) (v : Value) (l : List Nd) : Prop :=
  ∃ A cap xs, v = .slice A l.length cap ∧ l.length ≤ cap ∧ ReadsX X w 4 A l.length xs ∧ NodesC X w l xs
def PostL (E : Env) (w : World) (r : Res (List Nd)) (e : Ending) (w' : World) : Prop :=
  match r with
  | .ok l s => (∃ v, e = .returned v ∧ NodesV (fun b => w.heap.size ≤ b) w' v l) ∧ Moved E s w w'
  | .fail p => e = wrongV p ∧ w.grownBy w' (some E.R)
  | .out => False
/-- A function value that reads a part. -/
def PartC (E : Env) (k : FuncId) (args : Array Value) (m : R Nd) (w0 : World) : Prop :=
  ∀ (w : World) (s : St), w0.grownBy w (some E.R) → RdAt E w s → m E.c s ≠ .out → Calls Tryz.prog k args w (PostN E w (m E.c s))
theorem PartC.grown {E : Env} {k : FuncId} {args : Array Value} {m : R Nd} {w0 w1 : World} (h : PartC E k args m w0) (hg : w0.grownBy w1 (some E.R)) : PartC E k args m w1 :=
  fun w s hw hr hm => h w s (hg.trans hw) hr hm

theorem infoNd : (Tryz.prog.info? 24).map (fun i => (i.zero, i.size, i.bytes)) = some (some (.agg #[.int .i64 0, .string ⟨#[]⟩, .slice none 0 0, .int .i64 0]), 4, 56) := by kernel_rfl

/-- A row of the call's own, of nodes. -/
structure OwnN (B : Nat) (w : World) (v : Value) (l : List Nd) : Prop where
  out : ∃ xs, w.ownsRow B 24 4 v l.length xs ∧ NodesC (fun b => B ≤ b ∧ some b ≠ v.ownBlock) w l xs
theorem OwnN.nil (B : Nat) (w : World) : OwnN B w (.slice none 0 0) [] := ⟨[], World.ownsRow_nil _ _ _ _, NodesC.nil⟩
theorem OwnN.keep {B : Nat} {w w' : World} {v : Value} {l : List Nd} (h : OwnN B w v l) (hk : ∀ b, B ≤ b → b < w.heap.size → w'.heap[b]? = w.heap[b]?) : OwnN B w' v l := by
  obtain ⟨xs, h1, h2⟩ := h.out
  refine ⟨xs, ⟨h1.1, ?_⟩, h2.keep fun b hb hlt => hk b hb.1 hlt⟩
  rcases h1.2 with h0 | ⟨g, cap, cur, e, hg, hh, r⟩
  · exact .inl h0
  · refine .inr ⟨g, cap, cur, e, hg, ?_, r⟩
    have hlt : g < w.heap.size := by
      rcases Nat.lt_or_ge g w.heap.size with hlt | hge
      · exact hlt
      · rw [Array.getElem?_eq_none hge] at hh; cases hh
    exact (hk g hg hlt).trans hh
theorem OwnN.grown {B R : Nat} {w w' : World} {v : Value} {l : List Nd} (h : OwnN B w v l) (hg : w.grownBy w' (some R)) (hR : R < B) : OwnN B w' v l :=
  h.keep fun b hb hlt => hg.block b hlt (fun e => by injection e; omega)
theorem OwnN.values {B : Nat} {w : World} {v : Value} {l : List Nd} (h : OwnN B w v l) : NodesV (fun b => B ≤ b) w v l := by
  obtain ⟨xs, h1, h2⟩ := h.out
  rcases h1.2 with ⟨rfl, h0⟩ | ⟨g, cap, cur, rfl, hg, hh, hnc, _, hsz, ht⟩
  · exact ⟨none, 0, xs, by rw [h0], by omega, ⟨h1.1, fun h => by omega⟩, h2.mono fun b hb _ => hb.1⟩
  · refine ⟨_, cap, xs, rfl, hnc, ⟨h1.1, fun _ => ⟨g, 0, rfl, hg, fun j u hu => ?_⟩⟩, h2.mono fun b hb _ => hb.1⟩
    have hj : j < l.length * 4 := by have := (List.getElem?_eq_some_iff.1 hu).1; rw [h1.1] at this; exact this
    rw [Nat.zero_add]
    unfold World.cell?
    rw [hh]
    simp only [Option.isSome_none, Bool.false_eq_true, if_false]
    rw [← ht, List.getElem?_take_of_lt hj] at hu
    rw [← hu]; simp
/-- A node is appended. -/
theorem OwnN.push {B S : Nat} {w1 w2 : World} {u v' : Value} {l : List Nd} {n : Nd} {o : Obj} {cs : List Value} {xs : List Value}
    (hn : NodesC (fun b => B ≤ b ∧ some b ≠ u.ownBlock) w1 l xs)
    (hV : NodeC (fun b => S ≤ b) w1 n cs) (hB : B ≤ S) (hu : ∀ g, u.ownBlock = some g → g < S)
    (hown : w2.ownsRow B 24 4 v' (l.length + 1) (xs ++ cs)) (hg : (w1.alloc o).grownBy w2 u.ownBlock) (hat : v'.ownBlock = u.ownBlock ∨ v'.ownBlock = some (w1.alloc o).heap.size) : OwnN B w2 v' (l ++ [n]) := by
  refine ⟨xs ++ cs, by rw [List.length_append]; exact hown, ?_⟩
  have h1 : NodesC (fun b => B ≤ b ∧ some b ≠ u.ownBlock ∧ b < w1.heap.size) w1 (l ++ [n]) (xs ++ cs) :=
    (hn.mono fun b hb hlt => ⟨hb.1, hb.2, hlt⟩).app (NodesC.one (hV.mono fun b hb hlt => ⟨Nat.le_trans hB hb, fun e => by have := hu b e.symm; omega, hlt⟩))
  have h2 := h1.keep (w' := w2) fun b hb hlt => (hg.block b (by rw [World.size_alloc]; omega) hb.2.1).trans (Below.heap_alloc w1 o b hlt)
  refine h2.mono fun b hb _ => ⟨hb.1, ?_⟩
  rcases hat with e | e
  · rw [e]; exact hb.2.1
  · rw [e, World.size_alloc]; intro e2; injection e2 with e2; omega

theorem one_node (n : Nd) (A : Option Addr) (cap : Nat) : ∀ u ∈ [Value.int .i64 n.kind, .string n.text, .slice A n.kids.length cap, .int .i64 n.pos], u.oneCell' = true := by
  intro u hu
  simp only [List.mem_cons, List.not_mem_nil, or_false] at hu
  rcases hu with rfl | rfl | rfl | rfl <;> rfl
theorem OwnN.lt {B : Nat} {w : World} {v : Value} {l : List Nd} (h : OwnN B w v l) : ∀ g, v.ownBlock = some g → B ≤ g ∧ g < w.heap.size := by
  obtain ⟨xs, h1, _⟩ := h.out
  exact fun g hg => h1.lt g hg
/-- What is left behind an append of a node. -/
structure Pushed (E : Env) (s : St) (B : Nat) (w w1 w2 : World) (v' : Value) (l : List Nd) : Prop where
  own : OwnN B w2 v' l
  mov : Moved E s w w2
  old : ∀ b, b < w1.heap.size → (B ≤ b → False) → w2.heap[b]? = w1.heap[b]?
  le : w1.heap.size ≤ w2.heap.size
theorem wp_push {o : Oper} {a : Act} {K : Act → World → Prop} {Q : Exit → Act → World → Prop} (s x : Operand)
    (ho : o.op = .call { callee := .builtin .append, args := #[s, x], argTypes := #[22, 22] })
    (E : Env) (st : St) (B S : Nat) (w w1 : World) (u : Value) (l : List Nd) (n : Nd) (A : Option Addr) (cap : Nat) (hs : a.eval s = u) (hx : a.eval x = .slice (some ⟨w1.heap.size, 0, none⟩) 1 1)
    (hO : OwnN B w1 u l) (hm : Moved E st w w1) (hwB : w.heap.size ≤ B) (hR : E.R < B) (hB : B ≤ S) (hS : S ≤ w1.heap.size) (hu : ∀ g, u.ownBlock = some g → g < S) (hl : l.length ≤ 1000000)
    (hV : NodeC (fun b => S ≤ b) w1 n [.int .i64 n.kind, .string n.text, .slice A n.kids.length cap, .int .i64 n.pos])
    (h : ∀ g c w2, Pushed E st B w w1 w2 (.slice (some ⟨g, 0, none⟩) (l.length + 1) c) (l ++ [n]) → K (a.put o.dst (.slice (some ⟨g, 0, none⟩) (l.length + 1) c)) w2) :
    o.wp Tryz.prog a (w1.alloc (.cells #[.int .i64 n.kind, .string n.text, .slice A n.kids.length cap, .int .i64 n.pos] 24)) K Q := by
  obtain ⟨i0, hi, hz0, hz1, hz2⟩ := info_parts infoNd
  obtain ⟨xs, hown, hnc⟩ := hO.out
  refine wp_append_lies _ s x 22 ho B 24 i0 _ 4 56 Tryz.underlying22 hi hz0 hz1 hz2 rfl (by omega) u l.length xs hs (hown.alloc _) ⟨w1.heap.size, 0, none⟩ 1 1 [.int .i64 n.kind, .string n.text, .slice A n.kids.length cap, .int .i64 n.pos] hx rfl
    (World.news_of_block (cs := #[.int .i64 n.kind, .string n.text, .slice A n.kids.length cap, .int .i64 n.pos]) (heap_alloc_new _ _)) (one_node n A cap) (by omega) (by unfold maxLen; omega) (by omega) (by rw [World.size_alloc]; omega) _ rfl ?_
  intro g c w2 hown1 hg hat _
  have hul : ∀ g, u.ownBlock = some g → B ≤ g := fun g hg => (hO.lt g hg).1
  have hold : ∀ b, b < w1.heap.size → (B ≤ b → False) → w2.heap[b]? = w1.heap[b]? := fun b hb hBb => (hg.block b (by rw [World.size_alloc]; omega) (fun e => hBb (hul b e.symm))).trans (Below.heap_alloc w1 _ b hb)
  have hle : w1.heap.size ≤ w2.heap.size := Nat.le_trans (by rw [World.size_alloc]; omega) hg.size
  refine h g c w2 ⟨OwnN.push hnc hV hB hu hown1 hg ?_, ⟨hm.rd.keep fun b hb => ?_, ?_⟩, hold, hle⟩
  · rcases hat with e | e
    · exact .inl (by rw [e]; rfl)
    · exact .inr (by rw [e]; rfl)
  · exact hold b (Nat.lt_of_le_of_lt hb hm.rd.lt) (fun h2 => by omega)
  · refine ⟨hg.os.trans hm.gr.os, hg.tape.trans hm.gr.tape, hg.output.trans hm.gr.output, Nat.le_trans hm.gr.size hle, fun k hk hne => ?_⟩
    exact (hold k (Nat.lt_of_lt_of_le hk hm.gr.size) (fun h2 => by omega)).trans (hm.gr.block k hk hne)
theorem wpList_push {ops : Array Oper} {rest : List Oper} {o : Oper} {a : Act} {Q : Exit → Act → World → Prop} (hgd : o.guard = none) (s x : Operand)
    (ho : o.op = .call { callee := .builtin .append, args := #[s, x], argTypes := #[22, 22] })
    (E : Env) (st : St) (B S : Nat) (w w1 : World) (u : Value) (l : List Nd) (n : Nd) (A : Option Addr) (cap : Nat) (hs : a.eval s = u) (hx : a.eval x = .slice (some ⟨w1.heap.size, 0, none⟩) 1 1)
    (hO : OwnN B w1 u l) (hm : Moved E st w w1) (hwB : w.heap.size ≤ B) (hR : E.R < B) (hB : B ≤ S) (hS : S ≤ w1.heap.size) (hu : ∀ g, u.ownBlock = some g → g < S) (hl : l.length ≤ 1000000)
    (hV : NodeC (fun b => S ≤ b) w1 n [.int .i64 n.kind, .string n.text, .slice A n.kids.length cap, .int .i64 n.pos])
    (h : ∀ g c w2, Pushed E st B w w1 w2 (.slice (some ⟨g, 0, none⟩) (l.length + 1) c) (l ++ [n]) → wpList Tryz.prog ops Q rest (a.put o.dst (.slice (some ⟨g, 0, none⟩) (l.length + 1) c)) w2) :
    wpList Tryz.prog ops Q (o :: rest) a (w1.alloc (.cells #[.int .i64 n.kind, .string n.text, .slice A n.kids.length cap, .int .i64 n.pos] 24)) :=
  wpList_plain hgd fun _ hK => wp_push s x ho E st B S w w1 u l n A cap hs hx hO hm hwB hR hB hS hu hl hV fun g c w2 hp => hK _ _ (h g c w2 hp)

set_option maxRecDepth 100000 in
set_option maxHeartbeats 4000000 in
theorem row_any (E : Env) (k : FuncId) (first cap : Array Value) (part : R Nd) (en : ByteArray) (g : Nat) (s : St) (w : World) (h : RdAt E w s)
    (hk : ∀ a w, (callFunc k a).run Tryz.prog w = .ok (.enter k a) w) (hp : PartC E k (first ++ cap) part w) (hne : rowGo part en g [] E.c s ≠ .out) (hg0 : g ≤ 1000000) :
    Calls Tryz.prog 146 #[.pointer (some ⟨E.R, 0, none⟩), .string en, .func (.func k) first cap] w (PostL E w (rowGo part en g [] E.c s)) := by
  generalize hres : rowGo part en g [] E.c s = res at *
  have HRES := Lib.hid hres
  have HP := Lib.hid hp
  have HNE := Lib.hid hne
  obtain ⟨i0, hi, hz0, hz1, hz2⟩ := info_parts infoNd
  clear hres hp hne
  go_enter Tryz.func146, Tryz.ntmps146
  go_wp2_with fail
  go_loopg [7] g (fun g u7 wr => ∃ (acc : List Nd) (s' : St), OwnN w.heap.size wr u7 acc ∧ acc.length + g ≤ 1000000 ∧ rowGo part en g acc E.c s' = res ∧ Moved E s' w wr)
  case atStart => exact ⟨[], s, OwnN.nil _ _, by simpa using hg0, HRES.out, Moved.refl h⟩
  case round =>
    obtain ⟨acc, s1, hown, hlen, hr, hm⟩ := hrel
    have HR := Lib.hid hr
    have HO := Lib.hid hown
    clear hr hown HRES
    cases gk with
    | zero => exact absurd HR.out.symm (by rw [rowGo]; exact HNE.out)
    | succ g1 =>
      cases hA : isS E.c s1 en with
      | true =>
        have HF := Lib.hid (show res = .ok acc (adv s1) by rw [← HR.out, rowGo]; simp only [hA, if_true])
        go_wp2_with fail
        refine (takes_yes E s1 en _ hm.rd hA).mono ?_
        rintro e w1 ⟨rfl, hm1⟩
        clear hA
        go_wp2_with fail
        go_ret
        rw [HF.out]
        exact ⟨⟨_, rfl, (HO.out.grown hm1.gr (h.lt)).values⟩, hm.trans hm1⟩
      | false =>
        have HE := Lib.hid (show (part E.c s1).bind (fun n s2 => if isS E.c s2 en then .ok (acc ++ [n]) (adv s2) else (need (⟨#[44]⟩ : ByteArray) E.c s2).bind fun _ s3 => rowGo part en g1 (acc ++ [n]) E.c s3) = res by rw [← HR.out, rowGo]; simp only [hA, Bool.false_eq_true, if_false])
        clear HR
        go_wp2_with fail
        refine (takes_no E s1 en _ hm.rd hA).mono ?_
        rintro e w1 ⟨rfl, hq1⟩
        clear hA
        have hm1 := hm.trans hq1.moved
        have HO1 := Lib.hid (HO.out.grown hq1.moved.gr h.lt)
        clear HO hm hq1
        go_wp2_with fail
        cases hP : part E.c s1 with
        | out => exact absurd HE.out.symm (by rw [hP]; exact HNE.out)
        | fail p =>
          have HF := Lib.hid (show res = .fail p by rw [← HE.out, hP]; rfl)
          refine (HP.out w1 s1 hm1.gr hm1.rd (by rw [hP]; exact nofun)).mono ?_
          rw [hP]
          rintro e w2 ⟨rfl, hg2⟩
          unfold wrongV
          refine ⟨rfl, ?_⟩
          rw [HF.out]
          exact ⟨rfl, hm1.gr.trans hg2⟩
        | ok n s2 =>
          have HE2 := Lib.hid (show (if isS E.c s2 en then .ok (acc ++ [n]) (adv s2) else (need (⟨#[44]⟩ : ByteArray) E.c s2).bind fun _ s3 => rowGo part en g1 (acc ++ [n]) E.c s3) = res by rw [← HE.out, hP]; rfl)
          refine (HP.out w1 s1 hm1.gr hm1.rd (by rw [hP]; exact nofun)).mono ?_
          rw [hP]
          rintro e w2 ⟨⟨v, rfl, hv⟩, hm2⟩
          obtain ⟨A, cp, rfl, hC⟩ := hv.toC
          have hgs := hm1.gr.size
          have hgs2 := hm2.gr.size
          have hRlt := h.lt
          have HU := Lib.hid (show ∀ g, u7.ownBlock = some g → g < w1.heap.size from fun g hg => (HO1.out.lt g hg).2)
          have HO2 := Lib.hid (HO1.out.grown hm2.gr hRlt)
          have HC := Lib.hid hC
          have HM2 := Lib.hid (hm1.trans hm2)
          have hlen2 : acc.length ≤ 1000000 := by omega
          clear hP HE HP hv hC hm1 hm2 HO1
          go_wp2_with (at_builtin; refine wpList_push rfl (.tmp 12) (.tmp 15) rfl E s2 w.heap.size w1.heap.size w w2 u7 acc n A cp rfl rfl HO2.out HM2.out (Nat.le_refl _) hRlt hgs hgs2 HU.out hlen2 HC.out ?_; intro g3 c3 w3 hp3)
          have hm3 := hp3.mov
          have HO3 := Lib.hid hp3.own
          clear hp3 HO2 HM2 HC HU
          cases hB : isS E.c s2 en with
          | true =>
            have HF := Lib.hid (show res = .ok (acc ++ [n]) (adv s2) by rw [← HE2.out]; simp only [hB, if_true])
            refine (takes_yes E s2 en _ hm3.rd hB).mono ?_
            rintro e w4 ⟨rfl, hm4⟩
            clear hB HE2
            go_wp2_with fail
            go_ret
            rw [HF.out]
            exact ⟨⟨_, rfl, (HO3.out.grown hm4.gr hRlt).values⟩, hm3.trans hm4⟩
          | false =>
            have HE3 := Lib.hid (show (need (⟨#[44]⟩ : ByteArray) E.c s2).bind (fun _ s3 => rowGo part en g1 (acc ++ [n]) E.c s3) = res by rw [← HE2.out]; simp only [hB, Bool.false_eq_true, if_false])
            refine (takes_no E s2 en _ hm3.rd hB).mono ?_
            rintro e w4 ⟨rfl, hq4⟩
            have hm4 := hm3.trans hq4.moved
            have HO4 := Lib.hid (HO3.out.grown hq4.moved.gr hRlt)
            clear hB HE2 HO3 hq4 hm3
            go_wp2_with fail
            cases hD : isS E.c s2 (⟨#[44]⟩ : ByteArray) with
            | true =>
              have HE4 := Lib.hid (show rowGo part en g1 (acc ++ [n]) E.c (adv s2) = res by rw [← HE3.out, need]; simp only [hD, if_true, Res.bind_ok])
              refine (need_yes E s2 (⟨#[44]⟩ : ByteArray) _ hm4.rd hD).mono ?_
              rintro e w5 ⟨rfl, hm5⟩
              clear hD HE3
              go_wp2_with fail
              go_roundg g1
              case measure => omega
              case rel => exact ⟨acc ++ [n], adv s2, HO4.out.grown hm5.gr hRlt, by rw [List.length_append]; simp; omega, HE4.out, hm4.trans hm5⟩
            | false =>
              have HF := Lib.hid (show res = .fail (posS E.c s2) by rw [← HE3.out, need]; simp only [hD, Bool.false_eq_true, if_false, Res.bind_fail])
              refine (need_no E s2 (⟨#[44]⟩ : ByteArray) _ hm4.rd hD).mono ?_
              rintro e w5 ⟨rfl, hb5⟩
              unfold wrongV
              refine ⟨rfl, ?_⟩
              rw [HF.out]
              exact ⟨rfl, hm4.gr.trans (grownBy_of_below _ hb5)⟩
end Go.Proofs.YtnalfjaojcahhaaGreatDoor
namespace Go.Proofs.YtnalfjaojcahhaaGreatDoor
open Go.RowKit Go.Lib Go.Proofs
attribute [local go_sem ↓] Go.wp_at_zero Go.wp_at_succ

/-- What lies in blocks of X stays. -/
structure KeepsX (X : Nat → Prop) (w w' : World) : Prop where
  size : w.heap.size ≤ w'.heap.size
  block : ∀ b, X b → b < w.heap.size → w'.heap[b]? = w.heap[b]?
section
variable {X : Nat → Prop} {w w' w'' : World}
theorem KeepsX.refl (X : Nat → Prop) (w : World) : KeepsX X w w := ⟨Nat.le_refl _, fun _ _ _ => rfl⟩
theorem KeepsX.trans (h : KeepsX X w w') (h' : KeepsX X w' w'') : KeepsX X w w'' :=
  ⟨Nat.le_trans h.size h'.size, fun b hb hlt => (h'.block b hb (Nat.lt_of_lt_of_le hlt h.size)).trans (h.block b hb hlt)⟩
theorem KeepsX.alloc (h : KeepsX X w w') (o : Obj) : KeepsX X w (w'.alloc o) :=
  h.trans ⟨by rw [World.size_alloc]; omega, fun b _ hlt => Below.heap_alloc w' o b hlt⟩
theorem KeepsX.drew (h : KeepsX X w w') : KeepsX X w w'.drew := h.trans ⟨Nat.le_refl _, fun _ _ _ => rfl⟩
theorem KeepsX.drewN (h : KeepsX X w w') (n : Nat) : KeepsX X w (w'.drewN n) := h.trans ⟨(below_drewN (Below.refl 0 _) n).size, fun b _ hlt => (below_drewN (Below.refl w'.heap.size w') n).block b hlt⟩
theorem KeepsX.setCell (h : KeepsX X w w') {p : Addr} (hp : X p.block → False) (u : Value) : KeepsX X w (w'.setCell p u) :=
  h.trans ⟨by simp [World.setCell], fun b hb _ => Below.heap_setCell w' p u b (fun e => hp (e ▸ hb))⟩
theorem KeepsX.of_grown {r : Option Nat} (hg : w.grownBy w' r) (hr : ∀ g, r = some g → X g → False) : KeepsX X w w' :=
  ⟨hg.size, fun b hb hlt => hg.block b hlt (fun e => hr b e.symm hb)⟩
theorem KeepsX.of_below {B : Nat} (hg : Below B w w') (hr : ∀ b, X b → b < w.heap.size → b < B) : KeepsX X w w' :=
  ⟨hg.size, fun b hb hlt => hg.block b (hr b hb hlt)⟩
theorem NodeV.kept {v : Value} {n : Nd} (h : NodeV X w v n) (hk : KeepsX X w w') : NodeV X w' v n := h.keep hk.block
theorem NodesV.kept {v : Value} {l : List Nd} (h : NodesV X w v l) (hk : KeepsX X w w') : NodesV X w' v l := by
  obtain ⟨A, cap, xs, e, h1, h2, h3⟩ := h
  exact ⟨A, cap, xs, e, h1, h2.keep hk.block, h3.keep hk.block⟩
theorem NodesV.mono {Y : Nat → Prop} {v : Value} {l : List Nd} (h : NodesV X w v l) (hXY : ∀ b, X b → b < w.heap.size → Y b) : NodesV Y w v l := by
  obtain ⟨A, cap, xs, e, h1, h2, h3⟩ := h
  exact ⟨A, cap, xs, e, h1, h2.mono hXY (by omega), h3.mono hXY⟩
/-- A block of four cells. -/
theorem blk4 {g : Nat} {t : TypeId} {a b c d : Value} (h : Blk w g t #[a, b, c, d]) : w.cell? ⟨g, 0, none⟩ = some a ∧ w.cell? ⟨g, 1, none⟩ = some b ∧ w.cell? ⟨g, 2, none⟩ = some c ∧ w.cell? ⟨g, 3, none⟩ = some d ∧
    w.frozen? ⟨g, 0, none⟩ = false ∧ w.frozen? ⟨g, 1, none⟩ = false ∧ w.frozen? ⟨g, 2, none⟩ = false ∧ w.frozen? ⟨g, 3, none⟩ = false := by
  have c0 := h.cell 0
  have c1 := h.cell 1
  have c2 := h.cell 2
  have c3 := h.cell 3
  simp at c0 c1 c2 c3
  exact ⟨c0, c1, c2, c3, h.frozen 0, h.frozen 1, h.frozen 2, h.frozen 3⟩
end
def ndZ : Array Value := #[.int .i64 0, .string ⟨#[]⟩, .slice none 0 0, .int .i64 0]

/-- A result that lies in a cell. -/
theorem results_node {fn : Func} {q : Tmp} (hfn : fn.results = #[.cell q 24]) (tmps : Array Value) {w : World} {g : Nat} {a b c d : Value} (ht : tmps.getD q undef = .pointer (some ⟨g, 0, none⟩)) (hb : Blk w g 24 #[a, b, c, d]) :
    (results fn tmps).run Tryz.prog w = .ok (.agg #[a, b, c, d]) w := by
  obtain ⟨d0, d1, d2, d3, _, _, _, _⟩ := blk4 hb
  unfold results
  rw [hfn]
  have ht' : tmps[q]?.getD undef = .pointer (some ⟨g, 0, none⟩) := by simpa using ht
  simp [ht', go_sem, d0, d1, d2, d3]
set_option maxRecDepth 100000 in
set_option maxHeartbeats 4000000 in
theorem free_any (E : Env) (k : FuncId) (first cap : Array Value) (part : R Nd) (s : St) (w : World) (h : RdAt E w s)
    (hk : ∀ a w, (callFunc k a).run Tryz.prog w = .ok (.enter k a) w) (hp : PartC E k (first ++ cap) part w) (hne : freeR part E.c s ≠ .out) :
    Calls Tryz.prog 152 #[.pointer (some ⟨E.R, 0, none⟩), .func (.func k) first cap] w (PostN E w (freeR part E.c s)) := by
  generalize hres : freeR part E.c s = res at *
  have HRES := Lib.hid hres
  have HP := Lib.hid hp
  have HNE := Lib.hid hne
  obtain ⟨c0, c1, c2, c3, c4, f0⟩ := h.cells
  have f3 := f0 3
  have hltR := h.lt
  have hneR := Nat.ne_of_lt hltR
  clear hres hp hne f0
  go_enter Tryz.func152, Tryz.ntmps152
  go_wp2_with fail
  have hm1 : Moved E { s with head := false } w ((w.setCell ⟨E.R, 3, none⟩ (.bool false)).alloc (.cells ndZ 24)) := ((Moved.refl h).setHead false).alloc _
  have hb1 : Blk ((w.setCell ⟨E.R, 3, none⟩ (.bool false)).alloc (.cells ndZ 24)) w.heap.size 24 ndZ := by
    have := Blk.new (w.setCell ⟨E.R, 3, none⟩ (.bool false)) 24 ndZ
    simpa [World.setCell] using this
  cases hP : part E.c { s with head := false } with
  | out => exact absurd HRES.out.symm (by rw [freeR, hP]; exact HNE.out)
  | fail p =>
    have HF := Lib.hid (show res = .fail p by rw [← HRES.out, freeR, hP]; rfl)
    refine (HP.out _ _ hm1.gr hm1.rd (by rw [hP]; exact nofun)).mono ?_
    rw [hP]
    rintro e w2 ⟨rfl, hg2⟩
    unfold wrongV
    refine ⟨rfl, ?_⟩
    rw [HF.out]
    exact ⟨rfl, hm1.gr.trans hg2⟩
  | ok n s1 =>
    have HF := Lib.hid (show res = .ok n { s1 with head := s.head } by rw [← HRES.out, freeR, hP]; rfl)
    refine (HP.out _ _ hm1.gr hm1.rd (by rw [hP]; exact nofun)).mono ?_
    rw [hP]
    rintro e w2 ⟨⟨v, rfl, hv⟩, hm2⟩
    obtain ⟨A, cp, rfl, hC⟩ := hv.toC
    have hb2 := hb1.grown hm2.gr (fun e => by injection e with e; omega)
    obtain ⟨d0, d1, d2, d3, e0, e1, e2, e3⟩ := blk4 hb2
    obtain ⟨x0, x1, x2, x3, x4, y0⟩ := hm2.rd.cells
    have y3 := y0 3
    have hlt2 := hm2.rd.lt
    have hlt3 := hb2.lt
    have hs2 := hm2.gr.size
    have hm3 := hm1.trans hm2
    simp only [World.size_alloc] at hs2
    clear hP HRES HP y0
    go_wp2_with fail
    have hb3 := ((((hb2.far (p := ⟨E.R, 3, none⟩) (by show w.heap.size ≠ E.R; omega) (.bool s.head)).set_ 0 (.int .i64 n.kind)).set_ 1 (.string n.text)).set_ 2 (.slice A n.kids.length cp)).set_ 3 (.int .i64 n.pos) |>.alloc (.cells #[.int .i64 n.kind, .string n.text, .slice A n.kids.length cp, .int .i64 n.pos] 24)
    refine bodyPost_ret (results_node rfl _ (by rfl) (by simpa [ndZ] using hb3)) rfl ?_
    rw [HF.out]
    refine ⟨⟨_, rfl, (hv.kept ?_).mono ?_⟩, ?_⟩
    · (repeat' (first | with_reducible exact KeepsX.refl _ _ | with_reducible refine KeepsX.alloc ?_ _ | with_reducible refine KeepsX.setCell ?_ ?_ _ | with_reducible refine KeepsX.drew ?_ | with_reducible refine KeepsX.drewN ?_ _ | (intro hX; simp at hX; omega)))
    · intro b hb _
      simp at hb
      omega
    · have hm4 := hm3.setHead s.head
      (repeat' (first | with_reducible assumption | with_reducible refine Moved.alloc ?_ _ | with_reducible refine Moved.own ?_ ?_ ?_ _ | with_reducible refine Moved.drew ?_ | with_reducible refine Moved.drewN ?_ _ | (simp <;> omega) | omega))
set_option maxRecDepth 100000 in
set_option maxHeartbeats 4000000 in
theorem inHead_any (E : Env) (k : FuncId) (first cap : Array Value) (part : R Nd) (s : St) (w : World) (h : RdAt E w s)
    (hk : ∀ a w, (callFunc k a).run Tryz.prog w = .ok (.enter k a) w) (hp : PartC E k (first ++ cap) part w) (hne : headR part E.c s ≠ .out) :
    Calls Tryz.prog 218 #[.pointer (some ⟨E.R, 0, none⟩), .func (.func k) first cap] w (PostN E w (headR part E.c s)) := by
  generalize hres : headR part E.c s = res at *
  have HRES := Lib.hid hres
  have HP := Lib.hid hp
  have HNE := Lib.hid hne
  obtain ⟨c0, c1, c2, c3, c4, f0⟩ := h.cells
  have f3 := f0 3
  have hltR := h.lt
  have hneR := Nat.ne_of_lt hltR
  clear hres hp hne f0
  go_enter Tryz.func218, Tryz.ntmps218
  go_wp2_with fail
  have hm1 : Moved E { s with head := true } w ((w.setCell ⟨E.R, 3, none⟩ (.bool true)).alloc (.cells ndZ 24)) := ((Moved.refl h).setHead true).alloc _
  have hb1 : Blk ((w.setCell ⟨E.R, 3, none⟩ (.bool true)).alloc (.cells ndZ 24)) w.heap.size 24 ndZ := by
    have := Blk.new (w.setCell ⟨E.R, 3, none⟩ (.bool true)) 24 ndZ
    simpa [World.setCell] using this
  cases hP : part E.c { s with head := true } with
  | out => exact absurd HRES.out.symm (by rw [headR, hP]; exact HNE.out)
  | fail p =>
    have HF := Lib.hid (show res = .fail p by rw [← HRES.out, headR, hP]; rfl)
    refine (HP.out _ _ hm1.gr hm1.rd (by rw [hP]; exact nofun)).mono ?_
    rw [hP]
    rintro e w2 ⟨rfl, hg2⟩
    unfold wrongV
    refine ⟨rfl, ?_⟩
    rw [HF.out]
    exact ⟨rfl, hm1.gr.trans hg2⟩
  | ok n s1 =>
    have HF := Lib.hid (show res = .ok n { s1 with head := s.head } by rw [← HRES.out, headR, hP]; rfl)
    refine (HP.out _ _ hm1.gr hm1.rd (by rw [hP]; exact nofun)).mono ?_
    rw [hP]
    rintro e w2 ⟨⟨v, rfl, hv⟩, hm2⟩
    obtain ⟨A, cp, rfl, hC⟩ := hv.toC
    have hb2 := hb1.grown hm2.gr (fun e => by injection e with e; omega)
    obtain ⟨d0, d1, d2, d3, e0, e1, e2, e3⟩ := blk4 hb2
    obtain ⟨x0, x1, x2, x3, x4, y0⟩ := hm2.rd.cells
    have y3 := y0 3
    have hlt2 := hm2.rd.lt
    have hlt3 := hb2.lt
    have hs2 := hm2.gr.size
    have hm3 := hm1.trans hm2
    simp only [World.size_alloc] at hs2
    clear hP HRES HP y0
    go_wp2_with fail
    have hb3 := ((((hb2.far (p := ⟨E.R, 3, none⟩) (by show w.heap.size ≠ E.R; omega) (.bool s.head)).set_ 0 (.int .i64 n.kind)).set_ 1 (.string n.text)).set_ 2 (.slice A n.kids.length cp)).set_ 3 (.int .i64 n.pos) |>.alloc (.cells #[.int .i64 n.kind, .string n.text, .slice A n.kids.length cp, .int .i64 n.pos] 24)
    refine bodyPost_ret (results_node rfl _ (by rfl) (by simpa [ndZ] using hb3)) rfl ?_
    rw [HF.out]
    refine ⟨⟨_, rfl, (hv.kept ?_).mono ?_⟩, ?_⟩
    · (repeat' (first | with_reducible exact KeepsX.refl _ _ | with_reducible refine KeepsX.alloc ?_ _ | with_reducible refine KeepsX.setCell ?_ ?_ _ | with_reducible refine KeepsX.drew ?_ | with_reducible refine KeepsX.drewN ?_ _ | (intro hX; simp at hX; omega)))
    · intro b hb _
      simp at hb
      omega
    · have hm4 := hm3.setHead s.head
      (repeat' (first | with_reducible assumption | with_reducible refine Moved.alloc ?_ _ | with_reducible refine Moved.own ?_ ?_ ?_ _ | with_reducible refine Moved.drew ?_ | with_reducible refine Moved.drewN ?_ _ | (simp <;> omega) | omega))

/-- A function value that reads nodes. -/
def PartLC (E : Env) (k : FuncId) (args : Array Value) (m : R (List Nd)) (w0 : World) : Prop :=
  ∀ (w : World) (s : St), w0.grownBy w (some E.R) → RdAt E w s → m E.c s ≠ .out → Calls Tryz.prog k args w (PostL E w (m E.c s))

set_option maxRecDepth 100000 in
set_option maxHeartbeats 4000000 in
theorem freeL_any (E : Env) (k : FuncId) (first cap : Array Value) (part : R (List Nd)) (s : St) (w : World) (h : RdAt E w s)
    (hk : ∀ a w, (callFunc k a).run Tryz.prog w = .ok (.enter k a) w) (hp : PartLC E k (first ++ cap) part w) (hne : freeR part E.c s ≠ .out) :
    Calls Tryz.prog 240 #[.pointer (some ⟨E.R, 0, none⟩), .func (.func k) first cap] w (PostL E w (freeR part E.c s)) := by
  generalize hres : freeR part E.c s = res at *
  have HRES := Lib.hid hres
  have HP := Lib.hid hp
  have HNE := Lib.hid hne
  obtain ⟨c0, c1, c2, c3, c4, f0⟩ := h.cells
  have f3 := f0 3
  clear hres hp hne f0
  go_enter Tryz.func240, Tryz.ntmps240
  go_wp2_with fail
  have hm1 := (Moved.refl h).setHead false
  cases hP : part E.c { s with head := false } with
  | out => exact absurd HRES.out.symm (by rw [freeR, hP]; exact HNE.out)
  | fail p =>
    have HF := Lib.hid (show res = .fail p by rw [← HRES.out, freeR, hP]; rfl)
    refine (HP.out _ _ hm1.gr hm1.rd (by rw [hP]; exact nofun)).mono ?_
    rw [hP]
    rintro e w2 ⟨rfl, hg2⟩
    unfold wrongV
    refine ⟨rfl, ?_⟩
    rw [HF.out]
    exact ⟨rfl, hm1.gr.trans hg2⟩
  | ok n s1 =>
    have HF := Lib.hid (show res = .ok n { s1 with head := s.head } by rw [← HRES.out, freeR, hP]; rfl)
    refine (HP.out _ _ hm1.gr hm1.rd (by rw [hP]; exact nofun)).mono ?_
    rw [hP]
    rintro e w2 ⟨⟨v, rfl, hv⟩, hm2⟩
    obtain ⟨x0, x1, x2, x3, x4, y0⟩ := hm2.rd.cells
    have y3 := y0 3
    have hm3 := hm1.trans hm2
    have hltR := h.lt
    have hs2 := hm1.gr.size
    clear hP HRES HP y0
    go_wp2_with fail
    go_ret
    rw [HF.out]
    refine ⟨⟨_, rfl, (hv.kept ?_).mono ?_⟩, ?_⟩
    · (repeat' (first | with_reducible exact KeepsX.refl _ _ | with_reducible refine KeepsX.alloc ?_ _ | with_reducible refine KeepsX.setCell ?_ ?_ _ | with_reducible refine KeepsX.drew ?_ | with_reducible refine KeepsX.drewN ?_ _ | (intro hX; simp at hX; omega)))
    · intro b hb _
      exact Nat.le_trans hs2 hb
    · exact hm3.setHead s.head
end Go.Proofs.YtnalfjaojcahhaaGreatDoor
namespace Go.Proofs.YtnalfjaojcahhaaGreatDoor

/-- A world of a class. -/
structure Wd (S : World → Prop) where
  wd : World
  ok : S wd
theorem wp_region_class {P : Program} (S : World → Prop) {id : Nat} {Q : Exit → Act → World → Prop} {a : Act} {w : World} {l : List Oper} (hm : P.follows .mixedOrders = true) (hB : Region.lexB .any l.toArray = true) (h0 : S w.drew)
    (h : wpQuiet P l.toArray (fun w' => ∃ n : Wd S, w' = n.wd) (fun a' => ∀ n : Wd S, Q .normal a' n.wd) l a) : (Code.region id l.toArray true).wp P Q a w :=
  wp_region_quiet (C := fun w' => ∃ n : Wd S, w' = n.wd) hm hB ⟨⟨w.drew, h0⟩, rfl⟩ (by
    have e : (fun a' => ∀ w', (∃ n : Wd S, w' = n.wd) → Q .normal a' w') = fun a' => ∀ n : Wd S, Q .normal a' n.wd := by
      funext a'
      exact propext ⟨fun h n => h _ ⟨n, rfl⟩, fun h w' ⟨n, e⟩ => e ▸ h n⟩
    rw [e]
    simpa using h)
end Go.Proofs.YtnalfjaojcahhaaGreatDoor
