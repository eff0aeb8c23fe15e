/-
  Constraints: term, union, inter, constraint. By an AI agent.
  A row of nodes of the call's own beside boxes of the call's own. By an AI agent.
  Constraints: union. By an AI agent.
  Constraints: inter, constraint. By an AI agent.
  Constraints: constraint. A kid's cells. By an AI agent.
-/
import Derived.Test.YtnalfjaojcahhaaGreatDoorJ04
import Derived.Deep.RegionLaw
namespace Go.Proofs.YtnalfjaojcahhaaGreatDoor
open Go.RowKit Go.Lib Go.Proofs
attribute [local go_sem ↓] Go.wp_at_zero Go.wp_at_succ
attribute [local go_sem] fld_tok0 fld_tok1 fld_tok2 fld_nd0 fld_nd1 fld_nd2 fld_nd3

set_option maxRecDepth 100000 in
set_option maxHeartbeats 4000000 in
theorem term_any (E : Env) (F : Fns) (hF : OkF E F) : ReadC E (termR F) 216 := by
  intro w s h hno
  generalize hres : termR F E.c s = res at *
  have HRES := Lib.hid hres
  have HNE := Lib.hid hno
  have hltR := h.lt
  clear hres hno
  go_enter Tryz.func216, Tryz.ntmps216
  go_wp2_with fail
  refine (next_any E s _ (h.alloc _)).mono ?_
  unfold tokV
  rintro e w1 ⟨rfl, hb1⟩
  have hq1 := ((Seen.refl h).alloc _).step hb1
  have hG1 := (Blk.new w 24 ndZ).below hb1 (by simp)
  have hltG1 := hG1.lt
  clear hb1
  go_wp2_with fail
  cases hA : isS E.c s (⟨#[126]⟩ : ByteArray) with
  | true =>
    have HE := Lib.hid (show (F.typ E.c (adv s)).bind (fun t s1 => .ok (.mk 15 (⟨#[126]⟩ : ByteArray) [t] (posS E.c s)) s1) = res by rw [← HRES.out, termR, if_pos hA])
    refine (takes_yes E s _ w1 hq1.rd hA).mono ?_
    rintro e w2 ⟨rfl, hm2⟩
    have hG2 := hG1.grown hm2.gr (fun e => by injection e with e; omega)
    have hM2 := hq1.moved.trans hm2
    have hs2 := hm2.gr.size
    clear HRES hA hG1 hq1
    go_wp2_with fail
    cases hP : F.typ E.c (adv s) with
    | out => exact absurd HE.out.symm (by rw [hP]; exact HNE.out)
    | fail p =>
      refine (hF.typ w2 _ hm2.rd (by rw [hP]; exact nofun)).mono ?_
      rw [hP]
      rintro e w3 ⟨rfl, hg3⟩
      unfold wrongV
      exact ⟨rfl, end_fail (by rw [← HE.out, hP]; rfl) hM2.gr hg3⟩
    | ok n s1 =>
      have HF := Lib.hid (show res = .ok (.mk 15 (⟨#[126]⟩ : ByteArray) [n] (posS E.c s)) s1 by rw [← HE.out, hP]; rfl)
      refine (hF.typ w2 _ hm2.rd (by rw [hP]; exact nofun)).mono ?_
      rw [hP]
      rintro e w3 ⟨⟨v, rfl, hv⟩, hm3⟩
      obtain ⟨A, cp, rfl, hC⟩ := hv.toC
      have hG3 := hG2.grown hm3.gr (fun e => by injection e with e; omega)
      have hM3 := hM2.trans hm3
      have hs3 := hm3.gr.size
      have hltG3 := hG3.lt
      clear hP HE hm2 hm3 hM2
      go_wp2_with fail
      refine (node_any _ _ _ _ _ ⟨_, _, _, rfl⟩).mono ?_
      rintro e w4 ⟨rfl, hb4⟩
      have hV := NodeV.make 1 rfl (NodesC.one hC) 15 (⟨#[126]⟩ : ByteArray) (posS E.c s) hb4
      have hG4 := (hG3.alloc _).below hb4 (by simp; omega)
      have hM4 := (hM3.alloc _).step hb4
      obtain ⟨d0, d1, d2, d3, e0, e1, e2, e3⟩ := blk4 hG4
      clear hb4
      go_wp2_with fail
      refine end_node HF.out hV hM4 hG4 (Nat.le_refl _) hltR ?_ rfl (by rfl) rfl
      rintro b (⟨hb, _⟩ | rfl) <;> constructor <;> omega
  | false =>
    have HE := Lib.hid (show (F.typ E.c s).bind (fun t s1 => .ok (.mk 15 (⟨#[]⟩ : ByteArray) [t] (posS E.c s)) s1) = res by rw [← HRES.out, termR]; simp only [hA, Bool.false_eq_true, if_false])
    refine (takes_no E s _ w1 hq1.rd hA).mono ?_
    rintro e w2 ⟨rfl, hq2⟩
    have hG2 := hG1.below hq2.bel hltG1
    have hM2 := hq1.moved.trans hq2.moved
    have hs2 := hq2.bel.size
    clear HRES hA hG1 hq1
    go_wp2_with fail
    cases hP : F.typ E.c s with
    | out => exact absurd HE.out.symm (by rw [hP]; exact HNE.out)
    | fail p =>
      refine (hF.typ w2 _ hM2.rd (by rw [hP]; exact nofun)).mono ?_
      rw [hP]
      rintro e w3 ⟨rfl, hg3⟩
      unfold wrongV
      exact ⟨rfl, end_fail (by rw [← HE.out, hP]; rfl) hM2.gr hg3⟩
    | ok n s1 =>
      have HF := Lib.hid (show res = .ok (.mk 15 (⟨#[]⟩ : ByteArray) [n] (posS E.c s)) s1 by rw [← HE.out, hP]; rfl)
      refine (hF.typ w2 _ hM2.rd (by rw [hP]; exact nofun)).mono ?_
      rw [hP]
      rintro e w3 ⟨⟨v, rfl, hv⟩, hm3⟩
      obtain ⟨A, cp, rfl, hC⟩ := hv.toC
      have hG3 := hG2.grown hm3.gr (fun e => by injection e with e; omega)
      have hM3 := hM2.trans hm3
      have hs3 := hm3.gr.size
      have hltG3 := hG3.lt
      clear hP HE hq2 hm3 hM2
      go_wp2_with fail
      refine (node_any _ _ _ _ _ ⟨_, _, _, rfl⟩).mono ?_
      rintro e w4 ⟨rfl, hb4⟩
      have hV := NodeV.make 1 rfl (NodesC.one hC) 15 (⟨#[]⟩ : ByteArray) (posS E.c s) hb4
      have hG4 := (hG3.alloc _).below hb4 (by simp; omega)
      have hM4 := (hM3.alloc _).step hb4
      obtain ⟨d0, d1, d2, d3, e0, e1, e2, e3⟩ := blk4 hG4
      clear hb4
      go_wp2_with fail
      refine end_node HF.out hV hM4 hG4 (Nat.le_refl _) hltR ?_ rfl (by rfl) rfl
      rintro b (⟨hb, _⟩ | rfl) <;> constructor <;> omega
end Go.Proofs.YtnalfjaojcahhaaGreatDoor
namespace Go.Proofs.YtnalfjaojcahhaaGreatDoor
open Go.RowKit Go.Lib Go.Proofs

/-- A row of the call's own, of nodes; nothing of it lies in blocks of Z. -/
structure OwnZ (B : Nat) (Z : Nat → Prop) (w : World) (v : Value) (l : List Nd) : Prop where
  out : ∃ xs, w.ownsRow B 24 4 v l.length xs ∧ NodesC (fun b => B ≤ b ∧ some b ≠ v.ownBlock ∧ ¬ Z b) w l xs
  far : ∀ g, v.ownBlock = some g → ¬ Z g
section
variable {B : Nat} {Z : Nat → Prop} {w w' : World} {v : Value} {l : List Nd}
theorem OwnZ.nil (B : Nat) (Z : Nat → Prop) (w : World) : OwnZ B Z w (.slice none 0 0) [] := ⟨⟨[], World.ownsRow_nil _ _ _ _, NodesC.nil⟩, fun g h => by simp [Value.ownBlock] at h⟩
theorem OwnZ.keep (h : OwnZ B Z w v l) (hk : ∀ b, B ≤ b → ¬ Z b → b < w.heap.size → w'.heap[b]? = w.heap[b]?) : OwnZ B Z w' v l := by
  obtain ⟨xs, h1, h2⟩ := h.out
  refine ⟨⟨xs, ⟨h1.1, ?_⟩, h2.keep fun b hb hlt => hk b hb.1 hb.2.2 hlt⟩, h.far⟩
  rcases h1.2 with h0 | ⟨g, cap, cur, e, hg, hh, r⟩
  · exact .inl h0
  · refine .inr ⟨g, cap, cur, e, hg, ?_, r⟩
    have hlt : g < w.heap.size := by
      rcases Nat.lt_or_ge g w.heap.size with hlt | hge
      · exact hlt
      · rw [Array.getElem?_eq_none hge] at hh; cases hh
    exact (hk g hg (h.far g (by rw [e]; rfl)) hlt).trans hh
theorem OwnZ.kept (h : OwnZ B Z w v l) (hk : KeepsX (fun b => B ≤ b ∧ ¬ Z b) w w') : OwnZ B Z w' v l := h.keep fun b h1 h2 h3 => hk.block b ⟨h1, h2⟩ h3
theorem OwnZ.grown {R : Nat} (h : OwnZ B Z w v l) (hg : w.grownBy w' (some R)) (hR : R < B) : OwnZ B Z w' v l :=
  h.keep fun b hb _ hlt => hg.block b hlt (fun e => by injection e; omega)
theorem OwnZ.lt (h : OwnZ B Z w v l) : ∀ g, v.ownBlock = some g → B ≤ g ∧ g < w.heap.size := by
  obtain ⟨xs, h1, _⟩ := h.out
  exact fun g hg => h1.lt g hg
theorem OwnZ.values (h : OwnZ B Z w v l) : NodesV (fun b => B ≤ b ∧ ¬ Z b) w v l := by
  obtain ⟨xs, h1, h2⟩ := h.out
  rcases h1.2 with ⟨rfl, h0⟩ | ⟨g, cap, cur, rfl, hg, hh, hnc, _, hsz, ht⟩
  · exact ⟨none, 0, xs, by rw [h0], by omega, ⟨h1.1, fun h => by omega⟩, h2.mono fun b hb _ => ⟨hb.1, hb.2.2⟩⟩
  · refine ⟨_, cap, xs, rfl, hnc, ⟨h1.1, fun _ => ⟨g, 0, rfl, ⟨hg, h.far g rfl⟩, fun j u hu => ?_⟩⟩, h2.mono fun b hb _ => ⟨hb.1, hb.2.2⟩⟩
    have hj : j < l.length * 4 := by have := (List.getElem?_eq_some_iff.1 hu).1; rw [h1.1] at this; exact this
    rw [Nat.zero_add]
    unfold World.cell?
    rw [hh]
    simp only [Option.isSome_none, Bool.false_eq_true, if_false]
    rw [← ht, List.getElem?_take_of_lt hj] at hu
    rw [← hu]; simp
/-- The form of a row's value. -/
theorem OwnZ.form (h : OwnZ B Z w v l) : ∃ A c, v = .slice A l.length c ∧ l.length ≤ c := by
  obtain ⟨A, c, xs, e, h1, _⟩ := h.values
  exact ⟨A, c, e, h1⟩
/-- A block of one node is a row. -/
theorem OwnZ.one {K S : Nat} {n : Nd} {a b c d : Value} {w1 : World} (hb : Blk w K 24 #[a, b, c, d]) (hBK : B ≤ K) (hK : w1.heap.size = K) (hC : NodeC (fun b => S ≤ b) w1 n [a, b, c, d]) (hBS : B ≤ S)
    (hk : ∀ b, S ≤ b → b < w1.heap.size → w.heap[b]? = w1.heap[b]?) (hZ : ∀ b, S ≤ b → b ≤ K → ¬ Z b) (hSK : S ≤ K) : OwnZ B Z w (.slice (some ⟨K, 0, none⟩) 1 1) [n] := by
  refine ⟨⟨[a, b, c, d], ⟨rfl, .inr ⟨K, 1, #[a, b, c, d], rfl, hBK, hb, Nat.le_refl _, by unfold maxLen; omega, rfl, rfl⟩⟩, ?_⟩, fun g hg => ?_⟩
  · have h1 := NodesC.one (hC.mono (Y := fun b => S ≤ b ∧ b < K) fun b hb hlt => ⟨hb, by omega⟩)
    have h2 := h1.keep (w' := w) fun b hb hlt => hk b hb.1 hlt
    refine h2.mono fun b hb _ => ⟨by omega, fun e => ?_, hZ b hb.1 (by omega)⟩
    have e2 : b = K := by simpa [Value.ownBlock] using e
    omega
  · have e2 : K = g := by simpa [Value.ownBlock] using hg
    subst e2
    exact hZ K hSK (Nat.le_refl _)
end
/-- What is left behind an append of a node. -/
structure PushedZ (E : Env) (s : St) (B : Nat) (Z : Nat → Prop) (w w1 w2 : World) (v' : Value) (l : List Nd) : Prop where
  own : OwnZ B Z w2 v' l
  mov : Moved E s w w2
  old : ∀ b, b < w1.heap.size → (Z b ∨ b < B) → w2.heap[b]? = w1.heap[b]?
  le : w1.heap.size ≤ w2.heap.size
theorem wp_pushZ {o : Oper} {a : Act} {K : Act → World → Prop} {Q : Exit → Act → World → Prop} (s x : Operand)
    (ho : o.op = .call { callee := .builtin .append, args := #[s, x], argTypes := #[22, 22] })
    (E : Env) (st : St) (B S : Nat) (Z : Nat → Prop) (w w1 : World) (u : Value) (l : List Nd) (n : Nd) (A : Option Addr) (cap : Nat) (hs : a.eval s = u) (hx : a.eval x = .slice (some ⟨w1.heap.size, 0, none⟩) 1 1)
    (hO : OwnZ B Z w1 u l) (hm : Moved E st w w1) (hwB : w.heap.size ≤ B) (hR : E.R < B) (hB : B ≤ S) (hS : S ≤ w1.heap.size) (hZ : ∀ b, Z b → b < S) (hu : ∀ g, u.ownBlock = some g → g < S) (hl : l.length ≤ 1000000)
    (hV : NodeC (fun b => S ≤ b) w1 n [.int .i64 n.kind, .string n.text, .slice A n.kids.length cap, .int .i64 n.pos])
    (h : ∀ g c w2, PushedZ E st B Z w w1 w2 (.slice (some ⟨g, 0, none⟩) (l.length + 1) c) (l ++ [n]) → K (a.put o.dst (.slice (some ⟨g, 0, none⟩) (l.length + 1) c)) w2) :
    o.wp Tryz.prog a (w1.alloc (.cells #[.int .i64 n.kind, .string n.text, .slice A n.kids.length cap, .int .i64 n.pos] 24)) K Q := by
  obtain ⟨i0, hi, hz0, hz1, hz2⟩ := info_parts infoNd
  obtain ⟨xs, hown, hnc⟩ := hO.out
  refine wp_append_lies _ s x 22 ho B 24 i0 _ 4 56 Tryz.underlying22 hi hz0 hz1 hz2 rfl (by omega) u l.length xs hs (hown.alloc _) ⟨w1.heap.size, 0, none⟩ 1 1 [.int .i64 n.kind, .string n.text, .slice A n.kids.length cap, .int .i64 n.pos] hx rfl
    (World.news_of_block (cs := #[.int .i64 n.kind, .string n.text, .slice A n.kids.length cap, .int .i64 n.pos]) (heap_alloc_new _ _)) (one_node n A cap) (by omega) (by unfold maxLen; omega) (by omega) (by rw [World.size_alloc]; omega) _ rfl ?_
  intro g c w2 hown1 hg hat _
  have hul : ∀ g, u.ownBlock = some g → B ≤ g := fun g hg => (hO.lt g hg).1
  have hblk : ∀ b, b < w1.heap.size → some b ≠ u.ownBlock → w2.heap[b]? = w1.heap[b]? := fun b hb hne => (hg.block b (by rw [World.size_alloc]; omega) hne).trans (Below.heap_alloc w1 _ b hb)
  have hold : ∀ b, b < w1.heap.size → (Z b ∨ b < B) → w2.heap[b]? = w1.heap[b]? := fun b hb hZB => hblk b hb (fun e => by
    rcases hZB with h | h
    · exact hO.far b e.symm h
    · have := hul b e.symm; omega)
  have hle : w1.heap.size ≤ w2.heap.size := Nat.le_trans (by rw [World.size_alloc]; omega) hg.size
  have hfar : ¬ Z g := by
    rcases hat with e | e
    · exact hO.far g e
    · rw [World.size_alloc] at e
      intro hz
      have := hZ g hz
      omega
  have hown2 : NodesC (fun b => B ≤ b ∧ some b ≠ (Value.slice (some ⟨g, 0, none⟩) (l.length + 1) c).ownBlock ∧ ¬ Z b) w2 (l ++ [n]) (xs ++ [.int .i64 n.kind, .string n.text, .slice A n.kids.length cap, .int .i64 n.pos]) := by
    have h1 : NodesC (fun b => B ≤ b ∧ some b ≠ u.ownBlock ∧ ¬ Z b ∧ b < w1.heap.size) w1 (l ++ [n]) (xs ++ [.int .i64 n.kind, .string n.text, .slice A n.kids.length cap, .int .i64 n.pos]) :=
      (hnc.mono fun b hb hlt => ⟨hb.1, hb.2.1, hb.2.2, hlt⟩).app (NodesC.one (hV.mono fun b hb hlt => ⟨Nat.le_trans hB hb, fun e => by have := hu b e.symm; omega, fun hz => by have := hZ b hz; omega, hlt⟩))
    have h2 := h1.keep (w' := w2) fun b hb hlt => hblk b hlt hb.2.1
    refine h2.mono fun b hb _ => ⟨hb.1, fun e => ?_, hb.2.2.1⟩
    have e3 : b = g := by simpa [Value.ownBlock] using e
    subst e3
    rcases hat with e | e
    · exact hb.2.1 e.symm
    · rw [World.size_alloc] at e; have := hb.2.2.2; omega
  refine h g c w2 ⟨⟨⟨_, by rw [List.length_append]; exact hown1, hown2⟩, fun g' hg' => ?_⟩, ⟨hm.rd.keep fun b hb => ?_, ?_⟩, hold, hle⟩
  · have e3 : g = g' := by simpa [Value.ownBlock] using hg'
    rw [← e3]; exact hfar
  · exact hold b (Nat.lt_of_le_of_lt hb hm.rd.lt) (.inr (by omega))
  · refine ⟨hg.os.trans hm.gr.os, hg.tape.trans hm.gr.tape, hg.output.trans hm.gr.output, Nat.le_trans hm.gr.size hle, fun k hk hne => ?_⟩
    exact (hold k (Nat.lt_of_lt_of_le hk hm.gr.size) (.inr (by omega))).trans (hm.gr.block k hk hne)
theorem step_pushZ {ops : Array Oper} {o : Oper} {a : Act} {K : Act → World → Prop} {Q : Exit → Act → World → Prop} {D : Prop} (hgd : o.guard = none) (s x : Operand)
    (ho : o.op = .call { callee := .builtin .append, args := #[s, x], argTypes := #[22, 22] })
    (E : Env) (st : St) (B S : Nat) (Z : Nat → Prop) (w w1 : World) (u : Value) (l : List Nd) (n : Nd) (A : Option Addr) (cap : Nat) (hs : a.eval s = u) (hx : a.eval x = .slice (some ⟨w1.heap.size, 0, none⟩) 1 1)
    (hO : OwnZ B Z w1 u l) (hm : Moved E st w w1) (hwB : w.heap.size ≤ B) (hR : E.R < B) (hB : B ≤ S) (hS : S ≤ w1.heap.size) (hZ : ∀ b, Z b → b < S) (hu : ∀ g, u.ownBlock = some g → g < S) (hl : l.length ≤ 1000000)
    (hV : NodeC (fun b => S ≤ b) w1 n [.int .i64 n.kind, .string n.text, .slice A n.kids.length cap, .int .i64 n.pos])
    (h : ∀ g c w2, PushedZ E st B Z w w1 w2 (.slice (some ⟨g, 0, none⟩) (l.length + 1) c) (l ++ [n]) → K (a.put o.dst (.slice (some ⟨g, 0, none⟩) (l.length + 1) c)) w2) :
    if Region.wanted o (yielded ops a.tmps) = true then Oper.wp Tryz.prog o a (w1.alloc (.cells #[.int .i64 n.kind, .string n.text, .slice A n.kids.length cap, .int .i64 n.pos] 24)) K Q else D := by
  have hw : Region.wanted o (yielded ops a.tmps) = true := by simp [Region.wanted, hgd]
  rw [if_pos hw]
  exact wp_pushZ s x ho E st B S Z w w1 u l n A cap hs hx hO hm hwB hR hB hS hZ hu hl hV h
end Go.Proofs.YtnalfjaojcahhaaGreatDoor
namespace Go.Proofs.YtnalfjaojcahhaaGreatDoor
open Go.RowKit Go.Lib Go.Proofs
attribute [local go_sem ↓] Go.wp_at_zero Go.wp_at_succ
attribute [local go_sem] fld_tok0 fld_tok1 fld_tok2 fld_nd0 fld_nd1 fld_nd2 fld_nd3

set_option maxRecDepth 100000 in
set_option maxHeartbeats 4000000 in
theorem union_any (E : Env) (F : Fns) (hF : OkF E F) (p : Int) (w : World) (s : St) (h : RdAt E w s) (hno : unionR F p E.c s ≠ .out) :
    Calls Tryz.prog 193 #[.pointer (some ⟨E.R, 0, none⟩), .int .i64 p] w (PostN E w (unionR F p E.c s)) := by
  generalize hres : unionR F p E.c s = res at *
  have HRES := Lib.hid hres
  have HNE := Lib.hid hno
  have hltR := h.lt
  have hM0 := (Moved.refl h).alloc (.cells ndZ 24)
  clear hres hno
  go_enter Tryz.func193, Tryz.ntmps193
  go_wp2_with fail
  cases hP : termR F E.c s with
  | out => exact absurd HRES.out.symm (by rw [unionR, hP]; exact HNE.out)
  | fail q =>
    refine (term_any E F hF _ s hM0.rd (by rw [hP]; exact nofun)).mono ?_
    rw [hP]
    rintro e w1 ⟨rfl, hg1⟩
    unfold wrongV
    exact ⟨rfl, end_fail (by rw [← HRES.out, unionR, hP]; rfl) hM0.gr hg1⟩
  | ok n s1 =>
    have HE := Lib.hid (show unionGo F p F.g [n] E.c s1 = res by rw [← HRES.out, unionR, hP]; rfl)
    refine (term_any E F hF _ s hM0.rd (by rw [hP]; exact nofun)).mono ?_
    rw [hP]
    rintro e w1 ⟨⟨v, rfl, hv⟩, hm1⟩
    obtain ⟨A, cp, rfl, hC⟩ := hv.toC
    have hG1 := (Blk.new w 24 ndZ).grown hm1.gr (fun e => by injection e with e; omega)
    have hM1 := hM0.trans hm1
    have hltG1 := hG1.lt
    clear hP HRES hm1 hM0
    go_wp2_with fail
    refine (node_any _ _ _ _ _ ⟨_, _, _, rfl⟩).mono ?_
    rintro e w2 ⟨rfl, hb2⟩
    have hK2 := (Blk.new w1 24 #[.int .i64 n.kind, .string n.text, .slice A n.kids.length cp, .int .i64 n.pos]).below hb2 (by simp)
    have hG2 := (hG1.alloc _).below hb2 (by simp; omega)
    have hM2 := (hM1.alloc _).step hb2
    have hs2 : w1.heap.size + 1 ≤ w2.heap.size := by have := hb2.size; simp at this; omega
    have HO2 : OwnZ (w.heap.size + 1) (fun b => b = w2.heap.size) w2 (.slice (some ⟨w1.heap.size, 0, none⟩) 1 1) [n] :=
      OwnZ.one (S := w.heap.size + 1) hK2 (by omega) rfl (hC.mono fun b hb _ => by simpa using hb) (Nat.le_refl _)
        (fun b _ hlt => (hb2.block b (by simp; omega)).trans (Below.heap_alloc w1 _ b hlt)) (fun b _ hb => by omega) (by omega)
    clear hb2 hK2 hG1 hM1 hC hv
    go_wp2_with fail
    have hL3 := Blk.new w2 24 #[.int .i64 14, .string (⟨#[]⟩ : ByteArray), .slice (some ⟨w1.heap.size, 0, none⟩) 1 1, .int .i64 p]
    have hG3 := hG2.alloc (.cells #[.int .i64 14, .string (⟨#[]⟩ : ByteArray), .slice (some ⟨w1.heap.size, 0, none⟩) 1 1, .int .i64 p] 24)
    have hM3 := hM2.alloc (.cells #[.int .i64 14, .string (⟨#[]⟩ : ByteArray), .slice (some ⟨w1.heap.size, 0, none⟩) 1 1, .int .i64 p] 24)
    have HO3 := HO2.kept (((KeepsX.refl _ w2).alloc (.cells #[.int .i64 14, .string (⟨#[]⟩ : ByteArray), .slice (some ⟨w1.heap.size, 0, none⟩) 1 1, .int .i64 p] 24)))
    generalize hL : w2.heap.size = L at *
    have hltL : w.heap.size + 1 < L := by omega
    generalize w2.alloc (.cells #[.int .i64 14, .string (⟨#[]⟩ : ByteArray), .slice (some ⟨w1.heap.size, 0, none⟩) 1 1, .int .i64 p] 24) = w3 at *
    clear HO2 hG2 hM2 hL
    go_loopg [12] F.g (fun g _ wr => ∃ (acc : List Nd) (s' : St) (u : Value), Blk wr L 24 #[.int .i64 14, .string (⟨#[]⟩ : ByteArray), u, .int .i64 p] ∧ OwnZ (w.heap.size + 1) (fun b => b = L) wr u acc ∧ Blk wr w.heap.size 24 ndZ ∧ acc.length + g ≤ 1000001 ∧ unionGo F p g acc E.c s' = res ∧ Moved E s' w wr)
    case atStart => exact ⟨[n], s1, _, hL3, HO3, hG3, by have := hF.g; simp; omega, HE.out, hM3⟩
    case round =>
      clear hL3 HO3 hG3 hM3 HE
      obtain ⟨acc, s2, u, hL, HO, hG, hlen, hr, hM⟩ := hrel
      have HR := Lib.hid hr
      clear hr
      cases gk with
      | zero => exact absurd HR.out.symm (by rw [unionGo]; exact HNE.out)
      | succ g1 =>
        cases hA : isS E.c s2 (⟨#[124]⟩ : ByteArray) with
        | false =>
          have HF := Lib.hid (show res = .ok (.mk 14 (⟨#[]⟩ : ByteArray) acc p) s2 by rw [← HR.out, unionGo]; simp only [hA, Bool.false_eq_true, if_false])
          clear HR
          go_wp2_with fail
          refine (takes_no E s2 _ _ hM.rd hA).mono ?_
          rintro e w4 ⟨rfl, hq4⟩
          have hL4 := hL.below hq4.bel hL.lt
          have hG4 := hG.below hq4.bel hG.lt
          have HO4 := HO.kept (KeepsX.of_below hq4.bel (fun b _ hlt => hlt))
          obtain ⟨A4, c4, hu4, _⟩ := HO4.form
          subst hu4
          obtain ⟨x0, x1, x2, x3, _, _, _, _⟩ := blk4 hL4
          obtain ⟨d0, d1, d2, d3, e0, e1, e2, e3⟩ := blk4 hG4
          clear hA
          go_wp2_with fail
          refine end_node HF.out (NodeV.of_slice HO4.values 14 (⟨#[]⟩ : ByteArray) p) (hM.trans hq4.moved) hG4 (Nat.le_refl _) hltR ?_ rfl (by rfl) rfl
          rintro b ⟨hb, _⟩
          constructor <;> omega
        | true =>
          have HE := Lib.hid (show (termR F E.c (adv s2)).bind (fun t s1 => unionGo F p g1 (acc ++ [t]) E.c s1) = res by rw [← HR.out, unionGo]; simp only [hA, if_true])
          clear HR
          go_wp2_with fail
          refine (takes_yes E s2 _ _ hM.rd hA).mono ?_
          rintro e w4 ⟨rfl, hm4⟩
          have hL4 := hL.grown hm4.gr (fun e => by injection e with e; omega)
          have hG4 := hG.grown hm4.gr (fun e => by injection e with e; omega)
          have HO4 := HO.grown hm4.gr (by omega)
          have hM4 := hM.trans hm4
          clear hA hL hG HO hM
          obtain ⟨A4, c4, hu4, _⟩ := HO4.form
          subst hu4
          obtain ⟨x0, x1, x2, x3, y0, y1, y2, y3⟩ := blk4 hL4
          have hltL4 := hL4.lt
          cases hP : termR F E.c (adv s2) with
          | out => exact absurd HE.out.symm (by rw [hP]; exact HNE.out)
          | fail q =>
            have HF := Lib.hid (show res = .fail q by rw [← HE.out, hP]; rfl)
            go_wp2_with fail
            let SS : World → Prop := fun w' => w'.cell? ⟨L, 2, none⟩ = some (.slice A4 acc.length c4)
            have HSS : SS w4.drew := x2
            (refine wp_region_held_drew (S := SS) (by kernel_rfl) HSS ?_; intro hSd; (refine wpAnyH_take (i := 0) (v := ?vv1x0) rfl (by kernel_rfl) (by kernel_rfl) (by kernel_rfl) (fun _ _ _ h => h) (Or.inl ⟨by rfl, ?hy1x0⟩) hSd ?rest1x0); (case hy1x0 => (intro w hSw; (try dsimp only [SS] at hSw); go_simp; try (with_reducible rfl))); (refine wpAnyH_take (i := 1) (v := ?vv1x1) rfl (by kernel_rfl) (by kernel_rfl) (by kernel_rfl) (fun _ _ _ h => h) (Or.inl ⟨by rfl, ?hy1x1⟩) hSd ?rest1x1); (case hy1x1 => (intro w hSw; (try dsimp only [SS] at hSw); go_simp; try (with_reducible rfl))); (refine wpAnyH_take (i := 2) (v := ?vv1x2) rfl (by kernel_rfl) (by kernel_rfl) (by kernel_rfl) (fun _ _ _ h => h) (Or.inl ⟨by rfl, ?hy1x2⟩) hSd ?rest1x2); (case hy1x2 => (intro w hSw; (try dsimp only [SS] at hSw); go_simp; try (with_reducible rfl))); (refine wpAnyH_ready (rs := [3]) (by kernel_rfl) (by simp) ?_); (refine AllReadyH.cons rfl (fun K hK => ?_) AllReadyH.nil); go_simp)
            refine (term_any E F hF _ (adv s2) hM4.drew.rd (by rw [hP]; exact nofun)).mono ?_
            rw [hP]
            rintro e w7 ⟨rfl, hg7⟩
            unfold wrongV
            exact ⟨rfl, end_fail HF.out hM4.drew.gr hg7⟩
          | ok n2 s3 =>
            have HE2 := Lib.hid (show unionGo F p g1 (acc ++ [n2]) E.c s3 = res by rw [← HE.out, hP]; rfl)
            have HC := Lib.hid (fun W (hr : RdAt E W (adv s2)) => term_any E F hF W (adv s2) hr (by rw [hP]; exact nofun))
            rw [hP] at HC
            clear HE hP
            go_wp2_with fail
            have hacc : acc.length ≤ 1000000 := by omega
            have hRL : E.R < w.heap.size + 1 := by omega
            have hsz4 : w.heap.size + 1 ≤ w4.heap.size := by omega
            go_region_law (first
              | (refine step_pushZ (by rfl) (.tmp 14) (.tmp 17) (by rfl) E s3 (w.heap.size + 1) w4.heap.size (fun b => b = L) w w5 (.slice A4 acc.length c4) acc n2 A5 c5 (by rfl) (by rfl) HO5 hM5 (Nat.le_succ _) hRL hsz4 hs5 (fun b hb => by rw [hb]; exact hltL4) (fun g hg => (HO4.lt g hg).2) hacc hC5 ?_
                 intro g c w6 hp6
                 have hL6 : Blk w6 L 24 #[.int .i64 14, .string (⟨#[]⟩ : ByteArray), .slice A4 acc.length c4, .int .i64 p] := (hp6.old L hltL5 (.inl rfl)).trans hL5
                 obtain ⟨v0, v1, v2, v3, f0, f1, f2, f3⟩ := blk4 hL6)
              | (go_simp
                 go_at_call 216
                 refine (HC.out _ hM4.drew.rd).mono ?_
                 rintro e w5 ⟨⟨v, rfl, hv5⟩, hm5⟩
                 obtain ⟨A5, c5, rfl, hC5⟩ := hv5.toC
                 have hL5 := hL4.drew.grown hm5.gr (fun e => by injection e with e; omega)
                 have hG5 := hG4.drew.grown hm5.gr (fun e => by injection e with e; omega)
                 have HO5 := (HO4.kept ((KeepsX.refl _ _).drew)).grown hm5.gr hRL
                 have hM5 := hM4.drew.trans hm5
                 have hs5 : w4.heap.size ≤ w5.heap.size := hm5.gr.size
                 have hltL5 := hL5.lt
                 obtain ⟨z0, z1, z2, z3, _, _, _, _⟩ := blk4 hL5))
            all_goals go_wp2_with fail
            all_goals
              go_roundg g1
              case measure => omega
              case rel =>
                refine ⟨acc ++ [n2], s3, _, by simpa using hL6.set_ 2 (.slice (some ⟨g, 0, none⟩) (acc.length + 1) c), ?_, ?_, by rw [List.length_append]; simp; omega, HE2.out, ?_⟩
                · exact hp6.own.kept ((KeepsX.refl _ _).setCell (fun hX => hX.2 rfl) _)
                · exact Blk.far (show Blk w6 w.heap.size 24 ndZ from (hp6.old w.heap.size (by have := hG5.lt; omega) (.inr (by omega))).trans hG5) (p := ⟨L, 2, none⟩) (by show w.heap.size ≠ L; omega) _
                · exact hp6.mov.own (p := ⟨L, 2, none⟩) (by show w.heap.size ≤ L; omega) (by show E.R < L; omega) _
end Go.Proofs.YtnalfjaojcahhaaGreatDoor
namespace Go.Proofs.YtnalfjaojcahhaaGreatDoor
open Go.RowKit Go.Lib Go.Proofs
attribute [local go_sem ↓] Go.wp_at_zero Go.wp_at_succ
attribute [local go_sem] fld_tok0 fld_tok1 fld_tok2 fld_nd0 fld_nd1 fld_nd2 fld_nd3

/-- A boxed node is loaded and told. -/
def nd4 (n : Nd) (A : Option Addr) (cp : Nat) : Array Value := #[.int .i64 n.kind, .string n.text, .slice A n.kids.length cp, .int .i64 n.pos]

set_option maxRecDepth 100000 in
set_option maxHeartbeats 4000000 in
theorem inter_any (E : Env) (F : Fns) (hF : OkF E F) (p : Int) (w : World) (s : St) (h : RdAt E w s) (hno : interR F p E.c s ≠ .out) :
    Calls Tryz.prog 156 #[.pointer (some ⟨E.R, 0, none⟩), .int .i64 p] w (PostN E w (interR F p E.c s)) := by
  generalize hres : interR F p E.c s = res at *
  have HRES := Lib.hid hres
  have HNE := Lib.hid hno
  have hltR := h.lt
  have hM0 := (Moved.refl h).alloc (.cells ndZ 24)
  clear hres hno
  go_enter Tryz.func156, Tryz.ntmps156
  go_wp2_with fail
  cases hA : isS E.c s (⟨#[123]⟩ : ByteArray) with
  | false =>
    refine (need_no E s _ _ hM0.rd hA).mono ?_
    rintro e w1 ⟨rfl, hb1⟩
    unfold wrongV
    exact ⟨rfl, end_fail (by rw [← HRES.out, interR, need]; simp [hA]) hM0.gr (grownBy_of_below _ hb1)⟩
  | true =>
    have HE := Lib.hid (show (unionR F p E.c (adv s)).bind (fun n s2 => (need (⟨#[125]⟩ : ByteArray) E.c (semiS E.c s2)).bind fun _ s3 => .ok n s3) = res by rw [← HRES.out, interR, need]; simp only [hA, if_true, Res.bind_ok])
    refine (need_yes E s _ _ hM0.rd hA).mono ?_
    rintro e w1 ⟨rfl, hm1⟩
    have hG1 := (Blk.new w 24 ndZ).grown hm1.gr (fun e => by injection e with e; omega)
    have hM1 := hM0.trans hm1
    have hltG1 := hG1.lt
    clear HRES hA hM0 hm1
    go_wp2_with fail
    cases hP : unionR F p E.c (adv s) with
    | out => exact absurd HE.out.symm (by rw [hP]; exact HNE.out)
    | fail q =>
      refine (union_any E F hF p w1 (adv s) hM1.rd (by rw [hP]; exact nofun)).mono ?_
      rw [hP]
      rintro e w2 ⟨rfl, hg2⟩
      unfold wrongV
      exact ⟨rfl, end_fail (by rw [← HE.out, hP]; rfl) hM1.gr hg2⟩
    | ok n s2 =>
      have HE2 := Lib.hid (show (need (⟨#[125]⟩ : ByteArray) E.c (semiS E.c s2)).bind (fun _ s3 => .ok n s3) = res by rw [← HE.out, hP]; rfl)
      refine (union_any E F hF p w1 (adv s) hM1.rd (by rw [hP]; exact nofun)).mono ?_
      rw [hP]
      rintro e w2 ⟨⟨v, rfl, hv⟩, hm2⟩
      obtain ⟨A, cp, rfl, hC⟩ := hv.toC
      have hG2 := hG1.grown hm2.gr (fun e => by injection e with e; omega)
      have hM2 := hM1.trans hm2
      have hs2 := hm2.gr.size
      have hltG2 := hG2.lt
      clear HE hP hM1 hm2
      go_wp2_with fail
      have hL3 := Blk.new w2 24 (nd4 n A cp)
      have hG3 := hG2.alloc (.cells (nd4 n A cp) 24)
      have hM3 := hM2.alloc (.cells (nd4 n A cp) 24)
      have hv3 := hv.kept ((KeepsX.refl _ w2).alloc (.cells (nd4 n A cp) 24))
      refine (takeSemi_any E s2 _ hM3.rd).mono ?_
      rintro e w4 ⟨rfl, hm4⟩
      have hL4 := hL3.grown hm4.gr (fun e => by injection e with e; omega)
      have hG4 := hG3.grown hm4.gr (fun e => by injection e with e; omega)
      have hv4 := hv3.kept (KeepsX.of_grown hm4.gr (fun g e hX => by injection e with e; subst e; omega))
      have hM4 := hM3.trans hm4
      have hs4 : w2.heap.size + 1 ≤ w4.heap.size := by have := hm4.gr.size; simp at this; omega
      clear hL3 hG3 hv3 hM3 hm4 hv hC
      go_wp2_with fail
      cases hD : isS E.c (semiS E.c s2) (⟨#[125]⟩ : ByteArray) with
      | false =>
        refine (need_no E (semiS E.c s2) _ _ hM4.rd hD).mono ?_
        rintro e w5 ⟨rfl, hb5⟩
        unfold wrongV
        exact ⟨rfl, end_fail (by rw [← HE2.out, need]; simp [hD]) hM4.gr (grownBy_of_below _ hb5)⟩
      | true =>
        have HF := Lib.hid (show res = .ok n (adv (semiS E.c s2)) by rw [← HE2.out, need]; simp [hD])
        refine (need_yes E (semiS E.c s2) _ _ hM4.rd hD).mono ?_
        rintro e w5 ⟨rfl, hm5⟩
        have hL5 := hL4.grown hm5.gr (fun e => by injection e with e; omega)
        have hG5 := hG4.grown hm5.gr (fun e => by injection e with e; omega)
        have hv5 := hv4.kept (KeepsX.of_grown hm5.gr (fun g e hX => by injection e with e; subst e; omega))
        have hM5 := hM4.trans hm5
        obtain ⟨x0, x1, x2, x3, _, _, _, _⟩ := blk4 hL5
        obtain ⟨d0, d1, d2, d3, e0, e1, e2, e3⟩ := blk4 hG5
        clear hD HE2
        go_wp2_with fail
        refine end_node HF.out hv5 hM5 hG5 (Nat.le_refl _) hltR ?_ rfl (by rfl) rfl
        intro b hb
        constructor <;> omega

theorem union_kids (F : Fns) (p : Int) (c : Cx) : ∀ (g : Nat) (acc : List Nd) (s : St) (n : Nd) (s' : St), 1 ≤ acc.length → (∀ t ∈ acc, t.kids.length = 1) → unionGo F p g acc c s = .ok n s' → 1 ≤ n.kids.length ∧ ∀ t ∈ n.kids, t.kids.length = 1
  | 0, acc, s, n, s', _, _, h => by simp [unionGo] at h
  | g + 1, acc, s, n, s', h1, h2, h => by
    rw [unionGo] at h
    dsimp only at h
    split at h
    · cases hP : termR F c (adv s) with
      | out => rw [hP] at h; simp at h
      | fail q => rw [hP] at h; simp at h
      | ok t s1 =>
        rw [hP] at h
        simp only [Res.bind_ok] at h
        have ht : t.kids.length = 1 := by
          unfold termR at hP
          split at hP
          · cases hT : F.typ c (adv (adv s)) with
            | out => rw [hT] at hP; simp at hP
            | fail q => rw [hT] at hP; simp at hP
            | ok k s2 => rw [hT] at hP; simp at hP; rw [← hP.1]; rfl
          · cases hT : F.typ c (adv s) with
            | out => rw [hT] at hP; simp at hP
            | fail q => rw [hT] at hP; simp at hP
            | ok k s2 => rw [hT] at hP; simp at hP; rw [← hP.1]; rfl
        exact union_kids F p c g (acc ++ [t]) s1 n s' (by simp) (by
          intro u hu
          rcases List.mem_append.1 hu with hu | hu
          · exact h2 u hu
          · rw [List.mem_singleton.1 hu]; exact ht) h
    · simp only [Res.ok.injEq] at h
      rw [← h.1]
      exact ⟨h1, h2⟩
theorem unionR_kids (F : Fns) (p : Int) (c : Cx) (s : St) (n : Nd) (s' : St) (h : unionR F p c s = .ok n s') : 1 ≤ n.kids.length ∧ ∀ t ∈ n.kids, t.kids.length = 1 := by
  unfold unionR at h
  cases hP : termR F c s with
  | out => rw [hP] at h; simp at h
  | fail q => rw [hP] at h; simp at h
  | ok t s1 =>
    rw [hP] at h
    simp only [Res.bind_ok] at h
    refine union_kids F p c F.g [t] s1 n s' (by simp) (fun u hu => ?_) h
    rw [List.mem_singleton.1 hu]
    unfold termR at hP
    split at hP
    · cases hT : F.typ c (adv s) with
      | out => rw [hT] at hP; simp at hP
      | fail q => rw [hT] at hP; simp at hP
      | ok k s2 => rw [hT] at hP; simp at hP; rw [← hP.1]; rfl
    · cases hT : F.typ c s with
      | out => rw [hT] at hP; simp at hP
      | fail q => rw [hT] at hP; simp at hP
      | ok k s2 => rw [hT] at hP; simp at hP; rw [← hP.1]; rfl
end Go.Proofs.YtnalfjaojcahhaaGreatDoor
namespace Go.Proofs.YtnalfjaojcahhaaGreatDoor
open Go.RowKit Go.Lib Go.Proofs
attribute [local go_sem ↓] Go.wp_at_zero Go.wp_at_succ
attribute [local go_sem] fld_tok0 fld_tok1 fld_tok2 fld_nd0 fld_nd1 fld_nd2 fld_nd3

/-- A result that has been set, two blocks laid behind it. -/
theorem end_node2 {E : Env} {w wk : World} {res : Res Nd} {n : Nd} {s : St} {X : Nat → Prop} {a0 a1 a2 a3 z0 z1 z2 z3 : Value} {g q : Nat} {fn : Func} {a : Act} (o1 o2 : Obj) (hr : res = .ok n s)
    (hv : NodeV X wk (.agg #[a0, a1, a2, a3]) n) (hm : Moved E s w wk) (hb : Blk wk g 24 #[z0, z1, z2, z3]) (hg : w.heap.size ≤ g) (hR : E.R < g) (hX : ∀ b, X b → w.heap.size ≤ b ∧ b ≠ g)
    (hfn : fn.results = #[.cell q 24]) (ht : a.tmps.getD q undef = .pointer (some ⟨g, 0, none⟩)) (hd : a.defers = []) :
    bodyPost Tryz.prog fn (PostN E w res) .ret a (((put4 wk g a0 a1 a2 a3).alloc o1).alloc o2) := by
  refine bodyPost_ret (results_node hfn _ ht (((put4_blk hb a0 a1 a2 a3).alloc o1).alloc o2)) hd ?_
  rw [hr]
  exact ⟨⟨_, rfl, (hv.kept (((put4_keeps (fun b hb => (hX b hb).2) _ _ _ _).alloc o1).alloc o2)).mono fun b hb _ => (hX b hb).1⟩, ((put4_moved hm hg hR _ _ _ _).alloc o1).alloc o2⟩

theorem NodesV.kid {X : Nat → Prop} {w : World} {A0 : Option Addr} {n c : Nat} {l : List Nd} (h : NodesV X w (.slice A0 n c) l) (i : Nat) (hi : i < l.length) :
    ∃ b off A cp, A0 = some ⟨b, off, none⟩ ∧ X b ∧ b < w.heap.size ∧ w.cell? ⟨b, off + i * 4, none⟩ = some (.int .i64 l[i].kind) ∧ w.cell? ⟨b, off + i * 4 + 1, none⟩ = some (.string l[i].text) ∧
      w.cell? ⟨b, off + i * 4 + 2, none⟩ = some (.slice A l[i].kids.length cp) ∧ w.cell? ⟨b, off + i * 4 + 3, none⟩ = some (.int .i64 l[i].pos) ∧
      NodeV X w (.agg #[.int .i64 l[i].kind, .string l[i].text, .slice A l[i].kids.length cp, .int .i64 l[i].pos]) l[i] := by
  obtain ⟨A1, c1, xs, e, _, hr, hn⟩ := h
  injection e with e1 e2 e3
  subst e1 e2 e3
  obtain ⟨b, off, eA, hX, hc⟩ := hr.2 (by omega)
  obtain ⟨ys, hC, hy⟩ := hn.get i hi
  obtain ⟨A, cp, zs, e, h1, h2, h3⟩ := hC.toV
  subst e
  have g := fun j (hj : j < 4) v (hv : [Value.int .i64 l[i].kind, .string l[i].text, .slice A l[i].kids.length cp, .int .i64 l[i].pos][j]? = some v) => hc (i * 4 + j) v (by rw [hy j hj]; exact hv)
  have g0 := g 0 (by omega) _ rfl
  exact ⟨b, off, A, cp, eA, hX, World.block_lt_of_cell? w _ g0, g0, by simpa [Nat.add_assoc] using g 1 (by omega) _ rfl, by simpa [Nat.add_assoc] using g 2 (by omega) _ rfl, by simpa [Nat.add_assoc] using g 3 (by omega) _ rfl, A, cp, zs, rfl, h1, h2, h3⟩
theorem NodeV.kidsV {X : Nat → Prop} {w : World} {k t a : Value} {A : Option Addr} {m c : Nat} {n : Nd} (h : NodeV X w (.agg #[k, t, .slice A m c, a]) n) : NodesV X w (.slice A m c) n.kids := by
  obtain ⟨A1, c1, xs, e, h1, h2, h3⟩ := h
  injection e with e
  injection e with e
  simp only [List.cons.injEq, and_true] at e
  obtain ⟨_, _, e, _⟩ := e
  exact ⟨A1, c1, xs, e, h1, h2, h3⟩

set_option maxRecDepth 100000 in
set_option maxHeartbeats 4000000 in
theorem constraint_any (E : Env) (F : Fns) (hF : OkF E F) : ReadC E (constraintR F) 148 := by
  intro w s h hno
  generalize hres : constraintR F E.c s = res at *
  have HRES := Lib.hid hres
  have HNE := Lib.hid hno
  have hltR := h.lt
  clear hres hno
  go_enter Tryz.func148, Tryz.ntmps148
  go_wp2_with fail
  refine (next_any E s _ (h.alloc _)).mono ?_
  unfold tokV
  rintro e w1 ⟨rfl, hb1⟩
  have hq1 := ((Seen.refl h).alloc _).step hb1
  have hG1 := (Blk.new w 24 ndZ).below hb1 (by simp)
  have hltG1 := hG1.lt
  clear hb1
  go_wp2_with fail
  cases hA : isS E.c s (⟨#[105, 110, 116, 101, 114, 102, 97, 99, 101]⟩ : ByteArray) with
  | true =>
    have HE := Lib.hid (show interR F (posS E.c s) E.c (adv s) = res by rw [← HRES.out, constraintR, if_pos hA])
    refine (takes_yes E s _ w1 hq1.rd hA).mono ?_
    rintro e w2 ⟨rfl, hm2⟩
    have hG2 := hG1.grown hm2.gr (fun e => by injection e with e; omega)
    have hM2 := hq1.moved.trans hm2
    have hs2 := hm2.gr.size
    clear HRES hA hG1 hq1
    go_wp2_with fail
    refine (inter_any E F hF _ w2 (adv s) hm2.rd (by rw [show interR F (tokAt E.c s.at_).pos E.c (adv s) = res from HE.out]; exact HNE.out)).mono ?_
    rw [show interR F (tokAt E.c s.at_).pos E.c (adv s) = res from HE.out]
    cases hres : res with
    | out => exact absurd hres HNE.out
    | fail p =>
      rintro e w5 ⟨rfl, hg5⟩
      unfold wrongV
      exact ⟨rfl, end_fail rfl hM2.gr hg5⟩
    | ok n s2 =>
      rintro e w5 ⟨⟨v, rfl, hv⟩, hm5⟩
      obtain ⟨A, cp, rfl, hC⟩ := hv.toC
      have hG5 := hG2.grown hm5.gr (fun e => by injection e with e; omega)
      obtain ⟨d0, d1, d2, d3, e0, e1, e2, e3⟩ := blk4 hG5
      have HF := Lib.hid hres
      clear HE hres HNE
      go_wp2_with fail
      refine end_node HF.out hv (hM2.trans hm5) hG5 (Nat.le_refl _) hltR ?_ rfl (by rfl) rfl
      intro b hb
      constructor <;> omega
  | false =>
    have HE := Lib.hid (show (unionR F (posS E.c s) E.c s).bind (fun n s1 => .ok ((bareB n).getD n) s1) = res by rw [← HRES.out, constraintR]; simp only [hA, Bool.false_eq_true, if_false])
    refine (takes_no E s _ w1 hq1.rd hA).mono ?_
    rintro e w2 ⟨rfl, hq2⟩
    have hG2 := hG1.below hq2.bel hltG1
    have hM2 := hq1.moved.trans hq2.moved
    have hs2 := hq2.bel.size
    clear HRES hA hG1 hq1 hq2
    go_wp2_with fail
    cases hP : unionR F (posS E.c s) E.c s with
    | out => exact absurd HE.out.symm (by rw [hP]; exact HNE.out)
    | fail q =>
      refine (union_any E F hF _ w2 s hM2.rd (by rw [show unionR F (tokAt E.c s.at_).pos E.c s = _ from hP]; exact nofun)).mono ?_
      rw [show unionR F (tokAt E.c s.at_).pos E.c s = _ from hP]
      rintro e w3 ⟨rfl, hg3⟩
      unfold wrongV
      exact ⟨rfl, end_fail (by rw [← HE.out, hP]; rfl) hM2.gr hg3⟩
    | ok n s1 =>
      have HF := Lib.hid (show res = .ok ((bareB n).getD n) s1 by rw [← HE.out, hP]; rfl)
      obtain ⟨hk1, hk2⟩ := unionR_kids F _ _ _ _ _ hP
      refine (union_any E F hF _ w2 s hM2.rd (by rw [show unionR F (tokAt E.c s.at_).pos E.c s = _ from hP]; exact nofun)).mono ?_
      rw [show unionR F (tokAt E.c s.at_).pos E.c s = _ from hP]
      rintro e w3 ⟨⟨v, rfl, hv⟩, hm3⟩
      obtain ⟨A, cp, rfl, hC⟩ := hv.toC
      have hG3 := hG2.grown hm3.gr (fun e => by injection e with e; omega)
      have hM3 := hM2.trans hm3
      have hs3 := hm3.gr.size
      have hltG3 := hG3.lt
      clear hP HE hm3 hG2 hM2
      obtain ⟨nk, nt, nl, np⟩ := n
      rcases nl with _ | ⟨tn, rest⟩
      · simp at hk1
      have ht1 := hk2 tn (by simp)
      obtain ⟨tk, tt, tl, tp⟩ := tn
      rcases tl with _ | ⟨kn, tl2⟩
      · simp at ht1
      obtain rfl : tl2 = [] := by simpa using ht1
      clear hk1 hk2 ht1
      have HV := Lib.hid hv
      obtain ⟨b, off, A1, c1, eA, hXb, hbl, k0, k1, k2, k3, hv1⟩ := hv.kidsV.kid 0 (by simp)
      obtain ⟨b', off', A2, c2, eA', hXb', hbl', j0, j1, j2, j3, hv2⟩ := hv1.kidsV.kid 0 (by simp)
      simp only [Nd.kids_mk, Nd.kind_mk, Nd.text_mk, Nd.pos_mk, List.getElem_cons_zero, Nat.zero_mul, Nat.add_zero] at eA eA' k0 k1 k2 k3 j0 j1 j2 j3 hv2 hv1
      subst eA eA'
      have HV2 := Lib.hid hv2
      have HBB := Lib.hid (show (bareB (.mk nk nt (.mk tk tt [kn] tp :: rest) np)).getD (.mk nk nt (.mk tk tt [kn] tp :: rest) np) = if rest.length + 1 = 1 ∧ tt = (⟨#[]⟩ : ByteArray) ∧ kn.kind = 10 then kn else .mk nk nt (.mk tk tt [kn] tp :: rest) np by
        unfold bareB
        cases rest with
        | nil =>
          simp only [Nd.kids_mk, Nd.text_mk, List.length_nil, Nat.zero_add, true_and]
          by_cases hc : tt = (⟨#[]⟩ : ByteArray) ∧ kn.kind = 10
          · simp only [hc, and_self, if_true, Option.getD_some]
          · simp only [hc, if_false, Option.getD_none]
        | cons x r => simp)
      clear hv hv1 hv2 hC
      simp only [Nd.kids_mk, Nd.kind_mk, Nd.text_mk, Nd.pos_mk, List.length_cons, List.length_nil, Nat.zero_add] at k2 ⊢
      have hbne : b ≠ w3.heap.size := by omega
      have hbne' : b' ≠ w3.heap.size := by omega
      have hGL : w.heap.size ≠ w3.heap.size := by omega
      have hp0 : (0 : Int) < ((rest.length + 1 : Nat) : Int) := by omega
      obtain ⟨d0, d1, d2, d3, e0, e1, e2, e3⟩ := blk4 hG3
      generalize hmm : rest.length + 1 = m at *
      by_cases hb1 : m = 1
      · by_cases hb2 : tt = (⟨#[]⟩ : ByteArray)
        · have t2 : tt.toList.isEmpty = true := by rw [isEmpty_dec]; simp [hb2]
          by_cases hb3 : kn.kind = 10
          · have HF2 := Lib.hid (show res = .ok kn s1 by rw [HF.out, HBB.out, if_pos ⟨hb1, hb2, hb3⟩])
            have t3 : (kn.kind == 10) = true := by simp [hb3]
            have t1 : ((m : Int) == 1) = true := by rw [hb1]; rfl
            clear hb1 hb2 hb3 hmm
            go_wp2_with fail
            refine end_node2 _ _ HF2.out HV2.out hM3 hG3 (Nat.le_refl _) hltR ?_ rfl (by rfl) rfl
            intro b hb
            constructor <;> omega
          · have HF2 := Lib.hid (show res = .ok (.mk nk nt (.mk tk tt [kn] tp :: rest) np) s1 by rw [HF.out, HBB.out, if_neg (fun h => hb3 h.2.2)])
            have t3 : (kn.kind == 10) = false := by simp [hb3]
            have t1 : ((m : Int) == 1) = true := by rw [hb1]; rfl
            have HVV : Hid (NodeV (fun b => w2.heap.size ≤ b) w3 (.agg #[.int .i64 nk, .string nt, .slice (some ⟨b, off, none⟩) m cp, .int .i64 np]) (.mk nk nt (.mk tk tt [kn] tp :: rest) np)) := by
              have := HV.out
              simp only [Nd.kids_mk, Nd.kind_mk, Nd.text_mk, Nd.pos_mk, List.length_cons] at this
              rw [hmm] at this
              exact Lib.hid this
            clear hb1 hb2 hb3 hmm
            go_wp2_with fail
            refine end_node2 _ _ HF2.out HVV.out hM3 hG3 (Nat.le_refl _) hltR ?_ rfl (by rfl) rfl
            intro b hb
            constructor <;> omega
        · have HF2 := Lib.hid (show res = .ok (.mk nk nt (.mk tk tt [kn] tp :: rest) np) s1 by rw [HF.out, HBB.out, if_neg (fun h => hb2 h.2.1)])
          have t2 : tt.toList.isEmpty = false := by rw [isEmpty_dec]; simp [hb2]
          have t1 : ((m : Int) == 1) = true := by rw [hb1]; rfl
          have HVV : Hid (NodeV (fun b => w2.heap.size ≤ b) w3 (.agg #[.int .i64 nk, .string nt, .slice (some ⟨b, off, none⟩) m cp, .int .i64 np]) (.mk nk nt (.mk tk tt [kn] tp :: rest) np)) := by
            have := HV.out
            simp only [Nd.kids_mk, Nd.kind_mk, Nd.text_mk, Nd.pos_mk, List.length_cons] at this
            rw [hmm] at this
            exact Lib.hid this
          clear hb1 hb2 hmm
          go_wp2_with fail
          refine end_node2 _ _ HF2.out HVV.out hM3 hG3 (Nat.le_refl _) hltR ?_ rfl (by rfl) rfl
          intro b hb
          constructor <;> omega
      · have HF2 := Lib.hid (show res = .ok (.mk nk nt (.mk tk tt [kn] tp :: rest) np) s1 by rw [HF.out, HBB.out, if_neg (fun h => hb1 h.1)])
        have t1 : ((m : Int) == 1) = false := by rw [beq_eq_false_iff_ne]; omega
        have HVV : Hid (NodeV (fun b => w2.heap.size ≤ b) w3 (.agg #[.int .i64 nk, .string nt, .slice (some ⟨b, off, none⟩) m cp, .int .i64 np]) (.mk nk nt (.mk tk tt [kn] tp :: rest) np)) := by
          have := HV.out
          simp only [Nd.kids_mk, Nd.kind_mk, Nd.text_mk, Nd.pos_mk, List.length_cons] at this
          rw [hmm] at this
          exact Lib.hid this
        clear hb1 hmm
        go_wp2_with fail
        refine end_node2 _ _ HF2.out HVV.out hM3 hG3 (Nat.le_refl _) hltR ?_ rfl (by rfl) rfl
        intro b hb
        constructor <;> omega
end Go.Proofs.YtnalfjaojcahhaaGreatDoor
