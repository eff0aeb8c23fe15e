/-
  Constraints: constraint. A kid's cells. By an AI agent.
  What 'tree' asks of a node, as plain functions: depths are counted by a number that goes down. By an AI agent.
  Questions about nodes as function values; what they answer. By an AI agent.
-/
import Derived.Test.YtnalfjaojcahhaaGreatDoorJ07
import Derived.Test.YtnalfjaojcahhaaGreatDoorJ01
import Derived.Lib.IndexMore
namespace Go.Proofs.YtnalfjaojcahhaaGreatDoor
open Go.RowKit Go.Lib Go.Proofs
attribute [local go_sem ↓] Go.wp_at_zero Go.wp_at_succ
attribute [local go_sem] fld_tok0 fld_tok1 fld_tok2 fld_nd0 fld_nd1 fld_nd2 fld_nd3

/-- A result that has been set, two blocks laid behind it. -/
theorem end_node2 {E : Env} {w wk : World} {res : Res Nd} {n : Nd} {s : St} {X : Nat → Prop} {a0 a1 a2 a3 z0 z1 z2 z3 : Value} {g q : Nat} {fn : Func} {a : Act} (o1 o2 : Obj) (hr : res = .ok n s)
    (hv : NodeV X wk (.agg #[a0, a1, a2, a3]) n) (hm : Moved E s w wk) (hb : Blk wk g 24 #[z0, z1, z2, z3]) (hg : w.heap.size ≤ g) (hR : E.R < g) (hX : ∀ b, X b → w.heap.size ≤ b ∧ b ≠ g)
    (hfn : fn.results = #[.cell q 24]) (ht : a.tmps.getD q undef = .pointer (some ⟨g, 0, none⟩)) (hd : a.defers = []) :
    bodyPost Tryz.prog fn (PostN E w res) .ret a (((put4 wk g a0 a1 a2 a3).alloc o1).alloc o2) := by
  refine bodyPost_ret (results_node hfn _ ht (((put4_blk hb a0 a1 a2 a3).alloc o1).alloc o2)) hd ?_
  rw [hr]
  exact ⟨⟨_, rfl, (hv.kept (((put4_keeps (fun b hb => (hX b hb).2) _ _ _ _).alloc o1).alloc o2)).mono fun b hb _ => (hX b hb).1⟩, ((put4_moved hm hg hR _ _ _ _).alloc o1).alloc o2⟩

theorem NodesV.kid {X : Nat → Prop} {w : World} {A0 : Option Addr} {n c : Nat} {l : List Nd} (h : NodesV X w (.slice A0 n c) l) (i : Nat) (hi : i < l.length) :
    ∃ b off A cp, A0 = some ⟨b, off, none⟩ ∧ X b ∧ b < w.heap.size ∧ w.cell? ⟨b, off + i * 4, none⟩ = some (.int .i64 l[i].kind) ∧ w.cell? ⟨b, off + i * 4 + 1, none⟩ = some (.string l[i].text) ∧
      w.cell? ⟨b, off + i * 4 + 2, none⟩ = some (.slice A l[i].kids.length cp) ∧ w.cell? ⟨b, off + i * 4 + 3, none⟩ = some (.int .i64 l[i].pos) ∧
      NodeV X w (.agg #[.int .i64 l[i].kind, .string l[i].text, .slice A l[i].kids.length cp, .int .i64 l[i].pos]) l[i] := by
  obtain ⟨A1, c1, xs, e, _, hr, hn⟩ := h
  injection e with e1 e2 e3
  subst e1 e2 e3
  obtain ⟨b, off, eA, hX, hc⟩ := hr.2 (by omega)
  obtain ⟨ys, hC, hy⟩ := hn.get i hi
  obtain ⟨A, cp, zs, e, h1, h2, h3⟩ := hC.toV
  subst e
  have g := fun j (hj : j < 4) v (hv : [Value.int .i64 l[i].kind, .string l[i].text, .slice A l[i].kids.length cp, .int .i64 l[i].pos][j]? = some v) => hc (i * 4 + j) v (by rw [hy j hj]; exact hv)
  have g0 := g 0 (by omega) _ rfl
  exact ⟨b, off, A, cp, eA, hX, World.block_lt_of_cell? w _ g0, g0, by simpa [Nat.add_assoc] using g 1 (by omega) _ rfl, by simpa [Nat.add_assoc] using g 2 (by omega) _ rfl, by simpa [Nat.add_assoc] using g 3 (by omega) _ rfl, A, cp, zs, rfl, h1, h2, h3⟩
theorem NodeV.kidsV {X : Nat → Prop} {w : World} {k t a : Value} {A : Option Addr} {m c : Nat} {n : Nd} (h : NodeV X w (.agg #[k, t, .slice A m c, a]) n) : NodesV X w (.slice A m c) n.kids := by
  obtain ⟨A1, c1, xs, e, h1, h2, h3⟩ := h
  injection e with e
  injection e with e
  simp only [List.cons.injEq, and_true] at e
  obtain ⟨_, _, e, _⟩ := e
  exact ⟨A1, c1, xs, e, h1, h2, h3⟩

set_option maxRecDepth 100000 in
set_option maxHeartbeats 4000000 in
theorem constraint_any (E : Env) (F : Fns) (hF : OkF E F) : ReadC E (constraintR F) 148 := by
  intro w s h hno
  generalize hres : constraintR F E.c s = res at *
  have HRES := Lib.hid hres
  have HNE := Lib.hid hno
  have hltR := h.lt
  clear hres hno
  go_enter Tryz.func148, Tryz.ntmps148
  go_wp2_with fail
  refine (next_any E s _ (h.alloc _)).mono ?_
  unfold tokV
  rintro e w1 ⟨rfl, hb1⟩
  have hq1 := ((Seen.refl h).alloc _).step hb1
  have hG1 := (Blk.new w 24 ndZ).below hb1 (by simp)
  have hltG1 := hG1.lt
  clear hb1
  go_wp2_with fail
  cases hA : isS E.c s (⟨#[105, 110, 116, 101, 114, 102, 97, 99, 101]⟩ : ByteArray) with
  | true =>
    have HE := Lib.hid (show interR F (posS E.c s) E.c (adv s) = res by rw [← HRES.out, constraintR, if_pos hA])
    refine (takes_yes E s _ w1 hq1.rd hA).mono ?_
    rintro e w2 ⟨rfl, hm2⟩
    have hG2 := hG1.grown hm2.gr (fun e => by injection e with e; omega)
    have hM2 := hq1.moved.trans hm2
    have hs2 := hm2.gr.size
    clear HRES hA hG1 hq1
    go_wp2_with fail
    refine (inter_any E F hF _ w2 (adv s) hm2.rd (by rw [show interR F (tokAt E.c s.at_).pos E.c (adv s) = res from HE.out]; exact HNE.out)).mono ?_
    rw [show interR F (tokAt E.c s.at_).pos E.c (adv s) = res from HE.out]
    cases hres : res with
    | out => exact absurd hres HNE.out
    | fail p =>
      rintro e w5 ⟨rfl, hg5⟩
      unfold wrongV
      exact ⟨rfl, end_fail rfl hM2.gr hg5⟩
    | ok n s2 =>
      rintro e w5 ⟨⟨v, rfl, hv⟩, hm5⟩
      obtain ⟨A, cp, rfl, hC⟩ := hv.toC
      have hG5 := hG2.grown hm5.gr (fun e => by injection e with e; omega)
      obtain ⟨d0, d1, d2, d3, e0, e1, e2, e3⟩ := blk4 hG5
      have HF := Lib.hid hres
      clear HE hres HNE
      go_wp2_with fail
      refine end_node HF.out hv (hM2.trans hm5) hG5 (Nat.le_refl _) hltR ?_ rfl (by rfl) rfl
      intro b hb
      constructor <;> omega
  | false =>
    have HE := Lib.hid (show (unionR F (posS E.c s) E.c s).bind (fun n s1 => .ok ((bareB n).getD n) s1) = res by rw [← HRES.out, constraintR]; simp only [hA, Bool.false_eq_true, if_false])
    refine (takes_no E s _ w1 hq1.rd hA).mono ?_
    rintro e w2 ⟨rfl, hq2⟩
    have hG2 := hG1.below hq2.bel hltG1
    have hM2 := hq1.moved.trans hq2.moved
    have hs2 := hq2.bel.size
    clear HRES hA hG1 hq1 hq2
    go_wp2_with fail
    cases hP : unionR F (posS E.c s) E.c s with
    | out => exact absurd HE.out.symm (by rw [hP]; exact HNE.out)
    | fail q =>
      refine (union_any E F hF _ w2 s hM2.rd (by rw [show unionR F (tokAt E.c s.at_).pos E.c s = _ from hP]; exact nofun)).mono ?_
      rw [show unionR F (tokAt E.c s.at_).pos E.c s = _ from hP]
      rintro e w3 ⟨rfl, hg3⟩
      unfold wrongV
      exact ⟨rfl, end_fail (by rw [← HE.out, hP]; rfl) hM2.gr hg3⟩
    | ok n s1 =>
      have HF := Lib.hid (show res = .ok ((bareB n).getD n) s1 by rw [← HE.out, hP]; rfl)
      obtain ⟨hk1, hk2⟩ := unionR_kids F _ _ _ _ _ hP
      refine (union_any E F hF _ w2 s hM2.rd (by rw [show unionR F (tokAt E.c s.at_).pos E.c s = _ from hP]; exact nofun)).mono ?_
      rw [show unionR F (tokAt E.c s.at_).pos E.c s = _ from hP]
      rintro e w3 ⟨⟨v, rfl, hv⟩, hm3⟩
      obtain ⟨A, cp, rfl, hC⟩ := hv.toC
      have hG3 := hG2.grown hm3.gr (fun e => by injection e with e; omega)
      have hM3 := hM2.trans hm3
      have hs3 := hm3.gr.size
      have hltG3 := hG3.lt
      clear hP HE hm3 hG2 hM2
      obtain ⟨nk, nt, nl, np⟩ := n
      rcases nl with _ | ⟨tn, rest⟩
      · simp at hk1
      have ht1 := hk2 tn (by simp)
      obtain ⟨tk, tt, tl, tp⟩ := tn
      rcases tl with _ | ⟨kn, tl2⟩
      · simp at ht1
      obtain rfl : tl2 = [] := by simpa using ht1
      clear hk1 hk2 ht1
      have HV := Lib.hid hv
      obtain ⟨b, off, A1, c1, eA, hXb, hbl, k0, k1, k2, k3, hv1⟩ := hv.kidsV.kid 0 (by simp)
      obtain ⟨b', off', A2, c2, eA', hXb', hbl', j0, j1, j2, j3, hv2⟩ := hv1.kidsV.kid 0 (by simp)
      simp only [Nd.kids_mk, Nd.kind_mk, Nd.text_mk, Nd.pos_mk, List.getElem_cons_zero, Nat.zero_mul, Nat.add_zero] at eA eA' k0 k1 k2 k3 j0 j1 j2 j3 hv2 hv1
      subst eA eA'
      have HV2 := Lib.hid hv2
      have HBB := Lib.hid (show (bareB (.mk nk nt (.mk tk tt [kn] tp :: rest) np)).getD (.mk nk nt (.mk tk tt [kn] tp :: rest) np) = if rest.length + 1 = 1 ∧ tt = (⟨#[]⟩ : ByteArray) ∧ kn.kind = 10 then kn else .mk nk nt (.mk tk tt [kn] tp :: rest) np by
        unfold bareB
        cases rest with
        | nil =>
          simp only [Nd.kids_mk, Nd.text_mk, List.length_nil, Nat.zero_add, true_and]
          by_cases hc : tt = (⟨#[]⟩ : ByteArray) ∧ kn.kind = 10
          · simp only [hc, and_self, if_true, Option.getD_some]
          · simp only [hc, if_false, Option.getD_none]
        | cons x r => simp)
      clear hv hv1 hv2 hC
      simp only [Nd.kids_mk, Nd.kind_mk, Nd.text_mk, Nd.pos_mk, List.length_cons, List.length_nil, Nat.zero_add] at k2 ⊢
      have hbne : b ≠ w3.heap.size := by omega
      have hbne' : b' ≠ w3.heap.size := by omega
      have hGL : w.heap.size ≠ w3.heap.size := by omega
      have hp0 : (0 : Int) < ((rest.length + 1 : Nat) : Int) := by omega
      obtain ⟨d0, d1, d2, d3, e0, e1, e2, e3⟩ := blk4 hG3
      generalize hmm : rest.length + 1 = m at *
      by_cases hb1 : m = 1
      · by_cases hb2 : tt = (⟨#[]⟩ : ByteArray)
        · have t2 : tt.toList.isEmpty = true := by rw [isEmpty_dec]; simp [hb2]
          by_cases hb3 : kn.kind = 10
          · have HF2 := Lib.hid (show res = .ok kn s1 by rw [HF.out, HBB.out, if_pos ⟨hb1, hb2, hb3⟩])
            have t3 : (kn.kind == 10) = true := by simp [hb3]
            have t1 : ((m : Int) == 1) = true := by rw [hb1]; rfl
            clear hb1 hb2 hb3 hmm
            go_wp2_with fail
            refine end_node2 _ _ HF2.out HV2.out hM3 hG3 (Nat.le_refl _) hltR ?_ rfl (by rfl) rfl
            intro b hb
            constructor <;> omega
          · have HF2 := Lib.hid (show res = .ok (.mk nk nt (.mk tk tt [kn] tp :: rest) np) s1 by rw [HF.out, HBB.out, if_neg (fun h => hb3 h.2.2)])
            have t3 : (kn.kind == 10) = false := by simp [hb3]
            have t1 : ((m : Int) == 1) = true := by rw [hb1]; rfl
            have HVV : Hid (NodeV (fun b => w2.heap.size ≤ b) w3 (.agg #[.int .i64 nk, .string nt, .slice (some ⟨b, off, none⟩) m cp, .int .i64 np]) (.mk nk nt (.mk tk tt [kn] tp :: rest) np)) := by
              have := HV.out
              simp only [Nd.kids_mk, Nd.kind_mk, Nd.text_mk, Nd.pos_mk, List.length_cons] at this
              rw [hmm] at this
              exact Lib.hid this
            clear hb1 hb2 hb3 hmm
            go_wp2_with fail
            refine end_node2 _ _ HF2.out HVV.out hM3 hG3 (Nat.le_refl _) hltR ?_ rfl (by rfl) rfl
            intro b hb
            constructor <;> omega
        · have HF2 := Lib.hid (show res = .ok (.mk nk nt (.mk tk tt [kn] tp :: rest) np) s1 by rw [HF.out, HBB.out, if_neg (fun h => hb2 h.2.1)])
          have t2 : tt.toList.isEmpty = false := by rw [isEmpty_dec]; simp [hb2]
          have t1 : ((m : Int) == 1) = true := by rw [hb1]; rfl
          have HVV : Hid (NodeV (fun b => w2.heap.size ≤ b) w3 (.agg #[.int .i64 nk, .string nt, .slice (some ⟨b, off, none⟩) m cp, .int .i64 np]) (.mk nk nt (.mk tk tt [kn] tp :: rest) np)) := by
            have := HV.out
            simp only [Nd.kids_mk, Nd.kind_mk, Nd.text_mk, Nd.pos_mk, List.length_cons] at this
            rw [hmm] at this
            exact Lib.hid this
          clear hb1 hb2 hmm
          go_wp2_with fail
          refine end_node2 _ _ HF2.out HVV.out hM3 hG3 (Nat.le_refl _) hltR ?_ rfl (by rfl) rfl
          intro b hb
          constructor <;> omega
      · have HF2 := Lib.hid (show res = .ok (.mk nk nt (.mk tk tt [kn] tp :: rest) np) s1 by rw [HF.out, HBB.out, if_neg (fun h => hb1 h.1)])
        have t1 : ((m : Int) == 1) = false := by rw [beq_eq_false_iff_ne]; omega
        have HVV : Hid (NodeV (fun b => w2.heap.size ≤ b) w3 (.agg #[.int .i64 nk, .string nt, .slice (some ⟨b, off, none⟩) m cp, .int .i64 np]) (.mk nk nt (.mk tk tt [kn] tp :: rest) np)) := by
          have := HV.out
          simp only [Nd.kids_mk, Nd.kind_mk, Nd.text_mk, Nd.pos_mk, List.length_cons] at this
          rw [hmm] at this
          exact Lib.hid this
        clear hb1 hmm
        go_wp2_with fail
        refine end_node2 _ _ HF2.out HVV.out hM3 hG3 (Nat.le_refl _) hltR ?_ rfl (by rfl) rfl
        intro b hb
        constructor <;> omega
end Go.Proofs.YtnalfjaojcahhaaGreatDoor
namespace Go.Proofs.YtnalfjaojcahhaaGreatDoor

def letterB (c : UInt8) : Bool := c == 95 || ((decide (97 ≤ c) && decide (c ≤ 122)) || (decide (65 ≤ c) && decide (c ≤ 90)))
def figureB (c : UInt8) : Bool := decide (48 ≤ c) && decide (c ≤ 57)
def words1 : List ByteArray := [(⟨#[98, 114, 101, 97, 107]⟩ : ByteArray), (⟨#[99, 111, 110, 116, 105, 110, 117, 101]⟩ : ByteArray), (⟨#[101, 108, 115, 101]⟩ : ByteArray), (⟨#[102, 111, 114]⟩ : ByteArray), (⟨#[102, 117, 110, 99]⟩ : ByteArray), (⟨#[105, 102]⟩ : ByteArray), (⟨#[105, 109, 112, 111, 114, 116]⟩ : ByteArray), (⟨#[105, 110, 116, 101, 114, 102, 97, 99, 101]⟩ : ByteArray), (⟨#[112, 97, 99, 107, 97, 103, 101]⟩ : ByteArray), (⟨#[114, 97, 110, 103, 101]⟩ : ByteArray), (⟨#[114, 101, 116, 117, 114, 110]⟩ : ByteArray), (⟨#[115, 116, 114, 117, 99, 116]⟩ : ByteArray), (⟨#[116, 121, 112, 101]⟩ : ByteArray), (⟨#[118, 97, 114]⟩ : ByteArray)]
def words2 : List ByteArray := [(⟨#[99, 97, 115, 101]⟩ : ByteArray), (⟨#[99, 104, 97, 110]⟩ : ByteArray), (⟨#[99, 111, 110, 115, 116]⟩ : ByteArray), (⟨#[100, 101, 102, 97, 117, 108, 116]⟩ : ByteArray), (⟨#[100, 101, 102, 101, 114]⟩ : ByteArray), (⟨#[102, 97, 108, 108, 116, 104, 114, 111, 117, 103, 104]⟩ : ByteArray), (⟨#[103, 111]⟩ : ByteArray), (⟨#[103, 111, 116, 111]⟩ : ByteArray), (⟨#[109, 97, 112]⟩ : ByteArray), (⟨#[115, 101, 108, 101, 99, 116]⟩ : ByteArray), (⟨#[115, 119, 105, 116, 99, 104]⟩ : ByteArray)]
def wordN (s : ByteArray) : Int := if words1.any (fun x => decide (s = x)) then 1 else if words2.any (fun x => decide (s = x)) then 2 else 0
def nameChars : List UInt8 → Bool
  | [] => true
  | c :: r => letterB c && r.all fun c => letterB c || figureB c
def tokName (s : ByteArray) : Bool := nameChars s.data.toList && (decide (s ≠ (⟨#[]⟩ : ByteArray)) && decide (wordN s = 0))
def nameT (s : ByteArray) : Bool := decide (s.size ≤ 100) && tokName s
def boundT (s : ByteArray) : Bool := nameT s && decide (s ≠ (⟨#[95]⟩ : ByteArray))
def plainT (s : ByteArray) : Bool := s.data.toList.all figureB && (decide (s = (⟨#[48]⟩ : ByteArray)) || (decide (s ≠ (⟨#[]⟩ : ByteArray)) && (decide (s.size ≤ 200) && decide (s.data.toList.head? ≠ some 48))))
def emptyT (n : Nd) : Bool := decide (n.kind = 0) && (decide (n.text = (⟨#[]⟩ : ByteArray)) && decide (n.kids.length = 0))

/-- The questions, one by one. -/
def askAll : List (Nd → Bool) → List Nd → Bool
  | [], [] => true
  | p :: ps, n :: ns => p n && askAll ps ns
  | _, _ => false
def ofT (k : Int) (l : List (Nd → Bool)) (n : Nd) : Bool := decide (n.kind = k) && (decide (n.text = (⟨#[]⟩ : ByteArray)) && askAll l n.kids)
def namedT (so : ByteArray → Bool) (n : Nd) : Nd := if so n.text then .mk n.kind (⟨#[]⟩ : ByteArray) n.kids n.pos else .mk 37 (⟨#[]⟩ : ByteArray) [] 0
def listT (so : Nd → Bool) (n : Nd) : Bool := decide (n.kind = 6) && (decide (n.text = (⟨#[]⟩ : ByteArray)) && n.kids.all so)
def orT (a b : Nd → Bool) (n : Nd) : Bool := a n || b n

/-- What is asked of nodes of less depth. -/
structure TFns where
  typ : Nd → Bool
  expr : Nd → Bool
  block : Nd → Bool
  stmt : Nd → Bool
  ifS : Nd → Bool
section
variable (F : TFns)
def paramT (so : ByteArray → Bool) (p : Nd) : Bool := ofT 8 [F.typ] (namedT so p)
def sigT (so : ByteArray → Bool) (n : Nd) : Bool := ofT 12 [listT (paramT F so), orT emptyT F.typ] n
def isSigT (n : Nd) : Bool := sigT F nameT n
def noText (s : ByteArray) : Bool := decide (s = (⟨#[]⟩ : ByteArray))
def typT (n : Nd) : Bool :=
  if n.kind = 10 then nameT n.text && n.kids.all F.typ
  else if n.kind = 11 then ofT 11 [F.typ] n
  else if n.kind = 12 then sigT F noText n
  else false
def tildeT (s : ByteArray) : Bool := decide (s = (⟨#[]⟩ : ByteArray)) || decide (s = (⟨#[126]⟩ : ByteArray))
def termT (t : Nd) : Bool := ofT 15 [F.typ] (namedT tildeT t)
def interT (n : Nd) : Bool := decide (n.kind = 14) && (decide (n.text = (⟨#[]⟩ : ByteArray)) && (decide (0 < n.kids.length) && n.kids.all (termT F)))
def fieldT (f : Nd) : Bool := ofT 9 [F.typ] (namedT nameT f)
def structT (n : Nd) : Bool := decide (n.kind = 13) && (decide (n.text = (⟨#[]⟩ : ByteArray)) && n.kids.all (fieldT F))
def named1T (c : Nd) : Bool := decide (c.kind = 10) && F.typ c
def tparamT (p : Nd) : Bool := ofT 7 [orT (named1T F) (interT F)] (namedT nameT p)
def paramsT (n : Nd) : Bool := listT (tparamT F) n
def varT (n : Nd) : Bool := ofT 5 [orT emptyT F.typ, orT emptyT F.expr] (namedT nameT n) && (!(emptyT (n.kids.getD 0 nd0)) || !(emptyT (n.kids.getD 1 nd0)))
def declT (n : Nd) : Bool :=
  if n.kind = 2 then ofT 2 [paramsT F, isSigT F, F.block] (namedT nameT n)
  else if n.kind = 3 then ofT 3 [paramsT F, orT (orT F.typ (structT F)) (interT F)] (namedT nameT n)
  else if n.kind = 4 then ofT 4 [paramsT F, F.typ] (namedT nameT n)
  else varT F n
def signText : List UInt8 := ((⟨#[43, 32, 45, 32, 42, 32, 47, 32, 37, 32, 61, 61, 32, 33, 61, 32, 60, 32, 60, 61, 32, 62, 32, 62, 61, 32, 38, 38, 32, 124, 124, 32]⟩ : ByteArray).data.toList)
def binaryT (s : ByteArray) : Bool := decide (s ≠ (⟨#[]⟩ : ByteArray)) && (!(Lib.contains s.data.toList [32]) && Lib.contains (32 :: signText) (32 :: (s.data.toList ++ [32])))
def unaryT (s : ByteArray) : Bool := decide (s = (⟨#[45]⟩ : ByteArray)) || decide (s = (⟨#[33]⟩ : ByteArray))
def shortStr (s : ByteArray) : Bool := decide (s.size ≤ 1000)
def partT (k : Nd) : Bool := F.expr k || (decide (k.kind ≠ 10) && F.typ k)
def exprT (n : Nd) : Bool :=
  if n.kind = 16 then ofT 16 [] (namedT plainT n)
  else if n.kind = 17 then ofT 17 [] (namedT shortStr n)
  else if n.kind = 18 then ofT 18 [] (namedT nameT n)
  else if n.kind = 19 then ofT 19 [F.expr] (namedT unaryT n)
  else if n.kind = 20 then ofT 20 [F.expr, F.expr] (namedT binaryT n)
  else if n.kind = 21 then decide (n.text = (⟨#[]⟩ : ByteArray)) && (decide (0 < n.kids.length) && n.kids.all F.expr)
  else if n.kind = 22 then decide (n.text = (⟨#[]⟩ : ByteArray)) && (decide (1 < n.kids.length) && (F.expr (n.kids.getD 0 nd0) && (n.kids.drop 1).all (partT F)))
  else if n.kind = 23 then ofT 23 [F.expr] (namedT nameT n)
  else if n.kind = 24 then decide (n.text = (⟨#[]⟩ : ByteArray)) && (decide (0 < n.kids.length) && (decide ((n.kids.getD 0 nd0).kind ≠ 12) && (F.typ (n.kids.getD 0 nd0) && (n.kids.drop 1).all F.expr)))
  else ofT 25 [isSigT F, F.block] n
def cutT (s : ByteArray) : List UInt8 × List UInt8 × Bool := Lib.cut s.data.toList [44]
def rangedT (s : ByteArray) : Bool :=
  decide (s = (⟨#[]⟩ : ByteArray)) || (((cutT s).2.2 && (nameT ⟨(cutT s).1.toArray⟩ && boundT ⟨(cutT s).2.1.toArray⟩)) || (!(cutT s).2.2 && boundT ⟨(cutT s).1.toArray⟩))
def stepT (s : ByteArray) : Bool := decide (s = (⟨#[43, 43]⟩ : ByteArray)) || decide (s = (⟨#[45, 45]⟩ : ByteArray))
def incT (n : Nd) : Bool := ofT 28 [F.expr] (namedT stepT n)
def setT (n : Nd) : Bool := ofT 27 [F.expr, F.expr] n
def callX (x : Nd) : Bool := decide (x.kind = 21) && F.expr x
def callT (n : Nd) : Bool := ofT 29 [callX F] n
def shortT (n : Nd) : Bool := ofT 26 [F.expr] (namedT boundT n)
def blockT (n : Nd) : Bool := decide (n.kind = 36) && (decide (n.text = (⟨#[]⟩ : ByteArray)) && n.kids.all F.stmt)
def ifT (n : Nd) : Bool := ofT 30 [F.expr, F.block, orT (orT emptyT F.block) F.ifS] n
def stmtT (n : Nd) : Bool :=
  if n.kind = 5 then varT F n
  else if n.kind = 26 then shortT F n
  else if n.kind = 27 then setT F n
  else if n.kind = 28 then incT F n
  else if n.kind = 29 then callT F n
  else if n.kind = 30 then ifT F n
  else if n.kind = 31 then ofT 31 [orT (orT emptyT (shortT F)) (orT (setT F) (incT F)), orT emptyT F.expr, orT (orT emptyT (setT F)) (orT (incT F) (callT F)), F.block] n
  else if n.kind = 32 then ofT 32 [F.expr, F.block] (namedT rangedT n)
  else if n.kind = 33 then ofT 33 [orT emptyT F.expr] n
  else if n.kind = 34 ∨ n.kind = 35 then ofT n.kind [] n
  else blockT F n
def fileT (n : Nd) : Bool := decide (n.kind = 1) && (nameT n.text && n.kids.all (declT F))
end
/-- The questions, at nodes of so much depth. -/
def tfns : Nat → TFns
  | 0 => ⟨fun _ => false, fun _ => false, fun _ => false, fun _ => false, fun _ => false⟩
  | g + 1 => ⟨typT (tfns g), exprT (tfns g), blockT (tfns g), stmtT (tfns g), ifT (tfns g)⟩

/-- No more than so much depth; no row of kids and no text is too long. -/
def DLe : Nat → Nd → Prop
  | 0, _ => False
  | g + 1, n => (n.kids.length ≤ 1000000000 ∧ n.text.size ≤ 1000000000) ∧ ∀ k ∈ n.kids, DLe g k
theorem DLe.succ : ∀ {g : Nat} {n : Nd}, DLe g n → DLe (g + 1) n
  | 0, _, h => h.elim
  | _ + 1, _, h => ⟨h.1, fun k hk => DLe.succ (h.2 k hk)⟩
theorem DLe.kid {g : Nat} {n k : Nd} (h : DLe (g + 1) n) (hk : k ∈ n.kids) : DLe g k := h.2 k hk
theorem DLe.len {g : Nat} {n : Nd} (h : DLe g n) : n.kids.length ≤ 1000000000 := by
  cases g with
  | zero => exact h.elim
  | succ g => exact h.1.1
theorem DLe.txt {g : Nat} {n : Nd} (h : DLe g n) : n.text.size ≤ 1000000000 := by
  cases g with
  | zero => exact h.elim
  | succ g => exact h.1.2
theorem DLe.named {g : Nat} {n : Nd} {so : ByteArray → Bool} (h : DLe g n) : DLe g (namedT so n) := by
  cases g with
  | zero => exact h.elim
  | succ g =>
    unfold namedT
    split
    · exact ⟨⟨h.1.1, by simp [ByteArray.size]⟩, h.2⟩
    · exact ⟨⟨by simp, by simp [ByteArray.size]⟩, fun k hk => by simp at hk⟩
/-- No row of kids and no text is too long, to a depth. -/
def Wee : Nat → Nd → Prop
  | 0, _ => True
  | g + 1, n => (n.kids.length ≤ 1000000000 ∧ n.text.size ≤ 1000000000) ∧ ∀ k ∈ n.kids, Wee g k

/-- A node and all in it, to a depth: how much depth is left at each. -/
def lefts : Nat → Nd → List Nat
  | 0, _ => []
  | l + 1, n => (l + 1) :: n.kids.flatMap (lefts l)
def sizeT (l : Nat) (n : Nd) : Nat := (lefts l n).length
def depthT (n : Nd) : Nat := (lefts 101 n).foldl (fun d l => max d (102 - l)) 0
theorem foldl_max_ge (l : List Nat) : ∀ d, d ≤ l.foldl (fun d l => max d (102 - l)) d := by
  induction l with
  | nil => exact fun d => Nat.le_refl _
  | cons x l ih => exact fun d => Nat.le_trans (Nat.le_max_left _ _) (ih _)
theorem foldl_max_iff (l : List Nat) : ∀ d m, l.foldl (fun d l => max d (102 - l)) d ≤ m ↔ d ≤ m ∧ ∀ x ∈ l, 102 - x ≤ m := by
  induction l with
  | nil => intro d m; simp
  | cons x l ih =>
    intro d m
    rw [List.foldl_cons, ih, Nat.max_le]
    constructor
    · rintro ⟨⟨h1, h2⟩, h3⟩
      refine ⟨h1, fun y hy => ?_⟩
      rcases List.mem_cons.1 hy with rfl | hy
      · exact h2
      · exact h3 y hy
    · rintro ⟨h1, h2⟩
      exact ⟨⟨h1, h2 x List.mem_cons_self⟩, fun y hy => h2 y (List.mem_cons_of_mem _ hy)⟩
theorem lefts_dle : ∀ (g : Nat) (n : Nd), Wee g n → (∀ x ∈ lefts (g + 1) n, 2 ≤ x) → DLe g n
  | 0, n, _, h => by
    have := h 1 (by simp [lefts])
    omega
  | g + 1, _, hw, h => ⟨hw.1, fun k hk => lefts_dle g k (hw.2 k hk) fun x hx => h x (by
      rw [lefts]
      exact List.mem_cons_of_mem _ (List.mem_flatMap.2 ⟨k, hk, hx⟩))⟩
theorem dle_of_depth {n : Nd} (hw : Wee 100 n) (h : depthT n ≤ 100) : DLe 100 n := by
  refine lefts_dle 100 n hw fun x hx => ?_
  have := ((foldl_max_iff _ _ _).1 h).2 x hx
  omega
def rightFile (n : Nd) : Bool := decide (depthT n ≤ 100) && (decide (sizeT 100 n ≤ 65536) && fileT (tfns 100) n)
end Go.Proofs.YtnalfjaojcahhaaGreatDoor
namespace Go.Proofs.YtnalfjaojcahhaaGreatDoor
open Go.RowKit Go.Lib Go.Proofs

/-- A node as a value, wherever it lies. -/
abbrev NodeW (w : World) (v : Value) (n : Nd) : Prop := NodeV (fun _ => True) w v n
theorem NodeV.wide {X : Nat → Prop} {w : World} {v : Value} {n : Nd} (h : NodeV X w v n) : NodeW w v n := h.mono fun _ _ _ => trivial
theorem NodeV.below {X : Nat → Prop} {w w' : World} {v : Value} {n : Nd} (h : NodeV X w v n) (hb : Below w.heap.size w w') : NodeV X w' v n := h.keep fun b _ hlt => hb.block b hlt
theorem NodesV.below {X : Nat → Prop} {w w' : World} {v : Value} {l : List Nd} (h : NodesV X w v l) (hb : Below w.heap.size w w') : NodesV X w' v l := by
  obtain ⟨A, cap, xs, e, h1, h2, h3⟩ := h
  exact ⟨A, cap, xs, e, h1, h2.keep fun b _ hlt => hb.block b hlt, h3.keep fun b _ hlt => hb.block b hlt⟩
abbrev NodesW (w : World) (v : Value) (l : List Nd) : Prop := NodesV (fun _ => True) w v l

theorem beq_dec (a b : Int) : (a == b) = decide (a = b) := by rw [Bool.eq_iff_iff]; simp
/-- What the library's variables hold. -/
def Tab (w : World) : Prop := ∃ m : Int, w.cell? ⟨0, 0, none⟩ = some (.int .i64 m)
theorem Tab.below {w w' : World} (h : Tab w) (hb : Below w.heap.size w w') : Tab w' := by
  obtain ⟨m, h⟩ := h
  exact ⟨m, (hb.cell (World.block_lt_of_cell? w _ h)).trans h⟩

/-- A function value. -/
structure Fv where
  k : FuncId
  cap : Array Value
def Fv.val (f : Fv) : Value := .func (.func f.k) #[] f.cap

/-- It answers a question on nodes of no more than so much depth. -/
structure SoC (d : Nat) (P : Nd → Bool) (f : Fv) (w0 : World) : Prop where
  enter : ∀ a w, (callFunc f.k a).run Tryz.prog w = .ok (.enter f.k a) w
  out : ∀ (w : World) (v : Value) (n : Nd), Below w0.heap.size w0 w → NodeW w v n → DLe d n → Calls Tryz.prog f.k (#[v] ++ f.cap) w fun e w' => e = .returned (.bool (P n)) ∧ Below w.heap.size w w'
theorem SoC.below {d : Nat} {P : Nd → Bool} {f : Fv} {w0 w1 : World} (h : SoC d P f w0) (hb : Below w0.heap.size w0 w1) : SoC d P f w1 :=
  ⟨h.enter, fun w v n hw => h.out w v n (hb.trans (hw.mono hb.size))⟩
/-- It answers a question on texts. -/
structure SoS (P : ByteArray → Bool) (f : Fv) (w0 : World) : Prop where
  enter : ∀ a w, (callFunc f.k a).run Tryz.prog w = .ok (.enter f.k a) w
  out : ∀ (w : World) (s : ByteArray), Below w0.heap.size w0 w → s.size ≤ 1000000000 → Calls Tryz.prog f.k (#[.string s] ++ f.cap) w fun e w' => e = .returned (.bool (P s)) ∧ Below w.heap.size w w'
theorem SoS.below {P : ByteArray → Bool} {f : Fv} {w0 w1 : World} (h : SoS P f w0) (hb : Below w0.heap.size w0 w1) : SoS P f w1 :=
  ⟨h.enter, fun w s hw => h.out w s (hb.trans (hw.mono hb.size))⟩
/-- A function of the program that answers a question on nodes. -/
def AskC (d : Nat) (P : Nd → Bool) (f : FuncId) : Prop :=
  ∀ (w : World) (v : Value) (n : Nd), Tab w → NodeW w v n → DLe d n → Calls Tryz.prog f #[v] w fun e w' => e = .returned (.bool (P n)) ∧ Below w.heap.size w w'
theorem AskC.so {d : Nat} {P : Nd → Bool} {f : FuncId} (h : AskC d P f) (he : ∀ a w, (callFunc f a).run Tryz.prog w = .ok (.enter f a) w) (w0 : World) (hT : Tab w0) : SoC d P ⟨f, #[]⟩ w0 :=
  ⟨he, fun w v n hb hv hd => h w v n (hT.below hb) hv hd⟩
theorem AskC.le {d d' : Nat} {P : Nd → Bool} {f : FuncId} (h : AskC d P f) (hd : ∀ n, DLe d' n → DLe d n) : AskC d' P f := fun w v n hT hv hn => h w v n hT hv (hd n hn)
end Go.Proofs.YtnalfjaojcahhaaGreatDoor
