/-
  gate.here: what a node and all in it need. By an AI agent.
  In a right file's tree the kids that gate asks for are there. By an AI agent.
  DERIVED: THE SHELF's CONTRACTS AT THIS DUMP, IN PLAIN WORDS (tools/lay-plain.mjs out of 'TryzShelf.lean', which tools/lay-shelf.mjs wrote): THE SAME DECLARATIONS UNDER THE SAME NAMES: 'import', 'namespace', 'open', 'def', 'theorem' AND NOTHING ELSE: no command of the shelf's: FOR A HAND-IN. Each laying: the table of numbers ('.._ren') and one theorem, a field a fact of the dump's own or the kernel's comparison; each contract: ONE APPLICATION.
-/
import Derived.Test.YtnalfjaojcahhaaGreatDoorJ19
import Derived.Test.YtnalfjaojcahhaaGreatDoorJ20
import Derived.Test.YtnalfjaojcahhaaGreatDoorJ15
import Derived.Test.YtnalfjaojcahhaaGreatDoorProg
import Derived.Deep.CutBlock
import Derived.Shelf.SlGeneric
import Derived.Ground.NamesProg
import Derived.Ground.SlsfProg
import Derived.Ground.SlgfProg
import Derived.Shelf.SlSortCmp.NoneTotal
namespace Go.Proofs.YtnalfjaojcahhaaGreatDoor
open Go.RowKit Go.Lib Go.Proofs
attribute [local go_sem ↓] Go.wp_at_zero Go.wp_at_succ

def PostU (w : World) (l : Us) (e : Ending) (w' : World) : Prop := (∃ v, e = .returned v ∧ OwnU w.heap.size w' v l) ∧ Below w.heap.size w w'

/-- A kid's cells, where they lie. -/
structure KidAt (w : World) (b off : Nat) (z : Nd) (A1 : Option Addr) (c1 : Nat) : Prop where
  lt : b < w.heap.size
  c0 : w.cell? ⟨b, off, none⟩ = some (.int .i64 z.kind)
  c2 : w.cell? ⟨b, off + 2, none⟩ = some (.slice A1 z.kids.length c1)
  c3 : w.cell? ⟨b, off + 3, none⟩ = some (.int .i64 z.pos)
  nv : NodeW w (.agg #[.int .i64 z.kind, .string z.text, .slice A1 z.kids.length c1, .int .i64 z.pos]) z
theorem KidAt.below {w w' : World} {b off : Nat} {z : Nd} {A1 : Option Addr} {c1 : Nat} (h : KidAt w b off z A1 c1) (hb : Below w.heap.size w w') : KidAt w' b off z A1 c1 :=
  have e := hb.block b h.lt
  ⟨Nat.lt_of_lt_of_le h.lt hb.size, (World.cell?_of_block (a := ⟨b, off, none⟩) e).trans h.c0, (World.cell?_of_block (a := ⟨b, off + 2, none⟩) e).trans h.c2, (World.cell?_of_block (a := ⟨b, off + 3, none⟩) e).trans h.c3, h.nv.below hb⟩
theorem NodeV.kid0 {w : World} {k t a : Value} {A : Option Addr} {m c : Nat} {nk : Int} {nt : ByteArray} {z : Nd} {zs : List Nd} {np : Int} (h : NodeW w (.agg #[k, t, .slice A m c, a]) (.mk nk nt (z :: zs) np)) :
    ∃ b off A1 c1, A = some ⟨b, off, none⟩ ∧ KidAt w b off z A1 c1 := by
  obtain ⟨b, off, A1, c1, e, _, hl, k0, k1, k2, k3, hv⟩ := (NodeV.kidsV h).kid 0 (by simp)
  simp only [Nd.kids_mk, List.getElem_cons_zero, Nat.zero_mul, Nat.add_zero] at k0 k2 k3 hv
  exact ⟨b, off, A1, c1, e, hl, k0, k2, k3, hv⟩
theorem NodeV.kid1 {w : World} {k t a : Value} {b off : Nat} {m c : Nat} {nk : Int} {nt : ByteArray} {z z1 : Nd} {zs : List Nd} {np : Int} (h : NodeW w (.agg #[k, t, .slice (some ⟨b, off, none⟩) m c, a]) (.mk nk nt (z :: z1 :: zs) np)) :
    ∃ A1 c1, KidAt w b (off + 4) z1 A1 c1 := by
  obtain ⟨b', off', A1, c1, e, _, hl, k0, k1, k2, k3, hv⟩ := (NodeV.kidsV h).kid 1 (by simp)
  injection e with e
  injection e with e1 e2
  subst e1 e2
  simp only [Nd.kids_mk, List.getElem_cons_succ, List.getElem_cons_zero, Nat.one_mul] at k0 k2 k3 hv
  exact ⟨A1, c1, hl, k0, k2, k3, hv⟩

set_option maxRecDepth 100000 in
set_option maxHeartbeats 8000000 in
set_option linter.unusedSimpArgs false in
theorem here_any : ∀ (g : Nat) (v : Value) (n : Nd) (w : World), NodeW w v n → DLe g n → Need g n → (lefts g n).length ≤ 400000 → Calls Tryz.prog 24 #[v] w (PostU w (hereT g n)) := by
  intro g
  induction g with
  | zero => exact fun _ _ _ _ h => h.elim
  | succ g ih =>
    intro v n w hv hd hnd hN
    have HV := Lib.hid hv
    have HD := Lib.hid hd
    have HND := Lib.hid hnd
    have HI := Lib.hid ih
    have HN := Lib.hid hN
    have hlk := hd.1.1
    obtain ⟨A, cp, rfl, hC⟩ := hv.toC
    clear hv hC hd hnd ih hN
    have hB := (Below.refl w.heap.size w).alloc (Nat.le_refl _) (.cells #[.int .i64 n.kind, .string n.text, .slice A n.kids.length cp, .int .i64 n.pos] 24)
    have b1 : Blk (w.alloc (.cells #[.int .i64 n.kind, .string n.text, .slice A n.kids.length cp, .int .i64 n.pos] 24)) w.heap.size 24 #[.int .i64 n.kind, .string n.text, .slice A n.kids.length cp, .int .i64 n.pos] := Blk.new w _ _
    have HV1 := Lib.hid (HV.out.below hB)
    go_enter Tryz.func24, Tryz.ntmps24
    go_upto_block 0 with fail
    go_cut [3] (fun s3 wx => OwnU (w.heap.size + 1) wx s3 (hereN n) ∧ Below w.heap.size w wx ∧ Blk wx w.heap.size 24 #[.int .i64 n.kind, .string n.text, .slice A n.kids.length cp, .int .i64 n.pos])
    case first =>
      clear HI HN HD hlk
      obtain ⟨nk, nt, nl, np⟩ := n
      simp only [Nd.kids_mk, Nd.kind_mk, Nd.text_mk, Nd.pos_mk] at *
      by_cases h2 : nk = 2
      · subst h2
        rcases nl with _ | ⟨⟨zk, zt, zl, zp⟩, zs⟩
        · exact absurd (HND.out.1.1 (.inl rfl)) (by simp)
        obtain ⟨b, off, A1, c1, rfl, hK0⟩ := HV.out.kid0
        have hq0 : (0 : Int) < ((zs.length + 1 : Nat) : Int) := by omega
        simp only [List.length_cons] at *
        rcases zl with _ | ⟨⟨yk, yt, yl, yp⟩, ys⟩
        · have hK0 := hK0.below hB
          have HR : Go.RowKit.Hid (hereN (.mk 2 nt (.mk zk zt [] zp :: zs) np) = []) := Lib.hid (by simp [hereN, headU, interU, nd0])
          generalize hereN (.mk 2 nt (.mk zk zt [] zp :: zs) np) = R at *
          obtain ⟨-, k0, k2, k3, -⟩ := hK0
          simp only [List.length_cons, List.length_nil, Nd.kind_mk, Nd.kids_mk, Nd.pos_mk] at k0 k2 k3
          generalize zs.length + 1 = q at *
          go_wp2_with fail
          go_meet
          case rel => rw [HR.out]; exact ⟨(OwnU.nil _ _), hB, b1⟩
        · obtain ⟨bk, off1, A3, c3, rfl, hK3⟩ := hK0.nv.kid0
          have hK3 := hK3.below hB
          have hp0 : (0 : Int) < ((ys.length + 1 : Nat) : Int) := by omega
          have hp1 : 0 < ys.length + 1 := by omega
          have hK0 := hK0.below hB
          have HR : Go.RowKit.Hid (hereN (.mk 2 nt (.mk zk zt (.mk yk yt yl yp :: ys) zp :: zs) np) = [(18, yp)]) := Lib.hid (by simp [hereN, headU, interU, nd0])
          generalize hereN (.mk 2 nt (.mk zk zt (.mk yk yt yl yp :: ys) zp :: zs) np) = R at *
          obtain ⟨-, k0, k2, k3, -⟩ := hK0
          obtain ⟨-, -, -, y3, -⟩ := hK3
          simp only [List.length_cons, List.length_nil, Nd.kind_mk, Nd.kids_mk, Nd.pos_mk] at k0 k2 k3 y3
          generalize ys.length + 1 = qy at *
          generalize zs.length + 1 = q at *
          go_wp2_with (first | (at_builtin; refine wpList_pushU rfl (.tmp 21) (.tmp 27) rfl (w.heap.size + 1) _ _ [] 18 yp rfl _ rfl (by simp) (OwnU.nil _ _) (by simp) (by simp) ?_; intro g1 q1 w1 hO1 hB1; have hBB1 := hB.trans (hB1.mono (Nat.le_succ _)); have bb1 := b1.below hB1 (Nat.lt_succ_self _); have HOO1 := Lib.hid hO1; have hs1 := Nat.le_trans (show w.heap.size + 1 ≤ _ by simp) hB1.size; obtain ⟨x0, x1, x2, x3, -, -, -, -⟩ := blk4 bb1; clear hO1 hB1))
          go_meet
          case rel => rw [HR.out]; exact ⟨HOO1.out, hBB1, bb1⟩
      · by_cases h3 : nk = 3
        · subst h3
          rcases nl with _ | ⟨⟨zk, zt, zl, zp⟩, zs⟩
          · exact absurd (HND.out.1.2 (.inl rfl)) (by simp)
          rcases zs with _ | ⟨⟨zk2, zt2, zl2, zp2⟩, zs⟩
          · exact absurd (HND.out.1.2 (.inl rfl)) (by simp)
          obtain ⟨b, off, A1, c1, rfl, hK0⟩ := HV.out.kid0
          obtain ⟨A2, c2, hK2⟩ := HV.out.kid1
          have hq1 : (1 : Int) < ((zs.length + 1 + 1 : Nat) : Int) := by omega
          have hq0 : (0 : Int) < ((zs.length + 1 + 1 : Nat) : Int) := by omega
          simp only [List.length_cons] at *
          rcases zl with _ | ⟨⟨yk, yt, yl, yp⟩, ys⟩
          · have hK0 := hK0.below hB
            by_cases hi : zk2 = 14
            · have HR : Go.RowKit.Hid (hereN (.mk 3 nt (.mk zk zt [] zp :: .mk zk2 zt2 zl2 zp2 :: zs) np) = [(18, zp2)]) := Lib.hid (by simp [hereN, headU, interU, nd0, hi])
              generalize hereN (.mk 3 nt (.mk zk zt [] zp :: .mk zk2 zt2 zl2 zp2 :: zs) np) = R at *
              subst hi
              obtain ⟨-, k0, k2, k3, -⟩ := hK0
              have hK2w := hK2.below hB
              obtain ⟨-, j0, j2, j3, -⟩ := hK2w
              simp only [List.length_cons, List.length_nil, Nd.kind_mk, Nd.kids_mk, Nd.pos_mk] at k0 k2 k3 j0 j2 j3
              generalize zs.length + 1 + 1 = q at *
              go_wp2_with (first | (at_builtin; refine wpList_pushU rfl (.tmp 49) (.tmp 56) rfl (w.heap.size + 1) _ _ [] 18 zp2 rfl _ rfl (by simp) (OwnU.nil _ _) (by simp) (by simp) ?_; intro g1 q1 w1 hO1 hB1; have hBB1 := hB.trans (hB1.mono (Nat.le_succ _)); have bb1 := b1.below hB1 (Nat.lt_succ_self _); have HOO1 := Lib.hid hO1; have hs1 := Nat.le_trans (show w.heap.size + 1 ≤ _ by simp) hB1.size; obtain ⟨x0, x1, x2, x3, -, -, -, -⟩ := blk4 bb1; obtain ⟨-, j0, j2, j3, -⟩ := hK2.below hBB1; simp only [Nd.kind_mk, Nd.kids_mk, Nd.pos_mk] at j0 j2 j3; clear hO1 hB1))
              go_meet
              case rel => rw [HR.out]; exact ⟨HOO1.out, hBB1, bb1⟩
            · have HR : Go.RowKit.Hid (hereN (.mk 3 nt (.mk zk zt [] zp :: .mk zk2 zt2 zl2 zp2 :: zs) np) = []) := Lib.hid (by simp [hereN, headU, interU, nd0, hi])
              generalize hereN (.mk 3 nt (.mk zk zt [] zp :: .mk zk2 zt2 zl2 zp2 :: zs) np) = R at *
              have hi1 : (zk2 == 14) = false := by simp [hi]
              clear hi
              obtain ⟨-, k0, k2, k3, -⟩ := hK0
              have hK2w := hK2.below hB
              obtain ⟨-, j0, j2, j3, -⟩ := hK2w
              simp only [List.length_cons, List.length_nil, Nd.kind_mk, Nd.kids_mk, Nd.pos_mk] at k0 k2 k3 j0 j2 j3
              generalize zs.length + 1 + 1 = q at *
              go_wp2_with fail
              go_meet
              case rel => rw [HR.out]; exact ⟨(OwnU.nil _ _), hB, b1⟩
          · obtain ⟨bk, off1, A3, c3, rfl, hK3⟩ := hK0.nv.kid0
            have hK3 := hK3.below hB
            have hp0 : (0 : Int) < ((ys.length + 1 : Nat) : Int) := by omega
            have hp1 : 0 < ys.length + 1 := by omega
            have hK0 := hK0.below hB
            by_cases hi : zk2 = 14
            · have HR : Go.RowKit.Hid (hereN (.mk 3 nt (.mk zk zt (.mk yk yt yl yp :: ys) zp :: .mk zk2 zt2 zl2 zp2 :: zs) np) = [(18, yp), (18, zp2)]) := Lib.hid (by simp [hereN, headU, interU, nd0, hi])
              generalize hereN (.mk 3 nt (.mk zk zt (.mk yk yt yl yp :: ys) zp :: .mk zk2 zt2 zl2 zp2 :: zs) np) = R at *
              subst hi
              obtain ⟨-, k0, k2, k3, -⟩ := hK0
              obtain ⟨-, -, -, y3, -⟩ := hK3
              have hK2w := hK2.below hB
              obtain ⟨-, j0, j2, j3, -⟩ := hK2w
              simp only [List.length_cons, List.length_nil, Nd.kind_mk, Nd.kids_mk, Nd.pos_mk] at k0 k2 k3 y3 j0 j2 j3
              generalize ys.length + 1 = qy at *
              generalize zs.length + 1 + 1 = q at *
              go_wp2_with (first | (at_builtin; refine wpList_pushU rfl (.tmp 21) (.tmp 27) rfl (w.heap.size + 1) _ _ [] 18 yp rfl _ rfl (by simp) (OwnU.nil _ _) (by simp) (by simp) ?_; intro g1 q1 w1 hO1 hB1; have hBB1 := hB.trans (hB1.mono (Nat.le_succ _)); have bb1 := b1.below hB1 (Nat.lt_succ_self _); have HOO1 := Lib.hid hO1; have hs1 := Nat.le_trans (show w.heap.size + 1 ≤ _ by simp) hB1.size; obtain ⟨x0, x1, x2, x3, -, -, -, -⟩ := blk4 bb1; obtain ⟨-, j0, j2, j3, -⟩ := hK2.below hBB1; simp only [Nd.kind_mk, Nd.kids_mk, Nd.pos_mk] at j0 j2 j3; clear hO1 hB1) | (at_builtin; refine wpList_pushU rfl (.tmp 49) (.tmp 56) rfl (w.heap.size + 1) _ _ [(18, yp)] 18 zp2 rfl _ rfl (by simp) HOO1.out hs1 (by simp) ?_; intro g2 q2 w2 hO2 hB2; have hBB2 := hBB1.trans (hB2.mono (Nat.le_succ _)); have bb2 := bb1.below hB2 (Nat.lt_succ_self _); have HOO2 := Lib.hid hO2; have hs2 := Nat.le_trans hs1 hB2.size; obtain ⟨x0, x1, x2, x3, -, -, -, -⟩ := blk4 bb2; obtain ⟨-, j0, j2, j3, -⟩ := hK2.below hBB2; simp only [Nd.kind_mk, Nd.kids_mk, Nd.pos_mk] at j0 j2 j3; clear hO2 hB2))
              go_meet
              case rel => rw [HR.out]; exact ⟨HOO2.out, hBB2, bb2⟩
            · have HR : Go.RowKit.Hid (hereN (.mk 3 nt (.mk zk zt (.mk yk yt yl yp :: ys) zp :: .mk zk2 zt2 zl2 zp2 :: zs) np) = [(18, yp)]) := Lib.hid (by simp [hereN, headU, interU, nd0, hi])
              generalize hereN (.mk 3 nt (.mk zk zt (.mk yk yt yl yp :: ys) zp :: .mk zk2 zt2 zl2 zp2 :: zs) np) = R at *
              have hi1 : (zk2 == 14) = false := by simp [hi]
              clear hi
              obtain ⟨-, k0, k2, k3, -⟩ := hK0
              obtain ⟨-, -, -, y3, -⟩ := hK3
              have hK2w := hK2.below hB
              obtain ⟨-, j0, j2, j3, -⟩ := hK2w
              simp only [List.length_cons, List.length_nil, Nd.kind_mk, Nd.kids_mk, Nd.pos_mk] at k0 k2 k3 y3 j0 j2 j3
              generalize ys.length + 1 = qy at *
              generalize zs.length + 1 + 1 = q at *
              go_wp2_with (first | (at_builtin; refine wpList_pushU rfl (.tmp 21) (.tmp 27) rfl (w.heap.size + 1) _ _ [] 18 yp rfl _ rfl (by simp) (OwnU.nil _ _) (by simp) (by simp) ?_; intro g1 q1 w1 hO1 hB1; have hBB1 := hB.trans (hB1.mono (Nat.le_succ _)); have bb1 := b1.below hB1 (Nat.lt_succ_self _); have HOO1 := Lib.hid hO1; have hs1 := Nat.le_trans (show w.heap.size + 1 ≤ _ by simp) hB1.size; obtain ⟨x0, x1, x2, x3, -, -, -, -⟩ := blk4 bb1; obtain ⟨-, j0, j2, j3, -⟩ := hK2.below hBB1; simp only [Nd.kind_mk, Nd.kids_mk, Nd.pos_mk] at j0 j2 j3; clear hO1 hB1))
              go_meet
              case rel => rw [HR.out]; exact ⟨HOO1.out, hBB1, bb1⟩
        · by_cases h4 : nk = 4
          · subst h4
            rcases nl with _ | ⟨⟨zk, zt, zl, zp⟩, zs⟩
            · exact absurd (HND.out.1.1 (.inr rfl)) (by simp)
            obtain ⟨b, off, A1, c1, rfl, hK0⟩ := HV.out.kid0
            have hq0 : (0 : Int) < ((zs.length + 1 : Nat) : Int) := by omega
            simp only [List.length_cons] at *
            rcases zl with _ | ⟨⟨yk, yt, yl, yp⟩, ys⟩
            · have hK0 := hK0.below hB
              have HR : Go.RowKit.Hid (hereN (.mk 4 nt (.mk zk zt [] zp :: zs) np) = []) := Lib.hid (by simp [hereN, headU, interU, nd0])
              generalize hereN (.mk 4 nt (.mk zk zt [] zp :: zs) np) = R at *
              obtain ⟨-, k0, k2, k3, -⟩ := hK0
              simp only [List.length_cons, List.length_nil, Nd.kind_mk, Nd.kids_mk, Nd.pos_mk] at k0 k2 k3
              generalize zs.length + 1 = q at *
              go_wp2_with fail
              go_meet
              case rel => rw [HR.out]; exact ⟨(OwnU.nil _ _), hB, b1⟩
            · obtain ⟨bk, off1, A3, c3, rfl, hK3⟩ := hK0.nv.kid0
              have hK3 := hK3.below hB
              have hp0 : (0 : Int) < ((ys.length + 1 : Nat) : Int) := by omega
              have hp1 : 0 < ys.length + 1 := by omega
              have hK0 := hK0.below hB
              have HR : Go.RowKit.Hid (hereN (.mk 4 nt (.mk zk zt (.mk yk yt yl yp :: ys) zp :: zs) np) = [(18, yp), (24, np)]) := Lib.hid (by simp [hereN, headU, interU, nd0])
              generalize hereN (.mk 4 nt (.mk zk zt (.mk yk yt yl yp :: ys) zp :: zs) np) = R at *
              obtain ⟨-, k0, k2, k3, -⟩ := hK0
              obtain ⟨-, -, -, y3, -⟩ := hK3
              simp only [List.length_cons, List.length_nil, Nd.kind_mk, Nd.kids_mk, Nd.pos_mk] at k0 k2 k3 y3
              generalize ys.length + 1 = qy at *
              generalize zs.length + 1 = q at *
              go_wp2_with (first | (at_builtin; refine wpList_pushU rfl (.tmp 21) (.tmp 27) rfl (w.heap.size + 1) _ _ [] 18 yp rfl _ rfl (by simp) (OwnU.nil _ _) (by simp) (by simp) ?_; intro g1 q1 w1 hO1 hB1; have hBB1 := hB.trans (hB1.mono (Nat.le_succ _)); have bb1 := b1.below hB1 (Nat.lt_succ_self _); have HOO1 := Lib.hid hO1; have hs1 := Nat.le_trans (show w.heap.size + 1 ≤ _ by simp) hB1.size; obtain ⟨x0, x1, x2, x3, -, -, -, -⟩ := blk4 bb1; clear hO1 hB1) | (at_builtin; refine wpList_pushU rfl (.tmp 32) (.tmp 36) rfl (w.heap.size + 1) _ _ [(18, yp)] 24 np rfl _ rfl (by simp) HOO1.out hs1 (by simp) ?_; intro g2 q2 w2 hO2 hB2; have hBB2 := hBB1.trans (hB2.mono (Nat.le_succ _)); have bb2 := bb1.below hB2 (Nat.lt_succ_self _); have HOO2 := Lib.hid hO2; have hs2 := Nat.le_trans hs1 hB2.size; obtain ⟨x0, x1, x2, x3, -, -, -, -⟩ := blk4 bb2; clear hO2 hB2))
              go_meet
              case rel => rw [HR.out]; exact ⟨HOO2.out, hBB2, bb2⟩
          · by_cases h10 : nk = 10
            · have HR : Go.RowKit.Hid (hereN (.mk nk nt nl np) = if 0 < nl.length then [(18, np)] else []) := Lib.hid (by unfold hereN; simp [h10])
              subst h10
              generalize hereN (.mk 10 nt nl np) = R at *
              by_cases hl : 0 < nl.length
              · have HR1 := Lib.hid (HR.out.trans (if_pos hl))
                go_wp2_with (at_builtin; refine wpList_pushU rfl (.tmp 64) (.tmp 68) rfl (w.heap.size + 1) _ _ [] 18 np rfl _ rfl (by simp) (OwnU.nil _ _) (by simp) (by simp) ?_; intro g3 c3 w3 hO3 hB3)
                go_meet
                case rel => rw [HR1.out]; exact ⟨hO3, hB.trans (hB3.mono (Nat.le_succ _)), b1.below hB3 (Nat.lt_succ_self _)⟩
              · have HR1 := Lib.hid (HR.out.trans (if_neg hl))
                go_wp2_with fail
                go_meet
                case rel => rw [HR1.out]; exact ⟨OwnU.nil _ _, hB, b1⟩
            · by_cases h22 : nk = 22
              · subst h22
                rcases nl with _ | ⟨⟨zk, zt, zl, zp⟩, zs⟩
                · exact absurd (HND.out.1.2 (.inr rfl)) (by simp)
                rcases zs with _ | ⟨⟨zk2, zt2, zl2, zp2⟩, zs⟩
                · exact absurd (HND.out.1.2 (.inr rfl)) (by simp)
                obtain ⟨b, off, A1, c1, rfl, hK0⟩ := HV.out.kid0
                obtain ⟨A2, c2, hK2⟩ := HV.out.kid1
                have hq1 : (1 : Int) < ((zs.length + 1 + 1 : Nat) : Int) := by omega
                have hK2 := hK2.below hB
                have hq2 : (2 : Int) < ((zs.length + 1 + 1 : Nat) : Int) ↔ 0 < zs.length := by omega
                have HR : Go.RowKit.Hid (hereN (.mk 22 nt (.mk zk zt zl zp :: .mk zk2 zt2 zl2 zp2 :: zs) np) = if 0 < zs.length ∨ zk2 = 11 ∨ zk2 = 12 then [(18, np)] else []) := Lib.hid (by simp [hereN, nd0])
                generalize hereN (.mk 22 nt (.mk zk zt zl zp :: .mk zk2 zt2 zl2 zp2 :: zs) np) = R at *
                simp only [List.length_cons] at *
                obtain ⟨-, j0, j2, j3, -⟩ := hK2
                simp only [Nd.kind_mk, Nd.kids_mk, Nd.pos_mk] at j0 j2 j3
                by_cases hz : 0 < zs.length
                · have HR1 := Lib.hid (HR.out.trans (if_pos (.inl hz)))
                  have hq3 := hq2.2 hz
                  have hq4 : 2 < zs.length + 1 + 1 := by omega
                  clear hq2 hz
                  clear HR
                  generalize zs.length + 1 + 1 = q at *
                  go_wp2_with (at_builtin; refine wpList_pushU rfl (.tmp 92) (.tmp 96) rfl (w.heap.size + 1) _ _ [] 18 np rfl _ rfl (by simp) (OwnU.nil _ _) (by simp) (by simp) ?_; intro g3 q3 w3 hO3 hB3)
                  go_meet
                  case rel => rw [HR1.out]; exact ⟨hO3, hB.trans (hB3.mono (Nat.le_succ _)), b1.below hB3 (Nat.lt_succ_self _)⟩
                · have hq3 : ¬ (2 : Int) < ((zs.length + 1 + 1 : Nat) : Int) := fun h => hz (hq2.1 h)
                  have hq4 : ¬ 2 < zs.length + 1 + 1 := by omega
                  clear hq2
                  by_cases h11 : zk2 = 11
                  · subst h11
                    have HR1 := Lib.hid (HR.out.trans (if_pos (.inr (.inl rfl))))
                    clear hz
                    clear HR
                    generalize zs.length + 1 + 1 = q at *
                    go_wp2_with (at_builtin; refine wpList_pushU rfl (.tmp 92) (.tmp 96) rfl (w.heap.size + 1) _ _ [] 18 np rfl _ rfl (by simp) (OwnU.nil _ _) (by simp) (by simp) ?_; intro g3 q3 w3 hO3 hB3)
                    go_meet
                    case rel => rw [HR1.out]; exact ⟨hO3, hB.trans (hB3.mono (Nat.le_succ _)), b1.below hB3 (Nat.lt_succ_self _)⟩
                  · by_cases h12 : zk2 = 12
                    · subst h12
                      have HR1 := Lib.hid (HR.out.trans (if_pos (.inr (.inr rfl))))
                      clear hz h11
                      clear HR
                      generalize zs.length + 1 + 1 = q at *
                      go_wp2_with (at_builtin; refine wpList_pushU rfl (.tmp 92) (.tmp 96) rfl (w.heap.size + 1) _ _ [] 18 np rfl _ rfl (by simp) (OwnU.nil _ _) (by simp) (by simp) ?_; intro g3 q3 w3 hO3 hB3)
                      go_meet
                      case rel => rw [HR1.out]; exact ⟨hO3, hB.trans (hB3.mono (Nat.le_succ _)), b1.below hB3 (Nat.lt_succ_self _)⟩
                    · have HR1 := Lib.hid (HR.out.trans (if_neg (fun h => h.elim hz (fun h => h.elim h11 h12))))
                      have e11 : (zk2 == 11) = false := by simp [h11]
                      have e12 : (zk2 == 12) = false := by simp [h12]
                      clear hz h11 h12
                      clear HR
                      generalize zs.length + 1 + 1 = q at *
                      go_wp2_with fail
                      go_meet
                      case rel => rw [HR1.out]; exact ⟨OwnU.nil _ _, hB, b1⟩
              · have HR : Go.RowKit.Hid (hereN (.mk nk nt nl np) = []) := Lib.hid (by unfold hereN; simp [h2, h3, h4, h10, h22])
                generalize hereN (.mk nk nt nl np) = R at *
                have e2 : (nk == 2) = false := by simp [h2]
                have e3 : (nk == 3) = false := by simp [h3]
                have e4 : (nk == 4) = false := by simp [h4]
                have e10 : (nk == 10) = false := by simp [h10]
                have e22 : (nk == 22) = false := by simp [h22]
                clear h2 h3 h4 h10 h22
                go_wp2_with fail
                go_meet
                case rel => rw [HR.out]; exact ⟨OwnU.nil _ _, hB, b1⟩
    case rest =>
      obtain ⟨hO1, hB1, c1⟩ := hcut
      obtain ⟨x0, x1, x2, x3, _, _, _, _⟩ := blk4 c1
      have HO1 := Lib.hid (hO1.less (Nat.le_succ _))
      clear hO1 hB b1 HV1
      have HT := Lib.hid (show hereT (g + 1) n = hereN n ++ n.kids.flatMap (hereT g) from rfl)
      have HLN := Lib.hid (hereN_le n)
      generalize hereN n = acc0 at *
      go_wp2_with fail
      go_loopg [3, 6, 101] n.kids.length (fun g1 u3 _ u101 wr => ∃ i : Nat, i ≤ n.kids.length ∧ n.kids.length - i ≤ g1 ∧ u101 = .int .i64 (i : Int) ∧ OwnU w.heap.size wr u3 (acc0 ++ (n.kids.take i).flatMap (hereT g)) ∧ Below w.heap.size w wr)
      case atStart => exact ⟨0, Nat.zero_le _, by omega, rfl, by simpa using HO1.out, hB1⟩
      case round =>
        clear x0 x1 x2 x3 c1 HO1
        obtain ⟨i, hi, hg, rfl, hO, hB⟩ := hrel
        have HO := Lib.hid hO
        clear hO
        by_cases hlt : i < n.kids.length
        · have hlt2 : (i : Int) < (n.kids.length : Int) := by omega
          have h0 : (0 : Int) ≤ (i : Int) := by omega
          obtain ⟨b, off, A1, cp1, rfl, -, hbl, k0, k1, k2, k3, hkn⟩ := (HV.out.below hB).kidsV.kid i hlt
          have hmem := List.getElem_mem hlt
          have HM := Lib.hid (And.intro (HD.out.2 _ hmem) (HND.out.2 _ hmem))
          have HTK := Lib.hid (show acc0 ++ (n.kids.take (i + 1)).flatMap (hereT g) = (acc0 ++ (n.kids.take i).flatMap (hereT g)) ++ hereT g n.kids[i] by rw [List.take_succ_eq_append_getElem hlt, List.flatMap_append, List.append_assoc]; simp)
          have hle : ((n.kids.take i).flatMap (lefts g)).length + (lefts g n.kids[i]).length ≤ (n.kids.flatMap (lefts g)).length := by
            conv => rhs; rw [← List.take_append_drop (i + 1) n.kids, List.flatMap_append, List.take_succ_eq_append_getElem hlt, List.flatMap_append]
            simp
          have hle2 := flatMap_le (hereT g) (lefts g) (n.kids.take i) fun k _ => hereT_le g k
          clear hmem
          generalize n.kids[i] = x at *
          have hle3 := hereT_le g x
          have hNN := HN.out
          rw [lefts, List.length_cons] at hNN
          have HLE := Lib.hid (show (acc0 ++ (n.kids.take i).flatMap (hereT g)).length + (hereT g x).length ≤ 1000000 by have := HLN.out; rw [List.length_append]; omega)
          have HBR := Lib.hid (hB.alloc hB.size (.cells #[.int .i64 x.kind, .string x.text, .slice A1 x.kids.length cp1, .int .i64 x.pos] 24))
          have HC := Lib.hid (HI.out _ x (wr.alloc (.cells #[.int .i64 x.kind, .string x.text, .slice A1 x.kids.length cp1, .int .i64 x.pos] 24)) (hkn.below ((Below.refl _ wr).alloc (Nat.le_refl _) _)).wide HM.out.1 HM.out.2 (by omega))
          have HO1 := Lib.hid (HO.out.below ((Below.refl _ wr).alloc (Nat.le_refl _) (.cells #[.int .i64 x.kind, .string x.text, .slice A1 x.kids.length cp1, .int .i64 x.pos] 24)))
          generalize acc0 ++ (n.kids.take i).flatMap (hereT g) = acc at *
          clear hkn hle hle2 hle3 hNN HM HO hB
          go_wp2_with fail
          refine HC.out.mono ?_
          rintro e w2 ⟨⟨v2, rfl, hv2⟩, hb2⟩
          have HO2 := Lib.hid (HO1.out.below hb2)
          have HV2 := Lib.hid hv2
          have HB2 := HBR.out.trans (hb2.mono HBR.out.size)
          clear hb2 hv2 HC HO1 k0 k1 k2 k3
          have hsz := HB2.size
          go_wp2_with (at_builtin; refine wpList_appU rfl (.tmp 105) (.tmp 107) rfl w.heap.size _ _ _ _ _ _ rfl rfl HO2.out HV2.out hsz HLE.out ?_; intro v3 w3 hO3 hB3)
          have HO3 := Lib.hid hO3
          clear hO3
          go_roundg (n.kids.length - (i + 1))
          case measure => omega
          case rel => exact ⟨i + 1, by omega, by omega, by go_num, by rw [HTK.out]; exact HO3.out, HB2.trans hB3⟩
        · have hlt2 : ¬ (i : Int) < (n.kids.length : Int) := by omega
          have ht : n.kids.take i = n.kids := List.take_of_length_le (by omega)
          rw [ht, ← HT.out] at HO
          clear ht
          go_wp2_with fail
          go_ret
          exact ⟨⟨_, rfl, HO.out⟩, hB⟩
end Go.Proofs.YtnalfjaojcahhaaGreatDoor
namespace Go.Proofs.YtnalfjaojcahhaaGreatDoor

/-- The kids that are asked for, by the kind. -/
def ShapeK (k : Int) (m : Nat) : Prop := (k = 2 ∨ k = 4 → 1 ≤ m) ∧ (k = 3 ∨ k = 22 → 2 ≤ m)
mutual
def NeedA : Nd → Prop
  | .mk k _ l _ => ShapeK k l.length ∧ NeedL l
def NeedL : List Nd → Prop
  | [] => True
  | n :: l => NeedA n ∧ NeedL l
end
theorem needL_iff : ∀ l : List Nd, NeedL l ↔ ∀ k ∈ l, NeedA k
  | [] => by simp [NeedL]
  | n :: l => by rw [NeedL, needL_iff l]; simp
theorem needA_iff (n : Nd) : NeedA n ↔ ShapeK n.kind n.kids.length ∧ ∀ k ∈ n.kids, NeedA k := by
  cases n with
  | mk k t l a => rw [NeedA, needL_iff]; rfl
theorem NeedA.need : ∀ (g : Nat) (n : Nd), NeedA n → Need g n
  | 0, _, _ => trivial
  | g + 1, n, h => ⟨((needA_iff n).1 h).1, fun k hk => NeedA.need g k (((needA_iff n).1 h).2 k hk)⟩

theorem askAll_lens : ∀ (ps : List (Nd → Bool)) (ns : List Nd), askAll ps ns = true → ns.length = ps.length
  | [], [], _ => rfl
  | [], _ :: _, h => by simp [askAll] at h
  | _ :: _, [], h => by simp [askAll] at h
  | p :: ps, n :: ns, h => by
    simp only [askAll, Bool.and_eq_true] at h
    rw [List.length_cons, List.length_cons, askAll_lens ps ns h.2]
theorem askAll_mems : ∀ (ps : List (Nd → Bool)) (ns : List Nd), askAll ps ns = true → ∀ k ∈ ns, ∃ p ∈ ps, p k = true
  | [], [], _ => by simp
  | [], _ :: _, h => by simp [askAll] at h
  | _ :: _, [], h => by simp [askAll] at h
  | p :: ps, n :: ns, h => by
    simp only [askAll, Bool.and_eq_true] at h
    intro k hk
    rcases List.mem_cons.1 hk with rfl | hk
    · exact ⟨p, List.mem_cons_self, h.1⟩
    · obtain ⟨q, hq, e⟩ := askAll_mems ps ns h.2 k hk
      exact ⟨q, List.mem_cons_of_mem _ hq, e⟩
/-- A question whose yes tells that the kids are there. -/
def Tells (p : Nd → Bool) : Prop := ∀ n, p n = true → NeedA n
theorem na_ask {k : Int} {l : List (Nd → Bool)} {n : Nd} (hk : n.kind = k) (ha : askAll l n.kids = true) (hs : ShapeK k l.length) (hl : ∀ p ∈ l, Tells p) : NeedA n := by
  rw [needA_iff]
  refine ⟨by rw [hk, askAll_lens _ _ ha]; exact hs, fun m hm => ?_⟩
  obtain ⟨p, hp, e⟩ := askAll_mems _ _ ha m hm
  exact hl p hp m e
theorem na_of {k : Int} {l : List (Nd → Bool)} (hs : ShapeK k l.length) (hl : ∀ p ∈ l, Tells p) : Tells (ofT k l) := by
  intro n h
  unfold ofT at h
  simp only [Bool.and_eq_true, decide_eq_true_eq] at h
  exact na_ask h.1 h.2.2 hs hl
theorem na_named {k : Int} {l : List (Nd → Bool)} {so : ByteArray → Bool} (h37 : k ≠ 37) (hs : ShapeK k l.length) (hl : ∀ p ∈ l, Tells p) : Tells (fun n => ofT k l (namedT so n)) := by
  intro n h
  have h : ofT k l (namedT so n) = true := h
  unfold ofT namedT at h
  by_cases hn : so n.text = true
  · rw [if_pos hn] at h
    simp only [Bool.and_eq_true, decide_eq_true_eq] at h
    exact na_ask h.1 h.2.2 hs hl
  · rw [if_neg hn] at h
    simp only [Bool.and_eq_true, decide_eq_true_eq] at h
    exact absurd h.1.symm h37
theorem na_kids {n : Nd} {p : Nd → Bool} (h : n.kids.all p = true) (hs : ShapeK n.kind n.kids.length) (hp : Tells p) : NeedA n := by
  rw [needA_iff]
  exact ⟨hs, fun k hk => hp k (List.all_eq_true.1 h k hk)⟩
theorem na_empty : Tells emptyT := by
  intro n h
  unfold emptyT at h
  simp only [Bool.and_eq_true, decide_eq_true_eq] at h
  rw [needA_iff]
  refine ⟨by rw [h.1]; exact ⟨by omega, by omega⟩, ?_⟩
  rw [List.eq_nil_of_length_eq_zero h.2.2]
  simp
theorem na_or {a b : Nd → Bool} (ha : Tells a) (hb : Tells b) : Tells (orT a b) := by
  intro n h
  unfold orT at h
  rw [Bool.or_eq_true] at h
  exact h.elim (ha n) (hb n)
theorem shape_else {k : Int} {m : Nat} (h : k ≠ 2 ∧ k ≠ 3 ∧ k ≠ 4 ∧ k ≠ 22) : ShapeK k m := ⟨by omega, by omega⟩
theorem na_list {p : Nd → Bool} (hp : Tells p) : Tells (listT p) := by
  intro n h
  unfold listT at h
  simp only [Bool.and_eq_true, decide_eq_true_eq] at h
  exact na_kids h.2.2 (shape_else (by rw [h.1]; decide)) hp
theorem tells_nil : ∀ p ∈ ([] : List (Nd → Bool)), Tells p := by simp
theorem tells_cons {p : Nd → Bool} {l : List (Nd → Bool)} (h : Tells p) (hl : ∀ p ∈ l, Tells p) : ∀ q ∈ p :: l, Tells q := by
  intro q hq
  rcases List.mem_cons.1 hq with rfl | hq
  · exact h
  · exact hl q hq
structure OkN (F : TFns) : Prop where
  typ : Tells F.typ
  expr : Tells F.expr
  block : Tells F.block
  stmt : Tells F.stmt
  ifS : Tells F.ifS
section
variable {F : TFns}
theorem na_param (h : OkN F) (so : ByteArray → Bool) : Tells (paramT F so) := na_named (by decide) (shape_else (by decide)) (tells_cons h.typ tells_nil)
theorem na_sig (h : OkN F) (so : ByteArray → Bool) : Tells (sigT F so) := na_of (shape_else (by decide)) (tells_cons (na_list (na_param h so)) (tells_cons (na_or na_empty h.typ) tells_nil))
theorem na_isSig (h : OkN F) : Tells (isSigT F) := na_sig h nameT
theorem na_typ (h : OkN F) : Tells (typT F) := by
  intro n hn
  unfold typT at hn
  split at hn
  case isTrue hk =>
    rw [Bool.and_eq_true] at hn
    exact na_kids hn.2 (shape_else (by rw [hk]; decide)) h.typ
  case isFalse =>
    split at hn
    · exact na_of (shape_else (by decide)) (tells_cons h.typ tells_nil) n hn
    · split at hn
      · exact na_sig h _ n hn
      · cases hn
theorem na_term (h : OkN F) : Tells (termT F) := na_named (by decide) (shape_else (by decide)) (tells_cons h.typ tells_nil)
theorem na_inter (h : OkN F) : Tells (interT F) := by
  intro n hn
  unfold interT at hn
  simp only [Bool.and_eq_true, decide_eq_true_eq] at hn
  exact na_kids hn.2.2.2 (shape_else (by rw [hn.1]; decide)) (na_term h)
theorem na_field (h : OkN F) : Tells (fieldT F) := na_named (by decide) (shape_else (by decide)) (tells_cons h.typ tells_nil)
theorem na_struct (h : OkN F) : Tells (structT F) := by
  intro n hn
  unfold structT at hn
  simp only [Bool.and_eq_true, decide_eq_true_eq] at hn
  exact na_kids hn.2.2 (shape_else (by rw [hn.1]; decide)) (na_field h)
theorem na_named1 (h : OkN F) : Tells (named1T F) := by
  intro n hn
  unfold named1T at hn
  rw [Bool.and_eq_true] at hn
  exact h.typ n hn.2
theorem na_tparam (h : OkN F) : Tells (tparamT F) := na_named (by decide) (shape_else (by decide)) (tells_cons (na_or (na_named1 h) (na_inter h)) tells_nil)
theorem na_params (h : OkN F) : Tells (paramsT F) := na_list (na_tparam h)
theorem na_var (h : OkN F) : Tells (varT F) := by
  intro n hn
  unfold varT at hn
  rw [Bool.and_eq_true] at hn
  exact na_named (k := 5) (by decide) (shape_else (by decide)) (tells_cons (na_or na_empty h.typ) (tells_cons (na_or na_empty h.expr) tells_nil)) n hn.1
theorem na_decl (h : OkN F) : Tells (declT F) := by
  intro n hn
  unfold declT at hn
  split at hn
  · exact na_named (k := 2) (by decide) ⟨by simp, by simp⟩ (tells_cons (na_params h) (tells_cons (na_isSig h) (tells_cons h.block tells_nil))) n hn
  · split at hn
    · exact na_named (k := 3) (by decide) ⟨by simp, by simp⟩ (tells_cons (na_params h) (tells_cons (na_or (na_or h.typ (na_struct h)) (na_inter h)) tells_nil)) n hn
    · split at hn
      · exact na_named (k := 4) (by decide) ⟨by simp, by simp⟩ (tells_cons (na_params h) (tells_cons h.typ tells_nil)) n hn
      · exact na_var h n hn
theorem na_part (h : OkN F) : Tells (partT F) := by
  intro n hn
  unfold partT at hn
  rw [Bool.or_eq_true, Bool.and_eq_true] at hn
  exact hn.elim (h.expr n) (fun e => h.typ n e.2)
theorem na_expr (h : OkN F) : Tells (exprT F) := by
  intro n hn
  unfold exprT at hn
  split at hn
  · exact na_named (k := 16) (by decide) (shape_else (by decide)) tells_nil n hn
  split at hn
  · exact na_named (k := 17) (by decide) (shape_else (by decide)) tells_nil n hn
  split at hn
  · exact na_named (k := 18) (by decide) (shape_else (by decide)) tells_nil n hn
  split at hn
  · exact na_named (k := 19) (by decide) (shape_else (by decide)) (tells_cons h.expr tells_nil) n hn
  split at hn
  · exact na_named (k := 20) (by decide) (shape_else (by decide)) (tells_cons h.expr (tells_cons h.expr tells_nil)) n hn
  split at hn
  case isTrue hk =>
    simp only [Bool.and_eq_true, decide_eq_true_eq] at hn
    exact na_kids hn.2.2 (shape_else (by rw [hk]; decide)) h.expr
  split at hn
  case isTrue hk =>
    simp only [Bool.and_eq_true, decide_eq_true_eq] at hn
    obtain ⟨_, hl, h0, hr⟩ := hn
    rw [needA_iff]
    refine ⟨⟨by omega, fun _ => hl⟩, fun k hm => ?_⟩
    rcases hkk : n.kids with _ | ⟨z, zs⟩
    · rw [hkk] at hl; simp at hl
    · rw [hkk] at hm h0 hr
      rcases List.mem_cons.1 hm with rfl | hm
      · exact h.expr _ h0
      · exact na_part h k (List.all_eq_true.1 hr k hm)
  split at hn
  · exact na_named (k := 23) (by decide) (shape_else (by decide)) (tells_cons h.expr tells_nil) n hn
  split at hn
  case isTrue hk =>
    simp only [Bool.and_eq_true, decide_eq_true_eq] at hn
    obtain ⟨_, hl, _, h0, hr⟩ := hn
    rw [needA_iff]
    refine ⟨shape_else (by rw [hk]; decide), fun k hm => ?_⟩
    rcases hkk : n.kids with _ | ⟨z, zs⟩
    · rw [hkk] at hl; simp at hl
    · rw [hkk] at hm h0 hr
      rcases List.mem_cons.1 hm with rfl | hm
      · exact h.typ _ h0
      · exact h.expr k (List.all_eq_true.1 hr k hm)
  · exact na_of (shape_else (by decide)) (tells_cons (na_isSig h) (tells_cons h.block tells_nil)) n hn
theorem na_inc (h : OkN F) : Tells (incT F) := na_named (by decide) (shape_else (by decide)) (tells_cons h.expr tells_nil)
theorem na_set (h : OkN F) : Tells (setT F) := na_of (shape_else (by decide)) (tells_cons h.expr (tells_cons h.expr tells_nil))
theorem na_callX (h : OkN F) : Tells (callX F) := by
  intro n hn
  unfold callX at hn
  rw [Bool.and_eq_true] at hn
  exact h.expr n hn.2
theorem na_call (h : OkN F) : Tells (callT F) := na_of (shape_else (by decide)) (tells_cons (na_callX h) tells_nil)
theorem na_short (h : OkN F) : Tells (shortT F) := na_named (by decide) (shape_else (by decide)) (tells_cons h.expr tells_nil)
theorem na_block (h : OkN F) : Tells (blockT F) := by
  intro n hn
  unfold blockT at hn
  simp only [Bool.and_eq_true, decide_eq_true_eq] at hn
  exact na_kids hn.2.2 (shape_else (by rw [hn.1]; decide)) h.stmt
theorem na_if (h : OkN F) : Tells (ifT F) := na_of (shape_else (by decide)) (tells_cons h.expr (tells_cons h.block (tells_cons (na_or (na_or na_empty h.block) h.ifS) tells_nil)))
theorem na_stmt (h : OkN F) : Tells (stmtT F) := by
  intro n hn
  unfold stmtT at hn
  split at hn
  · exact na_var h n hn
  split at hn
  · exact na_short h n hn
  split at hn
  · exact na_set h n hn
  split at hn
  · exact na_inc h n hn
  split at hn
  · exact na_call h n hn
  split at hn
  · exact na_if h n hn
  split at hn
  · exact na_of (shape_else (by decide)) (tells_cons (na_or (na_or na_empty (na_short h)) (na_or (na_set h) (na_inc h))) (tells_cons (na_or na_empty h.expr) (tells_cons (na_or (na_or na_empty (na_set h)) (na_or (na_inc h) (na_call h))) (tells_cons h.block tells_nil)))) n hn
  split at hn
  · exact na_named (k := 32) (by decide) (shape_else (by decide)) (tells_cons h.expr (tells_cons h.block tells_nil)) n hn
  split at hn
  · exact na_of (shape_else (by decide)) (tells_cons (na_or na_empty h.expr) tells_nil) n hn
  split at hn
  case isTrue hk => exact na_of (shape_else (by omega)) tells_nil n hn
  · exact na_block h n hn
end
theorem okN : ∀ g : Nat, OkN (tfns g)
  | 0 => ⟨fun _ h => by simp [tfns] at h, fun _ h => by simp [tfns] at h, fun _ h => by simp [tfns] at h, fun _ h => by simp [tfns] at h, fun _ h => by simp [tfns] at h⟩
  | g + 1 => ⟨na_typ (okN g), na_expr (okN g), na_block (okN g), na_stmt (okN g), na_if (okN g)⟩
/-- A right file's nodes have their kids. -/
theorem need_right (n : Nd) (h : rightFile n = true) : NeedA n := by
  unfold rightFile at h
  simp only [Bool.and_eq_true] at h
  have h2 := h.2.2
  unfold fileT at h2
  simp only [Bool.and_eq_true, decide_eq_true_eq] at h2
  exact na_kids h2.2.2 (shape_else (by rw [h2.1]; decide)) (na_decl (okN 100))
end Go.Proofs.YtnalfjaojcahhaaGreatDoor
namespace Go.Proofs
open Go.Shelf
def Tryz.sortF_ren : Go.Shelf.Ren := ⟨fun | 6 => 25 | 15 => 53 | 14 => 52 | 28 => 86 | 29 => 87 | 20 => 78 | 21 => 79 | 22 => 80 | 23 => 81 | 24 => 82 | 25 => 83 | 26 => 84 | 27 => 85 | 46 => 127 | 47 => 128 | 48 => 129 | 49 => 130 | 50 => 131 | 57 => 175 | n => n, fun | 22 => 28 | 24 => 32 | 25 => 51 | 3 => 3 | 39 => 70 | 0 => 0 | 53 => 104 | 55 => 106 | 4 => 4 | 46 => 97 | 45 => 96 | 50 => 101 | 5 => 5 | 9 => 9 | 66 => 123 | 70 => 127 | 76 => 154 | 77 => 155 | n => n, fun | n => n⟩
theorem Tryz.sortF : Go.Proofs.SlLaysF0.n6 Tryz.prog Tryz.sortF_ren := {
  mixed := by kernel_rfl
  f6 := ⟨Tryz.f25.name, by decide, Tryz.func25.trans (congrArg some (by kernel_rfl))⟩
  f14 := ⟨Tryz.f52.name, by decide, Tryz.func52.trans (congrArg some (by kernel_rfl))⟩
  f15 := Tryz.func53.trans (congrArg some (by kernel_rfl))
  f20 := ⟨Tryz.f78.name, by decide, Tryz.func78.trans (congrArg some (by kernel_rfl))⟩
  f21 := ⟨Tryz.f79.name, by decide, Tryz.func79.trans (congrArg some (by kernel_rfl))⟩
  f22 := ⟨Tryz.f80.name, by decide, Tryz.func80.trans (congrArg some (by kernel_rfl))⟩
  f23 := ⟨Tryz.f81.name, by decide, Tryz.func81.trans (congrArg some (by kernel_rfl))⟩
  f24 := ⟨Tryz.f82.name, by decide, Tryz.func82.trans (congrArg some (by kernel_rfl))⟩
  f25 := ⟨Tryz.f83.name, by decide, Tryz.func83.trans (congrArg some (by kernel_rfl))⟩
  f26 := ⟨Tryz.f84.name, by decide, Tryz.func84.trans (congrArg some (by kernel_rfl))⟩
  f27 := ⟨Tryz.f85.name, by decide, Tryz.func85.trans (congrArg some (by kernel_rfl))⟩
  f28 := Tryz.func86.trans (congrArg some (by kernel_rfl))
  f29 := Tryz.func87.trans (congrArg some (by kernel_rfl))
  f46 := ⟨Tryz.f127.name, by decide, Tryz.func127.trans (congrArg some (by kernel_rfl))⟩
  f47 := Tryz.func128.trans (congrArg some (by kernel_rfl))
  f48 := Tryz.func129.trans (congrArg some (by kernel_rfl))
  f49 := ⟨Tryz.f130.name, by decide, Tryz.func130.trans (congrArg some (by kernel_rfl))⟩
  f50 := ⟨Tryz.f131.name, by decide, Tryz.func131.trans (congrArg some (by kernel_rfl))⟩
  f57 := ⟨Tryz.f175.name, by decide, Tryz.func175.trans (congrArg some (by kernel_rfl))⟩
  t0 := Tryz.underlying0
  a0 := Tryz.isAgg0
  z0 := Tryz.sizeOf0
  v0 := Tryz.zeroValue0
  t3 := Tryz.underlying3
  a3 := Tryz.isAgg3
  z3 := Tryz.sizeOf3
  v3 := Tryz.zeroValue3
  t4 := Tryz.underlying4
  a4 := Tryz.isAgg4
  z4 := Tryz.sizeOf4
  v4 := Tryz.zeroValue4
  t5 := Tryz.underlying5
  a5 := Tryz.isAgg5
  z5 := Tryz.sizeOf5
  v5 := Tryz.zeroValue5
  t9 := Tryz.underlying9
  a9 := Tryz.isAgg9
  z9 := Tryz.sizeOf9
  v9 := Tryz.zeroValue9
  t22 := Tryz.underlying28
  a22 := Tryz.isAgg28
  z22 := Tryz.sizeOf28
  v22 := Tryz.zeroValue28
  t25 := Tryz.underlying51
  a25 := Tryz.isAgg51
  z25 := Tryz.sizeOf51
  v25 := Tryz.zeroValue51
  t39 := Tryz.underlying70
  a39 := Tryz.isAgg70
  z39 := Tryz.sizeOf70
  v39 := Tryz.zeroValue70
  t45 := Tryz.underlying96
  a45 := Tryz.isAgg96
  z45 := Tryz.sizeOf96
  v45 := Tryz.zeroValue96
  t46 := Tryz.underlying97
  a46 := Tryz.isAgg97
  z46 := Tryz.sizeOf97
  v46 := Tryz.zeroValue97
  t50 := Tryz.underlying101
  a50 := Tryz.isAgg101
  z50 := Tryz.sizeOf101
  v50 := Tryz.zeroValue101
  t53 := Tryz.underlying104
  a53 := Tryz.isAgg104
  z53 := Tryz.sizeOf104
  v53 := Tryz.zeroValue104
  t55 := Tryz.underlying106
  a55 := Tryz.isAgg106
  z55 := Tryz.sizeOf106
  v55 := Tryz.zeroValue106
  t66 := Tryz.underlying123
  a66 := Tryz.isAgg123
  z66 := Tryz.sizeOf123
  v66 := Tryz.zeroValue123
  t70 := Tryz.underlying127
  a70 := Tryz.isAgg127
  z70 := Tryz.sizeOf127
  v70 := Tryz.zeroValue127
  t76 := Tryz.underlying154
  a76 := Tryz.isAgg154
  z76 := Tryz.sizeOf154
  v76 := Tryz.zeroValue154
  t77 := Tryz.underlying155
  a77 := Tryz.isAgg155
  z77 := Tryz.sizeOf155
  v77 := Tryz.zeroValue155 }
end Go.Proofs
