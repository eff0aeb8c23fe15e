/-
  gate.here: what a node and all in it need. By an AI agent.
-/
import Derived.Test.YtnalfjaojcahhaaGreatDoorJ27
import Derived.Test.YtnalfjaojcahhaaGreatDoorJ29
import Derived.Deep.CutBlock
namespace Go.Proofs.YtnalfjaojcahhaaGreatDoor
open Go.RowKit Go.Lib Go.Proofs
attribute [local go_sem ↓] Go.wp_at_zero Go.wp_at_succ

def PostU (w : World) (l : Us) (e : Ending) (w' : World) : Prop := (∃ v, e = .returned v ∧ OwnU w.heap.size w' v l) ∧ Below w.heap.size w w'

/-- A kid's cells, where they lie. -/
structure KidAt (w : World) (b off : Nat) (z : Nd) (A1 : Option Addr) (c1 : Nat) : Prop where
  lt : b < w.heap.size
  c0 : w.cell? ⟨b, off, none⟩ = some (.int .i64 z.kind)
  c2 : w.cell? ⟨b, off + 2, none⟩ = some (.slice A1 z.kids.length c1)
  c3 : w.cell? ⟨b, off + 3, none⟩ = some (.int .i64 z.pos)
  nv : NodeW w (.agg #[.int .i64 z.kind, .string z.text, .slice A1 z.kids.length c1, .int .i64 z.pos]) z
theorem KidAt.below {w w' : World} {b off : Nat} {z : Nd} {A1 : Option Addr} {c1 : Nat} (h : KidAt w b off z A1 c1) (hb : Below w.heap.size w w') : KidAt w' b off z A1 c1 :=
  have e := hb.block b h.lt
  ⟨Nat.lt_of_lt_of_le h.lt hb.size, (World.cell?_of_block (a := ⟨b, off, none⟩) e).trans h.c0, (World.cell?_of_block (a := ⟨b, off + 2, none⟩) e).trans h.c2, (World.cell?_of_block (a := ⟨b, off + 3, none⟩) e).trans h.c3, h.nv.below hb⟩
theorem NodeV.kid0 {w : World} {k t a : Value} {A : Option Addr} {m c : Nat} {nk : Int} {nt : ByteArray} {z : Nd} {zs : List Nd} {np : Int} (h : NodeW w (.agg #[k, t, .slice A m c, a]) (.mk nk nt (z :: zs) np)) :
    ∃ b off A1 c1, A = some ⟨b, off, none⟩ ∧ KidAt w b off z A1 c1 := by
  obtain ⟨b, off, A1, c1, e, _, hl, k0, k1, k2, k3, hv⟩ := (NodeV.kidsV h).kid 0 (by simp)
  simp only [Nd.kids_mk, List.getElem_cons_zero, Nat.zero_mul, Nat.add_zero] at k0 k2 k3 hv
  exact ⟨b, off, A1, c1, e, hl, k0, k2, k3, hv⟩
theorem NodeV.kid1 {w : World} {k t a : Value} {b off : Nat} {m c : Nat} {nk : Int} {nt : ByteArray} {z z1 : Nd} {zs : List Nd} {np : Int} (h : NodeW w (.agg #[k, t, .slice (some ⟨b, off, none⟩) m c, a]) (.mk nk nt (z :: z1 :: zs) np)) :
    ∃ A1 c1, KidAt w b (off + 4) z1 A1 c1 := by
  obtain ⟨b', off', A1, c1, e, _, hl, k0, k1, k2, k3, hv⟩ := (NodeV.kidsV h).kid 1 (by simp)
  injection e with e
  injection e with e1 e2
  subst e1 e2
  simp only [Nd.kids_mk, List.getElem_cons_succ, List.getElem_cons_zero, Nat.one_mul] at k0 k2 k3 hv
  exact ⟨A1, c1, hl, k0, k2, k3, hv⟩

set_option maxRecDepth 100000 in
set_option maxHeartbeats 8000000 in
set_option linter.unusedSimpArgs false in
theorem here_any : ∀ (g : Nat) (v : Value) (n : Nd) (w : World), NodeW w v n → DLe g n → Need g n → (lefts g n).length ≤ 400000 → Calls Tryz.prog 24 #[v] w (PostU w (hereT g n)) := by
  intro g
  induction g with
  | zero => exact fun _ _ _ _ h => h.elim
  | succ g ih =>
    intro v n w hv hd hnd hN
    have HV := Lib.hid hv
    have HD := Lib.hid hd
    have HND := Lib.hid hnd
    have HI := Lib.hid ih
    have HN := Lib.hid hN
    have hlk := hd.1.1
    obtain ⟨A, cp, rfl, hC⟩ := hv.toC
    clear hv hC hd hnd ih hN
    have hB := (Below.refl w.heap.size w).alloc (Nat.le_refl _) (.cells #[.int .i64 n.kind, .string n.text, .slice A n.kids.length cp, .int .i64 n.pos] 24)
    have b1 : Blk (w.alloc (.cells #[.int .i64 n.kind, .string n.text, .slice A n.kids.length cp, .int .i64 n.pos] 24)) w.heap.size 24 #[.int .i64 n.kind, .string n.text, .slice A n.kids.length cp, .int .i64 n.pos] := Blk.new w _ _
    have HV1 := Lib.hid (HV.out.below hB)
    go_enter Tryz.func24, Tryz.ntmps24
    go_upto_block 0 with fail
    go_cut [3] (fun s3 wx => OwnU (w.heap.size + 1) wx s3 (hereN n) ∧ Below w.heap.size w wx ∧ Blk wx w.heap.size 24 #[.int .i64 n.kind, .string n.text, .slice A n.kids.length cp, .int .i64 n.pos])
    case first =>
      clear HI HN HD hlk
      obtain ⟨nk, nt, nl, np⟩ := n
      simp only [Nd.kids_mk, Nd.kind_mk, Nd.text_mk, Nd.pos_mk] at *
      by_cases h2 : nk = 2
      · subst h2
        rcases nl with _ | ⟨⟨zk, zt, zl, zp⟩, zs⟩
        · exact absurd (HND.out.1.1 (.inl rfl)) (by simp)
        obtain ⟨b, off, A1, c1, rfl, hK0⟩ := HV.out.kid0
        have hq0 : (0 : Int) < ((zs.length + 1 : Nat) : Int) := by omega
        simp only [List.length_cons] at *
        rcases zl with _ | ⟨⟨yk, yt, yl, yp⟩, ys⟩
        · have hK0 := hK0.below hB
          have HR : Go.RowKit.Hid (hereN (.mk 2 nt (.mk zk zt [] zp :: zs) np) = []) := Lib.hid (by simp [hereN, headU, interU, nd0])
          generalize hereN (.mk 2 nt (.mk zk zt [] zp :: zs) np) = R at *
          obtain ⟨-, k0, k2, k3, -⟩ := hK0
          simp only [List.length_cons, List.length_nil, Nd.kind_mk, Nd.kids_mk, Nd.pos_mk] at k0 k2 k3
          generalize zs.length + 1 = q at *
          go_wp2_with fail
          go_meet
          case rel => rw [HR.out]; exact ⟨(OwnU.nil _ _), hB, b1⟩
        · obtain ⟨bk, off1, A3, c3, rfl, hK3⟩ := hK0.nv.kid0
          have hK3 := hK3.below hB
          have hp0 : (0 : Int) < ((ys.length + 1 : Nat) : Int) := by omega
          have hp1 : 0 < ys.length + 1 := by omega
          have hK0 := hK0.below hB
          have HR : Go.RowKit.Hid (hereN (.mk 2 nt (.mk zk zt (.mk yk yt yl yp :: ys) zp :: zs) np) = [(18, yp)]) := Lib.hid (by simp [hereN, headU, interU, nd0])
          generalize hereN (.mk 2 nt (.mk zk zt (.mk yk yt yl yp :: ys) zp :: zs) np) = R at *
          obtain ⟨-, k0, k2, k3, -⟩ := hK0
          obtain ⟨-, -, -, y3, -⟩ := hK3
          simp only [List.length_cons, List.length_nil, Nd.kind_mk, Nd.kids_mk, Nd.pos_mk] at k0 k2 k3 y3
          generalize ys.length + 1 = qy at *
          generalize zs.length + 1 = q at *
          go_wp2_with (first | (at_builtin; refine wpList_pushU rfl (.tmp 21) (.tmp 27) rfl (w.heap.size + 1) _ _ [] 18 yp rfl _ rfl (by simp) (OwnU.nil _ _) (by simp) (by simp) ?_; intro g1 q1 w1 hO1 hB1; have hBB1 := hB.trans (hB1.mono (Nat.le_succ _)); have bb1 := b1.below hB1 (Nat.lt_succ_self _); have HOO1 := Lib.hid hO1; have hs1 := Nat.le_trans (show w.heap.size + 1 ≤ _ by simp) hB1.size; obtain ⟨x0, x1, x2, x3, -, -, -, -⟩ := blk4 bb1; clear hO1 hB1))
          go_meet
          case rel => rw [HR.out]; exact ⟨HOO1.out, hBB1, bb1⟩
      · by_cases h3 : nk = 3
        · subst h3
          rcases nl with _ | ⟨⟨zk, zt, zl, zp⟩, zs⟩
          · exact absurd (HND.out.1.2 (.inl rfl)) (by simp)
          rcases zs with _ | ⟨⟨zk2, zt2, zl2, zp2⟩, zs⟩
          · exact absurd (HND.out.1.2 (.inl rfl)) (by simp)
          obtain ⟨b, off, A1, c1, rfl, hK0⟩ := HV.out.kid0
          obtain ⟨A2, c2, hK2⟩ := HV.out.kid1
          have hq1 : (1 : Int) < ((zs.length + 1 + 1 : Nat) : Int) := by omega
          have hq0 : (0 : Int) < ((zs.length + 1 + 1 : Nat) : Int) := by omega
          simp only [List.length_cons] at *
          rcases zl with _ | ⟨⟨yk, yt, yl, yp⟩, ys⟩
          · have hK0 := hK0.below hB
            by_cases hi : zk2 = 14
            · have HR : Go.RowKit.Hid (hereN (.mk 3 nt (.mk zk zt [] zp :: .mk zk2 zt2 zl2 zp2 :: zs) np) = [(18, zp2)]) := Lib.hid (by simp [hereN, headU, interU, nd0, hi])
              generalize hereN (.mk 3 nt (.mk zk zt [] zp :: .mk zk2 zt2 zl2 zp2 :: zs) np) = R at *
              subst hi
              obtain ⟨-, k0, k2, k3, -⟩ := hK0
              have hK2w := hK2.below hB
              obtain ⟨-, j0, j2, j3, -⟩ := hK2w
              simp only [List.length_cons, List.length_nil, Nd.kind_mk, Nd.kids_mk, Nd.pos_mk] at k0 k2 k3 j0 j2 j3
              generalize zs.length + 1 + 1 = q at *
              go_wp2_with (first | (at_builtin; refine wpList_pushU rfl (.tmp 49) (.tmp 56) rfl (w.heap.size + 1) _ _ [] 18 zp2 rfl _ rfl (by simp) (OwnU.nil _ _) (by simp) (by simp) ?_; intro g1 q1 w1 hO1 hB1; have hBB1 := hB.trans (hB1.mono (Nat.le_succ _)); have bb1 := b1.below hB1 (Nat.lt_succ_self _); have HOO1 := Lib.hid hO1; have hs1 := Nat.le_trans (show w.heap.size + 1 ≤ _ by simp) hB1.size; obtain ⟨x0, x1, x2, x3, -, -, -, -⟩ := blk4 bb1; obtain ⟨-, j0, j2, j3, -⟩ := hK2.below hBB1; simp only [Nd.kind_mk, Nd.kids_mk, Nd.pos_mk] at j0 j2 j3; clear hO1 hB1))
              go_meet
              case rel => rw [HR.out]; exact ⟨HOO1.out, hBB1, bb1⟩
            · have HR : Go.RowKit.Hid (hereN (.mk 3 nt (.mk zk zt [] zp :: .mk zk2 zt2 zl2 zp2 :: zs) np) = []) := Lib.hid (by simp [hereN, headU, interU, nd0, hi])
              generalize hereN (.mk 3 nt (.mk zk zt [] zp :: .mk zk2 zt2 zl2 zp2 :: zs) np) = R at *
              have hi1 : (zk2 == 14) = false := by simp [hi]
              clear hi
              obtain ⟨-, k0, k2, k3, -⟩ := hK0
              have hK2w := hK2.below hB
              obtain ⟨-, j0, j2, j3, -⟩ := hK2w
              simp only [List.length_cons, List.length_nil, Nd.kind_mk, Nd.kids_mk, Nd.pos_mk] at k0 k2 k3 j0 j2 j3
              generalize zs.length + 1 + 1 = q at *
              go_wp2_with fail
              go_meet
              case rel => rw [HR.out]; exact ⟨(OwnU.nil _ _), hB, b1⟩
          · obtain ⟨bk, off1, A3, c3, rfl, hK3⟩ := hK0.nv.kid0
            have hK3 := hK3.below hB
            have hp0 : (0 : Int) < ((ys.length + 1 : Nat) : Int) := by omega
            have hp1 : 0 < ys.length + 1 := by omega
            have hK0 := hK0.below hB
            by_cases hi : zk2 = 14
            · have HR : Go.RowKit.Hid (hereN (.mk 3 nt (.mk zk zt (.mk yk yt yl yp :: ys) zp :: .mk zk2 zt2 zl2 zp2 :: zs) np) = [(18, yp), (18, zp2)]) := Lib.hid (by simp [hereN, headU, interU, nd0, hi])
              generalize hereN (.mk 3 nt (.mk zk zt (.mk yk yt yl yp :: ys) zp :: .mk zk2 zt2 zl2 zp2 :: zs) np) = R at *
              subst hi
              obtain ⟨-, k0, k2, k3, -⟩ := hK0
              obtain ⟨-, -, -, y3, -⟩ := hK3
              have hK2w := hK2.below hB
              obtain ⟨-, j0, j2, j3, -⟩ := hK2w
              simp only [List.length_cons, List.length_nil, Nd.kind_mk, Nd.kids_mk, Nd.pos_mk] at k0 k2 k3 y3 j0 j2 j3
              generalize ys.length + 1 = qy at *
              generalize zs.length + 1 + 1 = q at *
              go_wp2_with (first | (at_builtin; refine wpList_pushU rfl (.tmp 21) (.tmp 27) rfl (w.heap.size + 1) _ _ [] 18 yp rfl _ rfl (by simp) (OwnU.nil _ _) (by simp) (by simp) ?_; intro g1 q1 w1 hO1 hB1; have hBB1 := hB.trans (hB1.mono (Nat.le_succ _)); have bb1 := b1.below hB1 (Nat.lt_succ_self _); have HOO1 := Lib.hid hO1; have hs1 := Nat.le_trans (show w.heap.size + 1 ≤ _ by simp) hB1.size; obtain ⟨x0, x1, x2, x3, -, -, -, -⟩ := blk4 bb1; obtain ⟨-, j0, j2, j3, -⟩ := hK2.below hBB1; simp only [Nd.kind_mk, Nd.kids_mk, Nd.pos_mk] at j0 j2 j3; clear hO1 hB1) | (at_builtin; refine wpList_pushU rfl (.tmp 49) (.tmp 56) rfl (w.heap.size + 1) _ _ [(18, yp)] 18 zp2 rfl _ rfl (by simp) HOO1.out hs1 (by simp) ?_; intro g2 q2 w2 hO2 hB2; have hBB2 := hBB1.trans (hB2.mono (Nat.le_succ _)); have bb2 := bb1.below hB2 (Nat.lt_succ_self _); have HOO2 := Lib.hid hO2; have hs2 := Nat.le_trans hs1 hB2.size; obtain ⟨x0, x1, x2, x3, -, -, -, -⟩ := blk4 bb2; obtain ⟨-, j0, j2, j3, -⟩ := hK2.below hBB2; simp only [Nd.kind_mk, Nd.kids_mk, Nd.pos_mk] at j0 j2 j3; clear hO2 hB2))
              go_meet
              case rel => rw [HR.out]; exact ⟨HOO2.out, hBB2, bb2⟩
            · have HR : Go.RowKit.Hid (hereN (.mk 3 nt (.mk zk zt (.mk yk yt yl yp :: ys) zp :: .mk zk2 zt2 zl2 zp2 :: zs) np) = [(18, yp)]) := Lib.hid (by simp [hereN, headU, interU, nd0, hi])
              generalize hereN (.mk 3 nt (.mk zk zt (.mk yk yt yl yp :: ys) zp :: .mk zk2 zt2 zl2 zp2 :: zs) np) = R at *
              have hi1 : (zk2 == 14) = false := by simp [hi]
              clear hi
              obtain ⟨-, k0, k2, k3, -⟩ := hK0
              obtain ⟨-, -, -, y3, -⟩ := hK3
              have hK2w := hK2.below hB
              obtain ⟨-, j0, j2, j3, -⟩ := hK2w
              simp only [List.length_cons, List.length_nil, Nd.kind_mk, Nd.kids_mk, Nd.pos_mk] at k0 k2 k3 y3 j0 j2 j3
              generalize ys.length + 1 = qy at *
              generalize zs.length + 1 + 1 = q at *
              go_wp2_with (first | (at_builtin; refine wpList_pushU rfl (.tmp 21) (.tmp 27) rfl (w.heap.size + 1) _ _ [] 18 yp rfl _ rfl (by simp) (OwnU.nil _ _) (by simp) (by simp) ?_; intro g1 q1 w1 hO1 hB1; have hBB1 := hB.trans (hB1.mono (Nat.le_succ _)); have bb1 := b1.below hB1 (Nat.lt_succ_self _); have HOO1 := Lib.hid hO1; have hs1 := Nat.le_trans (show w.heap.size + 1 ≤ _ by simp) hB1.size; obtain ⟨x0, x1, x2, x3, -, -, -, -⟩ := blk4 bb1; obtain ⟨-, j0, j2, j3, -⟩ := hK2.below hBB1; simp only [Nd.kind_mk, Nd.kids_mk, Nd.pos_mk] at j0 j2 j3; clear hO1 hB1))
              go_meet
              case rel => rw [HR.out]; exact ⟨HOO1.out, hBB1, bb1⟩
        · by_cases h4 : nk = 4
          · subst h4
            rcases nl with _ | ⟨⟨zk, zt, zl, zp⟩, zs⟩
            · exact absurd (HND.out.1.1 (.inr rfl)) (by simp)
            obtain ⟨b, off, A1, c1, rfl, hK0⟩ := HV.out.kid0
            have hq0 : (0 : Int) < ((zs.length + 1 : Nat) : Int) := by omega
            simp only [List.length_cons] at *
            rcases zl with _ | ⟨⟨yk, yt, yl, yp⟩, ys⟩
            · have hK0 := hK0.below hB
              have HR : Go.RowKit.Hid (hereN (.mk 4 nt (.mk zk zt [] zp :: zs) np) = []) := Lib.hid (by simp [hereN, headU, interU, nd0])
              generalize hereN (.mk 4 nt (.mk zk zt [] zp :: zs) np) = R at *
              obtain ⟨-, k0, k2, k3, -⟩ := hK0
              simp only [List.length_cons, List.length_nil, Nd.kind_mk, Nd.kids_mk, Nd.pos_mk] at k0 k2 k3
              generalize zs.length + 1 = q at *
              go_wp2_with fail
              go_meet
              case rel => rw [HR.out]; exact ⟨(OwnU.nil _ _), hB, b1⟩
            · obtain ⟨bk, off1, A3, c3, rfl, hK3⟩ := hK0.nv.kid0
              have hK3 := hK3.below hB
              have hp0 : (0 : Int) < ((ys.length + 1 : Nat) : Int) := by omega
              have hp1 : 0 < ys.length + 1 := by omega
              have hK0 := hK0.below hB
              have HR : Go.RowKit.Hid (hereN (.mk 4 nt (.mk zk zt (.mk yk yt yl yp :: ys) zp :: zs) np) = [(18, yp), (24, np)]) := Lib.hid (by simp [hereN, headU, interU, nd0])
              generalize hereN (.mk 4 nt (.mk zk zt (.mk yk yt yl yp :: ys) zp :: zs) np) = R at *
              obtain ⟨-, k0, k2, k3, -⟩ := hK0
              obtain ⟨-, -, -, y3, -⟩ := hK3
              simp only [List.length_cons, List.length_nil, Nd.kind_mk, Nd.kids_mk, Nd.pos_mk] at k0 k2 k3 y3
              generalize ys.length + 1 = qy at *
              generalize zs.length + 1 = q at *
              go_wp2_with (first | (at_builtin; refine wpList_pushU rfl (.tmp 21) (.tmp 27) rfl (w.heap.size + 1) _ _ [] 18 yp rfl _ rfl (by simp) (OwnU.nil _ _) (by simp) (by simp) ?_; intro g1 q1 w1 hO1 hB1; have hBB1 := hB.trans (hB1.mono (Nat.le_succ _)); have bb1 := b1.below hB1 (Nat.lt_succ_self _); have HOO1 := Lib.hid hO1; have hs1 := Nat.le_trans (show w.heap.size + 1 ≤ _ by simp) hB1.size; obtain ⟨x0, x1, x2, x3, -, -, -, -⟩ := blk4 bb1; clear hO1 hB1) | (at_builtin; refine wpList_pushU rfl (.tmp 32) (.tmp 36) rfl (w.heap.size + 1) _ _ [(18, yp)] 24 np rfl _ rfl (by simp) HOO1.out hs1 (by simp) ?_; intro g2 q2 w2 hO2 hB2; have hBB2 := hBB1.trans (hB2.mono (Nat.le_succ _)); have bb2 := bb1.below hB2 (Nat.lt_succ_self _); have HOO2 := Lib.hid hO2; have hs2 := Nat.le_trans hs1 hB2.size; obtain ⟨x0, x1, x2, x3, -, -, -, -⟩ := blk4 bb2; clear hO2 hB2))
              go_meet
              case rel => rw [HR.out]; exact ⟨HOO2.out, hBB2, bb2⟩
          · by_cases h10 : nk = 10
            · have HR : Go.RowKit.Hid (hereN (.mk nk nt nl np) = if 0 < nl.length then [(18, np)] else []) := Lib.hid (by unfold hereN; simp [h10])
              subst h10
              generalize hereN (.mk 10 nt nl np) = R at *
              by_cases hl : 0 < nl.length
              · have HR1 := Lib.hid (HR.out.trans (if_pos hl))
                go_wp2_with (at_builtin; refine wpList_pushU rfl (.tmp 64) (.tmp 68) rfl (w.heap.size + 1) _ _ [] 18 np rfl _ rfl (by simp) (OwnU.nil _ _) (by simp) (by simp) ?_; intro g3 c3 w3 hO3 hB3)
                go_meet
                case rel => rw [HR1.out]; exact ⟨hO3, hB.trans (hB3.mono (Nat.le_succ _)), b1.below hB3 (Nat.lt_succ_self _)⟩
              · have HR1 := Lib.hid (HR.out.trans (if_neg hl))
                go_wp2_with fail
                go_meet
                case rel => rw [HR1.out]; exact ⟨OwnU.nil _ _, hB, b1⟩
            · by_cases h22 : nk = 22
              · subst h22
                rcases nl with _ | ⟨⟨zk, zt, zl, zp⟩, zs⟩
                · exact absurd (HND.out.1.2 (.inr rfl)) (by simp)
                rcases zs with _ | ⟨⟨zk2, zt2, zl2, zp2⟩, zs⟩
                · exact absurd (HND.out.1.2 (.inr rfl)) (by simp)
                obtain ⟨b, off, A1, c1, rfl, hK0⟩ := HV.out.kid0
                obtain ⟨A2, c2, hK2⟩ := HV.out.kid1
                have hq1 : (1 : Int) < ((zs.length + 1 + 1 : Nat) : Int) := by omega
                have hK2 := hK2.below hB
                have hq2 : (2 : Int) < ((zs.length + 1 + 1 : Nat) : Int) ↔ 0 < zs.length := by omega
                have HR : Go.RowKit.Hid (hereN (.mk 22 nt (.mk zk zt zl zp :: .mk zk2 zt2 zl2 zp2 :: zs) np) = if 0 < zs.length ∨ zk2 = 11 ∨ zk2 = 12 then [(18, np)] else []) := Lib.hid (by simp [hereN, nd0])
                generalize hereN (.mk 22 nt (.mk zk zt zl zp :: .mk zk2 zt2 zl2 zp2 :: zs) np) = R at *
                simp only [List.length_cons] at *
                obtain ⟨-, j0, j2, j3, -⟩ := hK2
                simp only [Nd.kind_mk, Nd.kids_mk, Nd.pos_mk] at j0 j2 j3
                by_cases hz : 0 < zs.length
                · have HR1 := Lib.hid (HR.out.trans (if_pos (.inl hz)))
                  have hq3 := hq2.2 hz
                  have hq4 : 2 < zs.length + 1 + 1 := by omega
                  clear hq2 hz
                  clear HR
                  generalize zs.length + 1 + 1 = q at *
                  go_wp2_with (at_builtin; refine wpList_pushU rfl (.tmp 92) (.tmp 96) rfl (w.heap.size + 1) _ _ [] 18 np rfl _ rfl (by simp) (OwnU.nil _ _) (by simp) (by simp) ?_; intro g3 q3 w3 hO3 hB3)
                  go_meet
                  case rel => rw [HR1.out]; exact ⟨hO3, hB.trans (hB3.mono (Nat.le_succ _)), b1.below hB3 (Nat.lt_succ_self _)⟩
                · have hq3 : ¬ (2 : Int) < ((zs.length + 1 + 1 : Nat) : Int) := fun h => hz (hq2.1 h)
                  have hq4 : ¬ 2 < zs.length + 1 + 1 := by omega
                  clear hq2
                  by_cases h11 : zk2 = 11
                  · subst h11
                    have HR1 := Lib.hid (HR.out.trans (if_pos (.inr (.inl rfl))))
                    clear hz
                    clear HR
                    generalize zs.length + 1 + 1 = q at *
                    go_wp2_with (at_builtin; refine wpList_pushU rfl (.tmp 92) (.tmp 96) rfl (w.heap.size + 1) _ _ [] 18 np rfl _ rfl (by simp) (OwnU.nil _ _) (by simp) (by simp) ?_; intro g3 q3 w3 hO3 hB3)
                    go_meet
                    case rel => rw [HR1.out]; exact ⟨hO3, hB.trans (hB3.mono (Nat.le_succ _)), b1.below hB3 (Nat.lt_succ_self _)⟩
                  · by_cases h12 : zk2 = 12
                    · subst h12
                      have HR1 := Lib.hid (HR.out.trans (if_pos (.inr (.inr rfl))))
                      clear hz h11
                      clear HR
                      generalize zs.length + 1 + 1 = q at *
                      go_wp2_with (at_builtin; refine wpList_pushU rfl (.tmp 92) (.tmp 96) rfl (w.heap.size + 1) _ _ [] 18 np rfl _ rfl (by simp) (OwnU.nil _ _) (by simp) (by simp) ?_; intro g3 q3 w3 hO3 hB3)
                      go_meet
                      case rel => rw [HR1.out]; exact ⟨hO3, hB.trans (hB3.mono (Nat.le_succ _)), b1.below hB3 (Nat.lt_succ_self _)⟩
                    · have HR1 := Lib.hid (HR.out.trans (if_neg (fun h => h.elim hz (fun h => h.elim h11 h12))))
                      have e11 : (zk2 == 11) = false := by simp [h11]
                      have e12 : (zk2 == 12) = false := by simp [h12]
                      clear hz h11 h12
                      clear HR
                      generalize zs.length + 1 + 1 = q at *
                      go_wp2_with fail
                      go_meet
                      case rel => rw [HR1.out]; exact ⟨OwnU.nil _ _, hB, b1⟩
              · have HR : Go.RowKit.Hid (hereN (.mk nk nt nl np) = []) := Lib.hid (by unfold hereN; simp [h2, h3, h4, h10, h22])
                generalize hereN (.mk nk nt nl np) = R at *
                have e2 : (nk == 2) = false := by simp [h2]
                have e3 : (nk == 3) = false := by simp [h3]
                have e4 : (nk == 4) = false := by simp [h4]
                have e10 : (nk == 10) = false := by simp [h10]
                have e22 : (nk == 22) = false := by simp [h22]
                clear h2 h3 h4 h10 h22
                go_wp2_with fail
                go_meet
                case rel => rw [HR.out]; exact ⟨OwnU.nil _ _, hB, b1⟩
    case rest =>
      obtain ⟨hO1, hB1, c1⟩ := hcut
      obtain ⟨x0, x1, x2, x3, _, _, _, _⟩ := blk4 c1
      have HO1 := Lib.hid (hO1.less (Nat.le_succ _))
      clear hO1 hB b1 HV1
      have HT := Lib.hid (show hereT (g + 1) n = hereN n ++ n.kids.flatMap (hereT g) from rfl)
      have HLN := Lib.hid (hereN_le n)
      generalize hereN n = acc0 at *
      go_wp2_with fail
      go_loopg [3, 6, 101] n.kids.length (fun g1 u3 _ u101 wr => ∃ i : Nat, i ≤ n.kids.length ∧ n.kids.length - i ≤ g1 ∧ u101 = .int .i64 (i : Int) ∧ OwnU w.heap.size wr u3 (acc0 ++ (n.kids.take i).flatMap (hereT g)) ∧ Below w.heap.size w wr)
      case atStart => exact ⟨0, Nat.zero_le _, by omega, rfl, by simpa using HO1.out, hB1⟩
      case round =>
        clear x0 x1 x2 x3 c1 HO1
        obtain ⟨i, hi, hg, rfl, hO, hB⟩ := hrel
        have HO := Lib.hid hO
        clear hO
        by_cases hlt : i < n.kids.length
        · have hlt2 : (i : Int) < (n.kids.length : Int) := by omega
          have h0 : (0 : Int) ≤ (i : Int) := by omega
          obtain ⟨b, off, A1, cp1, rfl, -, hbl, k0, k1, k2, k3, hkn⟩ := (HV.out.below hB).kidsV.kid i hlt
          have hmem := List.getElem_mem hlt
          have HM := Lib.hid (And.intro (HD.out.2 _ hmem) (HND.out.2 _ hmem))
          have HTK := Lib.hid (show acc0 ++ (n.kids.take (i + 1)).flatMap (hereT g) = (acc0 ++ (n.kids.take i).flatMap (hereT g)) ++ hereT g n.kids[i] by rw [List.take_succ_eq_append_getElem hlt, List.flatMap_append, List.append_assoc]; simp)
          have hle : ((n.kids.take i).flatMap (lefts g)).length + (lefts g n.kids[i]).length ≤ (n.kids.flatMap (lefts g)).length := by
            conv => rhs; rw [← List.take_append_drop (i + 1) n.kids, List.flatMap_append, List.take_succ_eq_append_getElem hlt, List.flatMap_append]
            simp
          have hle2 := flatMap_le (hereT g) (lefts g) (n.kids.take i) fun k _ => hereT_le g k
          clear hmem
          generalize n.kids[i] = x at *
          have hle3 := hereT_le g x
          have hNN := HN.out
          rw [lefts, List.length_cons] at hNN
          have HLE := Lib.hid (show (acc0 ++ (n.kids.take i).flatMap (hereT g)).length + (hereT g x).length ≤ 1000000 by have := HLN.out; rw [List.length_append]; omega)
          have HBR := Lib.hid (hB.alloc hB.size (.cells #[.int .i64 x.kind, .string x.text, .slice A1 x.kids.length cp1, .int .i64 x.pos] 24))
          have HC := Lib.hid (HI.out _ x (wr.alloc (.cells #[.int .i64 x.kind, .string x.text, .slice A1 x.kids.length cp1, .int .i64 x.pos] 24)) (hkn.below ((Below.refl _ wr).alloc (Nat.le_refl _) _)).wide HM.out.1 HM.out.2 (by omega))
          have HO1 := Lib.hid (HO.out.below ((Below.refl _ wr).alloc (Nat.le_refl _) (.cells #[.int .i64 x.kind, .string x.text, .slice A1 x.kids.length cp1, .int .i64 x.pos] 24)))
          generalize acc0 ++ (n.kids.take i).flatMap (hereT g) = acc at *
          clear hkn hle hle2 hle3 hNN HM HO hB
          go_wp2_with fail
          refine HC.out.mono ?_
          rintro e w2 ⟨⟨v2, rfl, hv2⟩, hb2⟩
          have HO2 := Lib.hid (HO1.out.below hb2)
          have HV2 := Lib.hid hv2
          have HB2 := HBR.out.trans (hb2.mono HBR.out.size)
          clear hb2 hv2 HC HO1 k0 k1 k2 k3
          have hsz := HB2.size
          go_wp2_with (at_builtin; refine wpList_appU rfl (.tmp 105) (.tmp 107) rfl w.heap.size _ _ _ _ _ _ rfl rfl HO2.out HV2.out hsz HLE.out ?_; intro v3 w3 hO3 hB3)
          have HO3 := Lib.hid hO3
          clear hO3
          go_roundg (n.kids.length - (i + 1))
          case measure => omega
          case rel => exact ⟨i + 1, by omega, by omega, by go_num, by rw [HTK.out]; exact HO3.out, HB2.trans hB3⟩
        · have hlt2 : ¬ (i : Int) < (n.kids.length : Int) := by omega
          have ht : n.kids.take i = n.kids := List.take_of_length_le (by omega)
          rw [ht, ← HT.out] at HO
          clear ht
          go_wp2_with fail
          go_ret
          exact ⟨⟨_, rfl, HO.out⟩, hB⟩
end Go.Proofs.YtnalfjaojcahhaaGreatDoor
