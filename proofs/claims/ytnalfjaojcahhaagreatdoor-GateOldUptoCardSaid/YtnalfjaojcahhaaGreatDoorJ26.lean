/-
  demoticref13.Uses: all that a right file needs, as the document says it. By an AI agent.
  demoticref06.Type: a type. By an AI agent.
-/
import Derived.Test.YtnalfjaojcahhaaGreatDoorJ24
import Derived.Test.YtnalfjaojcahhaaGreatDoorJ25
import Derived.Test.YtnalfjaojcahhaaGreatDoorJ21
namespace Go.Proofs.YtnalfjaojcahhaaGreatDoor
open Go.RowKit Go.Lib Go.Proofs Go.Sort
attribute [local go_sem ↓] Go.wp_at_zero Go.wp_at_succ

theorem allT_need : ∀ (g : Nat) (n : Nd), NeedA n → ∀ x ∈ allT g n, NeedA x
  | 0, _, _, x, hx => by simp [allT] at hx
  | g + 1, n, h, x, hx => by
    rw [allT] at hx
    rcases List.mem_cons.1 hx with rfl | hx
    · exact h
    · obtain ⟨k, hk, hx⟩ := List.mem_flatMap.1 hx
      exact allT_need g k (((needA_iff n).1 h).2 k hk) x hx
theorem puts_bound (all : List Nd) (i : Nat) (h : all.length ≤ 400000) : (putsU [] ((all.take i).flatMap hereN)).length ≤ 800000 := by
  have h1 := putsU_len ((all.take i).flatMap hereN) []
  have h2 : ((all.take i).flatMap hereN).length ≤ 2 * (all.take i).length := by
    generalize all.take i = l
    induction l with
    | nil => simp
    | cons x l ih =>
      rw [List.flatMap_cons, List.length_append, List.length_cons]
      have := hereN_le x
      omega
  have h3 : (all.take i).length ≤ all.length := by rw [List.length_take]; omega
  simp only [List.length_nil] at h1
  omega
/-- What stands in the place of the row behind a round. -/
def RoundU (wr : World) (us : Us) (R : Us) (s3 : Value) (wy : World) : Prop :=
  ∃ (A : Option Addr) (c : Nat) (us' : Us), s3 = .slice A us'.length c ∧ us'.length ≤ c ∧ us' = putsU us R ∧ Reads wy wy.heap.size 2 A us'.length (usesC us') ∧ Below wr.heap.size wr wy

set_option maxRecDepth 100000 in
set_option maxHeartbeats 8000000 in
set_option linter.unusedSimpArgs false in
theorem ruses_any (v : Value) (n : Nd) (w : World) (hv : NodeW w v n) (hw : Wee 200 n) (hc : (lefts 200 n).length ≤ 400000) (hnd : NeedA n) :
    Calls Tryz.prog 14 #[v] w fun e w' => SliceU w (rusesT n) e w' := by
  have hv2 : NodeV (fun b => b < w.heap.size) w v n := hv.mono fun b _ hlt => hlt
  obtain ⟨A, cp, rfl, hC⟩ := hv.toC
  have hB := (Below.refl w.heap.size w).alloc (Nat.le_refl _) (.cells #[.int .i64 n.kind, .string n.text, .slice A n.kids.length cp, .int .i64 n.pos] 24)
  have HA := Lib.hid (uall_any w.heap.size 200 _ n (w.alloc (.cells #[.int .i64 n.kind, .string n.text, .slice A n.kids.length cp, .int .i64 n.pos] 24)) (by decide) (NodeV.below hv2 ((Below.refl _ w).alloc (Nat.le_refl _) _)) (by simp) hw hc)
  have HNA := Lib.hid (allT_need 200 n hnd)
  have hal := allT_len 200 n
  have HRU := Lib.hid (show rusesT n = putsU [] ((allT 200 n).flatMap hereN) from rfl)
  have hall : (allT 200 n).length ≤ 400000 := by omega
  clear hv hv2 hC hw hnd hal hc
  generalize allT 200 n = all at *
  go_enter Tryz.func14, Tryz.ntmps14
  go_wp2_with fail
  refine HA.out.mono ?_
  rintro e w2 ⟨⟨v4, rfl, hO⟩, hb2⟩
  have HB2 := Lib.hid (hB.trans (hb2.mono hB.size))
  have hvs := hO.values
  obtain ⟨A4, c4, rfl, hc4⟩ := hO.form
  have HVS := Lib.hid hvs
  have hlc4 := Lib.hid hc4
  clear HA hO hb2 hB hvs hc4
  go_wp2_with fail
  go_loopg [3, 5] all.length (fun g u3 u5 wr => ∃ (i : Nat) (A3 : Option Addr) (c3 : Nat) (us : Us), i ≤ all.length ∧ all.length - i ≤ g ∧ u5 = .int .i64 (i : Int) ∧ u3 = .slice A3 us.length c3 ∧ us.length ≤ c3 ∧ us = putsU [] ((all.take i).flatMap hereN) ∧ Reads wr wr.heap.size 2 A3 us.length (usesC us) ∧ Below w2.heap.size w2 wr)
  case atStart => exact ⟨0, none, 0, [], Nat.zero_le _, by omega, rfl, rfl, Nat.le_refl _, by simp [putsU], Reads.none_, Below.refl _ _⟩
  case round =>
    rename World => wr
    obtain ⟨i, A3, c3, us, hi, hg, rfl, rfl, hlc, hus, hrd, hBr⟩ := hrel
    have HUS := Lib.hid hus
    have hl0 : us.length ≤ 900000 := by rw [hus]; exact Nat.le_trans (puts_bound all i hall) (by omega)
    have HRD0 := Lib.hid hrd
    have HBR := Lib.hid hBr
    clear hus hrd
    by_cases hlt : i < all.length
    · have hlt2 : (i : Int) < (all.length : Int) := by omega
      have h0 : (0 : Int) ≤ (i : Int) := by omega
      obtain ⟨b4, o4, A5, c5, rfl, -, hbl, k0, k1, k2, k3, hkn⟩ := (HVS.out.below hBr).kid i hlt
      have HTK := Lib.hid (show (all.take (i + 1)).flatMap hereN = (all.take i).flatMap hereN ++ hereN all[i] by rw [List.take_succ_eq_append_getElem hlt, List.flatMap_append]; simp)
      have HND := Lib.hid (((needA_iff _).1 (HNA.out _ (List.getElem_mem hlt))).1)
      have HKN := Lib.hid hkn
      clear hkn hBr
      generalize all[i] = x at *
      obtain ⟨nk, nt, nl, np⟩ := x
      simp only [Nd.kids_mk, Nd.kind_mk, Nd.text_mk, Nd.pos_mk] at *
      go_upto_block 1 with fail
      go_cut [3] (fun s3 wy => RoundU wr us (hereN (.mk nk nt nl np)) s3 wy)
      case first =>
        clear HTK HUS HBR HVS HNA HRU HB2
        go_upto_block 2 with fail
        have bx0 : Blk (wr.alloc (.cells #[.int .i64 nk, .string nt, .slice A5 nl.length c5, .int .i64 np] 24)) wr.heap.size 24 #[.int .i64 nk, .string nt, .slice A5 nl.length c5, .int .i64 np] := Blk.new wr _ _
        have hBx : Below wr.heap.size wr (wr.alloc (.cells #[.int .i64 nk, .string nt, .slice A5 nl.length c5, .int .i64 np] 24)) := by (repeat' (first | with_reducible assumption | with_reducible exact Below.refl _ _ | with_reducible refine Below.alloc ?_ ?_ _ | with_reducible refine Below.setCell ?_ ?_ _ | with_reducible refine Below.drew ?_ | with_reducible refine below_drewN ?_ _ | (simp <;> omega) | omega))
        change Code.wp _ _ _ _ (wr.alloc (.cells #[.int .i64 nk, .string nt, .slice A5 nl.length c5, .int .i64 np] 24))
        generalize wr.alloc (.cells #[.int .i64 nk, .string nt, .slice A5 nl.length c5, .int .i64 np] 24) = wx at *
        have HV := Lib.hid (HKN.out.below hBx)
        have HRD := Lib.hid ((HRD0.out.below hBx).more hBx.size)
        have HB := Lib.hid hBx
        generalize wr.heap.size = bX at bx0 hBx ⊢
        have bx := bx0
        clear hBx k0 k1 k2 k3 HKN HRD0 bx0
        by_cases h2 : nk = 2
        · subst h2
          rcases nl with _ | ⟨⟨zk, zt, zl, zp⟩, zs⟩
          · exact absurd (HND.out.1 (.inl rfl)) (by simp)
          obtain ⟨b, off, A1, c1, rfl, hK0⟩ := HV.out.kid0
          have hq0 : (0 : Int) < ((zs.length + 1 : Nat) : Int) := by omega
          simp only [List.length_cons] at *
          rcases zl with _ | ⟨⟨yk, yt, yl, yp⟩, yz⟩
          · have HR : Go.RowKit.Hid (hereN (.mk 2 nt (.mk zk zt [] zp :: zs) np) = []) := Lib.hid (by simp [hereN, headU, interU, nd0])
            generalize hereN (.mk 2 nt (.mk zk zt [] zp :: zs) np) = R at *
            obtain ⟨x0, x1, x2, x3, -, -, -, -⟩ := blk4 bx
            have hK0a := hK0
            obtain ⟨-, k0, k2, k3, -⟩ := hK0a
            simp only [List.length_cons, List.length_nil, Nd.kind_mk, Nd.kids_mk, Nd.pos_mk] at *
            generalize zs.length + 1 = q at *
            go_wp2_with fail
            go_meet
            case rel => rw [HR.out]; exact ⟨_, _, _, rfl, hlc, rfl, HRD.out, HB.out⟩
          · obtain ⟨bk, off1, A4, c4, rfl, hK3⟩ := hK0.nv.kid0
            have hp0 : (0 : Int) < ((yz.length + 1 : Nat) : Int) := by omega
            have hp1 : 0 < yz.length + 1 := by omega
            have HR : Go.RowKit.Hid (hereN (.mk 2 nt (.mk zk zt (.mk yk yt yl yp :: yz) zp :: zs) np) = [(18, yp)]) := Lib.hid (by simp [hereN, headU, interU, nd0])
            generalize hereN (.mk 2 nt (.mk zk zt (.mk yk yt yl yp :: yz) zp :: zs) np) = R at *
            obtain ⟨x0, x1, x2, x3, -, -, -, -⟩ := blk4 bx
            have hK0a := hK0
            obtain ⟨-, k0, k2, k3, -⟩ := hK0a
            have hK3a := hK3
            obtain ⟨-, -, -, y3, -⟩ := hK3a
            simp only [List.length_cons, List.length_nil, Nd.kind_mk, Nd.kids_mk, Nd.pos_mk] at *
            generalize yz.length + 1 = qy at *
            generalize zs.length + 1 = q at *
            go_wp2_with fail
            refine (put_any A3 c3 us 18 yp _ HRD.out hlc (by omega)).mono ?_
            rintro e q1 ⟨A31, c31, rfl, hlc1, hr1, hb1⟩
            have HB1 := Lib.hid (HB.out.trans (hb1.mono HB.out.size))
            have bx1 := bx.below hb1 bx.lt
            have hl1 : (putU us (18, yp)).length ≤ 900001 := Nat.le_trans (putU_len _ _) (by omega)
            have HR1x := Lib.hid hr1
            have hK0x1 := hK0.below hb1
            have hK3x1 := hK3.below hb1
            clear hr1 hb1 x0 x1 x2 x3 k0 k2 k3 y3
            obtain ⟨x0, x1, x2, x3, -, -, -, -⟩ := blk4 bx1
            have hK0y := hK0x1
            obtain ⟨-, k0, k2, k3, -⟩ := hK0y
            have hK3y := hK3x1
            obtain ⟨-, -, -, y3, -⟩ := hK3y
            simp only [List.length_cons, List.length_nil, Nd.kind_mk, Nd.kids_mk, Nd.pos_mk] at k0 k2 k3 y3
            go_wp2_with fail
            go_meet
            case rel => rw [HR.out]; exact ⟨_, _, _, rfl, hlc1, rfl, HR1x.out, HB1.out⟩
        · by_cases h3 : nk = 3
          · subst h3
            rcases nl with _ | ⟨⟨zk, zt, zl, zp⟩, zs⟩
            · exact absurd (HND.out.2 (.inl rfl)) (by simp)
            rcases zs with _ | ⟨⟨zk2, zt2, zl2, zp2⟩, zs⟩
            · exact absurd (HND.out.2 (.inl rfl)) (by simp)
            obtain ⟨b, off, A1, c1, rfl, hK0⟩ := HV.out.kid0
            obtain ⟨A2, c2, hK2⟩ := HV.out.kid1
            have hq1 : (1 : Int) < ((zs.length + 1 + 1 : Nat) : Int) := by omega
            have hq0 : (0 : Int) < ((zs.length + 1 + 1 : Nat) : Int) := by omega
            simp only [List.length_cons] at *
            rcases zl with _ | ⟨⟨yk, yt, yl, yp⟩, yz⟩
            · by_cases hi : zk2 = 14
              · have HR : Go.RowKit.Hid (hereN (.mk 3 nt (.mk zk zt [] zp :: .mk zk2 zt2 zl2 zp2 :: zs) np) = [(18, zp2)]) := Lib.hid (by simp [hereN, headU, interU, nd0, hi])
                generalize hereN (.mk 3 nt (.mk zk zt [] zp :: .mk zk2 zt2 zl2 zp2 :: zs) np) = R at *
                subst hi
                obtain ⟨x0, x1, x2, x3, -, -, -, -⟩ := blk4 bx
                have hK0a := hK0
                obtain ⟨-, k0, k2, k3, -⟩ := hK0a
                have hK2a := hK2
                obtain ⟨-, j0, j2, j3, -⟩ := hK2a
                simp only [List.length_cons, List.length_nil, Nd.kind_mk, Nd.kids_mk, Nd.pos_mk] at *
                generalize zs.length + 1 + 1 = q at *
                go_wp2_with fail
                refine (put_any A3 c3 us 18 zp2 _ HRD.out hlc (by omega)).mono ?_
                rintro e q1 ⟨A31, c31, rfl, hlc1, hr1, hb1⟩
                have HB1 := Lib.hid (HB.out.trans (hb1.mono HB.out.size))
                have bx1 := bx.below hb1 bx.lt
                have hl1 : (putU us (18, zp2)).length ≤ 900001 := Nat.le_trans (putU_len _ _) (by omega)
                have HR1x := Lib.hid hr1
                have hK0x1 := hK0.below hb1
                have hK2x1 := hK2.below hb1
                clear hr1 hb1 x0 x1 x2 x3 k0 k2 k3 j0 j2 j3
                obtain ⟨x0, x1, x2, x3, -, -, -, -⟩ := blk4 bx1
                have hK0y := hK0x1
                obtain ⟨-, k0, k2, k3, -⟩ := hK0y
                have hK2y := hK2x1
                obtain ⟨-, j0, j2, j3, -⟩ := hK2y
                simp only [List.length_cons, List.length_nil, Nd.kind_mk, Nd.kids_mk, Nd.pos_mk] at k0 k2 k3 j0 j2 j3
                go_wp2_with fail
                go_meet
                case rel => rw [HR.out]; exact ⟨_, _, _, rfl, hlc1, rfl, HR1x.out, HB1.out⟩
              · have HR : Go.RowKit.Hid (hereN (.mk 3 nt (.mk zk zt [] zp :: .mk zk2 zt2 zl2 zp2 :: zs) np) = []) := Lib.hid (by simp [hereN, headU, interU, nd0, hi])
                generalize hereN (.mk 3 nt (.mk zk zt [] zp :: .mk zk2 zt2 zl2 zp2 :: zs) np) = R at *
                have hi1 : (zk2 == 14) = false := by simp [hi]
                clear hi
                obtain ⟨x0, x1, x2, x3, -, -, -, -⟩ := blk4 bx
                have hK0a := hK0
                obtain ⟨-, k0, k2, k3, -⟩ := hK0a
                have hK2a := hK2
                obtain ⟨-, j0, j2, j3, -⟩ := hK2a
                simp only [List.length_cons, List.length_nil, Nd.kind_mk, Nd.kids_mk, Nd.pos_mk] at *
                generalize zs.length + 1 + 1 = q at *
                go_wp2_with fail
                go_meet
                case rel => rw [HR.out]; exact ⟨_, _, _, rfl, hlc, rfl, HRD.out, HB.out⟩
            · obtain ⟨bk, off1, A4, c4, rfl, hK3⟩ := hK0.nv.kid0
              have hp0 : (0 : Int) < ((yz.length + 1 : Nat) : Int) := by omega
              have hp1 : 0 < yz.length + 1 := by omega
              by_cases hi : zk2 = 14
              · have HR : Go.RowKit.Hid (hereN (.mk 3 nt (.mk zk zt (.mk yk yt yl yp :: yz) zp :: .mk zk2 zt2 zl2 zp2 :: zs) np) = [(18, yp), (18, zp2)]) := Lib.hid (by simp [hereN, headU, interU, nd0, hi])
                generalize hereN (.mk 3 nt (.mk zk zt (.mk yk yt yl yp :: yz) zp :: .mk zk2 zt2 zl2 zp2 :: zs) np) = R at *
                subst hi
                obtain ⟨x0, x1, x2, x3, -, -, -, -⟩ := blk4 bx
                have hK0a := hK0
                obtain ⟨-, k0, k2, k3, -⟩ := hK0a
                have hK3a := hK3
                obtain ⟨-, -, -, y3, -⟩ := hK3a
                have hK2a := hK2
                obtain ⟨-, j0, j2, j3, -⟩ := hK2a
                simp only [List.length_cons, List.length_nil, Nd.kind_mk, Nd.kids_mk, Nd.pos_mk] at *
                generalize yz.length + 1 = qy at *
                generalize zs.length + 1 + 1 = q at *
                go_wp2_with fail
                refine (put_any A3 c3 us 18 yp _ HRD.out hlc (by omega)).mono ?_
                rintro e q1 ⟨A31, c31, rfl, hlc1, hr1, hb1⟩
                have HB1 := Lib.hid (HB.out.trans (hb1.mono HB.out.size))
                have bx1 := bx.below hb1 bx.lt
                have hl1 : (putU us (18, yp)).length ≤ 900001 := Nat.le_trans (putU_len _ _) (by omega)
                have HR1x := Lib.hid hr1
                have hK0x1 := hK0.below hb1
                have hK2x1 := hK2.below hb1
                have hK3x1 := hK3.below hb1
                clear hr1 hb1 x0 x1 x2 x3 k0 k2 k3 y3 j0 j2 j3
                obtain ⟨x0, x1, x2, x3, -, -, -, -⟩ := blk4 bx1
                have hK0y := hK0x1
                obtain ⟨-, k0, k2, k3, -⟩ := hK0y
                have hK2y := hK2x1
                obtain ⟨-, j0, j2, j3, -⟩ := hK2y
                have hK3y := hK3x1
                obtain ⟨-, -, -, y3, -⟩ := hK3y
                simp only [List.length_cons, List.length_nil, Nd.kind_mk, Nd.kids_mk, Nd.pos_mk] at k0 k2 k3 y3 j0 j2 j3
                go_wp2_with fail
                refine (put_any A31 c31 (putU us (18, yp)) 18 zp2 _ HR1x.out hlc1 (by omega)).mono ?_
                rintro e q2 ⟨A32, c32, rfl, hlc2, hr2, hb2⟩
                have HB2 := Lib.hid (HB1.out.trans (hb2.mono HB1.out.size))
                have bx2 := bx1.below hb2 bx1.lt
                have hl2 : (putU ((putU us (18, yp))) (18, zp2)).length ≤ 900002 := Nat.le_trans (putU_len _ _) (by omega)
                have HR2x := Lib.hid hr2
                have hK0x2 := hK0x1.below hb2
                have hK2x2 := hK2x1.below hb2
                have hK3x2 := hK3x1.below hb2
                clear hr2 hb2 x0 x1 x2 x3 k0 k2 k3 y3 j0 j2 j3
                obtain ⟨x0, x1, x2, x3, -, -, -, -⟩ := blk4 bx2
                have hK0y := hK0x2
                obtain ⟨-, k0, k2, k3, -⟩ := hK0y
                have hK2y := hK2x2
                obtain ⟨-, j0, j2, j3, -⟩ := hK2y
                have hK3y := hK3x2
                obtain ⟨-, -, -, y3, -⟩ := hK3y
                simp only [List.length_cons, List.length_nil, Nd.kind_mk, Nd.kids_mk, Nd.pos_mk] at k0 k2 k3 y3 j0 j2 j3
                go_wp2_with fail
                go_meet
                case rel => rw [HR.out]; exact ⟨_, _, _, rfl, hlc2, rfl, HR2x.out, HB2.out⟩
              · have HR : Go.RowKit.Hid (hereN (.mk 3 nt (.mk zk zt (.mk yk yt yl yp :: yz) zp :: .mk zk2 zt2 zl2 zp2 :: zs) np) = [(18, yp)]) := Lib.hid (by simp [hereN, headU, interU, nd0, hi])
                generalize hereN (.mk 3 nt (.mk zk zt (.mk yk yt yl yp :: yz) zp :: .mk zk2 zt2 zl2 zp2 :: zs) np) = R at *
                have hi1 : (zk2 == 14) = false := by simp [hi]
                clear hi
                obtain ⟨x0, x1, x2, x3, -, -, -, -⟩ := blk4 bx
                have hK0a := hK0
                obtain ⟨-, k0, k2, k3, -⟩ := hK0a
                have hK3a := hK3
                obtain ⟨-, -, -, y3, -⟩ := hK3a
                have hK2a := hK2
                obtain ⟨-, j0, j2, j3, -⟩ := hK2a
                simp only [List.length_cons, List.length_nil, Nd.kind_mk, Nd.kids_mk, Nd.pos_mk] at *
                generalize yz.length + 1 = qy at *
                generalize zs.length + 1 + 1 = q at *
                go_wp2_with fail
                refine (put_any A3 c3 us 18 yp _ HRD.out hlc (by omega)).mono ?_
                rintro e q1 ⟨A31, c31, rfl, hlc1, hr1, hb1⟩
                have HB1 := Lib.hid (HB.out.trans (hb1.mono HB.out.size))
                have bx1 := bx.below hb1 bx.lt
                have hl1 : (putU us (18, yp)).length ≤ 900001 := Nat.le_trans (putU_len _ _) (by omega)
                have HR1x := Lib.hid hr1
                have hK0x1 := hK0.below hb1
                have hK2x1 := hK2.below hb1
                have hK3x1 := hK3.below hb1
                clear hr1 hb1 x0 x1 x2 x3 k0 k2 k3 y3 j0 j2 j3
                obtain ⟨x0, x1, x2, x3, -, -, -, -⟩ := blk4 bx1
                have hK0y := hK0x1
                obtain ⟨-, k0, k2, k3, -⟩ := hK0y
                have hK2y := hK2x1
                obtain ⟨-, j0, j2, j3, -⟩ := hK2y
                have hK3y := hK3x1
                obtain ⟨-, -, -, y3, -⟩ := hK3y
                simp only [List.length_cons, List.length_nil, Nd.kind_mk, Nd.kids_mk, Nd.pos_mk] at k0 k2 k3 y3 j0 j2 j3
                go_wp2_with fail
                go_meet
                case rel => rw [HR.out]; exact ⟨_, _, _, rfl, hlc1, rfl, HR1x.out, HB1.out⟩
          · by_cases h4 : nk = 4
            · subst h4
              rcases nl with _ | ⟨⟨zk, zt, zl, zp⟩, zs⟩
              · exact absurd (HND.out.1 (.inr rfl)) (by simp)
              obtain ⟨b, off, A1, c1, rfl, hK0⟩ := HV.out.kid0
              have hq0 : (0 : Int) < ((zs.length + 1 : Nat) : Int) := by omega
              simp only [List.length_cons] at *
              rcases zl with _ | ⟨⟨yk, yt, yl, yp⟩, yz⟩
              · have HR : Go.RowKit.Hid (hereN (.mk 4 nt (.mk zk zt [] zp :: zs) np) = []) := Lib.hid (by simp [hereN, headU, interU, nd0])
                generalize hereN (.mk 4 nt (.mk zk zt [] zp :: zs) np) = R at *
                obtain ⟨x0, x1, x2, x3, -, -, -, -⟩ := blk4 bx
                have hK0a := hK0
                obtain ⟨-, k0, k2, k3, -⟩ := hK0a
                simp only [List.length_cons, List.length_nil, Nd.kind_mk, Nd.kids_mk, Nd.pos_mk] at *
                generalize zs.length + 1 = q at *
                go_wp2_with fail
                go_meet
                case rel => rw [HR.out]; exact ⟨_, _, _, rfl, hlc, rfl, HRD.out, HB.out⟩
              · obtain ⟨bk, off1, A4, c4, rfl, hK3⟩ := hK0.nv.kid0
                have hp0 : (0 : Int) < ((yz.length + 1 : Nat) : Int) := by omega
                have hp1 : 0 < yz.length + 1 := by omega
                have HR : Go.RowKit.Hid (hereN (.mk 4 nt (.mk zk zt (.mk yk yt yl yp :: yz) zp :: zs) np) = [(18, yp), (24, np)]) := Lib.hid (by simp [hereN, headU, interU, nd0])
                generalize hereN (.mk 4 nt (.mk zk zt (.mk yk yt yl yp :: yz) zp :: zs) np) = R at *
                obtain ⟨x0, x1, x2, x3, -, -, -, -⟩ := blk4 bx
                have hK0a := hK0
                obtain ⟨-, k0, k2, k3, -⟩ := hK0a
                have hK3a := hK3
                obtain ⟨-, -, -, y3, -⟩ := hK3a
                simp only [List.length_cons, List.length_nil, Nd.kind_mk, Nd.kids_mk, Nd.pos_mk] at *
                generalize yz.length + 1 = qy at *
                generalize zs.length + 1 = q at *
                go_wp2_with fail
                refine (put_any A3 c3 us 18 yp _ HRD.out hlc (by omega)).mono ?_
                rintro e q1 ⟨A31, c31, rfl, hlc1, hr1, hb1⟩
                have HB1 := Lib.hid (HB.out.trans (hb1.mono HB.out.size))
                have bx1 := bx.below hb1 bx.lt
                have hl1 : (putU us (18, yp)).length ≤ 900001 := Nat.le_trans (putU_len _ _) (by omega)
                have HR1x := Lib.hid hr1
                have hK0x1 := hK0.below hb1
                have hK3x1 := hK3.below hb1
                clear hr1 hb1 x0 x1 x2 x3 k0 k2 k3 y3
                obtain ⟨x0, x1, x2, x3, -, -, -, -⟩ := blk4 bx1
                have hK0y := hK0x1
                obtain ⟨-, k0, k2, k3, -⟩ := hK0y
                have hK3y := hK3x1
                obtain ⟨-, -, -, y3, -⟩ := hK3y
                simp only [List.length_cons, List.length_nil, Nd.kind_mk, Nd.kids_mk, Nd.pos_mk] at k0 k2 k3 y3
                go_wp2_with fail
                refine (put_any A31 c31 (putU us (18, yp)) 24 np _ HR1x.out hlc1 (by omega)).mono ?_
                rintro e q2 ⟨A32, c32, rfl, hlc2, hr2, hb2⟩
                have HB2 := Lib.hid (HB1.out.trans (hb2.mono HB1.out.size))
                have bx2 := bx1.below hb2 bx1.lt
                have hl2 : (putU ((putU us (18, yp))) (24, np)).length ≤ 900002 := Nat.le_trans (putU_len _ _) (by omega)
                have HR2x := Lib.hid hr2
                have hK0x2 := hK0x1.below hb2
                have hK3x2 := hK3x1.below hb2
                clear hr2 hb2 x0 x1 x2 x3 k0 k2 k3 y3
                obtain ⟨x0, x1, x2, x3, -, -, -, -⟩ := blk4 bx2
                have hK0y := hK0x2
                obtain ⟨-, k0, k2, k3, -⟩ := hK0y
                have hK3y := hK3x2
                obtain ⟨-, -, -, y3, -⟩ := hK3y
                simp only [List.length_cons, List.length_nil, Nd.kind_mk, Nd.kids_mk, Nd.pos_mk] at k0 k2 k3 y3
                go_wp2_with fail
                go_meet
                case rel => rw [HR.out]; exact ⟨_, _, _, rfl, hlc2, rfl, HR2x.out, HB2.out⟩
            · by_cases h10 : nk = 10
              · have HR0 : Go.RowKit.Hid (hereN (.mk nk nt nl np) = if 0 < nl.length then [(18, np)] else []) := Lib.hid (by unfold hereN; simp [h10])
                subst h10
                generalize hereN (.mk 10 nt nl np) = R at *
                obtain ⟨x0, x1, x2, x3, -, -, -, -⟩ := blk4 bx
                by_cases hl : 0 < nl.length
                · have HR := Lib.hid (HR0.out.trans (if_pos hl))
                  have hl9 : (0 : Int) < (nl.length : Int) := by omega
                  clear HR0
                  go_wp2_with fail
                  refine (put_any A3 c3 us 18 np _ HRD.out hlc (by omega)).mono ?_
                  rintro e q1 ⟨A31, c31, rfl, hlc1, hr1, hb1⟩
                  have HB1 := Lib.hid (HB.out.trans (hb1.mono HB.out.size))
                  have bx1 := bx.below hb1 bx.lt
                  have hl1 : (putU us (18, np)).length ≤ 900001 := Nat.le_trans (putU_len _ _) (by omega)
                  have HR1x := Lib.hid hr1
                  clear hr1 hb1 x0 x1 x2 x3 
                  obtain ⟨x0, x1, x2, x3, -, -, -, -⟩ := blk4 bx1
                  go_wp2_with fail
                  go_meet
                  case rel => rw [HR.out]; exact ⟨_, _, _, rfl, hlc1, rfl, HR1x.out, HB1.out⟩
                · have HR := Lib.hid (HR0.out.trans (if_neg hl))
                  have hl9 : ¬ (0 : Int) < (nl.length : Int) := by omega
                  clear HR0
                  go_wp2_with fail
                  go_meet
                  case rel => rw [HR.out]; exact ⟨_, _, _, rfl, hlc, rfl, HRD.out, HB.out⟩
              · by_cases h22 : nk = 22
                · subst h22
                  rcases nl with _ | ⟨⟨zk, zt, zl, zp⟩, zs⟩
                  · exact absurd (HND.out.2 (.inr rfl)) (by simp)
                  rcases zs with _ | ⟨⟨zk2, zt2, zl2, zp2⟩, zs⟩
                  · exact absurd (HND.out.2 (.inr rfl)) (by simp)
                  obtain ⟨b, off, A1, c1, rfl, hK0⟩ := HV.out.kid0
                  obtain ⟨A2, c2, hK2⟩ := HV.out.kid1
                  have hq1 : (1 : Int) < ((zs.length + 1 + 1 : Nat) : Int) := by omega
                  have hq2 : (2 : Int) < ((zs.length + 1 + 1 : Nat) : Int) ↔ 0 < zs.length := by omega
                  have HR0 : Go.RowKit.Hid (hereN (.mk 22 nt (.mk zk zt zl zp :: .mk zk2 zt2 zl2 zp2 :: zs) np) = if 0 < zs.length ∨ zk2 = 11 ∨ zk2 = 12 then [(18, np)] else []) := Lib.hid (by simp [hereN, nd0])
                  generalize hereN (.mk 22 nt (.mk zk zt zl zp :: .mk zk2 zt2 zl2 zp2 :: zs) np) = R at *
                  simp only [List.length_cons] at *
                  obtain ⟨x0, x1, x2, x3, -, -, -, -⟩ := blk4 bx
                  have hK2a := hK2
                  obtain ⟨-, j0, j2, j3, -⟩ := hK2a
                  simp only [Nd.kind_mk, Nd.kids_mk, Nd.pos_mk] at *
                  by_cases hz : 0 < zs.length
                  · have HR := Lib.hid (HR0.out.trans (if_pos (.inl hz)))
                    have hq3 := hq2.2 hz
                    have hq4 : 2 < zs.length + 1 + 1 := by omega
                    clear hq2 hz
                    clear HR0
                    generalize zs.length + 1 + 1 = q at *
                    go_wp2_with fail
                    refine (put_any A3 c3 us 18 np _ HRD.out hlc (by omega)).mono ?_
                    rintro e q1 ⟨A31, c31, rfl, hlc1, hr1, hb1⟩
                    have HB1 := Lib.hid (HB.out.trans (hb1.mono HB.out.size))
                    have bx1 := bx.below hb1 bx.lt
                    have hl1 : (putU us (18, np)).length ≤ 900001 := Nat.le_trans (putU_len _ _) (by omega)
                    have HR1x := Lib.hid hr1
                    have hK2x1 := hK2.below hb1
                    clear hr1 hb1 x0 x1 x2 x3 j0 j2 j3
                    obtain ⟨x0, x1, x2, x3, -, -, -, -⟩ := blk4 bx1
                    have hK2y := hK2x1
                    obtain ⟨-, j0, j2, j3, -⟩ := hK2y
                    simp only [List.length_cons, List.length_nil, Nd.kind_mk, Nd.kids_mk, Nd.pos_mk] at j0 j2 j3
                    go_wp2_with fail
                    go_meet
                    case rel => rw [HR.out]; exact ⟨_, _, _, rfl, hlc1, rfl, HR1x.out, HB1.out⟩
                  · have hq3 : ¬ (2 : Int) < ((zs.length + 1 + 1 : Nat) : Int) := fun h => hz (hq2.1 h)
                    have hq4 : ¬ 2 < zs.length + 1 + 1 := by omega
                    clear hq2
                    by_cases h11 : zk2 = 11
                    · subst h11
                      have HR := Lib.hid (HR0.out.trans (if_pos (.inr (.inl rfl))))
                      clear hz
                      clear HR0
                      generalize zs.length + 1 + 1 = q at *
                      go_wp2_with fail
                      refine (put_any A3 c3 us 18 np _ HRD.out hlc (by omega)).mono ?_
                      rintro e q1 ⟨A31, c31, rfl, hlc1, hr1, hb1⟩
                      have HB1 := Lib.hid (HB.out.trans (hb1.mono HB.out.size))
                      have bx1 := bx.below hb1 bx.lt
                      have hl1 : (putU us (18, np)).length ≤ 900001 := Nat.le_trans (putU_len _ _) (by omega)
                      have HR1x := Lib.hid hr1
                      have hK2x1 := hK2.below hb1
                      clear hr1 hb1 x0 x1 x2 x3 j0 j2 j3
                      obtain ⟨x0, x1, x2, x3, -, -, -, -⟩ := blk4 bx1
                      have hK2y := hK2x1
                      obtain ⟨-, j0, j2, j3, -⟩ := hK2y
                      simp only [List.length_cons, List.length_nil, Nd.kind_mk, Nd.kids_mk, Nd.pos_mk] at j0 j2 j3
                      go_wp2_with fail
                      go_meet
                      case rel => rw [HR.out]; exact ⟨_, _, _, rfl, hlc1, rfl, HR1x.out, HB1.out⟩
                    · by_cases h12 : zk2 = 12
                      · subst h12
                        have HR := Lib.hid (HR0.out.trans (if_pos (.inr (.inr rfl))))
                        clear hz h11
                        clear HR0
                        generalize zs.length + 1 + 1 = q at *
                        go_wp2_with fail
                        refine (put_any A3 c3 us 18 np _ HRD.out hlc (by omega)).mono ?_
                        rintro e q1 ⟨A31, c31, rfl, hlc1, hr1, hb1⟩
                        have HB1 := Lib.hid (HB.out.trans (hb1.mono HB.out.size))
                        have bx1 := bx.below hb1 bx.lt
                        have hl1 : (putU us (18, np)).length ≤ 900001 := Nat.le_trans (putU_len _ _) (by omega)
                        have HR1x := Lib.hid hr1
                        have hK2x1 := hK2.below hb1
                        clear hr1 hb1 x0 x1 x2 x3 j0 j2 j3
                        obtain ⟨x0, x1, x2, x3, -, -, -, -⟩ := blk4 bx1
                        have hK2y := hK2x1
                        obtain ⟨-, j0, j2, j3, -⟩ := hK2y
                        simp only [List.length_cons, List.length_nil, Nd.kind_mk, Nd.kids_mk, Nd.pos_mk] at j0 j2 j3
                        go_wp2_with fail
                        go_meet
                        case rel => rw [HR.out]; exact ⟨_, _, _, rfl, hlc1, rfl, HR1x.out, HB1.out⟩
                      · have HR := Lib.hid (HR0.out.trans (if_neg (fun h => h.elim hz (fun h => h.elim h11 h12))))
                        have e11 : (zk2 == 11) = false := by simp [h11]
                        have e12 : (zk2 == 12) = false := by simp [h12]
                        clear hz h11 h12
                        clear HR0
                        generalize zs.length + 1 + 1 = q at *
                        go_wp2_with fail
                        go_meet
                        case rel => rw [HR.out]; exact ⟨_, _, _, rfl, hlc, rfl, HRD.out, HB.out⟩
                · have HR : Go.RowKit.Hid (hereN (.mk nk nt nl np) = []) := Lib.hid (by unfold hereN; simp [h2, h3, h4, h10, h22])
                  generalize hereN (.mk nk nt nl np) = R at *
                  have e2 : (nk == 2) = false := by simp [h2]
                  have e3 : (nk == 3) = false := by simp [h3]
                  have e4 : (nk == 4) = false := by simp [h4]
                  have e10 : (nk == 10) = false := by simp [h10]
                  have e22 : (nk == 22) = false := by simp [h22]
                  clear h2 h3 h4 h10 h22
                  obtain ⟨x0, x1, x2, x3, -, -, -, -⟩ := blk4 bx
                  go_wp2_with fail
                  go_meet
                  case rel => rw [HR.out]; exact ⟨_, _, _, rfl, hlc, rfl, HRD.out, HB.out⟩

      case rest =>
        obtain ⟨A6, c6, us6, rfl, hlc6, hus6, hrd6, hb6⟩ := hcut
        have HE := Lib.hid (show us6 = putsU [] ((all.take (i + 1)).flatMap hereN) by rw [HTK.out, hus6, HUS.out]; unfold putsU; rw [List.foldl_append])
        clear hus6 k0 k1 k2 k3 HKN
        go_wp2_with fail
        go_roundg (all.length - (i + 1))
        case measure => omega
        case rel => exact ⟨i + 1, A6, c6, us6, by omega, by omega, by go_num, rfl, hlc6, HE.out, hrd6, HBR.out.trans (hb6.mono HBR.out.size)⟩
    · have hlt2 : ¬ (i : Int) < (all.length : Int) := by omega
      have HF := Lib.hid (show rusesT n = us by rw [HRU.out, HUS.out, List.take_of_length_le (by omega)])
      go_wp2_with fail
      go_ret
      rw [HF.out]
      exact ⟨A3, c3, rfl, hlc, HRD0.out, HB2.out.trans (HBR.out.mono HB2.out.size)⟩
end Go.Proofs.YtnalfjaojcahhaaGreatDoor
namespace Go.Proofs.YtnalfjaojcahhaaGreatDoor
open Go.RowKit Go.Lib Go.Proofs
attribute [local go_sem ↓] Go.wp_at_zero Go.wp_at_succ

/-- One node, of which something is asked. -/
def oneT (f : Nd → Bool) : List Nd → Bool
  | [x] => f x
  | _ => false
theorem oneT_one (f : Nd → Bool) (x : Nd) : oneT f [x] = f x := rfl
theorem oneT_ne (f : Nd → Bool) {l : List Nd} (h : l.length ≠ 1) : oneT f l = false := by
  rcases l with _ | ⟨x, _ | ⟨y, l⟩⟩
  · rfl
  · exact absurd rfl h
  · rfl
theorem one_of {l : List Nd} (h : l.length = 1) : ∃ x, l = [x] := by
  rcases l with _ | ⟨x, _ | ⟨y, l⟩⟩
  · simp at h
  · exact ⟨x, rfl⟩
  · simp at h
theorem of1_eq (k : Int) (f : Nd → Bool) (n : Nd) : ofT k [f] n = (decide (n.kind = k) && (decide (n.text = (⟨#[]⟩ : ByteArray)) && oneT f n.kids)) := by
  unfold ofT
  congr 2
  rcases n.kids with _ | ⟨x, _ | ⟨y, l⟩⟩
  · rfl
  · simp [askAll, oneT]
  · simp [askAll, oneT]

theorem typT_10 (F : TFns) (t : ByteArray) (l : List Nd) (p : Int) : typT F (.mk 10 t l p) = (nameT t && l.all F.typ) := by simp [typT]
theorem typT_11 (F : TFns) (t : ByteArray) (l : List Nd) (p : Int) : typT F (.mk 11 t l p) = (decide (t = (⟨#[]⟩ : ByteArray)) && oneT F.typ l) := by
  have h : typT F (.mk 11 t l p) = ofT 11 [F.typ] (.mk 11 t l p) := by simp [typT]
  rw [h, of1_eq]
  simp
  rfl
theorem typT_12 (F : TFns) (t : ByteArray) (l : List Nd) (p : Int) : typT F (.mk 12 t l p) = sigT F noText (.mk 12 t l p) := by simp [typT]
theorem typT_else (F : TFns) (k : Int) (t : ByteArray) (l : List Nd) (p : Int) (h1 : k ≠ 10) (h2 : k ≠ 11) (h3 : k ≠ 12) : typT F (.mk k t l p) = false := by simp [typT, h1, h2, h3]

set_option maxRecDepth 100000 in
set_option maxHeartbeats 8000000 in
theorem utyp_any : ∀ d, RefC d 18 (tfns d).typ := by
  intro d
  induction d with
  | zero => exact fun _ _ _ _ h => h.elim
  | succ d ih =>
    intro v n w hv hd
    rw [show (tfns (d + 1)).typ n = typT (tfns d) n from rfl]
    have HI := Lib.hid ih
    have HV := Lib.hid hv
    have HD := Lib.hid hd
    have hlen := hd.1.1
    obtain ⟨A, cp, rfl, hC⟩ := hv.toC
    have hB := (Below.refl w.heap.size w).alloc (Nat.le_refl _) (.cells #[.int .i64 n.kind, .string n.text, .slice A n.kids.length cp, .int .i64 n.pos] 24)
    have hBn : Blk (w.alloc (.cells #[.int .i64 n.kind, .string n.text, .slice A n.kids.length cp, .int .i64 n.pos] 24)) w.heap.size 24 #[.int .i64 n.kind, .string n.text, .slice A n.kids.length cp, .int .i64 n.pos] := Blk.new w _ _
    have HSG := Lib.hid (fun w' (hb : Below w.heap.size w w') => usig_any d ih false _ n w' (NodeV.below hv hb) hd)
    clear hv hC hd ih
    generalize tfns d = F at *
    obtain ⟨nk, nt, nl, np⟩ := n
    simp only [Nd.kind_mk, Nd.text_mk, Nd.kids_mk, Nd.pos_mk] at *
    by_cases h1 : nk = 10
    · subst h1
      have HR1 := Lib.hid (show typT F (.mk 10 nt nl np) = (nameT nt && nl.all F.typ) from typT_10 _ _ _ _)
      clear HSG
      cases h2 : nameT nt with
      | false =>
        have HX := Lib.hid (show typT F (.mk 10 nt nl np) = false by rw [HR1.out, h2, Bool.false_and])
        go_enter Tryz.func18, Tryz.ntmps18
        go_wp2_with fail
        refine (uname_any _ _).mono ?_
        rw [h2]
        rintro e w1 ⟨rfl, hb1⟩
        go_wp2_with fail
        go_ret
        exact ⟨by rw [HX.out]; rfl, hB.trans (hb1.mono hB.size)⟩
      | true =>
        have HALL := Lib.hid (show typT F (.mk 10 nt nl np) = nl.all F.typ by rw [HR1.out, h2, Bool.true_and])
        clear HR1
        go_enter Tryz.func18, Tryz.ntmps18
        go_wp2_with fail
        refine (uname_any _ _).mono ?_
        rw [h2]
        rintro e w1 ⟨rfl, hb1⟩
        have hB1 := hB.trans (hb1.mono hB.size)
        have hBn1 := hBn.below hb1 hBn.lt
        clear hB hBn hb1 h2
        go_wp2_with fail
        go_loopg [3] nl.length (fun k u3 wr => ∃ i : Nat, i ≤ nl.length ∧ nl.length - i ≤ k ∧ u3 = .int .i64 (i : Int) ∧ Below w.heap.size w wr ∧ Blk wr w.heap.size 24 #[.int .i64 10, .string nt, .slice A nl.length cp, .int .i64 np] ∧ (nl.take i).all F.typ = true)
        case atStart => exact ⟨0, Nat.zero_le _, by omega, rfl, hB1, hBn1, rfl⟩
        case round =>
          clear hB1 hBn1
          obtain ⟨i, hi, hk, rfl, hBr, hBn, hall⟩ := hrel
          obtain ⟨x0, x1, x2, x3, -, -, -, -⟩ := blk4 hBn
          by_cases hlt : i < nl.length
          · have hlt2 : (i : Int) < (nl.length : Int) := by omega
            have h0 : (0 : Int) ≤ (i : Int) := by omega
            obtain ⟨bp, op, A2, c2, hA0, hp⟩ := kid_at (NodeV.below HV.out hBr) i hlt
            simp only [Nd.kids_mk] at hp
            subst hA0
            have HOK := Lib.hid (show F.typ nl[i] = true → (nl.take (i + 1)).all F.typ = true by
              intro h
              rw [List.take_succ_eq_append_getElem hlt, List.all_append, hall]
              simp [h])
            have HBAD := Lib.hid (show F.typ nl[i] = false → typT F (.mk 10 nt nl np) = false by
              intro h
              rw [HALL.out, List.all_eq_false]
              exact ⟨_, List.getElem_mem hlt, by simp [h]⟩)
            have HDX := Lib.hid (HD.out.kid (k := nl[i]) (List.getElem_mem hlt))
            generalize nl[i] = q at *
            have HTX := Lib.hid (HI.out _ q wr hp.2.2.2.2 HDX.out)
            obtain ⟨p0, p1, p2, p3, -⟩ := hp
            clear hall
            cases q3 : F.typ q with
            | false =>
              have HX := Lib.hid (HBAD.out q3)
              rw [q3] at HTX
              clear q3 HOK HBAD
              go_wp2_with fail
              refine (HTX.out).mono ?_
              rintro e w3 ⟨rfl, hb3⟩
              go_wp2_with fail
              go_ret
              exact ⟨by rw [HX.out]; rfl, hBr.trans (hb3.mono hBr.size)⟩
            | true =>
              have HX := Lib.hid (HOK.out q3)
              rw [q3] at HTX
              clear q3 HOK HBAD
              go_wp2_with fail
              refine (HTX.out).mono ?_
              rintro e w3 ⟨rfl, hb3⟩
              go_wp2_with fail
              go_roundg (nl.length - (i + 1))
              case measure => omega
              case rel => exact ⟨i + 1, by omega, Nat.le_refl _, by go_num, hBr.trans (hb3.mono hBr.size), hBn.below hb3 hBn.lt, HX.out⟩
          · have hlt2 : ¬ (i : Int) < (nl.length : Int) := by omega
            have HX := Lib.hid (show typT F (.mk 10 nt nl np) = true by rw [HALL.out, ← hall, List.take_of_length_le (by omega)])
            clear hall
            go_wp2_with fail
            go_ret
            exact ⟨by rw [HX.out]; rfl, hBr⟩
    by_cases h2 : nk = 11
    · subst h2
      have HR1 := Lib.hid (show typT F (.mk 11 nt nl np) = (decide (nt = (⟨#[]⟩ : ByteArray)) && oneT F.typ nl) from typT_11 _ _ _ _)
      clear HSG h1
      by_cases h2 : nt = ⟨#[]⟩
      rotate_left
      · have hne : nt.toList.isEmpty = false := by rw [isEmpty_dec]; simpa using h2
        have HX := Lib.hid (show typT F (.mk 11 nt nl np) = false by rw [HR1.out]; simp [h2])
        clear HR1 h2
        go_enter Tryz.func18, Tryz.ntmps18
        go_wp2_with fail
        go_ret
        exact ⟨by rw [HX.out]; rfl, hB⟩
      subst h2
      by_cases h3 : nl.length = 1
      rotate_left
      · have hne : ((nl.length : Int) == 1) = false := by simp; omega
        have HX := Lib.hid (show typT F (.mk 11 ⟨#[]⟩ nl np) = false by rw [HR1.out, oneT_ne _ h3, Bool.and_false])
        clear HR1 h3
        generalize nl.length = m at *
        go_enter Tryz.func18, Tryz.ntmps18
        go_wp2_with fail
        go_ret
        exact ⟨by rw [HX.out]; rfl, hB⟩
      obtain ⟨x, rfl⟩ := one_of h3
      clear h3
      have HX := Lib.hid (show typT F (.mk 11 ⟨#[]⟩ [x] np) = F.typ x by rw [HR1.out, oneT_one]; simp)
      have HV1 : NodeW w (.agg #[.int .i64 11, .string ⟨#[]⟩, .slice A 1 cp, .int .i64 np]) (.mk 11 ⟨#[]⟩ [x] np) := HV.out
      have hB : Below w.heap.size w (w.alloc (.cells #[.int .i64 11, .string ⟨#[]⟩, .slice A 1 cp, .int .i64 np] 24)) := hB
      obtain ⟨bp, op, A2, c2, rfl, hp⟩ := kid_at (NodeV.below HV1 hB) 0 (by simp)
      simp only [Nd.kids_mk, List.getElem_cons_zero, Nat.zero_mul, Nat.add_zero] at hp
      have HTX := Lib.hid (HI.out _ x _ hp.2.2.2.2 (HD.out.kid (k := x) (by simp)))
      obtain ⟨p0, p1, p2, p3, -⟩ := hp
      clear HR1 HV1 HV
      go_enter Tryz.func18, Tryz.ntmps18
      go_wp2_with fail
      refine (HTX.out).mono ?_
      rintro e w3 ⟨rfl, hb3⟩
      go_wp2_with fail
      go_ret
      exact ⟨by rw [HX.out]; rfl, hB.trans (hb3.mono hB.size)⟩
    by_cases h3 : nk = 12
    · subst h3
      have HX := Lib.hid (show typT F (.mk 12 nt nl np) = sigT F (namesT false) (.mk 12 nt nl np) from typT_12 _ _ _ _)
      obtain ⟨x0, x1, x2, x3, -, -, -, -⟩ := blk4 hBn
      clear h1 h2
      go_enter Tryz.func18, Tryz.ntmps18
      go_wp2_with fail
      refine (HSG.out _ hB).mono ?_
      rintro e w3 ⟨rfl, hb3⟩
      go_wp2_with fail
      go_ret
      exact ⟨by rw [HX.out]; rfl, hB.trans (hb3.mono hB.size)⟩
    have HX := Lib.hid (show typT F (.mk nk nt nl np) = false from typT_else _ _ _ _ _ h1 h2 h3)
    have e1 : (nk == 10) = false := by simpa using h1
    have e2 : (nk == 11) = false := by simpa using h2
    have e3 : (nk == 12) = false := by simpa using h3
    clear h1 h2 h3 HSG
    go_enter Tryz.func18, Tryz.ntmps18
    go_wp2_with fail
    go_ret
    exact ⟨by rw [HX.out]; rfl, hB⟩
end Go.Proofs.YtnalfjaojcahhaaGreatDoor
