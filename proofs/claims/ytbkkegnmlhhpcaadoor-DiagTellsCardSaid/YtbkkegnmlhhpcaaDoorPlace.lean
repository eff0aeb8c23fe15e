/-
  The contracts of place.Of, place.starts and its closure: the place of a byte, as a plain function of the bytes. By an AI agent.
-/
import Derived.Test.YtbkkegnmlhhpcaaDoorProg
import Derived.Test.YtbkkegnmlhhpcaaDoorEnc
import Derived.WalkKit
import Derived.WalkLawsBesides
import Derived.WalkSpells
import Derived.Lib.Hide
import Derived.Lib.Walk
import Derived.Deep.LoopGhost
import Derived.Lib.OthersKept
import Derived.Laws.BytesArg
namespace Go.Proofs.YtbkkegnmlhhpcaaDoor
open Go.RowKit Go.Lib

/-- The cells of bytes. -/
def byteV (u : UInt8) : List Value := [.int .u8 (u.toNat : Int)]
theorem byteV_len (u : UInt8) : (byteV u).length = 1 := rfl

/-- The place behind a sign. -/
def stepP (s : ByteArray) (i : Nat) (p : Int × Int) : Int × Int := if (Utf8.decode s i).1 = 10 then (p.1 + 1, 1) else (p.1, p.2 + 1)
/-- The place of the first sign that begins at a byte or behind it, or of the end. -/
def placeGo (s : ByteArray) (n : Nat) : Nat → Nat → Int × Int → Int × Int
  | 0, _, p => p
  | f + 1, i, p => if n ≤ i ∨ s.size ≤ i then p else placeGo s n f (i + (Utf8.decode s i).2) (stepP s i p)
/-- The place of a byte. -/
def placeOf (s : ByteArray) (n : Int) : Int × Int := if n < 0 ∨ (s.size : Int) < n then (0, 0) else placeGo s n.toNat s.size 0 (1, 1)

theorem decode_in (s : ByteArray) (i : Nat) (h : i < s.size) : 1 ≤ (Utf8.decode s i).2 ∧ i + (Utf8.decode s i).2 ≤ s.size := by
  simp only [Utf8.decode]
  repeat' split
  all_goals simp_all
  all_goals omega

theorem placeGo_fuel (s : ByteArray) (n : Nat) : ∀ (f f' i : Nat) (p : Int × Int), s.size - i ≤ f → s.size - i ≤ f' → placeGo s n f i p = placeGo s n f' i p
  | 0, 0, _, _, _, _ => rfl
  | 0, f' + 1, i, p, h, _ => by
    rw [placeGo, placeGo, if_pos (.inr (by omega))]
  | f + 1, 0, i, p, _, h => by
    rw [placeGo, placeGo, if_pos (.inr (by omega))]
  | f + 1, f' + 1, i, p, h, h' => by
    rw [placeGo, placeGo]
    split
    · rfl
    · rename_i hn
      have := (decode_in s i (by omega)).1
      exact placeGo_fuel s n f f' _ _ (by omega) (by omega)
theorem placeGo_stop (s : ByteArray) (n f i : Nat) (p : Int × Int) (h : n ≤ i ∨ s.size ≤ i) : placeGo s n f i p = p := by
  cases f with
  | zero => rfl
  | succ f => rw [placeGo, if_pos h]
theorem placeGo_step (s : ByteArray) (n i : Nat) (p : Int × Int) (h : i < n) (h' : i < s.size) : placeGo s n (s.size - i) i p = placeGo s n (s.size - (i + (Utf8.decode s i).2)) (i + (Utf8.decode s i).2) (stepP s i p) := by
  obtain ⟨f, hf⟩ : ∃ f, s.size - i = f + 1 := ⟨s.size - i - 1, by omega⟩
  have := (decode_in s i h').1
  rw [hf, placeGo, if_neg (by omega)]
  exact placeGo_fuel s n _ _ _ _ (by omega) (by omega)

/-- Of's closure: it keeps the place, and tells whether the byte is reached. -/
theorem ofClosure (i n l c : Int) (O T : Nat) (x y : Value) (w : World) (hO : Blk w O 54 #[x, y]) (hT : Blk w T 3 #[.int .i64 n]) :
    Calls Tryd.prog 48 #[.int .i64 i, .agg #[.int .i64 l, .int .i64 c], .pointer (some ⟨O, 0, none⟩), .pointer (some ⟨T, 0, none⟩)] w fun e w' =>
      e = .returned (.bool (decide (n ≤ i))) ∧ w.grownBy w' (some O) ∧ Blk w' O 54 #[.int .i64 l, .int .i64 c] := by
  have hlO := hO.lt
  have hlT := hT.lt
  have c0 := hO.cell 0
  have c1 := hO.cell 1
  have f0 := hO.frozen 0
  have f1 := hO.frozen 1
  have t0 := hT.cell 0
  have hne : T ≠ O := (hT.ne_ hO (by decide))
  simp at c0 c1 t0
  have HO := Lib.hid hO
  clear hO hT
  go_enter Tryd.func48, Tryd.ntmps48
  go_wp2_with fail
  go_ret
  exact ⟨rfl, ((grownBy_set w O 0 _).trans (grownBy_set _ O 1 _)).trans (World.grownBy_alloc _ _ _), ((HO.out.set_ 0 _).set_ 1 _).alloc _⟩

/-- The bytes of a slice as a text. -/
theorem conv_bytes {A : Option Addr} {c B : Nat} {s : ByteArray} {w : World} (h : Reads w B 1 A s.size (s.data.toList.flatMap byteV)) :
    (convert 33 9 (.slice A s.size c)).run Tryd.prog w = .ok (.string s) w := by
  rcases Nat.eq_zero_or_pos s.size with h0 | h0
  · have hs : s = ByteArray.empty := by
      obtain ⟨⟨l⟩⟩ := s
      have : l = [] := List.eq_nil_of_length_eq_zero h0
      subst this; rfl
    rw [run_convert_bytes_string w _ _ _ A _ c Tryd.underlying33 Tryd.underlying5 Tryd.underlying9, h0, hs]
    rcases A with _ | ad
    · simp [Conv.bytesToString]
    · simp [Conv.bytesToString, loadCells, loadCellsFrom]
  · obtain ⟨b, off, rfl, hb, hc⟩ := h.el byteV_len (by omega) (by simp) h0
    have hs : strOfNums (s.data.toList.map fun u => (u.toNat : Int)) = s := by
      have e : ((fun n : Int => UInt8.ofNat n.toNat) ∘ fun u : UInt8 => (u.toNat : Int)) = id := by funext u; simp
      unfold strOfNums
      rw [List.map_map, e, List.map_id]
    have := run_convert_bytes_arg w 33 5 Tryd.underlying33 Tryd.underlying5 b off s.size c (s.data.toList.map fun u => (u.toNat : Int)) (by simp) (fun i hi => by
      have hi' : i < s.data.toList.length := by simpa using hi
      have := hc i hi' 0 _ rfl
      rw [Nat.mul_one, Nat.add_zero] at this
      rw [this, List.getD_eq_getElem?_getD, List.getElem?_map, List.getElem?_eq_getElem hi']
      rfl) 9 Tryd.underlying9
    rw [this, hs]

theorem blk2_facts {w : World} {g : Nat} {t : TypeId} {x y : Value} (h : Blk w g t #[x, y]) : w.cell? ⟨g, 0, none⟩ = some x ∧ w.cell? ⟨g, 1, none⟩ = some y ∧ w.frozen? ⟨g, 0, none⟩ = false ∧ w.frozen? ⟨g, 1, none⟩ = false := by
  have c0 := h.cell 0
  have c1 := h.cell 1
  simp at c0 c1
  exact ⟨c0, c1, h.frozen 0, h.frozen 1⟩

set_option maxHeartbeats 1000000 in
theorem starts_any (A : Option Addr) (c : Nat) (s : ByteArray) (n : Nat) (O T : Nat) (x y : Value) (w : World) (hsz : s.size ≤ 100000) (hns : n ≤ s.size) (h : Reads w w.heap.size 1 A s.size (s.data.toList.flatMap byteV)) (hO : Blk w O 54 #[x, y]) (hT : Blk w T 3 #[.int .i64 n]) :
    Calls Tryd.prog 47 #[.slice A s.size c, .func (.func 48) #[] #[.pointer (some ⟨O, 0, none⟩), .pointer (some ⟨T, 0, none⟩)]] w fun e w' =>
      e = .returned (.tuple #[]) ∧ w.grownBy w' (some O) ∧ Blk w' O 54 #[.int .i64 (placeGo s n s.size 0 (1, 1)).1, .int .i64 (placeGo s n s.size 0 (1, 1)).2] := by
  have hconv : ∀ o, (convert 33 9 (.slice A s.size c)).run Tryd.prog (w.alloc o) = .ok (.string s) (w.alloc o) := fun o => conv_bytes (h.alloc (Nat.le_refl _) o)
  have hlO := hO.lt
  have hlT := hT.lt
  have hne : T ≠ O := (hT.ne_ hO (by decide))
  have HO := Lib.hid hO
  have HT := Lib.hid hT
  have HR := Lib.hid h
  clear hO hT h
  generalize hP : placeGo s n s.size 0 (1, 1) = P
  have HP := Lib.hid hP
  clear hP
  go_enter Tryd.func47, Tryd.ntmps47
  go_wp2_with fail
  have i1 : ((w.alloc (.cells #[.int .i64 1, .int .i64 1] 54)).iter s 0).heap[w.heap.size + 1]? = some (.stringIter s 0) := by
    have := World.iter_heap (w.alloc (.cells #[.int .i64 1, .int .i64 1] 54)) s 0
    rwa [World.size_alloc] at this
  have i2 : Blk ((w.alloc (.cells #[.int .i64 1, .int .i64 1] 54)).iter s 0) w.heap.size 54 #[.int .i64 1, .int .i64 1] := (Blk.new w _ _).alloc _
  have i3 : Blk ((w.alloc (.cells #[.int .i64 1, .int .i64 1] 54)).iter s 0) O 54 #[x, y] := (HO.out.alloc _).alloc _
  have i4 : w.grownBy ((w.alloc (.cells #[.int .i64 1, .int .i64 1] 54)).iter s 0) (some O) := (World.grownBy_alloc w _ _).trans (World.grownBy_alloc _ _ _)
  go_loopg [5] s.size (fun g s5 wr => ∃ (i : Nat) (l c : Int) (x' y' : Value), i ≤ s.size ∧ s.size - i ≤ g ∧ wr.heap[w.heap.size + 1]? = some (.stringIter s i) ∧ Blk wr w.heap.size 54 #[.int .i64 l, .int .i64 c] ∧ Blk wr O 54 #[x', y'] ∧ w.grownBy wr (some O) ∧
    placeGo s n (s.size - i) i (l, c) = P ∧ 1 ≤ l ∧ l ≤ i + 1 ∧ 1 ≤ c ∧ c ≤ i + 1)
  case atStart => exact ⟨0, 1, 1, x, y, Nat.zero_le _, by omega, i1, i2, i3, i4, HP.out, by omega, by omega, by omega, by omega⟩
  case round =>
    clear i1 i2 i3 i4
    obtain ⟨i, l, c, x', y', hi, hg, hit, hp, ho, hgr, hpl, l1, l2, c1, c2⟩ := hrel
    have HPL := Lib.hid hpl
    have HIT := Lib.hid hit
    have HPP := Lib.hid hp
    have HOO := Lib.hid ho
    have HGR := Lib.hid hgr
    have HTT := Lib.hid (HT.out.grown hgr (fun e => hne (by injection e)))
    have hszr : w.heap.size + 1 < wr.heap.size := (Array.getElem?_eq_some_iff.1 hit).1
    clear hpl hit hp ho hgr
    by_cases hlt : i < s.size
    · have hw := decode_in s i hlt
      have hnext := fun ty => run_next_any_at (P := Tryd.prog) wr (w.heap.size + 1) s i ty HIT.out hlt
      generalize hd : Utf8.decode s i = d at hw hnext
      obtain ⟨r, k⟩ := d
      have HD := Lib.hid hd
      clear hd
      simp only at hw hnext
      have j1 := Lib.hid (iterAt_heap wr (w.heap.size + 1) s i (i + k) HIT.out)
      have j2 : Blk (wr.iterAt (w.heap.size + 1) s (i + k)) w.heap.size 54 #[.int .i64 l, .int .i64 c] := (iterAt_other wr _ _ s _ (by omega)).trans HPP.out
      have j3 : Blk (wr.iterAt (w.heap.size + 1) s (i + k)) O 54 #[x', y'] := (iterAt_other wr _ _ s _ (by omega)).trans HOO.out
      have j4 : Blk (wr.iterAt (w.heap.size + 1) s (i + k)) T 3 #[.int .i64 n] := (iterAt_other wr _ _ s _ (by omega)).trans HTT.out
      have j5 : w.grownBy (wr.iterAt (w.heap.size + 1) s (i + k)) (some O) := ⟨HGR.out.os, HGR.out.tape, HGR.out.output, by rw [iterAt_size]; exact HGR.out.size, fun b hb hne => (iterAt_other wr _ _ s _ (by omega)).trans (HGR.out.block b hb hne)⟩
      generalize wr.iterAt (w.heap.size + 1) s (i + k) = W1 at hnext j1 j2 j3 j4 j5
      have J2 := Lib.hid j2
      have J3 := Lib.hid j3
      have J4 := Lib.hid j4
      have J5 := Lib.hid j5
      have p0 := j2.cell 0
      have p1 := j2.cell 1
      simp at p0 p1
      clear j2 j3 j4 j5
      by_cases hni : n ≤ i
      · have hdec : decide ((n : Int) ≤ (i : Int)) = true := by simp; omega
        have HE := Lib.hid (placeGo_stop s n (s.size - i) i (l, c) (.inl hni))
        go_wp2_with (go_at_call 48; refine (ofClosure (i : Int) n l c O T x' y' W1 J3.out J4.out).mono ?_; rintro e w' ⟨rfl, hg1, hg2⟩)
        refine bodyPost_ret (results_none rfl _ _ _) rfl ?_
        exact ⟨rfl, J5.out.trans hg1, by rw [← HPL.out, HE.out]; exact hg2⟩
      · have hdec : decide ((n : Int) ≤ (i : Int)) = false := by simp; omega
        have HS := Lib.hid (placeGo_step s n i (l, c) (by omega) hlt)
        rw [HD.out] at HS
        by_cases hr : r = 10
        · subst hr
          have HSS := Lib.hid (show placeGo s n (s.size - (i + k)) (i + k) (l + 1, 1) = P by rw [← HPL.out, HS.out]; simp only [stepP, HD.out, if_true])
          go_wp2_with (go_at_call 48; refine (ofClosure (i : Int) n l c O T x' y' W1 J3.out J4.out).mono ?_; rintro e w' ⟨rfl, hg1, hg2⟩; obtain ⟨q0, q1, q2, q3⟩ := blk2_facts (J2.out.grown hg1 (fun e => by injection e; omega)))
          go_roundg (s.size - (i + k))
          case measure => omega
          case rel => exact ⟨i + k, l + 1, 1, .int .i64 l, .int .i64 c, hw.2, Nat.le_refl _, (Below.heap_setCell _ ⟨w.heap.size, 1, none⟩ _ (w.heap.size + 1) (by show w.heap.size + 1 ≠ w.heap.size; omega)).trans ((Below.heap_setCell _ ⟨w.heap.size, 0, none⟩ _ (w.heap.size + 1) (by show w.heap.size + 1 ≠ w.heap.size; omega)).trans ((Below.heap_setCell _ ⟨w.heap.size, 1, none⟩ _ (w.heap.size + 1) (by show w.heap.size + 1 ≠ w.heap.size; omega)).trans ((hg1.block (w.heap.size + 1) (Array.getElem?_eq_some_iff.1 j1.out).1 (fun e => by injection e; omega)).trans j1.out))), ((((J2.out.grown hg1 (fun e => by injection e; omega)).set_ 1 _).set_ 0 _).set_ 1 _), (((hg2.far (p := ⟨w.heap.size, 1, none⟩) (by show O ≠ w.heap.size; omega) _).far (p := ⟨w.heap.size, 0, none⟩) (by show O ≠ w.heap.size; omega) _).far (p := ⟨w.heap.size, 1, none⟩) (by show O ≠ w.heap.size; omega) _), (grownBy_setNew (grownBy_setNew (grownBy_setNew (J5.out.trans hg1) (Nat.le_refl _) 1 _) (Nat.le_refl _) 0 _) (Nat.le_refl _) 1 _), HSS.out, by omega, by omega, by omega, by omega⟩
        · have HSS := Lib.hid (show placeGo s n (s.size - (i + k)) (i + k) (l, c + 1) = P by rw [← HPL.out, HS.out]; simp only [stepP, HD.out, hr, if_false])
          have hr' : ((r : Int) == 10) = false := by simp; omega
          go_wp2_with (go_at_call 48; refine (ofClosure (i : Int) n l c O T x' y' W1 J3.out J4.out).mono ?_; rintro e w' ⟨rfl, hg1, hg2⟩; obtain ⟨q0, q1, q2, q3⟩ := blk2_facts (J2.out.grown hg1 (fun e => by injection e; omega)))
          go_roundg (s.size - (i + k))
          case measure => omega
          case rel => exact ⟨i + k, l, c + 1, .int .i64 l, .int .i64 c, hw.2, Nat.le_refl _, (Below.heap_setCell _ ⟨w.heap.size, 1, none⟩ _ (w.heap.size + 1) (by show w.heap.size + 1 ≠ w.heap.size; omega)).trans ((hg1.block (w.heap.size + 1) (Array.getElem?_eq_some_iff.1 j1.out).1 (fun e => by injection e; omega)).trans j1.out), ((J2.out.grown hg1 (fun e => by injection e; omega)).set_ 1 _), (hg2.far (p := ⟨w.heap.size, 1, none⟩) (by show O ≠ w.heap.size; omega) _), (grownBy_setNew (J5.out.trans hg1) (Nat.le_refl _) 1 _), HSS.out, by omega, by omega, by omega, by omega⟩
    · have hend : i = s.size := by omega
      have hnext := fun ty => run_next_end_at (P := Tryd.prog) wr (w.heap.size + 1) s i ty HIT.out hlt
      obtain ⟨p0, p1, _, _⟩ := blk2_facts HPP.out
      have HE := Lib.hid (placeGo_stop s n (s.size - i) i (l, c) (.inr (by omega)))
      have HEND := Lib.hid hend
      clear hend
      go_wp2_with (go_at_call 48; refine (ofClosure (s.size : Int) n l c O T x' y' wr HOO.out HTT.out).mono ?_; rintro e w' ⟨rfl, hg1, hg2⟩)
      go_end0
      exact ⟨rfl, HGR.out.trans hg1, by rw [← HPL.out, HE.out]; exact hg2⟩

theorem placeOf_bad {s : ByteArray} {n : Int} (h : n < 0 ∨ (s.size : Int) < n) : placeOf s n = (0, 0) := by rw [placeOf, if_pos h]
theorem placeOf_good {s : ByteArray} {n : Int} (h : ¬ (n < 0 ∨ (s.size : Int) < n)) : placeOf s n = placeGo s n.toNat s.size 0 (1, 1) := by rw [placeOf, if_neg h]

set_option maxHeartbeats 1000000 in
theorem of_any (A : Option Addr) (c : Nat) (s : ByteArray) (n : Int) (w : World) (hsz : s.size ≤ 100000) (h : Reads w w.heap.size 1 A s.size (s.data.toList.flatMap byteV)) :
    Calls Tryd.prog 33 #[.slice A s.size c, .int .i64 n] w fun e w' => e = .returned (.agg #[.int .i64 (placeOf s n).1, .int .i64 (placeOf s n).2]) ∧ Below w.heap.size w w' := by
  by_cases hbad : n < 0 ∨ (s.size : Int) < n
  · rw [placeOf_bad hbad]
    rcases hbad with h1 | h1
    · go_enter Tryd.func33, Tryd.ntmps33
      go_wp2
      refine bodyPost_ret (v := .agg #[.int .i64 0, .int .i64 0]) (by simp [results, Tryd.results33, go_sem]) rfl ⟨rfl, ?_⟩
      exact (((Below.refl _ w).alloc (Nat.le_refl _) _).alloc (by simp) _).alloc (by simp; omega) _
    · have h0 : decide (n < 0) = false := by simp; omega
      go_enter Tryd.func33, Tryd.ntmps33
      go_wp2
      refine bodyPost_ret (v := .agg #[.int .i64 0, .int .i64 0]) (by simp [results, Tryd.results33, go_sem]) rfl ⟨rfl, ?_⟩
      exact (((Below.refl _ w).alloc (Nat.le_refl _) _).alloc (by simp) _).alloc (by simp; omega) _
  · rw [placeOf_good hbad]
    obtain ⟨m, rfl⟩ : ∃ m : Nat, n = m := ⟨n.toNat, by omega⟩
    have h0 : decide ((m : Int) < 0) = false := by simp
    have h1 : decide ((s.size : Int) < (m : Int)) = false := by simp; omega
    have hm : m ≤ s.size := by omega
    have HR := Lib.hid h
    clear h hbad
    rw [Int.toNat_natCast]
    generalize hP : placeGo s m s.size 0 (1, 1) = P
    have HP := Lib.hid hP
    clear hP
    go_enter Tryd.func33, Tryd.ntmps33
    go_wp2_with fail
    refine (starts_any A c s m (w.heap.size + 1 + 1) w.heap.size (.int .i64 0) (.int .i64 0) _ hsz hm (((HR.out.alloc (Nat.le_refl _) _).alloc (by simp) _).alloc (by simp; omega) _ |>.more (by simp; omega)) (Blk.new_at (by simp) _ _) (((Blk.new w _ _).alloc _).alloc _)).mono ?_
    rw [HP.out]
    rintro e w1 ⟨rfl, hg1, hb1⟩
    have r1 := (((Blk.new_at (w := w.alloc (.cells #[.int .i64 m] 3)) (n := w.heap.size + 1) (by simp) 54 #[.int .i64 0, .int .i64 0]).alloc (.cells #[.int .i64 0, .int .i64 0] 54))).grown hg1 (fun e => by injection e; omega)
    obtain ⟨a0, a1, a2, a3⟩ := blk2_facts r1
    obtain ⟨b0, b1, _, _⟩ := blk2_facts hb1
    have hbe := grownBy_below hg1 (B := w.heap.size) (by omega) (by simp; omega)
    have HB := Lib.hid (((((Below.refl _ w).alloc (Nat.le_refl _) (.cells #[.int .i64 m] 3)).alloc (by simp) (.cells #[.int .i64 0, .int .i64 0] 54)).alloc (by simp; omega) (.cells #[.int .i64 0, .int .i64 0] 54)).trans hbe)
    clear hbe r1 hb1
    go_wp2_with fail
    refine bodyPost_ret (v := .agg #[.int .i64 P.1, .int .i64 P.2]) ?_ rfl ⟨rfl, ?_⟩
    · simp [results, Tryd.results33, go_sem, a0, a1]
    · exact (HB.out.setCell (by show _ ≤ w.heap.size + 1; omega) _).setCell (by show _ ≤ w.heap.size + 1; omega) _
end Go.Proofs.YtbkkegnmlhhpcaaDoor
