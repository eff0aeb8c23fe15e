/-
  The document's own signs: ref01.Sign is the model's decoding. By an AI agent.
-/
import Derived.Test.YtbkkegnmlhhpcaaDoorPlace
import Derived.BigQuiet
namespace Go.Proofs.YtbkkegnmlhhpcaaDoor
open Go.RowKit Go.Lib Go.Proofs

/-- A byte of a text. -/
def byteAt (s : ByteArray) (j : Nat) : Nat := (s.get! j).toNat
theorem byteAt_lt (s : ByteArray) (j : Nat) : byteAt s j < 256 := UInt8.toNat_lt _
theorem byteAt_get (s : ByteArray) (j : Nat) (h : j < s.data.toList.length) : byteAt s j = (s.data.toList[j]).toNat := by
  have h' : j < s.data.size := by simpa using h
  unfold byteAt ByteArray.get!
  simp [getElem!_pos s.data j h']
/-- The number that Sign hands back for what is decoded. -/
def signV (d : Nat × Nat) : Int := if d = (65533, 1) then -1 else (d.1 : Int)

/-- The model's decoding over the bytes. -/
def dec4 (y0 y1 y2 y3 : Nat) (c1 c2 c3 : Prop) [Decidable c1] [Decidable c2] [Decidable c3] : Nat × Nat :=
  if y0 < 128 then (y0, 1)
  else if y0 / 32 = 6 ∧ c1 ∧ y1 / 64 = 2 then (if 128 ≤ y0 % 32 * 64 + y1 % 64 then (y0 % 32 * 64 + y1 % 64, 2) else (65533, 1))
  else if y0 / 16 = 14 ∧ (c1 ∧ y1 / 64 = 2) ∧ (c2 ∧ y2 / 64 = 2) then (if 2048 ≤ y0 % 16 * 4096 + y1 % 64 * 64 + y2 % 64 ∧ Utf8.valid ((y0 % 16 * 4096 + y1 % 64 * 64 + y2 % 64 : Nat) : Int) = true then (y0 % 16 * 4096 + y1 % 64 * 64 + y2 % 64, 3) else (65533, 1))
  else if y0 / 8 = 30 ∧ (c1 ∧ y1 / 64 = 2) ∧ (c2 ∧ y2 / 64 = 2) ∧ (c3 ∧ y3 / 64 = 2) then (if 65536 ≤ y0 % 8 * 262144 + y1 % 64 * 4096 + y2 % 64 * 64 + y3 % 64 ∧ Utf8.valid ((y0 % 8 * 262144 + y1 % 64 * 4096 + y2 % 64 * 64 + y3 % 64 : Nat) : Int) = true then (y0 % 8 * 262144 + y1 % 64 * 4096 + y2 % 64 * 64 + y3 % 64, 4) else (65533, 1))
  else (65533, 1)
theorem decode_eq (s : ByteArray) (i : Nat) : Utf8.decode s i = dec4 (byteAt s i) (byteAt s (i + 1)) (byteAt s (i + 2)) (byteAt s (i + 3)) (i + 1 < s.size) (i + 2 < s.size) (i + 3 < s.size) := by
  unfold dec4 byteAt
  simp only [Utf8.decode, Nat.add_zero, Bool.and_eq_true, decide_eq_true_eq, beq_iff_eq, ge_iff_le, Utf8.runeError, and_assoc]
section
variable {s : ByteArray} {i : Nat}
theorem dec_ascii (h : byteAt s i < 128) : Utf8.decode s i = (byteAt s i, 1) := by
  rw [decode_eq, dec4, if_pos h]
theorem dec_two (h : 194 ≤ byteAt s i) (h' : byteAt s i ≤ 223) (hi : i + 1 < s.size) (c : 128 ≤ byteAt s (i + 1)) (c' : byteAt s (i + 1) ≤ 191) : Utf8.decode s i = ((byteAt s i - 192) * 64 + (byteAt s (i + 1) - 128), 2) := by
  rw [decode_eq, dec4, if_neg (by omega), if_pos (by omega), if_pos (by omega), Prod.mk.injEq]
  exact ⟨by omega, rfl⟩
theorem dec_two_bad (h : 194 ≤ byteAt s i) (h' : byteAt s i ≤ 223) (hc : ¬ (i + 1 < s.size ∧ 128 ≤ byteAt s (i + 1) ∧ byteAt s (i + 1) ≤ 191)) : Utf8.decode s i = (65533, 1) := by
  rw [decode_eq, dec4, if_neg (by omega), if_neg (by omega), if_neg (by omega), if_neg (by omega)]
theorem valid_iff (v : Nat) : Utf8.valid (v : Int) = true ↔ v < 55296 ∨ (57344 ≤ v ∧ v ≤ 1114111) := by
  simp [Utf8.valid]
  omega
theorem dec_three (h : 224 ≤ byteAt s i) (h' : byteAt s i ≤ 239) (hi : i + 2 < s.size) (c : 128 ≤ byteAt s (i + 1)) (c' : byteAt s (i + 1) ≤ 191) (d : 128 ≤ byteAt s (i + 2)) (d' : byteAt s (i + 2) ≤ 191)
    (v : Nat) (hv : v = (byteAt s i - 224) * 4096 + (byteAt s (i + 1) - 128) * 64 + (byteAt s (i + 2) - 128)) : Utf8.decode s i = if 2048 ≤ v ∧ (v < 55296 ∨ 57344 ≤ v) then (v, 3) else (65533, 1) := by
  rw [decode_eq, dec4, if_neg (by omega), if_neg (by omega), if_pos (by omega)]
  have e : byteAt s i % 16 * 4096 + byteAt s (i + 1) % 64 * 64 + byteAt s (i + 2) % 64 = v := by omega
  rw [e]
  have hv2 : v < 65536 := by omega
  by_cases hx : 2048 ≤ v ∧ (v < 55296 ∨ 57344 ≤ v)
  · rw [if_pos hx, if_pos ⟨hx.1, (valid_iff v).2 (by omega)⟩]
  · rw [if_neg hx, if_neg (fun hy => hx ⟨hy.1, by have := (valid_iff v).1 hy.2; omega⟩)]
theorem dec_three_bad (h : 224 ≤ byteAt s i) (h' : byteAt s i ≤ 239) (hc : ¬ (i + 2 < s.size ∧ (128 ≤ byteAt s (i + 1) ∧ byteAt s (i + 1) ≤ 191) ∧ (128 ≤ byteAt s (i + 2) ∧ byteAt s (i + 2) ≤ 191))) : Utf8.decode s i = (65533, 1) := by
  rw [decode_eq, dec4, if_neg (by omega), if_neg (by omega), if_neg (by omega), if_neg (by omega)]
theorem dec_four (h : 240 ≤ byteAt s i) (h' : byteAt s i ≤ 244) (hi : i + 3 < s.size) (c : 128 ≤ byteAt s (i + 1)) (c' : byteAt s (i + 1) ≤ 191) (d : 128 ≤ byteAt s (i + 2)) (d' : byteAt s (i + 2) ≤ 191) (f : 128 ≤ byteAt s (i + 3)) (f' : byteAt s (i + 3) ≤ 191)
    (v : Nat) (hv : v = (byteAt s i - 240) * 262144 + (byteAt s (i + 1) - 128) * 4096 + (byteAt s (i + 2) - 128) * 64 + (byteAt s (i + 3) - 128)) : Utf8.decode s i = if 65536 ≤ v ∧ v ≤ 1114111 then (v, 4) else (65533, 1) := by
  rw [decode_eq, dec4, if_neg (by omega), if_neg (by omega), if_neg (by omega), if_pos (by omega)]
  have e : byteAt s i % 8 * 262144 + byteAt s (i + 1) % 64 * 4096 + byteAt s (i + 2) % 64 * 64 + byteAt s (i + 3) % 64 = v := by omega
  rw [e]
  by_cases hx : 65536 ≤ v ∧ v ≤ 1114111
  · rw [if_pos hx, if_pos ⟨hx.1, (valid_iff v).2 (by omega)⟩]
  · rw [if_neg hx, if_neg (fun hy => hx ⟨hy.1, by have := (valid_iff v).1 hy.2; omega⟩)]
theorem dec_four_bad (h : 240 ≤ byteAt s i) (h' : byteAt s i ≤ 244) (hc : ¬ (i + 3 < s.size ∧ (128 ≤ byteAt s (i + 1) ∧ byteAt s (i + 1) ≤ 191) ∧ (128 ≤ byteAt s (i + 2) ∧ byteAt s (i + 2) ≤ 191) ∧ (128 ≤ byteAt s (i + 3) ∧ byteAt s (i + 3) ≤ 191))) : Utf8.decode s i = (65533, 1) := by
  rw [decode_eq, dec4, if_neg (by omega), if_neg (by omega), if_neg (by omega), if_neg (by omega)]
theorem dec_other (h : 128 ≤ byteAt s i) (h' : byteAt s i < 194 ∨ 244 < byteAt s i) : Utf8.decode s i = (65533, 1) := by
  have hb := byteAt_lt s i
  rw [decode_eq, dec4, if_neg (by omega)]
  by_cases h6 : byteAt s i / 32 = 6 ∧ i + 1 < s.size ∧ byteAt s (i + 1) / 64 = 2
  · rw [if_pos h6, if_neg (by omega)]
  · rw [if_neg h6, if_neg (by omega)]
    by_cases h30 : byteAt s i / 8 = 30 ∧ (i + 1 < s.size ∧ byteAt s (i + 1) / 64 = 2) ∧ (i + 2 < s.size ∧ byteAt s (i + 2) / 64 = 2) ∧ (i + 3 < s.size ∧ byteAt s (i + 3) / 64 = 2)
    · rw [if_pos h30, if_neg (fun hy => by have := (valid_iff _).1 hy.2; omega)]
    · rw [if_neg h30]
end
end Go.Proofs.YtbkkegnmlhhpcaaDoor
