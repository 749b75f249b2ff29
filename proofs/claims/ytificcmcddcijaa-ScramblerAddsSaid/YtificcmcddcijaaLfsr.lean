/-
  Plain facts on the register of the scrambler: numbers alone, no program.
-/
import Derived.Laws.BitsLemmas
import Derived.WalkKit
namespace Go.Proofs.Ytificcmcddcijaa
open Go Go.RowKit

/-- The register after a step. -/
def stp (x : Nat) : Nat := x / 2 + (x % 2 + x / 2 % 2) % 2 * 16384

/-- The register after k steps. -/
def rg : Nat → Nat
  | 0 => 1
  | k + 1 => stp (rg k)

theorem stp_lt {x : Nat} (h : x < 32768) : stp x < 32768 := by unfold stp; omega
theorem stp_pos {x : Nat} (h : 0 < x) : 0 < stp x := by
  by_cases e : x = 1
  · subst e; decide
  · unfold stp; exact Nat.lt_of_lt_of_le (show 0 < x / 2 by omega) (Nat.le_add_right _ _)
theorem rg_lt (k : Nat) : rg k < 32768 := by
  induction k with
  | zero => decide
  | succ k ih => exact stp_lt ih
theorem rg_pos (k : Nat) : 0 < rg k := by
  induction k with
  | zero => decide
  | succ k ih => exact stp_pos ih

theorem wraps_i64 (n : Int) (h₀ : 0 ≤ n) (h₁ : n < 2 ^ 63) : IntKind.i64.wrap n = n := by rw [IntKind.wrap_i64]; omega
theorem i64_and (a b : Nat) (ha : a < 9223372036854775808) (hb : b < 9223372036854775808) : bits .and .i64 a b = ((a &&& b : Nat) : Int) :=
  (bits_nat .i64 63 (by decide) wraps_i64 a b ha hb).1
theorem i64_or (a b : Nat) (ha : a < 9223372036854775808) (hb : b < 9223372036854775808) : bits .or .i64 a b = ((a ||| b : Nat) : Int) :=
  (bits_nat .i64 63 (by decide) wraps_i64 a b ha hb).2
theorem bits_xor_nat (k : IntKind) (j : Nat) (hj : j ≤ k.bits) (hk : ∀ n : Int, 0 ≤ n → n < 2 ^ j → k.wrap n = n) (a b : Nat) (ha : a < 2 ^ j) (hb : b < 2 ^ j) :
    bits .xor k a b = ((a ^^^ b : Nat) : Int) := by
  have hp : 2 ^ j ≤ 2 ^ k.bits := Nat.pow_le_pow_right (by decide) hj
  have ha' : a % 2 ^ k.bits = a := Nat.mod_eq_of_lt (Nat.lt_of_lt_of_le ha hp)
  have hb' : b % 2 ^ k.bits = b := Nat.mod_eq_of_lt (Nat.lt_of_lt_of_le hb hp)
  simp only [bits, BitVec.ofInt_natCast, BitVec.toNat_xor, BitVec.toNat_ofNat, ha', hb']
  exact hk _ (Int.natCast_nonneg _) (by exact_mod_cast Nat.xor_lt_two_pow ha hb)
theorem i64_xor (a b : Nat) (ha : a < 9223372036854775808) (hb : b < 9223372036854775808) : bits .xor .i64 a b = ((a ^^^ b : Nat) : Int) :=
  bits_xor_nat .i64 63 (by decide) wraps_i64 a b ha hb
theorem u8_xor (a b : Nat) (ha : a < 256) (hb : b < 256) : bits .xor .u8 a b = ((a ^^^ b : Nat) : Int) :=
  bits_xor_nat .u8 8 (by decide) wraps_u8 a b ha hb
theorem u8_or (a b : Nat) (ha : a < 256) (hb : b < 256) : bits .or .u8 a b = ((a ||| b : Nat) : Int) :=
  (bits_nat .u8 8 (by decide) wraps_u8 a b ha hb).2
theorem u8_and (a b : Nat) (ha : a < 256) (hb : b < 256) : bits .and .u8 a b = ((a &&& b : Nat) : Int) :=
  (bits_nat .u8 8 (by decide) wraps_u8 a b ha hb).1

theorem xor_bit (a b : Nat) (ha : a < 2) (hb : b < 2) : a ^^^ b = (a + b) % 2 := by
  have h1 : a = 0 ∨ a = 1 := by omega
  have h2 : b = 0 ∨ b = 1 := by omega
  rcases h1 with rfl | rfl <;> rcases h2 with rfl | rfl <;> rfl

/-- The code's own step. -/
theorem code_step (x : Nat) (h : x < 32768) :
    bits .or .i64 ((x : Int) / 2) (wrap64 (bits .xor .i64 (bits .and .i64 (x : Int) 1) (bits .and .i64 ((x : Int) / 2) 1) * 16384)) = (stp x : Int) := by
  have e1 : bits .and .i64 (x : Int) 1 = ((x % 2 : Nat) : Int) := by
    rw [show (1 : Int) = ((1 : Nat) : Int) from rfl, i64_and _ _ (by omega) (by omega), Nat.and_one_is_mod]
  have e0 : (x : Int) / 2 = ((x / 2 : Nat) : Int) := by omega
  have e2 : bits .and .i64 ((x : Int) / 2) 1 = ((x / 2 % 2 : Nat) : Int) := by
    rw [e0, show (1 : Int) = ((1 : Nat) : Int) from rfl, i64_and _ _ (by omega) (by omega), Nat.and_one_is_mod]
  rw [e1, e2, i64_xor _ _ (by omega) (by omega), xor_bit _ _ (by omega) (by omega)]
  have e3 : wrap64 ((((x % 2 + x / 2 % 2) % 2 : Nat) : Int) * 16384) = (((x % 2 + x / 2 % 2) % 2 * 16384 : Nat) : Int) := by
    unfold wrap64; omega
  rw [e3, e0, i64_or _ _ (by omega) (by omega)]
  congr 1
  unfold stp
  have hlt : x / 2 < 2 ^ 14 := by omega
  have := Nat.two_pow_add_eq_or_of_lt hlt ((x % 2 + x / 2 % 2) % 2)
  rw [Nat.or_comm, Nat.mul_comm, ← this]
  omega

/-- The k-th bit of the sequence. -/
def bit (k : Nat) : Nat := rg k % 2
/-- The lowest m bits of the i-th byte. -/
def bsum (i : Nat) : Nat → Nat
  | 0 => 0
  | m + 1 => bsum i m + bit (8 * i + m) * 2 ^ m
/-- The i-th byte of the sequence. -/
def byt (i : Nat) : Nat := bsum i 8
/-- The i-th byte when k bits have been laid. -/
def part (k i : Nat) : Nat := bsum i (min (k - 8 * i) 8)

theorem bit_lt (k : Nat) : bit k < 2 := Nat.mod_lt _ (by decide)
theorem bsum_lt (i m : Nat) : bsum i m < 2 ^ m := by
  induction m with
  | zero => simp [bsum]
  | succ m ih =>
    have hb := bit_lt (8 * i + m)
    have h1 : bit (8 * i + m) * 2 ^ m ≤ 1 * 2 ^ m := Nat.mul_le_mul_right _ (by omega)
    rw [bsum, Nat.pow_succ]; omega
theorem byt_lt (i : Nat) : byt i < 256 := bsum_lt i 8
theorem part_lt (k i : Nat) : part k i < 256 :=
  Nat.lt_of_lt_of_le (bsum_lt i _) (Nat.pow_le_pow_right (by decide) (Nat.min_le_right _ _))
theorem part_zero (i : Nat) : part 0 i = 0 := by simp [part, bsum]
theorem part_full (n i : Nat) (h : i < n) : part (8 * n) i = byt i := by
  unfold part byt; rw [Nat.min_eq_right (by omega)]
theorem part_other (k i : Nat) (h : i ≠ k / 8) : part (k + 1) i = part k i := by
  unfold part
  congr 1
  omega
theorem part_this (k : Nat) : part (k + 1) (k / 8) = part k (k / 8) ||| (bit k * 2 ^ (k % 8)) := by
  have e1 : min (k + 1 - 8 * (k / 8)) 8 = k % 8 + 1 := by omega
  have e2 : min (k - 8 * (k / 8)) 8 = k % 8 := by omega
  unfold part
  rw [e1, e2, bsum, show 8 * (k / 8) + k % 8 = k by omega]
  have := Nat.two_pow_add_eq_or_of_lt (bsum_lt (k / 8) (k % 8)) (bit k)
  rw [Nat.or_comm, Nat.mul_comm (bit k), ← this, Nat.add_comm]

/-- The row's cells when k bits have been laid. -/
def rowAt (n k : Nat) : List Value := (List.range n).map fun i => .int .u8 (part k i)
theorem rowAt_length (n k : Nat) : (rowAt n k).length = n := by simp [rowAt]
theorem rowAt_get (n k i : Nat) (h : i < n) : (rowAt n k)[i]? = some (.int .u8 (part k i)) := by simp [rowAt, h]
theorem rowAt_zero (n : Nat) : rowAt n 0 = List.replicate n (.int .u8 0) := by
  apply List.ext_getElem
  · simp [rowAt]
  · intro i h1 h2; simp [rowAt, part_zero]
theorem rowAt_set (n k : Nat) : (rowAt n k).set (k / 8) (.int .u8 (part (k + 1) (k / 8))) = rowAt n (k + 1) := by
  apply List.ext_getElem
  · simp [rowAt]
  · intro i h1 h2
    simp only [rowAt, List.length_map, List.length_range] at h2
    by_cases e : i = k / 8
    · subst e; simp [rowAt]
    · rw [List.getElem_set_ne (fun h => e h.symm)]
      simp [rowAt, part_other k i e]
end Go.Proofs.Ytificcmcddcijaa
