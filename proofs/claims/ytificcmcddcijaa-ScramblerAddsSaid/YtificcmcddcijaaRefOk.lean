/-
  What the reference's functions of chapter 5 answer, as plain functions.
-/
import Derived.Test.YtificcmcddcijaaRf1
import Derived.Test.YtificcmcddcijaaScr
import Derived.Test.YtificcmcddcijaaPeriod
import Derived.Test.YtificcmcddcijaaPlain
namespace Go.Proofs.Ytificcmcddcijaa.RefOk
open Go Go.RowKit Go.Proofs.Ytificcmcddcijaa.Rf Go.Proofs.YtificcmcddcijaaW.PrintWords Go.Proofs.YtificcmcddcijaaW.PrintLast Go.Proofs.Ytificcmcddcijaa.Ext

theorem step_ok (x : Nat) (h : x < 32768) : masterdiscref05_step.f (x : Int) = some (stp x : Int) := by
  unfold masterdiscref05_step.f
  rw [show (2 : Int) = ((2 : Nat) : Int) from rfl, tdiv_nat, tmod_nat, wrap64_nat _ (by omega), tmod_nat, ← Int.natCast_add, wrap64_nat _ (by omega), tmod_nat, show (16384 : Int) = ((16384 : Nat) : Int) from rfl, ← Int.natCast_mul, wrap64_nat _ (by omega), ← Int.natCast_add, wrap64_nat _ (by omega)]
  rfl

theorem reg_loop (n : Nat) : ∀ (d i k : Nat), n % 32767 - i = d → i ≤ n % 32767 → d < k → masterdiscref05_Register.l0 k (n : Int) (rg i) i = some ((rg (n % 32767) : Int), 0) := by
  intro d
  induction d with
  | zero =>
    intro i k hd hi hk
    obtain ⟨k, rfl⟩ : ∃ m, k = m + 1 := ⟨k - 1, by omega⟩
    obtain rfl : i = n % 32767 := by omega
    simp only [masterdiscref05_Register.l0]
    rw [show (32767 : Int) = ((32767 : Nat) : Int) from rfl, tmod_nat, if_neg (by omega)]
  | succ d ih =>
    intro i k hd hi hk
    obtain ⟨k, rfl⟩ : ∃ m, k = m + 1 := ⟨k - 1, by omega⟩
    have hm : n % 32767 < 32767 := Nat.mod_lt _ (by decide)
    simp only [masterdiscref05_Register.l0]
    rw [show (32767 : Int) = ((32767 : Nat) : Int) from rfl, tmod_nat, if_pos (by omega), step_ok _ (rg_lt i), Option.bind_some, wrap64_id _ (by omega)]
    exact ih (i + 1) k (by omega) (by omega) (by omega)

theorem register_ref (a : Int) : ∃ r, (∀ k, 40000 ≤ k → masterdiscref05_Register.f k a = some r) ∧ scrambler_Register.f a = some r := by
  by_cases h : a < 0 ∨ 1048576 < a
  · refine ⟨(0, 2), fun k hk => ?_, by unfold scrambler_Register.f; rw [if_pos h]⟩
    obtain ⟨k, rfl⟩ : ∃ m, k = m + 1 := ⟨k - 1, by omega⟩
    unfold masterdiscref05_Register.f
    by_cases h0 : a < 0
    · rw [if_pos h0]; simp only [masterdiscref05_Register.j0]; rw [if_pos trivial]
    · rw [if_neg h0, decide_eq_true (show a > 1048576 by omega)]; simp only [masterdiscref05_Register.j0]; rw [if_pos trivial]
  · obtain ⟨n, rfl⟩ : ∃ n : Nat, a = n := ⟨a.toNat, by omega⟩
    refine ⟨((rg n : Int), 0), fun k hk => ?_, by unfold scrambler_Register.f; rw [if_neg h, Int.toNat_natCast]⟩
    obtain ⟨k, rfl⟩ : ∃ m, k = m + 1 := ⟨k - 1, by omega⟩
    unfold masterdiscref05_Register.f
    have hm : n % 32767 < 32767 := Nat.mod_lt _ (by decide)
    rw [if_neg (by omega), decide_eq_false (by omega)]
    simp only [masterdiscref05_Register.j0]
    rw [if_neg (by decide)]
    have := reg_loop n (n % 32767) 0 k (by omega) (by omega) (by omega)
    rw [rg_mod] at this
    exact this

theorem two_pow_cast (j : Nat) : ((2 ^ j : Nat) : Int) * 2 = ((2 ^ (j + 1) : Nat) : Int) := by rw [Nat.pow_succ, Int.natCast_mul]; rfl

theorem seq_inner (x0 : Int) (xs : List Int) (i : Nat) (hi : i ≤ 65536) (hxs : xs.length < 140737488355328) : ∀ (d j k : Nat), 8 - j = d → j ≤ 8 → d < k →
    masterdiscref05_Sequence.l1 k x0 (rg (8 * i + j)) xs i (bsum i j) ((2 ^ j : Nat) : Int) j = masterdiscref05_Sequence.l0 (k - d - 1) x0 (rg (8 * (i + 1))) (xs ++ [(byt i : Int)]) ((i + 1 : Nat) : Int) := by
  intro d
  induction d with
  | zero =>
    intro j k hd hj hk
    obtain ⟨k, rfl⟩ : ∃ m, k = m + 1 := ⟨k - 1, by omega⟩
    obtain rfl : j = 8 := by omega
    simp only [masterdiscref05_Sequence.l1]
    rw [if_neg (by omega), if_pos hxs, wrap64_id _ (by omega)]
    have hb : ((bsum i 8 : Nat) : Int) % 256 = (byt i : Int) := by
      have := byt_lt i
      unfold byt at *
      omega
    rw [hb, show 8 * (i + 1) = 8 * i + 8 by omega]
    rfl
  | succ d ih =>
    intro j k hd hj hk
    obtain ⟨k, rfl⟩ : ∃ m, k = m + 1 := ⟨k - 1, by omega⟩
    have hp : (2 : Nat) ^ j ≤ 2 ^ 8 := Nat.pow_le_pow_right (by decide) (by omega)
    have hb := bsum_lt i j
    have hbit := bit_lt (8 * i + j)
    have hmul : bit (8 * i + j) * 2 ^ j ≤ 1 * 2 ^ 8 := Nat.mul_le_mul (by omega) hp
    simp only [masterdiscref05_Sequence.l1]
    rw [if_pos (by omega), step_ok _ (rg_lt _), Option.bind_some]
    have e1 : Int.tmod ((rg (8 * i + j) : Nat) : Int) 2 = ((bit (8 * i + j) : Nat) : Int) := tmod_nat _ 2
    rw [e1, ← Int.natCast_mul, wrap64_nat _ (by omega), ← Int.natCast_add, wrap64_nat _ (by omega), Int.mul_comm 2, two_pow_cast, wrap64_nat _ (by rw [Nat.pow_succ]; omega), wrap64_id _ (by omega)]
    have := ih (j + 1) k (by omega) (by omega) (by omega)
    rw [show k + 1 - (d + 1) - 1 = k - d - 1 by omega]
    exact this

theorem seqI_succ (i : Nat) : seqI (i + 1) = seqI i ++ [(byt i : Int)] := by simp [seqI, List.range_succ]
theorem seqI_length (i : Nat) : (seqI i).length = i := by simp [seqI]

theorem seq_outer (n : Nat) (hn : n ≤ 65536) : ∀ (d i k : Nat), n - i = d → i ≤ n → d * 10 < k →
    masterdiscref05_Sequence.l0 k (n : Int) (rg (8 * i)) (seqI i) (i : Int) = some (strOfNums (seqI n), 0) := by
  intro d
  induction d with
  | zero =>
    intro i k hd hi hk
    obtain ⟨k, rfl⟩ : ∃ m, k = m + 1 := ⟨k - 1, by omega⟩
    obtain rfl : i = n := by omega
    simp only [masterdiscref05_Sequence.l0]
    rw [if_neg (by omega)]
  | succ d ih =>
    intro i k hd hi hk
    obtain ⟨k, rfl⟩ : ∃ m, k = m + 1 := ⟨k - 1, by omega⟩
    simp only [masterdiscref05_Sequence.l0]
    rw [if_pos (by omega)]
    have := seq_inner n (seqI i) i (by omega) (by rw [seqI_length]; omega) 8 0 k (by omega) (by omega) (by omega)
    rw [← seqI_succ] at this
    refine Eq.trans this ?_
    exact ih (i + 1) _ (by omega) (by omega) (by omega)

theorem sequence_ref (a : Int) : ∃ r, (∀ k, 700000 ≤ k → masterdiscref05_Sequence.f k a = some r) ∧ scrambler_Sequence.f a = some r := by
  by_cases h : a < 0 ∨ 65536 < a
  · refine ⟨((⟨#[]⟩ : ByteArray), 2), fun k hk => ?_, by unfold scrambler_Sequence.f; rw [if_pos h]⟩
    obtain ⟨k, rfl⟩ : ∃ m, k = m + 1 := ⟨k - 1, by omega⟩
    unfold masterdiscref05_Sequence.f
    by_cases h0 : a < 0
    · rw [if_pos h0]; simp only [masterdiscref05_Sequence.j0]; rw [if_pos trivial]
    · rw [if_neg h0, decide_eq_true (show a > 65536 by omega)]; simp only [masterdiscref05_Sequence.j0]; rw [if_pos trivial]
  · obtain ⟨n, rfl⟩ : ∃ n : Nat, a = n := ⟨a.toNat, by omega⟩
    refine ⟨(strOfNums (seqI n), 0), fun k hk => ?_, by unfold scrambler_Sequence.f; rw [if_neg h, Int.toNat_natCast]⟩
    obtain ⟨k, rfl⟩ : ∃ m, k = m + 1 := ⟨k - 1, by omega⟩
    unfold masterdiscref05_Sequence.f
    rw [if_neg (by omega), decide_eq_false (by omega)]
    simp only [masterdiscref05_Sequence.j0]
    rw [if_neg (by decide)]
    exact seq_outer n (by omega) n 0 k (by omega) (by omega) (by omega)

/-- The exclusive or of the first n bytes of two strings. -/
def xorI (a b : ByteArray) (n : Nat) : List Int := (List.range n).map fun j : Nat => Go.bits .xor .u8 (bt a j) (bt b j)
theorem xorI_succ (a b : ByteArray) (n : Nat) : xorI a b (n + 1) = xorI a b n ++ [Go.bits .xor .u8 (bt a n) (bt b n)] := by simp [xorI, List.range_succ]
theorem xorI_length (a b : ByteArray) (n : Nat) : (xorI a b n).length = n := by simp [xorI]
theorem xor_loop (a b : ByteArray) (ha : a.size < 140737488355328) : ∀ (d i k : Nat), min a.size b.size - i = d → i ≤ min a.size b.size → d < k →
    masterdiscref02_Xor.l0 k a b (xorI a b i) (i : Int) = some (strOfNums (xorI a b (min a.size b.size))) := by
  intro d
  induction d with
  | zero =>
    intro i k hd hi hk
    obtain ⟨k, rfl⟩ : ∃ m, k = m + 1 := ⟨k - 1, by omega⟩
    obtain rfl : i = min a.size b.size := by omega
    simp only [masterdiscref02_Xor.l0]
    by_cases h1 : a.size ≤ b.size
    · rw [if_neg (by omega)]
    · rw [if_pos (by omega), if_neg (by omega)]
  | succ d ih =>
    intro i k hd hi hk
    obtain ⟨k, rfl⟩ : ∃ m, k = m + 1 := ⟨k - 1, by omega⟩
    simp only [masterdiscref02_Xor.l0]
    rw [if_pos (by omega), if_pos (by omega), if_pos (by omega), if_pos (by rw [xorI_length]; omega), wrap64_id _ (by omega), ← xorI_succ]
    exact ih (i + 1) k (by omega) (by omega) (by omega)
theorem xor_ref (a b : ByteArray) (ha : a.size < 140737488355328) (k : Nat) (hk : a.size < k) : masterdiscref02_Xor.f k a b = some (strOfNums (xorI a b (min a.size b.size))) := by
  unfold masterdiscref02_Xor.f
  exact xor_loop a b ha (min a.size b.size) 0 k (by omega) (by omega) (by omega)
end Go.Proofs.Ytificcmcddcijaa.RefOk
