/-
  The exclusive or of two different parts of the sequence is a part of it. Numbers alone.
-/
import Derived.Test.YtificcmcddcijaaFind
namespace Go.Proofs.Ytificcmcddcijaa.Add
open Go Go.Proofs.Ytificcmcddcijaa.Find Go.Proofs.Ytificcmcddcijaa.Recurs

theorem pig : ∀ (n : Nat) (f : Nat → Nat), (∀ i, i < n → f i < n) → (∀ i j, i < n → j < n → f i = f j → i = j) → ∀ y, y < n → ∃ i, i < n ∧ f i = y := by
  intro n
  induction n with
  | zero => intro f _ _ y hy; omega
  | succ n ih =>
    intro f hf hi y hy
    have hfn := hf n (Nat.lt_succ_self n)
    have ih' := ih (fun i => if f i = n then f n else f i) (fun i hin => by
        have h1 := hf i (by omega)
        by_cases h : f i = n
        · simp only [h, if_true]
          have : f n ≠ n := fun e => by have := hi i n (by omega) (by omega) (by rw [h, e]); omega
          omega
        · simp only [h, if_false]; omega)
      (fun i j hin hjn h => by
        by_cases h1 : f i = n <;> by_cases h2 : f j = n
        · exact hi i j (by omega) (by omega) (by rw [h1, h2])
        · simp only [h1, h2, if_true, if_false] at h
          have := hi n j (by omega) (by omega) h
          omega
        · simp only [h1, h2, if_true, if_false] at h
          have := hi i n (by omega) (by omega) h
          omega
        · simp only [h1, h2, if_false] at h
          exact hi i j (by omega) (by omega) h)
    by_cases hya : y = f n
    · exact ⟨n, by omega, hya.symm⟩
    · by_cases hyn : y = n
      · obtain ⟨i, hin, h⟩ := ih' (f n) (by omega)
        by_cases h1 : f i = n
        · exact ⟨i, by omega, by omega⟩
        · simp only [h1, if_false] at h
          have := hi i n (by omega) (by omega) h
          omega
      · obtain ⟨i, hin, h⟩ := ih' y (by omega)
        by_cases h1 : f i = n
        · simp only [h1, if_true] at h; omega
        · simp only [h1, if_false] at h; exact ⟨i, by omega, h⟩

theorem rg_all (z : Nat) (h0 : 0 < z) (h1 : z < 32768) : ∃ m, m < 32767 ∧ rg m = z := by
  obtain ⟨i, hi, h⟩ := pig 32767 (fun i => rg i - 1) (fun i _ => by have := rg_lt i; have := rg_pos i; omega)
    (fun i j hi hj h => rg_inj hi hj (by have := rg_pos i; have := rg_pos j; omega)) (z - 1) (by omega)
  exact ⟨i, hi, by have := rg_pos i; omega⟩

theorem stp_bit (x : Nat) (hx : x < 32768) (j : Nat) : (stp x).testBit j = if j < 14 then x.testBit (j + 1) else if j = 14 then (x.testBit 0 ^^ x.testBit 1) else false := by
  have e : stp x = 2 ^ 14 * ((x % 2 + x / 2 % 2) % 2) + x / 2 := by unfold stp; omega
  rw [e, Nat.testBit_two_pow_mul_add _ (by omega : x / 2 < 2 ^ 14)]
  by_cases h : j < 14
  · rw [if_pos h, if_pos h, Nat.testBit_div_two]
  · rw [if_neg h, if_neg h]
    by_cases h14 : j = 14
    · subst h14
      rw [if_pos rfl, Nat.sub_self, Nat.testBit_zero, Nat.testBit_zero, Nat.testBit_succ, Nat.testBit_zero]
      have a : x % 2 = 0 ∨ x % 2 = 1 := by omega
      have b : x / 2 % 2 = 0 ∨ x / 2 % 2 = 1 := by omega
      rcases a with a | a <;> rcases b with b | b <;> rw [a, b] <;> rfl
    · rw [if_neg h14]
      apply Nat.testBit_lt_two_pow
      have : 2 ^ 1 ≤ 2 ^ (j - 14) := Nat.pow_le_pow_right (by decide) (by omega)
      omega
theorem xor_lt {a b : Nat} (ha : a < 32768) (hb : b < 32768) : a ^^^ b < 32768 := Nat.xor_lt_two_pow (n := 15) ha hb
theorem stp_xor {a b : Nat} (ha : a < 32768) (hb : b < 32768) : stp (a ^^^ b) = stp a ^^^ stp b := by
  apply Nat.eq_of_testBit_eq
  intro j
  rw [Nat.testBit_xor, stp_bit _ (xor_lt ha hb), stp_bit _ ha, stp_bit _ hb]
  by_cases h : j < 14
  · rw [if_pos h, if_pos h, if_pos h, Nat.testBit_xor]
  · rw [if_neg h, if_neg h, if_neg h]
    by_cases h14 : j = 14
    · rw [if_pos h14, if_pos h14, if_pos h14, Nat.testBit_xor, Nat.testBit_xor]
      cases a.testBit 0 <;> cases a.testBit 1 <;> cases b.testBit 0 <;> cases b.testBit 1 <;> rfl
    · rw [if_neg h14, if_neg h14, if_neg h14]; rfl
theorem run_xor : ∀ (t : Nat) {a b : Nat}, a < 32768 → b < 32768 → run t (a ^^^ b) = run t a ^^^ run t b
  | 0, _, _, _, _ => rfl
  | t + 1, a, b, ha, hb => by rw [run, stp_xor ha hb, run_xor t (stp_lt ha) (stp_lt hb), run, run]

/-- Some place m carries the exclusive or of the two parts. -/
theorem bits_add (p q : Nat) (h : rg p ≠ rg q) : ∃ m, m < 32767 ∧ ∀ t, bit (m + t) = bit (p + t) ^^^ bit (q + t) := by
  have hz : rg p ^^^ rg q ≠ 0 := fun e => h (by
    have : rg p ^^^ rg q ^^^ rg q = 0 ^^^ rg q := by rw [e]
    rwa [Nat.xor_assoc, Nat.xor_self, Nat.xor_zero, Nat.zero_xor] at this)
  obtain ⟨m, hm, e⟩ := rg_all (rg p ^^^ rg q) (by omega) (xor_lt (rg_lt p) (rg_lt q))
  refine ⟨m, hm, fun t => ?_⟩
  unfold bit
  rw [rg_add, e, run_xor t (rg_lt p) (rg_lt q), ← rg_add, ← rg_add]
  have := Nat.xor_mod_two_pow (a := rg (p + t)) (b := rg (q + t)) (n := 1)
  simpa using this

theorem byt_of_bits (i a b : Nat) (h : ∀ j, j < 8 → bit (8 * i + j) = bit (8 * a + j) ^^^ bit (8 * b + j)) : byt i = byt a ^^^ byt b := by
  apply Nat.eq_of_testBit_eq
  intro j
  rw [Nat.testBit_xor]
  by_cases hj : j < 8
  · have hh := h j hj
    rw [← byt_bit i j hj, ← byt_bit a j hj, ← byt_bit b j hj] at hh
    rw [Nat.testBit_eq_decide_div_mod_eq, Nat.testBit_eq_decide_div_mod_eq, Nat.testBit_eq_decide_div_mod_eq, hh]
    have x : byt a / 2 ^ j % 2 = 0 ∨ byt a / 2 ^ j % 2 = 1 := by omega
    have y : byt b / 2 ^ j % 2 = 0 ∨ byt b / 2 ^ j % 2 = 1 := by omega
    rcases x with x | x <;> rcases y with y | y <;> rw [x, y] <;> rfl
  · have hp : ∀ k, byt k < 2 ^ j := fun k => Nat.lt_of_lt_of_le (byt_lt k) (Nat.pow_le_pow_right (show 0 < 2 by decide) (show 8 ≤ j by omega))
    rw [Nat.testBit_lt_two_pow (hp i), Nat.testBit_lt_two_pow (hp a), Nat.testBit_lt_two_pow (hp b)]; rfl

theorem byts_add (a b : Nat) (h : rg (8 * a) ≠ rg (8 * b)) : ∃ p, p < 32767 ∧ ∀ j, byt (p + j) = byt (a + j) ^^^ byt (b + j) := by
  obtain ⟨m, hm, hb⟩ := bits_add (8 * a) (8 * b) h
  refine ⟨m * 4096 % 32767, Nat.mod_lt _ (by decide), fun j => byt_of_bits _ _ _ (fun t ht => ?_)⟩
  have e : rg (8 * (m * 4096 % 32767 + j) + t) = rg (m + (8 * j + t)) := by
    rw [← rg_mod (8 * (m * 4096 % 32767 + j) + t), ← rg_mod (m + (8 * j + t))]
    congr 1
    omega
  have := hb (8 * j + t)
  unfold bit at this ⊢
  rw [e, this, show 8 * a + (8 * j + t) = 8 * (a + j) + t by omega, show 8 * b + (8 * j + t) = 8 * (b + j) + t by omega]

theorem rg_apart (a d : Nat) (h0 : 0 < d) (h1 : d ≤ 4000) : rg (8 * a) ≠ rg (8 * (a + d)) := fun e => by
  have := rg_inj_mod e
  omega
end Go.Proofs.Ytificcmcddcijaa.Add
