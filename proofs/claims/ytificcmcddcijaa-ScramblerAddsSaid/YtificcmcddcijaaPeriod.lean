/-
  The register's states: the period is 32767, and no state occurs twice in it. Numbers alone.
-/
import Derived.Test.YtificcmcddcijaaLfsr
namespace Go.Proofs.Ytificcmcddcijaa

/-- n steps on from a state. -/
def run : Nat → Nat → Nat
  | 0, x => x
  | n + 1, x => run n (stp x)
theorem run_add (a b x : Nat) : run (a + b) x = run b (run a x) := by
  induction a generalizing x with
  | zero => simp [run]
  | succ a ih => rw [show a + 1 + b = (a + b) + 1 by omega, run, ih, run]
theorem rg_run (k : Nat) : rg k = run k 1 := by
  induction k with
  | zero => rfl
  | succ k ih => rw [rg, ih, run_add k 1, run, run]
theorem rg_add (a b : Nat) : rg (a + b) = run b (rg a) := by rw [rg_run, run_add, ← rg_run]

/-- 2 ^ d steps, reckoned one by one. -/
def its : Nat → Nat → Nat
  | 0, x => stp x
  | d + 1, x => match its d x with
    | 0 => 0
    | y + 1 => its d (y + 1)
theorem run_zero (k : Nat) : run k 0 = 0 := by
  induction k with
  | zero => rfl
  | succ k ih => exact ih
theorem its_run (d x : Nat) : its d x = run (2 ^ d) x := by
  induction d generalizing x with
  | zero => rfl
  | succ d ih =>
    rw [its, Nat.pow_succ, show 2 ^ d * 2 = 2 ^ d + 2 ^ d by omega, run_add, ← ih x]
    split
    · rename_i h; rw [h, run_zero]
    · rename_i y h; rw [h, ih]

theorem stp_inj {a b : Nat} (ha : a < 32768) (hb : b < 32768) (h : stp a = stp b) : a = b := by
  unfold stp at h
  have h1 : a / 2 = b / 2 := by omega
  have h2 : a % 2 = b % 2 := by omega
  omega
theorem rg_back {a b : Nat} : ∀ c, rg (a + c) = rg (b + c) → rg a = rg b
  | 0, h => h
  | c + 1, h => rg_back c (stp_inj (rg_lt _) (rg_lt _) h)

theorem rg_32768 : rg 32768 = 16384 := by
  have h : its 15 1 = 16384 := by decide +kernel
  rw [its_run] at h
  rw [rg_run]; exact h
theorem rg_32767 : rg 32767 = 1 :=
  stp_inj (rg_lt _) (by decide) (show rg 32768 = stp 1 from rg_32768)
theorem rg_period (k : Nat) : rg (k + 32767) = rg k := by
  rw [Nat.add_comm, rg_add, rg_32767, ← rg_run]
theorem rg_periods (k n : Nat) : rg (k + 32767 * n) = rg k := by
  induction n with
  | zero => rfl
  | succ n ih => rw [show k + 32767 * (n + 1) = (k + 32767 * n) + 32767 by omega, rg_period, ih]
theorem rg_mod (k : Nat) : rg (k % 32767) = rg k := by
  conv => rhs; rw [← Nat.mod_add_div k 32767]
  rw [rg_periods]

theorem back_add {b : Nat} (hb : rg b = 1) (x n : Nat) : rg (x + b * n) = rg x := by
  induction n with
  | zero => rfl
  | succ n ih => rw [show x + b * (n + 1) = b + (x + b * n) by rw [Nat.mul_succ]; omega, rg_add, hb, ← rg_run, ih]
theorem back_mod {a b : Nat} (ha : rg a = 1) (hb : rg b = 1) : rg (a % b) = 1 := by
  rw [← back_add hb (a % b) (a / b), Nat.mod_add_div, ha]
theorem back_gcd (a b : Nat) : rg a = 1 → rg b = 1 → rg (Nat.gcd a b) = 1 := by
  induction a, b using Nat.gcd.induction with
  | H0 n => intro _ h; simpa using h
  | H1 m n hm ih =>
    intro ha hb
    rw [Nat.gcd_rec]
    exact ih (back_mod hb ha) ha
theorem back_mul {g m : Nat} (hg : rg g = 1) : rg (g * m) = 1 := by
  have := back_add hg 0 m
  rw [Nat.zero_add] at this
  rw [this]; rfl

theorem not_4681 : rg 4681 ≠ 1 := by
  have h : its 12 (its 9 (its 6 (its 3 (its 0 1)))) ≠ 1 := by decide +kernel
  simp only [its_run, ← run_add] at h
  rw [rg_run]; exact h
theorem not_1057 : rg 1057 ≠ 1 := by
  have h : its 10 (its 5 (its 0 1)) ≠ 1 := by decide +kernel
  simp only [its_run, ← run_add] at h
  rw [rg_run]; exact h
theorem not_217 : rg 217 ≠ 1 := by
  have h : its 7 (its 6 (its 4 (its 3 (its 0 1)))) ≠ 1 := by decide +kernel
  simp only [its_run, ← run_add] at h
  rw [rg_run]; exact h

theorem gcd_7 (m : Nat) : Nat.gcd m 7 = 1 ∨ 7 ∣ m := by
  have h1 : Nat.gcd m 7 ∣ 7 := Nat.gcd_dvd_right _ _
  have h2 : Nat.gcd m 7 ≤ 7 := Nat.le_of_dvd (by decide) h1
  have : ∀ g : Fin 8, g.val ∣ 7 → g.val = 1 ∨ g.val = 7 := by decide
  rcases this ⟨_, Nat.lt_succ_of_le h2⟩ h1 with h | h
  · exact .inl h
  · right; have := Nat.gcd_dvd_left m 7; rwa [show Nat.gcd m 7 = 7 from h] at this
theorem gcd_31 (m : Nat) : Nat.gcd m 31 = 1 ∨ 31 ∣ m := by
  have h1 : Nat.gcd m 31 ∣ 31 := Nat.gcd_dvd_right _ _
  have h2 : Nat.gcd m 31 ≤ 31 := Nat.le_of_dvd (by decide) h1
  have : ∀ g : Fin 32, g.val ∣ 31 → g.val = 1 ∨ g.val = 31 := by decide +kernel
  rcases this ⟨_, Nat.lt_succ_of_le h2⟩ h1 with h | h
  · exact .inl h
  · right; have := Nat.gcd_dvd_left m 31; rwa [show Nat.gcd m 31 = 31 from h] at this
theorem gcd_151 (m : Nat) : Nat.gcd m 151 = 1 ∨ 151 ∣ m := by
  have h1 : Nat.gcd m 151 ∣ 151 := Nat.gcd_dvd_right _ _
  have h2 : Nat.gcd m 151 ≤ 151 := Nat.le_of_dvd (by decide) h1
  have : ∀ g : Fin 152, g.val ∣ 151 → g.val = 1 ∨ g.val = 151 := by decide +kernel
  rcases this ⟨_, Nat.lt_succ_of_le h2⟩ h1 with h | h
  · exact .inl h
  · right; have := Nat.gcd_dvd_left m 151; rwa [show Nat.gcd m 151 = 151 from h] at this

theorem no_back {g m : Nat} (h : g * m = 32767) (hm : m ≠ 1) : rg g ≠ 1 := by
  intro hg
  have hd : m ∣ 7 * (31 * 151) := ⟨g, by rw [Nat.mul_comm m g, h]⟩
  rcases gcd_7 m with h7 | ⟨q, h7⟩
  · rcases gcd_31 m with h31 | ⟨q, h31⟩
    · rcases gcd_151 m with h151 | ⟨q, h151⟩
      · have a1 : m ∣ 31 * 151 := Nat.Coprime.dvd_of_dvd_mul_left h7 hd
        have a2 : m ∣ 151 := Nat.Coprime.dvd_of_dvd_mul_left h31 a1
        have a3 : m ∣ 1 := by have := Nat.dvd_gcd (Nat.dvd_refl m) a2; rwa [h151] at this
        exact hm (Nat.dvd_one.1 a3)
      · refine not_217 ?_
        have : g * q = 217 := by rw [h151, Nat.mul_left_comm] at h; omega
        rw [← this]; exact back_mul hg
    · refine not_1057 ?_
      have : g * q = 1057 := by rw [h31, Nat.mul_left_comm] at h; omega
      rw [← this]; exact back_mul hg
  · refine not_4681 ?_
    have : g * q = 4681 := by rw [h7, Nat.mul_left_comm] at h; omega
    rw [← this]; exact back_mul hg

theorem rg_first (t : Nat) (h0 : 0 < t) (h1 : t < 32767) : rg t ≠ 1 := by
  intro ht
  have hg := back_gcd t 32767 ht rg_32767
  obtain ⟨m, hm⟩ := Nat.gcd_dvd_right t 32767
  refine no_back hm.symm (fun e => ?_) hg
  subst e
  have h2 : Nat.gcd t 32767 ≤ t := Nat.le_of_dvd h0 (Nat.gcd_dvd_left _ _)
  omega

/-- Within a period no state occurs twice. -/
theorem rg_inj {i k : Nat} (hi : i < 32767) (hk : k < 32767) (h : rg i = rg k) : i = k := by
  have key : ∀ {i k : Nat}, i < k → k < 32767 → rg i = rg k → False := by
    intro i k hik hk h
    have h2 : rg 0 = rg (k - i) := rg_back i (by rw [Nat.zero_add, Nat.sub_add_cancel (Nat.le_of_lt hik)]; exact h)
    exact rg_first (k - i) (by omega) (by omega) h2.symm
  rcases Nat.lt_trichotomy i k with hlt | he | hlt
  · exact (key hlt hk h).elim
  · exact he
  · exact (key hlt hi h.symm).elim
theorem rg_inj_mod {i k : Nat} (h : rg i = rg k) : i % 32767 = k % 32767 :=
  rg_inj (Nat.mod_lt _ (by decide)) (Nat.mod_lt _ (by decide)) (by rw [rg_mod, rg_mod, h])
end Go.Proofs.Ytificcmcddcijaa
