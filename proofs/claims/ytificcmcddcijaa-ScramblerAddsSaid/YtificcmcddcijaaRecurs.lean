/-
  The law ScramblerRecurs, walked: for every n and i the call returns true, and what lay in memory stays as it was.
-/
import Derived.Test.YtificcmcddcijaaRefScr
import Derived.Test.YtificcmcddcijaaHz1
namespace Go.Proofs.Ytificcmcddcijaa.Recurs
open Go Go.RowKit Go.Proofs.YtificcmcddcijaaW.PrintWords Go.Proofs.YtificcmcddcijaaW.PrintLast Go.Proofs.Ytificcmcddcijaa.Ext Go.Proofs.Ytificcmcddcijaa.RefOk
set_option linter.unusedSimpArgs false

theorem bsum_split (i j : Nat) : ∀ m, ∃ q, bsum i (j + m) = bsum i j + 2 ^ j * q
  | 0 => ⟨0, by simp⟩
  | m + 1 => by
    obtain ⟨q, hq⟩ := bsum_split i j m
    refine ⟨q + bit (8 * i + (j + m)) * 2 ^ m, ?_⟩
    rw [show j + (m + 1) = (j + m) + 1 by omega, bsum, hq, Nat.pow_add, Nat.mul_add]
    rw [Nat.mul_left_comm (2 ^ j), Nat.add_assoc]
theorem byt_bit (i j : Nat) (hj : j < 8) : byt i / 2 ^ j % 2 = bit (8 * i + j) := by
  obtain ⟨q, hq⟩ := bsum_split i (j + 1) (7 - j)
  rw [show j + 1 + (7 - j) = 8 by omega] at hq
  unfold byt
  rw [hq, bsum]
  have h1 := bsum_lt i j
  have hb := bit_lt (8 * i + j)
  have hp : 0 < 2 ^ j := Nat.two_pow_pos j
  have e : bsum i j + bit (8 * i + j) * 2 ^ j + 2 ^ (j + 1) * q = bsum i j + 2 ^ j * (bit (8 * i + j) + 2 * q) := by
    rw [Nat.pow_succ, Nat.mul_add, Nat.mul_comm (bit (8 * i + j)), Nat.add_assoc, Nat.mul_assoc]
  rw [e, Nat.add_mul_div_left _ _ hp, Nat.div_eq_of_lt h1]
  omega

set_option maxHeartbeats 400000 in
theorem bit_c (n k b : Nat) (hn : n ≤ 65536) (hk : k < 8 * n) (w : World) (hc : w.cell? ⟨b, 0, none⟩ = some (.string (strOfNums (seqI n)))) :
    Calls Try.prog 15 #[.int .i64 k, .pointer (some ⟨b, 0, none⟩)] w fun e w' => e = .returned (.int .u8 (bit k)) ∧ w = w' := by
  have hsz : (strOfNums (seqI n)).size = n := by rw [size_strOfNums, seqI_length]
  have hb := bt_seq n (k / 8) (by omega)
  obtain ⟨S, hS⟩ : ∃ S, S = strOfNums (seqI n) := ⟨_, rfl⟩
  rw [← hS] at hc hsz hb
  have hS' := Lib.hid hS
  clear hS
  go_enter Try.func15, Try.ntmps15
  go_wp2
  go_ret
  refine ⟨?_, rfl⟩
  have hi : k / 8 < S.size := by omega
  have e0 : (S[k / 8]'hi).toNat = byt (k / 8) := by
    unfold bt at hb
    rw [dif_pos (show ((k / 8 : Nat) : Int).toNat < S.size by rw [Int.toNat_natCast]; exact hi)] at hb
    simp only [Int.toNat_natCast] at hb
    omega
  have e1 : Go.bits .and .u8 (((S[k / 8]'hi).toNat : Int) / 2 ^ (k % 8)) 1 = (bit k : Int) := by
    have hl := byt_lt (k / 8)
    rw [e0, show ((byt (k / 8) : Nat) : Int) / 2 ^ (k % 8) = ((byt (k / 8) / 2 ^ (k % 8) : Nat) : Int) by push_cast; rfl]
    rw [show (1 : Int) = ((1 : Nat) : Int) from rfl, u8_and _ _ (Nat.lt_of_le_of_lt (Nat.div_le_self _ _) hl) (by decide), Nat.and_one_is_mod, byt_bit _ _ (Nat.mod_lt _ (by decide)), show 8 * (k / 8) + k % 8 = k by omega]
  exact congrArg (fun z => Ending.returned (.int .u8 z)) e1

/-- The recurrence of the bits. -/
theorem bit_recurs (k : Nat) : bit (k + 15) = (bit k + bit (k + 1)) % 2 := by
  have h : ∀ (j x : Nat), x < 32768 → j ≤ 14 → run j x % 2 = x / 2 ^ j % 2 := by
    intro j
    induction j with
    | zero => intro x _ _; simp [run]
    | succ j ih =>
      intro x hx hj
      rw [run, ih (stp x) (stp_lt hx) (by omega)]
      have hp : (2 : Nat) ^ (j + 1) ≤ 2 ^ 14 := Nat.pow_le_pow_right (by decide) hj
      have e : stp x = x / 2 + 2 ^ j * ((x % 2 + x / 2 % 2) % 2 * 2 ^ (14 - j)) := by
        unfold stp
        rw [Nat.mul_left_comm, ← Nat.pow_add, show j + (14 - j) = 14 by omega]
      obtain ⟨q, hq⟩ : ∃ q, 2 ^ (14 - j) = 2 * q := ⟨2 ^ (13 - j), by rw [← Nat.pow_succ', show (13 - j).succ = 14 - j by omega]⟩
      rw [e, Nat.add_mul_div_left _ _ (Nat.two_pow_pos j), Nat.div_div_eq_div_mul, ← Nat.pow_succ', hq, Nat.mul_left_comm, Nat.add_mul_mod_self_left]
  have h15 : rg (k + 15) = run 14 (stp (rg k)) := by rw [rg_add]; rfl
  have h1 : rg (k + 1) = stp (rg k) := rfl
  unfold bit
  rw [h15, h 14 _ (stp_lt (rg_lt k)) (by decide), h1]
  have hl := rg_lt k
  have e1 : stp (rg k) / 2 ^ 14 = (rg k % 2 + rg k / 2 % 2) % 2 := by unfold stp; omega
  have e2 : stp (rg k) % 2 = rg k / 2 % 2 := by unfold stp; omega
  rw [e1, e2]
  omega

set_option maxRecDepth 100000 in
set_option maxHeartbeats 1000000 in
theorem law_c (n i : Nat) (hn : n ≤ 65535) (hi : i ≤ 65535) (w : World) :
    Calls Try.prog 4 #[.int .u16 n, .int .u16 i] w fun e w' => e = .returned (.bool true) ∧ Below w.heap.size w w' := by
  have haw := fun w => Hz.masterdisclaw05_awake.calls true w (by decide +kernel)
  obtain ⟨N, hN⟩ : ∃ N, N = n % 4096 + 4 := ⟨_, rfl⟩
  obtain ⟨A, hA⟩ : ∃ A, A = i % (8 * N - 15) := ⟨_, rfl⟩
  have hNl : N ≤ 4099 := by omega
  have hA2 : A < 8 * N - 15 := by rw [hA]; exact Nat.mod_lt _ (by omega)
  obtain ⟨S, hS⟩ : ∃ S, S = strOfNums (seqI N) := ⟨_, rfl⟩
  have hsz : S.size = N := by rw [hS, size_strOfNums, seqI_length]
  have hseq : ∀ w, Calls Try.prog 11 #[.int .i64 ((n : Int) % 4096 + 4)] w fun e w' => e = .returned (.tuple #[.string S, .int .i64 0]) ∧ Below w.heap.size w w' := fun w => by
    have := Sequence_yes N (by omega) w
    rw [← hS] at this
    rwa [show ((N : Nat) : Int) = (n : Int) % 4096 + 4 by omega] at this
  have hreg := fun w => Register_yes A (by omega) w
  have hbit := fun (k b : Nat) (hk : k < 8 * N) (w : World) (hc : w.cell? ⟨b, 0, none⟩ = some (.string S)) => bit_c N k b (by omega) hk w (by rw [← hS]; exact hc)
  have h15 := fun (b : Nat) => hbit (A + 15) b (by omega)
  have h0 := fun (b : Nat) => hbit A b (by omega)
  have h1 := fun (b : Nat) => hbit (A + 1) b (by omega)
  rw [Int.natCast_add, show ((15 : Nat) : Int) = 15 from rfl] at h15
  rw [Int.natCast_add, show ((1 : Nat) : Int) = 1 from rfl] at h1
  have r15 := bit_recurs A
  have b0 := bit_lt A
  have b1 := bit_lt (A + 1)
  have rb : rg A % 2 = bit A := rfl
  have rl := rg_lt A
  have rp := rg_pos A
  generalize bit (A + 15) = B15 at *
  generalize bit (A + 1) = B1 at *
  generalize bit A = B0 at *
  generalize rg A = R at *
  have e1 : ((B15 : Int) == Go.bits .xor .u8 (B0 : Int) (B1 : Int)) = true := by
    rw [u8_xor _ _ (by omega) (by omega), xor_bit _ _ b0 b1, r15]; simp
  have e2 : (Go.bits .and .i64 (R : Int) 1 == (B0 : Int)) = true := by
    rw [show (1 : Int) = ((1 : Nat) : Int) from rfl, i64_and _ _ (by omega) (by omega), Nat.and_one_is_mod, rb]; simp
  have hne : ((N : Int) != (n : Int) % 4096 + 4) = false := by rw [bne_eq_false_iff_eq]; omega
  have hAe0 : (i : Int) % (8 * (N : Int) - 15) = (A : Int) := by
    rw [show 8 * (N : Int) - 15 = ((8 * N - 15 : Nat) : Int) by omega, ← Int.natCast_emod, ← hA]
  have hAe := Lib.hid hAe0
  clear hAe0
  have HN := Lib.hid (And.intro hN (And.intro hA (And.intro hS (And.intro r15 rb))))
  clear hN hS hA hbit r15 rb
  go_enter Try.func4, Try.ntmps4
  go_wp2_with (first | (go_at_call 10; refine (haw _).mono ?_; rintro e w1 ⟨rfl, hB1⟩) | (go_at_call 11; refine (hseq _).mono ?_; rintro e w2 ⟨rfl, hB2⟩))
  rw [hAe.out]
  refine (hreg _).mono ?_
  rintro e w3 ⟨rfl, hB3⟩
  have hc3 : w3.cell? ⟨w2.heap.size, 0, none⟩ = some (.string S) := (hB3.cell (p := ⟨w2.heap.size, 0, none⟩) (by simp)).trans (cell_new_y w2 (.string S) 9).1
  have hB : Below w.heap.size w w3 := below_step (below_alloc (below_step hB1 hB2) _) hB3
  clear haw hseq hreg hB1 hB2 hB3
  go_wp2_with (go_at_call 15; first | ((with_reducible refine (h15 _ _ hc3).mono ?_); rintro e w' ⟨rfl, rfl⟩) | ((with_reducible refine (h1 _ _ hc3).mono ?_); rintro e w' ⟨rfl, rfl⟩) | ((with_reducible refine (h0 _ _ hc3).mono ?_); rintro e w' ⟨rfl, rfl⟩))
  go_ret
  refine ⟨?_, hB⟩
  have hd : decide ((R : Int) ≤ 32767) = true := decide_eq_true (by omega)
  exact congrArg (fun z => Ending.returned (.bool z)) hd

theorem law_walk (a0 a1 : Int) (w0 : (Lit.int .u16 a0).wf = true) (w1 : (Lit.int .u16 a1).wf = true) (w : World) :
    Calls Try.prog 4 #[.int .u16 a0, .int .u16 a1] w fun e w' => e = .returned (.bool true) ∧ Below w.heap.size w w' := by
  obtain ⟨n, rfl, hn⟩ := nat_u16 w0
  obtain ⟨i, rfl, hi⟩ := nat_u16 w1
  exact law_c n i hn hi w
end Go.Proofs.Ytificcmcddcijaa.Recurs
