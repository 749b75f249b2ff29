/- Proved here: the plain statement to which the law ScramblerTwice comes, for any two strings. -/
import Derived.Test.YtificcmcddcijaaHz2
namespace Go.Proofs.Ytificcmcddcijaa.Pure.Twice
open Go Go.RowKit Go.Proofs.Ytificcmcddcijaa.Hz Go.Proofs.YtificcmcddcijaaW.PrintWords Go.Proofs.YtificcmcddcijaaW.PrintLast Go.Proofs.Ytificcmcddcijaa.Ext Go.Proofs.Ytificcmcddcijaa.RefOk

theorem awakeZ : masterdisclaw05_awake.f = some true := by decide +kernel

/-- The scrambled sector. -/
def scr (a : ByteArray) : ByteArray := strOfNums ((List.range 2352).map fun j => mix a 2340 j)
theorem scr_size (a : ByteArray) : (scr a).size = 2352 := by unfold scr; rw [size_strOfNums]; simp
theorem scr_bt (a : ByteArray) (j : Nat) (hj : j < 2352) : bt (scr a) j = mix a 2340 j := by
  unfold scr
  rw [bt_strOfNums _ (by intro x hx; simp only [List.mem_map, List.mem_range] at hx; obtain ⟨i, _, rfl⟩ := hx; exact mix_range _ _ _) j (by simpa using hj)]
  simp
theorem scramble_yes (a : ByteArray) (h : a.size = 2352) : scrambler_Scramble.f a = some (scr a, 0) := by
  unfold scrambler_Scramble.f
  rw [if_neg (by omega)]; rfl

theorem x8 (a b : Int) (ha : 0 ≤ a ∧ a ≤ 255) (hb : 0 ≤ b ∧ b ≤ 255) : Go.bits .xor .u8 a b = ((a.toNat ^^^ b.toNat : Nat) : Int) := by
  have h := u8_xor a.toNat b.toNat (by omega) (by omega)
  rw [show ((a.toNat : Nat) : Int) = a by omega, show ((b.toNat : Nat) : Int) = b by omega] at h
  exact h
theorem xor_back (a b : Int) (ha : 0 ≤ a ∧ a ≤ 255) (hb : 0 ≤ b ∧ b ≤ 255) : Go.bits .xor .u8 (Go.bits .xor .u8 a b) b = a := by
  rw [x8 _ b (xor8_range a b ha hb) hb, x8 a b ha hb, Int.toNat_natCast, Nat.xor_assoc, Nat.xor_self, Nat.xor_zero]
  omega
theorem xor_both (a b c : Int) (ha : 0 ≤ a ∧ a ≤ 255) (hb : 0 ≤ b ∧ b ≤ 255) (hc : 0 ≤ c ∧ c ≤ 255) : Go.bits .xor .u8 (Go.bits .xor .u8 a c) (Go.bits .xor .u8 b c) = Go.bits .xor .u8 a b := by
  rw [x8 _ _ (xor8_range a c ha hc) (xor8_range b c hb hc), x8 a c ha hc, x8 b c hb hc, x8 a b ha hb, Int.toNat_natCast, Int.toNat_natCast]
  congr 1
  rw [Nat.xor_assoc, Nat.xor_comm b.toNat, ← Nat.xor_assoc c.toNat, Nat.xor_self, Nat.zero_xor]
theorem byt_r (j : Nat) : 0 ≤ (byt j : Int) ∧ (byt j : Int) ≤ 255 := by have := byt_lt j; omega

theorem scr_scr (a : ByteArray) (h : a.size = 2352) : scr (scr a) = a := by
  refine ext_bt (by rw [scr_size, h]) (fun j hj => ?_)
  rw [scr_size] at hj
  rw [scr_bt _ j hj]
  by_cases h1 : 12 ≤ j ∧ j < 12 + 2340
  · have e : mix (scr a) 2340 j = Go.bits .xor .u8 (bt (scr a) j) (byt (j - 12)) := by unfold mix; rw [if_pos h1]
    rw [e, scr_bt a j hj]
    have e2 : mix a 2340 j = Go.bits .xor .u8 (bt a j) (byt (j - 12)) := by unfold mix; rw [if_pos h1]
    rw [e2, xor_back _ _ (bt_range _ _) (byt_r _)]
  · have e : mix (scr a) 2340 j = bt (scr a) j := by unfold mix; rw [if_neg h1]
    rw [e, scr_bt a j hj]
    unfold mix; rw [if_neg h1]
theorem scr_head (a : ByteArray) (h : a.size = 2352) : (scr a).extract 0 12 = a.extract 0 12 := by
  have e1 : ((scr a).extract 0 12).size = 12 := by rw [ByteArray.size_extract, scr_size]; omega
  have e2 : (a.extract 0 12).size = 12 := by rw [ByteArray.size_extract]; omega
  refine ext_bt (by rw [e1, e2]) (fun j hj => ?_)
  rw [e1] at hj
  rw [bt_extract _ _ _ _ (by omega) (by rw [scr_size]; omega), bt_extract _ _ _ _ (by omega) (by omega), Nat.zero_add, scr_bt a j (by omega)]
  unfold mix; rw [if_neg (by omega)]
theorem xor_scr (a b : ByteArray) : xorI (scr a) (scr b) 2352 = xorI a b 2352 := by
  unfold xorI
  apply List.map_congr_left
  intro j hj
  rw [List.mem_range] at hj
  rw [scr_bt a j hj, scr_bt b j hj]
  unfold mix
  split
  · exact xor_both _ _ _ (bt_range _ _) (bt_range _ _) (byt_r _)
  · rfl
end Go.Proofs.Ytificcmcddcijaa.Pure.Twice
namespace Go.Proofs.Ytificcmcddcijaa.Pure
open Go Go.RowKit Go.Proofs.Ytificcmcddcijaa.Hz Go.Proofs.YtificcmcddcijaaW.PrintWords Go.Proofs.YtificcmcddcijaaW.PrintLast Go.Proofs.Ytificcmcddcijaa.Ext Go.Proofs.Ytificcmcddcijaa.RefOk
open Twice

theorem ScramblerTwice : masterdisclaw05_ScramblerTwice.Pure := by
  intro a b _ _
  refine ⟨5000, ?_⟩
  unfold masterdisclaw05_ScramblerTwice.f
  rw [awakeZ, Option.bind_some, if_pos rfl]
  by_cases ha : (a.size : Int) = 2352
  · have ha' : a.size = 2352 := by omega
    rw [if_pos ha]
    by_cases hb : (b.size : Int) = 2352
    · have hb' : b.size = 2352 := by omega
      rw [show ((b.size : Int) != 2352) = false by rw [bne_eq_false_iff_eq]; exact hb]
      simp only [masterdisclaw05_ScramblerTwice.j0]
      rw [if_neg (by decide), scramble_yes a ha', Option.bind_some, scramble_yes b hb', Option.bind_some, scramble_yes (scr a) (scr_size a), Option.bind_some, if_pos rfl, if_pos rfl, if_pos rfl, scr_scr a ha', if_pos rfl, if_pos (by rw [scr_size, ha']), if_pos (by decide), if_pos (by rw [scr_size]; decide), if_pos (by omega), scr_head a ha', if_pos rfl]
      rw [xor_ref (scr a) (scr b) (by rw [scr_size]; decide) 4999 (by rw [scr_size]; decide), Option.bind_some, xor_ref a b (by omega) 4999 (by omega), Option.bind_some]
      rw [scr_size, scr_size, ha', hb', Nat.min_self, xor_scr, beq_self_eq_true]
    · rw [show ((b.size : Int) != 2352) = true by rw [bne_iff_ne]; exact hb]
      simp only [masterdisclaw05_ScramblerTwice.j0]
      rw [if_pos trivial, scramble_yes a ha', Option.bind_some, if_pos ha]
  · have ha' : a.size ≠ 2352 := by omega
    rw [if_neg ha]
    simp only [masterdisclaw05_ScramblerTwice.j0]
    have : scrambler_Scramble.f a = some ((⟨#[]⟩ : ByteArray), 1) := by unfold scrambler_Scramble.f; rw [if_pos ha']
    rw [if_pos trivial, this, Option.bind_some, if_neg ha]
    rfl
end Go.Proofs.Ytificcmcddcijaa.Pure
