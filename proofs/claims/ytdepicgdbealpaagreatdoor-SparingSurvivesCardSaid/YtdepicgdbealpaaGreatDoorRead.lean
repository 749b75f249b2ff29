/- endian.ReadLittle where the bytes are there. -/
import Derived.Test.YtdepicgdbealpaaGreatDoorTold
import Derived.Laws.BitsAllLaws
import Derived.Deep.CutBlock
namespace Go.Proofs.YtdepicgdbealpaaGreatDoor.Enc
set_option linter.unusedVariables false
set_option linter.unusedSimpArgs false
open Go.RowKit Go.Lib Go.Proofs.YtdepicgdbealpaaGreatDoorW.PrintWords Go.Proofs.YtdepicgdbealpaaGreatDoorW.PrintLast Go.Proofs.YtdepicgdbealpaaGreatDoorW.PrintMore
open Go.Proofs.YtdepicgdbealpaaGreatDoor

/-- The number of the first k bytes from a on. -/
def rdN (s : ByteArray) (a : Nat) : Nat → Nat
 | 0 => 0
 | k + 1 => rdN s a k + by_ s (a + k) * 256 ^ k
theorem rdN_lt (s : ByteArray) (a : Nat) : ∀ k, rdN s a k < 256 ^ k
 | 0 => by show 0 < 1; omega
 | k + 1 => by
  have h := rdN_lt s a k
  have hb := by_lt s (a + k)
  show rdN s a k + by_ s (a + k) * 256 ^ k < 256 ^ (k + 1)
  rw [Nat.pow_succ]
  have : by_ s (a + k) * 256 ^ k ≤ 255 * 256 ^ k := Nat.mul_le_mul_right _ (by omega)
  omega

theorem or_add (k n b : Nat) (h : n < 256 ^ k) : n ||| b * 256 ^ k = n + b * 256 ^ k := by
 have e : (256 : Nat) ^ k = 2 ^ (8 * k) := by rw [Nat.pow_mul]
 rw [e] at h ⊢
 rw [Nat.mul_comm, Nat.or_comm, ← Nat.two_pow_add_eq_or_of_lt h, Nat.add_comm]

theorem or_step (s : ByteArray) (a k n : Nat) (h : a + k < s.size) (hn : n < 256 ^ k) (hk : k ≤ 6) :
  bits .or .u64 (n : Int) (IntKind.u64.wrap (IntKind.u64.wrap ((s[a + k]'h).toNat : Int) * 2 ^ (8 * k))) = ((n + by_ s (a + k) * 256 ^ k : Nat) : Int) := by
 have hidx : (s[a + k]'h).toNat = by_ s (a + k) := by
  unfold by_ bt
  rw [dif_pos (show ((a + k : Nat) : Int).toNat < s.size from h)]
  rfl
 have hb := by_lt s (a + k)
 have h256 : 256 ^ k ≤ 281474976710656 := by
  have h2 : 256 ^ k ≤ 256 ^ 6 := Nat.pow_le_pow_right (by decide) hk
  have h3 : (256 : Nat) ^ 6 = 281474976710656 := by decide
  omega
 have hp : (2 : Int) ^ (8 * k) = ((256 ^ k : Nat) : Int) := by rw [pow256, Int.natCast_pow]; rfl
 rw [hidx, hp]
 generalize by_ s (a + k) = b at hb
 have hc : b * 256 ^ k < 72057594037927936 := by
  have : b * 256 ^ k ≤ 255 * 256 ^ k := Nat.mul_le_mul_right _ (by omega)
  omega
 have e1 : IntKind.u64.wrap (b : Int) = b := by rw [IntKind.wrap_u64]; omega
 rw [e1, ← Int.natCast_mul]
 have hoa := or_add k n b hn
 have hnl : n < 281474976710656 := by omega
 generalize b * 256 ^ k = c at hc hoa
 have e2 : IntKind.u64.wrap (c : Int) = c := by rw [IntKind.wrap_u64]; omega
 rw [e2, u64_or_nat _ _ (by omega) (by omega), hoa]

set_option maxHeartbeats 4000000 in
set_option maxRecDepth 100000 in
theorem read_calls (s : ByteArray) (a size : Nat) (w : World) (hs : 1 ≤ size ∧ size ≤ 7) (ha : a + size ≤ s.size) (hz : s.size ≤ 4611686018427387904) :
  Calls Tryz.prog 42 #[.string s, .int .i64 a, .int .i64 size, .func (.func 60) #[] #[]] w fun e w' => e = .returned (.tuple #[.int .i64 (rdN s a size), .int .i64 0]) ∧ Below w.heap.size w w' := by
 have hin := V.endian_inside.calls (s) a size true w (by
  unfold V.endian_inside.f
  rw [if_pos (by omega), w64e _ (by omega), decide_eq_true (by omega)])
 obtain ⟨R, hR⟩ : ∃ R, R = rdN s a size := ⟨_, rfl⟩
 have hRl : R < 72057594037927936 := by
  rw [hR]
  have h1 := rdN_lt s a size
  have h2 : 256 ^ size ≤ 256 ^ 7 := Nat.pow_le_pow_right (by decide) hs.2
  have h3 : (256 : Nat) ^ 7 = 72057594037927936 := by decide
  omega
 rw [← hR]
 have HR := Aside0.mk hR
 clear hR
 have d1 : decide ((size : Int) < 1) = false := decide_eq_false (by omega)
 have d2 : decide ((size : Int) > 8) = false := decide_eq_false (by omega)
 go_enter Tryz.func42, Tryz.ntmps42
 go_wp2_with (first | (go_at_call 68; refine hin.mono ?_; rintro e w1 ⟨rfl, hd⟩))
 have HD := Aside0.mk hd.below
 clear hd d1 d2
 go_loopg [10, 26] size (fun gg s10 s26 wr => ∃ (k n : Nat), s10 = .int .u64 n ∧ s26 = .int .i64 k ∧ Aside0 (n = rdN s a k) ∧ k ≤ size ∧ size - k ≤ gg ∧ Aside0 (Below w.heap.size w wr))
 case atStart => exact ⟨0, 0, rfl, rfl, ⟨rfl⟩, by omega, by omega, HD⟩
 case round =>
  obtain ⟨k, n, rfl, rfl, HN, hk, hgg, HB⟩ := hrel
  by_cases hlt : k < size
  ·have hltz : (k : Int) < (size : Int) := by omega
   have hT : (8 * (k : Int)).toNat = 8 * k := by omega
   have hjs : a + k < s.size := by omega
   have hjz : ((a + k : Nat) : Int) < (s.size : Int) := by omega
   have hj0 : 0 ≤ ((a + k : Nat) : Int) := by omega
   have hak : wrap64 ((a : Int) + (k : Int)) = ((a + k : Nat) : Int) := by rw [w64e _ (by omega)]; omega
   have m8 : wrap64 (8 * (k : Int)) = 8 * (k : Int) := w64e _ (by omega)
   have M8 := Aside0.mk m8
   have HAK := Aside0.mk hak
   clear m8 hak
   have m8 := M8.out
   have m8' : IntKind.i64.wrap (8 * (k : Int)) = 8 * (k : Int) := by rw [IntWalk.i64_left, m8]
   clear M8 HAK
   go_wp2_with (first | (go_at_call 60; refine (up1_calls k _).mono ?_; rintro e w2 ⟨rfl, rfl⟩))
   have hnl : n < 256 ^ k := by rw [HN.out]; exact rdN_lt s a k
   have hfin := or_step s a k n hjs hnl (by omega)
   go_roundg (size - (k + 1))
   case measure => omega
   case rel => exact ⟨k + 1, n + by_ s (a + k) * 256 ^ k, by rw [hfin], by go_num, ⟨by rw [HN.out]; rfl⟩, by omega, by omega, HB⟩
  ·obtain rfl : k = size := by omega
   have hnr : n = R := by rw [HN.out, HR.out]
   subst hnr
   have hdn : decide ((n : Int) > 9223372036854775807) = false := decide_eq_false (by omega)
   have hwn : IntKind.i64.wrap (n : Int) = n := by rw [IntWalk.i64_left]; exact w64e _ (by omega)
   go_wp2
   go_ret2
   exact ⟨rfl, HB.out⟩

def ReadLittle.f (a0 : ByteArray) (a1 a2 : Int) : Option (Int × Int) := if 0 ≤ a1 ∧ 1 ≤ a2 ∧ a2 ≤ 7 ∧ a1 + a2 ≤ a0.size ∧ a0.size ≤ 4611686018427387904 then some ((rdN a0 a1.toNat a2.toNat : Nat), 0) else none
set_option maxHeartbeats 4000000 in
set_option maxRecDepth 100000 in
theorem ReadLittle.calls (a0 : ByteArray) (a1 a2 : Int) (r1 r2 : Int) (w : World) (h : ReadLittle.f a0 a1 a2 = some (r1, r2)) :
  Calls Tryz.prog 25 #[.string a0, .int .i64 a1, .int .i64 a2] w fun e w' => e = .returned (.tuple #[.int .i64 r1, .int .i64 r2]) ∧ Below w.heap.size w w' := by
 unfold ReadLittle.f at h
 split at h
 ·next hc =>
  obtain ⟨a, rfl⟩ : ∃ a : Nat, a1 = a := ⟨a1.toNat, by omega⟩
  obtain ⟨n, rfl⟩ : ∃ n : Nat, a2 = n := ⟨a2.toNat, by omega⟩
  have HC := fun W => read_calls a0 a n W (by omega) (by omega) hc.2.2.2.2
  simp only [Option.some.injEq, Prod.mk.injEq, Int.toNat_natCast] at h
  obtain ⟨rfl, rfl⟩ := h
  clear hc
  generalize rdN a0 a n = v at HC ⊢
  go_enter Tryz.func25, Tryz.ntmps25
  go_wp2_with (first | (go_at_call 38; refine (up_calls _ _).mono ?_; rintro e w2 ⟨rfl, rfl⟩) | (go_at_call 42; refine (HC _).mono ?_; rintro e w3 ⟨rfl, hb⟩))
  go_ret2
  exact ⟨rfl, hb⟩
 ·cases h

end Go.Proofs.YtdepicgdbealpaaGreatDoor.Enc
