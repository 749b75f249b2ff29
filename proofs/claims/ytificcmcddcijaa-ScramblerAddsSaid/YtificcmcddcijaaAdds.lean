/-
  The law ScramblerAdds, walked: for every from, distance and n the call returns true, whatever internal/bytealg.MaxLen holds.
-/
import Derived.Test.YtificcmcddcijaaAdd
namespace Go.Proofs.Ytificcmcddcijaa.Adds
open Go Go.RowKit Go.Proofs.Ytificcmcddcijaa.Rf Go.Proofs.YtificcmcddcijaaW.PrintWords Go.Proofs.YtificcmcddcijaaW.PrintLast Go.Proofs.Ytificcmcddcijaa.Ext Go.Proofs.Ytificcmcddcijaa.RefOk Go.Proofs.Ytificcmcddcijaa.Recurs Go.Proofs.Ytificcmcddcijaa.Find Go.Proofs.Ytificcmcddcijaa.Add
set_option linter.unusedSimpArgs false

/-- The exclusive or of two parts, as a string. -/
theorem xor_parts (N A B K : Nat) (hA : A + K ≤ N) (hB : B + K ≤ N) (S : ByteArray) (hS : S = strOfNums (seqI N)) (p : Nat) (hp : ∀ j, byt (p + j) = byt (A + j) ^^^ byt (B + j)) :
    (strOfNums (xorI (S.extract A (A + K)) (S.extract B (B + K)) K)).data.toList = win p K := by
  have hsz : S.size = N := by rw [hS, size_strOfNums, seqI_length]
  have e : xorI (S.extract A (A + K)) (S.extract B (B + K)) K = (List.range K).map fun j => (byt (p + j) : Int) := by
    unfold xorI
    apply List.map_congr_left
    intro j hj
    rw [List.mem_range] at hj
    rw [bt_extract _ _ _ _ (by omega) (by omega), bt_extract _ _ _ _ (by omega) (by omega), hS, bt_seq _ _ (by omega), bt_seq _ _ (by omega), u8_xor _ _ (byt_lt _) (byt_lt _), hp]
  rw [e]
  simp [strOfNums, win]

set_option maxRecDepth 100000 in
set_option maxHeartbeats 1000000 in
theorem law_c (a d n : Nat) (ha : a ≤ 65535) (hd : d ≤ 65535) (hn : n ≤ 255) (m : Int) (w : World) (hm : w.cell? ⟨0, 0, none⟩ = some (.int .i64 m)) :
    Calls Try.prog 9 #[.int .u16 a, .int .u16 d, .int .u8 n] w fun e w' => e = .returned (.bool true) ∧ Below w.heap.size w w' := by
  have haw := fun w => Hz.masterdisclaw05_awake.calls true w (by decide +kernel)
  have hlt0 := World.block_lt_of_cell? w _ hm
  obtain ⟨A, hA⟩ : ∃ A, A = a % 4000 := ⟨_, rfl⟩
  obtain ⟨D, hD⟩ : ∃ D, D = 1 + d % 4000 := ⟨_, rfl⟩
  obtain ⟨K, hK⟩ : ∃ K, K = 2 + n % 20 := ⟨_, rfl⟩
  go_enter Try.func9, Try.ntmps9
  go_wp2_with (go_at_call 10; refine (haw _).mono ?_; rintro e w1 ⟨rfl, hB1⟩)
  rw [show (a : Int) % 4000 = (A : Int) by omega, show 1 + (d : Int) % 4000 = (D : Int) by omega, show 2 + (n : Int) % 20 = (K : Int) by omega]
  have hAl : A < 4000 := by omega
  have hD1 : 1 ≤ D := by omega
  have hDl : D ≤ 4000 := by omega
  have hK2 : 2 ≤ K := by omega
  have hKl : K ≤ 21 := by omega
  clear hA hD hK
  obtain ⟨N, hN⟩ : ∃ N, N = A + D + K := ⟨_, rfl⟩
  obtain ⟨S, hS⟩ : ∃ S, S = strOfNums (seqI N) := ⟨_, rfl⟩
  have hseq := Sequence_yes N (by omega) w1
  rw [← hS, show ((N : Nat) : Int) = (A : Int) + (D : Int) + (K : Int) by omega] at hseq
  have hsz : S.size = N := by rw [hS, size_strOfNums, seqI_length]
  refine hseq.mono ?_
  rintro e w2 ⟨rfl, hB2⟩
  obtain ⟨p, hp, hpb⟩ := byts_add A (A + D) (rg_apart A D (by omega) hDl)
  obtain ⟨R, hR⟩ : ∃ R, R = strOfNums (xorI (S.extract A (A + K)) (S.extract (A + D) (A + D + K)) K) := ⟨_, rfl⟩
  have hRw : R.data.toList = win p K := by rw [hR]; exact xor_parts N A (A + D) K (by omega) (by omega) S hS p hpb
  have hRs : R.size = K := by rw [hR, size_strOfNums, xorI_length]
  have hxor : ∀ w, Calls Try.prog 18 #[.string (S.extract A (A + K)), .string (S.extract (A + D) (A + D + K))] w fun e w' => e = .returned (.string R) ∧ Below w.heap.size w w' := fun w => by
    have e1 : (S.extract A (A + K)).size = K := by rw [ByteArray.size_extract]; omega
    have e2 : (S.extract (A + D) (A + D + K)).size = K := by rw [ByteArray.size_extract]; omega
    have := xor_ref (S.extract A (A + K)) (S.extract (A + D) (A + D + K)) (by omega) 100 (by omega)
    rw [e1, e2, Nat.min_self, ← hR] at this
    exact masterdiscref02_Xor.calls 100 _ _ _ w this
  have hm2 : w2.cell? ⟨0, 0, none⟩ = some (.int .i64 m) := by
    rw [hB2.cell (p := ⟨0, 0, none⟩) (by have := hB1.size; simp; omega), hB1.cell (p := ⟨0, 0, none⟩) hlt0]
    exact hm
  have hfind : ∀ w, w.cell? ⟨0, 0, none⟩ = some (.int .i64 m) → Calls Try.prog 19 #[.string R] w fun e w' => ∃ c, e = .returned (.tuple #[.int .i64 c, .bool true]) ∧ Below w.heap.size w w' := fun w hw => by
    refine (find_c R m w hw).mono ?_
    rintro e w' ⟨r, h1, h2, rfl, hb⟩
    have hf := h1 (by omega)
    rw [hRw] at hf
    rcases hf with ⟨i, hi, e, hno, rfl⟩ | ⟨hno, _⟩
    · exact ⟨_, rfl, hb⟩
    · exact (hno p hp (by rw [win_length])).elim
  have hne : ((S.size : Int) != (A : Int) + (D : Int) + (K : Int)) = false := by rw [bne_eq_false_iff_eq]; omega
  have hB : Below w.heap.size w w2 := below_step hB1 hB2
  have hs1 : A + K ≤ S.size := by omega
  have hs2 : A + D + K ≤ S.size := by omega
  have hmx : Try.prog.follows .mixedOrders = true := by kernel_rfl
  have h02 : 0 < w2.heap.size := World.block_lt_of_cell? w2 _ hm2
  have HS := Lib.hid (And.intro hsz (And.intro hRs (And.intro hRw (And.intro hS (And.intro hR (And.intro hN hm))))))
  clear haw hm hB1 hB2 hseq hS hR hRw hRs hsz hN hpb hp
  go_wp2_with fail
  have i1 : IntKind.i64.wrap ((A : Int) + (K : Int)) = (A : Int) + (K : Int) := wraps_i64 _ (by omega) (by omega)
  have i2 : IntKind.i64.wrap ((A : Int) + (D : Int)) = (A : Int) + (D : Int) := wraps_i64 _ (by omega) (by omega)
  have i3 : IntKind.i64.wrap ((A : Int) + (D : Int) + (K : Int)) = (A : Int) + (D : Int) + (K : Int) := wraps_i64 _ (by omega) (by omega)
  have t1 : ((A : Int) + (K : Int)).toNat = A + K := by omega
  have t2 : ((A : Int) + (D : Int)).toNat = A + D := by omega
  have t3 : ((A : Int) + (D : Int) + (K : Int)).toNat = A + D + K := by omega
  have b1 : (A : Int) ≤ (A : Int) + (K : Int) := by omega
  have b2 : (A : Int) + (K : Int) ≤ (S.size : Int) := by omega
  have b3 : (A : Int) + (D : Int) ≤ (A : Int) + (D : Int) + (K : Int) := by omega
  have b4 : (A : Int) + (D : Int) + (K : Int) ≤ (S.size : Int) := by omega
  have b5 : (0 : Int) ≤ (A : Int) + (D : Int) := by omega
  clear hne hAl hD1 hDl hK2 hKl ha hd hn
  go_region_with (first | (go_at_call 18; refine (hxor _).mono ?_; rintro e w3 ⟨rfl, hB3⟩) | (go_at_call 19; refine (hfind _ ((hB3.cell (p := ⟨0, 0, none⟩) h02).trans hm2)).mono ?_; rintro e w4 ⟨c, rfl, hB4⟩))
  clear i1 i2 i3 t1 t2 t3 b1 b2 b3 b4 b5
  simp only [Act.put, List.setIfInBounds_toArray, List.set_cons_zero, List.set_cons_succ]
  go_wp2
  go_ret
  exact ⟨rfl, below_step (below_step hB.drew hB3) hB4⟩

theorem law_walk (a0 a1 a2 : Int) (w0 : (Lit.int .u16 a0).wf = true) (w1 : (Lit.int .u16 a1).wf = true) (w2 : (Lit.int .u8 a2).wf = true) (w : World) (hsh : w.ShapedOpen Try.prog) :
    Calls Try.prog 9 #[.int .u16 a0, .int .u16 a1, .int .u8 a2] w fun e w' => e = .returned (.bool true) ∧ Below w.heap.size w w' := by
  obtain ⟨a, rfl, ha⟩ := nat_u16 w0
  obtain ⟨d, rfl, hd⟩ := nat_u16 w1
  obtain ⟨n, rfl, hn⟩ := nat_u8 w2
  obtain ⟨m, hm⟩ := Try.laysM143.s1_3 w hsh
  exact law_c a d n ha hd hn m w hm
end Go.Proofs.Ytificcmcddcijaa.Adds
