/-
  The law ScramblerFinds, walked: for every s, at and n the call returns true, whatever internal/bytealg.MaxLen holds.
-/
import Derived.Test.YtificcmcddcijaaFind
namespace Go.Proofs.Ytificcmcddcijaa.Finds
open Go Go.RowKit Go.Proofs.Ytificcmcddcijaa.Rf Go.Proofs.YtificcmcddcijaaW.PrintWords Go.Proofs.YtificcmcddcijaaW.PrintLast Go.Proofs.Ytificcmcddcijaa.Ext Go.Proofs.Ytificcmcddcijaa.RefOk Go.Proofs.Ytificcmcddcijaa.Recurs Go.Proofs.Ytificcmcddcijaa.Find
set_option linter.unusedSimpArgs false

set_option maxRecDepth 100000 in
set_option maxHeartbeats 1000000 in
theorem law_long (s : ByteArray) (a n : Nat) (hs : 40 < s.size) (w : World) :
    Calls Try.prog 8 #[.string s, .int .u16 a, .int .u8 n] w fun e w' => e = .returned (.bool true) ∧ Below w.heap.size w w' := by
  have haw := fun w => Hz.masterdisclaw05_awake.calls true w (by decide +kernel)
  have h0 : decide ((40 : Int) < (s.size : Int)) = true := decide_eq_true (by omega)
  go_enter Try.func8, Try.ntmps8
  go_wp2_with (go_at_call 10; refine (haw _).mono ?_; rintro e w1 ⟨rfl, hB1⟩)
  go_ret
  exact ⟨rfl, hB1⟩

set_option maxRecDepth 100000 in
set_option maxHeartbeats 1000000 in
theorem law_short (s : ByteArray) (a n : Nat) (hs : s.size ≤ 40) (ha : a ≤ 65535) (hn : n ≤ 255) (m : Int) (w : World) (hm : w.cell? ⟨0, 0, none⟩ = some (.int .i64 m)) :
    Calls Try.prog 8 #[.string s, .int .u16 a, .int .u8 n] w fun e w' => e = .returned (.bool true) ∧ Below w.heap.size w w' := by
  have haw := fun w => Hz.masterdisclaw05_awake.calls true w (by decide +kernel)
  have h0 : decide ((40 : Int) < (s.size : Int)) = false := decide_eq_false (by omega)
  have hlt0 := World.block_lt_of_cell? w _ hm
  have hfind := fun (w : World) (hm : w.cell? ⟨0, 0, none⟩ = some (.int .i64 m)) => find_c s m w hm
  have href := fun (w : World) => refFind_c s w
  obtain ⟨A, hA⟩ : ∃ A, A = a % 20000 := ⟨_, rfl⟩
  obtain ⟨K, hK⟩ : ∃ K, K = 2 + n % 30 := ⟨_, rfl⟩
  go_enter Try.func8, Try.ntmps8
  go_wp2_with (go_at_call 10; refine (haw _).mono ?_; rintro e w1 ⟨rfl, hB1⟩)
  refine (hfind _ ((hB1.cell (p := ⟨0, 0, none⟩) hlt0).trans hm)).mono ?_
  rintro e w2 ⟨r, hr1, hr2, rfl, hB2⟩
  have HR := Lib.hid (And.intro hr1 hr2)
  clear hr1 hr2
  go_wp2_with fail
  refine (href _).mono ?_
  rintro e w3 ⟨r', hr1, hr2, rfl, hB3⟩
  obtain rfl : r = r' := found_one HR.out.1 HR.out.2 hr1 hr2
  clear hr1 hr2 HR
  obtain ⟨r1, r2⟩ := r
  go_wp2_with fail
  rw [show (a : Int) % 20000 = (A : Int) by omega, show 2 + (n : Int) % 30 = (K : Int) by omega]
  have hAl : A < 20000 := by omega
  have hK2 : 2 ≤ K := by omega
  have hKl : K ≤ 31 := by omega
  clear hA hK
  obtain ⟨S, hS⟩ : ∃ S, S = strOfNums (seqI (A + K)) := ⟨_, rfl⟩
  have hseq := Sequence_yes (A + K) (by omega) w3
  rw [← hS, Int.natCast_add] at hseq
  have hsz : S.size = A + K := by rw [hS, size_strOfNums, seqI_length]
  have hSd : S.data.toList = win 0 (A + K) := by rw [hS, seq_win]
  have he : (S.extract A S.size).data.toList = win A K := by
    rw [Lib.extract_data, hSd, hsz, show A + K - A = K by omega, win_drop A _ K (Nat.le_refl _)]
  have hes : (S.extract A S.size).size = K := by rw [ByteArray.size_extract]; omega
  refine hseq.mono ?_
  rintro e w4 ⟨rfl, hB4⟩
  have hm4 : w4.cell? ⟨0, 0, none⟩ = some (.int .i64 m) := by
    rw [hB4.cell (p := ⟨0, 0, none⟩) (by have := hB1.size; have := hB2.size; have := hB3.size; simp; omega), hB3.cell (p := ⟨0, 0, none⟩) (by have := hB1.size; have := hB2.size; simp; omega), hB2.cell (p := ⟨0, 0, none⟩) (by have := hB1.size; simp; omega), hB1.cell (p := ⟨0, 0, none⟩) hlt0]
    exact hm
  have hf := find_c (S.extract A S.size) m w4 hm4
  have hne : ((S.size : Int) != (A : Int) + (K : Int)) = false := by rw [bne_eq_false_iff_eq]; omega
  have hB : Below w.heap.size w w4 := below_step (below_step (below_step hB1 hB2) hB3) hB4
  have hsA : A ≤ S.size := by omega
  have HS := Lib.hid (And.intro hsz (And.intro he (And.intro hes hm)))
  clear hfind href haw hm hm4 hB1 hB2 hB3 hB4 hseq hS hSd he hes hsz
  go_wp2_with fail
  refine hf.mono ?_
  rintro e w5 ⟨c, hc1, hc2, rfl, hB5⟩
  obtain rfl : c = ((A : Int), true) := by
    have h1 := hc1 (by rw [HS.out.2.2.1]; omega)
    rw [HS.out.2.1] at h1
    rcases h1 with ⟨i, hi, e, hno, rfl⟩ | ⟨hno, _⟩
    · rw [win_length] at e
      rw [win_place hK2 (by omega) hi e]
    · exact (hno A (by omega) (by rw [win_length])).elim
  clear hc1 hc2
  go_wp2_with fail
  all_goals (go_ret; exact ⟨rfl, below_step hB hB5⟩)

theorem law_walk (s : ByteArray) (a0 a1 : Int) (w0 : (Lit.int .u16 a0).wf = true) (w1 : (Lit.int .u8 a1).wf = true) (w : World) (hsh : w.ShapedOpen Try.prog) :
    Calls Try.prog 8 #[.string s, .int .u16 a0, .int .u8 a1] w fun e w' => e = .returned (.bool true) ∧ Below w.heap.size w w' := by
  obtain ⟨n, rfl, hn⟩ := nat_u16 w0
  obtain ⟨i, rfl, hi⟩ := nat_u8 w1
  obtain ⟨m, hm⟩ := Try.laysM143.s1_3 w hsh
  by_cases hs : s.size ≤ 40
  · exact law_short s n i hs hn hi m w hm
  · exact law_long s n i (by omega) w
end Go.Proofs.Ytificcmcddcijaa.Finds
