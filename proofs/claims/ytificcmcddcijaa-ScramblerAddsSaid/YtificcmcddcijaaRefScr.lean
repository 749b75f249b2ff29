/-
  The reference's Scramble as a plain function, and that the call answers so.
-/
import Derived.Test.YtificcmcddcijaaRefOk
import Derived.Lib.Hide
namespace Go.Proofs.Ytificcmcddcijaa.Ext
open Go Go.RowKit Go.Proofs.Ytificcmcddcijaa.Rf Go.Proofs.YtificcmcddcijaaW.PrintWords Go.Proofs.YtificcmcddcijaaW.PrintLast Go.Proofs.Ytificcmcddcijaa.RefOk
set_option linter.unusedSimpArgs false

set_option maxHeartbeats 400000 in
theorem refScramble_no (a0 : ByteArray) (hb : a0.size ≠ 2352) (w : World) :
    Calls Try.prog 17 #[.string a0] w fun e w' => e = .returned (.tuple #[.string (⟨#[]⟩ : ByteArray), .int .i64 1]) ∧ Below w.heap.size w w' := by
  have HB := Lib.hid (Below.refl w.heap.size w)
  have h0 : ((a0.size : Int) != 2352) = true := by simp; omega
  go_enter Try.func17, Try.ntmps17
  go_wp2
  go_ret2
  exact ⟨rfl, HB.out⟩

theorem seq_c (w : World) : Calls Try.prog 12 #[.int .i64 2340] w fun e w' => e = .returned (.tuple #[.string (strOfNums (seqI 2340)), .int .i64 0]) ∧ Below w.heap.size w w' := by
  obtain ⟨r, h1, h2⟩ := sequence_ref 2340
  have e : r = (strOfNums (seqI 2340), 0) := by
    unfold scrambler_Sequence.f at h2
    rw [if_neg (by decide)] at h2
    exact (Option.some.inj h2).symm
  rw [e] at h1
  exact masterdiscref05_Sequence.calls 700000 2340 _ _ w (h1 _ (Nat.le_refl _))

theorem size_strOfNums (l : List Int) : (strOfNums l).size = l.length := by
  simp [strOfNums, ByteArray.size]

theorem xor_c (a0 : ByteArray) (hb : a0.size = 2352) (w : World) :
    Calls Try.prog 18 #[.string (a0.extract 12 a0.size), .string (strOfNums (seqI 2340))] w fun e w' => e = .returned (.string (strOfNums (xorI (a0.extract 12 a0.size) (strOfNums (seqI 2340)) 2340))) ∧ Below w.heap.size w w' := by
  have h1 : (a0.extract 12 a0.size).size = 2340 := by rw [ByteArray.size_extract]; omega
  have h2 : (strOfNums (seqI 2340)).size = 2340 := by rw [size_strOfNums, seqI_length]
  have := xor_ref (a0.extract 12 a0.size) (strOfNums (seqI 2340)) (by omega) 2341 (by omega)
  rw [h1, h2] at this
  exact masterdiscref02_Xor.calls 2341 _ _ _ w this

set_option maxRecDepth 100000 in
set_option maxHeartbeats 400000 in
theorem refScramble_yes (a0 : ByteArray) (hb : a0.size = 2352) (w : World) :
    Calls Try.prog 17 #[.string a0] w fun e w' => e = .returned (.tuple #[.string (a0.extract 0 12 ++ strOfNums (xorI (a0.extract 12 a0.size) (strOfNums (seqI 2340)) 2340)), .int .i64 0]) ∧ Below w.heap.size w w' := by
  have h0 : ((a0.size : Int) != 2352) = false := by simp; omega
  have h1 : (12 : Int) ≤ (a0.size : Int) := by omega
  have h1' : 12 ≤ a0.size := by omega
  have hx := fun w => xor_c a0 hb w
  have hs : (strOfNums (xorI (a0.extract 12 a0.size) (strOfNums (seqI 2340)) 2340)).size = 2340 := by rw [size_strOfNums, xorI_length]
  obtain ⟨S, hS⟩ : ∃ S, S = strOfNums (seqI 2340) := ⟨_, rfl⟩
  rw [← hS] at hx hs ⊢
  obtain ⟨R, hR⟩ : ∃ R, R = strOfNums (xorI (a0.extract 12 a0.size) S 2340) := ⟨_, rfl⟩
  rw [← hR] at hx hs ⊢
  have hcat : ¬ (9223372036854775807 < min 12 a0.size + R.size) := by omega
  have hseq := fun w => seq_c w
  rw [← hS] at hseq
  have H := Lib.hid (And.intro hb (And.intro hs (And.intro hS hR)))
  clear hb hs hS hR
  have hmx : Try.prog.follows .mixedOrders = true := by kernel_rfl
  go_enter Try.func17, Try.ntmps17
  go_wp2_with (go_at_call 12; refine (hseq _).mono ?_; rintro e w' ⟨rfl, hB⟩)
  go_region_with (go_at_call 18; refine (hx _).mono ?_; rintro e w2 ⟨rfl, hB2⟩)
  all_goals go_wp2
  simp only [Act.put, List.setIfInBounds_toArray, List.set_cons_zero, List.set_cons_succ]
  go_ret2
  exact ⟨rfl, below_step hB.drew hB2⟩

/-! The two are one. -/
theorem bt_strOfNums (l : List Int) (h : ∀ x ∈ l, 0 ≤ x ∧ x ≤ 255) (j : Nat) (hj : j < l.length) : bt (strOfNums l) j = l[j] := by
  have hs : (j : Int).toNat < (strOfNums l).size := by rw [size_strOfNums]; simpa using hj
  unfold bt
  rw [dif_pos hs]
  have hm := h l[j] (List.getElem_mem hj)
  have e : ((strOfNums l)[(j : Int).toNat]'hs) = UInt8.ofNat l[j].toNat := by
    show (strOfNums l).data[(j : Int).toNat] = _
    simp [strOfNums]
  rw [e]
  simp
  omega
theorem bt_extract (s : ByteArray) (a b : Nat) (j : Nat) (hj : a + j < b) (hb : b ≤ s.size) : bt (s.extract a b) j = bt s ((a + j : Nat) : Int) := by
  have h1 : (j : Int).toNat < (s.extract a b).size := by rw [ByteArray.size_extract]; simp; omega
  have h2 : ((a + j : Nat) : Int).toNat < s.size := by simp; omega
  unfold bt
  rw [dif_pos h1, dif_pos h2]
  have : (s.extract a b)[(j : Int).toNat] = s[((a + j : Nat) : Int).toNat] := by
    simp only [ByteArray.getElem_extract, Int.toNat_natCast]
  rw [this]
theorem strOfNums_append (l m : List Int) : strOfNums (l ++ m) = strOfNums l ++ strOfNums m := by
  apply ByteArray.ext
  simp [strOfNums, ByteArray.data_append]
theorem ext_bt {s t : ByteArray} (h : s.size = t.size) (hb : ∀ j : Nat, j < s.size → bt s j = bt t j) : s = t := by
  apply ByteArray.ext
  apply Array.ext
  · exact h
  · intro i h1 h2
    have := hb i h1
    unfold bt at this
    rw [dif_pos (show ((i : Int).toNat < s.size) by simpa using h1), dif_pos (show ((i : Int).toNat < t.size) by simpa using h2)] at this
    have h3 : (s[i]'h1).toNat = (t[i]'h2).toNat := by simp only [Int.toNat_natCast] at this; omega
    exact UInt8.toNat_inj.1 h3
theorem bt_append_left (s t : ByteArray) (j : Nat) (h : j < s.size) : bt (s ++ t) j = bt s j := by
  have h1 : (j : Int).toNat < (s ++ t).size := by rw [ByteArray.size_append]; simp; omega
  have h2 : (j : Int).toNat < s.size := by simpa using h
  unfold bt
  rw [dif_pos h1, dif_pos h2]
  have : (s ++ t)[(j : Int).toNat] = s[(j : Int).toNat] := ByteArray.getElem_append_left h2
  rw [this]
theorem bt_append_right (s t : ByteArray) (j : Nat) (h : s.size ≤ j) (h' : j < s.size + t.size) : bt (s ++ t) j = bt t ((j - s.size : Nat) : Int) := by
  have h1 : (j : Int).toNat < (s ++ t).size := by rw [ByteArray.size_append]; simpa using h'
  have h2 : ((j - s.size : Nat) : Int).toNat < t.size := by simp; omega
  unfold bt
  rw [dif_pos h1, dif_pos h2]
  have : (s ++ t)[(j : Int).toNat] = t[((j - s.size : Nat) : Int).toNat] := by
    have := ByteArray.getElem_append_right (a := s) (b := t) (i := j) (h := by rw [ByteArray.size_append]; exact h') h
    simpa using this
  rw [this]
theorem xor8_range (a b : Int) (ha : 0 ≤ a ∧ a ≤ 255) (hb : 0 ≤ b ∧ b ≤ 255) : 0 ≤ Go.bits .xor .u8 a b ∧ Go.bits .xor .u8 a b ≤ 255 := by
  obtain ⟨x, rfl⟩ := Int.eq_ofNat_of_zero_le ha.1
  obtain ⟨y, rfl⟩ := Int.eq_ofNat_of_zero_le hb.1
  have hx : x < 256 := by omega
  have hy : y < 256 := by omega
  have := Nat.xor_lt_two_pow (n := 8) hx hy
  show 0 ≤ Go.bits .xor .u8 (x : Int) (y : Int) ∧ Go.bits .xor .u8 (x : Int) (y : Int) ≤ 255
  rw [u8_xor x y hx hy]
  omega
theorem mix_range (s : ByteArray) (k j : Nat) : 0 ≤ mix s k j ∧ mix s k j ≤ 255 := by
  unfold mix
  split
  · exact xor8_range _ _ (bt_range _ _) ⟨by omega, by have := byt_lt (j - 12); omega⟩
  · exact bt_range _ _
theorem seqI_get (n j : Nat) (h : j < n) : (seqI n)[j]'(by rw [seqI_length]; exact h) = (byt j : Int) := by simp [seqI]
theorem seqI_range (n : Nat) : ∀ x ∈ seqI n, 0 ≤ x ∧ x ≤ 255 := by
  intro x hx
  simp only [seqI, List.mem_map, List.mem_range] at hx
  obtain ⟨i, _, rfl⟩ := hx
  have := byt_lt i
  omega
theorem bt_seq (n j : Nat) (h : j < n) : bt (strOfNums (seqI n)) j = byt j := by
  rw [bt_strOfNums _ (seqI_range n) j (by rw [seqI_length]; exact h), seqI_get n j h]
theorem xorI_range (a b : ByteArray) (n : Nat) : ∀ x ∈ xorI a b n, 0 ≤ x ∧ x ≤ 255 := by
  intro x hx
  simp only [xorI, List.mem_map, List.mem_range] at hx
  obtain ⟨i, _, rfl⟩ := hx
  exact xor8_range _ _ (bt_range _ _) (bt_range _ _)

theorem scr_same (a0 : ByteArray) (hb : a0.size = 2352) :
    strOfNums ((List.range 2352).map fun j => mix a0 2340 j) = a0.extract 0 12 ++ strOfNums (xorI (a0.extract 12 a0.size) (strOfNums (seqI 2340)) 2340) := by
  have e1 : (a0.extract 0 12).size = 12 := by rw [ByteArray.size_extract]; omega
  have e2 : (strOfNums (xorI (a0.extract 12 a0.size) (strOfNums (seqI 2340)) 2340)).size = 2340 := by rw [size_strOfNums, xorI_length]
  have e3 : (strOfNums ((List.range 2352).map fun j => mix a0 2340 j)).size = 2352 := by rw [size_strOfNums]; simp
  refine ext_bt (by rw [e3, ByteArray.size_append, e1, e2]) (fun j hj => ?_)
  rw [e3] at hj
  rw [bt_strOfNums _ (by intro x hx; simp only [List.mem_map, List.mem_range] at hx; obtain ⟨i, _, rfl⟩ := hx; exact mix_range _ _ _) j (by simpa using hj)]
  simp only [List.getElem_map, List.getElem_range]
  by_cases h : j < 12
  · rw [bt_append_left _ _ j (by omega), bt_extract _ _ _ _ (by omega) (by omega)]
    unfold mix
    rw [if_neg (by omega)]
    simp
  · rw [bt_append_right _ _ j (by omega) (by omega), e1, bt_strOfNums _ (xorI_range _ _ _) (j - 12) (by rw [xorI_length]; omega)]
    simp only [xorI, List.getElem_map, List.getElem_range]
    rw [bt_extract _ _ _ _ (by omega) (by omega), bt_seq _ _ (by omega)]
    unfold mix
    rw [if_pos (by omega), show 12 + (j - 12) = j by omega]

def masterdiscref05_Scramble.f (a0 : ByteArray) : Option (ByteArray × Int) := scrambler_Scramble.f a0
theorem masterdiscref05_Scramble.calls (a0 : ByteArray) (r1 : ByteArray) (r2 : Int) (w : World) (h : masterdiscref05_Scramble.f a0 = some (r1, r2)) :
    Calls Try.prog 17 #[.string a0] w fun e w' => e = .returned (.tuple #[.string r1, .int .i64 r2]) ∧ Below w.heap.size w w' := by
  unfold masterdiscref05_Scramble.f scrambler_Scramble.f at h
  split at h
  · rename_i hc
    simp only [Option.some.injEq, Prod.mk.injEq] at h
    obtain ⟨rfl, rfl⟩ := h
    exact refScramble_no a0 hc w
  · rename_i hc
    simp only [Option.some.injEq, Prod.mk.injEq] at h
    obtain ⟨rfl, rfl⟩ := h
    rw [scr_same a0 (by omega)]
    exact refScramble_yes a0 (by omega) w
end Go.Proofs.Ytificcmcddcijaa.Ext
