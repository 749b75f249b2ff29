/-
  Find of the scrambler and of the reference, as one plain function; where bytes of the sequence are found.
-/
import Derived.Test.YtificcmcddcijaaRecurs
import Derived.Test.YtificcmcddcijaaShelf
import Derived.Lib.IndexMore
namespace Go.Proofs.Ytificcmcddcijaa.Find
open Go Go.RowKit Go.Proofs.Ytificcmcddcijaa.Rf Go.Proofs.YtificcmcddcijaaW.PrintWords Go.Proofs.YtificcmcddcijaaW.PrintLast Go.Proofs.Ytificcmcddcijaa.Ext Go.Proofs.Ytificcmcddcijaa.RefOk Go.Proofs.Ytificcmcddcijaa.Recurs
set_option linter.unusedSimpArgs false

/-- n bytes of the sequence, from byte i on. -/
def win (i n : Nat) : List UInt8 := (List.range n).map fun j => UInt8.ofNat (byt (i + j))
theorem win_length (i n : Nat) : (win i n).length = n := by simp [win]
theorem seq_win (n : Nat) : (strOfNums (seqI n)).data.toList = win 0 n := by
  simp [strOfNums, seqI, win]
theorem win_drop (i n k : Nat) (h : i + k ≤ n) : ((win 0 n).drop i).take k = win i k := by
  apply List.ext_getElem
  · simp [win]; omega
  · intro j h1 h2; simp [win]
theorem occ_iff (n i : Nat) (sub : List UInt8) (h : i + sub.length ≤ n) : Lib.occAt (win 0 n) sub i = true ↔ sub = win i sub.length := by
  unfold Lib.occAt
  rw [List.isPrefixOf_iff_prefix, List.prefix_iff_eq_take, win_drop i n _ h]

/-- What a search for sub answers: the first place before 32767, or none. -/
def Found (sub : List UInt8) (r : Int × Bool) : Prop :=
  (∃ i : Nat, i < 32767 ∧ sub = win i sub.length ∧ (∀ j, j < i → sub ≠ win j sub.length) ∧ r = ((i : Int), true)) ∨ ((∀ i, i < 32767 → sub ≠ win i sub.length) ∧ r = (0, false))
theorem Found.one {sub : List UInt8} {r r' : Int × Bool} (h : Found sub r) (h' : Found sub r') : r = r' := by
  rcases h with ⟨i, hi, e, hn, rfl⟩ | ⟨hn, rfl⟩ <;> rcases h' with ⟨i', hi', e', hn', rfl⟩ | ⟨hn', rfl⟩
  · have : i = i' := by
      rcases Nat.lt_trichotomy i i' with hlt | he | hlt
      · exact (hn' i hlt e).elim
      · exact he
      · exact (hn i' hlt e').elim
    rw [this]
  · exact (hn' i hi e).elim
  · exact (hn i' hi' e').elim
  · rfl
theorem index_found (sub : List UInt8) (h2 : 2 ≤ sub.length) : ∃ r : Int × Bool, Found sub r ∧
    ((∃ i : Nat, Lib.index (win 0 (32767 + sub.length - 1)) sub = i ∧ r = ((i : Int), true)) ∨ (Lib.index (win 0 (32767 + sub.length - 1)) sub = -1 ∧ r = (0, false))) := by
  rcases Lib.index_spec (win 0 (32767 + sub.length - 1)) sub with ⟨h, hn⟩ | ⟨i, h, hi, ho, hno⟩
  · refine ⟨(0, false), .inr ⟨fun i hi e => ?_, rfl⟩, .inr ⟨h, rfl⟩⟩
    have := hn i (by rw [win_length]; omega)
    rw [(occ_iff _ i sub (by omega)).2 e] at this
    cases this
  · have hroom : i + sub.length ≤ 32767 + sub.length - 1 := by
      rcases Lib.occAt_room ho with h | h
      · rwa [win_length] at h
      · rw [h] at h2; simp at h2
    refine ⟨((i : Int), true), .inl ⟨i, by omega, (occ_iff _ i sub hroom).1 ho, fun j hj e => ?_, rfl⟩, .inl ⟨i, h, rfl⟩⟩
    have := hno j hj
    rw [(occ_iff _ j sub (by omega)).2 e] at this
    cases this

theorem ref_loop (s S : ByteArray) (hs : s.size ≤ 4096) (h2 : 2 ≤ s.size) (hS : S.size = 32767 + s.size) (hw : S.data.toList = win 0 (32767 + s.size)) : ∀ (d i k : Nat), 32767 - i = d → i ≤ 32767 → d < k → (∀ j, j < i → s.data.toList ≠ win j s.size) →
    ∃ r, masterdiscref05_Find.l0 k s S (i : Int) = some r ∧ Found s.data.toList r := by
  intro d
  induction d with
  | zero =>
    intro i k hd hi hk hn
    obtain ⟨k, rfl⟩ : ∃ m, k = m + 1 := ⟨k - 1, by omega⟩
    simp only [masterdiscref05_Find.l0]
    rw [if_neg (by omega)]
    exact ⟨_, rfl, .inr ⟨fun j hj => by rw [data_length]; exact hn j (by omega), rfl⟩⟩
  | succ d ih =>
    intro i k hd hi hk hn
    obtain ⟨k, rfl⟩ : ∃ m, k = m + 1 := ⟨k - 1, by omega⟩
    simp only [masterdiscref05_Find.l0]
    rw [if_pos (by omega), if_pos (by omega), wrap64_id ((i : Int) + (s.size : Int)) (by omega), if_pos (by omega), if_pos (by omega), wrap64_id _ (by omega)]
    have e : (S.extract (i : Int).toNat ((i : Int) + (s.size : Int)).toNat).toList = win i s.size := by
      rw [ByteArray.toList_eq, Lib.extract_data, hw, show ((i : Int) + (s.size : Int)).toNat = i + s.size by omega, Int.toNat_natCast, show i + s.size - i = s.size by omega, win_drop i _ _ (by omega)]
    rw [e, ByteArray.toList_eq]
    by_cases h : win i s.size = s.data.toList
    · rw [if_pos h]
      exact ⟨_, rfl, .inl ⟨i, by omega, by rw [data_length]; exact h.symm, fun j hj => by rw [data_length]; exact hn j hj, rfl⟩⟩
    · rw [if_neg h]
      exact ih (i + 1) k (by omega) (by omega) (by omega) (fun j hj => by
        by_cases hji : j = i
        · subst hji; exact fun e => h e.symm
        · exact hn j (by omega))

theorem ref_find (s : ByteArray) (h2 : 2 ≤ s.size) (hs : s.size ≤ 4096) : ∃ r, masterdiscref05_Find.f 800000 s = some r ∧ Found s.data.toList r := by
  obtain ⟨⟨r1, r2⟩, hr, hr'⟩ := sequence_ref (((32767 + s.size : Nat) : Int))
  have e : r1 = strOfNums (seqI (32767 + s.size)) := by
    unfold scrambler_Sequence.f at hr'
    rw [if_neg (by omega), Int.toNat_natCast] at hr'
    exact (Prod.mk.inj (Option.some.inj hr')).1.symm
  unfold masterdiscref05_Find.f
  rw [if_neg (by omega), decide_eq_false (by omega)]
  simp only [masterdiscref05_Find.j0]
  rw [if_neg (by decide), show (32767 : Int) + (s.size : Int) = ((32767 + s.size : Nat) : Int) by omega, wrap64_nat _ (by omega), hr 799999 (by omega), Option.bind_some]
  have := ref_loop s r1 hs h2 (by rw [e, size_strOfNums, seqI_length]) (by rw [e, seq_win]) 32767 0 799999 (by omega) (by omega) (by omega) (fun j hj => by omega)
  exact this
theorem ref_find_no (s : ByteArray) (h : s.size < 2 ∨ 4096 < s.size) : masterdiscref05_Find.f 800000 s = some (0, false) := by
  unfold masterdiscref05_Find.f
  by_cases h0 : (s.size : Int) < 2
  · rw [if_pos h0]; simp only [masterdiscref05_Find.j0]; rw [if_pos trivial]
  · rw [if_neg h0, decide_eq_true (by omega)]; simp only [masterdiscref05_Find.j0]; rw [if_pos trivial]

theorem run_bit : ∀ (j x : Nat), x < 32768 → j ≤ 14 → run j x % 2 = x / 2 ^ j % 2 := by
  intro j
  induction j with
  | zero => intro x _ _; simp [run]
  | succ j ih =>
    intro x hx hj
    rw [run, ih (stp x) (stp_lt hx) (by omega)]
    have e : stp x = x / 2 + 2 ^ j * ((x % 2 + x / 2 % 2) % 2 * 2 ^ (14 - j)) := by
      unfold stp
      rw [Nat.mul_left_comm, ← Nat.pow_add, show j + (14 - j) = 14 by omega]
    obtain ⟨q, hq⟩ : ∃ q, 2 ^ (14 - j) = 2 * q := ⟨2 ^ (13 - j), by rw [← Nat.pow_succ', show (13 - j).succ = 14 - j by omega]⟩
    rw [e, Nat.add_mul_div_left _ _ (Nat.two_pow_pos j), Nat.div_div_eq_div_mul, ← Nat.pow_succ', hq, Nat.mul_left_comm, Nat.add_mul_mod_self_left]
theorem bit_of (k j : Nat) (hj : j ≤ 14) : bit (k + j) = rg k / 2 ^ j % 2 := by
  unfold bit
  rw [rg_add, run_bit j (rg k) (rg_lt k) hj]
theorem rg_of_bits {i k : Nat} (h : ∀ j, j ≤ 14 → bit (i + j) = bit (k + j)) : rg i = rg k := by
  apply Nat.eq_of_testBit_eq
  intro j
  by_cases hj : j ≤ 14
  · have := h j hj
    rw [bit_of i j hj, bit_of k j hj] at this
    rw [Nat.testBit_eq_decide_div_mod_eq, Nat.testBit_eq_decide_div_mod_eq, this]
  · have h1 : rg i < 2 ^ j := Nat.lt_of_lt_of_le (rg_lt i) (Nat.pow_le_pow_right (show 0 < 2 by decide) (show 15 ≤ j by omega))
    have h2 : rg k < 2 ^ j := Nat.lt_of_lt_of_le (rg_lt k) (Nat.pow_le_pow_right (show 0 < 2 by decide) (show 15 ≤ j by omega))
    rw [Nat.testBit_lt_two_pow h1, Nat.testBit_lt_two_pow h2]
theorem byt_of_win {i k n j : Nat} (h : win i n = win k n) (hj : j < n) : byt (i + j) = byt (k + j) := by
  have := congrArg (fun l => l[j]?) h
  simp only [win, List.getElem?_map, List.getElem?_range hj, Option.map_some, Option.some.injEq] at this
  have h3 := congrArg UInt8.toNat this
  have := byt_lt (i + j)
  have := byt_lt (k + j)
  simp at h3
  omega
/-- Two bytes tell the place. -/
theorem win_inj {i k n : Nat} (hn : 2 ≤ n) (h : win i n = win k n) : rg (8 * i) = rg (8 * k) := by
  have e0 := byt_of_win h (show 0 < n by omega)
  have e1 := byt_of_win h (show 1 < n by omega)
  refine rg_of_bits (fun j hj => ?_)
  by_cases h8 : j < 8
  · rw [← byt_bit i j h8, ← byt_bit k j h8]
    rw [Nat.add_zero, Nat.add_zero] at e0
    rw [e0]
  · have a := byt_bit (i + 1) (j - 8) (by omega)
    have b := byt_bit (k + 1) (j - 8) (by omega)
    rw [e1, show 8 * (i + 1) + (j - 8) = 8 * i + j by omega] at a
    rw [show 8 * (k + 1) + (j - 8) = 8 * k + j by omega] at b
    rw [← a, ← b]
theorem win_place {i k n : Nat} (hn : 2 ≤ n) (hi : i < 32767) (hk : k < 32767) (h : win i n = win k n) : i = k := by
  have := rg_inj_mod (win_inj hn h)
  omega

/-! The walk of Find. -/
set_option maxHeartbeats 400000 in
theorem Find_no (a0 : ByteArray) (hb : a0.size < 2 ∨ 4096 < a0.size) (w : World) :
    Calls Try.prog 19 #[.string a0] w fun e w' => e = .returned (.tuple #[.int .i64 0, .bool false]) ∧ Below w.heap.size w w' := by
  have HB := Lib.hid (Below.refl w.heap.size w)
  rcases hb with hb | hb
  · have h0 : decide ((a0.size : Int) < 2) = true := decide_eq_true (by omega)
    go_enter Try.func19, Try.ntmps19
    go_wp2
    go_ret2
    exact ⟨rfl, HB.out⟩
  · have h0 : decide ((a0.size : Int) < 2) = false := decide_eq_false (by omega)
    have h1 : decide ((4096 : Int) < (a0.size : Int)) = true := decide_eq_true (by omega)
    go_enter Try.func19, Try.ntmps19
    go_wp2
    go_ret2
    exact ⟨rfl, HB.out⟩

set_option maxRecDepth 100000 in
set_option maxHeartbeats 400000 in
theorem Find_yes (a0 : ByteArray) (h2 : 2 ≤ a0.size) (h4 : a0.size ≤ 4096) (m : Int) (w : World) (hm : w.cell? ⟨0, 0, none⟩ = some (.int .i64 m)) :
    Calls Try.prog 19 #[.string a0] w fun e w' => ∃ r : Int × Bool, Found a0.data.toList r ∧ e = .returned (.tuple #[.int .i64 r.1, .bool r.2]) ∧ Below w.heap.size w w' := by
  have h0 : decide ((a0.size : Int) < 2) = false := decide_eq_false (by omega)
  have h1 : decide ((4096 : Int) < (a0.size : Int)) = false := decide_eq_false (by omega)
  obtain ⟨r, hr, hi⟩ := index_found a0.data.toList (by rw [data_length]; exact h2)
  rw [data_length] at hi
  obtain ⟨N, hN⟩ : ∃ N, N = 32767 + a0.size - 1 := ⟨_, rfl⟩
  rw [← hN] at hi
  have hseq := fun w => sequence_c N (by omega) w
  rw [show ((N : Nat) : Int) = 32767 + (a0.size : Int) - 1 by omega] at hseq
  obtain ⟨S, hS⟩ : ∃ S, S = strOfNums (seqI N) := ⟨_, rfl⟩
  have hSz : S.size = N := by rw [hS, size_strOfNums, seqI_length]
  have hSd : S.data.toList = win 0 N := by rw [hS, seq_win]
  have hidx : ∀ w, w.cell? ⟨0, 0, none⟩ = some (.int .i64 m) → Calls Try.prog 24 #[.string S, .string a0] w fun e w' => e = .returned (.int .i64 (Lib.index (win 0 N) a0.data.toList)) ∧ w = w' := fun w hw => by
    have := Try.strings_Index S a0 m w (by omega) hw
    rw [hSd] at this
    exact this.mono fun e w' ⟨h, h'⟩ => ⟨h, h'.symm⟩
  have hlt0 := World.block_lt_of_cell? w _ hm
  have HH := Lib.hid (And.intro hN (And.intro hS (And.intro hSz hSd)))
  have HR := Lib.hid hr
  have HI := Lib.hid hi
  clear hN hSz hSd hr hi
  go_enter Try.func19, Try.ntmps19
  go_wp2_with fail
  refine (hseq _).mono ?_
  rintro e w1 ⟨v, rfl, hown, hB⟩
  have kc := own_string (P := Try.prog) (src := 40) (dst := 9) Try.underlying40 Try.underlying5 Try.underlying9 hown
  rw [← hS] at kc
  have hx := hidx w1 ((hB.cell (p := ⟨0, 0, none⟩) hlt0).trans hm)
  clear hidx hown hS hseq hm
  go_wp2_with (go_at_call 24; refine hx.mono ?_; rintro e w' ⟨rfl, rfl⟩)
  go_ret2
  refine ⟨r, HR.out, ?_, hB⟩
  show Ending.returned (.tuple #[.int .i64 (max (Lib.index (win 0 N) a0.data.toList) 0), .bool (decide (0 ≤ Lib.index (win 0 N) a0.data.toList))]) = _
  rcases HI.out with ⟨i, hi, rfl⟩ | ⟨hi, rfl⟩
  · rw [hi, decide_eq_true (by omega), Int.max_eq_left (by omega)]
  · rw [hi]; rfl

/-- The reference's Find. -/
theorem refFind_c (a0 : ByteArray) (w : World) :
    Calls Try.prog 20 #[.string a0] w fun e w' => ∃ r : Int × Bool, (2 ≤ a0.size ∧ a0.size ≤ 4096 → Found a0.data.toList r) ∧ (¬ (2 ≤ a0.size ∧ a0.size ≤ 4096) → r = (0, false)) ∧ e = .returned (.tuple #[.int .i64 r.1, .bool r.2]) ∧ Below w.heap.size w w' := by
  by_cases h : 2 ≤ a0.size ∧ a0.size ≤ 4096
  · obtain ⟨r, hr, hf⟩ := ref_find a0 h.1 h.2
    exact (masterdiscref05_Find.calls 800000 a0 r.1 r.2 w hr).mono fun e w' ⟨he, hb⟩ => ⟨r, fun _ => hf, fun h' => (h' h).elim, he, hb⟩
  · have hr := ref_find_no a0 (by omega)
    exact (masterdiscref05_Find.calls 800000 a0 0 false w hr).mono fun e w' ⟨he, hb⟩ => ⟨(0, false), fun h' => (h h').elim, fun _ => rfl, he, hb⟩
/-- The program's Find. -/
theorem find_c (a0 : ByteArray) (m : Int) (w : World) (hm : w.cell? ⟨0, 0, none⟩ = some (.int .i64 m)) :
    Calls Try.prog 19 #[.string a0] w fun e w' => ∃ r : Int × Bool, (2 ≤ a0.size ∧ a0.size ≤ 4096 → Found a0.data.toList r) ∧ (¬ (2 ≤ a0.size ∧ a0.size ≤ 4096) → r = (0, false)) ∧ e = .returned (.tuple #[.int .i64 r.1, .bool r.2]) ∧ Below w.heap.size w w' := by
  by_cases h : 2 ≤ a0.size ∧ a0.size ≤ 4096
  · exact (Find_yes a0 h.1 h.2 m w hm).mono fun e w' ⟨r, hf, he, hb⟩ => ⟨r, fun _ => hf, fun h' => (h' h).elim, he, hb⟩
  · exact (Find_no a0 (by omega) w).mono fun e w' ⟨he, hb⟩ => ⟨(0, false), fun h' => (h h').elim, fun _ => rfl, he, hb⟩
theorem found_one {a0 : ByteArray} {r r' : Int × Bool} (h1 : 2 ≤ a0.size ∧ a0.size ≤ 4096 → Found a0.data.toList r) (h2 : ¬ (2 ≤ a0.size ∧ a0.size ≤ 4096) → r = (0, false))
    (h1' : 2 ≤ a0.size ∧ a0.size ≤ 4096 → Found a0.data.toList r') (h2' : ¬ (2 ≤ a0.size ∧ a0.size ≤ 4096) → r' = (0, false)) : r = r' := by
  by_cases h : 2 ≤ a0.size ∧ a0.size ≤ 4096
  · exact (h1 h).one (h1' h)
  · rw [h2 h, h2' h]
end Go.Proofs.Ytificcmcddcijaa.Find
