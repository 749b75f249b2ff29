/- The reference's Valid, New and Encode are the program's. -/
import Derived.Test.YtdepicgdbealpaaGreatBlk
import Derived.Test.YtdepicgdbealpaaGreatV5
import Derived.Test.YtdepicgdbealpaaGreatPlain
namespace Go.Proofs.YtdepicgdbealpaaGreat.Enc
set_option linter.unusedVariables false
set_option linter.unusedSimpArgs false
open Go.RowKit Go.Lib Go.Proofs.YtdepicgdbealpaaGreatW.PrintWords Go.Proofs.YtdepicgdbealpaaGreatW.PrintLast Go.Proofs.YtdepicgdbealpaaGreatW.PrintMore
open Go.Proofs.YtdepicgdbealpaaGreat Go.Proofs.YtdepicgdbealpaaGreat.V Go.Proofs.YtdepicgdbealpaaGreat.Spare

theorem rword_f (n : Int) : masterdiscref39_word.f n = some (wordB n) := by
  unfold masterdiscref39_word.f wordB
  by_cases h : n ≥ 0
  · rw [if_pos h]; simp [h]
  · rw [if_neg h]; have : ¬ (0 ≤ n) := h; simp [this]

theorem word_iff (n : Int) : wordB n = true ↔ 0 ≤ n ∧ n < 4294967296 := by unfold wordB; simp

theorem dist_eq (x y : Int) (hx : 0 ≤ x ∧ x < 4294967296) (hy : 0 ≤ y ∧ y < 4294967296) : wrap64 (mx x y - mn x y) = mx (wrap64 (x - y)) (wrap64 (y - x)) := by
  rw [w64e (x - y) (by omega), w64e (y - x) (by omega)]
  unfold mx mn
  rw [w64e _ (by split <;> split <;> omega)]
  split <;> split <;> (try split) <;> omega

theorem rl1_is (l : List S48) (s : Int) (x : S48) (i : Nat) (hi : i ≤ l.length) (h8 : l.length ≤ 8) (hx : wordB x.f1 = true) (hw : ∀ j, j < i → wordB (rd_T48 l j).f1 = true) : ∀ (d j m : Nat), j + d = i →
    masterdiscref39_Valid.l1 (m + d + 1) i j s l x.f0 x.f1 = if innerB l x j d then masterdiscref39_Valid.l0 m ((i + 1 : Nat) : Int) s l else some false
  | 0, j, m, hj => by
    rw [masterdiscref39_Valid.l1, if_neg (by omega), w64e _ (by omega)]
    rfl
  | d + 1, j, m, hj => by
    have ih := rl1_is l s x i hi h8 hx hw d (j + 1) m (by omega)
    have hy := hw j (by omega)
    rw [masterdiscref39_Valid.l1, if_pos (by omega), if_pos (by omega), if_pos (by omega), w64e ((j : Int) + 1) (by omega), show ((j : Int) + 1) = ((j + 1 : Nat) : Int) by omega, show m + (d + 1) = m + d + 1 by omega, ih]
    rw [show innerB l x j (d + 1) = (okP (rd_T48 l j) x && innerB l x (j + 1) d) from rfl]
    generalize innerB l x (j + 1) d = z
    generalize rd_T48 l j = y at hy
    rw [dist_eq _ _ ((word_iff _).1 hx) ((word_iff _).1 hy)]
    by_cases c2 : y.f0 > x.f0
    · rw [if_pos c2, show okP y x = false by simp [okP, c2]]; rfl
    · rw [if_neg c2]
      by_cases c1 : mx (wrap64 (x.f1 - y.f1)) (wrap64 (y.f1 - x.f1)) < 8
      · rw [if_pos c1, show okP y x = false by simp [okP, c1]]
        rw [Bool.false_and, if_neg (show ¬ (false = true) by decide)]
        split <;> (try split) <;> rfl
      · rw [if_neg c1]
        by_cases c3 : y.f0 = x.f0
        · rw [if_pos c3]
          by_cases c4 : x.f0 = 4294967295
          · rw [if_pos c4, show okP y x = true by simp [okP, c1, c3, c4], Bool.true_and]
          · rw [if_neg c4, show okP y x = false by simp [okP, c3, c4]]; rfl
        · rw [if_neg c3, show okP y x = true by simp [okP, c1, c3]; omega, Bool.true_and]

theorem rl0_is (l : List S48) (s : Int) (h8 : l.length ≤ 8) : ∀ (r i m : Nat), i + r = l.length → 12 * r + 1 ≤ m → (∀ j, j < i → wordB (rd_T48 l j).f1 = true) →
    masterdiscref39_Valid.l0 m i s l = some (outerB l i r)
  | 0, i, m, hi, hm, _ => by
    obtain ⟨m, rfl⟩ : ∃ q, m = q + 1 := ⟨m - 1, by omega⟩
    rw [masterdiscref39_Valid.l0, if_neg (by omega)]
    rfl
  | r + 1, i, m, hi, hm, hw => by
    obtain ⟨q, rfl⟩ : ∃ q, m = (q + i + 1) + 1 + 1 := ⟨m - i - 3, by omega⟩
    rw [masterdiscref39_Valid.l0, if_pos (by omega), if_pos (by omega), rword_f, Option.bind_some, rword_f, Option.bind_some]
    unfold outerB okE
    cases h1 : wordB (rd_T48 l i).f1 with
    | false => rw [if_neg (by decide), masterdiscref39_Valid.j2, if_pos rfl]; simp
    | true =>
      have ih := rl0_is l s h8 r (i + 1) q (by omega) (by omega) (fun j hj => by
        by_cases e : j = i
        · rw [e]; exact h1
        · exact hw j (by omega))
      have hl1 := rl1_is l s (rd_T48 l i) i (by omega) h8 h1 hw i 0 q (by omega)
      have hj2 : ∀ b : Bool, masterdiscref39_Valid.j2 (q + i + 1 + 1) i b s l (rd_T48 l i).f0 (rd_T48 l i).f1 = if b = true then some false else (if innerB l (rd_T48 l i) 0 i then some (outerB l (i + 1) r) else some false) := by
        intro b
        rw [masterdiscref39_Valid.j2]
        by_cases hb : b = true
        · rw [if_pos hb, if_pos hb]
        · rw [if_neg hb, if_neg hb]
          rw [ih] at hl1
          exact hl1
      rw [hj2, hj2, hj2]
      cases h2 : wordB (rd_T48 l i).f0 with
      | false => simp
      | true =>
        by_cases h3 : (rd_T48 l i).f0 = 4294967295
        · cases innerB l (rd_T48 l i) 0 i <;> simp [h3]
        · by_cases h4 : Int.tmod (rd_T48 l i).f0 8 = 0
          · cases innerB l (rd_T48 l i) 0 i <;> simp [h3, h4]
          · simp [h3, h4]

theorem rvalid_K (s : Int) (l : List S48) (K : Nat) (hK : 200 ≤ K) : masterdiscref39_Valid.f K s l = some (validB s l) := by
  obtain ⟨q, rfl⟩ : ∃ q, K = q + 1 := ⟨K - 1, by omega⟩
  unfold masterdiscref39_Valid.f validB
  rw [rword_f, Option.bind_some]
  cases h1 : wordB s with
  | false => rw [if_neg (by decide), masterdiscref39_Valid.j0, if_pos rfl]; simp
  | true =>
    rw [if_pos rfl, masterdiscref39_Valid.j0]
    by_cases h : l.length ≤ 8
    · rw [if_neg (by simp; omega)]
      have := rl0_is l s h l.length 0 q (by omega) (by omega) (fun j hj => absurd hj (Nat.not_lt_zero _))
      rw [decide_eq_true h, Bool.true_and, Bool.true_and]
      exact this
    · rw [if_pos (by simp; omega)]; simp [h]

/-! ### Encode -/
theorem lit_lb (n : Int) (s : Nat) (h : checkF n s = 0) : lit n s = lb n s := by
  unfold lit littleF
  rw [if_pos h, Int.toNat_natCast]
  rfl
theorem lit0 : lit 0 2 = ⟨#[0, 0]⟩ := by decide +kernel
theorem lit2 (n : Int) (h : 0 ≤ n ∧ n < 65536) : lit n 2 = lb n 2 := lit_lb n 2 (check2 n h)
theorem lit4 (n : Int) (h : 0 ≤ n ∧ n < 4294967296) : lit n 4 = lb n 4 := lit_lb n 4 (check4 n h)

theorem rent : masterdiscref32_Entity.f 40 ident ⟨#[1, 2]⟩ = some (E0, 0) := by decide +kernel
theorem rent_K (K : Nat) (hK : 40 ≤ K) : masterdiscref32_Entity.f K ident ⟨#[1, 2]⟩ = some (E0, 0) := by
  obtain ⟨m, rfl⟩ : ∃ m, K = 40 + m := ⟨K - 40, by omega⟩
  induction m with
  | zero => exact rent
  | succ m ih => exact masterdiscref32_Entity.mono _ _ _ _ (ih (by omega))

theorem renc_l0 (loc : Int) (s : Int) (l : List S48) (blk : ByteArray × Int) (h8 : l.length ≤ 8) (hE : ∀ x ∈ l, (0 ≤ x.f0 ∧ x.f0 < 4294967296) ∧ (0 ≤ x.f1 ∧ x.f1 < 4294967296))
    (Q : Nat) (hQ : 10 ≤ Q) (hblk : ∀ K, Q ≤ K → masterdiscref31_Block.f K 0 1 loc (bodyF s l) = some blk) : ∀ (r i K : Nat), i + r = l.length → Q + r + 1 ≤ K →
    masterdiscref39_Encode.l0 K loc (entries (headF s l) (l.take i)) i s l = some blk
  | 0, i, K, h, hK => by
    obtain ⟨q, rfl⟩ : ∃ q, K = q + 1 := ⟨K - 1, by omega⟩
    rw [masterdiscref39_Encode.l0, if_neg (by omega), List.take_of_length_le (by omega)]
    rw [show entries (headF s l) l = bodyF s l from rfl, hblk q (by omega)]
    rfl
  | r + 1, i, K, h, hK => by
    obtain ⟨q, rfl⟩ : ∃ q, K = q + 1 := ⟨K - 1, by omega⟩
    have ih := renc_l0 loc s l blk h8 hE Q hQ hblk r (i + 1) q (by omega) (by omega)
    have hi : i < l.length := by omega
    have hx := hE _ (List.getElem_mem hi)
    rw [entries_step _ l i hi] at ih
    have hsz : (entries (headF s l) (l.take i)).size ≤ 300 := by
      have h1 := entries_size (l.take i) (headF s l)
      have h2 := head_size s l
      rw [List.length_take] at h1
      omega
    have hb := fun n hn => bytes_K n 4 hn (by decide) q (by omega)
    simp only [show ((4 : Nat) : Int) = 4 from rfl] at hb
    rw [masterdiscref39_Encode.l0, if_pos (by omega), if_pos (by omega), rd_get l i hi]
    generalize l[i] = x at hx ih
    generalize entries (headF s l) (l.take i) = o at hsz ih
    rw [lit4 _ hx.1, lit4 _ hx.2] at ih
    rw [hb x.f0 (by omega), Option.bind_some, if_pos (by rw [lb_size]; omega), hb x.f1 (by omega), Option.bind_some, if_pos (by rw [ByteArray.size_append, lb_size, lb_size]; omega), w64e _ (by omega), show ((i : Int) + 1) = ((i + 1 : Nat) : Int) by omega]
    exact ih

theorem renc_K (s : Int) (l : List S48) (loc : Int) (K : Nat) (hK : 40000 ≤ K) : masterdiscref39_Encode.f K s l loc = some (encF s l loc (blockB 0 1 loc (bodyF s l), 0)) := by
  unfold masterdiscref39_Encode.f encF
  rw [rvalid_K s l K (by omega), Option.bind_some]
  cases hv : validB s l with
  | false => rw [if_neg (by decide), if_neg (by decide)]
  | true =>
    rw [if_pos rfl, if_pos rfl, rword_f, Option.bind_some]
    cases hw : wordB loc with
    | false => rw [if_neg (by decide), if_neg (by decide)]
    | true =>
      rw [if_pos rfl, if_pos rfl]
      obtain ⟨hs, h8, hE, _⟩ := (validB_iff s l).1 hv
      have hloc := (word_iff loc).1 hw
      have hb4 := fun n hn => bytes_K n 4 hn (by decide) K (by omega)
      have hb2 := fun n hn => bytes_K n 2 hn (by decide) K (by omega)
      simp only [show ((2 : Nat) : Int) = 2 from rfl, show ((4 : Nat) : Int) = 4 from rfl] at hb2 hb4
      have hbody : (bodyF s l).size ≤ 300 := by
        have h1 := entries_size l (headF s l)
        have h2 := head_size s l
        unfold bodyF
        omega
      have hl0 := renc_l0 loc s l (blockB 0 1 loc (bodyF s l), 0) h8 (fun x hx => ⟨(hE x hx).2.1, (hE x hx).1⟩) 30000 (by omega) (fun K hK => block_ref 0 1 loc _ ⟨by omega, by omega, hloc⟩ (by omega) K hK) l.length 0 K (by omega) (by omega)
      have hh : entries (headF s l) (l.take 0) = ((E0 ++ lb l.length 2) ++ (⟨#[0, 0]⟩ : ByteArray)) ++ lb s 4 := by
        show headF s l = _
        unfold headF
        rw [lit2 _ (by omega), lit0, lit4 s hs]
      rw [hh] at hl0
      have c2 : (⟨#[0, 0]⟩ : ByteArray).size = 2 := rfl
      have z1 : (E0 ++ lb l.length 2).size = 34 := by rw [ByteArray.size_append, E0_ok.2, lb_size]
      rw [show (⟨#[42, 85, 68, 70, 32, 83, 112, 97, 114, 105, 110, 103, 32, 84, 97, 98, 108, 101]⟩ : ByteArray) = ident from rfl, rent_K K (by omega), Option.bind_some, hb2 l.length (by omega), Option.bind_some, if_pos (by rw [E0_ok.2, lb_size]; omega), if_pos (by rw [z1]; omega),
        hb4 s (by omega), Option.bind_some, if_pos (by rw [ByteArray.size_append, z1, c2, lb_size]; omega)]
      exact hl0

end Go.Proofs.YtdepicgdbealpaaGreat.Enc
