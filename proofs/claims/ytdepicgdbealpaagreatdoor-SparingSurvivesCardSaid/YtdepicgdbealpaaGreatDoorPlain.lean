/- Plain facts on sparing tables. -/
import Derived.Test.YtdepicgdbealpaaGreatDoorSpareD
import Derived.Test.YtdepicgdbealpaaGreatDoorClosed
namespace Go.Proofs.YtdepicgdbealpaaGreatDoor.Spare
set_option linter.unusedVariables false
set_option linter.unusedSimpArgs false
open Go.RowKit Go.Proofs.YtdepicgdbealpaaGreatDoorW.PrintWords Go.Proofs.YtdepicgdbealpaaGreatDoorW.PrintLast Go.Proofs.YtdepicgdbealpaaGreatDoorW.PrintMore
open Go.Proofs.YtdepicgdbealpaaGreatDoor.V

def E (x : S54) : Prop := (0 ≤ x.f1 ∧ x.f1 < 4294967296) ∧ (0 ≤ x.f0 ∧ x.f0 < 4294967296) ∧ (x.f0 = 4294967295 ∨ Int.tmod x.f0 8 = 0)
/-- What holds of two entries whichever stands first. -/
def D (y x : S54) : Prop := (8 ≤ x.f1 - y.f1 ∨ 8 ≤ y.f1 - x.f1) ∧ (y.f0 = x.f0 → x.f0 = 4294967295)
theorem D_symm {y x : S54} (h : D y x) : D x y := ⟨h.1.symm, fun e => by rw [← e]; exact h.2 e.symm⟩
def P (y x : S54) : Prop := D y x ∧ y.f0 ≤ x.f0

theorem okE_iff (x : S54) : okE x = true ↔ E x := by
 unfold okE wordB E
 simp only [Bool.and_eq_true, Bool.or_eq_true, decide_eq_true_eq, and_assoc]

theorem okP_iff {y x : S54} (hy : E y) (hx : E x) : okP y x = true ↔ P y x := by
 unfold E at hy hx
 unfold okP P D
 rw [w64 _ (by omega), w64 _ (by omega)]
 rw [Decidable.imp_iff_not_or]
 simp only [Bool.and_eq_true, Bool.or_eq_true, Bool.not_eq_true', decide_eq_false_iff_not, decide_eq_true_eq, mx]
 split <;> (simp only [decide_eq_false_iff_not]; omega)

theorem innerB_iff (l : List S54) (x : S54) : ∀ d j, innerB l x j d = true ↔ ∀ t, j ≤ t → t < j + d → okP (rd_T54 l t) x = true
 | 0, j => by simp [innerB]; intro t h1 h2; omega
 | d + 1, j => by
  unfold innerB
  rw [Bool.and_eq_true, innerB_iff l x d (j + 1)]
  refine ⟨fun h t h1 h2 => ?_, fun h => ⟨h j (Nat.le_refl _) (by omega), fun t h1 h2 => h t (by omega) (by omega)⟩⟩
  by_cases e : t = j
  ·rw [e]; exact h.1
  ·exact h.2 t (by omega) (by omega)

theorem outerB_iff (l : List S54) : ∀ r i, outerB l i r = true ↔ ∀ t, i ≤ t → t < i + r → okE (rd_T54 l t) = true ∧ ∀ q, q < t → okP (rd_T54 l q) (rd_T54 l t) = true
 | 0, i => by simp [outerB]; intro t h1 h2; omega
 | r + 1, i => by
  unfold outerB
  rw [Bool.and_eq_true, Bool.and_eq_true, innerB_iff, outerB_iff l r (i + 1)]
  refine ⟨fun h t h1 h2 => ?_, fun h => ⟨⟨(h i (Nat.le_refl _) (by omega)).1, fun t _ h2 => (h i (Nat.le_refl _) (by omega)).2 t (by omega)⟩, fun t h1 h2 => h t (by omega) (by omega)⟩⟩
  by_cases e : t = i
  ·rw [e]; exact ⟨h.1.1, fun q hq => h.1.2 q (Nat.zero_le _) (by omega)⟩
  ·exact h.2 t (by omega) (by omega)

theorem validB_iff (s : Int) (l : List S54) : validB s l = true ↔ (0 ≤ s ∧ s < 4294967296) ∧ l.length ≤ 8 ∧ (∀ x ∈ l, E x) ∧ l.Pairwise P := by
 unfold validB wordB
 rw [Bool.and_eq_true, Bool.and_eq_true, Bool.and_eq_true, decide_eq_true_eq, decide_eq_true_eq, decide_eq_true_eq, outerB_iff, and_assoc]
 refine and_congr_right fun _ => and_congr_right fun _ => ?_
 constructor
 ·intro h
  have hE : ∀ x ∈ l, E x := by
   intro x hx
   obtain ⟨t, ht, rfl⟩ := List.mem_iff_getElem.1 hx
   have := (h t (Nat.zero_le _) (by omega)).1
   rw [rd_get l t ht, okE_iff] at this
   exact this
  refine ⟨hE, List.pairwise_iff_getElem.2 fun i j hi hj hij => ?_⟩
  have := (h j (Nat.zero_le _) (by omega)).2 i hij
  rw [rd_get l i hi, rd_get l j hj, okP_iff (hE _ (List.getElem_mem _)) (hE _ (List.getElem_mem _))] at this
  exact this
 ·rintro ⟨hE, hP⟩ t _ ht
  have ht' : t < l.length := by omega
  refine ⟨by rw [rd_get l t ht', okE_iff]; exact hE _ (List.getElem_mem _), fun q hq => ?_⟩
  rw [rd_get l t ht', rd_get l q (by omega), okP_iff (hE _ (List.getElem_mem _)) (hE _ (List.getElem_mem _))]
  exact List.pairwise_iff_getElem.1 hP q t (by omega) ht' hq

/-! ### what best finds -/
theorem bestFrom_spec (l : List S54) : ∀ r (b : Int) i, i + r = l.length → (b = -1 ∨ (0 ≤ b ∧ b < i ∧ (rd_T54 l b).f0 = 4294967295)) →
  let c := bestFrom l b i r
  (c = -1 ∧ b = -1 ∧ ∀ t, i ≤ t → t < l.length → (rd_T54 l t).f0 ≠ 4294967295) ∨ (0 ≤ c ∧ c < l.length ∧ (rd_T54 l c).f0 = 4294967295)
 | 0, b, i, h, hb => by
  simp only [bestFrom]
  rcases hb with hb | ⟨h1, h2, h3⟩
  ·exact .inl ⟨hb, hb, fun t h1 h2 => by omega⟩
  ·exact .inr ⟨h1, by omega, h3⟩
 | r + 1, b, i, h, hb => by
  simp only [bestFrom]
  by_cases hq : (rd_T54 l i).f0 = 4294967295
  ·by_cases hbt : better l b i = true
   ·rw [if_pos hbt]
    rcases bestFrom_spec l r i (i + 1) (by omega) (.inr ⟨by omega, by omega, hq⟩) with ⟨h1, h2, _⟩ | h1
    ·omega
    ·exact .inr h1
   ·rw [if_neg hbt]
    rcases hb with rfl | ⟨h1, h2, h3⟩
    ·exact absurd (by simp [better, hq]) hbt
    ·rcases bestFrom_spec l r b (i + 1) (by omega) (.inr ⟨h1, by omega, h3⟩) with ⟨h4, h5, _⟩ | h4
     ·omega
     ·exact .inr h4
  ·have hbt : better l b i = false := by simp [better, hq]
   rw [if_neg (by simp [hbt])]
   rcases bestFrom_spec l r b (i + 1) (by omega) (by rcases hb with h | ⟨h1, h2, h3⟩; exact .inl h; exact .inr ⟨h1, by omega, h3⟩) with ⟨h4, h5, h6⟩ | h4
   ·refine .inl ⟨h4, h5, fun t h1 h2 => ?_⟩
    by_cases e : t = i
    ·rw [e]; exact hq
    ·exact h6 t (by omega) h2
   ·exact .inr h4

theorem best_spec (l : List S54) : (best l = -1 ∧ ∀ x ∈ l, x.f0 ≠ 4294967295) ∨ (∃ b : Nat, best l = b ∧ ∃ h : b < l.length, l[b].f0 = 4294967295) := by
 rcases bestFrom_spec l l.length (-1) 0 (by omega) (.inl rfl) with ⟨h1, _, h3⟩ | ⟨h1, h2, h3⟩
 ·refine .inl ⟨h1, fun x hx => ?_⟩
  obtain ⟨t, ht, rfl⟩ := List.mem_iff_getElem.1 hx
  have := h3 t (Nat.zero_le _) ht
  rwa [rd_get l t ht] at this
 ·obtain ⟨n, hn⟩ : ∃ n : Nat, best l = n := ⟨(best l).toNat, by unfold best; omega⟩
  have h2' : n < l.length := by unfold best at hn; omega
  refine .inr ⟨n, hn, h2', ?_⟩
  have := h3
  unfold best at hn
  rw [hn, rd_get l n h2'] at this
  exact this

/-! ### Replace on a valid table -/
/-- What a replacement that succeeds does: x is the entry of the spare packet that is taken. -/
structure Done (s : Int) (l : List S54) (first : Int) (R : Int × List S54 × Int × Int) : Prop where
 valid : validB R.1 R.2.1 = true
 seq : R.1 = s + 1
 len : R.2.1.length ≤ l.length
 has : (⟨4294967295, R.2.2.1⟩ : S54) ∈ l
 /-- The entries of the new table. -/
 mem : ∀ z, z ∈ R.2.1 → z = ⟨first, R.2.2.1⟩ ∨ (z ∈ l ∧ z.f0 ≠ first)
 /-- The packet that was replaced has the new place. -/
 new : (⟨first, R.2.2.1⟩ : S54) ∈ R.2.1
 /-- The others keep theirs. -/
 old : ∀ z, z ∈ l → z.f0 ≠ first → z.f0 ≠ 4294967295 → z ∈ R.2.1

theorem replace_spec (s : Int) (l : List S54) (block : Int) (hv : validB s l = true) (h0 : 0 ≤ block) (h1 : block ≤ 4294967279) :
  (replaceF s l block = (0, [], 0, 12)) ∨ (s = 4294967295 ∧ replaceF s l block = (0, [], 0, 7)) ∨ ((replaceF s l block).2.2.2 = 0 ∧ Done s l (block - Int.tmod block 8) (replaceF s l block)) := by
 obtain ⟨hs, hlen, hE, hP⟩ := (validB_iff s l).1 hv
 unfold replaceF
 rw [if_pos hv, if_neg (by omega)]
 simp only
 have hm0 : 0 ≤ Int.tmod block 8 := Int.tmod_nonneg _ h0
 have hm1 : Int.tmod block 8 < 8 := Int.tmod_lt_of_pos _ (by omega)
 have hm2 : Int.tmod (block - Int.tmod block 8) 8 = 0 := by
  rw [Int.tmod_eq_emod_of_nonneg h0, Int.tmod_eq_emod_of_nonneg (by omega)]; omega
 have hm3 : block - Int.tmod block 8 ≤ 4294967279 ∧ 0 ≤ block - Int.tmod block 8 := by
  rw [Int.tmod_eq_emod_of_nonneg h0] at hm1 ⊢; omega
 generalize block - Int.tmod block 8 = first at hm2 hm3 ⊢
 have hsub : (l.filter (keepB first)).Sublist l := List.filter_sublist
 have hkeep : ∀ z, z ∈ l.filter (keepB first) ↔ z ∈ l ∧ z.f0 ≠ first := by
  intro z; rw [List.mem_filter]; simp [keepB]
 generalize l.filter (keepB first) = l1 at hsub hkeep ⊢
 rcases best_spec l1 with ⟨hb, _⟩ | ⟨b, hb, hbl, hbu⟩
 ·rw [hb, if_pos (by omega)]; exact .inl rfl
 ·rw [hb, if_neg (by omega)]
  by_cases h7 : s = 4294967295
  ·rw [if_pos h7]; exact .inr (.inl ⟨h7, rfl⟩)
  ·rw [if_neg h7, Int.toNat_natCast, rd_get l1 b hbl]
   refine .inr (.inr ⟨rfl, ?_⟩)
   have hP1 : l1.Pairwise P := hP.sublist hsub
   have hE1 : ∀ x ∈ l1, E x := fun x hx => hE x (hsub.subset hx)
   have hlb : l1[b] ∈ l1 := List.getElem_mem hbl
   have hin := (hkeep _).1 hlb
   have hu : l1[b] = ⟨4294967295, l1[b].f1⟩ := by
    rw [← hbu]
   have hEb := hE1 _ hlb
   have hperm := isort_perm (l1.set b ⟨first, l1[b].f1⟩)
   have hmem : ∀ z, z ∈ isort (l1.set b ⟨first, l1[b].f1⟩) → z = ⟨first, l1[b].f1⟩ ∨ (z ∈ l ∧ z.f0 ≠ first) := by
    intro z hz
    rcases List.mem_or_eq_of_mem_set (hperm.mem_iff.1 hz) with h | h
    ·exact .inr ((hkeep z).1 h)
    ·exact .inl h
   have hnew : (⟨first, l1[b].f1⟩ : S54) ∈ isort (l1.set b ⟨first, l1[b].f1⟩) := hperm.mem_iff.2 (List.mem_set hbl _)
   have hD1 : ∀ i j, (hi : i < l1.length) → (hj : j < l1.length) → i ≠ j → D l1[i] l1[j] := by
    intro i j hi hj hij
    rcases Nat.lt_or_ge i j with h | h
    ·exact (List.pairwise_iff_getElem.1 hP1 i j hi hj h).1
    ·exact D_symm (List.pairwise_iff_getElem.1 hP1 j i hj hi (by omega)).1
   have hDs : (l1.set b ⟨first, l1[b].f1⟩).Pairwise D := by
    rw [List.pairwise_iff_getElem]
    intro i j hi hj hij
    rw [List.length_set] at hi hj
    have hne : ∀ t, (ht : t < l1.length) → l1[t].f0 ≠ first := fun t ht => ((hkeep _).1 (List.getElem_mem ht)).2
    rw [List.getElem_set, List.getElem_set]
    by_cases e1 : b = i
    ·subst e1
     rw [if_pos rfl, if_neg (by omega)]
     have := hD1 b j hi hj (by omega)
     exact ⟨this.1, fun e => absurd e.symm (hne j hj)⟩
    ·rw [if_neg e1]
     by_cases e2 : b = j
     ·subst e2
      rw [if_pos rfl]
      have := hD1 i b hi hj (by omega)
      exact ⟨this.1, fun e => absurd e (hne i hi)⟩
     ·rw [if_neg e2]
      exact hD1 i j hi hj (by omega)
   have hDsort : (isort (l1.set b ⟨first, l1[b].f1⟩)).Pairwise D := (hperm.pairwise_iff (fun h => D_symm h)).2 hDs
   have hlen1 : (isort (l1.set b ⟨first, l1[b].f1⟩)).length = l1.length := by rw [hperm.length_eq]; simp
   have hll : l1.length ≤ l.length := hsub.length_le
   refine ⟨(validB_iff _ _).2 ⟨⟨by simp only; omega, by simp only; omega⟩, by simp only; omega, ?_, ?_⟩, rfl, by simp only; omega, ?_, hmem, hnew, ?_⟩
   ·intro x hx
    rcases hmem x hx with rfl | ⟨h, _⟩
    ·refine ⟨hEb.1, ⟨?_, ?_⟩, .inr hm2⟩
     ·exact hm3.2
     ·show first < _; omega
    ·exact hE x h
   ·refine (hDsort.and (isort_sorted _)).imp ?_
    rintro y x ⟨h1, h2⟩
    refine ⟨h1, ?_⟩
    unfold Le at h2
    rw [lt_false] at h2
    omega
   ·rw [← hu]; exact hin.1
   ·intro z hz hzf hzu
    refine hperm.mem_iff.2 ?_
    have hz1 := (hkeep z).2 ⟨hz, hzf⟩
    obtain ⟨t, ht, rfl⟩ := List.mem_iff_getElem.1 hz1
    refine List.mem_iff_getElem.2 ⟨t, by simpa using ht, ?_⟩
    rw [List.getElem_set, if_neg]
    rintro rfl
    exact hzu hbu

end Go.Proofs.YtdepicgdbealpaaGreatDoor.Spare
