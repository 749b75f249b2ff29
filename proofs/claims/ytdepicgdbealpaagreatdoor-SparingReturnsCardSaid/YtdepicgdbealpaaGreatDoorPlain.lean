/- Plain facts on sparing tables. -/
import Derived.Test.YtdepicgdbealpaaGreatDoorSpareD
import Derived.Test.YtdepicgdbealpaaGreatDoorClosed
namespace Go.Proofs.YtdepicgdbealpaaGreatDoor.Spare
set_option linter.unusedVariables false
set_option linter.unusedSimpArgs false
open Go.RowKit Go.Proofs.YtdepicgdbealpaaGreatDoorW.PrintWords Go.Proofs.YtdepicgdbealpaaGreatDoorW.PrintLast Go.Proofs.YtdepicgdbealpaaGreatDoorW.PrintMore
open Go.Proofs.YtdepicgdbealpaaGreatDoor.V

def E (x : S54) : Prop := (0 ≤ x.f1 ∧ x.f1 < 4294967296) ∧ (0 ≤ x.f0 ∧ x.f0 < 4294967296) ∧ (x.f0 = 4294967295 ∨ Int.tmod x.f0 8 = 0)
/-- What holds of two entries whichever stands first. -/
def D (y x : S54) : Prop := (8 ≤ x.f1 - y.f1 ∨ 8 ≤ y.f1 - x.f1) ∧ (y.f0 = x.f0 → x.f0 = 4294967295)
def P (y x : S54) : Prop := D y x ∧ y.f0 ≤ x.f0

theorem okE_iff (x : S54) : okE x = true ↔ E x := by
 unfold okE wordB E
 simp only [Bool.and_eq_true, Bool.or_eq_true, decide_eq_true_eq, and_assoc]

theorem okP_iff {y x : S54} (hy : E y) (hx : E x) : okP y x = true ↔ P y x := by
 unfold E at hy hx
 unfold okP P D
 rw [w64 _ (by omega), w64 _ (by omega)]
 rw [Decidable.imp_iff_not_or]
 simp only [Bool.and_eq_true, Bool.or_eq_true, Bool.not_eq_true', decide_eq_false_iff_not, decide_eq_true_eq, mx]
 split <;> (simp only [decide_eq_false_iff_not]; omega)

theorem innerB_iff (l : List S54) (x : S54) : ∀ d j, innerB l x j d = true ↔ ∀ t, j ≤ t → t < j + d → okP (rd_T54 l t) x = true
 | 0, j => by simp [innerB]; intro t h1 h2; omega
 | d + 1, j => by
  unfold innerB
  rw [Bool.and_eq_true, innerB_iff l x d (j + 1)]
  refine ⟨fun h t h1 h2 => ?_, fun h => ⟨h j (Nat.le_refl _) (by omega), fun t h1 h2 => h t (by omega) (by omega)⟩⟩
  by_cases e : t = j
  ·rw [e]; exact h.1
  ·exact h.2 t (by omega) (by omega)

theorem outerB_iff (l : List S54) : ∀ r i, outerB l i r = true ↔ ∀ t, i ≤ t → t < i + r → okE (rd_T54 l t) = true ∧ ∀ q, q < t → okP (rd_T54 l q) (rd_T54 l t) = true
 | 0, i => by simp [outerB]; intro t h1 h2; omega
 | r + 1, i => by
  unfold outerB
  rw [Bool.and_eq_true, Bool.and_eq_true, innerB_iff, outerB_iff l r (i + 1)]
  refine ⟨fun h t h1 h2 => ?_, fun h => ⟨⟨(h i (Nat.le_refl _) (by omega)).1, fun t _ h2 => (h i (Nat.le_refl _) (by omega)).2 t (by omega)⟩, fun t h1 h2 => h t (by omega) (by omega)⟩⟩
  by_cases e : t = i
  ·rw [e]; exact ⟨h.1.1, fun q hq => h.1.2 q (Nat.zero_le _) (by omega)⟩
  ·exact h.2 t (by omega) (by omega)

theorem validB_iff (s : Int) (l : List S54) : validB s l = true ↔ (0 ≤ s ∧ s < 4294967296) ∧ l.length ≤ 8 ∧ (∀ x ∈ l, E x) ∧ l.Pairwise P := by
 unfold validB wordB
 rw [Bool.and_eq_true, Bool.and_eq_true, Bool.and_eq_true, decide_eq_true_eq, decide_eq_true_eq, decide_eq_true_eq, outerB_iff, and_assoc]
 refine and_congr_right fun _ => and_congr_right fun _ => ?_
 constructor
 ·intro h
  have hE : ∀ x ∈ l, E x := by
   intro x hx
   obtain ⟨t, ht, rfl⟩ := List.mem_iff_getElem.1 hx
   have := (h t (Nat.zero_le _) (by omega)).1
   rw [rd_get l t ht, okE_iff] at this
   exact this
  refine ⟨hE, List.pairwise_iff_getElem.2 fun i j hi hj hij => ?_⟩
  have := (h j (Nat.zero_le _) (by omega)).2 i hij
  rw [rd_get l i hi, rd_get l j hj, okP_iff (hE _ (List.getElem_mem _)) (hE _ (List.getElem_mem _))] at this
  exact this
 ·rintro ⟨hE, hP⟩ t _ ht
  have ht' : t < l.length := by omega
  refine ⟨by rw [rd_get l t ht', okE_iff]; exact hE _ (List.getElem_mem _), fun q hq => ?_⟩
  rw [rd_get l t ht', rd_get l q (by omega), okP_iff (hE _ (List.getElem_mem _)) (hE _ (List.getElem_mem _))]
  exact List.pairwise_iff_getElem.1 hP q t (by omega) ht' hq

/-! ### what best finds -/
/-! ### Replace on a valid table -/
end Go.Proofs.YtdepicgdbealpaaGreatDoor.Spare
