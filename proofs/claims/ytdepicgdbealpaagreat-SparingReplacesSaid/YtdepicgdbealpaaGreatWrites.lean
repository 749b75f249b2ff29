/- masterdiscref39.Writes says that a list of writes is itself. -/
import Derived.Test.YtdepicgdbealpaaGreatRefR
import Derived.Test.YtdepicgdbealpaaGreatU2
namespace Go.Proofs.YtdepicgdbealpaaGreat.Enc
set_option linter.unusedVariables false
open Go.RowKit Go.Lib Go.Proofs.YtdepicgdbealpaaGreatW.PrintWords Go.Proofs.YtdepicgdbealpaaGreatW.PrintLast Go.Proofs.YtdepicgdbealpaaGreatW.PrintMore
open Go.Proofs.YtdepicgdbealpaaGreat Go.Proofs.YtdepicgdbealpaaGreat.V Go.Proofs.YtdepicgdbealpaaGreat.Spare

theorem wr_l0 (L : List S65) (hl : L.length ≤ 1000) (h1 : ∀ x ∈ L, x.f1.length ≤ 1) : ∀ (r i m : Nat), i + r = L.length → U.masterdiscref39_Writes.l0 (m + 10 + r + 1) L L i = some true
  | 0, i, m, h => by
    rw [U.masterdiscref39_Writes.l0, if_neg (by omega)]
  | r + 1, i, m, h => by
    have hi : i < L.length := by omega
    have hw : wrap64 ((i : Int) + 1) = ((i + 1 : Nat) : Int) := by rw [w64e _ (by omega)]; omega
    have hx := h1 _ (List.getElem_mem hi)
    rw [U.masterdiscref39_Writes.l0, if_pos (by omega), if_pos (by omega), if_pos (by omega), if_pos rfl, rd65 L i hi, hw, show m + 10 + (r + 1) = m + 10 + r + 1 by omega]
    rw [strs_K _ (by omega) (m + 10 + r + 1) (by omega), Option.bind_some, if_pos rfl, if_neg (by simp), if_neg (by simp)]
    exact wr_l0 L hl h1 r (i + 1) m (by omega)
theorem wr_K (L : List S65) (hl : L.length ≤ 1000) (h1 : ∀ x ∈ L, x.f1.length ≤ 1) (K : Nat) (hK : 2000 ≤ K) : U.masterdiscref39_Writes.f K L L = some true := by
  obtain ⟨m, rfl⟩ : ∃ m, K = m + 10 + L.length + 1 := ⟨K - (10 + L.length + 1), by omega⟩
  unfold U.masterdiscref39_Writes.f
  rw [if_pos rfl]
  exact wr_l0 L hl h1 L.length 0 m (by omega)

end Go.Proofs.YtdepicgdbealpaaGreat.Enc
