/- Proved here: the plain statement to which the law ScramblerSectors comes, for every string. -/
import Derived.Test.YtificcmcddcijaaHz1
namespace Go.Proofs.Ytificcmcddcijaa.Pure
open Go.RowKit Go.Proofs.Ytificcmcddcijaa.Hz Go.Proofs.YtificcmcddcijaaW.PrintWords Go.Proofs.YtificcmcddcijaaW.PrintLast

theorem awakeZ : masterdisclaw05_awake.f = some true := by decide +kernel
theorem scramble_some (a0 : ByteArray) : ∃ r, Ext.scrambler_Scramble.f a0 = some r := by
  unfold Ext.scrambler_Scramble.f
  split
  · exact ⟨_, rfl⟩
  · exact ⟨_, rfl⟩
theorem ScramblerSectors : masterdisclaw05_ScramblerSectors.Pure := by
  intro a0 _
  obtain ⟨r, hr⟩ := scramble_some a0
  unfold masterdisclaw05_ScramblerSectors.f
  rw [awakeZ, Option.bind_some, if_pos rfl]
  split
  · rfl
  · have hr2 : Ext.masterdiscref05_Scramble.f a0 = some r := hr
    rw [hr, Option.bind_some, hr2, Option.bind_some, if_pos rfl, beq_self_eq_true]
end Go.Proofs.Ytificcmcddcijaa.Pure
