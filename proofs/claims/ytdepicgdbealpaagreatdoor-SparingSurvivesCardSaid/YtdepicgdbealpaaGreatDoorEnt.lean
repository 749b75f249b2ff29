/- udfstring.ParseEntity at the table's identifier. -/
import Derived.Test.YtdepicgdbealpaaGreatDoorIs
import Derived.Test.YtdepicgdbealpaaGreatDoorEncC
namespace Go.Proofs.YtdepicgdbealpaaGreatDoor.Enc
set_option linter.unusedVariables false
set_option linter.unusedSimpArgs false
open Go.RowKit Go.Lib Go.Proofs.YtdepicgdbealpaaGreatDoorW.PrintWords Go.Proofs.YtdepicgdbealpaaGreatDoorW.PrintLast Go.Proofs.YtdepicgdbealpaaGreatDoorW.PrintMore
open Go.Proofs.YtdepicgdbealpaaGreatDoor Go.Proofs.YtdepicgdbealpaaGreatDoor.V Go.Proofs.YtdepicgdbealpaaGreatDoor.Spare

theorem cut_E0 : Lib.cut (E0.extract 1 24).data.toList [0] = (ident.data.toList, [0, 0, 0, 0], true) := by decide +kernel
theorem trim_E0 : Lib.trimB (E0.extract 19 24).data.toList 0 = [] := by decide +kernel
theorem prn_E0 : printableB ident = true := by decide +kernel

set_option maxHeartbeats 4000000 in
set_option maxRecDepth 100000 in
theorem entity_read (m : Int) (w : World) (hm : w.cell? ⟨0, 0, none⟩ = some (.int .i64 m)) :
  Calls Tryz.prog 26 #[.string E0] w fun e w' => ∃ x, e = .returned (.tuple #[.string ident, .string x, .int .i64 0]) ∧ Below w.heap.size w w' := by
 have HP := fun W => printable_calls ident (by decide) W
 rw [prn_E0] at HP
 have h32 := E0_ok.2
 have HC := fun W hm => Tryz.strings_Cut (E0.extract 1 24) ⟨#[0]⟩ m W (by rw [ByteArray.size_extract, h32]; decide) hm
 have HT := fun W => Tryz.strings_Trim_one (E0.extract 19 24) 0 (by decide) W (by rw [ByteArray.size_extract, h32]; decide)
 have hcut := cut_E0
 have htrim := trim_E0
 simp only [show (⟨#[0]⟩ : ByteArray).data.toList = [0] from rfl] at HC
 rw [hcut] at HC
 rw [htrim] at HT
 simp only [show (⟨ident.data.toList.toArray⟩ : ByteArray) = ident from rfl] at HC
 have hi18 : ident.size = 18 := rfl
 have hle : (24 : Int) ≤ (E0.size : Int) := by rw [h32]; decide
 have hs1 : ∀ W, (Instr.slice 9 (.string E0) (some (.int .i64 1)) (some (.int .i64 24)) none).run Tryz.prog W = .ok (.string (E0.extract 1 24)) W := fun W => run_slice_string W 9 E0 .i64 .i64 1 24 Tryz.underlying9 (by omega) (by omega) hle
 have hs2 : ∀ W, (Instr.slice 9 (.string E0) (some (.int .i64 19)) (some (.int .i64 24)) none).run Tryz.prog W = .ok (.string (E0.extract 19 24)) W := fun W => run_slice_string W 9 E0 .i64 .i64 19 24 Tryz.underlying9 (by omega) (by omega) hle
 have h32b : ((E0.size : Int) != 32) = false := by rw [h32]; rfl
 generalize E0.extract 1 24 = x1 at *
 generalize E0.extract 19 24 = x2 at *
 clear hcut htrim
 generalize E0 = e0 at *
 generalize ident = id0 at *
 go_enter Tryz.func26, Tryz.ntmps26
 go_wp2_with (first | (go_at_call 43; refine (HC _ hm).mono ?_; rintro e w1 ⟨rfl, n1, rfl⟩) | (go_at_call 33; refine (HP _).mono ?_; rintro e w2 ⟨rfl, hb2⟩) | (go_at_call 44; refine (HT _).mono ?_; rintro e w3 ⟨rfl, hb3⟩))
 have HB : Aside0 (Below w.heap.size w w3) := ⟨by
  have h2 : Below w.heap.size w w2 := below_step (pw_below_drewN (Below.refl _ w) n1) hb2
  rcases hb3 with rfl | rfl
  ·exact h2
  ·exact h2.drew⟩
 clear hb3 hb2
 refine start_ (n := 6) (S := fun w' => True) (ds := []) #[false, false, false, false, false, false] (by kernel_rfl) rfl rfl trivial (fun hHeld => ?_)
 refine pure_ (i := 0) (N := some 30) (v := ?_) (a' := ?_) #[true, false, false, false, false, false] rfl rfl (by kernel_rfl) (fun _ _ _ h => h) (Or.inl ⟨by rfl, ?_⟩) ?_ ?_
 rotate_left
 ·intro w'
  go_simp
  with_reducible rfl
 rotate_left
 ·simp only [Act.put, List.setIfInBounds_toArray, List.set_cons_zero, List.set_cons_succ, i64_w, i32_w]
  rfl
 refine pure_ (i := 1) (N := some 31) (v := ?_) (a' := ?_) #[true, true, false, false, false, false] rfl rfl (by kernel_rfl) (fun _ _ _ h => h) (Or.inl ⟨by rfl, ?_⟩) ?_ ?_
 rotate_left
 ·intro w'
  go_simp
  with_reducible rfl
 rotate_left
 ·simp only [Act.put, List.setIfInBounds_toArray, List.set_cons_zero, List.set_cons_succ, i64_w, i32_w]
  rfl
 refine pure_ (i := 2) (N := some 32) (v := ?_) (a' := ?_) #[true, true, true, false, false, false] rfl rfl (by kernel_rfl) (fun _ _ _ h => h) (Or.inl ⟨by rfl, ?_⟩) ?_ ?_
 rotate_left
 ·intro w'
  go_simp
  with_reducible rfl
 rotate_left
 ·simp only [Act.put, List.setIfInBounds_toArray, List.set_cons_zero, List.set_cons_succ, i64_w, i32_w]
  rfl
 refine pure_ (i := 3) (N := some 2) (v := ?_) (a' := ?_) #[true, true, true, true, false, false] rfl rfl (by kernel_rfl) (fun _ _ _ h => h) (Or.inl ⟨by rfl, ?_⟩) ?_ ?_
 rotate_left
 ·intro w'
  go_simp
  with_reducible rfl
 rotate_left
 ·simp only [Act.put, List.setIfInBounds_toArray, List.set_cons_zero, List.set_cons_succ, i64_w, i32_w]
  rfl
 refine pure_ (i := 4) (N := some 3) (v := ?_) (a' := ?_) #[true, true, true, true, true, false] rfl rfl (by kernel_rfl) (fun _ _ _ h => h) (Or.inl ⟨by rfl, ?_⟩) ?_ ?_
 rotate_left
 ·intro w'
  go_simp
  with_reducible rfl
 rotate_left
 ·simp only [Act.put, List.setIfInBounds_toArray, List.set_cons_zero, List.set_cons_succ, i64_w, i32_w]
  rfl
 refine pure_ (i := 5) (N := some 4) (v := ?_) (a' := ?_) #[true, true, true, true, true, true] rfl rfl (by kernel_rfl) (fun _ _ _ h => h) (Or.inl ⟨by rfl, ?_⟩) ?_ ?_
 rotate_left
 ·intro w'
  go_simp
  with_reducible rfl
 rotate_left
 ·simp only [Act.put, List.setIfInBounds_toArray, List.set_cons_zero, List.set_cons_succ, i64_w, i32_w]
  rfl
 refine done_ (by kernel_rfl) ?_
 go_wp2
 go_ret3
 exact ⟨_, rfl, HB.out.drew⟩

end Go.Proofs.YtdepicgdbealpaaGreatDoor.Enc
