/- The tied card of the law SparingReturns: for every table and location the call returns true and leaves its arguments as they were; the listed variables of unicode/utf8 lie as the program's text lays them (they are not read on this road). No further condition. -/
import Derived.Test.YtdepicgdbealpaaGreatDoorRowsCommon
import Derived.Test.YtdepicgdbealpaaGreatDoorReturns
namespace Go.Proofs.YtdepicgdbealpaaGreatDoor.sparingReturns
open Go.ChangeShapes Go.WideShapes Go.ChangeAt Go.RowKit Go.Joins
open Go.ChangeMaps (open_string shut_string)
open Go.Proofs.YtdepicgdbealpaaGreatDoorW.PrintWords Go.Proofs.YtdepicgdbealpaaGreatDoorW.PrintLast Go.Proofs.YtdepicgdbealpaaGreatDoorW.PrintMore
open Go.Proofs.YtdepicgdbealpaaGreatDoor.V Go.Proofs.YtdepicgdbealpaaGreatDoor.rows
set_option linter.unusedVariables false
set_option maxRecDepth 100000 in
theorem lifted (os : Os) (started : os.Started) (H : Type) (enc : TypeId × Value → H) :
  ReturnsInHanded {} Tryz.checked os 3 .any (fun w args => (Rows.sparingReturnsSpec.pre enc Tryz.prog Tryz.f3 Rows.sparingReturnsRow.domain false w args ∧ laidMetH Tryz.prog laidV w) ∧ sizedMet enc Tryz.prog Tryz.f3 (OpenSpec.ofChange Rows.sparingReturnsSpec) false w args)
   (Rows.sparingReturnsSpec.post enc Tryz.prog Tryz.f3 false true false false) := by
 refine returns_laid (C := Tryz.checked) (X := fun w _ => laidMetH Tryz.prog laidV w) (fun _ _ _ hh h => h.of_heap hh) own started (by kernel_rfl) Tryz.func3
  (ChangeSpec.witness_shaped (enc := enc) (C := Tryz.checked) (os := os) (X := fun w _ => laidMetH Tryz.prog laidV w) false (World.laidAll Tryz.prog os laidV) #[.agg #[.int .i64 0, .slice none 0 0], .int .i64 0] 8 (World.laidAll_os _ _ _)
   (laid_shaped os _) (by kernel_rfl) (by kernel_rfl) (by kernel_rfl) (laid_met os _)) ?_
 intro W base args ds gs before hval0 hW hsz0 hL hsh
 have hval : ∀ (j : Nat) t v, Tryz.f3.params[j]? = some t → args[j]? = some v → Value.okWide Tryz.prog W .any base t v := hval0
 have hW' := hW
 obtain ⟨p, q, hA0, hV, rfl, hfz, hnd⟩ := hW
 have hA : DataW.TrodAll enc Tryz.prog W 0 (fun _ => true) true Tryz.f3.params.toList args.toList ds p := hA0
 rw [Tryz.params3] at hA hval
 obtain ⟨v0, vs0, d0, ds0, p0, q0, hargs, rfl, rfl, h0, r0⟩ := trodAll_cons hA
 obtain ⟨v1, vs1, d1, ds1, p1, q1, rfl, rfl, rfl, h1, r1⟩ := trodAll_cons r0
 obtain ⟨rfl, rfl, rfl⟩ := trodAll_nil r1
 obtain rfl : args = #[v0, v1] := by cases args; simp_all
 obtain ⟨rfl, rfl⟩ := trodVars_none hV
 have k0 := h0
 have lt0 : ∀ x ∈ p0, x.block < W.heap.size := by obtain ⟨m, hm⟩ := k0; exact DataW.trod_lt m _ _ _ hm
 obtain ⟨c2, c3, y2, y3, m1, rfl, e1, e1', hy2, hy3⟩ := open_agg2 Tryz.underlying24 (by kernel_rfl) cells24 (hval 0 24 v0 rfl rfl) h0
 obtain ⟨n2, f2, _, _⟩ := DataW.trod_int Tryz.underlying3 hy2
 obtain ⟨A, c, l, rfl, hlc, hlm, hC⟩ := open_spares hy3
 simp only [List.cons.injEq, and_true] at f2
 subst f2
 obtain ⟨a2, rfl, rfl, rfl, w3⟩ := open_int Tryz.underlying3 (hval 1 3 v1 rfl rfl) h1
 obtain ⟨m, hm⟩ := maxLen_cell hsh
 clear hA0 hval0 hsz0
 refine (Enc.returns_calls n2 A c l a2 m W hm hC hlc hlm).mono fun e W' ⟨he, bel⟩ => ?_
 subst he
 exact ⟨_, rfl, _, _, _, [], _, [], hW', trodAll_mk1 (shut_bool Tryz.underlying4 _), (trodAll_cons_mk (Below.trod laidOut (by kernel_rfl) (of_decide_eq_true (by kernel_rfl)) k0 bel lt0) (trodAll_cons_mk (shut_int Tryz.underlying3 w3) trodAll_mk0)), rfl, bel.frame _, fun h => by cases h⟩
theorem over : Rows.sparingReturnsRow.holds Tryz.pinned (OpenSpec.ofChange Rows.sparingReturnsSpec) :=
 OpenClaim.holds_of_wide 3 Tryz.f3 rfl rfl rfl rfl rfl rfl rfl ⟨rfl, rfl, rfl, rfl, rfl⟩ rfl rfl rfl rfl rfl (by kernel_rfl) Tryz.func3 (by kernel_rfl)
  (of_decide_eq_true (by kernel_rfl)) (by unfold Func.isWrapper; first | (rw [if_pos (by decide +kernel)]; kernel_rfl) | (rw [if_neg (by decide +kernel)]; exact ⟨rfl, rfl⟩))
  (fun os started H enc _ => lifted os started H enc)
theorem proved : Rows.SparingReturnsCardSaid :=
 Claim7.holds_tied_plain_at .later [] [.data, .pinned] true (true, "9bee5ebece21651ef46ac00643da3a0461533b2cdb2d730c1e174c73e815d775") false
  over (fun _ h => by cases h) (by kernel_rfl) (fun _ h => by cases h) sparingReturns_row_tie rfl ⟨rfl, rfl⟩ (by kernel_rfl) rfl
  (fun f fn hf hfn => by
   obtain rfl : f = 3 := Option.some.inj ((show Tryz.prog.funcNamed "masterdisc/masterdisclaw39.SparingReturns" = some 3 by kernel_rfl).symm.trans hf) |>.symm
   obtain rfl : fn = Tryz.f3 := (Option.some.inj (Tryz.func3.symm.trans hfn)).symm
   exact ⟨by kernel_rfl, fun j t ht => by
    rw [Tryz.params3] at ht
    have hm : t ∈ [24, 3] := by simpa using Array.mem_of_getElem? ht
    have hall : ([24, 3].all fun u => !Tryz.prog.wantsStandIn u) = true := by kernel_rfl
    exact (show Tryz.prog.wantsStandIn t = false by simpa using List.all_eq_true.1 hall t hm)⟩)
  (by kernel_rfl)
#print axioms proved
end Go.Proofs.YtdepicgdbealpaaGreatDoor.sparingReturns
namespace Go.Proofs.YtdepicgdbealpaaGreatDoor
/-- The card, under a short name, for the claim. -/
theorem sparingReturns_holds : Rows.SparingReturnsCardSaid := sparingReturns.proved
end Go.Proofs.YtdepicgdbealpaaGreatDoor
