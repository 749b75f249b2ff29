/- The tied card of the law SparingSurvives: for every table, block, pair of locations and cut the call returns true and leaves its arguments as they were; the listed variables of unicode/utf8 lie as the program's text lays them (they are not read on this road). No further condition. -/
import Derived.Test.YtdepicgdbealpaaGreatDoorRowsCommon
import Derived.Test.YtdepicgdbealpaaGreatDoorSurv
namespace Go.Proofs.YtdepicgdbealpaaGreatDoor.sparingSurvives
open Go.ChangeShapes Go.WideShapes Go.ChangeAt Go.RowKit Go.Joins
open Go.ChangeMaps (open_string shut_string)
open Go.Proofs.YtdepicgdbealpaaGreatDoorW.PrintWords Go.Proofs.YtdepicgdbealpaaGreatDoorW.PrintLast Go.Proofs.YtdepicgdbealpaaGreatDoorW.PrintMore
open Go.Proofs.YtdepicgdbealpaaGreatDoor.V Go.Proofs.YtdepicgdbealpaaGreatDoor.rows
set_option linter.unusedVariables false
set_option maxRecDepth 100000 in
theorem open_two16 {H : Type} {enc : TypeId × Value → H} {w : World} {base b0 : Nat} {spare : Nat → Bool} {held : Bool} {r : Reach} {v : Value} {d : DataW H} {p : List MemPlace} (hv : Value.okWide Tryz.prog w r b0 36 v) (h : DataW.Trod enc Tryz.prog w base spare held 36 v d p) :
  ∃ a b, v = .agg #[.int .u16 a, .int .u16 b] ∧ (Lit.int .u16 a).wf = true ∧ (Lit.int .u16 b).wf = true := by
 unfold Value.okWide at hv
 rw [Tryz.underlying36] at hv
 obtain ⟨cs, rfl, hsz, _⟩ := hv
 have c36 : Tryz.prog.cellsOf 36 = 2 := by kernel_rfl
 have c35 : Tryz.prog.cellsOf 35 = 1 := by kernel_rfl
 obtain ⟨c0, c1, rfl⟩ := array2 (hsz.trans c36)
 obtain ⟨fuel, hf⟩ := h
 obtain ⟨xs, m, rfl, _, _, hn, hel⟩ := DataW.trod_array Tryz.underlying36 hf
 match xs, hn, hel with
 | [x0, x1], _, hel =>
  have h0 := hel 0 (by decide)
  have h1 := hel 1 (by decide)
  rw [c35] at h0 h1
  obtain ⟨n0, e0, _, w0⟩ := DataW.trod_int (cs := [c0]) Tryz.underlying35 h0
  obtain ⟨n1, e1, _, w1⟩ := DataW.trod_int (cs := [c1]) Tryz.underlying35 h1
  cases e0
  cases e1
  exact ⟨n0, n1, rfl, w0, w1⟩

set_option maxRecDepth 100000 in
theorem lifted (os : Os) (started : os.Started) (H : Type) (enc : TypeId × Value → H) :
  ReturnsInHanded {} Tryz.checked os 4 .any (fun w args => (Rows.sparingSurvivesSpec.pre enc Tryz.prog Tryz.f4 Rows.sparingSurvivesRow.domain false w args ∧ laidMetH Tryz.prog laidV w) ∧ sizedMet enc Tryz.prog Tryz.f4 (OpenSpec.ofChange Rows.sparingSurvivesSpec) false w args)
   (Rows.sparingSurvivesSpec.post enc Tryz.prog Tryz.f4 false true false false) := by
 refine returns_laid (C := Tryz.checked) (X := fun w _ => laidMetH Tryz.prog laidV w) (fun _ _ _ hh h => h.of_heap hh) own started (by kernel_rfl) Tryz.func4
  (ChangeSpec.witness_shaped (enc := enc) (C := Tryz.checked) (os := os) (X := fun w _ => laidMetH Tryz.prog laidV w) false (World.laidAll Tryz.prog os laidV) #[.agg #[.int .i64 0, .slice none 0 0], .int .i64 0, .agg #[.int .u16 0, .int .u16 0], .int .u8 0] 8 (World.laidAll_os _ _ _)
   (laid_shaped os _) (by kernel_rfl) (by kernel_rfl) (by kernel_rfl) (laid_met os _)) ?_
 intro W base args ds gs before hval0 hW hsz0 hL hsh
 have hval : ∀ (j : Nat) t v, Tryz.f4.params[j]? = some t → args[j]? = some v → Value.okWide Tryz.prog W .any base t v := hval0
 have hW' := hW
 obtain ⟨p, q, hA0, hV, rfl, hfz, hnd⟩ := hW
 have hA : DataW.TrodAll enc Tryz.prog W 0 (fun _ => true) true Tryz.f4.params.toList args.toList ds p := hA0
 rw [Tryz.params4] at hA hval
 obtain ⟨v0, vs0, d0, ds0, p0, q0, hargs, rfl, rfl, h0, r0⟩ := trodAll_cons hA
 obtain ⟨v1, vs1, d1, ds1, p1, q1, rfl, rfl, rfl, h1, r1⟩ := trodAll_cons r0
 obtain ⟨v2, vs2, d2, ds2, p2, q2, rfl, rfl, rfl, h2, r2⟩ := trodAll_cons r1
 obtain ⟨v3, vs3, d3, ds3, p3, q3, rfl, rfl, rfl, h3, r3⟩ := trodAll_cons r2
 obtain ⟨rfl, rfl, rfl⟩ := trodAll_nil r3
 obtain rfl : args = #[v0, v1, v2, v3] := by cases args; simp_all
 obtain ⟨rfl, rfl⟩ := trodVars_none hV
 have k0 := h0
 have k2 := h2
 have lt0 : ∀ x ∈ p0, x.block < W.heap.size := by obtain ⟨m, hm⟩ := k0; exact DataW.trod_lt m _ _ _ hm
 have lt2 : ∀ x ∈ p2, x.block < W.heap.size := by obtain ⟨m, hm⟩ := k2; exact DataW.trod_lt m _ _ _ hm
 obtain ⟨c2, c3, y2, y3, m1, rfl, e1, e1', hy2, hy3⟩ := open_agg2 Tryz.underlying24 (by kernel_rfl) cells24 (hval 0 24 v0 rfl rfl) h0
 obtain ⟨n2, f2, _, _⟩ := DataW.trod_int Tryz.underlying3 hy2
 obtain ⟨A, c, l, rfl, hlc, hlm, hC⟩ := open_spares hy3
 simp only [List.cons.injEq, and_true] at f2
 subst f2
 obtain ⟨a2, rfl, rfl, rfl, w3⟩ := open_int Tryz.underlying3 (hval 1 3 v1 rfl rfl) h1
 obtain ⟨xa, xb, rfl, wa, wb⟩ := open_two16 (hval 2 36 v2 rfl rfl) h2
 obtain ⟨a3, rfl, rfl, rfl, w4⟩ := open_int Tryz.underlying5 (hval 3 5 v3 rfl rfl) h3
 have b0 : 0 ≤ xa ∧ xa ≤ 65535 := by have := bounds_u16 wa; omega
 have b1 : 0 ≤ xb ∧ xb ≤ 65535 := by have := bounds_u16 wb; omega
 have b2 : 0 ≤ a3 ∧ a3 ≤ 255 := by have := bounds_u8 w4; omega
 obtain ⟨m, hm⟩ := maxLen_cell hsh
 clear hA0 hval0 hsz0
 refine (Enc.survives_calls n2 A c l a2 xa xb a3 m W hm hC hlc hlm b0.1 b0.2 b1.1 b1.2 b2.1 b2.2).mono fun e W' ⟨he, bel⟩ => ?_
 subst he
 exact ⟨_, rfl, _, _, _, [], _, [], hW', trodAll_mk1 (shut_bool Tryz.underlying4 _), (trodAll_cons_mk (Below.trod laidOut (by kernel_rfl) (of_decide_eq_true (by kernel_rfl)) k0 bel lt0) (trodAll_cons_mk (shut_int Tryz.underlying3 w3) (trodAll_cons_mk (Below.trod laidOut (by kernel_rfl) (of_decide_eq_true (by kernel_rfl)) k2 bel lt2) (trodAll_cons_mk (shut_int Tryz.underlying5 w4) trodAll_mk0)))), rfl, bel.frame _, fun h => by cases h⟩
theorem over : Rows.sparingSurvivesRow.holds Tryz.pinned (OpenSpec.ofChange Rows.sparingSurvivesSpec) :=
 OpenClaim.holds_of_wide 4 Tryz.f4 rfl rfl rfl rfl rfl rfl rfl ⟨rfl, rfl, rfl, rfl, rfl⟩ rfl rfl rfl rfl rfl (by kernel_rfl) Tryz.func4 (by kernel_rfl)
  (of_decide_eq_true (by kernel_rfl)) (by unfold Func.isWrapper; first | (rw [if_pos (by decide +kernel)]; kernel_rfl) | (rw [if_neg (by decide +kernel)]; exact ⟨rfl, rfl⟩))
  (fun os started H enc _ => lifted os started H enc)
theorem proved : Rows.SparingSurvivesCardSaid :=
 Claim7.holds_tied_plain_at .later [] [.data, .pinned] true (true, "9bee5ebece21651ef46ac00643da3a0461533b2cdb2d730c1e174c73e815d775") false
  over (fun _ h => by cases h) (by kernel_rfl) (fun _ h => by cases h) sparingSurvives_row_tie rfl ⟨rfl, rfl⟩ (by kernel_rfl) rfl
  (fun f fn hf hfn => by
   obtain rfl : f = 4 := Option.some.inj ((show Tryz.prog.funcNamed "masterdisc/masterdisclaw39.SparingSurvives" = some 4 by kernel_rfl).symm.trans hf) |>.symm
   obtain rfl : fn = Tryz.f4 := (Option.some.inj (Tryz.func4.symm.trans hfn)).symm
   exact ⟨by kernel_rfl, fun j t ht => by
    rw [Tryz.params4] at ht
    have hm : t ∈ [24, 3, 36, 5] := by simpa using Array.mem_of_getElem? ht
    have hall : ([24, 3, 36, 5].all fun u => !Tryz.prog.wantsStandIn u) = true := by kernel_rfl
    exact (show Tryz.prog.wantsStandIn t = false by simpa using List.all_eq_true.1 hall t hm)⟩)
  (by kernel_rfl)
#print axioms proved
end Go.Proofs.YtdepicgdbealpaaGreatDoor.sparingSurvives
namespace Go.Proofs.YtdepicgdbealpaaGreatDoor
/-- The card, under a short name, for the claim. -/
theorem sparingSurvives_holds : Rows.SparingSurvivesCardSaid := sparingSurvives.proved
end Go.Proofs.YtdepicgdbealpaaGreatDoor
