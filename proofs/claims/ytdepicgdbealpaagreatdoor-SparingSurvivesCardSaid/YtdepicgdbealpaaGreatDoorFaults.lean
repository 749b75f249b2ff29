/- udftag.Faults. -/
import Derived.Test.YtdepicgdbealpaaGreatDoorAdd
import Derived.Test.YtdepicgdbealpaaGreatDoorBlk
import Derived.Deep.CutBlock
namespace Go.Proofs.YtdepicgdbealpaaGreatDoor.Enc
set_option linter.unusedVariables false
set_option linter.unusedSimpArgs false
open Go.RowKit Go.Lib Go.Proofs.YtdepicgdbealpaaGreatDoorW.PrintWords Go.Proofs.YtdepicgdbealpaaGreatDoorW.PrintLast Go.Proofs.YtdepicgdbealpaaGreatDoorW.PrintMore
open Go.Proofs.YtdepicgdbealpaaGreatDoor Go.Proofs.YtdepicgdbealpaaGreatDoor.V Go.Proofs.YtdepicgdbealpaaGreatDoor.Spare

section
variable {P : Program} {ops : Array Oper} {Q : Exit → Act → World → Prop}
/-- A closure's call in a drawn region. -/
theorem goesC_ {oi : Oper} {N : Option Tmp} {a : Act} {w : World} {K : Act → World → Prop} {f : FuncId} {fn : Func} {o : Operand} {ar : Array Operand} {ts : Array TypeId} (hf : P.funcs[f]? = some fn) (hname : (fn.name == "runtime.NumGoroutine") = false) (hb : fn.body.isSome = true) (caps args : Array Value)
  (hw : Region.wanted oi (yielded ops a.tmps) = true) (hN : oi.dst = N) (hop : oi.op = .call { callee := .value o, args := ar, argTypes := ts }) (hv : a.eval o = .func (.func f) #[] caps) (hargs : ar.map a.eval ++ caps = args)
  (h : Calls P f args w fun e w' => ∃ v, e = .returned v ∧ K (a.put N v) w') : if Region.wanted oi (yielded ops a.tmps) = true then Oper.wp P oi a w K Q else K (a.put N undef) w := by
 refine call_ f args hw hN ?_ h
 have he := enters_ hf hname hb args w
 unfold execOp
 simp [hop, resolve, Deferred.ofValue, invoke, hv, hargs, he]
end

def fstep (b : Bool) (f : Int) (o : List Int) : List Int := if b = true then o ++ [f] else o
theorem fstep_len (b : Bool) (f : Int) (o : List Int) : (fstep b f o).length ≤ o.length + 1 := by
 unfold fstep
 split <;> simp
theorem rl_f (s : ByteArray) (a n : Nat) (h : 1 ≤ n ∧ n ≤ 7) (ha : a + n ≤ s.size) (hz : s.size ≤ 1000000) : U.udftag_read.f s a n = some ((rdN s a n : Nat) : Int) := by
 unfold U.udftag_read.f ReadLittle.f
 rw [if_pos ⟨by omega, by omega, by omega, by omega, by omega⟩, Option.bind_some, Int.toNat_natCast, Int.toNat_natCast]
theorem values_f (s : ByteArray) (h16 : 16 ≤ s.size) (hz : s.size ≤ 1000000) : U.udftag_values.f s = some (((rdN s 0 2 : Nat) : Int), ((rdN s 6 2 : Nat) : Int), ((rdN s 10 2 : Nat) : Int), ((rdN s 12 4 : Nat) : Int)) := by
 have h0 := rl_f s 0 2 (by omega) (by omega) hz
 have h1 := rl_f s 6 2 (by omega) (by omega) hz
 have h2 := rl_f s 10 2 (by omega) (by omega) hz
 have h3 := rl_f s 12 4 (by omega) (by omega) hz
 unfold U.udftag_values.f
 rw [show U.udftag_read.f s 0 2 = _ from h0, Option.bind_some, show U.udftag_read.f s 6 2 = _ from h1, Option.bind_some, show U.udftag_read.f s 10 2 = _ from h2, Option.bind_some, show U.udftag_read.f s 12 4 = _ from h3, Option.bind_some]
theorem sum_f16 (t : ByteArray) (ht : 16 ≤ t.size) (m : Nat) : udftag_sum.f (m + 16) t = some (sumT t) := by
 have hz : (t.extract 0 4 ++ t.extract 5 16).size = 15 := by rw [ByteArray.size_append, ByteArray.size_extract, ByteArray.size_extract]; omega
 have h1 := sum_l0 (t.extract 0 4 ++ t.extract 5 16) (by omega) 15 0 m (by omega)
 rw [hz] at h1
 have hc : (t.extract 0 4).size + (t.extract 5 16).size ≤ 9223372036854775807 := by rw [← ByteArray.size_append, hz]; decide
 unfold udftag_sum.f checksum_Sum8.f
 rw [if_pos (by decide), if_pos (by omega), if_pos (by decide), if_pos (by omega), if_pos hc, hz]
 rw [show checksum_Sum8.l0 (m + 16) (t.extract 0 4 ++ t.extract 5 16) 0 ((15 : Nat) : Int) 0 = _ from h1]
 rfl

/-- The faults of a string of at least 16 bytes. -/
def faultsF (s : ByteArray) (loc : Int) : List Int :=
 fstep (((rdN s 12 4 : Nat) : Int) != loc) 6 (
  if rdN s 10 2 > s.size - 16 then fstep true 4 (fstep ((((rdN s 2 2 : Nat) : Int) != 2) && (((rdN s 2 2 : Nat) : Int) != 3)) 3 (fstep (bt s 4 != sumT s) 2 []))
  else fstep (((rdN s 8 2 : Nat) : Int) != crcI (s.extract 16 (16 + rdN s 10 2))) 5 (fstep ((((rdN s 2 2 : Nat) : Int) != 2) && (((rdN s 2 2 : Nat) : Int) != 3)) 3 (fstep (bt s 4 != sumT s) 2 [])))

set_option maxHeartbeats 4000000 in
set_option maxRecDepth 100000 in
theorem faults_calls (s : ByteArray) (loc : Int) (w : World) (h16 : 16 ≤ s.size) (hz : s.size ≤ 1000000) :
  Calls Tryz.prog 40 #[.string s, .int .i64 loc] w fun e w' => ∃ v, e = .returned v ∧ Kd.R (Kd.int .i64) 3 w' w.heap.size (fun _ => True) v (faultsF s loc) ∧ Below w.heap.size w w' := by
 have hu83 := Tryz.underlying83
 have hu37 := Tryz.underlying37
 have hd16 : decide ((s.size : Int) < 16) = false := decide_eq_false (by omega)
 have HV := fun W => U.udftag_values.calls s _ _ _ _ W (values_f s h16 hz)
 have HR2 := fun W => U.udftag_read.calls s 2 2 _ W (rl_f s 2 2 (by omega) (by omega) hz)
 have HSM := fun W => udftag_sum.calls 16 s _ W (sum_f16 s h16 0)
 go_enter Tryz.func40, Tryz.ntmps40
 go_wp2_with (first | (go_at_call 41; refine (HV _).mono ?_; rintro e w1 ⟨rfl, hb1⟩) | (go_at_call 66; refine (HR2 _).mono ?_; rintro e w2 ⟨rfl, hb2⟩) | fail)
 -- REGION 7
 have hb12 := below_alloc (below_step (below_alloc (Below.refl _ w) (.cells #[.slice none 0 0] 37)) hb1) (.cells #[.int .i64 ((rdN s 0 2 : Nat) : Int), .int .i64 ((rdN s 6 2 : Nat) : Int), .int .i64 ((rdN s 10 2 : Nat) : Int), .int .i64 ((rdN s 12 4 : Nat) : Int)] 83)
 have HB := Aside0.mk (below_step hb12 hb2)
 have HT := Aside0.mk (blk_below (blk_new w1 (.cells #[.int .i64 ((rdN s 0 2 : Nat) : Int), .int .i64 ((rdN s 6 2 : Nat) : Int), .int .i64 ((rdN s 10 2 : Nat) : Int), .int .i64 ((rdN s 12 4 : Nat) : Int)] 83)) hb2)
 have HO : Aside0 (Outs w.heap.size w.heap.size w2 []) := ⟨⟨.slice none 0 0, blk_below (blk_alloc (blk_below (blk_new w (.cells #[.slice none 0 0] 37)) hb1) _) hb2, Kd.R_nil _ _ _ _ _⟩⟩
 have HL : Aside0 (w.heap.size < w1.heap.size) := ⟨blk_lt (blk_below (blk_new w (.cells #[.slice none 0 0] 37)) hb1)⟩
 clear hb12 hb1 hb2 HV HR2
 generalize w1.heap.size = tb at HT HL ⊢
 have HX := Aside0.mk (fun W => HSM W)
 clear HSM
 have h4 : (4 : Int) < (s.size : Int) := by omega
 have HB4 : Aside0 (∀ h, (((s[4]'h).toNat : Nat) : Int) = bt s 4) := ⟨fun h => by unfold bt; rw [dif_pos (show ((4 : Int).toNat) < s.size from h)]; rfl⟩
 refine start_ (n := 7) (S := fun w' => True) (ds := []) #[false, false, false, false, false, false, false] (by kernel_rfl) rfl rfl trivial (fun hHeld => ?_)
 refine pure_ (i := 0) (N := some 18) (v := ?_) (a' := ?_) #[true, false, false, false, false, false, false] rfl rfl (by kernel_rfl) (fun _ _ _ h => h) (Or.inl ⟨by rfl, ?_⟩) ?_ ?_
 rotate_left
 ·intro w'
  go_simp
  with_reducible rfl
 rotate_left
 ·simp only [Act.put, List.setIfInBounds_toArray, List.set_cons_zero, List.set_cons_succ, i64_w, i32_w]
  rfl
 refine pure_ (i := 1) (N := some 19) (v := ?_) (a' := ?_) #[true, true, false, false, false, false, false] rfl rfl (by kernel_rfl) (fun _ _ _ h => h) (Or.inl ⟨by rfl, ?_⟩) ?_ ?_
 rotate_left
 ·intro w'
  go_simp
  with_reducible rfl
 rotate_left
 ·simp only [Act.put, List.setIfInBounds_toArray, List.set_cons_zero, List.set_cons_succ, i64_w, i32_w]
  rfl
 refine pure_ (i := 2) (N := some 20) (v := ?_) (a' := ?_) #[true, true, true, false, false, false, false] rfl rfl (by kernel_rfl) (fun _ _ _ h => h) (Or.inl ⟨by rfl, ?_⟩) ?_ ?_
 rotate_left
 ·intro w'
  go_simp
  rw [HB4.out]
 rotate_left
 ·simp only [Act.put, List.setIfInBounds_toArray, List.set_cons_zero, List.set_cons_succ, i64_w, i32_w]
  rfl
 refine pure_ (i := 3) (N := some 21) (v := ?_) (a' := ?_) #[true, true, true, true, false, false, false] rfl rfl (by kernel_rfl) (fun _ _ _ h => h) (Or.inl ⟨by rfl, ?_⟩) ?_ ?_
 rotate_left
 ·intro w'
  go_simp
  with_reducible rfl
 rotate_left
 ·simp only [Act.put, List.setIfInBounds_toArray, List.set_cons_zero, List.set_cons_succ, i64_w, i32_w]
  rfl
 refine one_ (i := 4) (N := some 22) #[true, true, true, true, true, false, false] rfl rfl (by kernel_rfl) (by decide) (fun K hK => ?_)
 refine goes_ Tryz.func67 (by kernel_rfl) rfl #[.string s] (by rfl) rfl rfl (by (try simp only [List.map_toArray, List.map_cons, List.map_nil]); first | done | rfl) ?_
 with_reducible refine (HX.out _).mono ?_
 rintro e w3 ⟨rfl, hb3⟩
 have HB3 := Aside0.mk (below_step HB.out.drew hb3.below)
 have HO3 := Aside0.mk (HO.out.below (Below.drew (Below.refl _ _) : Below w2.heap.size w2 w2.drew) |>.below hb3.below)
 have HT3 := Aside0.mk (blk_below (blk_drew HT.out) hb3.below)
 clear HB HO HT hb3 HX h4 HB4
 refine ⟨_, rfl, ?_⟩
 refine hK.out _ _ trivial (fun hHeld => ?_)
 clear hK K
 refine norm_ (a' := ?_) ?_ ?_
 rotate_left
 ·show Act.put _ (some 22) _ = _
  simp only [Act.put, List.setIfInBounds_toArray, List.set_cons_zero, List.set_cons_succ, i64_w, i32_w]
  rfl
 refine pure_ (i := 5) (N := some 23) (v := ?_) (a' := ?_) #[true, true, true, true, true, true, false] rfl rfl (by kernel_rfl) (fun _ _ _ h => h) (Or.inl ⟨by rfl, ?_⟩) ?_ ?_
 rotate_left
 ·intro w'
  go_simp
  with_reducible rfl
 rotate_left
 ·simp only [Act.put, List.setIfInBounds_toArray, List.set_cons_zero, List.set_cons_succ, i64_w, i32_w]
  rfl
 refine one_ (i := 6) (N := some 24) #[true, true, true, true, true, true, true] rfl rfl (by kernel_rfl) (by decide) (fun K hK => ?_)
 refine goesC_ Tryz.func65 (by kernel_rfl) rfl #[.pointer (some ⟨w.heap.size, 0, none⟩)] #[.int .i64 2, .bool (bt s 4 != sumT s), .pointer (some ⟨w.heap.size, 0, none⟩)] (by rfl) rfl rfl rfl (by (try simp only [List.map_toArray, List.map_cons, List.map_nil]); first | done | rfl) ?_
 with_reducible refine (add_step 2 (bt s 4 != sumT s) w.heap.size w.heap.size [] w w3 HO3.out HB3.out HB3.out.size (Nat.le_refl _) (by simp)).mono ?_
 rintro e w4 ⟨rfl, ho4, hb4, hs4, hk4⟩
 refine ⟨_, rfl, ?_⟩
 refine hK.out _ _ trivial (fun hHeld => ?_)
 clear hK K
 refine norm_ (a' := ?_) ?_ ?_
 rotate_left
 ·show Act.put _ (some 24) _ = _
  simp only [Act.put, List.setIfInBounds_toArray, List.set_cons_zero, List.set_cons_succ, i64_w, i32_w]
  rfl
 refine done_ (by kernel_rfl) ?_
 have HT4 := Aside0.mk (hk4 tb _ _ (by have := HL.out; omega) (by decide) HT3.out)
 have HO4 : Aside0 (Outs w.heap.size w.heap.size w4 (fstep (bt s 4 != sumT s) 2 [])) := ⟨ho4⟩
 have HB4 := Aside0.mk hb4
 clear HT3 HO3 HB3 ho4 hb4 hs4 hk4
 obtain ⟨o1, ho1⟩ : ∃ o, o = fstep (bt s 4 != sumT s) 2 [] := ⟨_, rfl⟩
 rw [← ho1] at HO4
 have hl1 : o1.length ≤ 1 := by rw [ho1]; exact fstep_len _ _ _
 have HO1 := Aside0.mk ho1
 clear ho1
 obtain ⟨v2, hv2⟩ : ∃ v, v = ((rdN s 2 2 : Nat) : Int) := ⟨_, rfl⟩
 rw [← hv2]
 have HV2 := Aside0.mk hv2
 clear hv2
 generalize bt s 4 = bb
 generalize sumT s = sb
 generalize (bb != sb) = bq
 obtain ⟨q, hq⟩ : ∃ q, q = ((v2 != 2) && (v2 != 3)) := ⟨_, rfl⟩
 have hcase : ((v2 != 2) = false ∧ q = false) ∨ ((v2 != 2) = true ∧ (v2 != 3) = false ∧ q = false) ∨ ((v2 != 2) = true ∧ (v2 != 3) = true ∧ q = true) := by
  rw [hq]
  cases (v2 != 2) <;> cases (v2 != 3) <;> simp
 have HQ := Aside0.mk hq
 clear hq
 go_upto_region 8 with fail
 go_cut [] from 9 (fun wx => Outs w.heap.size w.heap.size wx (fstep q 3 o1) ∧ Below w.heap.size w wx ∧ wx.heap[tb]? = some (.cells #[.int .i64 ((rdN s 0 2 : Nat) : Int), .int .i64 ((rdN s 6 2 : Nat) : Int), .int .i64 ((rdN s 10 2 : Nat) : Int), .int .i64 ((rdN s 12 4 : Nat) : Int)] 83 (0, 0)))
 case first =>
  rcases hcase with ⟨g1, rfl⟩ | ⟨g1, g2, rfl⟩ | ⟨g1, g2, rfl⟩
  all_goals
   go_wp2_with (go_at_call 65; refine (add_step 3 _ w.heap.size w.heap.size o1 w w4 HO4.out HB4.out HB4.out.size (Nat.le_refl _) (by omega)).mono ?_; rintro e w5 ⟨rfl, ho5, hb5, hs5, hk5⟩)
   go_meet
   case rel => exact ⟨ho5, hb5, hk5 tb _ _ (by have := HL.out; omega) (by decide) HT4.out⟩
 case rest =>
 obtain ⟨hO5, hB5, hT5⟩ := hcut
 have HO5 := Aside0.mk hO5
 have HB5 := Aside0.mk hB5
 have HT5 := Aside0.mk hT5
 clear hO5 hB5 hT5 HT4 HB4 HO4 hcase
 obtain ⟨o2, ho2⟩ : ∃ o, o = fstep q 3 o1 := ⟨_, rfl⟩
 rw [← ho2] at HO5
 have hl2 : o2.length ≤ 2 := by have := fstep_len q 3 o1; rw [ho2]; omega
 have HO2 := Aside0.mk ho2
 clear ho2
 obtain ⟨n0, hn0⟩ : ∃ n, n = rdN s 0 2 := ⟨_, rfl⟩
 obtain ⟨n6, hn6⟩ : ∃ n, n = rdN s 6 2 := ⟨_, rfl⟩
 obtain ⟨nl, hnl⟩ : ∃ n, n = rdN s 10 2 := ⟨_, rfl⟩
 obtain ⟨na, hna⟩ : ∃ n, n = rdN s 12 4 := ⟨_, rfl⟩
 rw [← hn0, ← hn6, ← hnl, ← hna] at HT5
 have hnl2 : nl < 65536 := by rw [hnl]; exact rdN_lt s 10 2
 have HN := Aside0.mk (And.intro hnl hna)
 clear hn0 hn6 hnl hna
 have t2 : wc.cell? ⟨tb, 2, none⟩ = some (.int .i64 (nl : Int)) := (blk_cell HT5.out 2).trans rfl
 have m16 : wrap64 ((s.size : Int) - 16) = (s.size : Int) - 16 := w64e _ (by omega)
 have k5 := blk_frozen HT5.out 2
 have HR8a := Aside0.mk (fun W => U.udftag_read.calls s 8 2 _ W (rl_f s 8 2 (by omega) (by omega) hz))
 by_cases hle : nl > s.size - 16
 ·have hgt : decide ((nl : Int) > (s.size : Int) - 16) = true := decide_eq_true (by omega)
  go_wp2_with fail
  refine (add_step 4 true w.heap.size w.heap.size o2 w wc HO5.out HB5.out HB5.out.size (Nat.le_refl _) (by omega)).mono ?_
  rintro e w6 ⟨rfl, ho6, hb6, hs6, hk6⟩
  have HO6 : Aside0 (Outs w.heap.size w.heap.size w6 (o2 ++ [4])) := ⟨ho6⟩
  have HB6 := Aside0.mk hb6
  have HT6 := Aside0.mk (hk6 tb _ _ (by have := HL.out; omega) (by decide) HT5.out)
  have t3 : w6.cell? ⟨tb, 3, none⟩ = some (.int .i64 (na : Int)) := (blk_cell HT6.out 3).trans rfl
  have k6 := blk_frozen HT6.out 3
  try clear HO5
  try clear HB5
  try clear HT5
  try clear t2
  try clear hgt
  try clear k5
  clear ho6 hb6 hs6 hk6 m16 HT6
  go_wp2_with fail
  refine (add_step 6 _ w.heap.size w.heap.size _ w w6 HO6.out HB6.out HB6.out.size (Nat.le_refl _) (by (try simp only [List.length_append, List.length_singleton]); omega)).mono ?_
  rintro e w7 ⟨rfl, ho7, hb7, hs7, hk7⟩
  obtain ⟨v7, hv7, hR7⟩ := ho7
  have t7 : w7.cell? ⟨w.heap.size, 0, none⟩ = some v7 := (blk_cell hv7 0).trans rfl
  have k7 := blk_frozen hv7 0
  have HR7 := Aside0.mk hR7
  clear hv7 hR7 t3 k6
  go_wp2_with fail
  go_ret
  have hF : faultsF s loc = fstep ((na : Int) != loc) 6 (o2 ++ [4]) := by
   unfold faultsF
   rw [← HN.out.2, ← HN.out.1, if_pos hle, ← HV2.out, ← HO1.out, ← HQ.out, ← HO2.out]
   rfl
  rw [hF]
  exact ⟨v7, rfl, HR7.out, hb7⟩
 ·have hgt : decide ((nl : Int) > (s.size : Int) - 16) = false := decide_eq_false (by omega)
  go_wp2_with (go_at_call 65; refine (add_step 4 false w.heap.size w.heap.size o2 w wc HO5.out HB5.out HB5.out.size (Nat.le_refl _) (by omega)).mono ?_; rintro e w6 ⟨rfl, ho6, hb6, hs6, hk6⟩)
  have HO6 : Aside0 (Outs w.heap.size w.heap.size w6 o2) := ⟨ho6⟩
  have HB6 := Aside0.mk hb6
  have HT6 := Aside0.mk (hk6 tb _ _ (by have := HL.out; omega) (by decide) HT5.out)
  have t2d : w6.drew.cell? ⟨tb, 2, none⟩ = some (.int .i64 (nl : Int)) := (blk_cell (blk_drew HT6.out) 2).trans rfl
  clear ho6 hb6 hs6 hk6 HO5 HB5 HT5 t2 m16 hgt k5
  obtain ⟨cr, hcr⟩ : ∃ c, c = crcI (s.extract 16 (16 + nl)) := ⟨_, rfl⟩
  have hcrr : 0 ≤ cr ∧ cr < 65536 := by rw [hcr]; exact crcI_range _
  have HCR := Aside0.mk (fun W => Y.checksum_CRC16.calls (s.extract 16 (16 + nl)) cr W (by rw [hcr]; exact pcrc_f _ (by rw [ByteArray.size_extract]; omega)))
  have hcw : IntKind.i64.wrap cr = cr := by rw [IntWalk.i64_left]; exact w64e _ (by omega)
  have hcw2 : wrap64 cr = cr := w64e _ (by omega)
  have HCC := Aside0.mk hcr
  clear hcr hcrr
  obtain ⟨n8, hn8⟩ : ∃ n, n = rdN s 8 2 := ⟨_, rfl⟩
  have HR8 := HR8a
  rw [← hn8] at HR8
  have HN8 := Aside0.mk hn8
  clear hn8 HR8a
  have m16 : wrap64 (16 + (nl : Int)) = 16 + (nl : Int) := w64e _ (by omega)
  have m16w : IntKind.i64.wrap (16 + (nl : Int)) = 16 + (nl : Int) := by rw [IntWalk.i64_left]; exact m16
  have hsl : ∀ W, (Instr.slice 9 (.string s) (some (.int .i64 16)) (some (.int .i64 (16 + (nl : Int)))) none).run Tryz.prog W = .ok (.string (s.extract 16 (16 + nl))) W := fun W => by
   have := run_slice_string W 9 s .i64 .i64 16 (16 + (nl : Int)) Tryz.underlying9 (by omega) (by omega) (by omega)
   rw [this]
   rfl
  refine start_ (n := 12) (S := fun w' => w'.cell? ⟨tb, 2, none⟩ = some (.int .i64 (nl : Int))) (ds := []) #[false, false, false, false, false, false, false, false, false, false, false, false] (by kernel_rfl) rfl rfl t2d (fun hHeld => ?_)
  refine pure_ (i := 0) (N := some 42) (v := ?_) (a' := ?_) #[true, false, false, false, false, false, false, false, false, false, false, false] rfl rfl (by kernel_rfl) (fun _ _ _ h => h) (Or.inl ⟨by rfl, ?_⟩) ?_ ?_
  rotate_left
  ·intro w'
   go_simp
   with_reducible rfl
  rotate_left
  ·simp only [Act.put, List.setIfInBounds_toArray, List.set_cons_zero, List.set_cons_succ, i64_w, i32_w]
   rfl
  refine pure_ (i := 1) (N := some 43) (v := ?_) (a' := ?_) #[true, true, false, false, false, false, false, false, false, false, false, false] rfl rfl (by kernel_rfl) (fun _ _ _ h => h) (Or.inl ⟨by rfl, ?_⟩) ?_ ?_
  rotate_left
  ·intro w'
   go_simp
   with_reducible rfl
  rotate_left
  ·simp only [Act.put, List.setIfInBounds_toArray, List.set_cons_zero, List.set_cons_succ, i64_w, i32_w]
   rfl
  refine pure_ (i := 3) (N := some 45) (v := ?_) (a' := ?_) #[true, true, false, true, false, false, false, false, false, false, false, false] rfl rfl (by kernel_rfl) (fun _ _ _ h => h) (Or.inl ⟨by rfl, ?_⟩) ?_ ?_
  rotate_left
  ·intro w'
   go_simp
   with_reducible rfl
  rotate_left
  ·simp only [Act.put, List.setIfInBounds_toArray, List.set_cons_zero, List.set_cons_succ, i64_w, i32_w]
   rfl
  refine pure_ (i := 4) (N := some 46) (v := ?_) (a' := ?_) #[true, true, false, true, true, false, false, false, false, false, false, false] rfl rfl (by kernel_rfl) (fun _ _ _ h => h) (Or.inl ⟨by rfl, ?_⟩) ?_ ?_
  rotate_left
  ·intro w'
   go_simp
   with_reducible rfl
  rotate_left
  ·simp only [Act.put, List.setIfInBounds_toArray, List.set_cons_zero, List.set_cons_succ, i64_w, i32_w]
   rfl
  refine take_ (i := 5) (N := some 47) (v := ?_) (a' := ?_) #[true, true, false, true, true, true, false, false, false, false, false, false] rfl rfl (by kernel_rfl) (fun _ _ _ h => h) (Or.inl ⟨by rfl, ?_⟩) hHeld ?_ ?_
  rotate_left
  ·intro w' hSw
   try dsimp only at hSw
   go_simp
   with_reducible rfl
  rotate_left
  ·simp only [Act.put, List.setIfInBounds_toArray, List.set_cons_zero, List.set_cons_succ, i64_w, i32_w]
   rfl
  refine pure_ (i := 6) (N := some 48) (v := ?_) (a' := ?_) #[true, true, false, true, true, true, true, false, false, false, false, false] rfl rfl (by kernel_rfl) (fun _ _ _ h => h) (Or.inl ⟨by rfl, ?_⟩) ?_ ?_
  rotate_left
  ·intro w'
   go_simp
   with_reducible rfl
  rotate_left
  ·simp only [Act.put, List.setIfInBounds_toArray, List.set_cons_zero, List.set_cons_succ, i64_w, i32_w]
   rfl
  refine pure_ (i := 7) (N := some 49) (v := ?_) (a' := ?_) #[true, true, false, true, true, true, true, true, false, false, false, false] rfl rfl (by kernel_rfl) (fun _ _ _ h => h) (Or.inl ⟨by rfl, ?_⟩) ?_ ?_
  rotate_left
  ·intro w'
   go_simp
   with_reducible rfl
  rotate_left
  ·simp only [Act.put, List.setIfInBounds_toArray, List.set_cons_zero, List.set_cons_succ, i64_w, i32_w]
   rfl
  refine one_ (i := 2) (N := some 44) #[true, true, true, true, true, true, true, true, false, false, false, false] rfl rfl (by kernel_rfl) (by decide) (fun K hK => ?_)
  refine goes_ Tryz.func66 (by kernel_rfl) rfl #[.string s, .int .i64 8, .int .i64 2] (by rfl) rfl rfl (by (try simp only [List.map_toArray, List.map_cons, List.map_nil]); first | done | rfl) ?_
  with_reducible refine (HR8.out _).mono ?_
  rintro e w8 ⟨rfl, hb8⟩
  have HT8 := Aside0.mk (blk_below (blk_drew HT6.out) hb8)
  have HB8 := Aside0.mk (below_step HB6.out.drew hb8)
  have HO8 := Aside0.mk ((HO6.out.below (Below.drew (Below.refl _ _) : Below w6.heap.size w6 w6.drew)).below hb8)
  clear HT6 HB6 HO6 hb8 t2d
  refine ⟨_, rfl, ?_⟩
  refine hK.out _ _ ((blk_cell HT8.out 2).trans rfl) (fun hHeld => ?_)
  clear hK K
  refine norm_ (a' := ?_) ?_ ?_
  rotate_left
  ·show Act.put _ (some 44) _ = _
   simp only [Act.put, List.setIfInBounds_toArray, List.set_cons_zero, List.set_cons_succ, i64_w, i32_w]
   rfl
  refine one_ (i := 8) (N := some 50) #[true, true, true, true, true, true, true, true, true, false, false, false] rfl rfl (by kernel_rfl) (by decide) (fun K hK => ?_)
  refine goes_ Tryz.func63 (by kernel_rfl) rfl #[.string (s.extract 16 (16 + nl))] (by rfl) rfl rfl (by (try simp only [List.map_toArray, List.map_cons, List.map_nil]); first | done | rfl) ?_
  with_reducible refine (HCR.out _).mono ?_
  rintro e w9 ⟨rfl, hb9⟩
  have HT9 := Aside0.mk (blk_below HT8.out hb9)
  have HB9 := Aside0.mk (below_step HB8.out hb9)
  have HO9 := Aside0.mk (HO8.out.below hb9)
  clear HT8 HB8 HO8 hb9
  refine ⟨_, rfl, ?_⟩
  refine hK.out _ _ ((blk_cell HT9.out 2).trans rfl) (fun hHeld => ?_)
  clear hK K
  refine norm_ (a' := ?_) ?_ ?_
  rotate_left
  ·show Act.put _ (some 50) _ = _
   simp only [Act.put, List.setIfInBounds_toArray, List.set_cons_zero, List.set_cons_succ, i64_w, i32_w]
   rfl
  refine pure_ (i := 9) (N := some 51) (v := ?_) (a' := ?_) #[true, true, true, true, true, true, true, true, true, true, false, false] rfl rfl (by kernel_rfl) (fun _ _ _ h => h) (Or.inl ⟨by rfl, ?_⟩) ?_ ?_
  rotate_left
  ·intro w'
   go_simp
   with_reducible rfl
  rotate_left
  ·simp only [Act.put, List.setIfInBounds_toArray, List.set_cons_zero, List.set_cons_succ, i64_w, i32_w]
   rfl
  refine pure_ (i := 10) (N := some 52) (v := ?_) (a' := ?_) #[true, true, true, true, true, true, true, true, true, true, true, false] rfl rfl (by kernel_rfl) (fun _ _ _ h => h) (Or.inl ⟨by rfl, ?_⟩) ?_ ?_
  rotate_left
  ·intro w'
   go_simp
   with_reducible rfl
  rotate_left
  ·simp only [Act.put, List.setIfInBounds_toArray, List.set_cons_zero, List.set_cons_succ, i64_w, i32_w]
   rfl
  refine one_ (i := 11) (N := some 53) #[true, true, true, true, true, true, true, true, true, true, true, true] rfl rfl (by kernel_rfl) (by decide) (fun K hK => ?_)
  refine goesC_ Tryz.func65 (by kernel_rfl) rfl #[.pointer (some ⟨w.heap.size, 0, none⟩)] #[.int .i64 5, .bool ((n8 : Int) != cr), .pointer (some ⟨w.heap.size, 0, none⟩)] (by rfl) rfl rfl rfl (by (try simp only [List.map_toArray, List.map_cons, List.map_nil]); first | done | rfl) ?_
  with_reducible refine (add_step 5 ((n8 : Int) != cr) w.heap.size w.heap.size o2 w w9 HO9.out HB9.out HB9.out.size (Nat.le_refl _) (by omega)).mono ?_
  rintro e w6 ⟨rfl, ho6, hb6, hs6, hk6⟩
  have HT6 := Aside0.mk (hk6 tb _ _ (by have := HL.out; omega) (by decide) HT9.out)
  refine ⟨_, rfl, ?_⟩
  refine hK.out _ _ ((blk_cell HT6.out 2).trans rfl) (fun hHeld => ?_)
  clear hK K
  refine norm_ (a' := ?_) ?_ ?_
  rotate_left
  ·show Act.put _ (some 53) _ = _
   simp only [Act.put, List.setIfInBounds_toArray, List.set_cons_zero, List.set_cons_succ, i64_w, i32_w]
   rfl
  refine done_ (by kernel_rfl) ?_
  have HO6 : Aside0 (Outs w.heap.size w.heap.size w6 (fstep ((n8 : Int) != cr) 5 o2)) := ⟨ho6⟩
  have HB6 := Aside0.mk hb6
  have hl3 := fstep_len ((n8 : Int) != cr) 5 o2
  clear HO9 HB9 HT9
  obtain ⟨q5, hq5⟩ : ∃ q, q = ((n8 : Int) != cr) := ⟨_, rfl⟩
  rw [← hq5] at HO6 hl3 ⊢
  have HQ5 := Aside0.mk hq5
  clear hq5
  obtain ⟨o3, ho3⟩ : ∃ o, o = fstep q5 5 o2 := ⟨_, rfl⟩
  rw [← ho3] at HO6 hl3
  have HO3 := Aside0.mk ho3
  clear ho3 hsl hcw hcw2 m16w
  have t3 : w6.cell? ⟨tb, 3, none⟩ = some (.int .i64 (na : Int)) := (blk_cell HT6.out 3).trans rfl
  have k6 := blk_frozen HT6.out 3
  try clear HO5
  try clear HB5
  try clear HT5
  try clear t2
  try clear hgt
  try clear k5
  clear ho6 hb6 hs6 hk6 m16 HT6
  go_wp2_with fail
  refine (add_step 6 _ w.heap.size w.heap.size _ w w6 HO6.out HB6.out HB6.out.size (Nat.le_refl _) (by (try simp only [List.length_append, List.length_singleton]); omega)).mono ?_
  rintro e w7 ⟨rfl, ho7, hb7, hs7, hk7⟩
  obtain ⟨v7, hv7, hR7⟩ := ho7
  have t7 : w7.cell? ⟨w.heap.size, 0, none⟩ = some v7 := (blk_cell hv7 0).trans rfl
  have k7 := blk_frozen hv7 0
  have HR7 := Aside0.mk hR7
  clear hv7 hR7 t3 k6
  go_wp2_with fail
  go_ret
  have hF : faultsF s loc = fstep ((na : Int) != loc) 6 (o3) := by
   unfold faultsF
   rw [← HN.out.2, ← HN.out.1, if_neg hle, ← HN8.out, ← HCC.out, ← HV2.out, ← HO1.out, ← HQ.out, ← HO2.out, ← HQ5.out, HO3.out]
  rw [hF]
  exact ⟨v7, rfl, HR7.out, hb7⟩

end Go.Proofs.YtdepicgdbealpaaGreatDoor.Enc
