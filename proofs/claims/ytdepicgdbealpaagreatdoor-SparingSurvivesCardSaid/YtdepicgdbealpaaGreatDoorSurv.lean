/- The law SparingSurvives returns true. -/
import Derived.Test.YtdepicgdbealpaaGreatDoorSv0
namespace Go.Proofs.YtdepicgdbealpaaGreatDoor.Enc
set_option linter.unusedVariables false
set_option linter.unusedSimpArgs false
open Go.RowKit Go.Lib Go.Proofs.YtdepicgdbealpaaGreatDoorW.PrintWords Go.Proofs.YtdepicgdbealpaaGreatDoorW.PrintLast Go.Proofs.YtdepicgdbealpaaGreatDoorW.PrintMore
open Go.Proofs.YtdepicgdbealpaaGreatDoor Go.Proofs.YtdepicgdbealpaaGreatDoor.V Go.Proofs.YtdepicgdbealpaaGreatDoor.Spare Go.Proofs.YtdepicgdbealpaaGreatDoor.Z

theorem info9 : (Tryz.prog.info? 9).map (fun i => (i.zero, i.size, i.bytes)) = some (some (.string ⟨#[]⟩), 1, 16) := by kernel_rfl

set_option maxHeartbeats 8000000 in
set_option maxRecDepth 100000 in
theorem survives_calls (s : Int) (A : Option Addr) (c : Nat) (l : List S54) (block a b cut m : Int) (w : World) (hm : w.cell? ⟨0, 0, none⟩ = some (.int .i64 m)) (hr : Kd.C k54 w A l.length l) (hc : l.length ≤ c) (hml : l.length ≤ maxLen)
  (ha0 : 0 ≤ a) (ha1 : a ≤ 65535) (hb0 : 0 ≤ b) (hb1 : b ≤ 65535) (hc0 : 0 ≤ cut) (hc1 : cut ≤ 255) :
  Calls Tryz.prog 4 #[.agg #[.int .i64 s, .slice A l.length c], .int .i64 block, .agg #[.int .u16 a, .int .u16 b], .int .u8 cut] w fun e w' => e = .returned (.bool true) ∧ Below w.heap.size w w' := by
 have hu54 := Tryz.underlying54
 have hu24 := Tryz.underlying24
 have hu22 := Tryz.underlying22
 have hu43 := Tryz.underlying43
 have hn : l.length ≤ 9223372036854775807 := hr.2.1
 have hwa : wordB a = true := (word_iff a).2 (by omega)
 have hwb : wordB b = true := (word_iff b).2 (by omega)
 have HC := Aside0.mk hr
 have HM := Aside0.mk hml
 have HMX := Aside0.mk hm
 have HWA := Aside0.mk hwa
 have HWB := Aside0.mk hwb
 clear hr hml hm hwa hwb
 go_enter Tryz.func4, Tryz.ntmps4
 go_wp2_with fail
 refine (awake_calls _).mono ?_
 rintro e w1 ⟨rfl, hb1'⟩
 have T0 := Aside0.mk (blk_below (blk_alloc (heap_alloc_new w (.cells #[.int .i64 s, .slice A l.length c] 24)) (.cells #[.int .u16 a, .int .u16 b] 36)) hb1')
 have hb2 : w1.heap[w.heap.size + 1]? = some (.cells #[.int .u16 a, .int .u16 b] 36 (0, 0)) := by
  have := blk_below (heap_alloc_new (w.alloc (.cells #[.int .i64 s, .slice A l.length c] 24)) (.cells #[.int .u16 a, .int .u16 b] 36)) hb1'
  simpa using this
 have L0 := Aside0.mk hb2
 have HB : Aside0 (Below w.heap.size w w1) := ⟨below_step (below_alloc (below_alloc (Below.refl _ w) _) _) hb1'⟩
 clear hb1' hb2
 have t0 : w1.cell? ⟨w.heap.size, 0, none⟩ = some (.int .i64 s) := (blk_cell T0.out 0).trans rfl
 have t1 : w1.cell? ⟨w.heap.size, 1, none⟩ = some (.slice A l.length c) := (blk_cell T0.out 1).trans rfl
 go_wp2_with fail
 refine (few_calls w1.heap.size s A l.length c _ (heap_alloc_new w1 _) HM.out).mono ?_
 rintro e w2 ⟨rfl, hb3⟩
 have T2 := Aside0.mk (blk_below (blk_alloc T0.out (.cells #[.int .i64 s, .slice A l.length c] 24)) hb3)
 have L2 := Aside0.mk (blk_below (blk_alloc L0.out (.cells #[.int .i64 s, .slice A l.length c] 24)) hb3)
 have HB2 : Aside0 (Below w.heap.size w w2) := ⟨below_step (below_alloc HB.out _) hb3⟩
 clear hb3 t0 t1 T0 L0 HB
 by_cases g1 : l.length ≤ 20
 rotate_left 1
 ·have g1d : decide (l.length ≤ 20) = false := decide_eq_false g1
  go_wp2
  go_ret
  exact ⟨rfl, HB2.out⟩
 have g1d : decide (l.length ≤ 20) = true := decide_eq_true g1
 clear g1
 have l0 : w2.cell? ⟨w.heap.size + 1, 0, none⟩ = some (.int .u16 a) := (blk_cell L2.out 0).trans rfl
 have l1 : w2.cell? ⟨w.heap.size + 1, 1, none⟩ = some (.int .u16 b) := (blk_cell L2.out 1).trans rfl
 by_cases hab : a = b
 ·have habd : (a == b) = true := beq_iff_eq.2 hab
  clear hab
  go_wp2
  go_ret
  exact ⟨rfl, HB2.out⟩
 have habd : (a == b) = false := beq_eq_false_iff_ne.2 hab
 clear hab
 have T3 := Aside0.mk (blk_alloc T2.out (.cells #[.int .i64 a, .int .i64 b] 3))
 have G3 := Aside0.mk (blk_new w2 (.cells #[.int .i64 a, .int .i64 b] 3))
 have HB3 := Aside0.mk (below_alloc HB2.out (.cells #[.int .i64 a, .int .i64 b] 3))
 have t0 : (w2.alloc (.cells #[.int .i64 a, .int .i64 b] 3)).cell? ⟨w.heap.size, 0, none⟩ = some (.int .i64 s) := (blk_cell T3.out 0).trans rfl
 have t1 : (w2.alloc (.cells #[.int .i64 a, .int .i64 b] 3)).cell? ⟨w.heap.size, 1, none⟩ = some (.slice A l.length c) := (blk_cell T3.out 1).trans rfl
 go_wp2_with fail
 clear t0 t1 l0 l1 T2 L2 HB2 habd
 generalize w2.alloc (.cells #[.int .i64 a, .int .i64 b] 3) = w3 at T3 G3 HB3 ⊢
 generalize w2.heap.size = ga at G3 ⊢
 obtain ⟨r1, r2, r3, r4, hrep⟩ : ∃ r1 r2 r3 r4, replaceF s l block = (r1, r2, r3, r4) := ⟨_, _, _, _, rfl⟩
 have HR := Aside0.mk hrep
 clear hrep
 refine (Ext.Replace.calls s A c l block r1 r2 r3 r4 _ (Kd.C_below HC.out HB3.out) hc (congrArg some HR.out)).mono ?_
 rintro e w4 ⟨v1, rfl, hR1, hb4⟩
 obtain ⟨a1, c1, rfl, hc1', hC1⟩ := Kd.R_reads hR1
 have T4 := Aside0.mk (blk_alloc (blk_below T3.out hb4) (.cells #[.int .i64 r1, .slice a1 r2.length c1] 24))
 have G4 := Aside0.mk (blk_alloc (blk_below G3.out hb4) (.cells #[.int .i64 r1, .slice a1 r2.length c1] 24))
 have U4 := Aside0.mk (heap_alloc_new w4 (.cells #[.int .i64 r1, .slice a1 r2.length c1] 24))
 have O4 := Aside0.mk (Kd.C_alloc hC1 (.cells #[.int .i64 r1, .slice a1 r2.length c1] 24))
 have HB4 := Aside0.mk (below_alloc (below_step HB3.out hb4) (.cells #[.int .i64 r1, .slice a1 r2.length c1] 24))
 clear hR1 hb4 hC1 T3 G3 HB3
 have t0 : (w4.alloc (.cells #[.int .i64 r1, .slice a1 r2.length c1] 24)).cell? ⟨w.heap.size, 0, none⟩ = some (.int .i64 s) := (blk_cell T4.out 0).trans rfl
 have t1 : (w4.alloc (.cells #[.int .i64 r1, .slice a1 r2.length c1] 24)).cell? ⟨w.heap.size, 1, none⟩ = some (.slice A l.length c) := (blk_cell T4.out 1).trans rfl
 go_wp2_with fail
 generalize w4.alloc (.cells #[.int .i64 r1, .slice a1 r2.length c1] 24) = w5 at T4 G4 U4 O4 HB4 t0 t1 ⊢
 generalize w4.heap.size = gu at U4 ⊢
 by_cases ok : r4 = 0
 rotate_left 1
 ·have okd : (r4 != 0) = true := bne_iff_ne.2 ok
  clear ok
  obtain ⟨u1, u2, hU⟩ := upd2_any s l a b HWA.out HWB.out
  obtain ⟨u3, u4, hU2⟩ := upd2_any r1 r2 a b HWA.out HWB.out
  have HU2 := Aside0.mk hU2
  clear hU2
  refine (upd_calls s A c l _ a b u1 u2 _ (Kd.C_below HC.out HB4.out) hc (C_two G4.out) hU).mono ?_
  rintro e w6 ⟨v2, rfl, hS2, hb6⟩
  have U6 := Aside0.mk (blk_below U4.out hb6)
  have G6 := Aside0.mk (blk_below G4.out hb6)
  have O6 := Aside0.mk (Kd.C_below O4.out hb6)
  have HB6 := Aside0.mk (below_step HB4.out hb6)
  clear hU hS2 hb6 T4 G4 U4 O4 HB4 t0 t1
  have s0 : w6.cell? ⟨gu, 0, none⟩ = some (.int .i64 r1) := (blk_cell U6.out 0).trans rfl
  have s1 : w6.cell? ⟨gu, 1, none⟩ = some (.slice a1 r2.length c1) := (blk_cell U6.out 1).trans rfl
  go_wp2_with fail
  refine (upd_calls r1 a1 c1 r2 _ a b u3 u4 _ O6.out hc1' (C_two G6.out) HU2.out).mono ?_
  rintro e w7 ⟨v3, rfl, hS3, hb7⟩
  have HB7 := Aside0.mk (below_step HB6.out hb7)
  clear hS3 hb7 HU2 U6 G6 O6 HB6 s0 s1
  go_wp2
  go_ret
  exact ⟨rfl, HB7.out⟩
 subst ok
 have hval := replace_ok s l block (by rw [HR.out])
 rw [HR.out] at hval
 have hV := hval.1
 have hV2 : validB r1 r2 = true := hval.2
 have hU := upd2 s l a b hV HWA.out HWB.out
 have hU2 := upd2 r1 r2 a b hV2 HWA.out HWB.out
 have DF := Aside0.mk (And.intro (dec_blk m s a l hV HWA.out) (dec_blk m s b l hV HWB.out))
 have DS := Aside0.mk (And.intro (dec_blk m r1 a r2 hV2 HWA.out) (dec_blk m r1 b r2 hV2 HWB.out))
 clear hval hV hV2
 generalize blockB 0 1 a (bodyF s l) = F0 at hU DF
 generalize blockB 0 1 b (bodyF s l) = F1 at hU DF
 generalize blockB 0 1 a (bodyF r1 r2) = S0 at hU2 DS
 generalize blockB 0 1 b (bodyF r1 r2) = S1 at hU2 DS
 have HU2 := Aside0.mk hU2
 clear hU2
 refine (upd_calls s A c l _ a b _ _ _ (Kd.C_below HC.out HB4.out) hc (C_two G4.out) hU).mono ?_
 rintro e w6 ⟨v2, rfl, hS2, hb6⟩
 obtain ⟨gf, cf, rfl, hCF⟩ := two_form hS2
 have CF := Aside0.mk hCF
 have U6 := Aside0.mk (blk_below U4.out hb6)
 have G6 := Aside0.mk (blk_below G4.out hb6)
 have T6 := Aside0.mk (blk_below T4.out hb6)
 have O6 := Aside0.mk (Kd.C_below O4.out hb6)
 have HB6 := Aside0.mk (below_step HB4.out hb6)
 clear hU hS2 hCF hb6 T4 G4 U4 O4 HB4 t0 t1
 have s0 : w6.cell? ⟨gu, 0, none⟩ = some (.int .i64 r1) := (blk_cell U6.out 0).trans rfl
 have s1 : w6.cell? ⟨gu, 1, none⟩ = some (.slice a1 r2.length c1) := (blk_cell U6.out 1).trans rfl
 go_wp2_with fail
 refine (upd_calls r1 a1 c1 r2 _ a b _ _ _ O6.out hc1' (C_two G6.out) HU2.out).mono ?_
 rintro e wb ⟨v3, rfl, hS3, hb7⟩
 obtain ⟨gs, cs, rfl, hCS⟩ := two_form hS3
 have XF := Aside0.mk (wr_two (Kd.C_below CF.out hb7))
 have XS := Aside0.mk (wr_two hCS)
 have U7 := Aside0.mk (blk_below U6.out hb7)
 have G7 := Aside0.mk (blk_below G6.out hb7)
 have T7 := Aside0.mk (blk_below T6.out hb7)
 have O7 := Aside0.mk (Kd.C_below O6.out hb7)
 have HB7 := Aside0.mk (below_step HB6.out hb7)
 clear hS3 hb7 hCS CF HU2 U6 G6 T6 O6 HB6 s0 s1
 obtain ⟨⟨A0, c0, A1, c1f, f0, f1, f2, fx, f4, f5, f6, fy⟩⟩ := XF
 obtain ⟨⟨B0, d0, B1, d1, x0, x1, x2, sx, x4, x5, x6, sy⟩⟩ := XS
 go_wp2_with fail
 go_loopg [17, 82] 2 (fun gg s17 s82 wr => ∃ kk : Nat, s82 = .int .i64 kk ∧ kk ≤ 2 ∧ 2 - kk ≤ gg ∧ Aside0 (Kd.R Kd.string 9 wr wb.heap.size (fun _ => True) s17 ([F0, F1].take kk)) ∧ Aside0 (Below wb.heap.size wb wr))
 case atStart => exact ⟨0, rfl, by omega, by omega, ⟨Kd.R_nil _ _ _ _ _⟩, ⟨Below.refl _ _⟩⟩
 case round =>
  obtain ⟨kk, rfl, hkk, hgg, HRB, HBB⟩ := hrel
  by_cases hlt : kk < 2
  ·have h01 : kk = 0 ∨ kk = 1 := by omega
   rcases h01 with rfl | rfl
   ·have f0' := pw_cell_below HBB.out f0
    have f1' := pw_cell_below HBB.out f1
    have fx' := pw_cell_below HBB.out fx
    have x0' := pw_cell_below HBB.out x0
    have x1' := pw_cell_below HBB.out x1
    have x2' := pw_cell_below HBB.out x2
    have g0' := pw_cell_below HBB.out ((blk_cell G7.out 0).trans rfl : wb.cell? ⟨ga, 0, none⟩ = some (.int .i64 a))
    clear hlt hkk
    go_wp2_with fail
    go_quiet (fail)
    have HRQ := Aside0.mk (Kd.R_drewN HRB.out nq)
    have HBQ := Aside0.mk (pw_below_drewN HBB.out nq)
    clear f0' f1' fx' x0' x1' x2' g0' HRB HBB
    generalize wr.drewN nq = wq at HRQ HBQ ⊢
    have f1' := pw_cell_below HBQ.out f1
    have fx' := pw_cell_below HBQ.out fx
    go_wp2_with (first | ((with_reducible refine gate_builtin (b := .append) (xs := #[.tmp 133, .tmp 141]) rfl ?_); at_builtin; refine Kd.R_append Kd.string (w0 := wb) wb.heap.size rfl (.tmp 133) (.tmp 141) 43 9 (.string ⟨#[]⟩) 16 rfl hu43 info9 rfl (by decide) (by omega) _ ([F0, F1].take 0) F0 [.string F0] (fun _ => True) (fun _ => False) rfl rfl ?aP (fun _ hk => hk.elim) ?aF ?aO ?aB ?aS ?aL ?_; (case aP => exact rfl); (case aB => exact HBQ.out); (case aF => exact (fun _ _ => trivial)); (case aO => exact HRQ.out); (case aS => exact HBQ.out.size); (case aL => simp); intro v1 wn ho hbl hgr hat; have HO := Aside0.mk ho; have HBN := Aside0.mk hbl; clear ho hbl hgr hat))
    go_roundg (2 - (0 + 1))
    case measure => omega
    case rel => exact ⟨0 + 1, by go_num, by omega, by omega, HO, HBN⟩
   ·have f0' := pw_cell_below HBB.out f4
    have f1' := pw_cell_below HBB.out f5
    have fx' := pw_cell_below HBB.out fy
    have x0' := pw_cell_below HBB.out x4
    have x1' := pw_cell_below HBB.out x5
    have x2' := pw_cell_below HBB.out x6
    have g0' := pw_cell_below HBB.out ((blk_cell G7.out 1).trans rfl : wb.cell? ⟨ga, 1, none⟩ = some (.int .i64 b))
    clear hlt hkk
    go_wp2_with fail
    go_quiet (fail)
    have HRQ := Aside0.mk (Kd.R_drewN HRB.out nq)
    have HBQ := Aside0.mk (pw_below_drewN HBB.out nq)
    clear f0' f1' fx' x0' x1' x2' g0' HRB HBB
    generalize wr.drewN nq = wq at HRQ HBQ ⊢
    have f1' := pw_cell_below HBQ.out f5
    have fx' := pw_cell_below HBQ.out fy
    go_wp2_with (first | ((with_reducible refine gate_builtin (b := .append) (xs := #[.tmp 133, .tmp 141]) rfl ?_); at_builtin; refine Kd.R_append Kd.string (w0 := wb) wb.heap.size rfl (.tmp 133) (.tmp 141) 43 9 (.string ⟨#[]⟩) 16 rfl hu43 info9 rfl (by decide) (by omega) _ ([F0, F1].take 1) F1 [.string F1] (fun _ => True) (fun _ => False) rfl rfl ?aP (fun _ hk => hk.elim) ?aF ?aO ?aB ?aS ?aL ?_; (case aP => exact rfl); (case aB => exact HBQ.out); (case aF => exact (fun _ _ => trivial)); (case aO => exact HRQ.out); (case aS => exact HBQ.out.size); (case aL => simp); intro v1 wn ho hbl hgr hat; have HO := Aside0.mk ho; have HBN := Aside0.mk hbl; clear ho hbl hgr hat))
    go_roundg (2 - (1 + 1))
    case measure => omega
    case rel => exact ⟨1 + 1, by go_num, by omega, by omega, HO, HBN⟩
  ·obtain rfl : kk = 2 := by omega
   have hR2 : Kd.R Kd.string 9 wr wb.heap.size (fun _ => True) u17 [F0, F1] := HRB.out
   obtain ⟨g, cap, e, hgB, _⟩ := Kd.R_form hR2 (by show 0 < 2; decide)
   have e2 : u17 = .slice (some ⟨g, 0, none⟩) 2 cap := e
   subst e2
   have HR2 := Aside0.mk hR2
   clear hR2 HRB e hlt hkk hgg
   have hz3 : 0 ≤ cut % 3 ∧ cut % 3 < 3 := by omega
   go_wp2_with fail
   generalize cut % 3 = z at hz3 ⊢
   obtain ⟨n, rfl⟩ : ∃ n : Nat, z = (n : Int) := ⟨z.toNat, by omega⟩
   have hn3 : n < 3 := by omega
   clear hz3
   have HBB1 := HBB
   clear HBB
   go_loopg [148] n (fun gg s148 wr => ∃ kk : Nat, s148 = .int .i64 kk ∧ kk ≤ n ∧ n - kk ≤ gg ∧ Aside0 (Kd.R Kd.string 9 wr wb.heap.size (fun _ => True) (.slice (some ⟨g, 0, none⟩) 2 cap) (mixL F0 F1 S0 S1 kk)) ∧ Aside0 (Below wb.heap.size wb wr))
   case atStart => exact ⟨0, rfl, Nat.zero_le _, by omega, HR2, HBB1⟩
   case round =>
    clear HR2 HBB1
    obtain ⟨kk, rfl, hkk, hgg, HR, HBB⟩ := hrel
    by_cases hlt : kk < n
    ·have h01 : kk = 0 ∨ kk = 1 := by omega
     rcases h01 with rfl | rfl
     ·have hR' : Kd.R Kd.string 9 wr wb.heap.size (fun _ => True) (.slice (some ⟨g, 0, none⟩) [F0, F1].length cap) [F0, F1] := HR.out
      have gc : wr.cell? ⟨g, 0, none⟩ = some (.string F0) := (Kd.R_cell ByteArray.empty hR' 0 (by decide) (by show (0 : Int) < 2; decide)).1
      have gz : wr.frozen? ⟨g, 0, none⟩ = false := (Kd.R_cell ByteArray.empty hR' 0 (by decide) (by show (0 : Int) < 2; decide)).2
      have HRP := Aside0.mk (Kd.R_put hR' 0 S0).1
      have x1' := pw_cell_below HBB.out x1
      have sx' := pw_cell_below HBB.out sx
      clear hR' hkk
      go_wp2
      go_roundg (n - (0 + 1))
      case measure => omega
      case rel => exact ⟨0 + 1, by go_num, by omega, by omega, HRP, ⟨HBB.out.setCell (p := ⟨g, 0, none⟩) hgB _⟩⟩
     ·have hR' : Kd.R Kd.string 9 wr wb.heap.size (fun _ => True) (.slice (some ⟨g, 0, none⟩) [S0, F1].length cap) [S0, F1] := HR.out
      have gc : wr.cell? ⟨g, 1, none⟩ = some (.string F1) := (Kd.R_cell ByteArray.empty hR' 1 (by decide) (by show (1 : Int) < 2; decide)).1
      have gz : wr.frozen? ⟨g, 1, none⟩ = false := (Kd.R_cell ByteArray.empty hR' 1 (by decide) (by show (1 : Int) < 2; decide)).2
      have HRP := Aside0.mk (Kd.R_put hR' 1 S1).1
      have x1' := pw_cell_below HBB.out x5
      have sx' := pw_cell_below HBB.out sy
      clear hR' hkk
      go_wp2
      go_roundg (n - (1 + 1))
      case measure => omega
      case rel => exact ⟨1 + 1, by go_num, by omega, by omega, HRP, ⟨HBB.out.setCell (p := ⟨g, 1, none⟩) hgB _⟩⟩

    ·obtain rfl : kk = n := by omega
     have h012 : kk = 0 ∨ kk = 1 ∨ kk = 2 := by omega
     clear hlt hkk hgg hn3
     rcases h012 with rfl | rfl | rfl
     ·have hR' : Kd.R Kd.string 9 wr wb.heap.size (fun _ => True) (.slice (some ⟨g, 0, none⟩) [F0, F1].length cap) [F0, F1] := HR.out
      have gc : wr.cell? ⟨g, 0, none⟩ = some (.string F0) := (Kd.R_cell ByteArray.empty hR' 0 (by decide) (by show (0 : Int) < 2; decide)).1
      have gz : wr.frozen? ⟨g, 0, none⟩ = false := (Kd.R_cell ByteArray.empty hR' 0 (by decide) (by show (0 : Int) < 2; decide)).2
      have HRP : Aside0 (Kd.R Kd.string 9 (wr.setCell ⟨g, 0, none⟩ (.string ⟨#[33]⟩)) wb.heap.size (fun _ => True) (.slice (some ⟨g, 0, none⟩) 2 cap) [⟨#[33]⟩, F1]) := Aside0.mk (Kd.R_put hR' 0 ⟨#[33]⟩).1
      have HBQ : Aside0 (Below wb.heap.size wb (wr.setCell ⟨g, 0, none⟩ (.string ⟨#[33]⟩))) := ⟨HBB.out.setCell (p := ⟨g, 0, none⟩) hgB _⟩
      clear hR' HR HBB
      go_wp2_with fail
      generalize wr.setCell ⟨g, 0, none⟩ (.string ⟨#[33]⟩) = wq at HRP HBQ ⊢
      refine (prev2 HRP.out (C_two (blk_below G7.out HBQ.out)) (dec_no m a) (DF.out.2) (pw_cell_below (below_step HB7.out HBQ.out) HMX.out) (pk_late s l) (by decide)).mono ?_
      rintro e w9 ⟨v9, rfl, hR9, hb9⟩
      obtain ⟨a9, c9, rfl, hc9, hC9⟩ := Kd.R_reads hR9
      have XT := Aside0.mk (blk_alloc (blk_below (blk_below T7.out HBQ.out) hb9) (.cells #[.int .i64 s, .slice a9 l.length c9] 24))
      have XX := Aside0.mk (heap_alloc_new w9 (.cells #[.int .i64 s, .slice a9 l.length c9] 24))
      have C1 := Aside0.mk (Kd.C_alloc hC9 (.cells #[.int .i64 s, .slice a9 l.length c9] 24))
      have C2 : Aside0 (Kd.C k54 (w9.alloc (.cells #[.int .i64 s, .slice a9 l.length c9] 24)) A l.length l) := ⟨(Kd.C_alloc (Kd.C_below (Kd.C_below HC.out (below_step HB7.out HBQ.out)) hb9) _)⟩
      have HB9 := Aside0.mk (below_alloc (below_step (below_step HB7.out HBQ.out) hb9) (.cells #[.int .i64 s, .slice a9 l.length c9] 24))
      clear hR9 hb9 hC9 HRP HBQ
      have y0 : (w9.alloc (.cells #[.int .i64 s, .slice a9 l.length c9] 24)).cell? ⟨w.heap.size, 0, none⟩ = some (.int .i64 s) := (blk_cell XT.out 0).trans rfl
      have y1 : (w9.alloc (.cells #[.int .i64 s, .slice a9 l.length c9] 24)).cell? ⟨w.heap.size, 1, none⟩ = some (.slice A l.length c) := (blk_cell XT.out 1).trans rfl
      go_wp2_with fail
      generalize w9.alloc (.cells #[.int .i64 s, .slice a9 l.length c9] 24) = wz at XT XX C1 C2 HB9 y0 y1 ⊢
      refine (Ext.Same.calls s a9 c9 l s A c l true _ C1.out hc9 C2.out hc (congrArg some (same_self s l))).mono ?_
      rintro e wy ⟨rfl, hby⟩
      have HBY := Aside0.mk (below_step HB9.out hby)
      clear hby y0 y1 XT XX C1 C2 HB9
      go_wp2
      go_ret
      exact ⟨rfl, HBY.out⟩
     ·have hR' : Kd.R Kd.string 9 wr wb.heap.size (fun _ => True) (.slice (some ⟨g, 0, none⟩) [S0, F1].length cap) [S0, F1] := HR.out
      have gc : wr.cell? ⟨g, 1, none⟩ = some (.string F1) := (Kd.R_cell ByteArray.empty hR' 1 (by decide) (by show (1 : Int) < 2; decide)).1
      have gz : wr.frozen? ⟨g, 1, none⟩ = false := (Kd.R_cell ByteArray.empty hR' 1 (by decide) (by show (1 : Int) < 2; decide)).2
      have HRP : Aside0 (Kd.R Kd.string 9 (wr.setCell ⟨g, 1, none⟩ (.string ⟨#[33]⟩)) wb.heap.size (fun _ => True) (.slice (some ⟨g, 0, none⟩) 2 cap) [S0, ⟨#[33]⟩]) := Aside0.mk (Kd.R_put hR' 1 ⟨#[33]⟩).1
      have HBQ : Aside0 (Below wb.heap.size wb (wr.setCell ⟨g, 1, none⟩ (.string ⟨#[33]⟩))) := ⟨HBB.out.setCell (p := ⟨g, 1, none⟩) hgB _⟩
      clear hR' HR HBB
      go_wp2_with fail
      generalize wr.setCell ⟨g, 1, none⟩ (.string ⟨#[33]⟩) = wq at HRP HBQ ⊢
      refine (prev2 HRP.out (C_two (blk_below G7.out HBQ.out)) (DS.out.1) (dec_no m b) (pw_cell_below (below_step HB7.out HBQ.out) HMX.out) (pk_first r1 r2) (by decide)).mono ?_
      rintro e w9 ⟨v9, rfl, hR9, hb9⟩
      obtain ⟨a9, c9, rfl, hc9, hC9⟩ := Kd.R_reads hR9
      have XT := Aside0.mk (blk_alloc (blk_below (blk_below U7.out HBQ.out) hb9) (.cells #[.int .i64 r1, .slice a9 r2.length c9] 24))
      have XX := Aside0.mk (heap_alloc_new w9 (.cells #[.int .i64 r1, .slice a9 r2.length c9] 24))
      have C1 := Aside0.mk (Kd.C_alloc hC9 (.cells #[.int .i64 r1, .slice a9 r2.length c9] 24))
      have C2 : Aside0 (Kd.C k54 (w9.alloc (.cells #[.int .i64 r1, .slice a9 r2.length c9] 24)) a1 r2.length r2) := ⟨(Kd.C_alloc (Kd.C_below (Kd.C_below O7.out HBQ.out) hb9) _)⟩
      have HB9 := Aside0.mk (below_alloc (below_step (below_step HB7.out HBQ.out) hb9) (.cells #[.int .i64 r1, .slice a9 r2.length c9] 24))
      clear hR9 hb9 hC9 HRP HBQ
      have y0 : (w9.alloc (.cells #[.int .i64 r1, .slice a9 r2.length c9] 24)).cell? ⟨gu, 0, none⟩ = some (.int .i64 r1) := (blk_cell XT.out 0).trans rfl
      have y1 : (w9.alloc (.cells #[.int .i64 r1, .slice a9 r2.length c9] 24)).cell? ⟨gu, 1, none⟩ = some (.slice a1 r2.length c1) := (blk_cell XT.out 1).trans rfl
      go_wp2_with fail
      generalize w9.alloc (.cells #[.int .i64 r1, .slice a9 r2.length c9] 24) = wz at XT XX C1 C2 HB9 y0 y1 ⊢
      refine (Ext.Same.calls r1 a9 c9 r2 r1 a1 c1 r2 true _ C1.out hc9 C2.out hc1' (congrArg some (same_self r1 r2))).mono ?_
      rintro e wy ⟨rfl, hby⟩
      have HBY := Aside0.mk (below_step HB9.out hby)
      clear hby y0 y1 XT XX C1 C2 HB9
      go_wp2
      go_ret
      exact ⟨rfl, HBY.out⟩
     ·have hR' : Kd.R Kd.string 9 wr wb.heap.size (fun _ => True) (.slice (some ⟨g, 0, none⟩) [S0, S1].length cap) [S0, S1] := HR.out
      have HRP : Aside0 (Kd.R Kd.string 9 wr wb.heap.size (fun _ => True) (.slice (some ⟨g, 0, none⟩) 2 cap) [S0, S1]) := ⟨hR'⟩
      have HBQ := HBB
      clear hR' HR HBB
      go_wp2_with fail
      generalize wr = wq at HRP HBQ ⊢
      refine (prev2 HRP.out (C_two (blk_below G7.out HBQ.out)) (DS.out.1) (DS.out.2) (pw_cell_below (below_step HB7.out HBQ.out) HMX.out) (pk_both r1 r2) (by decide)).mono ?_
      rintro e w9 ⟨v9, rfl, hR9, hb9⟩
      obtain ⟨a9, c9, rfl, hc9, hC9⟩ := Kd.R_reads hR9
      have XT := Aside0.mk (blk_alloc (blk_below (blk_below U7.out HBQ.out) hb9) (.cells #[.int .i64 r1, .slice a9 r2.length c9] 24))
      have XX := Aside0.mk (heap_alloc_new w9 (.cells #[.int .i64 r1, .slice a9 r2.length c9] 24))
      have C1 := Aside0.mk (Kd.C_alloc hC9 (.cells #[.int .i64 r1, .slice a9 r2.length c9] 24))
      have C2 : Aside0 (Kd.C k54 (w9.alloc (.cells #[.int .i64 r1, .slice a9 r2.length c9] 24)) a1 r2.length r2) := ⟨(Kd.C_alloc (Kd.C_below (Kd.C_below O7.out HBQ.out) hb9) _)⟩
      have HB9 := Aside0.mk (below_alloc (below_step (below_step HB7.out HBQ.out) hb9) (.cells #[.int .i64 r1, .slice a9 r2.length c9] 24))
      clear hR9 hb9 hC9 HRP HBQ
      have y0 : (w9.alloc (.cells #[.int .i64 r1, .slice a9 r2.length c9] 24)).cell? ⟨gu, 0, none⟩ = some (.int .i64 r1) := (blk_cell XT.out 0).trans rfl
      have y1 : (w9.alloc (.cells #[.int .i64 r1, .slice a9 r2.length c9] 24)).cell? ⟨gu, 1, none⟩ = some (.slice a1 r2.length c1) := (blk_cell XT.out 1).trans rfl
      go_wp2_with fail
      generalize w9.alloc (.cells #[.int .i64 r1, .slice a9 r2.length c9] 24) = wz at XT XX C1 C2 HB9 y0 y1 ⊢
      refine (Ext.Same.calls r1 a9 c9 r2 r1 a1 c1 r2 true _ C1.out hc9 C2.out hc1' (congrArg some (same_self r1 r2))).mono ?_
      rintro e wy ⟨rfl, hby⟩
      have HBY := Aside0.mk (below_step HB9.out hby)
      clear hby y0 y1 XT XX C1 C2 HB9
      go_wp2
      go_ret
      exact ⟨rfl, HBY.out⟩
end Go.Proofs.YtdepicgdbealpaaGreatDoor.Enc
