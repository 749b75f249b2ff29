/- sparing.Prevailing over blocks whose decoding is known. -/
import Derived.Test.YtdepicgdbealpaaGreatDoorReturns
namespace Go.Proofs.YtdepicgdbealpaaGreatDoor.Enc
set_option linter.unusedVariables false
set_option linter.unusedSimpArgs false
open Go.RowKit Go.Lib Go.Proofs.YtdepicgdbealpaaGreatDoorW.PrintWords Go.Proofs.YtdepicgdbealpaaGreatDoorW.PrintLast Go.Proofs.YtdepicgdbealpaaGreatDoorW.PrintMore
open Go.Proofs.YtdepicgdbealpaaGreatDoor Go.Proofs.YtdepicgdbealpaaGreatDoor.V Go.Proofs.YtdepicgdbealpaaGreatDoor.Spare

abbrev Dd := Int × List S54 × Int
def d0 : Dd := (0, [], 0)
def stepP (i : Nat) (d : Dd) (st : Dd) : Dd := if d.2.2 = 0 ∧ (st.2.2 < 0 ∨ d.1 > st.1) then (d.1, d.2.1, (i : Int)) else st
/-- The table that prevails among the first k: its sequence, its entries, its index (-1: none). -/
def pk (ds : List Dd) : Nat → Dd
 | 0 => (0, [], -1)
 | k + 1 => stepP k (ds.getD k d0) (pk ds k)
theorem pk_succ (ds : List Dd) (k : Nat) : pk ds (k + 1) = stepP k (ds.getD k d0) (pk ds k) := rfl
set_option maxHeartbeats 4000000 in
set_option maxRecDepth 100000 in
theorem prevailing_calls (A : Option Addr) (c : Nat) (bs : List ByteArray) (A3 : Option Addr) (c3 : Nat) (ls : List Int) (ds : List Dd) (m : Int) (w : World) (hm : w.cell? ⟨0, 0, none⟩ = some (.int .i64 m))
  (hr : Kd.C Kd.string w A bs.length bs) (hc : bs.length ≤ c) (hr3 : Kd.C (Kd.int .i64) w A3 ls.length ls) (hc3 : ls.length ≤ c3) (hl : ls.length = bs.length)
  (HD : Aside0 (∀ i : Nat, i < bs.length → ∀ W : World, W.cell? ⟨0, 0, none⟩ = some (.int .i64 m) → Calls Tryz.prog 8 #[.string (rdOf ByteArray.empty bs i), .int .i64 (rd ls i)] W fun e w' => ∃ v, e = .returned (.tuple #[.agg #[.int .i64 (ds.getD i d0).1, v], .int .i64 (ds.getD i d0).2.2]) ∧ Kd.R k54 54 w' W.heap.size (fun _ => True) v (ds.getD i d0).2.1 ∧ Below W.heap.size W w'))
  (h0 : 0 ≤ (pk ds bs.length).2.2) :
  Calls Tryz.prog 13 #[.slice A bs.length c, .slice A3 ls.length c3] w fun e w' => ∃ v, e = .returned (.tuple #[.agg #[.int .i64 (pk ds bs.length).1, v], .int .i64 (pk ds bs.length).2.2, .int .i64 0]) ∧ Kd.R k54 54 w' w.heap.size (fun _ => True) v (pk ds bs.length).2.1 ∧ Below w.heap.size w w' := by
 have hu24 := Tryz.underlying24
 have hu22 := Tryz.underlying22
 have hn : bs.length ≤ 9223372036854775807 := hr.2.1
 have hld : ((bs.length : Int) != (ls.length : Int)) = false := by rw [hl]; simp
 have HC := Aside0.mk hr
 have HC3 := Aside0.mk hr3
 have HM := Aside0.mk hm
 have HL := Aside0.mk hl
 have H0 := Aside0.mk h0
 clear hr hr3 hm hl h0
 go_enter Tryz.func13, Tryz.ntmps13
 go_wp2_with fail
 have q0 : ((w.alloc (.cells #[.int .i64 0, .slice none 0 0] 24)).alloc (.cells #[.int .i64 0, .slice none 0 0] 24)).heap[w.heap.size]? = some (.cells #[.int .i64 0, .slice none 0 0] 24 (0, 0)) := blk_alloc (blk_new w _) _
 have q1 : ((w.alloc (.cells #[.int .i64 0, .slice none 0 0] 24)).alloc (.cells #[.int .i64 0, .slice none 0 0] 24)).heap[w.heap.size + 1]? = some (.cells #[.int .i64 0, .slice none 0 0] 24 (0, 0)) := by
  have := blk_new (w.alloc (.cells #[.int .i64 0, .slice none 0 0] 24)) (.cells #[.int .i64 0, .slice none 0 0] 24)
  rw [show (w.alloc (.cells #[.int .i64 0, .slice none 0 0] 24)).heap.size = w.heap.size + 1 by simp] at this
  exact this
 have hB0 : Below w.heap.size w ((w.alloc (.cells #[.int .i64 0, .slice none 0 0] 24)).alloc (.cells #[.int .i64 0, .slice none 0 0] 24)) := below_alloc (below_alloc (Below.refl _ w) _) _
 generalize (w.alloc (.cells #[.int .i64 0, .slice none 0 0] 24)).alloc (.cells #[.int .i64 0, .slice none 0 0] 24) = w0 at q0 q1 hB0 ⊢
 have P0 := Aside0.mk q0
 have P1 := Aside0.mk q1
 have HB := Aside0.mk hB0
 clear q0 q1 hB0
 go_loopg [8, 21] bs.length (fun gg s8 s21 wr => ∃ (kk : Nat) (q b : Int) (L : List S54) (v : Value), s8 = .int .i64 b ∧ s21 = .int .i64 kk ∧ kk ≤ bs.length ∧ bs.length - kk ≤ gg ∧ -1 ≤ b ∧ b ≤ kk ∧ Aside0 (pk ds kk = (q, L, b)) ∧
  Aside0 (wr.heap[w.heap.size + 1]? = some (.cells #[.int .i64 q, v] 24 (0, 0))) ∧ Aside0 (Kd.R k54 54 wr w.heap.size (fun _ => True) v L) ∧ Aside0 (wr.heap[w.heap.size]? = some (.cells #[.int .i64 0, .slice none 0 0] 24 (0, 0))) ∧ Aside0 (Below w.heap.size w wr))
 case atStart => exact ⟨0, 0, -1, [], .slice none 0 0, rfl, rfl, Nat.zero_le _, by omega, by omega, by omega, ⟨rfl⟩, P1, ⟨Kd.R_nil _ _ _ _ _⟩, P0, HB⟩
 case round =>
  clear P0 P1 HB hld
  obtain ⟨kk, q, b, L, v, rfl, rfl, hkk, hgg, hb1, hb2, HP, P1, HR, P0, HB⟩ := hrel
  by_cases hlt : kk < bs.length
  ·have hltd : decide ((kk : Int) < (bs.length : Int)) = true := decide_eq_true (by omega)
   obtain ⟨ad, e1, hx⟩ := Kd.at_string HC.out (kk : Int) (by omega) (by omega)
   obtain ⟨ad3, e3, hx3⟩ := Kd.at_int HC3.out (kk : Int) (by omega) (by have := HL.out; omega)
   cases e1
   cases e3
   replace hx := (HB.out.cell (World.block_lt_of_cell? w _ hx)).trans hx
   replace hx3 := (HB.out.cell (World.block_lt_of_cell? w _ hx3)).trans hx3
   rw [Int.toNat_natCast] at hx hx3
   have hlz : (kk : Int) < (ls.length : Int) := by have := HL.out; omega
   have hDD := Aside0.mk (HD.out kk hlt)
   have hps := Aside0.mk (pk_succ ds kk)
   obtain ⟨q2, L2, er, hdd⟩ : ∃ q2 L2 er, ds.getD kk d0 = (q2, L2, er) := ⟨_, _, _, rfl⟩
   rw [hdd] at hDD hps
   rw [HP.out] at hps
   clear hdd
   go_wp2_with fail
   refine (hDD.out _ (pw_cell_below HB.out HM.out)).mono ?_
   rintro e w1 ⟨v2, rfl, hR2, hb⟩
   obtain ⟨A2, c2, rfl⟩ := Kd.R_slice hR2
   have P1' := Aside0.mk (blk_alloc (blk_below P1.out hb) (.cells #[.int .i64 q2, .slice A2 L2.length c2] 24))
   have P0' := Aside0.mk (blk_alloc (blk_below P0.out hb) (.cells #[.int .i64 q2, .slice A2 L2.length c2] 24))
   have PN := Aside0.mk (heap_alloc_new w1 (.cells #[.int .i64 q2, .slice A2 L2.length c2] 24))
   have HR1 := Aside0.mk (Kd.R_alloc (Kd.R_below HR.out hb) (.cells #[.int .i64 q2, .slice A2 L2.length c2] 24))
   have HR2 := Aside0.mk (Kd.R_alloc (Kd.R_lower hR2 HB.out.size) (.cells #[.int .i64 q2, .slice A2 L2.length c2] 24))
   have HB1 := Aside0.mk (below_alloc (below_step HB.out hb) (.cells #[.int .i64 q2, .slice A2 L2.length c2] 24))
   clear hR2 hb P1 P0 HR HB hx hx3
   go_upto_region 9 with fail
   generalize w1.alloc (.cells #[.int .i64 q2, .slice A2 L2.length c2] 24) = w2 at P1' P0' PN HR1 HR2 HB1 ⊢
   generalize w1.heap.size = gn at PN ⊢
   have m0 : w2.cell? ⟨w.heap.size + 1, 0, none⟩ = some (.int .i64 q) := (blk_cell P1'.out 0).trans rfl
   have m1 : w2.cell? ⟨w.heap.size + 1, 1, none⟩ = some v := (blk_cell P1'.out 1).trans rfl
   have n0 : w2.cell? ⟨gn, 0, none⟩ = some (.int .i64 q2) := (blk_cell PN.out 0).trans rfl
   have n1 : w2.cell? ⟨gn, 1, none⟩ = some (.slice A2 L2.length c2) := (blk_cell PN.out 1).trans rfl
   have f0 := blk_frozen P1'.out 0
   have f1 := blk_frozen P1'.out 1
   have hR3 := Kd.R_set HR2.out P1'.out (by decide) 0 (.int .i64 q2)
   have hR4 := Kd.R_set hR3 (blk_put (cs := #[.int .i64 q, v]) P1'.out 0 (.int .i64 q2) rfl) (by decide) 1 (.slice A2 L2.length c2)
   have HR4 := Aside0.mk hR4
   have P14 := Aside0.mk (blk_put (cs := #[.int .i64 q2, v]) (blk_put (cs := #[.int .i64 q, v]) P1'.out 0 (.int .i64 q2) rfl) 1 (.slice A2 L2.length c2) rfl)
   have P04 := Aside0.mk (blk_far (blk_far P0'.out (p := ⟨w.heap.size + 1, 0, none⟩) (by show w.heap.size ≠ w.heap.size + 1; omega) (.int .i64 q2)) (p := ⟨w.heap.size + 1, 1, none⟩) (by show w.heap.size ≠ w.heap.size + 1; omega) (.slice A2 L2.length c2))
   have HB4 := Aside0.mk ((HB1.out.setCell (p := ⟨w.heap.size + 1, 0, none⟩) (Nat.le_succ _) (.int .i64 q2)).setCell (p := ⟨w.heap.size + 1, 1, none⟩) (Nat.le_succ _) (.slice A2 L2.length c2))
   clear hR3 hR4
   by_cases hE : er = 0
   ·subst hE
    by_cases hb0 : b < 0
    ·have hbd : decide (b < 0) = true := decide_eq_true hb0
     have hst : stepP kk (q2, L2, 0) (q, L, b) = (q2, L2, (kk : Int)) := by unfold stepP; rw [if_pos ⟨rfl, Or.inl hb0⟩]
     rw [hst] at hps
     clear hst hb0
     go_wp2
     go_roundg (bs.length - (kk + 1))
     case measure => omega
     case rel => exact ⟨kk + 1, q2, (kk : Int), L2, _, rfl, by go_num, by omega, by omega, by omega, by omega, hps, P14, HR4, P04, HB4⟩
    ·have hbd : decide (b < 0) = false := decide_eq_false hb0
     by_cases hq : q2 > q
     ·have hqd : decide (q2 > q) = true := decide_eq_true hq
      have hst : stepP kk (q2, L2, 0) (q, L, b) = (q2, L2, (kk : Int)) := by unfold stepP; rw [if_pos ⟨rfl, Or.inr hq⟩]
      rw [hst] at hps
      clear hst hb0 hq
      go_wp2
      go_roundg (bs.length - (kk + 1))
      case measure => omega
      case rel => exact ⟨kk + 1, q2, (kk : Int), L2, _, rfl, by go_num, by omega, by omega, by omega, by omega, hps, P14, HR4, P04, HB4⟩
     ·have hqd : decide (q2 > q) = false := decide_eq_false hq
      have hst : stepP kk (q2, L2, 0) (q, L, b) = (q, L, b) := by unfold stepP; rw [if_neg (by rintro ⟨_, h | h⟩ <;> contradiction)]
      rw [hst] at hps
      clear hst hb0 hq
      go_wp2
      go_roundg (bs.length - (kk + 1))
      case measure => omega
      case rel => exact ⟨kk + 1, q, b, L, v, rfl, by go_num, by omega, by omega, by omega, by omega, hps, P1', HR1, P0', HB1⟩
   ·have hEd : (er == 0) = false := beq_eq_false_iff_ne.2 hE
    have hst : stepP kk (q2, L2, er) (q, L, b) = (q, L, b) := by unfold stepP; rw [if_neg (by rintro ⟨h, _⟩; exact hE h)]
    rw [hst] at hps
    clear hst hE
    go_wp2
    go_roundg (bs.length - (kk + 1))
    case measure => omega
    case rel => exact ⟨kk + 1, q, b, L, v, rfl, by go_num, by omega, by omega, by omega, by omega, hps, P1', HR1, P0', HB1⟩
  ·have hltd : decide ((kk : Int) < (bs.length : Int)) = false := decide_eq_false (by omega)
   obtain rfl : kk = bs.length := by omega
   have h0 := H0.out
   rw [HP.out] at h0
   have hb0 : decide (b < 0) = false := decide_eq_false (by show ¬ b < 0; exact Int.not_lt.2 h0)
   obtain ⟨A2, c2, rfl⟩ := Kd.R_slice HR.out
   have m0 : wr.cell? ⟨w.heap.size + 1, 0, none⟩ = some (.int .i64 q) := (blk_cell P1.out 0).trans rfl
   have m1 : wr.cell? ⟨w.heap.size + 1, 1, none⟩ = some (.slice A2 L.length c2) := (blk_cell P1.out 1).trans rfl
   have t0 : wr.cell? ⟨w.heap.size, 0, none⟩ = some (.int .i64 0) := (blk_cell P0.out 0).trans rfl
   have t1 : wr.cell? ⟨w.heap.size, 1, none⟩ = some (.slice none 0 0) := (blk_cell P0.out 1).trans rfl
   have f0 := blk_frozen P0.out 0
   have f1 := blk_frozen P0.out 1
   clear h0 hlt
   go_wp2
   have hR3 := Kd.R_set HR.out P0.out (by decide) 0 (.int .i64 q)
   have hR4 := Kd.R_set hR3 (blk_put (cs := #[.int .i64 0, .slice none 0 0]) P0.out 0 (.int .i64 q) rfl) (by decide) 1 (.slice A2 L.length c2)
   refine bodyPost_ret (results_ctt rfl _ _ w.heap.size 24 #[.int .i64 q, .slice A2 L.length c2] (0, 0) _ rfl (blk_put (cs := #[.int .i64 q, .slice none 0 0]) (blk_put (cs := #[.int .i64 0, .slice none 0 0]) P0.out 0 _ rfl) 1 _ rfl) Tryz.underlying24 rfl (by kernel_rfl)) rfl ?_
   rw [HP.out]
   exact ⟨_, rfl, hR4, (HB.out.setCell (Nat.le_refl _) _).setCell (Nat.le_refl _) _⟩
end Go.Proofs.YtdepicgdbealpaaGreatDoor.Enc
