/- sparing.Decode at a good block. -/
import Derived.Test.YtdepicgdbealpaaGreatDoorDec
namespace Go.Proofs.YtdepicgdbealpaaGreatDoor.Enc
set_option linter.unusedVariables false
set_option linter.unusedSimpArgs false
open Go.RowKit Go.Lib Go.Proofs.YtdepicgdbealpaaGreatDoorW.PrintWords Go.Proofs.YtdepicgdbealpaaGreatDoorW.PrintLast Go.Proofs.YtdepicgdbealpaaGreatDoorW.PrintMore
open Go.Proofs.YtdepicgdbealpaaGreatDoor Go.Proofs.YtdepicgdbealpaaGreatDoor.V Go.Proofs.YtdepicgdbealpaaGreatDoor.Spare

theorem entL_len (b : ByteArray) (n : Nat) : (entL b n).length = n := by simp [entL]
theorem entL_succ (b : ByteArray) (n : Nat) : entL b (n + 1) = entL b n ++ [(⟨((rdN b (56 + 8 * n) 4 : Nat) : Int), ((rdN b (60 + 8 * n) 4 : Nat) : Int)⟩ : S54)] := by
 unfold entL
 rw [List.range_succ, List.map_append]
 rfl

set_option maxHeartbeats 4000000 in
set_option maxRecDepth 100000 in
theorem decode_good (b : ByteArray) (loc m : Int) (n : Nat) (w : World) (hm : w.cell? ⟨0, 0, none⟩ = some (.int .i64 m)) (hz : b.size = 2048) (hi : isF b 0 loc = true) (hE : b.extract 16 48 = E0) (hn : rdN b 48 2 = n) (h8 : n ≤ 8)
  (hv : validB ((rdN b 52 4 : Nat) : Int) (entL b n) = true) :
  Calls Tryz.prog 8 #[.string b, .int .i64 loc] w fun e w' => ∃ v, e = .returned (.tuple #[.agg #[.int .i64 ((rdN b 52 4 : Nat) : Int), v], .int .i64 0]) ∧ Kd.R k54 54 w' w.heap.size (fun _ => True) v (entL b n) ∧ Below w.heap.size w w' := by
 have hu24 := Tryz.underlying24
 have hu22 := Tryz.underlying22
 have h2d : ((b.size : Int) != 2048) = false := by rw [hz]; rfl
 have HI := fun W => is_calls b 0 loc W (by omega) (by omega)
 rw [hi] at HI
 have HE := fun W hm => entity_read m W hm
 have hsl : ∀ W, (Instr.slice 9 (.string b) (some (.int .i64 16)) (some (.int .i64 48)) none).run Tryz.prog W = .ok (.string E0) W := fun W => by
  have := run_slice_string W 9 b .i64 .i64 16 48 Tryz.underlying9 (by omega) (by omega) (by omega)
  rw [this, ← hE]
  rfl
 have HN := fun W g hg => num_calls b 48 2 g W hg (by omega) (by omega) (by omega)
 rw [hn] at HN
 have HN2 := fun W g hg => num_calls b 52 4 g W hg (by omega) (by omega) (by omega)
 have HNE : Aside0 (∀ (i : Nat), i < 8 → ∀ (W : World) (g : Nat), W.heap[g]? = some (.cells #[.string b] 9 (0, 0)) → Calls Tryz.prog 24 #[.int .i64 (56 + 8 * (i : Int)), .int .i64 4, .pointer (some ⟨g, 0, none⟩)] W fun e w' => e = .returned (.int .i64 ((rdN b (56 + 8 * i) 4 : Nat) : Int)) ∧ Below W.heap.size W w') := ⟨fun (i : Nat) (hi : i < 8) W g hg => by
  have := num_calls b (56 + 8 * i) 4 g W hg (by omega) (by omega) (by omega)
  rw [show ((56 + 8 * i : Nat) : Int) = 56 + 8 * (i : Int) by omega] at this
  exact this⟩
 have HNF : Aside0 (∀ (i : Nat), i < 8 → ∀ (W : World) (g : Nat), W.heap[g]? = some (.cells #[.string b] 9 (0, 0)) → Calls Tryz.prog 24 #[.int .i64 (60 + 8 * (i : Int)), .int .i64 4, .pointer (some ⟨g, 0, none⟩)] W fun e w' => e = .returned (.int .i64 ((rdN b (60 + 8 * i) 4 : Nat) : Int)) ∧ Below W.heap.size W w') := ⟨fun (i : Nat) (hi : i < 8) W g hg => by
  have := num_calls b (60 + 8 * i) 4 g W hg (by omega) (by omega) (by omega)
  rw [show ((60 + 8 * i : Nat) : Int) = 60 + 8 * (i : Int) by omega] at this
  exact this⟩
 have HES := Aside0.mk (entL_succ b)
 have HEL := Aside0.mk (entL_len b)
 have hd8 : decide ((n : Int) > 8) = false := decide_eq_false (by omega)
 have hidd : ident.toList = [42, 85, 68, 70, 32, 83, 112, 97, 114, 105, 110, 103, 32, 84, 97, 98, 108, 101] := by decide +kernel
 generalize ((rdN b 52 4 : Nat) : Int) = sq at HN2 hv ⊢
 have HVV := Aside0.mk (fun (A : Option Addr) (c : Nat) (W : World) hr hc => valid_calls sq A c (entL b n) W hr hc)
 rw [hv] at HVV
 clear hi hE hn hv hz
 generalize E0 = e0 at *
 go_enter Tryz.func8, Tryz.ntmps8
 go_wp2_with fail
 obtain ⟨q0, q1, q2⟩ := three_new w (.cells #[.string b] 9) (.cells #[.int .i64 0, .slice none 0 0] 24) (.cells #[.int .i64 0, .slice none 0 0] 24)
 have hB0 : Below w.heap.size w (((w.alloc (.cells #[.string b] 9)).alloc (.cells #[.int .i64 0, .slice none 0 0] 24)).alloc (.cells #[.int .i64 0, .slice none 0 0] 24)) := below_alloc (below_alloc (below_alloc (Below.refl _ w) _) _) _
 generalize ((w.alloc (.cells #[.string b] 9)).alloc (.cells #[.int .i64 0, .slice none 0 0] 24)).alloc (.cells #[.int .i64 0, .slice none 0 0] 24) = w0 at q0 q1 q2 hB0 ⊢
 refine (HI _).mono ?_
 rintro e w1 ⟨rfl, hb1⟩
 have p0 := blk_below q0 hb1
 have p1 := blk_below q1 hb1
 have hB1 := below_step hB0 hb1
 clear q0 q1 q2 hb1 hB0 w0
 have u0 : w1.cell? ⟨w.heap.size, 0, none⟩ = some (.string b) := (blk_cell p0 0).trans rfl
 have P0 := Aside0.mk p0
 have P1 := Aside0.mk p1
 have HB1 := Aside0.mk hB1
 clear p0 p1 hB1
 go_wp2_with fail
 refine (HE _ (pw_cell_below HB1.out hm)).mono ?_
 rintro e w2 ⟨x, rfl, hb2⟩
 have p0 := blk_below P0.out hb2
 have P1b := Aside0.mk (blk_below P1.out hb2)
 have HB2 := Aside0.mk (below_step HB1.out hb2)
 have P0b := Aside0.mk p0
 clear P0 P1 HB1 hb2 p0 u0 hm HI HE hsl
 go_wp2_with fail
 refine (HN _ _ P0b.out).mono ?_
 rintro e w3 ⟨rfl, hb3⟩
 have P0 := Aside0.mk (blk_below P0b.out hb3)
 have P1 := Aside0.mk (blk_below P1b.out hb3)
 have HB3 := Aside0.mk (below_step HB2.out hb3)
 clear P0b P1b HB2 hb3 HN
 go_wp2_with fail
 refine (HN2 _ _ P0.out).mono ?_
 rintro e w4 ⟨rfl, hb4⟩
 have P0b := Aside0.mk (blk_below P0.out hb4)
 have P1b := Aside0.mk (blk_below P1.out hb4)
 have HB4 := Aside0.mk (below_step HB3.out hb4)
 clear P0 P1 HB3 hb4 HN2
 go_upto_block 0 with fail
 have HT := Aside0.mk (blk_new w4 (.cells #[.int .i64 sq, .slice none 0 0] 24))
 have P0 := Aside0.mk (blk_alloc P0b.out (.cells #[.int .i64 sq, .slice none 0 0] 24))
 have P1 := Aside0.mk (blk_alloc P1b.out (.cells #[.int .i64 sq, .slice none 0 0] 24))
 have HB5 := Aside0.mk (below_alloc HB4.out (.cells #[.int .i64 sq, .slice none 0 0] 24))
 have NE0 : Aside0 (w.heap.size + 1 < w4.heap.size) := ⟨blk_lt P1b.out⟩
 have NB : Aside0 (∀ u : Value, ∀ wx : World, wx.heap[w4.heap.size]? = some (.cells #[.int .i64 sq, u] 24 (0, 0)) → wx.heap[w4.heap.size]? = some (.cells #[.int .i64 sq, u] 24 (0, 0))) := ⟨fun _ _ h => h⟩
 clear P0b P1b HB4
 generalize w4.alloc (.cells #[.int .i64 sq, .slice none 0 0] 24) = w5 at HT P0 P1 HB5 ⊢
 generalize w4.heap.size = tb at HT NE0 NB ⊢
 clear NB
 go_wp2_with fail
 go_loopg [50] n (fun gg s50 wr => ∃ (kk : Nat) (v : Value), s50 = .int .i64 kk ∧ kk ≤ n ∧ n - kk ≤ gg ∧ Aside0 (wr.heap[tb]? = some (.cells #[.int .i64 sq, v] 24 (0, 0))) ∧ Aside0 (Kd.R k54 54 wr w.heap.size (fun _ => True) v (entL b kk)) ∧
  Aside0 (wr.heap[w.heap.size]? = some (.cells #[.string b] 9 (0, 0))) ∧ Aside0 (wr.heap[w.heap.size + 1]? = some (.cells #[.int .i64 0, .slice none 0 0] 24 (0, 0))) ∧ Aside0 (Below w.heap.size w wr))
 case atStart => exact ⟨0, .slice none 0 0, rfl, Nat.zero_le _, by omega, HT, ⟨Kd.R_nil _ _ _ _ _⟩, P0, P1, HB5⟩
 case round =>
  clear HT P0 P1 HB5 h2d hd8 hidd
  obtain ⟨kk, v, rfl, hkk, hgg, HT, HR, P0, P1, HB⟩ := hrel
  by_cases hlt : kk < n
  ·have hltz : (kk : Int) < (n : Int) := by omega
   have m1 : wrap64 (8 * (kk : Int)) = 8 * (kk : Int) := w64e _ (by omega)
   have m2 : wrap64 (56 + 8 * (kk : Int)) = 56 + 8 * (kk : Int) := w64e _ (by omega)
   have m3 : wrap64 (60 + 8 * (kk : Int)) = 60 + 8 * (kk : Int) := w64e _ (by omega)
   have m1' : IntKind.i64.wrap (8 * (kk : Int)) = 8 * (kk : Int) := by rw [IntWalk.i64_left]; exact m1
   have m2' : IntKind.i64.wrap (56 + 8 * (kk : Int)) = 56 + 8 * (kk : Int) := by rw [IntWalk.i64_left]; exact m2
   have m3' : IntKind.i64.wrap (60 + 8 * (kk : Int)) = 60 + 8 * (kk : Int) := by rw [IntWalk.i64_left]; exact m3
   have hnx := HES.out kk
   have HNX := Aside0.mk hnx
   clear hnx
   go_wp2_with fail
   have hS0 : wr.drew.cell? ⟨tb, 1, none⟩ = some v := (blk_cell (blk_drew HT.out) 1).trans rfl
   refine start_ (n := 17) (S := fun w' => w'.cell? ⟨tb, 1, none⟩ = some v) (ds := [16]) #[false, false, false, false, false, false, false, false, false, false, false, false, false, false, false, false, false] (by kernel_rfl) rfl rfl hS0 (fun hHeld => ?_)
   refine pure_ (i := 0) (N := some 53) (v := ?_) (a' := ?_) #[true, false, false, false, false, false, false, false, false, false, false, false, false, false, false, false, false] rfl rfl (by kernel_rfl) (fun _ _ _ h => h) (Or.inl ⟨by rfl, ?_⟩) ?_ ?_
   rotate_left
   ·intro w'
    go_simp
    with_reducible rfl
   rotate_left
   ·simp only [Act.put, List.setIfInBounds_toArray, List.set_cons_zero, List.set_cons_succ, i64_w, i32_w]
    rfl
   refine pure_ (i := 2) (N := some 55) (v := ?_) (a' := ?_) #[true, false, true, false, false, false, false, false, false, false, false, false, false, false, false, false, false] rfl rfl (by kernel_rfl) (fun _ _ _ h => h) (Or.inl ⟨by rfl, ?_⟩) ?_ ?_
   rotate_left
   ·intro w'
    go_simp
    with_reducible rfl
   rotate_left
   ·simp only [Act.put, List.setIfInBounds_toArray, List.set_cons_zero, List.set_cons_succ, i64_w, i32_w]
    rfl
   refine pure_ (i := 3) (N := some 56) (v := ?_) (a' := ?_) #[true, false, true, true, false, false, false, false, false, false, false, false, false, false, false, false, false] rfl rfl (by kernel_rfl) (fun _ _ _ h => h) (Or.inl ⟨by rfl, ?_⟩) ?_ ?_
   rotate_left
   ·intro w'
    go_simp
    with_reducible rfl
   rotate_left
   ·simp only [Act.put, List.setIfInBounds_toArray, List.set_cons_zero, List.set_cons_succ, i64_w, i32_w]
    rfl
   refine pure_ (i := 7) (N := some 60) (v := ?_) (a' := ?_) #[true, false, true, true, false, false, false, true, false, false, false, false, false, false, false, false, false] rfl rfl (by kernel_rfl) (fun _ _ _ h => h) (Or.inl ⟨by rfl, ?_⟩) ?_ ?_
   rotate_left
   ·intro w'
    go_simp
    with_reducible rfl
   rotate_left
   ·simp only [Act.put, List.setIfInBounds_toArray, List.set_cons_zero, List.set_cons_succ, i64_w, i32_w]
    rfl
   refine pure_ (i := 8) (N := some 61) (v := ?_) (a' := ?_) #[true, false, true, true, false, false, false, true, true, false, false, false, false, false, false, false, false] rfl rfl (by kernel_rfl) (fun _ _ _ h => h) (Or.inl ⟨by rfl, ?_⟩) ?_ ?_
   rotate_left
   ·intro w'
    go_simp
    with_reducible rfl
   rotate_left
   ·simp only [Act.put, List.setIfInBounds_toArray, List.set_cons_zero, List.set_cons_succ, i64_w, i32_w]
    rfl
   refine pure_ (i := 4) (N := some 57) (v := ?_) (a' := ?_) #[true, false, true, true, true, false, false, true, true, false, false, false, false, false, false, false, false] rfl rfl (by kernel_rfl) (fun _ _ _ h => h) (Or.inl ⟨by rfl, ?_⟩) ?_ ?_
   rotate_left
   ·intro w'
    go_simp
    with_reducible rfl
   rotate_left
   ·simp only [Act.put, List.setIfInBounds_toArray, List.set_cons_zero, List.set_cons_succ, i64_w, i32_w]
    rfl
   refine pure_ (i := 5) (N := some 58) (v := ?_) (a' := ?_) #[true, false, true, true, true, true, false, true, true, false, false, false, false, false, false, false, false] rfl rfl (by kernel_rfl) (fun _ _ _ h => h) (Or.inl ⟨by rfl, ?_⟩) ?_ ?_
   rotate_left
   ·intro w'
    go_simp
    with_reducible rfl
   rotate_left
   ·simp only [Act.put, List.setIfInBounds_toArray, List.set_cons_zero, List.set_cons_succ, i64_w, i32_w]
    rfl
   refine pure_ (i := 9) (N := some 62) (v := ?_) (a' := ?_) #[true, false, true, true, true, true, false, true, true, true, false, false, false, false, false, false, false] rfl rfl (by kernel_rfl) (fun _ _ _ h => h) (Or.inl ⟨by rfl, ?_⟩) ?_ ?_
   rotate_left
   ·intro w'
    go_simp
    with_reducible rfl
   rotate_left
   ·simp only [Act.put, List.setIfInBounds_toArray, List.set_cons_zero, List.set_cons_succ, i64_w, i32_w]
    rfl
   refine pure_ (i := 10) (N := some 63) (v := ?_) (a' := ?_) #[true, false, true, true, true, true, false, true, true, true, true, false, false, false, false, false, false] rfl rfl (by kernel_rfl) (fun _ _ _ h => h) (Or.inl ⟨by rfl, ?_⟩) ?_ ?_
   rotate_left
   ·intro w'
    go_simp
    with_reducible rfl
   rotate_left
   ·simp only [Act.put, List.setIfInBounds_toArray, List.set_cons_zero, List.set_cons_succ, i64_w, i32_w]
    rfl
   refine take_ (i := 1) (N := some 54) (v := ?_) (a' := ?_) #[true, true, true, true, true, true, false, true, true, true, true, false, false, false, false, false, false] rfl rfl (by kernel_rfl) (fun _ _ _ h => h) (Or.inl ⟨by rfl, ?_⟩) hHeld ?_ ?_
   rotate_left
   ·intro w' hSw
    try dsimp only at hSw
    go_simp
    with_reducible rfl
   rotate_left
   ·simp only [Act.put, List.setIfInBounds_toArray, List.set_cons_zero, List.set_cons_succ, i64_w, i32_w]
    rfl
   refine one_ (i := 6) (N := some 59) #[true, true, true, true, true, true, true, true, true, true, true, false, false, false, false, false, false] rfl rfl (by kernel_rfl) (by decide) (fun K hK => ?_)
   refine goesC_ Tryz.func24 (by kernel_rfl) rfl #[.pointer (some ⟨w.heap.size, 0, none⟩)] #[.int .i64 (56 + 8 * (kk : Int)), .int .i64 4, .pointer (some ⟨w.heap.size, 0, none⟩)] (by rfl) rfl rfl rfl (by (try simp only [List.map_toArray, List.map_cons, List.map_nil]); first | done | rfl) ?_
   with_reducible refine (HNE.out kk (by omega) _ _ (blk_drew P0.out)).mono ?_
   rintro e w6 ⟨rfl, hb6⟩
   have HT6 := Aside0.mk (blk_below (blk_drew HT.out) hb6)
   have P06 := Aside0.mk (blk_below (blk_drew P0.out) hb6)
   have P16 := Aside0.mk (blk_below (blk_drew P1.out) hb6)
   have HR6 := Aside0.mk (Kd.R_below (Kd.R_drew HR.out) hb6)
   have HB6 := Aside0.mk (below_step HB.out.drew hb6)
   clear HT P0 P1 HR HB hb6
   refine ⟨_, rfl, ?_⟩
   refine hK.out _ _ ((blk_cell HT6.out 1).trans rfl) (fun hHeld => ?_)
   clear hK K
   refine norm_ (a' := ?_) ?_ ?_
   rotate_left
   ·show Act.put _ (some 59) _ = _
    simp only [Act.put, List.setIfInBounds_toArray, List.set_cons_zero, List.set_cons_succ, i64_w, i32_w]
    rfl
   refine one_ (i := 11) (N := some 64) #[true, true, true, true, true, true, true, true, true, true, true, true, false, false, false, false, false] rfl rfl (by kernel_rfl) (by decide) (fun K hK => ?_)
   refine goesC_ Tryz.func24 (by kernel_rfl) rfl #[.pointer (some ⟨w.heap.size, 0, none⟩)] #[.int .i64 (60 + 8 * (kk : Int)), .int .i64 4, .pointer (some ⟨w.heap.size, 0, none⟩)] (by rfl) rfl rfl rfl (by (try simp only [List.map_toArray, List.map_cons, List.map_nil]); first | done | rfl) ?_
   with_reducible refine (HNF.out kk (by omega) _ _ P06.out).mono ?_
   rintro e w7 ⟨rfl, hb7⟩
   have HT7 := Aside0.mk (blk_below HT6.out hb7)
   have P07 := Aside0.mk (blk_below P06.out hb7)
   have P17 := Aside0.mk (blk_below P16.out hb7)
   have HR7 := Aside0.mk (Kd.R_below HR6.out hb7)
   have HB7 := Aside0.mk (below_step HB6.out hb7)
   clear HT6 P06 P16 HR6 HB6 hb7
   refine ⟨_, rfl, ?_⟩
   refine hK.out _ _ ((blk_cell HT7.out 1).trans rfl) (fun hHeld => ?_)
   clear hK K
   refine norm_ (a' := ?_) ?_ ?_
   rotate_left
   ·show Act.put _ (some 64) _ = _
    simp only [Act.put, List.setIfInBounds_toArray, List.set_cons_zero, List.set_cons_succ, i64_w, i32_w]
    rfl
   generalize rdN b (56 + 8 * kk) 4 = x0 at *
   generalize rdN b (60 + 8 * kk) 4 = x1 at *
   refine pure_ (i := 12) (N := some 65) (v := ?_) (a' := ?_) #[true, true, true, true, true, true, true, true, true, true, true, true, true, false, false, false, false] rfl rfl (by kernel_rfl) (fun _ _ _ h => h) (Or.inl ⟨by rfl, ?_⟩) ?_ ?_
   rotate_left
   ·intro w'
    go_simp
    with_reducible rfl
   rotate_left
   ·simp only [Act.put, List.setIfInBounds_toArray, List.set_cons_zero, List.set_cons_succ, i64_w, i32_w]
    rfl
   refine one_ (i := 13) (N := some 66) #[true, true, true, true, true, true, true, true, true, true, true, true, true, true, false, false, false] rfl rfl (by kernel_rfl) (by decide) (fun K hK => ?_)
   refine value_ (w1 := ?_) (v := ?_) (by rfl) rfl ?_ ?_
   rotate_left 2
   ·go_simp
    constructor
    ·rfl
    ·rfl
   refine hK.out _ _ ((blk_cell (blk_alloc HT7.out _) 1).trans rfl) (fun hHeld => ?_)
   clear hK K
   refine norm_ (a' := ?_) ?_ ?_
   rotate_left
   ·show Act.put _ (some 66) _ = _
    simp only [Act.put, List.setIfInBounds_toArray, List.set_cons_zero, List.set_cons_succ, i64_w, i32_w]
    rfl
   refine one_ (i := 14) (N := some 67) #[true, true, true, true, true, true, true, true, true, true, true, true, true, true, true, false, false] rfl rfl (by kernel_rfl) (by decide) (fun K hK => ?_)
   refine Kd.R_append_step k54 (w0 := w) w.heap.size (by rfl) (.tmp 54) (.tmp 66) 22 54 (.agg #[(.int .i64 0), (.int .i64 0)]) 16 rfl hu22 info54 rfl (by decide) (by omega) v (entL b kk) (⟨(x0 : Int), (x1 : Int)⟩ : S54) [.int .i64 (x0 : Int), .int .i64 (x1 : Int)] (fun _ => True) (fun _ => False) rfl rfl (k54_mkM _ _ _ (⟨(x0 : Int), (x1 : Int)⟩ : S54)) (fun _ hk => hk.elim) (fun _ _ => trivial) HR7.out HB7.out HB7.out.size (by have := HEL.out kk; omega) ?_
   intro v1 w8 ho hb8 hg8 hat8
   have HNE7 := Kd.R_ne HR7.out HT7.out (by decide)
   have HT8 := Aside0.mk ((hg8.block tb (blk_lt HT7.out) HNE7).trans HT7.out)
   have P08 := Aside0.mk ((hg8.block _ (blk_lt P07.out) (Kd.R_ne HR7.out P07.out (by decide))).trans P07.out)
   have P18 := Aside0.mk ((hg8.block _ (blk_lt P17.out) (Kd.R_ne HR7.out P17.out (by decide))).trans P17.out)
   have HR8 := Aside0.mk ho
   have HB8 := Aside0.mk hb8
   clear HT7 P07 P17 HR7 HB7 ho hb8 hg8 hat8 HNE7
   refine hK.out _ _ ((blk_cell HT8.out 1).trans rfl) (fun hHeld => ?_)
   clear hK K
   refine norm_ (a' := ?_) ?_ ?_
   rotate_left
   ·show Act.put _ (some 67) _ = _
    simp only [Act.put, List.setIfInBounds_toArray, List.set_cons_zero, List.set_cons_succ, i64_w, i32_w]
    rfl
   refine pure_ (i := 15) (N := some 68) (v := ?_) (a' := ?_) #[true, true, true, true, true, true, true, true, true, true, true, true, true, true, true, true, false] rfl rfl (by kernel_rfl) (fun _ _ _ h => h) (Or.inl ⟨by rfl, ?_⟩) ?_ ?_
   rotate_left
   ·intro w'
    go_simp
    with_reducible rfl
   rotate_left
   ·simp only [Act.put, List.setIfInBounds_toArray, List.set_cons_zero, List.set_cons_succ, i64_w, i32_w]
    rfl
   refine last_ (i := 16) (N := none) #[true, true, true, true, true, true, true, true, true, true, true, true, true, true, true, true, true] rfl rfl (by kernel_rfl) (by decide) (fun K hK => ?_)
   obtain ⟨A1, c1, rfl⟩ := Kd.R_slice HR8.out
   have hc8 := blk_cell HT8.out 1
   have hf8 := blk_frozen HT8.out 1
   refine skip_ (w1 := ?_) (by rfl) rfl ?_ ?_
   rotate_left
   ·go_simp
    rfl
   refine hK.out _ _ ?_
   clear hK K
   refine done_ (by kernel_rfl) ?_
   clear hc8 hf8 m1 m2 m3 m1' m2' m3' hS0
   go_wp2
   have hR9 := Kd.R_set HR8.out HT8.out (by decide) 1 (.slice A1 ((entL b kk).length + 1) c1)
   have hlen : (entL b kk ++ [(⟨(x0 : Int), (x1 : Int)⟩ : S54)]).length = (entL b kk).length + 1 := by simp
   rw [hlen] at hR9
   rw [← HNX.out] at hR9
   go_roundg (n - (kk + 1))
   case measure => omega
   case rel => exact ⟨kk + 1, _, by go_num, by omega, by omega, ⟨blk_put (cs := #[.int .i64 sq, v]) HT8.out 1 _ rfl⟩, ⟨hR9⟩, ⟨blk_far P08.out (by have := NE0.out; show w.heap.size ≠ tb; omega) _⟩, ⟨blk_far P18.out (by have := NE0.out; show w.heap.size + 1 ≠ tb; omega) _⟩, ⟨HB8.out.setCell (by have := NE0.out; show w.heap.size ≤ tb; omega) _⟩⟩
  ·have hltz : ¬ (kk : Int) < (n : Int) := by omega
   obtain rfl : kk = n := by omega
   obtain ⟨A, c, rfl, hc, hC⟩ := Kd.R_reads HR.out
   have hcall := HVV.out A c wr hC hc
   have s0 : wr.cell? ⟨tb, 0, none⟩ = some (.int .i64 sq) := (blk_cell HT.out 0).trans rfl
   have s1 : wr.cell? ⟨tb, 1, none⟩ = some (.slice A (entL b kk).length c) := (blk_cell HT.out 1).trans rfl
   have HCA := Aside0.mk hcall
   clear HVV hC hc hcall HES HEL HNE HNF
   go_wp2_with fail
   refine HCA.out.mono ?_
   rintro e w6 ⟨rfl, hb6⟩
   have HT6 := blk_below HT.out hb6
   have p1 := blk_below P1.out hb6
   have HR6 := Aside0.mk (Kd.R_below HR.out hb6)
   have HB6 := Aside0.mk (below_step HB.out hb6)
   have P6 := Aside0.mk p1
   clear HT HR HB P0 P1 hb6 s0 s1 HCA
   have s0 : w6.cell? ⟨tb, 0, none⟩ = some (.int .i64 sq) := (blk_cell HT6 0).trans rfl
   have s1 : w6.cell? ⟨tb, 1, none⟩ = some (.slice A (entL b kk).length c) := (blk_cell HT6 1).trans rfl
   have t0 : w6.cell? ⟨w.heap.size + 1, 0, none⟩ = some (.int .i64 0) := (blk_cell p1 0).trans rfl
   have t1 : w6.cell? ⟨w.heap.size + 1, 1, none⟩ = some (.slice none 0 0) := (blk_cell p1 1).trans rfl
   have f0 := blk_frozen p1 0
   have f1 := blk_frozen p1 1
   clear HT6 p1
   go_wp2
   refine bodyPost_ret (results_ct rfl _ _ (w.heap.size + 1) 24 #[.int .i64 sq, .slice A (entL b kk).length c] (0, 0) _ rfl (blk_put (cs := #[.int .i64 sq, .slice none 0 0]) (blk_put (cs := #[.int .i64 0, .slice none 0 0]) P6.out 0 _ rfl) 1 _ rfl) Tryz.underlying24 rfl (by kernel_rfl)) rfl ?_
   have hR7 := Kd.R_set HR6.out P6.out (by decide) 0 (.int .i64 sq)
   exact ⟨_, rfl, Kd.R_set hR7 (blk_put (cs := #[.int .i64 0, .slice none 0 0]) P6.out 0 (.int .i64 sq) rfl) (by decide) 1 _, (HB6.out.setCell (Nat.le_succ _) _).setCell (Nat.le_succ _) _⟩

end Go.Proofs.YtdepicgdbealpaaGreatDoor.Enc
