/- Plain functions, contracts and rows, written by a program of this session out of the translation (hprint.sh, over the kit's print). Lean checks them. -/
import Derived.Test.YtdepicgdbealpaaGreatDoorY0
namespace Go.Proofs.YtdepicgdbealpaaGreatDoor.Y
open Go.RowKit Go.Proofs.YtdepicgdbealpaaGreatDoorW.PrintWords Go.Proofs.YtdepicgdbealpaaGreatDoorW.PrintLast Go.Proofs.YtdepicgdbealpaaGreatDoorW.PrintMore
attribute [local go_sem] max2_int min2_int max_two min_two max_three min_three max_four min_four   -- for this text's walks alone
set_option linter.unusedVariables false
set_option linter.unusedSimpArgs false

-- TOLD BY HAND: function 35 (strings_Repeat)

-- TOLD BY HAND: function 61 (udftag_fits)

-- TOLD BY HAND: function 21 (endian_Little)

/-! ### udftag_little: function 62 -/
def udftag_little.f (a0 : Int) (a1 : Int) : Option (ByteArray) := (Enc.Little.f a0 a1).bind fun bt101 => (some bt101.1)
set_option maxHeartbeats 8000000 in
set_option maxRecDepth 100000 in
theorem udftag_little.calls (a0 : Int) (a1 : Int) (r : ByteArray) (w : World) (h : udftag_little.f a0 a1 = some r) :
  Calls Tryz.prog 62 #[.int .i64 a0, .int .i64 a1] w fun e w' => e = .returned (.string r) ∧ Below w.heap.size w w' := by
 have HB := Aside0.mk (Below.refl w.heap.size w)
 have H : ((Enc.Little.f a0 a1).bind fun bt101 => (some bt101.1)) = some r := h
 clear h
 replace H := Option.bind_eq_some_iff.mp H
 obtain ⟨⟨t101, t102⟩, A30, H⟩ := H
 replace H : (some t101) = some r := H
 have A3 := Aside0.mk A30
 clear A30
 obtain rfl := Option.some.inj H
 go_enter Tryz.func62, Tryz.ntmps62
 go_wp2_with (first | ((with_reducible refine gate_callee (f := 21) rfl ?_); refine goesL_ (some 10) rfl rfl Tryz.func21 (by kernel_rfl) rfl #[.int .i64 a0, .int .i64 a1] rfl (by (try simp only [List.map_toArray, List.map_cons, List.map_nil]); first | done | rfl | (simp only [List.length_drop, List.length_take]; rfl)) ?_; (with_reducible refine (Enc.Little.calls a0 a1 t101 t102 _ A3.out).mono ?_); rintro e w4 ⟨rfl, hb⟩; refine ⟨_, rfl, ?_⟩; have n0_ := Aside0.mk (below_step (by repeat (first | (with_reducible first | exact HB.out | apply below_alloc | apply pw_below_drewN | apply below_drew1) | exact HB.out)) hb); clear HB; have HB := n0_; clear n0_; (try clear hb); (try clear hb2); (try clear hk); (try clear hi)))
 go_ret
 exact ⟨by first | rfl | (simp [errW_none, errW_some] <;> rfl) | (simp [*, errW_none, errW_some] <;> rfl), by repeat (first | (with_reducible first | exact HB.out | apply below_alloc | apply pw_below_drewN | apply below_drew1) | exact HB.out)⟩

-- TOLD BY HAND: function 103 (checksum_ExtendCRC16)

/-! ### checksum_CRC16: function 63 -/
def checksum_CRC16.f (a0 : ByteArray) : Option (Int) := (Enc.ExtendCRC16.f 0 a0).bind fun t103 => (some t103)
set_option maxHeartbeats 8000000 in
set_option maxRecDepth 100000 in
theorem checksum_CRC16.calls (a0 : ByteArray) (r : Int) (w : World) (h : checksum_CRC16.f a0 = some r) :
  Calls Tryz.prog 63 #[.string a0] w fun e w' => e = .returned (.int .u16 r) ∧ Below w.heap.size w w' := by
 have HB := Aside0.mk (Below.refl w.heap.size w)
 have H : ((Enc.ExtendCRC16.f 0 a0).bind fun t103 => (some t103)) = some r := h
 clear h
 replace H := Option.bind_eq_some_iff.mp H
 obtain ⟨t103, A20, H⟩ := H
 replace H : (some t103) = some r := H
 have A2 := Aside0.mk A20
 clear A20
 obtain rfl := Option.some.inj H
 go_enter Tryz.func63, Tryz.ntmps63
 go_wp2_with (first | ((with_reducible refine gate_callee (f := 103) rfl ?_); refine goesL_ (some 4) rfl rfl Tryz.func103 (by kernel_rfl) rfl #[.int .u16 0, .string a0] rfl (by (try simp only [List.map_toArray, List.map_cons, List.map_nil]); first | done | rfl | (simp only [List.length_drop, List.length_take]; rfl)) ?_; (with_reducible refine (Enc.ExtendCRC16.calls 0 a0 t103 _ A2.out).mono ?_); rintro e w3 ⟨rfl, hb⟩; refine ⟨_, rfl, ?_⟩; have n0_ := Aside0.mk (below_step (by repeat (first | (with_reducible first | exact HB.out | apply below_alloc | apply pw_below_drewN | apply below_drew1) | exact HB.out)) hb); clear HB; have HB := n0_; clear n0_; (try clear hb); (try clear hb2); (try clear hk); (try clear hi)))
 go_ret
 exact ⟨by first | rfl | (simp [errW_none, errW_some] <;> rfl) | (simp [*, errW_none, errW_some] <;> rfl), by repeat (first | (with_reducible first | exact HB.out | apply below_alloc | apply pw_below_drewN | apply below_drew1) | exact HB.out)⟩

-- TOLD BY HAND: function 64 (udftag_summed)

/-! ### udftag_seal: function 39 -/
def udftag_seal.j0 : Nat → Int → Int → Int → ByteArray → Int → Bool → Option (ByteArray × Int)
 | 0, _, _, _, _, _, _ => none
 | k + 1, x0, x1, x2, x3, x4, x13 => if x13 = true then (some ((⟨#[]⟩ : ByteArray), 2)) else (if (x3.size : Int) > x4 then (some ((⟨#[]⟩ : ByteArray), 7)) else ((udftag_little.f x0 2).bind fun t107 => ((udftag_little.f 3 2).bind fun t108 => (if t107.size + t108.size ≤ 9223372036854775807 then (if (t107 ++ t108).size + 2 ≤ 9223372036854775807 then ((udftag_little.f x1 2).bind fun t109 => (if ((t107 ++ t108) ++ (⟨#[0, 0]⟩ : ByteArray)).size + t109.size ≤ 9223372036854775807 then ((checksum_CRC16.f x3).bind fun t110 => ((udftag_little.f (wrap64 (t110)) 2).bind fun t111 => (if (((t107 ++ t108) ++ (⟨#[0, 0]⟩ : ByteArray)) ++ t109).size + t111.size ≤ 9223372036854775807 then ((udftag_little.f (x3.size : Int) 2).bind fun t112 => (if ((((t107 ++ t108) ++ (⟨#[0, 0]⟩ : ByteArray)) ++ t109) ++ t111).size + t112.size ≤ 9223372036854775807 then ((udftag_little.f x2 4).bind fun t113 => (if (((((t107 ++ t108) ++ (⟨#[0, 0]⟩ : ByteArray)) ++ t109) ++ t111) ++ t112).size + t113.size ≤ 9223372036854775807 then ((V.udftag_summed.f k ((((((t107 ++ t108) ++ (⟨#[0, 0]⟩ : ByteArray)) ++ t109) ++ t111) ++ t112) ++ t113)).bind fun t114 => (if t114.size + x3.size ≤ 9223372036854775807 then (some (t114 ++ x3, 0)) else (none))) else (none))) else (none))) else (none)))) else (none))) else (none)) else (none)))))
def udftag_seal.f (k : Nat) (a0 : Int) (a1 : Int) (a2 : Int) (a3 : ByteArray) (a4 : Int) : Option (ByteArray × Int) := (V.udftag_fits.f a0 2).bind fun t104 => (if t104 = true then ((V.udftag_fits.f a1 2).bind fun t105 => (if t105 = true then ((V.udftag_fits.f a2 4).bind fun t106 => (udftag_seal.j0 k a0 a1 a2 a3 a4 (!t106))) else (udftag_seal.j0 k a0 a1 a2 a3 a4 true))) else (udftag_seal.j0 k a0 a1 a2 a3 a4 true))
set_option maxHeartbeats 8000000 in
set_option maxRecDepth 100000 in
theorem udftag_seal.calls (k : Nat) (a0 : Int) (a1 : Int) (a2 : Int) (a3 : ByteArray) (a4 : Int) (r1 : ByteArray) (r2 : Int) (w : World) (h : udftag_seal.f k a0 a1 a2 a3 a4 = some (r1, r2)) :
  Calls Tryz.prog 39 #[.int .i64 a0, .int .i64 a1, .int .i64 a2, .string a3, .int .i64 a4] w fun e w' => e = .returned (.tuple #[.string r1, .int .i64 r2]) ∧ Below w.heap.size w w' := by
 have HB := Aside0.mk (Below.refl w.heap.size w)
 have H : ((V.udftag_fits.f a0 2).bind fun t104 => (if t104 = true then ((V.udftag_fits.f a1 2).bind fun t105 => (if t105 = true then ((V.udftag_fits.f a2 4).bind fun t106 => (udftag_seal.j0 k a0 a1 a2 a3 a4 (!t106))) else (udftag_seal.j0 k a0 a1 a2 a3 a4 true))) else (udftag_seal.j0 k a0 a1 a2 a3 a4 true))) = some (r1, r2) := h
 clear h
 have HC6 := Aside0.mk H
 clear H
 go_enter Tryz.func39, Tryz.ntmps39
 go_upto_region 1 with (fail)
 go_cut [13] (fun v13 wc => ∃ (kq : Nat) (x13_5 : Bool), v13 = .bool x13_5 ∧ Aside0 (udftag_seal.j0 kq a0 a1 a2 a3 a4 x13_5 = some (r1, r2)) ∧ Aside0 (kq ≤ k) ∧ Aside0 (Below w.heap.size w wc))
 case first =>
  have H := HC6.out
  clear HC6
  replace H := Option.bind_eq_some_iff.mp H
  obtain ⟨t104, A70, H⟩ := H
  replace H : (if t104 = true then ((V.udftag_fits.f a1 2).bind fun t105 => (if t105 = true then ((V.udftag_fits.f a2 4).bind fun t106 => (udftag_seal.j0 k a0 a1 a2 a3 a4 (!t106))) else (udftag_seal.j0 k a0 a1 a2 a3 a4 true))) else (udftag_seal.j0 k a0 a1 a2 a3 a4 true)) = some (r1, r2) := H
  have A7 := Aside0.mk A70
  clear A70
  by_cases c8 : t104 = true
  ·subst c8
   have H1 : ((V.udftag_fits.f a1 2).bind fun t105 => (if t105 = true then ((V.udftag_fits.f a2 4).bind fun t106 => (udftag_seal.j0 k a0 a1 a2 a3 a4 (!t106))) else (udftag_seal.j0 k a0 a1 a2 a3 a4 true))) = some (r1, r2) := by rw [if_pos rfl] at H; exact H
   clear H
   have H := H1
   clear H1
   replace H := Option.bind_eq_some_iff.mp H
   obtain ⟨t105, A90, H⟩ := H
   replace H : (if t105 = true then ((V.udftag_fits.f a2 4).bind fun t106 => (udftag_seal.j0 k a0 a1 a2 a3 a4 (!t106))) else (udftag_seal.j0 k a0 a1 a2 a3 a4 true)) = some (r1, r2) := H
   have A9 := Aside0.mk A90
   clear A90
   by_cases c10 : t105 = true
   ·subst c10
    have H1 : ((V.udftag_fits.f a2 4).bind fun t106 => (udftag_seal.j0 k a0 a1 a2 a3 a4 (!t106))) = some (r1, r2) := by rw [if_pos rfl] at H; exact H
    clear H
    have H := H1
    clear H1
    replace H := Option.bind_eq_some_iff.mp H
    obtain ⟨t106, A110, H⟩ := H
    replace H : (udftag_seal.j0 k a0 a1 a2 a3 a4 (!t106)) = some (r1, r2) := H
    have A11 := Aside0.mk A110
    clear A110
    have H' := Aside0.mk H
    clear H
    go_wp2_with (first | ((with_reducible refine gate_callee (f := 61) rfl ?_); refine goesL_ (some 15) rfl rfl Tryz.func61 (by kernel_rfl) rfl #[.int .i64 a0, .int .i64 2] rfl (by (try simp only [List.map_toArray, List.map_cons, List.map_nil]); first | done | rfl | (simp only [List.length_drop, List.length_take]; rfl)) ?_; (with_reducible refine (V.udftag_fits.calls a0 2 true _ A7.out).mono ?_); rintro e w' ⟨rfl, ⟨nd, rfl⟩⟩; refine ⟨_, rfl, ?_⟩) | (go_at_call 61; (with_reducible refine (V.udftag_fits.calls a1 2 true _ A9.out).mono ?_); rintro e w' ⟨rfl, ⟨nd, rfl⟩⟩) | (go_at_call 61; (with_reducible refine (V.udftag_fits.calls a2 4 t106 _ A11.out).mono ?_); rintro e w' ⟨rfl, ⟨nd, rfl⟩⟩))
    go_meet
    case rel => exact ⟨_, (!t106), (by first | rfl | (simp; done) | (simp [*]; done)), H', ⟨by first | omega | exact Nat.le_refl _⟩, ⟨by repeat (first | (with_reducible first | exact HB.out | apply below_alloc | apply pw_below_drewN | apply below_drew1) | exact HB.out)⟩⟩
   ·replace c10 := Bool.eq_false_iff.mpr c10
    subst c10
    have H1 : (udftag_seal.j0 k a0 a1 a2 a3 a4 true) = some (r1, r2) := by rw [if_neg (show ¬ (false = true) by decide)] at H; exact H
    clear H
    have H := H1
    clear H1
    have H' := Aside0.mk H
    clear H
    go_wp2_with (first | ((with_reducible refine gate_callee (f := 61) rfl ?_); refine goesL_ (some 15) rfl rfl Tryz.func61 (by kernel_rfl) rfl #[.int .i64 a0, .int .i64 2] rfl (by (try simp only [List.map_toArray, List.map_cons, List.map_nil]); first | done | rfl | (simp only [List.length_drop, List.length_take]; rfl)) ?_; (with_reducible refine (V.udftag_fits.calls a0 2 true _ A7.out).mono ?_); rintro e w' ⟨rfl, ⟨nd, rfl⟩⟩; refine ⟨_, rfl, ?_⟩) | (go_at_call 61; (with_reducible refine (V.udftag_fits.calls a1 2 false _ A9.out).mono ?_); rintro e w' ⟨rfl, ⟨nd, rfl⟩⟩))
    go_meet
    case rel => exact ⟨_, (true), (by first | rfl | (simp; done) | (simp [*]; done)), H', ⟨by first | omega | exact Nat.le_refl _⟩, ⟨by repeat (first | (with_reducible first | exact HB.out | apply below_alloc | apply pw_below_drewN | apply below_drew1) | exact HB.out)⟩⟩
  ·replace c8 := Bool.eq_false_iff.mpr c8
   subst c8
   have H1 : (udftag_seal.j0 k a0 a1 a2 a3 a4 true) = some (r1, r2) := by rw [if_neg (show ¬ (false = true) by decide)] at H; exact H
   clear H
   have H := H1
   clear H1
   have H' := Aside0.mk H
   clear H
   go_wp2_with (first | ((with_reducible refine gate_callee (f := 61) rfl ?_); refine goesL_ (some 15) rfl rfl Tryz.func61 (by kernel_rfl) rfl #[.int .i64 a0, .int .i64 2] rfl (by (try simp only [List.map_toArray, List.map_cons, List.map_nil]); first | done | rfl | (simp only [List.length_drop, List.length_take]; rfl)) ?_; (with_reducible refine (V.udftag_fits.calls a0 2 false _ A7.out).mono ?_); rintro e w' ⟨rfl, ⟨nd, rfl⟩⟩; refine ⟨_, rfl, ?_⟩))
   go_meet
   case rel => exact ⟨_, (true), (by first | rfl | (simp; done) | (simp [*]; done)), H', ⟨by first | omega | exact Nat.le_refl _⟩, ⟨by repeat (first | (with_reducible first | exact HB.out | apply below_alloc | apply pw_below_drewN | apply below_drew1) | exact HB.out)⟩⟩
 case rest =>
  clear HC6
  try clear c1
  try clear p2
  try clear c3
  try clear c6
  try clear c8
  try clear c10
  obtain ⟨kq, x13_5, rfl, HA, HJ5, HB⟩ := hcut
  cases kq with
  | zero => exact absurd HA.out (by simp [udftag_seal.j0])
  | succ kj5 =>
   have H := HA.out
   clear HA
   simp only [udftag_seal.j0] at H
   by_cases c12 : x13_5 = true
   ·subst c12
    have H1 : (some ((⟨#[]⟩ : ByteArray), 2)) = some (r1, r2) := by rw [if_pos rfl] at H; exact H
    clear H
    have H := H1
    clear H1
    simp only [Option.some.injEq, Prod.mk.injEq] at H
    obtain ⟨rfl, rfl⟩ := H
    go_wp2
    go_ret2
    exact ⟨by first | rfl | (simp [errW_none, errW_some] <;> rfl) | (simp [*, errW_none, errW_some] <;> rfl), by repeat (first | (with_reducible first | exact HB.out | apply below_alloc | apply pw_below_drewN | apply below_drew1) | exact HB.out)⟩
   ·replace c12 := Bool.eq_false_iff.mpr c12
    subst c12
    have H1 : (if (a3.size : Int) > a4 then (some ((⟨#[]⟩ : ByteArray), 7)) else ((udftag_little.f a0 2).bind fun t107 => ((udftag_little.f 3 2).bind fun t108 => (if t107.size + t108.size ≤ 9223372036854775807 then (if (t107 ++ t108).size + 2 ≤ 9223372036854775807 then ((udftag_little.f a1 2).bind fun t109 => (if ((t107 ++ t108) ++ (⟨#[0, 0]⟩ : ByteArray)).size + t109.size ≤ 9223372036854775807 then ((checksum_CRC16.f a3).bind fun t110 => ((udftag_little.f (wrap64 (t110)) 2).bind fun t111 => (if (((t107 ++ t108) ++ (⟨#[0, 0]⟩ : ByteArray)) ++ t109).size + t111.size ≤ 9223372036854775807 then ((udftag_little.f (a3.size : Int) 2).bind fun t112 => (if ((((t107 ++ t108) ++ (⟨#[0, 0]⟩ : ByteArray)) ++ t109) ++ t111).size + t112.size ≤ 9223372036854775807 then ((udftag_little.f a2 4).bind fun t113 => (if (((((t107 ++ t108) ++ (⟨#[0, 0]⟩ : ByteArray)) ++ t109) ++ t111) ++ t112).size + t113.size ≤ 9223372036854775807 then ((V.udftag_summed.f kj5 ((((((t107 ++ t108) ++ (⟨#[0, 0]⟩ : ByteArray)) ++ t109) ++ t111) ++ t112) ++ t113)).bind fun t114 => (if t114.size + a3.size ≤ 9223372036854775807 then (some (t114 ++ a3, 0)) else (none))) else (none))) else (none))) else (none)))) else (none))) else (none)) else (none))))) = some (r1, r2) := by rw [if_neg (show ¬ (false = true) by decide)] at H; exact H
    clear H
    have H := H1
    clear H1
    by_cases c13 : (a3.size : Int) > a4
    ·rw [if_pos c13] at H
     have c13b0 : decide (a4 < (a3.size : Int)) = true := decide_eq_true c13
     clear c13
     simp only [Option.some.injEq, Prod.mk.injEq] at H
     obtain ⟨rfl, rfl⟩ := H
     go_wp2
     go_ret2
     exact ⟨by first | rfl | (simp [errW_none, errW_some] <;> rfl) | (simp [*, errW_none, errW_some] <;> rfl), by repeat (first | (with_reducible first | exact HB.out | apply below_alloc | apply pw_below_drewN | apply below_drew1) | exact HB.out)⟩
    ·rw [if_neg c13] at H
     have c13b0 : decide (a4 < (a3.size : Int)) = false := decide_eq_false c13
     clear c13
     replace H := Option.bind_eq_some_iff.mp H
     obtain ⟨t107, A140, H⟩ := H
     replace H : ((udftag_little.f 3 2).bind fun t108 => (if t107.size + t108.size ≤ 9223372036854775807 then (if (t107 ++ t108).size + 2 ≤ 9223372036854775807 then ((udftag_little.f a1 2).bind fun t109 => (if ((t107 ++ t108) ++ (⟨#[0, 0]⟩ : ByteArray)).size + t109.size ≤ 9223372036854775807 then ((checksum_CRC16.f a3).bind fun t110 => ((udftag_little.f (wrap64 (t110)) 2).bind fun t111 => (if (((t107 ++ t108) ++ (⟨#[0, 0]⟩ : ByteArray)) ++ t109).size + t111.size ≤ 9223372036854775807 then ((udftag_little.f (a3.size : Int) 2).bind fun t112 => (if ((((t107 ++ t108) ++ (⟨#[0, 0]⟩ : ByteArray)) ++ t109) ++ t111).size + t112.size ≤ 9223372036854775807 then ((udftag_little.f a2 4).bind fun t113 => (if (((((t107 ++ t108) ++ (⟨#[0, 0]⟩ : ByteArray)) ++ t109) ++ t111) ++ t112).size + t113.size ≤ 9223372036854775807 then ((V.udftag_summed.f kj5 ((((((t107 ++ t108) ++ (⟨#[0, 0]⟩ : ByteArray)) ++ t109) ++ t111) ++ t112) ++ t113)).bind fun t114 => (if t114.size + a3.size ≤ 9223372036854775807 then (some (t114 ++ a3, 0)) else (none))) else (none))) else (none))) else (none)))) else (none))) else (none)) else (none))) = some (r1, r2) := H
     have A14 := Aside0.mk A140
     clear A140
     replace H := Option.bind_eq_some_iff.mp H
     obtain ⟨t108, A150, H⟩ := H
     replace H : (if t107.size + t108.size ≤ 9223372036854775807 then (if (t107 ++ t108).size + 2 ≤ 9223372036854775807 then ((udftag_little.f a1 2).bind fun t109 => (if ((t107 ++ t108) ++ (⟨#[0, 0]⟩ : ByteArray)).size + t109.size ≤ 9223372036854775807 then ((checksum_CRC16.f a3).bind fun t110 => ((udftag_little.f (wrap64 (t110)) 2).bind fun t111 => (if (((t107 ++ t108) ++ (⟨#[0, 0]⟩ : ByteArray)) ++ t109).size + t111.size ≤ 9223372036854775807 then ((udftag_little.f (a3.size : Int) 2).bind fun t112 => (if ((((t107 ++ t108) ++ (⟨#[0, 0]⟩ : ByteArray)) ++ t109) ++ t111).size + t112.size ≤ 9223372036854775807 then ((udftag_little.f a2 4).bind fun t113 => (if (((((t107 ++ t108) ++ (⟨#[0, 0]⟩ : ByteArray)) ++ t109) ++ t111) ++ t112).size + t113.size ≤ 9223372036854775807 then ((V.udftag_summed.f kj5 ((((((t107 ++ t108) ++ (⟨#[0, 0]⟩ : ByteArray)) ++ t109) ++ t111) ++ t112) ++ t113)).bind fun t114 => (if t114.size + a3.size ≤ 9223372036854775807 then (some (t114 ++ a3, 0)) else (none))) else (none))) else (none))) else (none)))) else (none))) else (none)) else (none)) = some (r1, r2) := H
     have A15 := Aside0.mk A150
     clear A150
     by_cases c16 : t107.size + t108.size ≤ 9223372036854775807
     ·rw [if_pos c16] at H
      have c16b0 := eq_true c16
      have c16b1 : decide (t107.size + t108.size ≤ 9223372036854775807) = true := decide_eq_true c16
      try have c16b2 : (9223372036854775807 < t107.size + t108.size) = False := eq_false (Nat.not_lt.2 c16)
      by_cases c17 : (t107 ++ t108).size + 2 ≤ 9223372036854775807
      ·rw [if_pos c17] at H
       have c17b0 := eq_true c17
       have c17b1 : decide ((t107 ++ t108).size + 2 ≤ 9223372036854775807) = true := decide_eq_true c17
       try have c17b2 : (9223372036854775807 < (t107 ++ t108).size + 2) = False := eq_false (Nat.not_lt.2 c17)
       try have c17b3 : (9223372036854775807 < t107.size + t108.size + 2) = False := eq_false (by have h := c17; simp only [ByteArray.size_append] at h; omega)
       replace H := Option.bind_eq_some_iff.mp H
       obtain ⟨t109, A180, H⟩ := H
       replace H : (if ((t107 ++ t108) ++ (⟨#[0, 0]⟩ : ByteArray)).size + t109.size ≤ 9223372036854775807 then ((checksum_CRC16.f a3).bind fun t110 => ((udftag_little.f (wrap64 (t110)) 2).bind fun t111 => (if (((t107 ++ t108) ++ (⟨#[0, 0]⟩ : ByteArray)) ++ t109).size + t111.size ≤ 9223372036854775807 then ((udftag_little.f (a3.size : Int) 2).bind fun t112 => (if ((((t107 ++ t108) ++ (⟨#[0, 0]⟩ : ByteArray)) ++ t109) ++ t111).size + t112.size ≤ 9223372036854775807 then ((udftag_little.f a2 4).bind fun t113 => (if (((((t107 ++ t108) ++ (⟨#[0, 0]⟩ : ByteArray)) ++ t109) ++ t111) ++ t112).size + t113.size ≤ 9223372036854775807 then ((V.udftag_summed.f kj5 ((((((t107 ++ t108) ++ (⟨#[0, 0]⟩ : ByteArray)) ++ t109) ++ t111) ++ t112) ++ t113)).bind fun t114 => (if t114.size + a3.size ≤ 9223372036854775807 then (some (t114 ++ a3, 0)) else (none))) else (none))) else (none))) else (none)))) else (none)) = some (r1, r2) := H
       have A18 := Aside0.mk A180
       clear A180
       by_cases c19 : ((t107 ++ t108) ++ (⟨#[0, 0]⟩ : ByteArray)).size + t109.size ≤ 9223372036854775807
       ·rw [if_pos c19] at H
        have c19b0 := eq_true c19
        have c19b1 : decide (((t107 ++ t108) ++ (⟨#[0, 0]⟩ : ByteArray)).size + t109.size ≤ 9223372036854775807) = true := decide_eq_true c19
        try have c19b2 : (9223372036854775807 < ((t107 ++ t108) ++ (⟨#[0, 0]⟩ : ByteArray)).size + t109.size) = False := eq_false (Nat.not_lt.2 c19)
        try have c19b3 : (9223372036854775807 < t107.size + t108.size + 2 + t109.size) = False := eq_false (by have h := c19; simp only [ByteArray.size_append] at h; have e0 : (⟨#[0, 0]⟩ : ByteArray).size = 2 := rfl; omega)
        replace H := Option.bind_eq_some_iff.mp H
        obtain ⟨t110, A200, H⟩ := H
        replace H : ((udftag_little.f (wrap64 (t110)) 2).bind fun t111 => (if (((t107 ++ t108) ++ (⟨#[0, 0]⟩ : ByteArray)) ++ t109).size + t111.size ≤ 9223372036854775807 then ((udftag_little.f (a3.size : Int) 2).bind fun t112 => (if ((((t107 ++ t108) ++ (⟨#[0, 0]⟩ : ByteArray)) ++ t109) ++ t111).size + t112.size ≤ 9223372036854775807 then ((udftag_little.f a2 4).bind fun t113 => (if (((((t107 ++ t108) ++ (⟨#[0, 0]⟩ : ByteArray)) ++ t109) ++ t111) ++ t112).size + t113.size ≤ 9223372036854775807 then ((V.udftag_summed.f kj5 ((((((t107 ++ t108) ++ (⟨#[0, 0]⟩ : ByteArray)) ++ t109) ++ t111) ++ t112) ++ t113)).bind fun t114 => (if t114.size + a3.size ≤ 9223372036854775807 then (some (t114 ++ a3, 0)) else (none))) else (none))) else (none))) else (none))) = some (r1, r2) := H
        have A20 := Aside0.mk A200
        clear A200
        replace H := Option.bind_eq_some_iff.mp H
        obtain ⟨t111, A210, H⟩ := H
        replace H : (if (((t107 ++ t108) ++ (⟨#[0, 0]⟩ : ByteArray)) ++ t109).size + t111.size ≤ 9223372036854775807 then ((udftag_little.f (a3.size : Int) 2).bind fun t112 => (if ((((t107 ++ t108) ++ (⟨#[0, 0]⟩ : ByteArray)) ++ t109) ++ t111).size + t112.size ≤ 9223372036854775807 then ((udftag_little.f a2 4).bind fun t113 => (if (((((t107 ++ t108) ++ (⟨#[0, 0]⟩ : ByteArray)) ++ t109) ++ t111) ++ t112).size + t113.size ≤ 9223372036854775807 then ((V.udftag_summed.f kj5 ((((((t107 ++ t108) ++ (⟨#[0, 0]⟩ : ByteArray)) ++ t109) ++ t111) ++ t112) ++ t113)).bind fun t114 => (if t114.size + a3.size ≤ 9223372036854775807 then (some (t114 ++ a3, 0)) else (none))) else (none))) else (none))) else (none)) = some (r1, r2) := H
        have A21 := Aside0.mk A210
        clear A210
        by_cases c22 : (((t107 ++ t108) ++ (⟨#[0, 0]⟩ : ByteArray)) ++ t109).size + t111.size ≤ 9223372036854775807
        ·rw [if_pos c22] at H
         have c22b0 := eq_true c22
         have c22b1 : decide ((((t107 ++ t108) ++ (⟨#[0, 0]⟩ : ByteArray)) ++ t109).size + t111.size ≤ 9223372036854775807) = true := decide_eq_true c22
         try have c22b2 : (9223372036854775807 < (((t107 ++ t108) ++ (⟨#[0, 0]⟩ : ByteArray)) ++ t109).size + t111.size) = False := eq_false (Nat.not_lt.2 c22)
         try have c22b3 : (9223372036854775807 < t107.size + t108.size + 2 + t109.size + t111.size) = False := eq_false (by have h := c22; simp only [ByteArray.size_append] at h; have e0 : (⟨#[0, 0]⟩ : ByteArray).size = 2 := rfl; omega)
         replace H := Option.bind_eq_some_iff.mp H
         obtain ⟨t112, A230, H⟩ := H
         replace H : (if ((((t107 ++ t108) ++ (⟨#[0, 0]⟩ : ByteArray)) ++ t109) ++ t111).size + t112.size ≤ 9223372036854775807 then ((udftag_little.f a2 4).bind fun t113 => (if (((((t107 ++ t108) ++ (⟨#[0, 0]⟩ : ByteArray)) ++ t109) ++ t111) ++ t112).size + t113.size ≤ 9223372036854775807 then ((V.udftag_summed.f kj5 ((((((t107 ++ t108) ++ (⟨#[0, 0]⟩ : ByteArray)) ++ t109) ++ t111) ++ t112) ++ t113)).bind fun t114 => (if t114.size + a3.size ≤ 9223372036854775807 then (some (t114 ++ a3, 0)) else (none))) else (none))) else (none)) = some (r1, r2) := H
         have A23 := Aside0.mk A230
         clear A230
         by_cases c24 : ((((t107 ++ t108) ++ (⟨#[0, 0]⟩ : ByteArray)) ++ t109) ++ t111).size + t112.size ≤ 9223372036854775807
         ·rw [if_pos c24] at H
          have c24b0 := eq_true c24
          have c24b1 : decide (((((t107 ++ t108) ++ (⟨#[0, 0]⟩ : ByteArray)) ++ t109) ++ t111).size + t112.size ≤ 9223372036854775807) = true := decide_eq_true c24
          try have c24b2 : (9223372036854775807 < ((((t107 ++ t108) ++ (⟨#[0, 0]⟩ : ByteArray)) ++ t109) ++ t111).size + t112.size) = False := eq_false (Nat.not_lt.2 c24)
          try have c24b3 : (9223372036854775807 < t107.size + t108.size + 2 + t109.size + t111.size + t112.size) = False := eq_false (by have h := c24; simp only [ByteArray.size_append] at h; have e0 : (⟨#[0, 0]⟩ : ByteArray).size = 2 := rfl; omega)
          replace H := Option.bind_eq_some_iff.mp H
          obtain ⟨t113, A250, H⟩ := H
          replace H : (if (((((t107 ++ t108) ++ (⟨#[0, 0]⟩ : ByteArray)) ++ t109) ++ t111) ++ t112).size + t113.size ≤ 9223372036854775807 then ((V.udftag_summed.f kj5 ((((((t107 ++ t108) ++ (⟨#[0, 0]⟩ : ByteArray)) ++ t109) ++ t111) ++ t112) ++ t113)).bind fun t114 => (if t114.size + a3.size ≤ 9223372036854775807 then (some (t114 ++ a3, 0)) else (none))) else (none)) = some (r1, r2) := H
          have A25 := Aside0.mk A250
          clear A250
          by_cases c26 : (((((t107 ++ t108) ++ (⟨#[0, 0]⟩ : ByteArray)) ++ t109) ++ t111) ++ t112).size + t113.size ≤ 9223372036854775807
          ·rw [if_pos c26] at H
           have c26b0 := eq_true c26
           have c26b1 : decide ((((((t107 ++ t108) ++ (⟨#[0, 0]⟩ : ByteArray)) ++ t109) ++ t111) ++ t112).size + t113.size ≤ 9223372036854775807) = true := decide_eq_true c26
           try have c26b2 : (9223372036854775807 < (((((t107 ++ t108) ++ (⟨#[0, 0]⟩ : ByteArray)) ++ t109) ++ t111) ++ t112).size + t113.size) = False := eq_false (Nat.not_lt.2 c26)
           try have c26b3 : (9223372036854775807 < t107.size + t108.size + 2 + t109.size + t111.size + t112.size + t113.size) = False := eq_false (by have h := c26; simp only [ByteArray.size_append] at h; have e0 : (⟨#[0, 0]⟩ : ByteArray).size = 2 := rfl; omega)
           replace H := Option.bind_eq_some_iff.mp H
           obtain ⟨t114, A270, H⟩ := H
           replace H : (if t114.size + a3.size ≤ 9223372036854775807 then (some (t114 ++ a3, 0)) else (none)) = some (r1, r2) := H
           have A27 := Aside0.mk A270
           clear A270
           by_cases c28 : t114.size + a3.size ≤ 9223372036854775807
           ·rw [if_pos c28] at H
            have c28b0 := eq_true c28
            have c28b1 : decide (t114.size + a3.size ≤ 9223372036854775807) = true := decide_eq_true c28
            try have c28b2 : (9223372036854775807 < t114.size + a3.size) = False := eq_false (Nat.not_lt.2 c28)
            simp only [Option.some.injEq, Prod.mk.injEq] at H
            obtain ⟨rfl, rfl⟩ := H
            go_wp2_with (first | ((with_reducible refine gate_callee (f := 62) rfl ?_); refine goesL_ (some 33) rfl rfl Tryz.func62 (by kernel_rfl) rfl #[.int .i64 a0, .int .i64 2] rfl (by (try simp only [List.map_toArray, List.map_cons, List.map_nil]); first | done | rfl | (simp only [List.length_drop, List.length_take]; rfl)) ?_; (with_reducible refine (udftag_little.calls a0 2 t107 _ A14.out).mono ?_); rintro e w29 ⟨rfl, hb⟩; refine ⟨_, rfl, ?_⟩; have n0_ := Aside0.mk (below_step (by repeat (first | (with_reducible first | exact HB.out | apply below_alloc | apply pw_below_drewN | apply below_drew1) | exact HB.out)) hb); clear HB; have HB := n0_; clear n0_; (try clear hb); (try clear hb2); (try clear hk); (try clear hi)) | ((with_reducible refine gate_callee (f := 62) rfl ?_); refine goesL_ (some 34) rfl rfl Tryz.func62 (by kernel_rfl) rfl #[.int .i64 3, .int .i64 2] rfl (by (try simp only [List.map_toArray, List.map_cons, List.map_nil]); first | done | rfl | (simp only [List.length_drop, List.length_take]; rfl)) ?_; (with_reducible refine (udftag_little.calls 3 2 t108 _ A15.out).mono ?_); rintro e w30 ⟨rfl, hb⟩; refine ⟨_, rfl, ?_⟩; have n0_ := Aside0.mk (below_step (by repeat (first | (with_reducible first | exact HB.out | apply below_alloc | apply pw_below_drewN | apply below_drew1) | exact HB.out)) hb); clear HB; have HB := n0_; clear n0_; (try clear hb); (try clear hb2); (try clear hk); (try clear hi)) | ((with_reducible refine gate_callee (f := 62) rfl ?_); refine goesL_ (some 38) rfl rfl Tryz.func62 (by kernel_rfl) rfl #[.int .i64 a1, .int .i64 2] rfl (by (try simp only [List.map_toArray, List.map_cons, List.map_nil]); first | done | rfl | (simp only [List.length_drop, List.length_take]; rfl)) ?_; (with_reducible refine (udftag_little.calls a1 2 t109 _ A18.out).mono ?_); rintro e w31 ⟨rfl, hb⟩; refine ⟨_, rfl, ?_⟩; have n0_ := Aside0.mk (below_step (by repeat (first | (with_reducible first | exact HB.out | apply below_alloc | apply pw_below_drewN | apply below_drew1) | exact HB.out)) hb); clear HB; have HB := n0_; clear n0_; (try clear hb); (try clear hb2); (try clear hk); (try clear hi)) | ((with_reducible refine gate_callee (f := 63) rfl ?_); refine goesL_ (some 41) rfl rfl Tryz.func63 (by kernel_rfl) rfl #[.string a3] rfl (by (try simp only [List.map_toArray, List.map_cons, List.map_nil]); first | done | rfl | (simp only [List.length_drop, List.length_take]; rfl)) ?_; (with_reducible refine (checksum_CRC16.calls a3 t110 _ A20.out).mono ?_); rintro e w32 ⟨rfl, hb⟩; refine ⟨_, rfl, ?_⟩; have n0_ := Aside0.mk (below_step (by repeat (first | (with_reducible first | exact HB.out | apply below_alloc | apply pw_below_drewN | apply below_drew1) | exact HB.out)) hb); clear HB; have HB := n0_; clear n0_; (try clear hb); (try clear hb2); (try clear hk); (try clear hi)) | ((with_reducible refine gate_callee (f := 62) rfl ?_); refine goesL_ (some 43) rfl rfl Tryz.func62 (by kernel_rfl) rfl #[.int .i64 (wrap64 (t110)), .int .i64 2] rfl (by (try simp only [List.map_toArray, List.map_cons, List.map_nil]); first | done | rfl | (simp only [List.length_drop, List.length_take]; rfl)) ?_; (with_reducible refine (udftag_little.calls (wrap64 (t110)) 2 t111 _ A21.out).mono ?_); rintro e w33 ⟨rfl, hb⟩; refine ⟨_, rfl, ?_⟩; have n0_ := Aside0.mk (below_step (by repeat (first | (with_reducible first | exact HB.out | apply below_alloc | apply pw_below_drewN | apply below_drew1) | exact HB.out)) hb); clear HB; have HB := n0_; clear n0_; (try clear hb); (try clear hb2); (try clear hk); (try clear hi)) | ((with_reducible refine gate_callee (f := 62) rfl ?_); refine goesL_ (some 47) rfl rfl Tryz.func62 (by kernel_rfl) rfl #[.int .i64 (a3.size : Int), .int .i64 2] rfl (by (try simp only [List.map_toArray, List.map_cons, List.map_nil]); first | done | rfl | (simp only [List.length_drop, List.length_take]; rfl)) ?_; (with_reducible refine (udftag_little.calls (a3.size : Int) 2 t112 _ A23.out).mono ?_); rintro e w34 ⟨rfl, hb⟩; refine ⟨_, rfl, ?_⟩; have n0_ := Aside0.mk (below_step (by repeat (first | (with_reducible first | exact HB.out | apply below_alloc | apply pw_below_drewN | apply below_drew1) | exact HB.out)) hb); clear HB; have HB := n0_; clear n0_; (try clear hb); (try clear hb2); (try clear hk); (try clear hi)) | ((with_reducible refine gate_callee (f := 62) rfl ?_); refine goesL_ (some 50) rfl rfl Tryz.func62 (by kernel_rfl) rfl #[.int .i64 a2, .int .i64 4] rfl (by (try simp only [List.map_toArray, List.map_cons, List.map_nil]); first | done | rfl | (simp only [List.length_drop, List.length_take]; rfl)) ?_; (with_reducible refine (udftag_little.calls a2 4 t113 _ A25.out).mono ?_); rintro e w35 ⟨rfl, hb⟩; refine ⟨_, rfl, ?_⟩; have n0_ := Aside0.mk (below_step (by repeat (first | (with_reducible first | exact HB.out | apply below_alloc | apply pw_below_drewN | apply below_drew1) | exact HB.out)) hb); clear HB; have HB := n0_; clear n0_; (try clear hb); (try clear hb2); (try clear hk); (try clear hi)) | ((with_reducible refine gate_callee (f := 64) rfl ?_); refine goesL_ (some 53) rfl rfl Tryz.func64 (by kernel_rfl) rfl #[.string ((((((t107 ++ t108) ++ (⟨#[0, 0]⟩ : ByteArray)) ++ t109) ++ t111) ++ t112) ++ t113)] rfl (by (try simp only [List.map_toArray, List.map_cons, List.map_nil]); first | done | rfl | (simp only [List.length_drop, List.length_take]; rfl)) ?_; (with_reducible refine (V.udftag_summed.calls kj5 ((((((t107 ++ t108) ++ (⟨#[0, 0]⟩ : ByteArray)) ++ t109) ++ t111) ++ t112) ++ t113) t114 _ A27.out).mono ?_); rintro e w36 ⟨rfl, hb⟩; refine ⟨_, rfl, ?_⟩; have n0_ := Aside0.mk (below_step (by repeat (first | (with_reducible first | exact HB.out | apply below_alloc | apply pw_below_drewN | apply below_drew1) | exact HB.out)) hb); clear HB; have HB := n0_; clear n0_; (try clear hb); (try clear hb2); (try clear hk); (try clear hi)))
            go_ret2
            exact ⟨by first | rfl | (simp [errW_none, errW_some] <;> rfl) | (simp [*, errW_none, errW_some] <;> rfl), by repeat (first | (with_reducible first | exact HB.out | apply below_alloc | apply pw_below_drewN | apply below_drew1) | exact HB.out)⟩
           ·rw [if_neg c28] at H
            exact absurd H (by simp)
          ·rw [if_neg c26] at H
           exact absurd H (by simp)
         ·rw [if_neg c24] at H
          exact absurd H (by simp)
        ·rw [if_neg c22] at H
         exact absurd H (by simp)
       ·rw [if_neg c19] at H
        exact absurd H (by simp)
      ·rw [if_neg c17] at H
       exact absurd H (by simp)
     ·rw [if_neg c16] at H
      exact absurd H (by simp)

/-! ### udftag_Block: function 22 -/
def udftag_Block.f (k : Nat) (a0 : Int) (a1 : Int) (a2 : Int) (a3 : ByteArray) : Option (ByteArray × Int) := (udftag_seal.f k a0 a1 a2 a3 2032).bind fun bt115 => (if bt115.2 = 0 then ((Enc.Repeat.f (⟨#[0]⟩ : ByteArray) (wrap64 (2048 - (bt115.1.size : Int)))).bind fun t117 => (if bt115.1.size + t117.size ≤ 9223372036854775807 then (some (bt115.1 ++ t117, 0)) else (none))) else (some ((⟨#[]⟩ : ByteArray), bt115.2)))
set_option maxHeartbeats 8000000 in
set_option maxRecDepth 100000 in
theorem udftag_Block.calls (k : Nat) (a0 : Int) (a1 : Int) (a2 : Int) (a3 : ByteArray) (r1 : ByteArray) (r2 : Int) (w : World) (h : udftag_Block.f k a0 a1 a2 a3 = some (r1, r2)) :
  Calls Tryz.prog 22 #[.int .i64 a0, .int .i64 a1, .int .i64 a2, .string a3] w fun e w' => e = .returned (.tuple #[.string r1, .int .i64 r2]) ∧ Below w.heap.size w w' := by
 have HB := Aside0.mk (Below.refl w.heap.size w)
 have H : ((udftag_seal.f k a0 a1 a2 a3 2032).bind fun bt115 => (if bt115.2 = 0 then ((Enc.Repeat.f (⟨#[0]⟩ : ByteArray) (wrap64 (2048 - (bt115.1.size : Int)))).bind fun t117 => (if bt115.1.size + t117.size ≤ 9223372036854775807 then (some (bt115.1 ++ t117, 0)) else (none))) else (some ((⟨#[]⟩ : ByteArray), bt115.2)))) = some (r1, r2) := h
 clear h
 replace H := Option.bind_eq_some_iff.mp H
 obtain ⟨⟨t115, t116⟩, A50, H⟩ := H
 replace H : (if t116 = 0 then ((Enc.Repeat.f (⟨#[0]⟩ : ByteArray) (wrap64 (2048 - (t115.size : Int)))).bind fun t117 => (if t115.size + t117.size ≤ 9223372036854775807 then (some (t115 ++ t117, 0)) else (none))) else (some ((⟨#[]⟩ : ByteArray), t116))) = some (r1, r2) := H
 have A5 := Aside0.mk A50
 clear A50
 by_cases c6 : t116 = 0
 ·rw [if_pos c6] at H
  have c6b0 : (t116 == 0) = true := beq_iff_eq.mpr c6
  have c6b1 : (t116 != 0) = false := bne_eq_false_iff_eq.mpr c6
  clear c6
  replace H := Option.bind_eq_some_iff.mp H
  obtain ⟨t117, A70, H⟩ := H
  replace H : (if t115.size + t117.size ≤ 9223372036854775807 then (some (t115 ++ t117, 0)) else (none)) = some (r1, r2) := H
  have A7 := Aside0.mk A70
  clear A70
  by_cases c8 : t115.size + t117.size ≤ 9223372036854775807
  ·rw [if_pos c8] at H
   have c8b0 := eq_true c8
   have c8b1 : decide (t115.size + t117.size ≤ 9223372036854775807) = true := decide_eq_true c8
   try have c8b2 : (9223372036854775807 < t115.size + t117.size) = False := eq_false (Nat.not_lt.2 c8)
   simp only [Option.some.injEq, Prod.mk.injEq] at H
   obtain ⟨rfl, rfl⟩ := H
   go_enter Tryz.func22, Tryz.ntmps22
   have ew0 : wrap64 (2048 - (t115.size : Int)) = 2048 - (t115.size : Int) := by unfold wrap64; omega
   have aw0 := A7.out
   rw [ew0] at aw0
   clear A7
   have A7 := Aside0.mk aw0
   clear aw0 ew0
   go_wp2_with (first | ((with_reducible refine gate_callee (f := 39) rfl ?_); refine goesL_ (some 17) rfl rfl Tryz.func39 (by kernel_rfl) rfl #[.int .i64 a0, .int .i64 a1, .int .i64 a2, .string a3, .int .i64 2032] rfl (by (try simp only [List.map_toArray, List.map_cons, List.map_nil]); first | done | rfl | (simp only [List.length_drop, List.length_take]; rfl)) ?_; (with_reducible refine (udftag_seal.calls k a0 a1 a2 a3 2032 t115 t116 _ A5.out).mono ?_); rintro e w9 ⟨rfl, hb⟩; refine ⟨_, rfl, ?_⟩; have n0_ := Aside0.mk (below_step (by repeat (first | (with_reducible first | exact HB.out | apply below_alloc | apply pw_below_drewN | apply below_drew1) | exact HB.out)) hb); clear HB; have HB := n0_; clear n0_; (try clear hb); (try clear hb2); (try clear hk); (try clear hi)) | ((with_reducible refine gate_callee (f := 35) rfl ?_); refine goesL_ (some 27) rfl rfl Tryz.func35 (by kernel_rfl) rfl #[.string (⟨#[0]⟩ : ByteArray), .int .i64 (2048 - (t115.size : Int))] rfl (by (try simp only [List.map_toArray, List.map_cons, List.map_nil]); first | done | rfl | (simp only [List.length_drop, List.length_take]; rfl)) ?_; (with_reducible refine (Enc.Repeat.calls (⟨#[0]⟩ : ByteArray) (2048 - (t115.size : Int)) t117 _ A7.out).mono ?_); rintro e w10 ⟨rfl, hb⟩; refine ⟨_, rfl, ?_⟩; have n0_ := Aside0.mk (below_step (by repeat (first | (with_reducible first | exact HB.out | apply below_alloc | apply pw_below_drewN | apply below_drew1) | exact HB.out)) hb); clear HB; have HB := n0_; clear n0_; (try clear hb); (try clear hb2); (try clear hk); (try clear hi)))
   go_ret2
   exact ⟨by first | rfl | (simp [errW_none, errW_some] <;> rfl) | (simp [*, errW_none, errW_some] <;> rfl), by repeat (first | (with_reducible first | exact HB.out | apply below_alloc | apply pw_below_drewN | apply below_drew1) | exact HB.out)⟩
  ·rw [if_neg c8] at H
   exact absurd H (by simp)
 ·rw [if_neg c6] at H
  have c6b0 : (t116 == 0) = false := beq_eq_false_iff_ne.mpr c6
  have c6b1 : (t116 != 0) = true := bne_iff_ne.mpr c6
  simp only [Option.some.injEq, Prod.mk.injEq] at H
  obtain ⟨rfl, rfl⟩ := H
  go_enter Tryz.func22, Tryz.ntmps22
  go_wp2_with (first | ((with_reducible refine gate_callee (f := 39) rfl ?_); refine goesL_ (some 17) rfl rfl Tryz.func39 (by kernel_rfl) rfl #[.int .i64 a0, .int .i64 a1, .int .i64 a2, .string a3, .int .i64 2032] rfl (by (try simp only [List.map_toArray, List.map_cons, List.map_nil]); first | done | rfl | (simp only [List.length_drop, List.length_take]; rfl)) ?_; (with_reducible refine (udftag_seal.calls k a0 a1 a2 a3 2032 t115 t116 _ A5.out).mono ?_); rintro e w11 ⟨rfl, hb⟩; refine ⟨_, rfl, ?_⟩; have n0_ := Aside0.mk (below_step (by repeat (first | (with_reducible first | exact HB.out | apply below_alloc | apply pw_below_drewN | apply below_drew1) | exact HB.out)) hb); clear HB; have HB := n0_; clear n0_; (try clear hb); (try clear hb2); (try clear hk); (try clear hi)))
  go_ret2
  exact ⟨by first | rfl | (simp [errW_none, errW_some] <;> rfl) | (simp [*, errW_none, errW_some] <;> rfl), by repeat (first | (with_reducible first | exact HB.out | apply below_alloc | apply pw_below_drewN | apply below_drew1) | exact HB.out)⟩

end Go.Proofs.YtdepicgdbealpaaGreatDoor.Y
