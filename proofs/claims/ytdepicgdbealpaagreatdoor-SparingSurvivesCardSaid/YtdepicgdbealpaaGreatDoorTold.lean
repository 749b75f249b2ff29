/- checksum.CRC16: the table of a byte's steps is the reference's eight steps a byte. -/
import Derived.Test.YtdepicgdbealpaaGreatDoorV0
import Derived.Laws.BitsAllLaws
import Derived.Laws.Tables
import Derived.Laws.Rows
import Derived.Laws.CopyOwn
import Derived.Deep.CutBlock
import Derived.Test.YtdepicgdbealpaaGreatDoorV5
import Derived.StillTailTactics
import Derived.Laws.MakeOwn
import Derived.Test.YtdepicgdbealpaaGreatDoorShelf
namespace Go.Proofs.YtdepicgdbealpaaGreatDoor.Enc
set_option linter.unusedVariables false
set_option linter.unusedSimpArgs false
open Go.RowKit Go.Lib Go.Proofs.YtdepicgdbealpaaGreatDoorW.PrintWords Go.Proofs.YtdepicgdbealpaaGreatDoorW.PrintLast Go.Proofs.YtdepicgdbealpaaGreatDoorW.PrintMore
open Go.Proofs.YtdepicgdbealpaaGreatDoor

/-- One step of the register. -/
def st (n : Nat) : Nat := if n / 32768 = 1 then (2 * n % 65536) ^^^ 4129 else 2 * n % 65536
def its : Nat → Nat → Nat
 | 0, n => n
 | k + 1, n => st (its k n)
/-- The table. -/
def T (b : Nat) : Nat := its 8 (b * 256)

theorem st_lt (n : Nat) : st n < 65536 := by
 unfold st
 split
 ·exact Nat.xor_lt_two_pow (n := 16) (Nat.mod_lt _ (by decide)) (by decide)
 ·exact Nat.mod_lt _ (by decide)
theorem its_lt (n : Nat) (h : n < 65536) : ∀ k, its k n < 65536
 | 0 => h
 | k + 1 => st_lt _
theorem T_lt (b : Nat) (h : b < 256) : T b < 65536 := its_lt _ (by omega) 8

theorem st_is (n : Nat) (h : n < 65536) : st n = (2 * n % 65536) ^^^ (4129 * (n / 32768)) := by
 unfold st
 have : n / 32768 < 2 := by omega
 split
 ·next h1 => rw [h1]
 ·next h1 =>
  have h0 : n / 32768 = 0 := by omega
  rw [h0, Nat.mul_zero, Nat.xor_zero]

theorem two_xor (a b : Nat) : 2 * (a ^^^ b) = (2 * a) ^^^ (2 * b) := by
 have h := Nat.shiftLeft_xor_distrib (a := a) (b := b) (i := 1)
 simp only [Nat.shiftLeft_eq, Nat.pow_one] at h
 rw [Nat.mul_comm 2, Nat.mul_comm 2, Nat.mul_comm 2]
 exact h
theorem div_xor (a b : Nat) : (a ^^^ b) / 32768 = a / 32768 ^^^ b / 32768 := by
 have h := Nat.shiftRight_xor_distrib (a := a) (b := b) (i := 15)
 simpa [Nat.shiftRight_eq_div_pow] using h
theorem xor_mod (a b : Nat) : (a ^^^ b) % 65536 = a % 65536 ^^^ b % 65536 := Nat.xor_mod_two_pow (n := 16)

theorem st_xor (a b : Nat) (ha : a < 65536) (hb : b < 65536) : st (a ^^^ b) = st a ^^^ st b := by
 have hab : a ^^^ b < 65536 := Nat.xor_lt_two_pow (n := 16) ha hb
 rw [st_is _ hab, st_is _ ha, st_is _ hb, two_xor, xor_mod, div_xor]
 have h1 : a / 32768 < 2 := by omega
 have h2 : b / 32768 < 2 := by omega
 have key : 4129 * (a / 32768 ^^^ b / 32768) = (4129 * (a / 32768)) ^^^ (4129 * (b / 32768)) := by
  generalize a / 32768 = p at h1
  generalize b / 32768 = q at h2
  match p, h1, q, h2 with
  | 0, _, 0, _ => rfl
  | 0, _, 1, _ => rfl
  | 1, _, 0, _ => rfl
  | 1, _, 1, _ => rfl
 rw [key]
 generalize 4129 * (a / 32768) = u
 generalize 4129 * (b / 32768) = v
 generalize 2 * a % 65536 = x
 generalize 2 * b % 65536 = y
 rw [Nat.xor_assoc, Nat.xor_assoc]
 congr 1
 rw [← Nat.xor_assoc, ← Nat.xor_assoc, Nat.xor_comm y u]

theorem its_xor (a b : Nat) (ha : a < 65536) (hb : b < 65536) : ∀ k, its k (a ^^^ b) = its k a ^^^ its k b
 | 0 => rfl
 | k + 1 => by
  unfold its
  rw [its_xor a b ha hb k, st_xor _ _ (its_lt _ ha k) (its_lt _ hb k)]

theorem its_low : ∀ l : Fin 256, its 8 l.val = l.val * 256 := by decide +kernel

/-- One byte: by the table, and by eight steps. -/
theorem byte_step (c b : Nat) (hc : c < 65536) (hb : b < 256) : its 8 (c ^^^ b * 256) = (c * 256 % 65536) ^^^ T (c / 256 ^^^ b) := by
 have hlow : its 8 (c % 256) = c % 256 * 256 := its_low ⟨c % 256, Nat.mod_lt _ (by decide)⟩
 have hx : c / 256 ^^^ b < 256 := Nat.xor_lt_two_pow (n := 8) (by omega) hb
 have hsplit : c ^^^ b * 256 = (c / 256 ^^^ b) * 256 ^^^ c % 256 := by
  apply Nat.eq_of_testBit_eq
  intro i
  simp only [Nat.testBit_xor, show (256 : Nat) = 2 ^ 8 by rfl, Nat.testBit_mul_two_pow, Nat.testBit_mod_two_pow, Nat.testBit_div_two_pow]
  by_cases h : 8 ≤ i
  ·have e : i - 8 + 8 = i := by omega
   simp [h, e, show ¬ i < 8 by omega]
  ·simp [h, show i < 8 by omega]
 rw [hsplit, its_xor _ _ (by omega) (by omega), hlow]
 have : c * 256 % 65536 = c % 256 * 256 := by omega
 rw [this, Nat.xor_comm]
 rfl

set_option maxHeartbeats 4000000 in
set_option maxRecDepth 100000 in
theorem direct1_calls (b : Nat) (hb : b < 256) (w : World) : Calls Tryz.prog 127 #[.int .u8 b] w fun e w' => e = .returned (.int .u16 (T b)) ∧ w' = w := by
 obtain ⟨R, hR⟩ : ∃ R : Nat, R = T b := ⟨_, rfl⟩
 rw [← hR]
 have HR := Aside0.mk hR
 clear hR
 go_enter Tryz.func127, Tryz.ntmps127
 go_wp2
 go_loopg [3, 7] 8 (fun gg s3 s7 wr => ∃ (k x : Nat), s3 = .int .u16 x ∧ s7 = .int .i64 k ∧ Aside0 (x = its k (b * 256)) ∧ k ≤ 8 ∧ 8 - k ≤ gg ∧ wr = w)
 case atStart => exact ⟨0, b * 256, by rw [Int.natCast_mul]; rfl, rfl, ⟨rfl⟩, by omega, by omega, rfl⟩
 case round =>
  obtain ⟨k, x, rfl, rfl, HX, hk, hg, rfl⟩ := hrel
  have hx : x < 65536 := by rw [HX.out]; exact its_lt _ (by omega) k
  by_cases hlt : k < 8
  ·have hltz : (k : Int) < 8 := by omega
   have e0 : IntKind.u16.wrap ((x : Int) * 2) = ((2 * x % 65536 : Nat) : Int) := by rw [IntKind.wrap_u16]; omega
   have E0 := Aside0.mk e0
   clear e0
   by_cases hq : x / 32768 = 1
   ·have hqb : ((x : Int) / 32768 == 1) = true := by simp; omega
    have hst : st x = (2 * x % 65536) ^^^ 4129 := by unfold st; rw [if_pos hq]
    have e2 : bits .xor .u16 (((2 * x % 65536 : Nat) : Int)) 4129 = ((st x : Nat) : Int) := by
     rw [hst]; exact u16_xor_nat _ 4129 (Nat.mod_lt _ (by decide)) (by decide)
    have E2 := Aside0.mk e2
    clear hq hst e2
    go_wp2
    go_roundg (8 - (k + 1))
    case measure => omega
    case rel => exact ⟨k + 1, st x, by rw [E0.out, E2.out], by go_num, ⟨by rw [HX.out]; rfl⟩, by omega, by omega, rfl⟩
   ·have hqb : ((x : Int) / 32768 == 1) = false := by simp; omega
    have hst : st x = 2 * x % 65536 := by unfold st; rw [if_neg hq]
    have HS := Aside0.mk hst
    clear hq hst
    go_wp2
    go_roundg (8 - (k + 1))
    case measure => omega
    case rel => exact ⟨k + 1, st x, by first | rw [E0.out, HS.out] | (rw [HS.out]; congr 1), by go_num, ⟨by rw [HX.out]; rfl⟩, by omega, by omega, rfl⟩
  ·obtain rfl : k = 8 := by omega
   go_wp2
   go_ret
   refine ⟨?_, rfl⟩
   rw [HR.out]
   show Ending.returned (.int .u16 x) = _
   rw [HX.out]
   rfl

theorem tabv (j : Nat) (h : j < 256) : ((Array.range 256).map fun j => Value.int .u16 (T j))[j]? = some (.int .u16 (T j)) := by
 simp [h]
def tab : Array Value := (Array.range 256).map fun j => Value.int .u16 (T j)
theorem tab_size : tab.size = 256 := by simp [tab]
theorem tab_one : tab.all (·.oneCell') = true := by
 rw [Array.all_eq_true]
 intro i h
 simp [tab, Value.oneCell']
theorem tab_at (j : Nat) (h : j < 256) : tab[j]? = some (.int .u16 (T j)) := tabv j h

set_option maxHeartbeats 4000000 in
set_option maxRecDepth 100000 in
theorem table_calls (w : World) : Calls Tryz.prog 126 #[.func (.func 127) #[] #[]] w fun e w' => e = .returned (.agg tab) ∧ Below w.heap.size w w' := by
 have hu142 := Tryz.underlying164
 obtain ⟨z, hz, hzs⟩ : ∃ z, Tryz.zeroCells164 = z ∧ z.size = 256 := ⟨_, rfl, by kernel_rfl⟩
 have hzv : ∀ w, (zeroValue 164).run Tryz.prog w = .ok (.agg z) w := by rw [← hz]; exact Tryz.zeroValue164
 clear hz
 go_enter Tryz.func126, Tryz.ntmps126
 go_wp2
 have hg0 : ((w.alloc (.cells z 164)).alloc (.cells z 164)).heap[w.heap.size]? = some (.cells z 164 (0, 0)) := blk_alloc (heap_alloc_new w _) _
 have hg1 : ((w.alloc (.cells z 164)).alloc (.cells z 164)).heap[w.heap.size + 1]? = some (.cells z 164 (0, 0)) := by
  have := heap_alloc_new (w.alloc (.cells z 164)) (.cells z 164)
  simpa using this
 have HB0 : Below w.heap.size w ((w.alloc (.cells z 164)).alloc (.cells z 164)) := below_alloc (below_alloc (Below.refl _ w) _) _
 generalize (w.alloc (.cells z 164)).alloc (.cells z 164) = w1 at hg0 hg1 HB0 ⊢
 go_loopg [5] 256 (fun gg s5 wr => ∃ (k : Nat) (cs : Array Value), s5 = .int .i64 k ∧ k ≤ 256 ∧ 256 - k ≤ gg ∧ Aside0 (wr.heap[w.heap.size]? = some (.cells z 164 (0, 0))) ∧ Aside0 (wr.heap[w.heap.size + 1]? = some (.cells cs 164 (0, 0))) ∧ Aside0 (cs.size = 256) ∧
  Aside0 (∀ j, j < k → cs[j]? = some (.int .u16 (T j))) ∧ Aside0 (Below w.heap.size w wr))
 case atStart => exact ⟨0, z, rfl, by omega, by omega, ⟨hg0⟩, ⟨hg1⟩, ⟨hzs⟩, ⟨fun j h => absurd h (Nat.not_lt_zero _)⟩, ⟨HB0⟩⟩
 case round =>
  clear hg0 hg1 HB0 hzv
  obtain ⟨k, cs, rfl, hk, hg, H0, H1, HS, HL, HB⟩ := hrel
  by_cases hlt : k < 256
  ·have hltz : (k : Int) < 256 := by omega
   have hc0 : (wr.cell? ⟨w.heap.size + 1, k, none⟩).isSome = true := by rw [blk_cell H1.out, Array.getElem?_eq_getElem (by have := HS.out; omega)]; rfl
   obtain ⟨vv, hvv⟩ := Option.isSome_iff_exists.1 hc0
   have hff := blk_frozen H1.out k
   have hcall := direct1_calls k hlt
   clear hc0
   go_wp2_with (go_at_call 127; refine (hcall _).mono ?_; rintro e w' ⟨rfl, rfl⟩)
   go_roundg (256 - (k + 1))
   case measure => omega
   case rel =>
    refine ⟨k + 1, cs.setIfInBounds k (.int .u16 (T k)), by go_num, by omega, by omega, ⟨blk_far H0.out (by show w.heap.size ≠ w.heap.size + 1; omega) _⟩, ⟨blk_put H1.out k _ rfl⟩, ⟨by rw [Array.size_setIfInBounds]; exact HS.out⟩, ⟨fun j hj => ?_⟩, ⟨HB.out.setCell (by show w.heap.size ≤ w.heap.size + 1; omega) _⟩⟩
    rw [Array.getElem?_setIfInBounds]
    by_cases e : k = j
    ·subst e
     rw [if_pos rfl, if_pos (by have := HS.out; omega)]
    ·rw [if_neg e]
     exact HL.out j (by omega)
  ·have hltz : ¬ (k : Int) < 256 := by omega
   obtain rfl : k = 256 := by omega
   have hcs : cs = tab := by
    apply Array.ext
    ·rw [HS.out, tab_size]
    ·intro j h1 h2
     have a := HL.out j (by rw [HS.out] at h1; exact h1)
     have b := tab_at j (by rw [HS.out] at h1; exact h1)
     rw [Array.getElem?_eq_getElem h1] at a
     rw [Array.getElem?_eq_getElem h2] at b
     rw [← b] at a
     exact Option.some.inj a
   have H1' := H1.out
   rw [hcs] at H1'
   have hi : (Tryz.prog.info? 164).map (·.size) = some tab.size := by rw [tab_size]; kernel_rfl
   clear hcs
   go_upto_region 7 with fail
   go_step
   refine wpList_load_row rfl 164 _ rfl (w.heap.size + 1) rfl 164 tab (0, 0) _ H1' hu142 rfl hi ?_
   refine wpList_store_row rfl 164 _ _ rfl w.heap.size tab rfl rfl 164 z H0.out hi (by rw [hzs, tab_size]) tab_one ?_
   have hg' := setRow_heap wr w.heap.size z tab 164 (0, 0) H0.out
   have hb' := below_setRow HB.out (Nat.le_refl _) tab
   generalize wr.setRow w.heap.size tab = w2 at hg' hb' ⊢
   obtain ⟨tt, htt⟩ : ∃ tt, tt = tab := ⟨_, rfl⟩
   rw [← htt] at hi hg' ⊢
   have HTT := Aside0.mk htt
   clear htt
   go_wp2
   exact bodyPost_ret (v := .agg tt) (results_cell_row rfl _ _ w.heap.size 164 tt (0, 0) _ rfl hg' hu142 rfl hi) rfl ⟨by rw [HTT.out], hb'⟩

set_option maxHeartbeats 4000000 in
set_option maxRecDepth 100000 in
theorem direct_calls (w : World) : Calls Tryz.prog 117 #[] w fun e w' => e = .returned (.agg tab) ∧ Below w.heap.size w w' := by
 have hu142 := Tryz.underlying164
 obtain ⟨z, hz, hzs⟩ : ∃ z, Tryz.zeroCells164 = z ∧ z.size = 256 := ⟨_, rfl, by kernel_rfl⟩
 have hzv : ∀ w, (zeroValue 164).run Tryz.prog w = .ok (.agg z) w := by rw [← hz]; exact Tryz.zeroValue164
 have hi : (Tryz.prog.info? 164).map (·.size) = some tab.size := by rw [tab_size]; kernel_rfl
 have hone := tab_one
 have hts := tab_size
 clear hz
 have ht : ∀ w, Calls Tryz.prog 126 #[.func (.func 127) #[] #[]] w fun e w' => e = .returned (.agg tab) ∧ Below w.heap.size w w' := table_calls
 generalize tab = tt at ht hi hone hts ⊢
 go_enter Tryz.func117, Tryz.ntmps117
 go_wp2_with fail
 refine (ht _).mono ?_
 rintro e w2 ⟨rfl, hb⟩
 have hg := blk_below (heap_alloc_new w (.cells z 164)) hb
 have hb2 : Below w.heap.size w w2 := below_step (below_alloc (Below.refl _ w) _) hb
 have hg2 := setRow_heap w2 w.heap.size z tt 164 (0, 0) hg
 have hb3 := below_setRow hb2 (Nat.le_refl _) tt
 have HG := Aside0.mk hg
 clear hg hb hb2 hzv
 go_wp2_with (refine wpList_store_row rfl 164 _ _ rfl w.heap.size tt rfl rfl 164 z HG.out hi (by rw [hzs, hts]) hone ?_)
 exact bodyPost_ret (v := .agg tt) (results_cell_row rfl _ _ w.heap.size 164 tt (0, 0) _ rfl hg2 hu142 rfl hi) rfl ⟨rfl, hb3⟩

/-- The i-th byte, as a natural number. -/
def by_ (s : ByteArray) (i : Nat) : Nat := (bt s i).toNat
theorem by_bt (s : ByteArray) (i : Nat) : bt s i = (by_ s i : Int) := by
 unfold by_
 have := (bt_range s i).1
 omega
theorem by_lt (s : ByteArray) (i : Nat) : by_ s i < 256 := by
 have := bt_range s i
 unfold by_
 omega

/-- The register after the first k bytes, by the table. -/
def crcT (s : ByteArray) (c : Nat) : Nat → Nat
 | 0 => c
 | k + 1 => (crcT s c k * 256 % 65536) ^^^ T (crcT s c k / 256 ^^^ by_ s k)
/-- The same by steps. -/
def crcS (s : ByteArray) (c : Nat) : Nat → Nat
 | 0 => c
 | k + 1 => its 8 (crcS s c k ^^^ by_ s k * 256)
theorem crcT_lt (s : ByteArray) (c : Nat) (h : c < 65536) : ∀ k, crcT s c k < 65536
 | 0 => h
 | k + 1 => Nat.xor_lt_two_pow (n := 16) (Nat.mod_lt _ (by decide)) (T_lt _ (Nat.xor_lt_two_pow (n := 8) (by have := crcT_lt s c h k; omega) (by_lt s k)))
theorem crc_same (s : ByteArray) (c : Nat) (h : c < 65536) : ∀ k, crcT s c k = crcS s c k
 | 0 => rfl
 | k + 1 => by
  unfold crcT crcS
  rw [← crc_same s c h k, byte_step _ _ (crcT_lt s c h k) (by_lt s k)]

set_option maxHeartbeats 4000000 in
set_option maxRecDepth 100000 in
theorem ext_calls (c : Nat) (hc : c < 65536) (s : ByteArray) (hs : s.size ≤ 9223372036854775807) (w : World) :
  Calls Tryz.prog 103 #[.int .u16 c, .string s] w fun e w' => e = .returned (.int .u16 (crcT s c s.size)) ∧ Below w.heap.size w w' := by
 have hu142 := Tryz.underlying164
 obtain ⟨z, hz, hzs⟩ : ∃ z, Tryz.zeroCells164 = z ∧ z.size = 256 := ⟨_, rfl, by kernel_rfl⟩
 have hzv : ∀ w, (zeroValue 164).run Tryz.prog w = .ok (.agg z) w := by rw [← hz]; exact Tryz.zeroValue164
 have hi : (Tryz.prog.info? 164).map (·.size) = some tab.size := by rw [tab_size]; kernel_rfl
 have hone := tab_one
 have hts := tab_size
 have hta : ∀ j, j < 256 → tab[j]? = some (.int .u16 (T j)) := tab_at
 clear hz
 have ht : ∀ w, Calls Tryz.prog 117 #[] w fun e w' => e = .returned (.agg tab) ∧ Below w.heap.size w w' := direct_calls
 generalize tab = tt at ht hi hone hts hta
 obtain ⟨R, hR⟩ : ∃ R : Nat, R = crcT s c s.size := ⟨_, rfl⟩
 rw [← hR]
 have HR := Aside0.mk hR
 clear hR
 have HT := Aside0.mk hta
 clear hta
 go_enter Tryz.func103, Tryz.ntmps103
 go_wp2_with fail
 refine (ht _).mono ?_
 rintro e w2 ⟨rfl, hb⟩
 have hg := heap_alloc_new w2 (.cells z 164)
 have hg2 := setRow_heap _ w2.heap.size z tt 164 (0, 0) hg
 have hb3 := below_setRow (below_alloc hb (.cells z 164)) hb.size tt
 have HG := Aside0.mk hg
 clear hg hb
 go_wp2_with (refine wpList_store_row rfl 164 _ _ rfl w2.heap.size tt rfl rfl 164 z HG.out hi (by rw [hzs, hts]) hone ?_)
 generalize (w2.alloc (.cells z 164)).setRow w2.heap.size tt = w3 at hg2 hb3 ⊢
 have HG2 := Aside0.mk hg2
 have HB := Aside0.mk hb3
 clear hg2 hb3 HG
 generalize w2.heap.size = g at HG2 ⊢
 go_loopg [0, 10] s.size (fun gg s0 s10 wr => ∃ (k x : Nat), s0 = .int .u16 x ∧ s10 = .int .i64 k ∧ Aside0 (x = crcT s c k) ∧ k ≤ s.size ∧ s.size - k ≤ gg ∧ wr = w3)
 case atStart => exact ⟨0, c, rfl, rfl, ⟨rfl⟩, by omega, by omega, rfl⟩
 case round =>
  obtain ⟨k, x, rfl, rfl, HX, hk, hgg, rfl⟩ := hrel
  have hx : x < 65536 := by rw [HX.out]; exact crcT_lt s c hc k
  by_cases hlt : k < s.size
  ·have hltz : (k : Int) < (s.size : Int) := by omega
   have hk63 : (k : Int) < 9223372036854775807 := by omega
   clear hi hone hts
   have hidx : ∀ h : k < s.size, (s[k]'h).toNat = by_ s k := by
    intro h
    unfold by_ bt
    rw [dif_pos (show (k : Int).toNat < s.size from h)]
    rfl
   have hbl := by_lt s k
   obtain ⟨j, hj⟩ : ∃ j, j = x / 256 ^^^ by_ s k := ⟨_, rfl⟩
   have hj2 : j < 256 := by rw [hj]; exact Nat.xor_lt_two_pow (n := 8) (by omega) hbl
   have hxor : bits .xor .u8 ((x : Int) / 256) (by_ s k : Int) = (j : Int) := by
    rw [hj, show (x : Int) / 256 = ((x / 256 : Nat) : Int) by omega]
    exact u8_xor_nat _ _ (by omega) hbl
   have hcell : wr.cell? ⟨g, j, none⟩ = some (.int .u16 (T j)) := (blk_cell HG2.out j).trans (HT.out j hj2)
   have hTl := T_lt j hj2
   obtain ⟨y, hy⟩ : ∃ y, y = crcT s c (k + 1) := ⟨_, rfl⟩
   have hfin : bits .xor .u16 (IntKind.u16.wrap ((x : Int) * 256)) (T j : Int) = (y : Int) := by
    rw [hy, IntKind.wrap_u16, show (x : Int) * 256 % 65536 = ((x * 256 % 65536 : Nat) : Int) by omega, u16_xor_nat _ _ (Nat.mod_lt _ (by decide)) hTl]
    unfold crcT
    rw [← HX.out, hj]
   have HY := Aside0.mk hy
   have HBL := Aside0.mk (And.intro hbl hTl)
   generalize T j = tj at hcell hfin HBL hTl
   generalize by_ s k = bk at hidx hxor hj HBL hbl
   have HJ := Aside0.mk hj
   clear hj hy hTl hbl
   go_wp2
   go_roundg (s.size - (k + 1))
   case measure => omega
   case rel => exact ⟨k + 1, y, by first | rfl | rw [hfin], by go_num, HY, by omega, by omega, rfl⟩
  ·obtain rfl : k = s.size := by omega
   go_wp2
   go_ret
   refine ⟨?_, HB.out⟩
   show Ending.returned (.int .u16 x) = _
   rw [HR.out, HX.out]

end Go.Proofs.YtdepicgdbealpaaGreatDoor.Enc

/- endian.write with the places of endian.up, endian.Little. -/
namespace Go.Proofs.YtdepicgdbealpaaGreatDoor.Enc
set_option linter.unusedVariables false
set_option linter.unusedSimpArgs false
open Go.RowKit Go.Lib Go.Proofs.YtdepicgdbealpaaGreatDoorW.PrintWords Go.Proofs.YtdepicgdbealpaaGreatDoorW.PrintLast Go.Proofs.YtdepicgdbealpaaGreatDoorW.PrintMore
open Go.Proofs.YtdepicgdbealpaaGreatDoor

theorem up1_calls (i : Int) (w : World) : Calls Tryz.prog 60 #[.int .i64 i] w fun e w' => e = .returned (.int .i64 i) ∧ w' = w := by
 go_enter Tryz.func60, Tryz.ntmps60
 go_wp2
 go_ret
 exact ⟨rfl, rfl⟩

theorem up_calls (i : Int) (w : World) : Calls Tryz.prog 38 #[.int .i64 i] w fun e w' => e = .returned (.func (.func 60) #[] #[]) ∧ w' = w := by
 go_enter Tryz.func38, Tryz.ntmps38
 go_wp2
 go_ret
 exact ⟨rfl, rfl⟩

/-- The byte with the weight 256^i. -/
def byteOf (n : Int) (i : Nat) : Int := n / 256 ^ i % 256
def bytesL (n : Int) (size : Nat) : List Int := (List.range size).map (byteOf n)

theorem w64e (x : Int) (h : -9223372036854775808 ≤ x ∧ x ≤ 9223372036854775807) : wrap64 x = x := by unfold wrap64; omega

theorem pow256 : ∀ k : Nat, (2 : Int) ^ (8 * k) = 256 ^ k
 | 0 => rfl
 | k + 1 => by
  rw [show 8 * (k + 1) = 8 * k + 8 by omega, Int.pow_add, pow256 k, Int.pow_succ]
  rfl

set_option maxHeartbeats 4000000 in
set_option maxRecDepth 100000 in
theorem write_calls (n : Int) (size : Nat) (w : World) (hs : 1 ≤ size ∧ size ≤ 8) :
  Calls Tryz.prog 37 #[.int .i64 n, .int .i64 size, .func (.func 60) #[] #[]] w fun e w' => e = .returned (.string (strOfNums (bytesL n size))) ∧ Below w.heap.size w w' := by
 have hu77 := Tryz.underlying103
 obtain ⟨R, hRR⟩ : ∃ R, R = strOfNums (bytesL n size) := ⟨_, rfl⟩
 rw [← hRR]
 have HRR := Aside0.mk hRR
 clear hRR
 obtain ⟨i, hi, hz⟩ := Option.map_eq_some_iff.1 V.info5
 have hiz : i.zero = some (.int .u8 0) ∧ i.size = 1 ∧ i.bytes = 1 := by simpa using hz
 have hmk := run_make (P := Tryz.prog) w 103 5 i (.int .u8 0) hu77 hi hiz.1 .i64 .i64 size size (by omega) (Int.le_refl _) (by rw [hiz.2.2]; omega) (by omega)
 rw [hiz.2.1, Int.toNat_natCast, Nat.mul_one] at hmk
 have HH := Aside0.mk (And.intro hi hiz)
 clear hi hiz hz
 go_enter Tryz.func37, Tryz.ntmps37
 go_wp2
 have hmc : (w.alloc (.cells (madeCells #[.int .u8 0] size) 5)).heap[w.heap.size]? = some (.cells (madeCells #[.int .u8 0] size) 5 (0, 0)) := heap_alloc_new w _
 have hms : (madeCells #[Value.int .u8 0] size).size = size := size_madeCells _ _
 have HB0 : Below w.heap.size w (w.alloc (.cells (madeCells #[.int .u8 0] size) 5)) := below_alloc (Below.refl _ w) _
 generalize w.alloc (.cells (madeCells #[.int .u8 0] size) 5) = w1 at hmc HB0 ⊢
 generalize madeCells #[Value.int .u8 0] size = cs0 at hmc hms
 clear hmk
 go_loopg [12] size (fun gg s12 wr => ∃ (kk : Nat) (cs : Array Value), s12 = .int .i64 kk ∧ kk ≤ size ∧ size - kk ≤ gg ∧ Aside0 (wr.heap[w.heap.size]? = some (.cells cs 5 (0, 0))) ∧ Aside0 (cs.size = size) ∧
  Aside0 (∀ j, j < kk → cs[j]? = some (.int .u8 (byteOf n j))) ∧ Aside0 (Below w.heap.size w wr))
 case atStart => exact ⟨0, cs0, rfl, Nat.zero_le _, by omega, ⟨hmc⟩, ⟨hms⟩, ⟨fun j h => absurd h (Nat.not_lt_zero _)⟩, ⟨HB0⟩⟩
 case round =>
  clear hmc hms HB0
  obtain ⟨kk, cs, rfl, hkk, hg, HC, HS, HL, HB⟩ := hrel
  by_cases hlt : kk < size
  ·have hmx : Tryz.prog.follows .mixedOrders = true := by kernel_rfl
   have hltz : (kk : Int) < (size : Int) := by omega
   have m8 : wrap64 (8 * (kk : Int)) = 8 * (kk : Int) := w64e _ (by omega)
   have hc0 : (wr.cell? ⟨w.heap.size, kk, none⟩).isSome = true := by rw [blk_cell HC.out, Array.getElem?_eq_getElem (by have := HS.out; omega)]; rfl
   have m8' : IntKind.i64.wrap (8 * (kk : Int)) = 8 * (kk : Int) := by rw [IntWalk.i64_left, m8]
   have hsh : Op.shift .shr .i64 n .i64 (8 * (kk : Int)) = pure (.int .i64 (n / 2 ^ (8 * (kk : Int)).toNat)) := shift_shr .i64 .i64 n _ (by omega) (by show _ ≤ (64 : Int); omega)
   have hT : (8 * (kk : Int)).toNat = 8 * kk := by omega
   rw [hT] at hsh
   obtain ⟨vv, hvv⟩ := Option.isSome_iff_exists.1 hc0
   have hff := blk_frozen HC.out kk
   clear hc0
   go_wp2
   go_still_tail 10, hmx
   still_call (up1_calls kk _)
   repeat still_step
   refine wpStill_nil ?_
   change wpList _ _ _ _ _ wr.drew
   go_wp2
   go_roundg (size - (kk + 1))
   case measure => omega
   case rel =>
    refine ⟨kk + 1, cs.setIfInBounds kk (.int .u8 (n / 2 ^ (8 * kk) % 256)), by go_num, by omega, by omega, ⟨blk_put HC.out kk _ rfl⟩, ⟨by rw [Array.size_setIfInBounds]; exact HS.out⟩, ⟨fun j hj => ?_⟩, ⟨(HB.out.setCell (Nat.le_refl _) _).drew⟩⟩
    rw [Array.getElem?_setIfInBounds]
    by_cases e : kk = j
    ·subst e
     rw [if_pos rfl, if_pos (by have := HS.out; omega)]
     unfold byteOf
     rw [pow256]
    ·rw [if_neg e]
     exact HL.out j (by omega)
  ·have hltz : ¬ (kk : Int) < (size : Int) := by omega
   obtain rfl : kk = size := by omega
   have hread : ReadsInt wr .u8 (some ⟨w.heap.size, 0, none⟩) kk (bytesL n kk) := by
    refine ⟨by simp [bytesL], by omega, fun _ => ⟨_, rfl, fun j hj => ?_⟩⟩
    have h1 := (blk_cell HC.out j).trans (HL.out j hj)
    rw [add_plain, h1]
    simp [bytesL, List.getD_eq_getElem?_getD, hj]
   have kc := fun c => string_of_reads (P := Tryz.prog) (src := 103) (dst := 9) (c := c) Tryz.underlying103 Tryz.underlying5 Tryz.underlying9 hread
   clear hread
   obtain ⟨ys, hys⟩ : ∃ ys, ys = bytesL n kk := ⟨_, rfl⟩
   rw [← hys] at kc
   have HY := Aside0.mk hys
   clear hys
   go_wp2
   go_ret
   refine ⟨?_, HB.out⟩
   show Ending.returned (.string (strOfNums ys)) = _
   rw [HY.out, HRR.out]

/-- What endian.check returns. -/
def checkF (n s : Int) : Int := if s < 1 ∨ s > 8 then 1 else if n < 0 ∨ (s ≠ 8 ∧ n ≥ 256 ^ s.toNat) then 2 else 0

theorem shl1 (s : Nat) (h : s ≤ 7) : shl .i64 1 (8 * (s : Int)) = 256 ^ s := by
 match s, h with
 | 0, _ => rfl
 | 1, _ => rfl
 | 2, _ => rfl
 | 3, _ => rfl
 | 4, _ => rfl
 | 5, _ => rfl
 | 6, _ => rfl
 | 7, _ => rfl

theorem check_is (n s : Int) : V.endian_check.f 1 n s = some (checkF n s) := by
 have hj : ∀ b : Bool, V.endian_check.j0 1 n s b = if b = true then some 1 else (V.endian_fits.f n s).bind fun t => if t = true then some 0 else some 2 := fun _ => rfl
 unfold V.endian_check.f checkF
 rw [hj, hj]
 by_cases h1 : s < 1
 ·rw [if_pos h1, if_pos rfl, if_pos (Or.inl h1)]
 ·rw [if_neg h1]
  by_cases h2 : s > 8
  ·rw [if_pos (decide_eq_true h2), if_pos (Or.inr h2)]
  ·rw [if_neg (by simp; omega), if_neg (show ¬ (s < 1 ∨ s > 8) by omega)]
   unfold V.endian_fits.f
   by_cases h3 : n ≥ 0
   ·rw [if_pos h3]
    by_cases h4 : s = 8
    ·rw [if_pos h4, if_neg (by omega)]
     rfl
    ·rw [if_neg h4, w64e _ (by omega), if_pos (by omega)]
     obtain ⟨m, rfl⟩ : ∃ m : Nat, s = m := ⟨s.toNat, by omega⟩
     rw [shl1 m (by omega), Int.toNat_natCast]
     by_cases h5 : n < 256 ^ m
     ·rw [decide_eq_true h5, if_neg (by omega)]
      rfl
     ·rw [decide_eq_false h5, if_pos (by omega)]
      rfl
   ·rw [if_neg h3, if_pos (by omega)]
    rfl

def littleF (n s : Int) : ByteArray × Int := if checkF n s = 0 then (strOfNums (bytesL n s.toNat), 0) else (⟨#[]⟩, checkF n s)

set_option maxHeartbeats 4000000 in
set_option maxRecDepth 100000 in
theorem little_calls (n s : Int) (w : World) :
  Calls Tryz.prog 21 #[.int .i64 n, .int .i64 s] w fun e w' => e = .returned (.tuple #[.string (littleF n s).1, .int .i64 (littleF n s).2]) ∧ Below w.heap.size w w' := by
 have hck := V.endian_check.calls 1 n s _ w (check_is n s)
 unfold littleF
 by_cases hc : checkF n s = 0
 ·rw [if_pos hc]
  rw [hc] at hck
  obtain ⟨m, rfl⟩ : ∃ m : Nat, s = m := ⟨s.toNat, by unfold checkF at hc; split at hc <;> omega⟩
  have hm : 1 ≤ m ∧ m ≤ 8 := by unfold checkF at hc; split at hc <;> omega
  rw [Int.toNat_natCast]
  generalize hR : strOfNums (bytesL n m) = R
  have HR := Aside0.mk hR
  clear hc hR
  go_enter Tryz.func21, Tryz.ntmps21
  go_wp2_with (first | (go_at_call 36; refine hck.mono ?_; rintro e w1 ⟨rfl, hd⟩) | (go_at_call 38; refine (up_calls _ _).mono ?_; rintro e w2 ⟨rfl, rfl⟩) | (go_at_call 37; refine (write_calls n m _ hm).mono ?_; rintro e w3 ⟨rfl, hb⟩; rw [HR.out]))
  go_ret2
  exact ⟨rfl, below_step hd.below hb⟩
 ·rw [if_neg hc]
  generalize checkF n s = c at hc hck
  have hcb : (c != 0) = true := by simpa using hc
  go_enter Tryz.func21, Tryz.ntmps21
  go_wp2_with (go_at_call 36; refine hck.mono ?_; rintro e w1 ⟨rfl, hd⟩)
  go_ret2
  exact ⟨rfl, hd.below⟩

def Little.f (a0 a1 : Int) : Option (ByteArray × Int) := some (littleF a0 a1)
theorem Little.calls (a0 a1 : Int) (r1 : ByteArray) (r2 : Int) (w : World) (h : Little.f a0 a1 = some (r1, r2)) :
  Calls Tryz.prog 21 #[.int .i64 a0, .int .i64 a1] w fun e w' => e = .returned (.tuple #[.string r1, .int .i64 r2]) ∧ Below w.heap.size w w' := by
 have := little_calls a0 a1 w
 rw [Option.some.inj h] at this
 exact this

end Go.Proofs.YtdepicgdbealpaaGreatDoor.Enc

/- Contracts in the printed shape: checksum.ExtendCRC16, strings.Repeat. -/
namespace Go.Proofs.YtdepicgdbealpaaGreatDoor.Enc
set_option linter.unusedVariables false
set_option linter.unusedSimpArgs false
open Go.RowKit Go.Lib Go.Proofs.YtdepicgdbealpaaGreatDoorW.PrintWords Go.Proofs.YtdepicgdbealpaaGreatDoorW.PrintLast Go.Proofs.YtdepicgdbealpaaGreatDoorW.PrintMore

def ExtendCRC16.f (a0 : Int) (a1 : ByteArray) : Option Int := if 0 ≤ a0 ∧ a0 < 65536 ∧ a1.size ≤ 9223372036854775807 then some (crcT a1 a0.toNat a1.size : Nat) else none
theorem ExtendCRC16.calls (a0 : Int) (a1 : ByteArray) (r : Int) (w : World) (h : ExtendCRC16.f a0 a1 = some r) :
  Calls Tryz.prog 103 #[.int .u16 a0, .string a1] w fun e w' => e = .returned (.int .u16 r) ∧ Below w.heap.size w w' := by
 unfold ExtendCRC16.f at h
 split at h
 ·next hc =>
  obtain ⟨m, rfl⟩ : ∃ m : Nat, a0 = m := ⟨a0.toNat, by omega⟩
  have := ext_calls m (by omega) a1 hc.2.2 w
  rw [← Option.some.inj h]
  exact this
 ·cases h

def Repeat.f (a0 : ByteArray) (a1 : Int) : Option ByteArray := if 0 ≤ a1 ∧ a1 ≤ 9223372036854775807 ∧ a0.size * a1.toNat ≤ 140737488355328 then some ⟨(Lib.repeatL a0.data.toList a1.toNat).toArray⟩ else none
theorem Repeat.calls (a0 : ByteArray) (a1 : Int) (r : ByteArray) (w : World) (h : Repeat.f a0 a1 = some r) :
  Calls Tryz.prog 35 #[.string a0, .int .i64 a1] w fun e w' => e = .returned (.string r) ∧ Below w.heap.size w w' := by
 unfold Repeat.f at h
 split at h
 ·next hc =>
  obtain ⟨m, rfl⟩ : ∃ m : Nat, a1 = m := ⟨a1.toNat, by omega⟩
  rw [← Option.some.inj h]
  exact Tryz.strings_Repeat a0 m w (by omega) hc.2.2
 ·cases h

end Go.Proofs.YtdepicgdbealpaaGreatDoor.Enc
