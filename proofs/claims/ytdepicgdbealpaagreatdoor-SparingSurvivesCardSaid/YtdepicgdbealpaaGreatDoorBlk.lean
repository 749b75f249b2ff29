/- udfstring.Entity. -/
import Derived.Test.YtdepicgdbealpaaGreatDoorTold
import Derived.Lib.ConvBytes
import Derived.Test.YtdepicgdbealpaaGreatDoorY1
import Derived.Test.YtdepicgdbealpaaGreatDoorAwake
import Derived.Deep.CutBlock
import Derived.Test.YtdepicgdbealpaaGreatDoorV0
import Derived.Test.YtdepicgdbealpaaGreatDoorV4
namespace Go.Proofs.YtdepicgdbealpaaGreatDoor.Enc
set_option linter.unusedVariables false
set_option linter.unusedSimpArgs false
open Go.RowKit Go.Lib Go.Proofs.YtdepicgdbealpaaGreatDoorW.PrintWords Go.Proofs.YtdepicgdbealpaaGreatDoorW.PrintLast Go.Proofs.YtdepicgdbealpaaGreatDoorW.PrintMore
open Go.Proofs.YtdepicgdbealpaaGreatDoor

/-- A byte that no identifier has. -/
def bad (b : Int) : Bool := decide (b < 32) || decide (b > 126)

theorem bad_calls (b : Int) (w : World) : Calls Tryz.prog 52 #[.int .u8 b] w fun e w' => e = .returned (.bool (bad b)) ∧ w' = w := by
 have hb : bad b = (if b < 32 then true else decide (b > 126)) := by unfold bad; by_cases h : b < 32 <;> simp [h]
 rw [hb]
 clear hb
 by_cases h : b < 32
 ·rw [if_pos h]
  have hd : decide (b < 32) = true := decide_eq_true h
  go_enter Tryz.func52, Tryz.ntmps52
  go_wp2
  go_ret
  exact ⟨rfl, rfl⟩
 ·rw [if_neg h]
  have hd : decide (b < 32) = false := decide_eq_false h
  generalize hq : decide (b > 126) = q
  go_enter Tryz.func52, Tryz.ntmps52
  go_wp2
  go_ret
  exact ⟨rfl, rfl⟩

set_option maxHeartbeats 4000000 in
set_option maxRecDepth 100000 in
theorem idx94_calls (A : Option Addr) (c : Nat) (xs : List Int) (w : World) (hr : ReadsInt w .u8 A xs.length xs) :
  Calls Tryz.prog 96 #[.slice A xs.length c, .func (.func 52) #[] #[]] w fun e w' => ∃ r : Int, e = .returned (.int .i64 r) ∧ (0 ≤ r ↔ xs.any bad = true) ∧ Below w.heap.size w w' := by
 have hu77 := Tryz.underlying103
 have hm : xs.length ≤ 9223372036854775807 := hr.2.1
 have HR := Aside0.mk hr
 clear hr
 go_enter Tryz.func96, Tryz.ntmps96
 go_wp2
 go_loopg [5, 8] xs.length (fun gg _ s8 wr => ∃ kk : Nat, kk ≤ xs.length ∧ xs.length - kk ≤ gg ∧ s8 = .int .i64 kk ∧ Aside0 (wr = w) ∧ Aside0 ((xs.take kk).any bad = false))
 case atStart => exact ⟨0, Nat.zero_le _, by omega, rfl, ⟨rfl⟩, ⟨by simp⟩⟩
 case round =>
  obtain ⟨kk, hkk, hg, rfl, BW, HA⟩ := hrel
  obtain rfl := BW.out
  by_cases hlt : kk < xs.length
  ·have hltz : (kk : Int) < (xs.length : Int) := by omega
   obtain ⟨ad, rfl, hx⟩ := HR.out.at_ kk (by omega) (by omega)
   rw [Int.toNat_natCast] at hx
   have hrd : rd xs kk = xs[kk] := by unfold rd; rw [Int.toNat_natCast, List.getD_eq_getElem?_getD, List.getElem?_eq_getElem hlt]; rfl
   rw [hrd] at hx
   have hany : (xs.take (kk + 1)).any bad = ((xs.take kk).any bad || bad xs[kk]) := by
    rw [List.take_succ_eq_append_getElem hlt, List.any_append]
    simp
   have hcall := fun W => bad_calls xs[kk] W
   have hmem : xs[kk] ∈ xs := List.getElem_mem hlt
   generalize xs[kk] = x at hx hcall hany hmem
   have HN := Aside0.mk hany
   have HM := Aside0.mk hmem
   clear hany hmem hrd
   cases hq : bad x with
   | true =>
    rw [hq] at hcall
    have HQ := Aside0.mk hq
    clear hq
    go_wp2_with (go_at_call 52; refine (hcall _).mono ?_; rintro e w' ⟨rfl, rfl⟩)
    go_ret
    exact ⟨_, rfl, ⟨fun _ => List.any_eq_true.2 ⟨x, HM.out, HQ.out⟩, fun _ => by omega⟩, Below.refl _ _⟩
   | false =>
    rw [hq] at hcall
    have HQ := Aside0.mk hq
    clear hq
    go_wp2_with (go_at_call 52; refine (hcall _).mono ?_; rintro e w' ⟨rfl, rfl⟩)
    go_roundg (xs.length - (kk + 1))
    case measure => omega
    case rel => exact ⟨kk + 1, by omega, by omega, by go_num, ⟨rfl⟩, ⟨by rw [HN.out, HA.out, HQ.out]; rfl⟩⟩
  ·have hltz : ¬ (kk : Int) < (xs.length : Int) := by omega
   obtain rfl : kk = xs.length := by omega
   go_wp2
   go_ret
   refine ⟨_, rfl, ⟨fun h => absurd h (by decide), fun h => ?_⟩, Below.refl _ _⟩
   have hfin := HA.out
   rw [List.take_length, List.any_eq_false] at hfin
   obtain ⟨x, hx, hbx⟩ := h
   exact absurd hbx (hfin x hx)

theorem any59_calls (A : Option Addr) (c : Nat) (xs : List Int) (w : World) (hr : ReadsInt w .u8 A xs.length xs) :
  Calls Tryz.prog 51 #[.slice A xs.length c, .func (.func 52) #[] #[]] w fun e w' => e = .returned (.bool (xs.any bad)) ∧ Below w.heap.size w w' := by
 have HC := idx94_calls A c xs w hr
 clear hr
 generalize xs.any bad = q at HC ⊢
 generalize xs.length = n at HC ⊢
 go_enter Tryz.func51, Tryz.ntmps51
 go_wp2_with (go_at_call 96; refine HC.mono ?_; rintro e w' ⟨r, rfl, hq, hb⟩)
 go_ret
 exact ⟨rfl, hb⟩

def printableB (s : ByteArray) : Bool := decide (1 ≤ s.size) && decide (s.size ≤ 23) && !(bytesOf s).any bad

set_option maxHeartbeats 4000000 in
set_option maxRecDepth 100000 in
theorem printable_calls (s : ByteArray) (hs : s.size ≤ 9223372036854775807) (w : World) : Calls Tryz.prog 33 #[.string s] w fun e w' => e = .returned (.bool (printableB s)) ∧ Below w.heap.size w w' := by
 have hu77 := Tryz.underlying103
 have hu9 := Tryz.underlying9
 have hu5 := Tryz.underlying5
 have hbs := bytesOf_length s
 have HC := any59_calls (some ⟨w.heap.size, 0, none⟩) (grownCap w s.size 0 5) (bytesOf s) (Lib.bytesWorld w 5 s) (by rw [bytesOf_length]; exact bytes_reads w 5 s hs)
 rw [hbs] at HC
 have kb := print_bytes (P := Tryz.prog) 9 103 5 hu9 hu77 hu5 s w
 have HBW := Aside0.mk (bytes_below (Below.refl w.heap.size w) (Nat.le_refl _) 5 s)
 by_cases h1 : 1 ≤ s.size
 ·have h1d : decide ((s.size : Int) ≥ 1) = true := decide_eq_true (by omega)
  by_cases h2 : s.size ≤ 23
  ·have h2d : decide ((s.size : Int) ≤ 23) = true := decide_eq_true (by omega)
   have hp : printableB s = !(bytesOf s).any bad := by unfold printableB; rw [decide_eq_true h1, decide_eq_true h2]; rfl
   rw [hp]
   generalize (bytesOf s).any bad = q at HC ⊢
   clear hp hbs
   generalize Lib.bytesWorld w 5 s = w2 at HC kb HBW
   go_enter Tryz.func33, Tryz.ntmps33
   go_wp2_with (go_at_call 51; refine HC.mono ?_; rintro e w' ⟨rfl, hb⟩)
   go_ret
   exact ⟨rfl, below_step HBW.out hb⟩
  ·have h2d : decide ((s.size : Int) ≤ 23) = false := decide_eq_false (by omega)
   have hp : printableB s = false := by unfold printableB; rw [decide_eq_false h2]; simp
   rw [hp]
   go_enter Tryz.func33, Tryz.ntmps33
   go_wp2
   go_ret
   exact ⟨rfl, Below.refl _ _⟩
 ·have h1d : decide ((s.size : Int) ≥ 1) = false := decide_eq_false (by omega)
  have hp : printableB s = false := by unfold printableB; rw [decide_eq_false h1]; simp
  rw [hp]
  go_enter Tryz.func33, Tryz.ntmps33
  go_wp2
  go_ret
  exact ⟨rfl, Below.refl _ _⟩

/-- Zero bytes. -/
def zeros (n : Nat) : ByteArray := ⟨(Lib.repeatL [(0 : UInt8)] n).toArray⟩
theorem zeros_size (n : Nat) : (zeros n).size = n := by
 show (Lib.repeatL [(0 : UInt8)] n).toArray.size = n
 rw [List.size_toArray, Lib.repeatL_length]
 simp

theorem zeros_calls (n : Nat) (hn : n ≤ 100000) (w : World) : Calls Tryz.prog 34 #[.int .i64 n] w fun e w' => e = .returned (.string (zeros n)) ∧ Below w.heap.size w w' := by
 have HC := fun W => Tryz.strings_Repeat ⟨#[0]⟩ n W (by omega) (by show 1 * n ≤ _; omega)
 have hz : (⟨(Lib.repeatL (⟨#[0]⟩ : ByteArray).data.toList n).toArray⟩ : ByteArray) = zeros n := rfl
 rw [hz] at HC
 generalize zeros n = z at HC ⊢
 clear hz
 go_enter Tryz.func34, Tryz.ntmps34
 go_wp2_with (go_at_call 35; refine (HC _).mono ?_; rintro e w' ⟨rfl, hb⟩)
 go_ret
 exact ⟨rfl, hb⟩

def entityF (a0 a1 : ByteArray) : ByteArray × Int :=
 if printableB a0 = true ∧ a1.size ≤ 8 then ((((⟨#[0]⟩ ++ a0) ++ zeros (23 - a0.size)) ++ a1) ++ zeros (8 - a1.size), 0) else (⟨#[]⟩, 1)

set_option maxHeartbeats 4000000 in
set_option maxRecDepth 100000 in
theorem entity_calls (a0 a1 : ByteArray) (h0 : a0.size ≤ 9223372036854775807) (h1 : a1.size ≤ 9223372036854775807) (w : World) :
  Calls Tryz.prog 19 #[.string a0, .string a1] w fun e w' => e = .returned (.tuple #[.string (entityF a0 a1).1, .int .i64 (entityF a0 a1).2]) ∧ Below w.heap.size w w' := by
 have HP := fun W => printable_calls a0 h0 W
 unfold entityF
 by_cases hq : printableB a0 = true
 ·rw [hq] at HP
  by_cases h8 : a1.size ≤ 8
  ·rw [if_pos ⟨hq, h8⟩]
   have h8d : decide ((a1.size : Int) > 8) = false := decide_eq_false (by omega)
   have h23 : a0.size ≤ 23 := by unfold printableB at hq; simp at hq; exact hq.1.2
   have HZ1 := fun W => zeros_calls (23 - a0.size) (by omega) W
   have HZ2 := fun W => zeros_calls (8 - a1.size) (by omega) W
   have z1 := zeros_size (23 - a0.size)
   have z2 := zeros_size (8 - a1.size)
   have e1 : ((23 - a0.size : Nat) : Int) = 23 - (a0.size : Int) := by omega
   have e2 : ((8 - a1.size : Nat) : Int) = 8 - (a1.size : Int) := by omega
   rw [e1] at HZ1
   rw [e2] at HZ2
   generalize zeros (23 - a0.size) = y1 at HZ1 z1 ⊢
   generalize zeros (8 - a1.size) = y2 at HZ2 z2 ⊢
   clear e1 e2 hq
   have zz : (⟨#[0]⟩ : ByteArray).size = 1 := rfl
   have s1 : (9223372036854775807 < 1 + a0.size) = False := eq_false (by omega)
   have s2 : (9223372036854775807 < 1 + a0.size + y1.size) = False := eq_false (by omega)
   have s3 : (9223372036854775807 < 1 + a0.size + y1.size + a1.size) = False := eq_false (by omega)
   have s4 : (9223372036854775807 < 1 + a0.size + y1.size + a1.size + y2.size) = False := eq_false (by omega)
   have Z := Aside0.mk (And.intro z1 z2)
   clear z1 z2 zz
   go_enter Tryz.func19, Tryz.ntmps19
   go_wp2_with (first | (go_at_call 33; refine (HP _).mono ?_; rintro e w1 ⟨rfl, hb1⟩) | (go_at_call 34; (first | (with_reducible refine (HZ1 _).mono ?_; rintro e w2 ⟨rfl, hb2⟩) | (with_reducible refine (HZ2 _).mono ?_; rintro e w3 ⟨rfl, hb3⟩))))
   go_ret2
   exact ⟨rfl, below_step (below_step hb1 hb2) hb3⟩
  ·rw [if_neg (fun h => h8 h.2)]
   have h8d : decide ((a1.size : Int) > 8) = true := decide_eq_true (by omega)
   clear hq
   go_enter Tryz.func19, Tryz.ntmps19
   go_wp2_with (go_at_call 33; refine (HP _).mono ?_; rintro e w1 ⟨rfl, hb1⟩)
   go_ret2
   exact ⟨rfl, hb1⟩
 ·rw [if_neg (fun h => hq h.1)]
  rw [Bool.eq_false_iff.2 hq] at HP
  clear hq
  go_enter Tryz.func19, Tryz.ntmps19
  go_wp2_with (go_at_call 33; refine (HP _).mono ?_; rintro e w1 ⟨rfl, hb1⟩)
  go_ret2
  exact ⟨rfl, hb1⟩

end Go.Proofs.YtdepicgdbealpaaGreatDoor.Enc

/- sparing.Encode. -/
namespace Go.Proofs.YtdepicgdbealpaaGreatDoor.Enc
set_option linter.unusedVariables false
set_option linter.unusedSimpArgs false
open Go.RowKit Go.Lib Go.Proofs.YtdepicgdbealpaaGreatDoorW.PrintWords Go.Proofs.YtdepicgdbealpaaGreatDoorW.PrintLast Go.Proofs.YtdepicgdbealpaaGreatDoorW.PrintMore
open Go.Proofs.YtdepicgdbealpaaGreatDoor Go.Proofs.YtdepicgdbealpaaGreatDoor.V Go.Proofs.YtdepicgdbealpaaGreatDoor.Spare

set_option maxHeartbeats 4000000 in
set_option maxRecDepth 100000 in
theorem number_calls (n s : Int) (g : Nat) (o : ByteArray) (w : World) (hg : w.heap[g]? = some (.cells #[.string o] 9 (0, 0))) (hs : o.size + (littleF n s).1.size ≤ 9223372036854775807) :
  Calls Tryz.prog 20 #[.int .i64 n, .int .i64 s, .pointer (some ⟨g, 0, none⟩)] w fun e w' => e = .returned (.tuple #[]) ∧ ∃ w1, Below w.heap.size w w1 ∧ w' = w1.setCell ⟨g, 0, none⟩ (.string (o ++ (littleF n s).1)) := by
 have HL := fun W => little_calls n s W
 obtain ⟨r1, hr1⟩ : ∃ r, r = (littleF n s).1 := ⟨_, rfl⟩
 obtain ⟨r2, hr2⟩ : ∃ r, r = (littleF n s).2 := ⟨_, rfl⟩
 rw [← hr1] at hs ⊢
 rw [← hr1, ← hr2] at HL
 clear hr1 hr2
 have hsf : (9223372036854775807 < o.size + r1.size) = False := eq_false (by omega)
 have HG := Aside0.mk hg
 clear hg hs
 go_enter Tryz.func20, Tryz.ntmps20
 go_wp2_with fail
 refine (HL _).mono ?_
 rintro e w1 ⟨rfl, hb⟩
 have hg1 := blk_below HG.out hb
 have h0 : w1.cell? ⟨g, 0, none⟩ = some (.string o) := (blk_cell hg1 0).trans rfl
 have hf := blk_frozen hg1 0
 clear hg1
 go_wp2
 go_end0
 exact ⟨rfl, w1, hb, rfl⟩

/-- The bytes of a number that fits, else none. -/
def lit (n s : Int) : ByteArray := (littleF n s).1
theorem lit_size (n s : Int) : (lit n s).size ≤ 8 := by
 unfold lit littleF
 split
 ·next h =>
  show (strOfNums (bytesL n s.toNat)).size ≤ 8
  have hs : s.toNat ≤ 8 := by unfold checkF at h; split at h <;> omega
  have e : (strOfNums (bytesL n s.toNat)).size = (bytesL n s.toNat).length := by
   show (List.map _ _).toArray.size = _
   simp
  rw [e]
  unfold bytesL
  rw [List.length_map, List.length_range]
  exact hs
 ·exact Nat.zero_le _

theorem number_step (n s : Int) (g : Nat) (o : ByteArray) (base : Nat) (w W : World) (hg : W.heap[g]? = some (.cells #[.string o] 9 (0, 0))) (hB : Below base w W) (hbg : base ≤ g) (hbw : base ≤ W.heap.size) (hs : o.size ≤ 1000) :
  Calls Tryz.prog 20 #[.int .i64 n, .int .i64 s, .pointer (some ⟨g, 0, none⟩)] W fun e w' => e = .returned (.tuple #[]) ∧ w'.heap[g]? = some (.cells #[.string (o ++ lit n s)] 9 (0, 0)) ∧ Below base w w' ∧
   W.heap.size ≤ w'.heap.size ∧ ∀ j O, j ≠ g → W.heap[j]? = some O → w'.heap[j]? = some O := by
 have h8 := lit_size n s
 refine (number_calls n s g o W hg (by have h : (littleF n s).1.size ≤ 8 := h8; omega)).mono ?_
 rintro e w' ⟨rfl, w1, hb, rfl⟩
 refine ⟨rfl, blk_put (blk_below hg hb) 0 _ rfl, ?_, by simpa [World.setCell] using hb.size, fun j O hj h => (Below.heap_setCell w1 ⟨g, 0, none⟩ _ j hj).trans (blk_below h hb)⟩
 exact (Below.trans hB (hb.mono hbw)).setCell hbg _

def ident : ByteArray := ⟨#[42, 85, 68, 70, 32, 83, 112, 97, 114, 105, 110, 103, 32, 84, 97, 98, 108, 101]⟩
def E0 : ByteArray := (entityF ident ⟨#[1, 2]⟩).1
theorem E0_ok : entityF ident ⟨#[1, 2]⟩ = (E0, 0) ∧ E0.size = 32 := by
 constructor <;> decide +kernel

def entries (b : ByteArray) (l : List S54) : ByteArray := l.foldl (fun b x => (b ++ lit x.f0 4) ++ lit x.f1 4) b
def headF (s : Int) (l : List S54) : ByteArray := ((E0 ++ lit l.length 2) ++ lit 0 2) ++ lit s 4
def bodyF (s : Int) (l : List S54) : ByteArray := entries (headF s l) l

theorem head_size (s : Int) (l : List S54) : (headF s l).size ≤ 56 := by
 unfold headF
 rw [ByteArray.size_append, ByteArray.size_append, ByteArray.size_append, E0_ok.2]
 have := lit_size l.length 2
 have := lit_size 0 2
 have := lit_size s 4
 omega
theorem entries_size (l : List S54) : ∀ b, (entries b l).size ≤ b.size + 16 * l.length := by
 induction l with
 | nil => intro b; exact Nat.le_refl _
 | cons x l ih =>
  intro b
  show (entries ((b ++ lit x.f0 4) ++ lit x.f1 4) l).size ≤ _
  have := ih ((b ++ lit x.f0 4) ++ lit x.f1 4)
  rw [ByteArray.size_append, ByteArray.size_append] at this
  have := lit_size x.f0 4
  have := lit_size x.f1 4
  simp only [List.length_cons]
  omega
theorem entries_step (b : ByteArray) (l : List S54) (k : Nat) (h : k < l.length) : entries b (l.take (k + 1)) = (entries b (l.take k) ++ lit l[k].f0 4) ++ lit l[k].f1 4 := by
 unfold entries
 rw [List.take_succ_eq_append_getElem h, List.foldl_append]
 rfl

/-- What sparing.Encode returns, over what udftag.Block does. -/
def encF (s : Int) (l : List S54) (loc : Int) (blk : ByteArray × Int) : ByteArray × Int := if validB s l = true then (if wordB loc = true then blk else (⟨#[]⟩, 2)) else (⟨#[]⟩, 1)

set_option maxHeartbeats 8000000 in
set_option maxRecDepth 100000 in
theorem encode_calls (s : Int) (A : Option Addr) (c : Nat) (l : List S54) (loc : Int) (k : Nat) (blk : ByteArray × Int) (hblk : validB s l = true → wordB loc = true → Y.udftag_Block.f k 0 1 loc (bodyF s l) = some blk)
  (w : World) (hr : Kd.C k54 w A l.length l) (hc : l.length ≤ c) :
  Calls Tryz.prog 7 #[.agg #[.int .i64 s, .slice A l.length c], .int .i64 loc] w fun e w' => e = .returned (.tuple #[.string (encF s l loc blk).1, .int .i64 (encF s l loc blk).2]) ∧ Below w.heap.size w w' := by
 have hu48 := Tryz.underlying54
 have hu26 := Tryz.underlying24
 have hu24 := Tryz.underlying22
 have hn : l.length ≤ 9223372036854775807 := hr.2.1
 have HC := Aside0.mk hr
 have HV := fun W hr => valid_calls s A c l W hr hc
 have HBLK := Aside0.mk hblk
 clear hr hblk
 unfold encF
 cases hv : validB s l with
 | false =>
  rw [if_neg (by decide)]
  rw [hv] at HV
  clear hv
  go_enter Tryz.func7, Tryz.ntmps7
  go_wp2_with (go_at_call 10; refine (HV _ (Kd.C_alloc HC.out _)).mono ?_; rintro e w1 ⟨rfl, hb1⟩)
  go_ret2
  exact ⟨rfl, below_step (below_alloc (Below.refl _ w) _) hb1⟩
 | true =>
  rw [if_pos rfl]
  rw [hv] at HV
  have HV8 : Aside0 (l.length ≤ 8) := ⟨by unfold validB at hv; simp at hv; exact hv.1.2⟩
  cases hw : wordB loc with
  | false =>
   rw [if_neg (by decide)]
   have HW := fun W => V.sparing_word.calls loc false W (by rw [word_f, hw])
   clear hv hw
   go_enter Tryz.func7, Tryz.ntmps7
   go_wp2_with (first | (go_at_call 10; refine (HV _ (Kd.C_alloc HC.out _)).mono ?_; rintro e w1 ⟨rfl, hb1⟩) | (go_at_call 18; refine (HW _).mono ?_; rintro e w2 ⟨rfl, hb2⟩))
   go_ret2
   exact ⟨rfl, below_step (below_step (below_alloc (Below.refl _ w) _) hb1) (hb2.below)⟩
  | true =>
   rw [if_pos rfl]
   have HW := fun W => V.sparing_word.calls loc true W (by rw [word_f, hw])
   have HB0 := Aside0.mk (HBLK.out hv hw)
   clear hv hw HBLK
   have HE := fun W => entity_calls ident ⟨#[1, 2]⟩ (by decide) (by decide) W
   rw [E0_ok.1] at HE
   obtain ⟨b1, b2⟩ := blk
   go_enter Tryz.func7, Tryz.ntmps7
   go_upto_region 7 with (first | (go_at_call 10; refine (HV _ (Kd.C_alloc HC.out _)).mono ?_; rintro e w1 ⟨rfl, hb1⟩) | (go_at_call 18; refine (HW _).mono ?_; rintro e w2 ⟨rfl, hb2⟩) | (go_at_call 19; refine (HE _).mono ?_; rintro e w3 ⟨rfl, hb3⟩))
   have HT := Aside0.mk (blk_alloc (blk_below (blk_below (blk_below (heap_alloc_new w (.cells #[.int .i64 s, .slice A l.length c] 24)) hb1) hb2.below) hb3) (.cells #[.string E0] 9))
   have HB := Aside0.mk (below_alloc (below_step (below_step (below_step (below_alloc (Below.refl _ w) (.cells #[.int .i64 s, .slice A l.length c] 24)) hb1) hb2.below) hb3) (.cells #[.string E0] 9))
   have HG := Aside0.mk (heap_alloc_new w3 (.cells #[.string E0] 9))
   have HL : Aside0 (w.heap.size < w3.heap.size) := ⟨by have := blk_lt (blk_below (blk_below (blk_below (heap_alloc_new w (.cells #[.int .i64 s, .slice A l.length c] 24)) hb1) hb2.below) hb3); exact this⟩
   clear hb1 hb2 hb3 HV HW HE
   generalize w3.alloc (.cells #[.string E0] 9) = w4 at HT HB HG ⊢
   generalize w3.heap.size = g at HG HL ⊢
   have HS : Aside0 (w.heap.size ≤ w4.heap.size) := ⟨HB.out.size⟩
   have t1 : w4.cell? ⟨w.heap.size, 1, none⟩ = some (.slice A l.length c) := (blk_cell HT.out 1).trans rfl
   go_wp2_with fail
   refine (number_step l.length 2 g E0 w.heap.size w w4 HG.out HB.out (by have := HL.out; omega) HS.out (by rw [E0_ok.2]; decide)).mono ?_
   rintro e w5 ⟨rfl, hg5, hB5, hs5, hk5⟩
   have HT5 := Aside0.mk (hk5 _ _ (by have := HL.out; omega) HT.out)
   clear t1 HT HB HG hk5
   have H5 := Aside0.mk (And.intro hg5 (And.intro hB5 (Nat.le_trans HS.out hs5)))
   clear HS hg5 hB5 hs5
   go_wp2_with fail
   refine (number_step 0 2 g (E0 ++ lit l.length 2) w.heap.size w w5 H5.out.1 H5.out.2.1 (by have := HL.out; omega) H5.out.2.2 (by rw [ByteArray.size_append, E0_ok.2]; have := lit_size l.length 2; omega)).mono ?_
   rintro e w6 ⟨rfl, hg5, hB5, hs5, hk5⟩
   have HT6 := Aside0.mk (hk5 _ _ (by have := HL.out; omega) HT5.out)
   have H6 := Aside0.mk (And.intro hg5 (And.intro hB5 (Nat.le_trans H5.out.2.2 hs5)))
   clear HT5 H5 hk5 hg5 hB5 hs5
   have t0 : w6.cell? ⟨w.heap.size, 0, none⟩ = some (.int .i64 s) := (blk_cell HT6.out 0).trans rfl
   go_wp2_with fail
   refine (number_step s 4 g ((E0 ++ lit l.length 2) ++ lit 0 2) w.heap.size w w6 H6.out.1 H6.out.2.1 (by have := HL.out; omega) H6.out.2.2 (by rw [ByteArray.size_append, ByteArray.size_append, E0_ok.2]; have := lit_size l.length 2; have := lit_size 0 2; omega)).mono ?_
   rintro e w7 ⟨rfl, hg5, hB5, hs5, hk5⟩
   have HT7 := Aside0.mk (hk5 _ _ (by have := HL.out; omega) HT6.out)
   have H7 : Aside0 (w7.heap[g]? = some (.cells #[.string (headF s l)] 9 (0, 0)) ∧ Below w.heap.size w w7 ∧ w.heap.size ≤ w7.heap.size) := ⟨hg5, hB5, Nat.le_trans H6.out.2.2 hs5⟩
   clear HT6 H6 hk5 hg5 hB5 hs5 t0
   have t1 : w7.cell? ⟨w.heap.size, 1, none⟩ = some (.slice A l.length c) := (blk_cell HT7.out 1).trans rfl
   go_wp2
   go_loopg [38] l.length (fun gg s38 wr => ∃ kk : Nat, s38 = .int .i64 kk ∧ kk ≤ l.length ∧ l.length - kk ≤ gg ∧ Aside0 (wr.heap[g]? = some (.cells #[.string (entries (headF s l) (l.take kk))] 9 (0, 0)) ∧ Below w.heap.size w wr ∧ w.heap.size ≤ wr.heap.size))
   case atStart => exact ⟨0, rfl, Nat.zero_le _, by omega, H7⟩
   case round =>
    clear H7 HT7 t1
    obtain ⟨kk, rfl, hkk, hg, H⟩ := hrel
    by_cases hlt : kk < l.length
    ·have hltz : (kk : Int) < (l.length : Int) := by omega
     obtain ⟨ad, rfl, hc0, hc1⟩ := at_T54 (Kd.C_below HC.out H.out.2.1) kk (by omega) (by omega)
     have hst := entries_step (headF s l) l kk hlt
     rw [rd_get l kk hlt] at hc0 hc1
     generalize l[kk] = x at hst hc0 hc1
     rw [Int.toNat_natCast] at hc0 hc1
     have hsz : (entries (headF s l) (l.take kk)).size ≤ 200 := by
      have h1 := entries_size (l.take kk) (headF s l)
      have h2 := head_size s l
      rw [List.length_take] at h1
      have := HV8.out
      omega
     generalize entries (headF s l) (l.take kk) = o at H hst hsz
     have HST := Aside0.mk hst
     have HSZ := Aside0.mk hsz
     clear hst hsz
     have HGL : Aside0 (g < wr.heap.size) := ⟨blk_lt H.out.1⟩
     go_wp2_with fail
     refine (number_step x.f0 4 g o w.heap.size w (wr.alloc (.cells #[.int .i64 x.f0, .int .i64 x.f1] 54)) (blk_alloc H.out.1 _) (below_alloc H.out.2.1 _) (by have := HL.out; omega) (Nat.le_trans H.out.2.2 (by simp)) (by have := HSZ.out; omega)).mono ?_
     rintro e w8 ⟨rfl, hg8, hB8, hs8, hk8⟩
     have hx8 := hk8 _ _ (by have := HGL.out; omega) (heap_alloc_new wr (.cells #[.int .i64 x.f0, .int .i64 x.f1] 54))
     have f1 : w8.cell? ⟨wr.heap.size, 1, none⟩ = some (.int .i64 x.f1) := (blk_cell hx8 1).trans rfl
     have H8 := Aside0.mk (And.intro hg8 (And.intro hB8 (Nat.le_trans (Nat.le_trans H.out.2.2 (by simp : wr.heap.size ≤ (wr.alloc (.cells #[.int .i64 x.f0, .int .i64 x.f1] 54)).heap.size)) hs8)))
     clear hx8 hk8 hg8 hB8 hs8 H
     go_wp2_with fail
     refine (number_step x.f1 4 g (o ++ lit x.f0 4) w.heap.size w w8 H8.out.1 H8.out.2.1 (by have := HL.out; omega) H8.out.2.2 (by rw [ByteArray.size_append]; have := lit_size x.f0 4; have := HSZ.out; omega)).mono ?_
     rintro e w9 ⟨rfl, hg9, hB9, hs9, _⟩
     have H9 := Aside0.mk (And.intro hg9 (And.intro hB9 (Nat.le_trans H8.out.2.2 hs9)))
     clear hg9 hB9 hs9 H8 f1
     go_wp2
     go_roundg (l.length - (kk + 1))
     case measure => omega
     case rel => exact ⟨kk + 1, by go_num, by omega, by omega, ⟨by rw [HST.out]; exact H9.out⟩⟩
    ·have hltz : ¬ (kk : Int) < (l.length : Int) := by omega
     obtain rfl : kk = l.length := by omega
     rw [List.take_length] at H
     have t0 : wr.cell? ⟨g, 0, none⟩ = some (.string (bodyF s l)) := (blk_cell H.out.1 0).trans rfl
     generalize hbd : bodyF s l = bd at HB0 t0
     clear hbd
     go_wp2_with fail
     refine (Y.udftag_Block.calls k 0 1 loc bd b1 b2 _ HB0.out).mono ?_
     rintro e w9 ⟨rfl, hb9⟩
     go_wp2
     go_ret2
     exact ⟨rfl, below_step H.out.2.1 hb9⟩

end Go.Proofs.YtdepicgdbealpaaGreatDoor.Enc

/- What the two block makers return, in plain words. -/
namespace Go.Proofs.YtdepicgdbealpaaGreatDoor.Enc
set_option linter.unusedVariables false
set_option linter.unusedSimpArgs false
open Go.RowKit Go.Lib Go.Proofs.YtdepicgdbealpaaGreatDoorW.PrintWords Go.Proofs.YtdepicgdbealpaaGreatDoorW.PrintLast Go.Proofs.YtdepicgdbealpaaGreatDoorW.PrintMore
open Go.Proofs.YtdepicgdbealpaaGreatDoor Go.Proofs.YtdepicgdbealpaaGreatDoor.V Go.Proofs.YtdepicgdbealpaaGreatDoor.Spare

def lb (n : Int) (s : Nat) : ByteArray := strOfNums (bytesL n s)
theorem strOfNums_size (l : List Int) : (strOfNums l).size = l.length := by
 show (List.map _ _).toArray.size = _
 simp
theorem bytesL_len (n : Int) (s : Nat) : (bytesL n s).length = s := by simp [bytesL]
theorem lb_size (n : Int) (s : Nat) : (lb n s).size = s := by unfold lb; rw [strOfNums_size, bytesL_len]
/-- The sum of the first k bytes. -/
def sumN (s : ByteArray) : Nat → Nat
 | 0 => 0
 | k + 1 => (sumN s k + by_ s k) % 256
theorem sumN_lt (s : ByteArray) : ∀ k, sumN s k < 256
 | 0 => by show 0 < 256; omega
 | k + 1 => Nat.mod_lt _ (by decide)

theorem sumN_succ (s : ByteArray) (k : Nat) : sumN s (k + 1) = (sumN s k + by_ s k) % 256 := rfl

theorem sum_l0 (s : ByteArray) (hs : s.size ≤ 1000000) : ∀ (r i m : Nat), i + r = s.size → checksum_Sum8.l0 (m + r + 1) s (sumN s i) s.size i = some (sumN s s.size : Int)
 | 0, i, m, h => by
  unfold checksum_Sum8.l0
  rw [if_neg (by omega)]
  obtain rfl : i = s.size := by omega
  rfl
 | r + 1, i, m, h => by
  unfold checksum_Sum8.l0
  have e : ((sumN s i : Int) + bt s i) % 256 = (sumN s (i + 1) : Int) := by rw [by_bt, sumN_succ]; omega
  rw [if_pos (by omega), if_pos (by omega), if_pos (by omega), e, w64e _ (by omega), show ((i : Int) + 1) = ((i + 1 : Nat) : Int) by omega, show m + (r + 1) = m + r + 1 by omega]
  exact sum_l0 s hs r (i + 1) m (by omega)
/-- The sum of a tag's bytes but the fifth. -/
def sumT (t : ByteArray) : Int := sumN (t.extract 0 4 ++ t.extract 5 16) 15
def sealT (t : ByteArray) : ByteArray := (t.extract 0 4 ++ strOfNums [sumT t]) ++ t.extract 5 t.size

theorem sum_f (t : ByteArray) (ht : t.size = 16) (m : Nat) : udftag_sum.f (m + 16) t = some (sumT t) := by
 have hz : (t.extract 0 4 ++ t.extract 5 16).size = 15 := by rw [ByteArray.size_append, ByteArray.size_extract, ByteArray.size_extract, ht]; rfl
 have h1 := sum_l0 (t.extract 0 4 ++ t.extract 5 16) (by omega) 15 0 m (by omega)
 rw [hz] at h1
 have hc : (t.extract 0 4).size + (t.extract 5 16).size ≤ 9223372036854775807 := by rw [← ByteArray.size_append, hz]; decide
 unfold udftag_sum.f checksum_Sum8.f
 rw [if_pos (by decide), if_pos (by omega), if_pos (by decide), if_pos (by omega), if_pos hc, hz]
 rw [show checksum_Sum8.l0 (m + 16) (t.extract 0 4 ++ t.extract 5 16) 0 ((15 : Nat) : Int) 0 = _ from h1]
 rfl

theorem seal_f (t : ByteArray) (ht : t.size = 16) (m : Nat) : udftag_summed.f (m + 16) t = some (sealT t) := by
 have h1 := sum_f t ht m
 have hz : (strOfNums [sumT t]).size = 1 := strOfNums_size _
 have c1 : (t.extract 0 4).size + (strOfNums [sumT t]).size ≤ 9223372036854775807 := by rw [hz, ByteArray.size_extract, ht]; decide
 have c2 : ((t.extract 0 4) ++ (strOfNums [sumT t])).size + (t.extract 5 t.size).size ≤ 9223372036854775807 := by rw [ByteArray.size_append, hz, ByteArray.size_extract, ByteArray.size_extract, ht]; decide
 unfold udftag_summed.f
 rw [if_pos (by decide), if_pos (by omega), h1, Option.bind_some, Option.bind_some, if_pos c1, if_pos (by omega), if_pos c2]
 rfl
theorem sealT_size (t : ByteArray) (ht : t.size = 16) : (sealT t).size = 16 := by
 unfold sealT
 rw [ByteArray.size_append, ByteArray.size_append, strOfNums_size, ByteArray.size_extract, ByteArray.size_extract, ht]
 rfl

theorem crcS_lt (s : ByteArray) : ∀ k, crcS s 0 k < 65536 := fun k => by rw [← crc_same s 0 (by decide) k]; exact crcT_lt s 0 (by decide) k

def crcI (s : ByteArray) : Int := crcS s 0 s.size
theorem crcI_range (s : ByteArray) : 0 ≤ crcI s ∧ crcI s < 65536 := by unfold crcI; have := crcS_lt s s.size; omega
theorem pcrc_f (s : ByteArray) (hs : s.size < 1000000) : Y.checksum_CRC16.f s = some (crcI s) := by
 unfold Y.checksum_CRC16.f ExtendCRC16.f
 rw [if_pos ⟨by decide, by decide, by omega⟩, Option.bind_some]
 show some ((crcT s 0 s.size : Nat) : Int) = _
 rw [crc_same s 0 (by decide)]
 rfl

/-- The tag of a descriptor, its checksum's byte zero. -/
def tagT (id ser loc : Int) (body : ByteArray) : ByteArray := ((((lb id 2 ++ (⟨#[3, 0, 0, 0]⟩ : ByteArray)) ++ lb ser 2) ++ lb (crcI body) 2) ++ lb body.size 2) ++ lb loc 4
theorem c4_size : (⟨#[3, 0, 0, 0]⟩ : ByteArray).size = 4 := rfl
theorem tagT_size (id ser loc : Int) (body : ByteArray) : (tagT id ser loc body).size = 16 := by
 unfold tagT
 simp only [ByteArray.size_append, lb_size, c4_size]
theorem tagT_prog (id ser loc : Int) (body : ByteArray) : (((((lb id 2 ++ lb 3 2) ++ (⟨#[0, 0]⟩ : ByteArray)) ++ lb ser 2) ++ lb (crcI body) 2) ++ lb body.size 2) ++ lb loc 4 = tagT id ser loc body := by
 unfold tagT
 congr 4

def ranged (id ser loc : Int) : Prop := (0 ≤ id ∧ id < 65536) ∧ (0 ≤ ser ∧ ser < 65536) ∧ (0 ≤ loc ∧ loc < 4294967296)

theorem little_f (n : Int) (s : Nat) (h : checkF n s = 0) : Y.udftag_little.f n s = some (lb n s) := by
 unfold Y.udftag_little.f Little.f littleF
 rw [if_pos h, Option.bind_some, Int.toNat_natCast]
 rfl
theorem check2 (n : Int) (h : 0 ≤ n ∧ n < 65536) : checkF n 2 = 0 := by
 unfold checkF
 rw [if_neg (by omega), if_neg (by show ¬ (n < 0 ∨ _ ∧ n ≥ 256 ^ 2); omega)]
theorem check4 (n : Int) (h : 0 ≤ n ∧ n < 4294967296) : checkF n 4 = 0 := by
 unfold checkF
 rw [if_neg (by omega), if_neg (by show ¬ (n < 0 ∨ _ ∧ n ≥ 256 ^ 4); omega)]

theorem most2 : udftag_most.f 2 = some 65535 := by decide +kernel
theorem most4 : udftag_most.f 4 = some 4294967295 := by decide +kernel
theorem fits2 (n : Int) (h : 0 ≤ n ∧ n < 65536) : udftag_fits.f n 2 = some true := by
 unfold udftag_fits.f
 rw [if_pos h.1, most2, Option.bind_some, decide_eq_true (by omega)]
theorem fits4 (n : Int) (h : 0 ≤ n ∧ n < 4294967296) : udftag_fits.f n 4 = some true := by
 unfold udftag_fits.f
 rw [if_pos h.1, most4, Option.bind_some, decide_eq_true (by omega)]

def blockB (id ser loc : Int) (body : ByteArray) : ByteArray := (sealT (tagT id ser loc body) ++ body) ++ zeros (2032 - body.size)

theorem seal_K (t : ByteArray) (ht : t.size = 16) (K : Nat) (hK : 16 ≤ K) : udftag_summed.f K t = some (sealT t) := by
 obtain ⟨m, rfl⟩ : ∃ m, K = m + 16 := ⟨K - 16, by omega⟩
 exact seal_f t ht m
theorem block_prog (id ser loc : Int) (body : ByteArray) (h : ranged id ser loc) (hb : body.size ≤ 2032) (K : Nat) (hK : 20 ≤ K) : Y.udftag_Block.f K id ser loc body = some (blockB id ser loc body, 0) := by
 obtain ⟨h1, h2, h3⟩ := h
 have hc := crcI_range body
 have hsz := tagT_size id ser loc body
 have hss := sealT_size _ hsz
 have hj : Y.udftag_seal.f K id ser loc body 2032 = some (sealT (tagT id ser loc body) ++ body, 0) := by
  unfold Y.udftag_seal.f
  rw [fits2 id h1, Option.bind_some, if_pos rfl, fits2 ser h2, Option.bind_some, if_pos rfl, fits4 loc h3, Option.bind_some]
  obtain ⟨q, rfl⟩ : ∃ q, K = q + 1 := ⟨K - 1, by omega⟩
  rw [Y.udftag_seal.j0, if_neg (by decide), if_neg (by omega)]
  have L2 := fun n h => little_f n 2 (check2 n h)
  have L4 := fun n h => little_f n 4 (check4 n h)
  simp only [show ((2 : Nat) : Int) = 2 from rfl, show ((4 : Nat) : Int) = 4 from rfl] at L2 L4
  have c2 : (⟨#[0, 0]⟩ : ByteArray).size = 2 := rfl
  have hseal := seal_K (tagT id ser loc body) hsz q (by omega)
  have z1 : (lb id 2 ++ lb 3 2).size = 4 := by rw [ByteArray.size_append, lb_size, lb_size]
  have z2 : ((lb id 2 ++ lb 3 2) ++ (⟨#[0, 0]⟩ : ByteArray)).size = 6 := by rw [ByteArray.size_append, z1, c2]
  have z3 : (((lb id 2 ++ lb 3 2) ++ (⟨#[0, 0]⟩ : ByteArray)) ++ lb ser 2).size = 8 := by rw [ByteArray.size_append, z2, lb_size]
  have z4 : ((((lb id 2 ++ lb 3 2) ++ (⟨#[0, 0]⟩ : ByteArray)) ++ lb ser 2) ++ lb (crcI body) 2).size = 10 := by rw [ByteArray.size_append, z3, lb_size]
  have z5 : (((((lb id 2 ++ lb 3 2) ++ (⟨#[0, 0]⟩ : ByteArray)) ++ lb ser 2) ++ lb (crcI body) 2) ++ lb body.size 2).size = 12 := by rw [ByteArray.size_append, z4, lb_size]
  rw [L2 id h1, Option.bind_some, L2 3 (by omega), Option.bind_some, if_pos (by rw [lb_size, lb_size]; omega), if_pos (by rw [z1]; omega), L2 ser h2, Option.bind_some, if_pos (by rw [z2, lb_size]; omega),
   pcrc_f body (by omega), Option.bind_some, w64e _ (by omega), L2 (crcI body) hc, Option.bind_some, if_pos (by rw [z3, lb_size]; omega), L2 body.size (by omega), Option.bind_some, if_pos (by rw [z4, lb_size]; omega),
   L4 loc h3, Option.bind_some, if_pos (by rw [z5, lb_size]; omega), tagT_prog, hseal, Option.bind_some, if_pos (by rw [hss]; omega)]
 unfold Y.udftag_Block.f
 rw [hj, Option.bind_some, if_pos rfl]
 unfold Repeat.f
 have hz : (sealT (tagT id ser loc body) ++ body).size = 16 + body.size := by rw [ByteArray.size_append, hss]
 rw [hz, w64e _ (by omega), show (2048 - ((16 + body.size : Nat) : Int)) = ((2032 - body.size : Nat) : Int) by omega, if_pos ⟨by omega, by omega, by rw [Int.toNat_natCast]; show 1 * _ ≤ _; omega⟩, Option.bind_some, Int.toNat_natCast]
 have hzz : (⟨(Lib.repeatL (⟨#[0]⟩ : ByteArray).data.toList (2032 - body.size)).toArray⟩ : ByteArray) = zeros (2032 - body.size) := rfl
 rw [hzz, if_pos (by rw [zeros_size]; omega)]
 rfl

end Go.Proofs.YtdepicgdbealpaaGreatDoor.Enc
