/- What sparing.Valid says, in plain words. -/
import Derived.Test.YtdepicgdbealpaaGreatDoorV3
namespace Go.Proofs.YtdepicgdbealpaaGreatDoor.Spare
set_option linter.unusedVariables false
set_option linter.unusedSimpArgs false
open Go.RowKit Go.Proofs.YtdepicgdbealpaaGreatDoorW.PrintWords Go.Proofs.YtdepicgdbealpaaGreatDoorW.PrintLast Go.Proofs.YtdepicgdbealpaaGreatDoorW.PrintMore
open Go.Proofs.YtdepicgdbealpaaGreatDoor.V

theorem w64 (n : Int) (h : -9223372036854775808 ≤ n ∧ n ≤ 9223372036854775807) : wrap64 n = n := by unfold wrap64; omega

def wordB (n : Int) : Bool := decide (0 ≤ n) && decide (n < 4294967296)
def okE (x : S54) : Bool := wordB x.f1 && wordB x.f0 && (decide (x.f0 = 4294967295) || decide (Int.tmod x.f0 8 = 0))
def okP (y x : S54) : Bool := !decide (mx (wrap64 (x.f1 - y.f1)) (wrap64 (y.f1 - x.f1)) < 8) && !decide (y.f0 > x.f0) && (!decide (y.f0 = x.f0) || decide (x.f0 = 4294967295))
def innerB (l : List S54) (x : S54) : Nat → Nat → Bool
 | _, 0 => true
 | j, d + 1 => okP (rd_T54 l j) x && innerB l x (j + 1) d
def outerB (l : List S54) : Nat → Nat → Bool
 | _, 0 => true
 | i, r + 1 => okE (rd_T54 l i) && innerB l (rd_T54 l i) 0 i && outerB l (i + 1) r
def validB (s : Int) (l : List S54) : Bool := wordB s && decide (l.length ≤ 8) && outerB l 0 l.length

theorem word_f (n : Int) : sparing_word.f n = some (wordB n) := by
 unfold sparing_word.f wordB
 by_cases h : n ≥ 0
 ·rw [if_pos h]; simp [h]
 ·rw [if_neg h]; have : ¬ (0 ≤ n) := h; simp [this]

theorem rd_take (l : List S54) (i j : Nat) (h : j < i) : rd_T54 (l.take i) j = rd_T54 l j := by
 unfold rd_T54
 simp only [Int.toNat_natCast, List.getD_eq_getElem?_getD]
 rw [List.getElem?_take, if_pos h]

theorem l1_is (l : List S54) (s : Int) (x : S54) (i : Nat) (hi : i ≤ l.length) (h8 : l.length ≤ 8) : ∀ (d j m : Nat), j + d = i →
  sparing_Valid.l1 (m + d + 1) l (l.length : Int) i (l.take i) ((l.take i).length : Int) j s l x.f0 x.f1 = if innerB l x j d then sparing_Valid.l0 m l (l.length : Int) (i + 1) s l else some false
 | 0, j, m, hj => by
  unfold sparing_Valid.l1
  have e : (l.take i).length = i := by rw [List.length_take]; omega
  rw [e, if_neg (by omega), w64 _ (by omega)]
  rfl
 | d + 1, j, m, hj => by
  unfold sparing_Valid.l1
  have e : (l.take i).length = i := by rw [List.length_take]; omega
  have ih := l1_is l s x i hi h8 d (j + 1) m (by omega)
  rw [e] at ih ⊢
  rw [if_pos (by omega), if_pos (by omega), if_pos (by omega), rd_take l i j (by omega), w64 ((j : Int) + 1) (by omega)]
  rw [show ((j : Int) + 1) = ((j + 1 : Nat) : Int) by omega]
  rw [show m + (d + 1) = m + d + 1 by omega, ih]
  rw [show innerB l x j (d + 1) = (okP (rd_T54 l j) x && innerB l x (j + 1) d) from rfl]
  generalize innerB l x (j + 1) d = z
  generalize hy : rd_T54 l j = y
  by_cases c1 : mx (wrap64 (x.f1 - y.f1)) (wrap64 (y.f1 - x.f1)) < 8
  ·rw [if_pos c1, show okP y x = false by simp [okP, c1]]; rfl
  ·rw [if_neg c1]
   by_cases c2 : y.f0 > x.f0
   ·rw [if_pos c2, show okP y x = false by simp [okP, c2]]; rfl
   ·rw [if_neg c2]
    by_cases c3 : y.f0 = x.f0
    ·rw [if_pos c3]
     by_cases c4 : x.f0 = 4294967295
     ·rw [if_pos c4, show okP y x = true by simp [okP, c1, c3, c4], Bool.true_and]
     ·rw [if_neg c4, show okP y x = false by simp [okP, c3, c4]]; rfl
    ·rw [if_neg c3, show okP y x = true by simp [okP, c1, c3]; omega, Bool.true_and]

theorem l0_is (l : List S54) (s : Int) (h8 : l.length ≤ 8) : ∀ (r i m : Nat), i + r = l.length → 12 * r + 1 ≤ m →
  sparing_Valid.l0 m l (l.length : Int) i s l = some (outerB l i r)
 | 0, i, m, hi, hm => by
  obtain ⟨m, rfl⟩ : ∃ q, m = q + 1 := ⟨m - 1, by omega⟩
  unfold sparing_Valid.l0
  rw [if_neg (by omega)]
  rfl
 | r + 1, i, m, hi, hm => by
  obtain ⟨q, rfl⟩ : ∃ q, m = (q + i + 1) + 1 + 1 := ⟨m - i - 3, by omega⟩
  have ih := l0_is l s h8 r (i + 1) q (by omega) (by omega)
  have hl1 := l1_is l s (rd_T54 l i) i (by omega) h8 i 0 q (by omega)
  unfold sparing_Valid.l0
  rw [if_pos (by omega), if_pos (by omega), if_pos (by omega), word_f, Option.bind_some, word_f, Option.bind_some]
  have hj2 : ∀ b : Bool, sparing_Valid.j2 (q + i + 1 + 1) i l (l.length : Int) i b s l (rd_T54 l i).f0 (rd_T54 l i).f1 = if b = true then some false else (if innerB l (rd_T54 l i) 0 i then some (outerB l (i + 1) r) else some false) := by
   intro b
   unfold sparing_Valid.j2
   by_cases hb : b = true
   ·rw [if_pos hb, if_pos hb]
   ·rw [if_neg hb, if_neg hb, if_pos (by omega), if_pos (by omega), Option.bind_some, Int.toNat_natCast]
    have hl1' := hl1
    rw [show ((i : Int) + 1) = ((i + 1 : Nat) : Int) by omega, ih] at hl1'
    exact hl1'
  unfold outerB okE
  rw [hj2, hj2, hj2]
  cases h1 : wordB (rd_T54 l i).f1 with
  | false => simp
  | true =>
   cases h2 : wordB (rd_T54 l i).f0 with
   | false => simp
   | true =>
    by_cases h3 : (rd_T54 l i).f0 = 4294967295
    ·cases innerB l (rd_T54 l i) 0 i <;> simp [h3]
    ·by_cases h4 : Int.tmod (rd_T54 l i).f0 8 = 0
     ·cases innerB l (rd_T54 l i) 0 i <;> simp [h3, h4]
     ·simp [h3, h4]

theorem valid_is (s : Int) (l : List S54) : sparing_Valid.f 200 s l = some (validB s l) := by
 unfold sparing_Valid.f validB
 rw [word_f, Option.bind_some]
 cases h1 : wordB s with
 | false => simp [sparing_Valid.j0]
 | true =>
  rw [if_pos rfl]
  rw [show (200 : Nat) = 199 + 1 from rfl, sparing_Valid.j0]
  by_cases h : l.length ≤ 8
  ·rw [if_neg (by simp; omega)]
   have := l0_is l s h l.length 0 199 (by omega) (by omega)
   simp [h]
   exact this
  ·rw [if_pos (by simp; omega)]; simp [h]

theorem valid_calls (s : Int) (A : Option Addr) (c : Nat) (l : List S54) (w : World) (hr : Kd.C k54 w A l.length l) (hc : l.length ≤ c) :
  Calls Tryz.prog 10 #[.agg #[.int .i64 s, .slice A l.length c]] w fun e w' => e = .returned (.bool (validB s l)) ∧ Below w.heap.size w w' :=
 sparing_Valid.calls 200 s A c l _ w hr hc (valid_is s l)

end Go.Proofs.YtdepicgdbealpaaGreatDoor.Spare
