/- Plain law: the block of a table reads as the table. -/
import Derived.Test.YtdepicgdbealpaaGreatDoorDecG
namespace Go.Proofs.YtdepicgdbealpaaGreatDoor.Enc
set_option linter.unusedVariables false
set_option linter.unusedSimpArgs false
open Go.RowKit Go.Lib Go.Proofs.YtdepicgdbealpaaGreatDoorW.PrintWords Go.Proofs.YtdepicgdbealpaaGreatDoorW.PrintLast Go.Proofs.YtdepicgdbealpaaGreatDoorW.PrintMore
open Go.Proofs.YtdepicgdbealpaaGreatDoor Go.Proofs.YtdepicgdbealpaaGreatDoor.V Go.Proofs.YtdepicgdbealpaaGreatDoor.Spare

theorem by_q (s : ByteArray) (i : Nat) : by_ s i = ((s.data[i]?).map UInt8.toNat).getD 0 := by
 unfold by_ bt
 by_cases h : i < s.size
 ·rw [dif_pos (show ((i : Nat) : Int).toNat < s.size from h)]
  have h' : i < s.data.size := h
  rw [Array.getElem?_eq_getElem h']
  rfl
 ·rw [dif_neg (show ¬ ((i : Nat) : Int).toNat < s.size from h)]
  have h' : ¬ i < s.data.size := h
  rw [Array.getElem?_eq_none (by omega)]
  rfl
theorem by_left (a b : ByteArray) (i : Nat) (h : i < a.size) : by_ (a ++ b) i = by_ a i := by
 rw [by_q, by_q, ByteArray.data_append, Array.getElem?_append, if_pos (show i < a.data.size from h)]
theorem by_right (a b : ByteArray) (i : Nat) : by_ (a ++ b) (a.size + i) = by_ b i := by
 rw [by_q, by_q, ByteArray.data_append, Array.getElem?_append, if_neg (show ¬ a.size + i < a.data.size from by show ¬ a.size + i < a.size; omega)]
 show Option.getD (Option.map _ (b.data[a.size + i - a.size]?)) 0 = _
 rw [Nat.add_sub_cancel_left]
theorem by_ext (s : ByteArray) (a b i : Nat) (h : a + i < b) (hb : b ≤ s.size) : by_ (s.extract a b) i = by_ s (a + i) := by
 have hb' : b ≤ s.data.size := hb
 rw [by_q, by_q, ByteArray.data_extract, Array.getElem?_extract, if_pos (by omega)]
theorem by_lb (n : Int) (s i : Nat) (h : i < s) : by_ (lb n s) i = (byteOf n i).toNat := by
 rw [by_q]
 unfold lb strOfNums bytesL
 have hr : 0 ≤ byteOf n i ∧ byteOf n i < 256 := by unfold byteOf; omega
 simp [h]
 omega
theorem rdN_congr (s t : ByteArray) (a b : Nat) : ∀ k, (∀ i, i < k → by_ s (a + i) = by_ t (b + i)) → rdN s a k = rdN t b k
 | 0, _ => rfl
 | k + 1, h => by
  show rdN s a k + by_ s (a + k) * 256 ^ k = rdN t b k + by_ t (b + k) * 256 ^ k
  rw [rdN_congr s t a b k (fun i hi => h i (by omega)), h k (by omega)]
theorem rdN_left (a b : ByteArray) (p k : Nat) (h : p + k ≤ a.size) : rdN (a ++ b) p k = rdN a p k :=
 rdN_congr _ _ _ _ k fun i hi => by_left a b (p + i) (by omega)
theorem rdN_right (a b : ByteArray) (p k q : Nat) (h : q = a.size + p) : rdN (a ++ b) q k = rdN b p k :=
 rdN_congr _ _ _ _ k fun i _ => by rw [h, Nat.add_assoc]; exact by_right a b (p + i)
theorem rdN_ext (s : ByteArray) (a b p k : Nat) (h : a + p + k ≤ b) (hb : b ≤ s.size) : rdN (s.extract a b) p k = rdN s (a + p) k :=
 rdN_congr _ _ _ _ k fun i hi => by rw [by_ext s a b (p + i) (by omega) hb, Nat.add_assoc]
theorem rdN_lb (n : Int) (s : Nat) : ∀ k, k ≤ s → ((rdN (lb n s) 0 k : Nat) : Int) = n % 256 ^ k
 | 0, _ => by show (0 : Int) = n % 1; omega
 | k + 1, h => by
  show ((rdN (lb n s) 0 k + by_ (lb n s) (0 + k) * 256 ^ k : Nat) : Int) = n % 256 ^ (k + 1)
  have hr : 0 ≤ byteOf n k := by unfold byteOf; omega
  rw [Nat.zero_add, by_lb n s k (by omega), Int.natCast_add, rdN_lb n s k (by omega), Int.natCast_mul, Int.toNat_of_nonneg hr, Int.natCast_pow, Int.pow_succ]
  unfold byteOf
  have hp : (0 : Int) < 256 ^ k := Int.pow_pos (by decide)
  have e1 := Int.emod_add_mul_ediv n (256 ^ k * 256)
  have e2 := Int.emod_add_mul_ediv n (256 ^ k)
  have e3 := Int.emod_add_mul_ediv (n / 256 ^ k) 256
  have e4 : n / (256 ^ k * 256) = n / 256 ^ k / 256 := (Int.ediv_ediv_of_nonneg (Int.le_of_lt hp)).symm
  rw [e4] at e1
  show n % 256 ^ k + n / 256 ^ k % 256 * 256 ^ k = n % (256 ^ k * 256)
  generalize n / 256 ^ k = q at *
  generalize n % 256 ^ k = r at *
  generalize (256 : Int) ^ k = P at *
  generalize n % (P * 256) = u at *
  generalize q / 256 = v at *
  have : q % 256 = q - 256 * v := by omega
  rw [this, Int.sub_mul]
  have h5 : P * 256 * v = 256 * v * P := by rw [Int.mul_comm (P * 256) v, Int.mul_comm P 256, ← Int.mul_assoc, Int.mul_comm v 256]
  have h6 : P * q = q * P := Int.mul_comm _ _
  omega
theorem rd_lb (n : Int) (k : Nat) (h : 0 ≤ n ∧ n < 256 ^ k) : ((rdN (lb n k) 0 k : Nat) : Int) = n := by rw [rdN_lb n k k (Nat.le_refl _)]; exact Int.emod_eq_of_lt h.1 h.2
theorem ext_left (a b : ByteArray) (i j : Nat) (h : j ≤ a.size) : (a ++ b).extract i j = a.extract i j := by
 apply ByteArray.ext
 rw [ByteArray.data_extract, ByteArray.data_append, ByteArray.data_extract, Array.extract_append, show j - a.data.size = 0 from Nat.sub_eq_zero_of_le h]
 simp
theorem ext_right (a b : ByteArray) (i j p q : Nat) (hp : p = a.size + i) (hq : q = a.size + j) : (a ++ b).extract p q = b.extract i j := by
 subst hp; subst hq
 apply ByteArray.ext
 rw [ByteArray.data_extract, ByteArray.data_append, ByteArray.data_extract, Array.extract_append]
 show a.data.extract (a.size + i) (a.size + j) ++ b.data.extract (a.size + i - a.size) (a.size + j - a.size) = _
 rw [Nat.add_sub_cancel_left, Nat.add_sub_cancel_left]
 have : a.data.extract (a.size + i) (a.size + j) = #[] := by
  apply Array.extract_empty_of_size_le_start
  show a.size ≤ a.size + i
  omega
 rw [this]
 simp
theorem ext_self (a : ByteArray) (j : Nat) (h : a.size ≤ j) : a.extract 0 j = a := by
 apply ByteArray.ext
 rw [ByteArray.data_extract]
 exact Array.extract_eq_self_of_le h
section
variable (id ser loc : Int) (body : ByteArray)
theorem tag_rd (h : ranged id ser loc) (hb : body.size ≤ 65535) : ((rdN (tagT id ser loc body) 0 2 : Nat) : Int) = id ∧ ((rdN (tagT id ser loc body) 2 2 : Nat) : Int) = 3 ∧ ((rdN (tagT id ser loc body) 6 2 : Nat) : Int) = ser ∧ ((rdN (tagT id ser loc body) 8 2 : Nat) : Int) = crcI body ∧ ((rdN (tagT id ser loc body) 10 2 : Nat) : Int) = body.size ∧ ((rdN (tagT id ser loc body) 12 4 : Nat) : Int) = loc := by
 have hc := crcI_range body
 obtain ⟨h1, h2, h3⟩ := h
 have z1 : (lb id 2 ++ (⟨#[3, 0, 0, 0]⟩ : ByteArray)).size = 6 := by rw [ByteArray.size_append, lb_size]; rfl
 have z2 : ((lb id 2 ++ (⟨#[3, 0, 0, 0]⟩ : ByteArray)) ++ lb ser 2).size = 8 := by rw [ByteArray.size_append, z1, lb_size]
 have z3 : (((lb id 2 ++ (⟨#[3, 0, 0, 0]⟩ : ByteArray)) ++ lb ser 2) ++ lb (crcI body) 2).size = 10 := by rw [ByteArray.size_append, z2, lb_size]
 have z4 : ((((lb id 2 ++ (⟨#[3, 0, 0, 0]⟩ : ByteArray)) ++ lb ser 2) ++ lb (crcI body) 2) ++ lb body.size 2).size = 12 := by rw [ByteArray.size_append, z3, lb_size]
 have p2 : (256 : Int) ^ 2 = 65536 := by decide
 have p4 : (256 : Int) ^ 4 = 4294967296 := by decide
 refine ⟨?_, ?_, ?_, ?_, ?_, ?_⟩ <;> unfold tagT
 ·rw [rdN_left _ _ 0 2 (by rw [z4]; decide), rdN_left _ _ 0 2 (by rw [z3]; decide), rdN_left _ _ 0 2 (by rw [z2]; decide), rdN_left _ _ 0 2 (by rw [z1]; decide), rdN_left _ _ 0 2 (by rw [lb_size]; decide)]
  exact rd_lb id 2 (by omega)
 ·rw [rdN_left _ _ 2 2 (by rw [z4]; decide), rdN_left _ _ 2 2 (by rw [z3]; decide), rdN_left _ _ 2 2 (by rw [z2]; decide), rdN_left _ _ 2 2 (by rw [z1]; decide), rdN_right _ _ 0 2 2 (by rw [lb_size])]
  decide +kernel
 ·rw [rdN_left _ _ 6 2 (by rw [z4]; decide), rdN_left _ _ 6 2 (by rw [z3]; decide), rdN_left _ _ 6 2 (by rw [z2]; decide), rdN_right _ _ 0 2 6 (by rw [z1])]
  exact rd_lb ser 2 (by omega)
 ·rw [rdN_left _ _ 8 2 (by rw [z4]; decide), rdN_left _ _ 8 2 (by rw [z3]; decide), rdN_right _ _ 0 2 8 (by rw [z2])]
  exact rd_lb (crcI body) 2 (by omega)
 ·rw [rdN_left _ _ 10 2 (by rw [z4]; decide), rdN_right _ _ 0 2 10 (by rw [z3])]
  exact rd_lb body.size 2 (by omega)
 ·rw [rdN_right _ _ 0 4 12 (by rw [z4])]
  exact rd_lb loc 4 (by omega)

theorem seal_low (t : ByteArray) (ht : t.size = 16) (p k : Nat) (h : p + k ≤ 4) : rdN (sealT t) p k = rdN t p k := by
 unfold sealT
 have z : (t.extract 0 4).size = 4 := by rw [ByteArray.size_extract, ht]; rfl
 rw [rdN_left _ _ p k (by rw [ByteArray.size_append, z]; omega), rdN_left _ _ p k (by rw [z]; omega), rdN_ext t 0 4 p k (by omega) (by omega), Nat.zero_add]
theorem seal_high (t : ByteArray) (ht : t.size = 16) (p k : Nat) (h0 : 5 ≤ p) (h : p + k ≤ 16) : rdN (sealT t) p k = rdN t p k := by
 unfold sealT
 have z : (t.extract 0 4 ++ strOfNums [sumT t]).size = 5 := by rw [ByteArray.size_append, ByteArray.size_extract, ht, strOfNums_size]; rfl
 rw [rdN_right _ _ (p - 5) k p (by rw [z]; omega), ht, rdN_ext t 5 16 (p - 5) k (by omega) (by omega), show 5 + (p - 5) = p by omega]
theorem seal_parts (t : ByteArray) (ht : t.size = 16) : (sealT t).extract 0 4 = t.extract 0 4 ∧ (sealT t).extract 5 16 = t.extract 5 16 ∧ bt (sealT t) 4 = sumT t := by
 have z0 : (t.extract 0 4).size = 4 := by rw [ByteArray.size_extract, ht]; rfl
 have z1 : (strOfNums [sumT t]).size = 1 := strOfNums_size _
 have z2 : (t.extract 5 16).size = 11 := by rw [ByteArray.size_extract, ht]; rfl
 have z : (t.extract 0 4 ++ strOfNums [sumT t]).size = 5 := by rw [ByteArray.size_append, z0, z1]
 refine ⟨?_, ?_, ?_⟩ <;> unfold sealT
 ·rw [ext_left _ _ 0 4 (by rw [z]; decide), ext_left _ _ 0 4 (by rw [z0]; decide), ext_self _ 4 (by rw [z0]; decide)]
 ·rw [ht, ext_right _ _ 0 11 5 16 (by rw [z]) (by rw [z]), ext_self _ 11 (by rw [z2]; decide)]
 ·have e := by_bt ((t.extract 0 4 ++ strOfNums [sumT t]) ++ t.extract 5 t.size) 4
  rw [show ((4 : Nat) : Int) = 4 from rfl] at e
  have e2 := by_right (t.extract 0 4) (strOfNums [sumT t]) 0
  rw [z0, show 4 + 0 = 4 from rfl] at e2
  rw [e, by_left _ _ 4 (by rw [z]; decide), e2, by_q]
  unfold strOfNums
  have hs : 0 ≤ sumT t ∧ sumT t < 256 := by unfold sumT; have := sumN_lt (t.extract 0 4 ++ t.extract 5 16) 15; omega
  simp
  omega

theorem block_rd (p k : Nat) (h : p + k ≤ 16) : rdN (blockB id ser loc body) p k = rdN (sealT (tagT id ser loc body)) p k := by
 have z := sealT_size _ (tagT_size id ser loc body)
 unfold blockB
 rw [rdN_left _ _ p k (by rw [ByteArray.size_append, z]; omega), rdN_left _ _ p k (by rw [z]; omega)]
theorem block_body (p k : Nat) (h : p + k ≤ body.size) : rdN (blockB id ser loc body) (16 + p) k = rdN body p k := by
 have z := sealT_size _ (tagT_size id ser loc body)
 unfold blockB
 rw [rdN_left _ _ (16 + p) k (by rw [ByteArray.size_append, z]; omega), rdN_right _ _ p k (16 + p) (by rw [z])]
theorem block_ext (p q : Nat) (h : q ≤ body.size) : (blockB id ser loc body).extract (16 + p) (16 + q) = body.extract p q := by
 have z := sealT_size _ (tagT_size id ser loc body)
 unfold blockB
 rw [ext_left _ _ _ _ (by rw [ByteArray.size_append, z]; omega), ext_right _ _ p q (16 + p) (16 + q) (by rw [z]) (by rw [z])]
theorem block_size (hb : body.size ≤ 2032) : (blockB id ser loc body).size = 2048 := by
 have z := sealT_size _ (tagT_size id ser loc body)
 unfold blockB
 rw [ByteArray.size_append, ByteArray.size_append, z, zeros_size]
 omega
theorem block_faults (h : ranged id ser loc) (hb : body.size ≤ 2032) (at_ : Int) : faultsF (blockB id ser loc body) at_ = if loc = at_ then [] else [6] := by
 have ht := tagT_size id ser loc body
 have z := sealT_size _ ht
 obtain ⟨t0, t2, t6, t8, t10, t12⟩ := tag_rd id ser loc body h (by omega)
 obtain ⟨q1, q2, q3⟩ := seal_parts _ ht
 have hs := block_size id ser loc body hb
 have r2 : ((rdN (blockB id ser loc body) 2 2 : Nat) : Int) = 3 := by rw [block_rd _ _ _ _ 2 2 (by decide), seal_low _ ht 2 2 (by decide), t2]
 have r8 : ((rdN (blockB id ser loc body) 8 2 : Nat) : Int) = crcI body := by rw [block_rd _ _ _ _ 8 2 (by decide), seal_high _ ht 8 2 (by decide) (by decide), t8]
 have r10 : ((rdN (blockB id ser loc body) 10 2 : Nat) : Int) = body.size := by rw [block_rd _ _ _ _ 10 2 (by decide), seal_high _ ht 10 2 (by decide) (by decide), t10]
 have r12 : ((rdN (blockB id ser loc body) 12 4 : Nat) : Int) = loc := by rw [block_rd _ _ _ _ 12 4 (by decide), seal_high _ ht 12 4 (by decide) (by decide), t12]
 have r10' : rdN (blockB id ser loc body) 10 2 = body.size := by omega
 have hx : (blockB id ser loc body).extract 16 (16 + body.size) = body := by
  have := block_ext id ser loc body 0 body.size (Nat.le_refl _)
  rw [Nat.add_zero] at this
  rw [this, ext_self _ _ (Nat.le_refl _)]
 have hsum : sumT (blockB id ser loc body) = sumT (tagT id ser loc body) := by
  unfold sumT
  have e1 : (blockB id ser loc body).extract 0 4 = (tagT id ser loc body).extract 0 4 := by
   rw [← q1]; unfold blockB; rw [ext_left _ _ _ _ (by rw [ByteArray.size_append, z]; omega), ext_left _ _ _ _ (by rw [z]; omega)]
  have e2 : (blockB id ser loc body).extract 5 16 = (tagT id ser loc body).extract 5 16 := by
   rw [← q2]; unfold blockB; rw [ext_left _ _ _ _ (by rw [ByteArray.size_append, z]; omega), ext_left _ _ _ _ (by rw [z]; omega)]
  rw [e1, e2]
 have hbt : bt (blockB id ser loc body) 4 = sumT (tagT id ser loc body) := by
  rw [← q3]
  have e := by_bt (blockB id ser loc body) 4
  have e' := by_bt (sealT (tagT id ser loc body)) 4
  rw [show ((4 : Nat) : Int) = 4 from rfl] at e e'
  rw [e, e']
  unfold blockB
  rw [by_left _ _ 4 (by rw [ByteArray.size_append, z]; omega), by_left _ _ 4 (by rw [z]; decide)]
 unfold faultsF
 rw [r12, r10', if_neg (by rw [hs]; omega), r8, hx, r2, hbt, hsum]
 by_cases he : loc = at_
 ·subst he; simp [fstep]
 ·rw [if_neg he]
  have : (loc != at_) = true := bne_iff_ne.2 he
  simp [fstep, this]
theorem block_is (h : ranged id ser loc) (hb : body.size ≤ 2032) : isF (blockB id ser loc body) id loc = true := by
 unfold isF
 obtain ⟨t0, _⟩ := tag_rd id ser loc body h (by omega)
 rw [block_faults id ser loc body h hb, if_pos rfl, block_rd _ _ _ _ 0 2 (by decide), seal_low _ (tagT_size ..) 0 2 (by decide), t0]
 simp
theorem block_isnt (h : ranged id ser loc) (hb : body.size ≤ 2032) (at_ : Int) (hne : loc ≠ at_) (id2 : Int) : isF (blockB id ser loc body) id2 at_ = false := by
 unfold isF
 rw [block_faults id ser loc body h hb, if_neg hne]
 rfl
end
/-! ### The block of a table, read again -/
theorem lit4 (n : Int) (h : 0 ≤ n ∧ n < 4294967296) : lit n 4 = lb n 4 := by
 have hc := check4 n h
 unfold lit littleF
 rw [show checkF n 4 = 0 from hc, if_pos rfl]
 rfl
theorem lit2 (n : Int) (h : 0 ≤ n ∧ n < 65536) : lit n 2 = lb n 2 := by
 have hc := check2 n h
 unfold lit littleF
 rw [show checkF n 2 = 0 from hc, if_pos rfl]
 rfl
theorem entries_cons (b : ByteArray) (x : S54) (l : List S54) : entries b (x :: l) = entries ((b ++ lit x.f0 4) ++ lit x.f1 4) l := rfl
def Word (x : S54) : Prop := (0 ≤ x.f0 ∧ x.f0 < 4294967296) ∧ (0 ≤ x.f1 ∧ x.f1 < 4294967296)
theorem step_size (b : ByteArray) (x : S54) (h : Word x) : ((b ++ lit x.f0 4) ++ lit x.f1 4).size = b.size + 8 := by
 rw [lit4 _ h.1, lit4 _ h.2, ByteArray.size_append, ByteArray.size_append, lb_size, lb_size]
theorem entries_len (l : List S54) (h : ∀ x ∈ l, Word x) : ∀ b, (entries b l).size = b.size + 8 * l.length := by
 induction l with
 | nil => intro b; rfl
 | cons x l ih =>
  intro b
  rw [entries_cons, ih (fun y hy => h y (List.mem_cons_of_mem _ hy)), step_size b x (h x (List.mem_cons_self ..)), List.length_cons]
  omega
theorem entries_keep (l : List S54) : ∀ (b : ByteArray) (p k : Nat), p + k ≤ b.size → rdN (entries b l) p k = rdN b p k := by
 induction l with
 | nil => intro b p k _; rfl
 | cons x l ih =>
  intro b p k hp
  rw [entries_cons, ih _ p k (by rw [ByteArray.size_append, ByteArray.size_append]; omega), rdN_left _ _ p k (by rw [ByteArray.size_append]; omega), rdN_left _ _ p k hp]
theorem entries_ext (l : List S54) : ∀ (b : ByteArray) (i j : Nat), j ≤ b.size → (entries b l).extract i j = b.extract i j := by
 induction l with
 | nil => intro b i j _; rfl
 | cons x l ih =>
  intro b i j hj
  rw [entries_cons, ih _ i j (by rw [ByteArray.size_append, ByteArray.size_append]; omega), ext_left _ _ i j (by rw [ByteArray.size_append]; omega), ext_left _ _ i j hj]
theorem entries_rd (l : List S54) (h : ∀ x ∈ l, Word x) : ∀ (b : ByteArray) (i : Nat) (hi : i < l.length),
  ((rdN (entries b l) (b.size + 8 * i) 4 : Nat) : Int) = l[i].f0 ∧ ((rdN (entries b l) (b.size + 4 + 8 * i) 4 : Nat) : Int) = l[i].f1 := by
 induction l with
 | nil => intro b i hi; exact absurd hi (Nat.not_lt_zero _)
 | cons x l ih =>
  intro b i hi
  have hx := h x (List.mem_cons_self ..)
  have hs := step_size b x hx
  have p4 : (256 : Int) ^ 4 = 4294967296 := by decide
  rw [entries_cons]
  cases i with
  | zero =>
   rw [Nat.mul_zero, Nat.add_zero, Nat.add_zero, List.getElem_cons_zero, entries_keep l _ b.size 4 (by rw [hs]; omega), entries_keep l _ (b.size + 4) 4 (by rw [hs]; omega), lit4 _ hx.1, lit4 _ hx.2]
   constructor
   ·rw [rdN_left _ _ _ _ (by rw [ByteArray.size_append, lb_size]; omega), rdN_right b (lb x.f0 4) 0 4 b.size (by omega)]
    exact rd_lb _ 4 (by rw [p4]; exact hx.1)
   ·rw [rdN_right _ (lb x.f1 4) 0 4 (b.size + 4) (by rw [ByteArray.size_append, lb_size])]
    exact rd_lb _ 4 (by rw [p4]; exact hx.2)
  | succ i =>
   have := ih (fun y hy => h y (List.mem_cons_of_mem _ hy)) ((b ++ lit x.f0 4) ++ lit x.f1 4) i (by simpa using hi)
   rw [hs] at this
   rw [List.getElem_cons_succ, show b.size + 8 * (i + 1) = b.size + 8 + 8 * i by omega, show b.size + 4 + 8 * (i + 1) = b.size + 8 + 4 + 8 * i by omega]
   exact this

theorem head_lb (s : Int) (l : List S54) (hs : 0 ≤ s ∧ s < 4294967296) (h8 : l.length ≤ 8) : headF s l = ((E0 ++ lb l.length 2) ++ lb 0 2) ++ lb s 4 := by
 unfold headF
 rw [lit2 _ (by omega), lit2 _ (by omega), lit4 _ hs]
theorem head_len (s : Int) (l : List S54) (hs : 0 ≤ s ∧ s < 4294967296) (h8 : l.length ≤ 8) : (headF s l).size = 40 := by
 rw [head_lb s l hs h8, ByteArray.size_append, ByteArray.size_append, ByteArray.size_append, E0_ok.2, lb_size, lb_size, lb_size]
theorem head_rd (s : Int) (l : List S54) (hs : 0 ≤ s ∧ s < 4294967296) (h8 : l.length ≤ 8) : rdN (headF s l) 32 2 = l.length ∧ ((rdN (headF s l) 36 4 : Nat) : Int) = s ∧ (headF s l).extract 0 32 = E0 := by
 have p2 : (256 : Int) ^ 2 = 65536 := by decide
 have p4 : (256 : Int) ^ 4 = 4294967296 := by decide
 have z0 := E0_ok.2
 rw [head_lb s l hs h8]
 have z1 : (E0 ++ lb l.length 2).size = 34 := by rw [ByteArray.size_append, z0, lb_size]
 have z2 : ((E0 ++ lb l.length 2) ++ lb 0 2).size = 36 := by rw [ByteArray.size_append, z1, lb_size]
 refine ⟨?_, ?_, ?_⟩
 ·have := rd_lb l.length 2 (by rw [p2]; omega)
  rw [rdN_left _ _ 32 2 (by rw [z2]; decide), rdN_left _ _ 32 2 (by rw [z1]; decide), rdN_right _ _ 0 2 32 (by rw [z0])]
  omega
 ·rw [rdN_right _ _ 0 4 36 (by rw [z2])]
  exact rd_lb s 4 (by rw [p4]; exact hs)
 ·rw [ext_left _ _ 0 32 (by rw [z2]; decide), ext_left _ _ 0 32 (by rw [z1]; decide), ext_left _ _ 0 32 (by rw [z0]; decide), ext_self _ _ (by rw [z0]; decide)]

set_option maxHeartbeats 1000000 in
/-- What the block of a valid table reads as. -/
theorem block_read (s loc : Int) (l : List S54) (hv : validB s l = true) (hl : wordB loc = true) :
  (blockB 0 1 loc (bodyF s l)).size = 2048 ∧ isF (blockB 0 1 loc (bodyF s l)) 0 loc = true ∧ (∀ at_, loc ≠ at_ → isF (blockB 0 1 loc (bodyF s l)) 0 at_ = false) ∧
  (blockB 0 1 loc (bodyF s l)).extract 16 48 = E0 ∧ rdN (blockB 0 1 loc (bodyF s l)) 48 2 = l.length ∧ ((rdN (blockB 0 1 loc (bodyF s l)) 52 4 : Nat) : Int) = s ∧ entL (blockB 0 1 loc (bodyF s l)) l.length = l := by
 obtain ⟨hs, h8, hE, _⟩ := (validB_iff s l).1 hv
 have hw : ∀ x ∈ l, Word x := fun x hx => ⟨(hE x hx).2.1, (hE x hx).1⟩
 have hr : ranged 0 1 loc := ⟨by omega, by omega, (word_iff loc).1 hl⟩
 have hh := head_len s l hs h8
 have hb : (bodyF s l).size = 40 + 8 * l.length := by unfold bodyF; rw [entries_len l hw, hh]
 have hb2 : (bodyF s l).size ≤ 2032 := by omega
 obtain ⟨r1, r2, r3⟩ := head_rd s l hs h8
 refine ⟨block_size _ _ _ _ hb2, block_is _ _ _ _ hr hb2, fun at_ hne => block_isnt _ _ _ _ hr hb2 at_ hne 0, ?_, ?_, ?_, ?_⟩
 ·have := block_ext 0 1 loc (bodyF s l) 0 32 (by omega)
  rw [show 16 + 0 = 16 from rfl, show 16 + 32 = 48 from rfl] at this
  rw [this, ← r3]
  exact entries_ext l (headF s l) 0 32 (by omega)
 ·have := block_body 0 1 loc (bodyF s l) 32 2 (by omega)
  rw [show 16 + 32 = 48 from rfl] at this
  rw [this, ← r1]
  exact entries_keep l (headF s l) 32 2 (by omega)
 ·have := block_body 0 1 loc (bodyF s l) 36 4 (by omega)
  rw [show 16 + 36 = 52 from rfl] at this
  have hk : rdN (bodyF s l) 36 4 = rdN (headF s l) 36 4 := entries_keep l (headF s l) 36 4 (by omega)
  rw [this, hk, r2]
 ·refine List.ext_getElem (entL_len _ _) fun i h1 h2 => ?_
  obtain ⟨e1, e2⟩ := entries_rd l hw (headF s l) i h2
  rw [hh] at e1 e2
  have q1 := block_body 0 1 loc (bodyF s l) (40 + 8 * i) 4 (by omega)
  have q2 := block_body 0 1 loc (bodyF s l) (40 + 4 + 8 * i) 4 (by omega)
  rw [show 16 + (40 + 8 * i) = 56 + 8 * i by omega] at q1
  rw [show 16 + (40 + 4 + 8 * i) = 60 + 8 * i by omega] at q2
  simp only [entL, List.getElem_map, List.getElem_range]
  rw [q1, q2]
  show (⟨((rdN (entries (headF s l) l) (40 + 8 * i) 4 : Nat) : Int), ((rdN (entries (headF s l) l) (40 + 4 + 8 * i) 4 : Nat) : Int)⟩ : S54) = l[i]
  rw [e1, e2]
end Go.Proofs.YtdepicgdbealpaaGreatDoor.Enc
