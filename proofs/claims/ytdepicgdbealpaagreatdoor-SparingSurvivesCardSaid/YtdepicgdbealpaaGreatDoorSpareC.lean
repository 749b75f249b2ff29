/- Rows of Spares in memory; slices.DeleteFunc at them. -/
import Derived.Test.YtdepicgdbealpaaGreatDoorV0
import Derived.Lib.SliceRun
import Derived.Lib.Hide
import Derived.Deep.Draws
import Derived.Shelf.SlicesE.Clone
import Derived.Test.YtdepicgdbealpaaGreatDoorShelf
namespace Go.Proofs.YtdepicgdbealpaaGreatDoor.Spare
set_option linter.unusedVariables false
set_option linter.unusedSimpArgs false
open Go.RowKit Go.Lib Go.Proofs.YtdepicgdbealpaaGreatDoorW.PrintWords Go.Proofs.YtdepicgdbealpaaGreatDoorW.PrintLast Go.Proofs.YtdepicgdbealpaaGreatDoorW.PrintMore
open Go.Proofs.YtdepicgdbealpaaGreatDoor.V

def enc (x : S54) : List Value := [.int .i64 x.f0, .int .i64 x.f1]
def flat (l : List S54) : List Value := l.flatMap enc

theorem flat_len (l : List S54) : (flat l).length = l.length * 2 := by
 induction l with
 | nil => rfl
 | cons x l ih => simp only [flat, List.flatMap_cons, List.length_append, List.length_cons] at ih ⊢; rw [ih]; simp [enc]; omega

theorem flat_at : ∀ (l : List S54) (j : Nat), (flat l)[2 * j]? = (l[j]?).map (fun x => Value.int .i64 x.f0) ∧ (flat l)[2 * j + 1]? = (l[j]?).map (fun x => Value.int .i64 x.f1)
 | [], j => by simp [flat]
 | x :: l, 0 => by simp [flat, enc]
 | x :: l, j + 1 => by
  have h := flat_at l j
  have e : flat (x :: l) = .int .i64 x.f0 :: .int .i64 x.f1 :: flat l := rfl
  rw [e, show 2 * (j + 1) = (2 * j + 1) + 1 by omega]
  simpa using h

/-- The cells hold the elements. -/
def Lies (cs : Array Value) (l : List S54) : Prop := ∀ j x, l[j]? = some x → cs[2 * j]? = some (.int .i64 x.f0) ∧ cs[2 * j + 1]? = some (.int .i64 x.f1)

theorem lies_of_take {cs : Array Value} {l : List S54} (h : cs.toList.take (l.length * 2) = flat l) : Lies cs l := by
 intro j x hx
 have hj : j < l.length := (List.getElem?_eq_some_iff.1 hx).1
 have f := flat_at l j
 rw [hx, ← h] at f
 simp only [List.getElem?_take, Option.map_some] at f
 rw [if_pos (by omega), if_pos (by omega)] at f
 simpa using f

theorem take_of_lies {cs : Array Value} {l : List S54} (h : Lies cs l) (hs : l.length * 2 ≤ cs.size) : cs.toList.take (l.length * 2) = flat l := by
 apply List.ext_getElem?
 intro t
 rw [List.getElem?_take]
 by_cases ht : t < l.length * 2
 ·rw [if_pos ht]
  have hj : t / 2 < l.length := by omega
  have hh := h (t / 2) _ (List.getElem?_eq_getElem hj)
  have hf := flat_at l (t / 2)
  rw [List.getElem?_eq_getElem hj] at hf
  rcases Nat.mod_two_eq_zero_or_one t with hm | hm
  ·have e : t = 2 * (t / 2) := by omega
   rw [e, hf.1]
   simpa using hh.1
  ·have e : t = 2 * (t / 2) + 1 := by omega
   rw [e, hf.2]
   simpa using hh.2
 ·rw [if_neg ht, List.getElem?_eq_none (by rw [flat_len]; omega)]

theorem lies_set {cs : Array Value} {l : List S54} (h : Lies cs l) (hs : l.length * 2 ≤ cs.size) (i : Nat) (hi : i < l.length) (x : S54) :
  Lies ((cs.setIfInBounds (2 * i) (.int .i64 x.f0)).setIfInBounds (2 * i + 1) (.int .i64 x.f1)) (l.set i x) := by
 intro j y hy
 rw [List.getElem?_set] at hy
 simp only [Array.getElem?_setIfInBounds, Array.size_setIfInBounds]
 by_cases hij : i = j
 ·subst hij
  rw [if_pos rfl, if_pos hi] at hy
  cases hy
  rw [if_neg (by omega), if_pos rfl, if_pos (by omega), if_pos rfl, if_pos (by omega)]
  exact ⟨rfl, rfl⟩
 ·rw [if_neg hij] at hy
  have := h j y hy
  rw [if_neg (by omega), if_neg (by omega), if_neg (by omega), if_neg (by omega)]
  exact this

theorem lies_take {cs : Array Value} {l : List S54} (h : Lies cs l) (n : Nat) : Lies cs (l.take n) := by
 intro j x hx
 rw [List.getElem?_take] at hx
 split at hx
 ·exact h j x hx
 ·cases hx

/-- A row of the call's own. -/
def Own (w : World) (base : Nat) (v : Value) (l : List S54) : Prop := w.ownsRow base 54 2 v l.length (flat l)

theorem own_nil' (w : World) (base : Nat) : Own w base (.slice none 0 0) [] := ⟨rfl, .inl ⟨rfl, rfl⟩⟩

theorem own_open {w : World} {base : Nat} {v : Value} {l : List S54} (h : Own w base v l) (hl : 0 < l.length) :
  ∃ g cap cur, v = .slice (some ⟨g, 0, none⟩) l.length cap ∧ base ≤ g ∧ w.heap[g]? = some (.cells cur 54 (0, 0)) ∧ l.length ≤ cap ∧ cap ≤ maxLen ∧ cur.size = cap * 2 ∧ Lies cur l := by
 rcases h.2 with ⟨_, h0⟩ | ⟨g, cap, cur, hv, hb, hg, hn, hm, hs, ht⟩
 ·omega
 ·exact ⟨g, cap, cur, hv, hb, hg, hn, hm, hs, lies_of_take ht⟩

theorem own_mk {w : World} {base g cap : Nat} {l : List S54} {cur : Array Value} (hb : base ≤ g) (hg : w.heap[g]? = some (.cells cur 54 (0, 0))) (hn : l.length ≤ cap) (hm : cap ≤ maxLen) (hs : cur.size = cap * 2) (hl : Lies cur l) :
  Own w base (.slice (some ⟨g, 0, none⟩) l.length cap) l :=
 ⟨flat_len l, .inr ⟨g, cap, cur, rfl, hb, hg, hn, hm, hs, take_of_lies hl (by omega)⟩⟩

theorem reps_flat (w : World) (base : Nat) (ok : Nat → Prop) : ∀ l : List S54, Reps (k54.M w base ok) 2 l (flat l)
 | [] => Reps.none _ _
 | x :: l => Reps.c2 (k54_mkM w base ok x) (reps_flat w base ok l)

theorem own_R {w : World} {base : Nat} {v : Value} {l : List S54} (h : Own w base v l) : Kd.R k54 54 w base (fun _ => True) v l :=
 ⟨fun _ _ => trivial, flat l, h, reps_flat _ _ _ l⟩

/-- The cells of a row that is read. -/
theorem C_cells {w : World} {A : Option Addr} {l : List S54} (h : Kd.C k54 w A l.length l) (ad : Addr) (hA : A = some ad) :
  ∀ j u, (flat l)[j]? = some u → w.cell? (ad.add j) = some u := by
 intro j u hu
 have hj : j < l.length * 2 := by rw [← flat_len]; exact (List.getElem?_eq_some_iff.1 hu).1
 obtain ⟨ad', e', hc⟩ := h.2.2 (by omega)
 rw [hA] at e'
 cases e'
 obtain ⟨c, h1, h2, h3⟩ := hc (j / 2) _ (List.getElem?_eq_getElem (by omega))
 obtain rfl := k54_open h2
 have hf := flat_at l (j / 2)
 rw [List.getElem?_eq_getElem (show j / 2 < l.length by omega)] at hf
 rcases Nat.mod_two_eq_zero_or_one j with hm | hm
 ·have e : j = 2 * (j / 2) := by omega
  rw [e, hf.1] at hu
  have := h3 0 u (by simpa using hu)
  rw [show j / 2 * k54.sz + 0 = j by show j / 2 * 2 + 0 = j; omega] at this
  exact this
 ·have e : j = 2 * (j / 2) + 1 := by omega
  rw [e, hf.2] at hu
  have := h3 1 u (by simpa using hu)
  rw [show j / 2 * k54.sz + 1 = j by show j / 2 * 2 + 1 = j; omega] at this
  exact this

theorem flat_one (l : List S54) : ∀ u ∈ flat l, u.oneCell' = true := by
 intro u hu
 simp only [flat, List.mem_flatMap, enc] at hu
 obtain ⟨x, _, hu⟩ := hu
 simp at hu
 rcases hu with rfl | rfl <;> rfl

/-- What Lookup, Replace and others read at a place. -/
theorem below_grown {w W : World} {row : Option Nat} {base : Nat} (hg : w.grownBy W row) (hb : base ≤ w.heap.size) (hr : ∀ k, row = some k → base ≤ k) : Below base w W :=
 (Below.refl _ w).grown hg hb hr

theorem grown_refl (w : World) (row : Option Nat) : w.grownBy w row := ⟨rfl, rfl, rfl, Nat.le_refl _, fun _ _ _ => rfl⟩
theorem grown_below {w W : World} (h : Below w.heap.size w W) (row : Option Nat) : w.grownBy W row := ⟨h.os, h.tape, h.output, h.size, fun k hk _ => h.block k hk⟩
theorem grown_trans {a b c : World} {row : Option Nat} (h : a.grownBy b row) (k : b.grownBy c row) : a.grownBy c row :=
 ⟨k.os.trans h.os, k.tape.trans h.tape, k.output.trans h.output, Nat.le_trans h.size k.size, fun i hi hr => (k.block i (Nat.lt_of_lt_of_le hi h.size) hr).trans (h.block i hi hr)⟩
theorem grown_set {w : World} {g i : Nat} (v : Value) : w.grownBy (w.setCell ⟨g, i, none⟩ v) (some g) :=
 ⟨rfl, rfl, rfl, by simp [World.setCell], fun k _ hr => Below.heap_setCell _ _ _ _ (fun e => hr (by rw [e]))⟩
end Go.Proofs.YtdepicgdbealpaaGreatDoor.Spare

/- slices.Clone, the closure of Replace, slices.IndexFunc and slices.DeleteFunc at Spares. -/
namespace Go.Proofs.YtdepicgdbealpaaGreatDoor.Spare
set_option linter.unusedVariables false
set_option linter.unusedSimpArgs false
open Go.RowKit Go.Lib Go.Proofs.YtdepicgdbealpaaGreatDoorW.PrintWords Go.Proofs.YtdepicgdbealpaaGreatDoorW.PrintLast Go.Proofs.YtdepicgdbealpaaGreatDoorW.PrintMore
open Go.Proofs.YtdepicgdbealpaaGreatDoor.V

def sv (x : S54) : Value := .agg #[.int .i64 x.f0, .int .i64 x.f1]

/-- The closure 'x.Original == first'. -/
theorem del_calls (first : Int) (x : S54) (p : Addr) (w : World) (hp : w.cell? p = some (.int .i64 first)) (hpl : p.block < w.heap.size) :
  Calls Tryz.prog 29 #[sv x, .pointer (some p)] w fun e w' => e = .returned (.bool (decide (x.f0 = first))) ∧ Below w.heap.size w w' := by
 have hu42 := Tryz.underlying54
 unfold sv
 go_enter Tryz.func29, Tryz.ntmps29
 go_wp2
 go_ret
 refine ⟨?_, ?_⟩
 ·rfl
 ·exact (Below.refl _ w).alloc (Nat.le_refl _) _

/-- Where the first element with this packet stands. -/
def At (first : Int) (l : List S54) (r : Int) : Prop :=
 (r = -1 ∧ ∀ (j : Nat) (x : S54), l[j]? = some x → x.f0 ≠ first) ∨ (∃ (k : Nat) (x : S54), r = k ∧ l[k]? = some x ∧ x.f0 = first ∧ ∀ (j : Nat) (y : S54), j < k → l[j]? = some y → y.f0 ≠ first)

set_option maxHeartbeats 4000000 in
set_option maxRecDepth 100000 in
theorem index_calls (first : Int) (l : List S54) (v : Value) (p : Addr) (base : Nat) (w : World) (hp : w.cell? p = some (.int .i64 first)) (hpl : p.block < w.heap.size)
  (hv : Own w base v l) (hlen : l.length ≤ maxLen) :
  Calls Tryz.prog 45 #[v, .func (.func 29) #[] #[.pointer (some p)]] w fun e w' => ∃ r : Int, e = .returned (.int .i64 r) ∧ At first l r ∧ Below w.heap.size w w' := by
 have hu42 := Tryz.underlying54
 have hu27 := Tryz.underlying22
 obtain ⟨A, c, rfl, hc, hR⟩ := Kd.R_reads (own_R hv)
 have HR := Aside0.mk hR
 have HV := Aside0.mk hv
 have hm : l.length ≤ 9223372036854775807 := by simp only [maxLen] at hlen; omega
 clear hv hlen hR
 go_enter Tryz.func45, Tryz.ntmps45
 go_wp2
 go_loopg [5, 8] l.length (fun gg _ s8 wr => ∃ kk : Nat, kk ≤ l.length ∧ l.length - kk ≤ gg ∧ s8 = .int .i64 kk ∧ Aside0 (Below w.heap.size w wr) ∧ Aside0 (∀ (j : Nat) (y : S54), j < kk → l[j]? = some y → y.f0 ≠ first))
 case atStart => exact ⟨0, Nat.zero_le _, by omega, rfl, ⟨Below.refl _ w⟩, ⟨fun j _ hj => absurd hj (Nat.not_lt_zero _)⟩⟩
 case round =>
  obtain ⟨kk, hkk, hg, rfl, BW, HA⟩ := hrel
  by_cases hlt : kk < l.length
  ·have hltz : (kk : Int) < (l.length : Int) := by omega
   obtain ⟨ad, rfl, hc0, hc1⟩ := at_T54 (Kd.C_below HR.out BW.out) kk (by omega) (by omega)
   have hx : l[kk]? = some (rd_T54 l kk) := by
    unfold rd_T54
    rw [Int.toNat_natCast, List.getD_eq_getElem?_getD, List.getElem?_eq_getElem hlt]
    rfl
   have HX := Aside0.mk hx
   clear hx
   have hcall := del_calls first (rd_T54 l kk) p wr (by rw [BW.out.cell hpl]; exact hp) (Nat.lt_of_lt_of_le hpl BW.out.size)
   generalize rd_T54 l kk = x at hc0 hc1 hcall HX
   unfold sv at hcall
   rw [Int.toNat_natCast] at hc0 hc1
   by_cases hq : x.f0 = first
   ·rw [decide_eq_true hq] at hcall
    have HQ := Aside0.mk hq
    clear hq
    go_wp2_with (go_at_call 29; refine hcall.mono ?_; rintro e w' ⟨rfl, hb'⟩)
    go_ret
    exact ⟨_, rfl, .inr ⟨kk, x, rfl, HX.out, HQ.out, HA.out⟩, below_step BW.out hb'⟩
   ·rw [decide_eq_false hq] at hcall
    have HQ := Aside0.mk hq
    clear hq
    go_wp2_with (go_at_call 29; refine hcall.mono ?_; rintro e w' ⟨rfl, hb'⟩)
    go_roundg (l.length - (kk + 1))
    case measure => omega
    case rel =>
     refine ⟨kk + 1, by omega, by omega, by go_num, ⟨below_step BW.out hb'⟩, ⟨fun j y hj hy => ?_⟩⟩
     by_cases e : j = kk
     ·subst e
      rw [HX.out] at hy
      cases hy
      exact HQ.out
     ·exact HA.out j y (by omega) hy
  ·have hltz : ¬ (kk : Int) < (l.length : Int) := by omega
   obtain rfl : kk = l.length := by omega
   go_wp2
   go_ret
   refine ⟨_, rfl, .inl ⟨rfl, fun j y hy => HA.out j y ?_ hy⟩, BW.out⟩
   exact (List.getElem?_eq_some_iff.1 hy).1

/-- 'clear' on elements of two numbers. -/
theorem clear_two {P : Program} (w : World) (t e ty : TypeId) (ht : P.underlying t = some (.slice e)) (hv : ∀ w, (zeroValue e).run P w = .ok (.agg #[.int .i64 0, .int .i64 0]) w) (b o n c : Nat) (hn : 0 < n)
  (hc : ∀ j, j < n * 2 → (w.cell? ⟨b, o + j, none⟩).isSome = true) (hf : ∀ j, j < n * 2 → w.frozen? ⟨b, o + j, none⟩ = false) :
  (Builtin.clear_ #[t] ty #[.slice (some ⟨b, o, none⟩) n c]).run P w = .ok (.tuple #[]) (w.setCells b o (List.replicate (n * 2) (.int .i64 0))) := by
 have hzc : (Builtin.zeroCells (#[.int .i64 0, .int .i64 0] : Array Value) n).toList = List.replicate (n * 2) (.int .i64 0) := by
  simp [Builtin.zeroCells]
  apply List.ext_getElem
  ·simp
  ·intro i h1 h2
   rcases Nat.mod_two_eq_zero_or_one i with h | h <;> simp [h]
 have hst := run_storeCells_cells (P := P) b o (List.replicate (n * 2) (.int .i64 0)) 0 w (by simpa using hc) (by simpa using hf) (by intro v hv'; rw [List.eq_of_mem_replicate hv']; rfl)
 simp only [Nat.add_zero] at hst
 obtain ⟨m, rfl⟩ : ∃ m, n = m + 1 := ⟨n - 1, by omega⟩
 have hcells : (Value.agg #[.int .i64 0, .int .i64 0]).cells = #[.int .i64 0, .int .i64 0] := rfl
 simp [Builtin.clear_, run_underlying ht, hv, hcells, hzc, hst]

theorem setCells_blk {t : TypeId} : ∀ (vs : List Value) (o : Nat) (w : World) (g : Nat) (cs : Array Value), w.heap[g]? = some (.cells cs t (0, 0)) →
  ∃ cs', (w.setCells g o vs).heap[g]? = some (.cells cs' t (0, 0)) ∧ cs'.size = cs.size ∧ (∀ k, k < o → cs'[k]? = cs[k]?) ∧ w.grownBy (w.setCells g o vs) (some g)
 | [], o, w, g, cs, h => ⟨cs, h, rfl, fun _ _ => rfl, grown_refl _ _⟩
 | v :: r, o, w, g, cs, h => by
  obtain ⟨cs', h1, h2, h3, h4⟩ := setCells_blk r (o + 1) _ g _ (blk_set h o v)
  refine ⟨cs', h1, by rw [h2]; simp, fun k hk => ?_, grown_trans (grown_set v) h4⟩
  rw [h3 k (by omega), Array.getElem?_setIfInBounds, if_neg (by omega)]

theorem own_below' {w W : World} {base : Nat} {v : Value} {l : List S54} (h : Own w base v l) (hb : Below w.heap.size w W) : Own W base v l :=
 own_move h (fun k hk => hb.block k (own_lt h k hk))

def keepB (first : Int) (x : S54) : Bool := decide (x.f0 ≠ first)

theorem filter_keep {first : Int} {l : List S54} (h : ∀ (j : Nat) (x : S54), l[j]? = some x → x.f0 ≠ first) : l.filter (keepB first) = l := by
 rw [List.filter_eq_self]
 intro x hx
 obtain ⟨j, hj⟩ := List.getElem?_of_mem hx
 simpa [keepB] using h j x hj

theorem take_succ_filter {first : Int} {l : List S54} {j : Nat} {x : S54} (h : l[j]? = some x) : (l.take (j + 1)).filter (keepB first) = (l.take j).filter (keepB first) ++ (if keepB first x then [x] else []) := by
 rw [List.take_add_one, h]
 simp [List.filter_cons]

set_option maxHeartbeats 4000000 in
set_option maxRecDepth 100000 in
theorem delete_calls (first : Int) (l : List S54) (v : Value) (p : Addr) (base : Nat) (w : World) (hp : w.cell? p = some (.int .i64 first)) (hpl : p.block < w.heap.size)
  (hne : some p.block ≠ v.ownBlock) (hv : Own w base v l) (hlen : l.length ≤ maxLen) :
  Calls Tryz.prog 27 #[v, .func (.func 29) #[] #[.pointer (some p)]] w fun e w' => ∃ v' : Value, e = .returned v' ∧ Own w' base v' (l.filter (keepB first)) ∧ v'.ownBlock = v.ownBlock ∧ w.grownBy w' v.ownBlock := by
 have hu42 := Tryz.underlying54
 have hu27 := Tryz.underlying22
 have hidx := index_calls first l v p base w hp hpl hv hlen
 have HV := Aside0.mk hv
 clear hv
 have HNE := Aside0.mk hne
 clear hne
 go_enter Tryz.func27, Tryz.ntmps27
 go_wp2_with (go_at_call 45; refine hidx.mono ?_; rintro e w1 ⟨r, rfl, hr, hb⟩; have HR := Aside0.mk hr; have HB := Aside0.mk hb; clear hr hb)
 ·next hr1 =>
  go_ret
  have e1 : r = -1 := by simpa using hr1
  have hall : ∀ (j : Nat) (x : S54), l[j]? = some x → x.f0 ≠ first := by
   rcases HR.out with ⟨_, h⟩ | ⟨k, x, h, _⟩
   ·exact h
   ·omega
  rw [filter_keep hall]
  exact ⟨v, rfl, own_below' HV.out HB.out, rfl, grown_below HB.out _⟩
 ·rename_i hr1 _ _
  have e1 : r ≠ -1 := by simpa using hr1
  clear hr1
  obtain ⟨k0, x0, rfl, hk0, hx0, hbef⟩ : ∃ (k : Nat) (x : S54), r = k ∧ l[k]? = some x ∧ x.f0 = first ∧ ∀ (j : Nat) (y : S54), j < k → l[j]? = some y → y.f0 ≠ first := by
   rcases HR.out with ⟨h, _⟩ | h
   ·exact absurd h e1
   ·exact h
  have hk0l : k0 < l.length := (List.getElem?_eq_some_iff.1 hk0).1
  obtain ⟨g, cap, cur, rfl, hbg, hcur, hlc, hcm, hcs, hlies⟩ := own_open (own_below' HV.out HB.out) (by omega)
  have hkeep0 : (l.take (k0 + 1)).filter (keepB first) = l.take k0 := by
   rw [take_succ_filter hk0, if_neg (by simp [keepB, hx0]), List.append_nil]
   refine filter_keep (fun j x hj => ?_)
   rw [List.getElem?_take] at hj
   split at hj
   ·exact hbef j x (by assumption) hj
   ·cases hj
  have hgne : p.block ≠ g := by
   have := HNE.out
   simpa [Value.ownBlock] using this
  have HS : Aside0 (∃ lk : List S54, lk.length = l.length ∧ Lies cur lk ∧ lk.take k0 = (l.take (k0 + 1)).filter (keepB first) ∧ lk.drop (k0 + 1) = l.drop (k0 + 1)) := ⟨⟨l, rfl, hlies, hkeep0.symm, rfl⟩⟩
  have HC := Aside0.mk hcur
  have HZ := Aside0.mk hcs
  clear hkeep0 hlies hbef hk0 hx0 hcur hcs e1
  have hmx : cap ≤ 9223372036854775807 := by simp only [maxLen] at hcm; omega
  go_loopg [5, 6, 7] l.length (fun gg s5 s6 _ wr => ∃ (i j : Nat) (cs : Array Value), s5 = .int .i64 i ∧ s6 = .int .i64 j ∧ i < j ∧ j ≤ l.length ∧ l.length - j ≤ gg ∧ Aside0 (wr.heap[g]? = some (.cells cs 54 (0, 0))) ∧ Aside0 (cs.size = cap * 2) ∧
   Aside0 (∃ lk : List S54, lk.length = l.length ∧ Lies cs lk ∧ lk.take i = (l.take j).filter (keepB first) ∧ lk.drop j = l.drop j) ∧ Aside0 (w.grownBy wr (some g)))
  case atStart => exact ⟨k0, k0 + 1, cur, rfl, by first | go_num | (congr 1; unfold wrap64; omega), by omega, by omega, by omega, HC, HZ, HS, ⟨grown_below HB.out _⟩⟩
  case round =>
   obtain ⟨i, j, cs, rfl, rfl, hij, hjl, hgg, HC, HZ, HS, HG⟩ := hrel
   by_cases hlt : j < l.length
   ·have hltz : (j : Int) < (l.length : Int) := by omega
    obtain ⟨lk, hlk, hlies, htk, hdk⟩ := HS.out
    obtain ⟨x, hx⟩ : ∃ x, l[j]? = some x := ⟨_, List.getElem?_eq_getElem hlt⟩
    have hxk : lk[j]? = some x := by
     have h1 : (lk.drop j)[0]? = (l.drop j)[0]? := by rw [hdk]
     simpa [List.getElem?_drop, hx] using h1
    have hc := hlies j x hxk
    have hcell0 : wr.cell? ⟨g, j * 2, none⟩ = some (.int .i64 x.f0) := by rw [blk_cell HC.out, Nat.mul_comm]; exact hc.1
    have hcell1 : wr.cell? ⟨g, j * 2 + 1, none⟩ = some (.int .i64 x.f1) := by rw [blk_cell HC.out, Nat.mul_comm]; exact hc.2
    have HP : wr.cell? p = some (.int .i64 first) := HG.out.cell hp (by intro e; injection e with e; exact hgne e)
    have HPL : p.block < wr.heap.size := Nat.lt_of_lt_of_le hpl HG.out.size
    have HX := Aside0.mk hx
    have HK := Aside0.mk hxk
    have HLK := Aside0.mk hlk
    have HL := Aside0.mk hlies
    have HTK := Aside0.mk htk
    have HDK := Aside0.mk hdk
    clear hx hxk hlk hlies htk hdk hc
    have hcall := del_calls first x p (wr.alloc (.cells #[.int .i64 x.f0, .int .i64 x.f1] 54)) (cell?_alloc_some _ HP) (by simp; omega)
    unfold sv at hcall
    have hgl : g < wr.heap.size := blk_lt HC.out
    by_cases hq : x.f0 = first
    ·rw [decide_eq_true hq] at hcall
     have HQ := Aside0.mk hq
     clear hq
     go_wp2_with fail
     refine hcall.mono ?_
     rintro e w2 ⟨rfl, hb2⟩
     have HB2 := Aside0.mk hb2
     clear hb2 hcell0 hcell1
     go_wp2
     go_roundg (l.length - (j + 1))
     case measure => omega
     case rel =>
      refine ⟨i, j + 1, cs, rfl, by first | go_num | (congr 1; unfold wrap64; omega), by omega, by omega, by omega, ⟨?_⟩, HZ, ⟨lk, HLK.out, HL.out, ?_, ?_⟩, ⟨?_⟩⟩
      ·exact blk_below (blk_alloc HC.out _) HB2.out
      ·rw [take_succ_filter HX.out, if_neg (by simp [keepB, HQ.out]), List.append_nil]; exact HTK.out
      ·have := congrArg (List.drop 1) HDK.out
       simpa [List.drop_drop] using this
      ·exact grown_trans HG.out (grown_trans (World.grownBy_alloc wr _ _) (grown_below HB2.out _))
    ·rw [decide_eq_false hq] at hcall
     have HQ := Aside0.mk hq
     clear hq
     go_wp2_with fail
     refine hcall.mono ?_
     rintro e w2 ⟨rfl, hb2⟩
     have HB2 := Aside0.mk hb2
     clear hb2 hcell0 hcell1
     have hv0 : w2.cell? ⟨wr.heap.size, 0, none⟩ = some (.int .i64 x.f0) := (blk_cell (blk_below (heap_alloc_new wr _) HB2.out) 0).trans rfl
     have hv1 : w2.cell? ⟨wr.heap.size, 1, none⟩ = some (.int .i64 x.f1) := (blk_cell (blk_below (heap_alloc_new wr _) HB2.out) 1).trans rfl
     have hg2 : w2.heap[g]? = some (.cells cs 54 (0, 0)) := blk_below (blk_alloc HC.out _) HB2.out
     have hcs : cs.size = cap * 2 := HZ.out
     have ho0 : (w2.cell? ⟨g, i * 2, none⟩) = some cs[i * 2] := (blk_cell hg2 _).trans (Array.getElem?_eq_getElem (by omega))
     have ho1 : (w2.cell? ⟨g, i * 2 + 1, none⟩) = some cs[i * 2 + 1] := (blk_cell hg2 _).trans (Array.getElem?_eq_getElem (by omega))
     have hf0 := blk_frozen hg2 (i * 2)
     have hf1 := blk_frozen hg2 (i * 2 + 1)
     generalize cs[i * 2] = q0 at ho0
     generalize cs[i * 2 + 1] = q1 at ho1
     have HG2 := Aside0.mk hg2
     clear hg2 hcs
     go_wp2
     go_roundg (l.length - (j + 1))
     case measure => omega
     case rel =>
      refine ⟨i + 1, j + 1, (cs.setIfInBounds (2 * i) (.int .i64 x.f0)).setIfInBounds (2 * i + 1) (.int .i64 x.f1), by first | go_num | (congr 1; unfold wrap64; omega), by first | go_num | (congr 1; unfold wrap64; omega), by omega, by omega, by omega, ⟨?_⟩, ⟨by simpa using HZ.out⟩, ⟨lk.set i x, by simpa using HLK.out, lies_set HL.out (by have := HZ.out; have := HLK.out; omega) i (by have := HLK.out; omega) x, ?_, ?_⟩, ⟨?_⟩⟩
      ·rw [Nat.mul_comm 2 i]; exact blk_set (blk_set HG2.out _ _) _ _
      ·rw [take_succ_filter HX.out, if_pos (by simp [keepB, HQ.out]), List.take_add_one, List.getElem?_set, if_pos rfl, if_pos (by have := HLK.out; omega), List.take_set_of_le (Nat.le_refl i), HTK.out]; rfl
      ·have := congrArg (List.drop 1) HDK.out
       rw [List.drop_set_of_lt (by omega)]
       simpa [List.drop_drop] using this
      ·exact grown_trans HG.out (grown_trans (World.grownBy_alloc wr _ _) (grown_trans (grown_below HB2.out _) (grown_trans (grown_set _) (grown_set _))))
   ·have hltz : ¬ (j : Int) < (l.length : Int) := by omega
    obtain rfl : j = l.length := by omega
    obtain ⟨lk, hlk, hlies, htk, hdk⟩ := HS.out
    rw [List.take_length] at htk
    have hfl : (l.filter (keepB first)).length = i := by rw [← htk, List.length_take]; omega
    have hsz := HZ.out
    have hvz : ∀ w, (zeroValue 54).run Tryz.prog w = .ok (.agg #[.int .i64 0, .int .i64 0]) w := Tryz.zeroValue54
    have hcl : ∀ ty, (Builtin.clear_ #[22] ty #[.slice (some ⟨g, i * 2, none⟩) (l.length - i) (cap - i)]).run Tryz.prog wr = .ok (.tuple #[]) (wr.setCells g (i * 2) (List.replicate ((l.length - i) * 2) (.int .i64 0))) :=
     fun ty => clear_two wr 22 54 ty Tryz.underlying22 hvz g (i * 2) _ _ (by omega) (fun t ht => by rw [blk_cell HC.out, Array.getElem?_eq_getElem (by omega)]; rfl) (fun t ht => blk_frozen HC.out _)
    obtain ⟨cs', hg', hs', hlow, hgr⟩ := setCells_blk (List.replicate ((l.length - i) * 2) (Value.int .i64 0)) (i * 2) wr g cs HC.out
    generalize wr.setCells g (i * 2) (List.replicate ((l.length - i) * 2) (Value.int .i64 0)) = W at hcl hg' hgr
    have h1 := Aside0.mk hlk
    have h2 := Aside0.mk hlies
    have h3 := Aside0.mk htk
    have h4 := Aside0.mk hfl
    have h5 := Aside0.mk hg'
    have h6 := Aside0.mk hs'
    have h7 := Aside0.mk hlow
    have h8 := Aside0.mk hgr
    clear hlk hlies htk hfl hg' hs' hlow hgr hdk hsz
    go_wp2
    go_ret
    have e4 := h4.out
    refine ⟨_, rfl, ?_, ?_, grown_trans HG.out h8.out⟩
    ·have hL : Lies cs' (l.filter (keepB first)) := by
      rw [← h3.out]
      intro t x hx
      have ht : t < i := by
       have := (List.getElem?_eq_some_iff.1 hx).1
       rw [List.length_take] at this
       omega
      have := lies_take h2.out i t x hx
      rw [h7.out _ (by omega), h7.out _ (by omega)]
      exact this
     have := own_mk (base := base) (cap := cap) hbg h5.out (by omega) hcm (by rw [h6.out]; exact HZ.out) hL
     rw [e4] at this
     exact this
    ·rfl

end Go.Proofs.YtdepicgdbealpaaGreatDoor.Spare

/- The comparison of Replace and sort.Slice with it. -/
namespace Go.Proofs.YtdepicgdbealpaaGreatDoor.Spare
set_option linter.unusedVariables false
set_option linter.unusedSimpArgs false
open Go.Shelf Go.RowKit Go.Lib Go.Sort Go.Proofs.YtdepicgdbealpaaGreatDoorW.PrintWords Go.Proofs.YtdepicgdbealpaaGreatDoorW.PrintLast Go.Proofs.YtdepicgdbealpaaGreatDoorW.PrintMore
open Go.Proofs.YtdepicgdbealpaaGreatDoor.V

instance : Inhabited S54 := ⟨z54⟩

def lt (a b : S54) : Bool := if (a.f0 != b.f0) = true then decide (a.f0 < b.f0) else decide (a.f1 < b.f1)

theorem lt_iff (a b : S54) : lt a b = true ↔ a.f0 < b.f0 ∨ (a.f0 = b.f0 ∧ a.f1 < b.f1) := by
 unfold lt
 split
 ·next h => simp at h ⊢; omega
 ·next h => simp at h ⊢; omega

theorem lt_false (a b : S54) : lt a b = false ↔ ¬ (a.f0 < b.f0 ∨ (a.f0 = b.f0 ∧ a.f1 < b.f1)) := by rw [← lt_iff]; simp

theorem swo_lt : SWO lt where
 irrefl := fun x => by rw [lt_false]; omega
 trans := fun x y z h1 h2 => by rw [lt_iff] at *; omega
 ntrans := fun x y z h1 h2 => by rw [lt_false] at *; omega

theorem drewN_two (w : World) (a b : Nat) : (w.drewN a).drewN b = w.drewN (a + b) := by simp [World.drewN, Nat.add_assoc]

set_option maxHeartbeats 2000000 in
theorem less_calls (blk c Bs size : Nat) (W : World) (d : Array S54) (hs : W.cell? ⟨Bs, 0, none⟩ = some (.slice (some ⟨blk, 0, none⟩) size c))
  (hc0 : ∀ t, t < size → W.cell? ⟨blk, t * 2, none⟩ = some (.int .i64 d[t]!.f0)) (hc1 : ∀ t, t < size → W.cell? ⟨blk, t * 2 + 1, none⟩ = some (.int .i64 d[t]!.f1))
  (i j : Nat) (hi : i < size) (hj : j < size) (_hsz : size < 4611686018427387904) :
  Calls Tryz.prog 31 #[.int .i64 i, .int .i64 j, .pointer (some ⟨Bs, 0, none⟩)] W fun e w' => e = .returned (.bool (lt d[i]! d[j]!)) ∧ ∃ q, w' = W.drewN q := by
 have a0 := hc0 i hi
 have a1 := hc1 i hi
 have b0 := hc0 j hj
 have b1 := hc1 j hj
 clear hc0 hc1
 have hu42 := Tryz.underlying54
 have hu27 := Tryz.underlying22
 generalize d[i]! = x at a0 a1 ⊢
 generalize d[j]! = y at b0 b1 ⊢
 cases h : (x.f0 != y.f0) with
 | true =>
  have e : lt x y = decide (x.f0 < y.f0) := by unfold lt; rw [if_pos h]
  rw [e]
  clear e
  go_enter Tryz.func31, Tryz.ntmps31
  go_wp2
  go_quiet (fail)
  go_wp2
  go_quiet (fail)
  go_wp2
  go_ret
  exact ⟨rfl, _, drewN_two _ _ _⟩
 | false =>
  have e : lt x y = decide (x.f1 < y.f1) := by unfold lt; rw [if_neg (by simp [h])]
  rw [e]
  clear e
  go_enter Tryz.func31, Tryz.ntmps31
  go_wp2
  go_quiet (fail)
  go_wp2
  go_quiet (fail)
  go_wp2
  go_ret
  exact ⟨rfl, _, drewN_two _ _ _⟩

theorem holds_of {w : World} {g : Nat} {cs : Array Value} {d : Array S54} (hg : w.heap[g]? = some (.cells cs 54 (0, 0))) (h : Lies cs d.toList) : HoldsK enc 2 w g 0 d := by
 intro t ht
 rw [size_flatK] at ht
 have hj : t / 2 < d.size := by omega
 have hh := h (t / 2) d[t / 2] (by simp)
 rw [get_flatK _ _ _ _ ht, getElem!_pos d _ hj, Nat.zero_add]
 refine ⟨?_, blk_frozen hg _⟩
 rw [blk_cell hg]
 rcases Nat.mod_two_eq_zero_or_one t with hm | hm
 ·rw [hm]; exact (congrArg (fun t => cs[t]?) (show t = 2 * (t / 2) by omega)).trans hh.1
 ·rw [hm]; exact (congrArg (fun t => cs[t]?) (show t = 2 * (t / 2) + 1 by omega)).trans hh.2

theorem heap_put {w : World} {g n : Nat} {cs : Array Value} {d : Array S54} {os : Array Obj} (hg : w.heap[g]? = some (.cells cs 54 (0, 0))) (hs : d.size * 2 ≤ cs.size) :
  ∃ cs', (grow (putRowK enc 2 (Sort.ahead w n) g 0 d) os).heap[g]? = some (.cells cs' 54 (0, 0)) ∧ cs'.size = cs.size ∧ Lies cs' d.toList ∧ w.grownBy (grow (putRowK enc 2 (Sort.ahead w n) g 0 d) os) (some g) := by
 have hgl : g < w.heap.size := blk_lt hg
 refine ⟨putCells id 0 (flatK enc 2 d) cs, ?_, by simp [putCells], ?_, ⟨rfl, rfl, rfl, ?_, ?_⟩⟩
 ·show ((w.heap.modify g _) ++ os)[g]? = _
  rw [Array.getElem?_append_left (by simpa using hgl), Array.getElem?_modify, if_pos rfl, hg]
  rfl
 ·intro j x hx
  have hj : j < d.size := by simpa using (List.getElem?_eq_some_iff.1 hx).1
  have hx' : d[j] = x := by simpa [hj] using hx
  have f : ∀ t, t < d.size * 2 → (putCells id 0 (flatK enc 2 d) cs)[t]? = some ((enc d[t / 2]!)[t % 2]!) := by
   intro t ht
   rw [putCells, Array.getElem?_mapIdx, Array.getElem?_eq_getElem (show t < cs.size by omega), Option.map_some, if_pos ⟨by omega, by rw [size_flatK]; omega⟩, Nat.sub_zero, get_flatK _ _ _ _ ht]
   rfl
  refine ⟨?_, ?_⟩
  ·rw [f _ (by omega), show 2 * j / 2 = j by omega, show 2 * j % 2 = 0 by omega, getElem!_pos d j hj, hx']; rfl
  ·rw [f _ (by omega), show (2 * j + 1) / 2 = j by omega, show (2 * j + 1) % 2 = 1 by omega, getElem!_pos d j hj, hx']; rfl
 ·show w.heap.size ≤ ((w.heap.modify g _) ++ os).size
  simp
 ·intro k hk hr
  show ((w.heap.modify g _) ++ os)[k]? = _
  rw [Array.getElem?_append_left (by simpa using hk), Array.getElem?_modify, if_neg (fun e => hr (by rw [e]))]

/-! ### the plain sort -/
def ins (x : S54) : List S54 → List S54
 | [] => [x]
 | y :: r => if lt y x then y :: ins x r else x :: y :: r
def isort (l : List S54) : List S54 := l.foldr ins []

theorem ins_perm (x : S54) : ∀ l, (ins x l).Perm (x :: l)
 | [] => .refl _
 | y :: r => by
  unfold ins
  split
  ·exact ((ins_perm x r).cons y).trans (List.Perm.swap x y r)
  ·exact .refl _
theorem isort_perm : ∀ l, (isort l).Perm l
 | [] => .refl _
 | x :: l => (ins_perm x (isort l)).trans ((isort_perm l).cons x)

def Le (a b : S54) : Prop := lt b a = false
theorem le_trans' {a b c : S54} (h : Le a b) (k : Le b c) : Le a c := by unfold Le at *; rw [lt_false] at *; omega
theorem ins_sorted (x : S54) : ∀ l, l.Pairwise Le → (ins x l).Pairwise Le
 | [], _ => by simp [ins]
 | y :: r, h => by
  unfold ins
  rw [List.pairwise_cons] at h
  split
  ·next hl =>
   refine List.pairwise_cons.2 ⟨fun z hz => ?_, ins_sorted x r h.2⟩
   rcases List.mem_cons.1 ((ins_perm x r).mem_iff.1 hz) with rfl | hz
   ·unfold Le; rw [lt_false]; rw [lt_iff] at hl; omega
   ·exact h.1 z hz
  ·next hl =>
   have hxy : Le x y := by unfold Le; simpa using hl
   refine List.pairwise_cons.2 ⟨fun z hz => ?_, List.pairwise_cons.2 h⟩
   rcases List.mem_cons.1 hz with rfl | hz
   ·exact hxy
   ·exact le_trans' hxy (h.1 z hz)
theorem isort_sorted : ∀ l, (isort l).Pairwise Le
 | [] => List.Pairwise.nil
 | x :: l => ins_sorted x _ (isort_sorted l)

theorem sorted_is {l l' : List S54} (hp : l'.Perm l) (hs : l'.Pairwise Le) : l' = isort l := by
 refine List.Perm.eq_of_pairwise (le := Le) ?_ hs (isort_sorted l) (hp.trans (isort_perm l).symm)
 intro a b _ _ h k
 unfold Le at h k
 rw [lt_false] at h k
 cases a; cases b
 simp only [S54.mk.injEq] at h k ⊢
 omega

noncomputable def tI : TypeInfo := (Tryz.prog.info? 22).get (by kernel_rfl)
noncomputable def eI : TypeInfo := (Tryz.prog.info? 54).get (by kernel_rfl)
theorem eI_K (n : Nat) (h2 : 2 ≤ n) : Lib.swapperK n eI 25 = 9 := by
 have a : eI.hasPointers = false := by kernel_rfl
 have b : eI.bytes = 16 := by kernel_rfl
 have c : (n == 0) = false := by simp; omega
 have d : (n == 1) = false := by simp; omega
 simp [Lib.swapperK, a, b, c, d]

theorem cell_grown {w w' : World} {g : Nat} (h : w.grownBy w' (some g)) {b i : Nat} {v : Value} (hb : b ≠ g) (hc : w.cell? ⟨b, i, none⟩ = some v) : w'.cell? ⟨b, i, none⟩ = some v :=
 h.cell hc (fun e => hb (by injection e))

theorem sort_calls (g cap Bs : Nat) (l : List S54) (cs : Array Value) (w : World) (h1 : 1 ≤ l.length) (h12 : l.length ≤ 12) (hg : w.heap[g]? = some (.cells cs 54 (0, 0))) (hl : Lies cs l) (hs : l.length * 2 ≤ cs.size)
  (hBs : w.cell? ⟨Bs, 0, none⟩ = some (.slice (some ⟨g, 0, none⟩) l.length cap)) (hB2 : Bs ≠ g) :
  Calls Tryz.prog 30 #[.iface 22 (.slice (some ⟨g, 0, none⟩) l.length cap), .func (.func 31) #[] #[.pointer (some ⟨Bs, 0, none⟩)]] w fun e w' =>
   e = .returned (.tuple #[]) ∧ ∃ cs', w'.heap[g]? = some (.cells cs' 54 (0, 0)) ∧ cs'.size = cs.size ∧ Lies cs' (isort l) ∧ w.grownBy w' (some g) := by
 have hBl : Bs < w.heap.size := World.block_lt_of_cell? w _ hBs
 have hgl : g < w.heap.size := blk_lt hg
 rcases Nat.lt_or_ge l.length 2 with h2 | h2
 ·have hone : l.length = 1 := by omega
  obtain ⟨x, rfl⟩ : ∃ x, l = [x] := List.length_eq_one_iff.1 hone
  refine (Any.sort_Slice_tiny Tryz.laysGg6 22 54 tI eI (by kernel_rfl) (by kernel_rfl) (by kernel_rfl) (by kernel_rfl) 25 (fun _ => by kernel_rfl) _ 1 cap (Nat.le_refl 1) 78 (by kernel_rfl) (.func 31) #[] _ w).mono ?_
  rintro e w' ⟨rfl, os, rfl⟩
  refine ⟨rfl, cs, ?_, rfl, hl, ⟨rfl, rfl, rfl, ?_, ?_⟩⟩
  ·show (w.heap ++ os)[g]? = _
   rw [Array.getElem?_append_left hgl]; exact hg
  ·show w.heap.size ≤ (w.heap ++ os).size
   simp
  ·intro k hk _
   show (w.heap ++ os)[k]? = _
   rw [Array.getElem?_append_left hk]
 ·have hH : HoldsK enc 2 w g 0 l.toArray := holds_of hg (by simpa using hl)
  have hsz : l.toArray.size = l.length := by simp
  have hless : LessReadsK Tryz.prog 31 #[.pointer (some ⟨Bs, 0, none⟩)] enc 2 lt g 0 l.toArray.size w := by
   intro m os dk hs' i j hi hj
   have hds : dk.size = l.length := by rw [hs']; simp
   obtain ⟨cs', p1, p2, p3, p4⟩ := heap_put (n := m) (d := dk) (os := os) hg (by omega)
   refine less_calls g cap Bs l.length _ dk ?_ (fun t ht => ?_) (fun t ht => ?_) i j (by simpa using hi) (by simpa using hj) (by omega)
   ·exact cell_grown p4 hB2 hBs
   ·have := (p3 t dk[t]! (by rw [getElem!_pos dk t (by omega)]; simp)).1
    exact (blk_cell p1 _).trans (by rw [Nat.mul_comm]; exact this)
   ·have := (p3 t dk[t]! (by rw [getElem!_pos dk t (by omega)]; simp)).2
    exact (blk_cell p1 _).trans (by rw [Nat.mul_comm]; exact this)
  have hS := Any.sort_Slice_small_cells_sorted Tryz.laysGg6 22 54 tI eI (by kernel_rfl) (by kernel_rfl) (by kernel_rfl) (by kernel_rfl) 25 (fun _ => by kernel_rfl) enc 2 (fun _ => rfl) (by kernel_rfl) (fun _ => by kernel_rfl)
   (fun x v hv => by simp [enc] at hv; rcases hv with rfl | rfl <;> rfl) lt swo_lt 31 _
   (enters_of Tryz.func31 (by kernel_rfl) rfl) g 0 cap l.toArray (by simpa using h2) (by simpa using h12) 85 (by rw [eI_K _ (by simpa using h2)]; kernel_rfl) false
   (fun args W => run_callFunc_extern Tryz.func85 (by kernel_rfl) (by kernel_rfl) (by kernel_rfl) (e := Extern.ReflectliteSwapper.swap false) (by kernel_rfl) args W) w hless hH hgl
  rw [hsz] at hS
  refine hS.mono ?_
  rintro e w' ⟨rfl, d', n, os, hP, hSo, rfl⟩
  have hd : d'.size = l.length := by rw [hP.1]; simp
  obtain ⟨cs', p1, p2, p3, p4⟩ := heap_put (n := n) (d := d') (os := os) hg (by omega)
  have hperm : d'.toList.Perm l := by
   have := hP.2.2
   have e1 : d'.extract 0 l.length = d' := by rw [← hd]; exact Array.extract_size
   have e2 : l.toArray.extract 0 l.length = l.toArray := by
    have := Array.extract_size (xs := l.toArray)
    rwa [hsz] at this
   rw [e1, e2] at this
   simpa using this
  have hsorted : d'.toList.Pairwise Le := by
   rw [List.pairwise_iff_getElem]
   intro i j hi hj hij
   have hi' : i < d'.size := by simpa using hi
   have hj' : j < d'.size := by simpa using hj
   have := hSo i j (Nat.zero_le _) hij (by omega)
   rw [getElem!_pos d' j hj', getElem!_pos d' i hi'] at this
   simpa [Le] using this
  refine ⟨rfl, cs', p1, p2, ?_, p4⟩
  rw [← sorted_is hperm hsorted]
  exact p3

end Go.Proofs.YtdepicgdbealpaaGreatDoor.Spare
