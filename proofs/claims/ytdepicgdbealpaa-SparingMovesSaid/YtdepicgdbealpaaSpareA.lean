/- Rows of Spares in memory; slices.DeleteFunc at them. -/
import Derived.Test.YtdepicgdbealpaaVx
import Derived.Lib.SliceRun
import Derived.Lib.Hide
import Derived.Deep.Draws
namespace Go.Proofs.Ytdepicgdbealpaa.Spare
open Go.RowKit Go.Lib Go.Proofs.YtdepicgdbealpaaW.PrintWords Go.Proofs.YtdepicgdbealpaaW.PrintLast Go.Proofs.YtdepicgdbealpaaW.PrintMore
open Go.Proofs.Ytdepicgdbealpaa.V

def enc (x : S42) : List Value := [.int .i64 x.f0, .int .i64 x.f1]
def flat (l : List S42) : List Value := l.flatMap enc

theorem flat_len (l : List S42) : (flat l).length = l.length * 2 := by
  induction l with
  | nil => rfl
  | cons x l ih => simp only [flat, List.flatMap_cons, List.length_append, List.length_cons] at ih ⊢; rw [ih]; simp [enc]; omega

theorem flat_at : ∀ (l : List S42) (j : Nat), (flat l)[2 * j]? = (l[j]?).map (fun x => Value.int .i64 x.f0) ∧ (flat l)[2 * j + 1]? = (l[j]?).map (fun x => Value.int .i64 x.f1)
  | [], j => by simp [flat]
  | x :: l, 0 => by simp [flat, enc]
  | x :: l, j + 1 => by
    have h := flat_at l j
    have e : flat (x :: l) = .int .i64 x.f0 :: .int .i64 x.f1 :: flat l := rfl
    rw [e, show 2 * (j + 1) = (2 * j + 1) + 1 by omega]
    simpa using h

/-- The cells hold the elements. -/
def Lies (cs : Array Value) (l : List S42) : Prop := ∀ j x, l[j]? = some x → cs[2 * j]? = some (.int .i64 x.f0) ∧ cs[2 * j + 1]? = some (.int .i64 x.f1)

theorem lies_of_take {cs : Array Value} {l : List S42} (h : cs.toList.take (l.length * 2) = flat l) : Lies cs l := by
  intro j x hx
  have hj : j < l.length := (List.getElem?_eq_some_iff.1 hx).1
  have f := flat_at l j
  rw [hx, ← h] at f
  simp only [List.getElem?_take, Option.map_some] at f
  rw [if_pos (by omega), if_pos (by omega)] at f
  simpa using f

theorem take_of_lies {cs : Array Value} {l : List S42} (h : Lies cs l) (hs : l.length * 2 ≤ cs.size) : cs.toList.take (l.length * 2) = flat l := by
  apply List.ext_getElem?
  intro t
  rw [List.getElem?_take]
  by_cases ht : t < l.length * 2
  · rw [if_pos ht]
    have hj : t / 2 < l.length := by omega
    have hh := h (t / 2) _ (List.getElem?_eq_getElem hj)
    have hf := flat_at l (t / 2)
    rw [List.getElem?_eq_getElem hj] at hf
    rcases Nat.mod_two_eq_zero_or_one t with hm | hm
    · have e : t = 2 * (t / 2) := by omega
      rw [e, hf.1]
      simpa using hh.1
    · have e : t = 2 * (t / 2) + 1 := by omega
      rw [e, hf.2]
      simpa using hh.2
  · rw [if_neg ht, List.getElem?_eq_none (by rw [flat_len]; omega)]

theorem lies_set {cs : Array Value} {l : List S42} (h : Lies cs l) (hs : l.length * 2 ≤ cs.size) (i : Nat) (hi : i < l.length) (x : S42) :
    Lies ((cs.setIfInBounds (2 * i) (.int .i64 x.f0)).setIfInBounds (2 * i + 1) (.int .i64 x.f1)) (l.set i x) := by
  intro j y hy
  rw [List.getElem?_set] at hy
  simp only [Array.getElem?_setIfInBounds, Array.size_setIfInBounds]
  by_cases hij : i = j
  · subst hij
    rw [if_pos rfl, if_pos hi] at hy
    cases hy
    rw [if_neg (by omega), if_pos rfl, if_pos (by omega), if_pos rfl, if_pos (by omega)]
    exact ⟨rfl, rfl⟩
  · rw [if_neg hij] at hy
    have := h j y hy
    rw [if_neg (by omega), if_neg (by omega), if_neg (by omega), if_neg (by omega)]
    exact this

theorem lies_take {cs : Array Value} {l : List S42} (h : Lies cs l) (n : Nat) : Lies cs (l.take n) := by
  intro j x hx
  rw [List.getElem?_take] at hx
  split at hx
  · exact h j x hx
  · cases hx

/-- A row of the call's own. -/
def Own (w : World) (base : Nat) (v : Value) (l : List S42) : Prop := w.ownsRow base 42 2 v l.length (flat l)

theorem own_nil' (w : World) (base : Nat) : Own w base (.slice none 0 0) [] := ⟨rfl, .inl ⟨rfl, rfl⟩⟩

theorem own_open {w : World} {base : Nat} {v : Value} {l : List S42} (h : Own w base v l) (hl : 0 < l.length) :
    ∃ g cap cur, v = .slice (some ⟨g, 0, none⟩) l.length cap ∧ base ≤ g ∧ w.heap[g]? = some (.cells cur 42 (0, 0)) ∧ l.length ≤ cap ∧ cap ≤ maxLen ∧ cur.size = cap * 2 ∧ Lies cur l := by
  rcases h.2 with ⟨_, h0⟩ | ⟨g, cap, cur, hv, hb, hg, hn, hm, hs, ht⟩
  · omega
  · exact ⟨g, cap, cur, hv, hb, hg, hn, hm, hs, lies_of_take ht⟩

theorem own_mk {w : World} {base g cap : Nat} {l : List S42} {cur : Array Value} (hb : base ≤ g) (hg : w.heap[g]? = some (.cells cur 42 (0, 0))) (hn : l.length ≤ cap) (hm : cap ≤ maxLen) (hs : cur.size = cap * 2) (hl : Lies cur l) :
    Own w base (.slice (some ⟨g, 0, none⟩) l.length cap) l :=
  ⟨flat_len l, .inr ⟨g, cap, cur, rfl, hb, hg, hn, hm, hs, take_of_lies hl (by omega)⟩⟩

theorem reps_flat (w : World) (base : Nat) (ok : Nat → Prop) : ∀ l : List S42, Reps (k42.M w base ok) 2 l (flat l)
  | [] => Reps.none _ _
  | x :: l => Reps.c2 (k42_mkM w base ok x) (reps_flat w base ok l)

theorem own_R {w : World} {base : Nat} {v : Value} {l : List S42} (h : Own w base v l) : Kd.R k42 42 w base (fun _ => True) v l :=
  ⟨fun _ _ => trivial, flat l, h, reps_flat _ _ _ l⟩

/-- The cells of a row that is read. -/
theorem C_cells {w : World} {A : Option Addr} {l : List S42} (h : Kd.C k42 w A l.length l) (ad : Addr) (hA : A = some ad) :
    ∀ j u, (flat l)[j]? = some u → w.cell? (ad.add j) = some u := by
  intro j u hu
  have hj : j < l.length * 2 := by rw [← flat_len]; exact (List.getElem?_eq_some_iff.1 hu).1
  obtain ⟨ad', e', hc⟩ := h.2.2 (by omega)
  rw [hA] at e'
  cases e'
  obtain ⟨c, h1, h2, h3⟩ := hc (j / 2) _ (List.getElem?_eq_getElem (by omega))
  obtain rfl := k42_open h2
  have hf := flat_at l (j / 2)
  rw [List.getElem?_eq_getElem (show j / 2 < l.length by omega)] at hf
  rcases Nat.mod_two_eq_zero_or_one j with hm | hm
  · have e : j = 2 * (j / 2) := by omega
    rw [e, hf.1] at hu
    have := h3 0 u (by simpa using hu)
    rw [show j / 2 * k42.sz + 0 = j by show j / 2 * 2 + 0 = j; omega] at this
    exact this
  · have e : j = 2 * (j / 2) + 1 := by omega
    rw [e, hf.2] at hu
    have := h3 1 u (by simpa using hu)
    rw [show j / 2 * k42.sz + 1 = j by show j / 2 * 2 + 1 = j; omega] at this
    exact this

theorem flat_one (l : List S42) : ∀ u ∈ flat l, u.oneCell' = true := by
  intro u hu
  simp only [flat, List.mem_flatMap, enc] at hu
  obtain ⟨x, _, hu⟩ := hu
  simp at hu
  rcases hu with rfl | rfl <;> rfl

/-- What Lookup, Replace and others read at a place. -/
theorem below_grown {w W : World} {row : Option Nat} {base : Nat} (hg : w.grownBy W row) (hb : base ≤ w.heap.size) (hr : ∀ k, row = some k → base ≤ k) : Below base w W :=
  (Below.refl _ w).grown hg hb hr

theorem grown_refl (w : World) (row : Option Nat) : w.grownBy w row := ⟨rfl, rfl, rfl, Nat.le_refl _, fun _ _ _ => rfl⟩
theorem grown_below {w W : World} (h : Below w.heap.size w W) (row : Option Nat) : w.grownBy W row := ⟨h.os, h.tape, h.output, h.size, fun k hk _ => h.block k hk⟩
theorem grown_trans {a b c : World} {row : Option Nat} (h : a.grownBy b row) (k : b.grownBy c row) : a.grownBy c row :=
  ⟨k.os.trans h.os, k.tape.trans h.tape, k.output.trans h.output, Nat.le_trans h.size k.size, fun i hi hr => (k.block i (Nat.lt_of_lt_of_le hi h.size) hr).trans (h.block i hi hr)⟩
theorem grown_set {w : World} {g i : Nat} (v : Value) : w.grownBy (w.setCell ⟨g, i, none⟩ v) (some g) :=
  ⟨rfl, rfl, rfl, by simp [World.setCell], fun k _ hr => Below.heap_setCell _ _ _ _ (fun e => hr (by rw [e]))⟩
theorem grown_drewN (w : World) (n : Nat) (row : Option Nat) : w.grownBy (w.drewN n) row := ⟨rfl, rfl, rfl, Nat.le_refl _, fun _ _ _ => rfl⟩
theorem grown_drew (w : World) (row : Option Nat) : w.grownBy w.drew row := ⟨rfl, rfl, rfl, Nat.le_refl _, fun _ _ _ => rfl⟩

end Go.Proofs.Ytdepicgdbealpaa.Spare
