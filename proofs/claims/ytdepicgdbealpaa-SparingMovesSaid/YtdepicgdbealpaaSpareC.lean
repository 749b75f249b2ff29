/- The comparison of Replace and sort.Slice with it. -/
import Derived.Test.YtdepicgdbealpaaSpareB
import Derived.Test.YtdepicgdbealpaaShelf
namespace Go.Proofs.Ytdepicgdbealpaa.Spare
open Go.Shelf Go.RowKit Go.Lib Go.Sort Go.Proofs.YtdepicgdbealpaaW.PrintWords Go.Proofs.YtdepicgdbealpaaW.PrintLast Go.Proofs.YtdepicgdbealpaaW.PrintMore
open Go.Proofs.Ytdepicgdbealpaa.V

instance : Inhabited S42 := ⟨z42⟩

def lt (a b : S42) : Bool := if (a.f0 != b.f0) = true then decide (a.f0 < b.f0) else decide (a.f1 < b.f1)

theorem lt_iff (a b : S42) : lt a b = true ↔ a.f0 < b.f0 ∨ (a.f0 = b.f0 ∧ a.f1 < b.f1) := by
  unfold lt
  split
  · next h => simp at h ⊢; omega
  · next h => simp at h ⊢; omega

theorem lt_false (a b : S42) : lt a b = false ↔ ¬ (a.f0 < b.f0 ∨ (a.f0 = b.f0 ∧ a.f1 < b.f1)) := by rw [← lt_iff]; simp

theorem swo_lt : SWO lt where
  irrefl := fun x => by rw [lt_false]; omega
  trans := fun x y z h1 h2 => by rw [lt_iff] at *; omega
  ntrans := fun x y z h1 h2 => by rw [lt_false] at *; omega

theorem drewN_two (w : World) (a b : Nat) : (w.drewN a).drewN b = w.drewN (a + b) := by simp [World.drewN, Nat.add_assoc]

set_option maxHeartbeats 2000000 in
theorem less_calls (blk c Bs size : Nat) (W : World) (d : Array S42) (hs : W.cell? ⟨Bs, 0, none⟩ = some (.slice (some ⟨blk, 0, none⟩) size c))
    (hc0 : ∀ t, t < size → W.cell? ⟨blk, t * 2, none⟩ = some (.int .i64 d[t]!.f0)) (hc1 : ∀ t, t < size → W.cell? ⟨blk, t * 2 + 1, none⟩ = some (.int .i64 d[t]!.f1))
    (i j : Nat) (hi : i < size) (hj : j < size) (_hsz : size < 4611686018427387904) :
    Calls Try.prog 17 #[.int .i64 i, .int .i64 j, .pointer (some ⟨Bs, 0, none⟩)] W fun e w' => e = .returned (.bool (lt d[i]! d[j]!)) ∧ ∃ q, w' = W.drewN q := by
  have a0 := hc0 i hi
  have a1 := hc1 i hi
  have b0 := hc0 j hj
  have b1 := hc1 j hj
  clear hc0 hc1
  have hu42 := Try.underlying42
  have hu27 := Try.underlying27
  generalize d[i]! = x at a0 a1 ⊢
  generalize d[j]! = y at b0 b1 ⊢
  cases h : (x.f0 != y.f0) with
  | true =>
    have e : lt x y = decide (x.f0 < y.f0) := by unfold lt; rw [if_pos h]
    rw [e]
    clear e
    go_enter Try.func17, Try.ntmps17
    go_wp2
    go_quiet (fail)
    go_wp2
    go_quiet (fail)
    go_wp2
    go_ret
    exact ⟨rfl, _, drewN_two _ _ _⟩
  | false =>
    have e : lt x y = decide (x.f1 < y.f1) := by unfold lt; rw [if_neg (by simp [h])]
    rw [e]
    clear e
    go_enter Try.func17, Try.ntmps17
    go_wp2
    go_quiet (fail)
    go_wp2
    go_quiet (fail)
    go_wp2
    go_ret
    exact ⟨rfl, _, drewN_two _ _ _⟩

theorem holds_of {w : World} {g : Nat} {cs : Array Value} {d : Array S42} (hg : w.heap[g]? = some (.cells cs 42 (0, 0))) (h : Lies cs d.toList) : HoldsK enc 2 w g 0 d := by
  intro t ht
  rw [size_flatK] at ht
  have hj : t / 2 < d.size := by omega
  have hh := h (t / 2) d[t / 2] (by simp)
  rw [get_flatK _ _ _ _ ht, getElem!_pos d _ hj, Nat.zero_add]
  refine ⟨?_, blk_frozen hg _⟩
  rw [blk_cell hg]
  rcases Nat.mod_two_eq_zero_or_one t with hm | hm
  · rw [hm]; exact (congrArg (fun t => cs[t]?) (show t = 2 * (t / 2) by omega)).trans hh.1
  · rw [hm]; exact (congrArg (fun t => cs[t]?) (show t = 2 * (t / 2) + 1 by omega)).trans hh.2

theorem heap_put {w : World} {g n : Nat} {cs : Array Value} {d : Array S42} {os : Array Obj} (hg : w.heap[g]? = some (.cells cs 42 (0, 0))) (hs : d.size * 2 ≤ cs.size) :
    ∃ cs', (grow (putRowK enc 2 (Sort.ahead w n) g 0 d) os).heap[g]? = some (.cells cs' 42 (0, 0)) ∧ cs'.size = cs.size ∧ Lies cs' d.toList ∧ w.grownBy (grow (putRowK enc 2 (Sort.ahead w n) g 0 d) os) (some g) := by
  have hgl : g < w.heap.size := blk_lt hg
  refine ⟨putCells id 0 (flatK enc 2 d) cs, ?_, by simp [putCells], ?_, ⟨rfl, rfl, rfl, ?_, ?_⟩⟩
  · show ((w.heap.modify g _) ++ os)[g]? = _
    rw [Array.getElem?_append_left (by simpa using hgl), Array.getElem?_modify, if_pos rfl, hg]
    rfl
  · intro j x hx
    have hj : j < d.size := by simpa using (List.getElem?_eq_some_iff.1 hx).1
    have hx' : d[j] = x := by simpa [hj] using hx
    have f : ∀ t, t < d.size * 2 → (putCells id 0 (flatK enc 2 d) cs)[t]? = some ((enc d[t / 2]!)[t % 2]!) := by
      intro t ht
      rw [putCells, Array.getElem?_mapIdx, Array.getElem?_eq_getElem (show t < cs.size by omega), Option.map_some, if_pos ⟨by omega, by rw [size_flatK]; omega⟩, Nat.sub_zero, get_flatK _ _ _ _ ht]
      rfl
    refine ⟨?_, ?_⟩
    · rw [f _ (by omega), show 2 * j / 2 = j by omega, show 2 * j % 2 = 0 by omega, getElem!_pos d j hj, hx']; rfl
    · rw [f _ (by omega), show (2 * j + 1) / 2 = j by omega, show (2 * j + 1) % 2 = 1 by omega, getElem!_pos d j hj, hx']; rfl
  · show w.heap.size ≤ ((w.heap.modify g _) ++ os).size
    simp
  · intro k hk hr
    show ((w.heap.modify g _) ++ os)[k]? = _
    rw [Array.getElem?_append_left (by simpa using hk), Array.getElem?_modify, if_neg (fun e => hr (by rw [e]))]

/-! ### the plain sort -/
def ins (x : S42) : List S42 → List S42
  | [] => [x]
  | y :: r => if lt y x then y :: ins x r else x :: y :: r
def isort (l : List S42) : List S42 := l.foldr ins []

theorem ins_perm (x : S42) : ∀ l, (ins x l).Perm (x :: l)
  | [] => .refl _
  | y :: r => by
    unfold ins
    split
    · exact ((ins_perm x r).cons y).trans (List.Perm.swap x y r)
    · exact .refl _
theorem isort_perm : ∀ l, (isort l).Perm l
  | [] => .refl _
  | x :: l => (ins_perm x (isort l)).trans ((isort_perm l).cons x)

def Le (a b : S42) : Prop := lt b a = false
theorem le_trans' {a b c : S42} (h : Le a b) (k : Le b c) : Le a c := by unfold Le at *; rw [lt_false] at *; omega
theorem ins_sorted (x : S42) : ∀ l, l.Pairwise Le → (ins x l).Pairwise Le
  | [], _ => by simp [ins]
  | y :: r, h => by
    unfold ins
    rw [List.pairwise_cons] at h
    split
    · next hl =>
      refine List.pairwise_cons.2 ⟨fun z hz => ?_, ins_sorted x r h.2⟩
      rcases List.mem_cons.1 ((ins_perm x r).mem_iff.1 hz) with rfl | hz
      · unfold Le; rw [lt_false]; rw [lt_iff] at hl; omega
      · exact h.1 z hz
    · next hl =>
      have hxy : Le x y := by unfold Le; simpa using hl
      refine List.pairwise_cons.2 ⟨fun z hz => ?_, List.pairwise_cons.2 h⟩
      rcases List.mem_cons.1 hz with rfl | hz
      · exact hxy
      · exact le_trans' hxy (h.1 z hz)
theorem isort_sorted : ∀ l, (isort l).Pairwise Le
  | [] => List.Pairwise.nil
  | x :: l => ins_sorted x _ (isort_sorted l)

theorem sorted_is {l l' : List S42} (hp : l'.Perm l) (hs : l'.Pairwise Le) : l' = isort l := by
  refine List.Perm.eq_of_pairwise (le := Le) ?_ hs (isort_sorted l) (hp.trans (isort_perm l).symm)
  intro a b _ _ h k
  unfold Le at h k
  rw [lt_false] at h k
  cases a; cases b
  simp only [S42.mk.injEq] at h k ⊢
  omega

noncomputable def tI : TypeInfo := (Try.prog.info? 27).get (by kernel_rfl)
noncomputable def eI : TypeInfo := (Try.prog.info? 42).get (by kernel_rfl)
theorem eI_K (n : Nat) (h2 : 2 ≤ n) : Lib.swapperK n eI 25 = 9 := by
  have a : eI.hasPointers = false := by kernel_rfl
  have b : eI.bytes = 16 := by kernel_rfl
  have c : (n == 0) = false := by simp; omega
  have d : (n == 1) = false := by simp; omega
  simp [Lib.swapperK, a, b, c, d]

theorem cell_grown {w w' : World} {g : Nat} (h : w.grownBy w' (some g)) {b i : Nat} {v : Value} (hb : b ≠ g) (hc : w.cell? ⟨b, i, none⟩ = some v) : w'.cell? ⟨b, i, none⟩ = some v :=
  h.cell hc (fun e => hb (by injection e))

theorem sort_calls (g cap Bs : Nat) (l : List S42) (cs : Array Value) (w : World) (h1 : 1 ≤ l.length) (h12 : l.length ≤ 12) (hg : w.heap[g]? = some (.cells cs 42 (0, 0))) (hl : Lies cs l) (hs : l.length * 2 ≤ cs.size)
    (hBs : w.cell? ⟨Bs, 0, none⟩ = some (.slice (some ⟨g, 0, none⟩) l.length cap)) (hB2 : Bs ≠ g) :
    Calls Try.prog 16 #[.iface 27 (.slice (some ⟨g, 0, none⟩) l.length cap), .func (.func 17) #[] #[.pointer (some ⟨Bs, 0, none⟩)]] w fun e w' =>
      e = .returned (.tuple #[]) ∧ ∃ cs', w'.heap[g]? = some (.cells cs' 42 (0, 0)) ∧ cs'.size = cs.size ∧ Lies cs' (isort l) ∧ w.grownBy w' (some g) := by
  have hBl : Bs < w.heap.size := World.block_lt_of_cell? w _ hBs
  have hgl : g < w.heap.size := blk_lt hg
  rcases Nat.lt_or_ge l.length 2 with h2 | h2
  · have hone : l.length = 1 := by omega
    obtain ⟨x, rfl⟩ : ∃ x, l = [x] := List.length_eq_one_iff.1 hone
    refine (Any.sort_Slice_tiny Try.laysGg6 27 42 tI eI (by kernel_rfl) (by kernel_rfl) (by kernel_rfl) (by kernel_rfl) 25 (fun _ => by kernel_rfl) _ 1 cap (Nat.le_refl 1) 30 (by kernel_rfl) (.func 17) #[] _ w).mono ?_
    rintro e w' ⟨rfl, os, rfl⟩
    refine ⟨rfl, cs, ?_, rfl, hl, ⟨rfl, rfl, rfl, ?_, ?_⟩⟩
    · show (w.heap ++ os)[g]? = _
      rw [Array.getElem?_append_left hgl]; exact hg
    · show w.heap.size ≤ (w.heap ++ os).size
      simp
    · intro k hk _
      show (w.heap ++ os)[k]? = _
      rw [Array.getElem?_append_left hk]
  · have hH : HoldsK enc 2 w g 0 l.toArray := holds_of hg (by simpa using hl)
    have hsz : l.toArray.size = l.length := by simp
    have hless : LessReadsK Try.prog 17 #[.pointer (some ⟨Bs, 0, none⟩)] enc 2 lt g 0 l.toArray.size w := by
      intro m os dk hs' i j hi hj
      have hds : dk.size = l.length := by rw [hs']; simp
      obtain ⟨cs', p1, p2, p3, p4⟩ := heap_put (n := m) (d := dk) (os := os) hg (by omega)
      refine less_calls g cap Bs l.length _ dk ?_ (fun t ht => ?_) (fun t ht => ?_) i j (by simpa using hi) (by simpa using hj) (by omega)
      · exact cell_grown p4 hB2 hBs
      · have := (p3 t dk[t]! (by rw [getElem!_pos dk t (by omega)]; simp)).1
        exact (blk_cell p1 _).trans (by rw [Nat.mul_comm]; exact this)
      · have := (p3 t dk[t]! (by rw [getElem!_pos dk t (by omega)]; simp)).2
        exact (blk_cell p1 _).trans (by rw [Nat.mul_comm]; exact this)
    have hS := Any.sort_Slice_small_cells_sorted Try.laysGg6 27 42 tI eI (by kernel_rfl) (by kernel_rfl) (by kernel_rfl) (by kernel_rfl) 25 (fun _ => by kernel_rfl) enc 2 (fun _ => rfl) (by kernel_rfl) (fun _ => by kernel_rfl)
      (fun x v hv => by simp [enc] at hv; rcases hv with rfl | rfl <;> rfl) lt swo_lt 17 _
      (enters_of Try.func17 (by kernel_rfl) rfl) g 0 cap l.toArray (by simpa using h2) (by simpa using h12) 37 (by rw [eI_K _ (by simpa using h2)]; kernel_rfl) false
      (fun args W => run_callFunc_extern Try.func37 (by kernel_rfl) (by kernel_rfl) (by kernel_rfl) (e := Extern.ReflectliteSwapper.swap false) (by kernel_rfl) args W) w hless hH hgl
    rw [hsz] at hS
    refine hS.mono ?_
    rintro e w' ⟨rfl, d', n, os, hP, hSo, rfl⟩
    have hd : d'.size = l.length := by rw [hP.1]; simp
    obtain ⟨cs', p1, p2, p3, p4⟩ := heap_put (n := n) (d := d') (os := os) hg (by omega)
    have hperm : d'.toList.Perm l := by
      have := hP.2.2
      have e1 : d'.extract 0 l.length = d' := by rw [← hd]; exact Array.extract_size
      have e2 : l.toArray.extract 0 l.length = l.toArray := by
        have := Array.extract_size (xs := l.toArray)
        rwa [hsz] at this
      rw [e1, e2] at this
      simpa using this
    have hsorted : d'.toList.Pairwise Le := by
      rw [List.pairwise_iff_getElem]
      intro i j hi hj hij
      have hi' : i < d'.size := by simpa using hi
      have hj' : j < d'.size := by simpa using hj
      have := hSo i j (Nat.zero_le _) hij (by omega)
      rw [getElem!_pos d' j hj', getElem!_pos d' i hi'] at this
      simpa [Le] using this
    refine ⟨rfl, cs', p1, p2, ?_, p4⟩
    rw [← sorted_is hperm hsorted]
    exact p3

end Go.Proofs.Ytdepicgdbealpaa.Spare
