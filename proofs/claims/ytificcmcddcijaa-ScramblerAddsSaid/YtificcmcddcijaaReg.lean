/-
  The iterator 'registers' of the scrambler and what the functions over it hand back.
-/
import Derived.Test.YtificcmcddcijaaEver
import Derived.Test.YtificcmcddcijaaLfsr
import Derived.Shelf.Abstract
import Derived.Shelf.RegionOpen
import Derived.WalkKit
import Derived.OwnWalkIn
import Derived.TacticsInMore
import Derived.LoopNIn
import Derived.LoopIn
import Derived.Sort.LoopGhostIn
import Derived.Test.YtificcmcddcijaaProg
namespace Go.Proofs.Ytificcmcddcijaa
open Go Go.RowKit Go.Shelf
attribute [local go_sem] Oper.semAt_some
set_option linter.unusedSimpArgs false

set_option maxHeartbeats 400000 in
theorem registers_in (F : Fence) (n : Nat) (h : F.fn 23) (hro : F.round = none) (w : World) :
    CallsIn F n Try.prog 23 #[] w fun e w' => e = .returned (.func (.func 25) #[] #[]) ∧ w = w' := by
  refine callsIn_of_wp Try.func23 rfl h ?_ hro
  simp only [Try.ntmps23, List.size_toArray, List.length_cons, List.length_nil, Nat.reduceAdd, Nat.reduceSub, Array.replicate_succ, Array.replicate_zero, List.push_toArray, List.append_toArray, List.nil_append, List.cons_append]
  gi_wp2
  go_ret
  exact ⟨rfl, rfl⟩

set_option maxHeartbeats 400000 in
theorem registers_ever (F : Fence) (n : Nat) (h : F.fn 25) (hro : F.round = none) (hn : 1 ≤ n) :
    SeqEver F n Try.prog 25 #[] (fun k => .int .i64 (rg k)) := fun l J Jx N W hY h0 => by
  refine callsIn_of_wp Try.func25 rfl h ?_ hro
  simp only [Try.ntmps25, List.size_toArray, List.length_cons, List.length_nil, Nat.reduceAdd, Nat.reduceSub, Array.replicate_succ, Array.replicate_zero, List.push_toArray, List.append_toArray, List.nil_append, List.cons_append]
  gi_wp2
  gi_loopg [2] (N + 1) (fun g r wr => ∃ k : Nat, r = .int .i64 (rg k) ∧ J k wr ∧ N + 1 ≤ g + k)
  case atStart => exact ⟨0, rfl, h0, Nat.le_refl _⟩
  case round =>
    obtain ⟨k, rfl, hJ, hg⟩ := hrel
    obtain ⟨hk, fn, tmps, assign, body, hy, hR⟩ := hY k wr hJ
    gi_wp2
    refine hR.mono ?_
    rintro e W3 (⟨rfl, hJ3⟩ | ⟨rfl, hJx3⟩)
    · gi_wp2
      gi_roundg (gk - 1)
      case measure => omega
      case rel => exact ⟨k + 1, by rw [code_step (rg k) (rg_lt k)]; rfl, hJ3, by omega⟩
    · gi_wp2
      go_end0
      exact ⟨⟨_, rfl⟩, k + 1, hJx3⟩
end Go.Proofs.Ytificcmcddcijaa
