/- A part of the proof: an abstract machine for the program's code and what each of its functions comes to there. No conditions. -/
import Derived.Test.YtpbngohpklpalaaGreatP10

set_option linter.unusedSimpArgs false
set_option linter.unusedVariables false

/- What dominates in the graph of one block: two new rows in either order. Printed by gen/tree.py. -/
namespace Go.Proofs.YtpbngohpklpalaaGreat
open Go.LS Go.IntWalk
def tA (t : Nat → V) (h : LS.Heap) : Nat → V := upd (upd (upd (upd (upd (upd (upd t 25 (.lst .exact [[.int .i64 (-2)]])) 26 (.int .i64 1)) 27 (.row h.next 0 1 1)) 28 (.int .i64 1)) 29 (.row (h.next + 1) 0 1 1)) 7 (.row h.next 0 1 1)) 8 (.row (h.next + 1) 0 1 1)
def tB (t : Nat → V) (h : LS.Heap) : Nat → V := upd (upd (upd (upd (upd (upd (upd t 25 (.lst .exact [[.int .i64 (-2)]])) 26 (.int .i64 1)) 27 (.row (h.next + 1) 0 1 1)) 28 (.int .i64 1)) 29 (.row h.next 0 1 1)) 7 (.row (h.next + 1) 0 1 1)) 8 (.row h.next 0 1 1)
def hA (h : LS.Heap) : LS.Heap := (h.new (.row [[.int .i64 (-2)]])).new (.row [[.int .i64 0]])
def hB (h : LS.Heap) : LS.Heap := (h.new (.row [[.int .i64 0]])).new (.row [[.int .i64 (-2)]])

section
variable {t : Nat → V} {loc : LS.Loc} {h : LS.Heap} {s2 : St}
theorem tree_same (ht : ∀ k, s2.t k = tA t h k) (hl : s2.loc = loc) (hh : s2.h = hA h) : EndsAs ⟨t, loc, h⟩ ⟨tA t h, loc, hA h⟩ s2 := by
 obtain ⟨t2, l2, h2⟩ := s2
 obtain rfl : t2 = tA t h := funext ht
 subst hl hh
 exact .inl rfl
theorem tree_twin (ht : ∀ k, s2.t k = tB t h k) (hl : s2.loc = loc) (hh : s2.h = hB h) : EndsAs ⟨t, loc, h⟩ ⟨tA t h, loc, hA h⟩ s2 := by
 obtain ⟨t2, l2, h2⟩ := s2
 obtain rfl : t2 = tB t h := funext ht
 subst hl hh
 refine .inr ⟨h.next, h.next + 1, Nat.le_refl _, Nat.le_succ _, ?_, ?_, rfl, fun id => ?_, fun id hid => ?_, fun id ob hid hid2 ho => ?_, rfl, rfl, fun k => ?_⟩
 ·simp [hB, Heap.new]; omega
 ·simp [hB, Heap.new]
 ·simp only [hA, hB, Heap.new, upd, swp]
  by_cases h1 : id = h.next
  ·subst h1; simp
  ·by_cases h2 : id = h.next + 1
   ·subst h2; simp
   ·simp [h1, h2]
 ·have h1 : id ≠ h.next := by simp only at hid; omega
  have h2 : id ≠ h.next + 1 := by simp only at hid; omega
  simp [hB, Heap.new, upd, h1, h2]
 ·simp only [hB, Heap.new, upd] at ho
  by_cases h2 : id = h.next + 1
  ·rw [if_pos h2] at ho; injection ho with ho; subst ho; rfl
  ·rw [if_neg h2] at ho
   by_cases h1 : id = h.next
   ·rw [if_pos h1] at ho; injection ho with ho; subst ho; rfl
   ·rw [if_neg h1] at ho
    simp only [hB, Heap.new] at hid2
    simp only at hid
    omega
 ·by_cases h25 : k = 25
  ·subst h25; exact .inl ⟨rfl, .inr rfl⟩
  by_cases h26 : k = 26
  ·subst h26; exact .inl ⟨rfl, .inr rfl⟩
  by_cases h27 : k = 27
  ·subst h27; exact .inr ⟨0, 1, 1, .inr ⟨rfl, rfl⟩⟩
  by_cases h28 : k = 28
  ·subst h28; exact .inl ⟨rfl, .inr rfl⟩
  by_cases h29 : k = 29
  ·subst h29; exact .inr ⟨0, 1, 1, .inl ⟨rfl, rfl⟩⟩
  by_cases h7 : k = 7
  ·subst h7; exact .inr ⟨0, 1, 1, .inr ⟨rfl, rfl⟩⟩
  by_cases h8 : k = 8
  ·subst h8; exact .inr ⟨0, 1, 1, .inl ⟨rfl, rfl⟩⟩
  refine .inl ⟨?_, .inl ?_⟩
  ·simp [tA, tB, upd, h25, h26, h27, h28, h29, h7, h8]
  ·simp [tA, upd, h25, h26, h27, h28, h29, h7, h8]
end
theorem keys7 {f g : Nat → V} (h25 : f 25 = g 25) (h26 : f 26 = g 26) (h27 : f 27 = g 27) (h28 : f 28 = g 28) (h29 : f 29 = g 29) (h7 : f 7 = g 7) (h8 : f 8 = g 8)
  (ho : ∀ k, k ≠ 25 → k ≠ 26 → k ≠ 27 → k ≠ 28 → k ≠ 29 → k ≠ 7 → k ≠ 8 → f k = g k) : ∀ k, f k = g k := fun k => by
 by_cases a : k = 25
 ·subst a; exact h25
 by_cases b : k = 26
 ·subst b; exact h26
 by_cases c : k = 27
 ·subst c; exact h27
 by_cases d : k = 28
 ·subst d; exact h28
 by_cases e : k = 29
 ·subst e; exact h29
 by_cases f' : k = 7
 ·subst f'; exact h7
 by_cases g' : k = 8
 ·subst g'; exact h8
 exact ho k a b c d e f' g'
theorem tree_region {t : Nat → V} {loc : LS.Loc} {h : LS.Heap} (t6 : t 6 = .int .i64 1) : runAny (callD T) r187_5 p187_5 ⟨t, loc, h⟩ = some ⟨tA t h, loc, hA h⟩ := by
 have e2 := fun h1 => repeat1_run .exact (-2) h1
 have w1 : IntKind.i64.wrap 1 = 1 := rfl
 refine runAny_iff.2 ⟨by simp only [r187_5]; simp [t6, e2, w1]; exact ⟨rfl, rfl⟩, ?_⟩
 show AllOrdP _ _ _ 7 _ _
 unfold p187_5
 refine ⟨fun hr => absurd hr (by decide), fun i hi => ?_⟩
 have hi : i ∈ [0, 1, 3] := hi
 simp only [List.mem_cons, List.not_mem_nil, or_false] at hi
 rcases hi with rfl | rfl | rfl
 ·skip
  refine ⟨_, by simp [stepAt, r187_5, t6, e2, w1]; exact rfl, ?_⟩
  refine ⟨fun hr => absurd hr (by decide), fun i hi => ?_⟩
  have hi : i ∈ [1, 3] := hi
  simp only [List.mem_cons, List.not_mem_nil, or_false] at hi
  rcases hi with rfl | rfl
  ·skip
   refine ⟨_, by simp [stepAt, r187_5, t6, e2, w1]; exact rfl, ?_⟩
   refine ⟨fun hr => absurd hr (by decide), fun i hi => ?_⟩
   have hi : i ∈ [2, 3] := hi
   simp only [List.mem_cons, List.not_mem_nil, or_false] at hi
   rcases hi with rfl | rfl
   ·skip
    refine ⟨_, by simp [stepAt, r187_5, t6, e2, w1]; exact rfl, ?_⟩
    refine ⟨fun hr => absurd hr (by decide), fun i hi => ?_⟩
    have hi : i ∈ [3, 5] := hi
    simp only [List.mem_cons, List.not_mem_nil, or_false] at hi
    rcases hi with rfl | rfl
    ·skip
     refine ⟨_, by simp [stepAt, r187_5, t6, e2, w1]; exact rfl, ?_⟩
     refine ⟨fun hr => absurd hr (by decide), fun i hi => ?_⟩
     have hi : i ∈ [4, 5] := hi
     simp only [List.mem_cons, List.not_mem_nil, or_false] at hi
     rcases hi with rfl | rfl
     ·skip
      refine ⟨_, by simp [stepAt, r187_5, t6, e2, w1]; exact rfl, ?_⟩
      refine ⟨fun hr => absurd hr (by decide), fun i hi => ?_⟩
      have hi : i ∈ [5] := hi
      simp only [List.mem_cons, List.not_mem_nil, or_false] at hi
      subst hi
      refine ⟨_, by simp [stepAt, r187_5, t6, e2, w1]; exact rfl, ?_⟩
      refine ⟨fun hr => absurd hr (by decide), fun i hi => ?_⟩
      have hi : i ∈ [6] := hi
      simp only [List.mem_cons, List.not_mem_nil, or_false] at hi
      subst hi
      refine ⟨_, by simp [stepAt, r187_5, t6, e2, w1]; exact rfl, ?_⟩
      exact ⟨rfl, tree_same (keys7 rfl rfl rfl rfl rfl rfl rfl (fun k a b c d e f g => by simp [tA, tB, upd, a, b, c, d, e, f, g])) rfl rfl⟩
     ·skip
      refine ⟨_, by simp [stepAt, r187_5, t6, e2, w1]; exact rfl, ?_⟩
      refine ⟨fun hr => absurd hr (by decide), fun i hi => ?_⟩
      have hi : i ∈ [4] := hi
      simp only [List.mem_cons, List.not_mem_nil, or_false] at hi
      subst hi
      refine ⟨_, by simp [stepAt, r187_5, t6, e2, w1]; exact rfl, ?_⟩
      refine ⟨fun hr => absurd hr (by decide), fun i hi => ?_⟩
      have hi : i ∈ [6] := hi
      simp only [List.mem_cons, List.not_mem_nil, or_false] at hi
      subst hi
      refine ⟨_, by simp [stepAt, r187_5, t6, e2, w1]; exact rfl, ?_⟩
      exact ⟨rfl, tree_same (keys7 rfl rfl rfl rfl rfl rfl rfl (fun k a b c d e f g => by simp [tA, tB, upd, a, b, c, d, e, f, g])) rfl rfl⟩
    ·skip
     refine ⟨_, by simp [stepAt, r187_5, t6, e2, w1]; exact rfl, ?_⟩
     refine ⟨fun hr => absurd hr (by decide), fun i hi => ?_⟩
     have hi : i ∈ [3] := hi
     simp only [List.mem_cons, List.not_mem_nil, or_false] at hi
     subst hi
     refine ⟨_, by simp [stepAt, r187_5, t6, e2, w1]; exact rfl, ?_⟩
     refine ⟨fun hr => absurd hr (by decide), fun i hi => ?_⟩
     have hi : i ∈ [4] := hi
     simp only [List.mem_cons, List.not_mem_nil, or_false] at hi
     subst hi
     refine ⟨_, by simp [stepAt, r187_5, t6, e2, w1]; exact rfl, ?_⟩
     refine ⟨fun hr => absurd hr (by decide), fun i hi => ?_⟩
     have hi : i ∈ [6] := hi
     simp only [List.mem_cons, List.not_mem_nil, or_false] at hi
     subst hi
     refine ⟨_, by simp [stepAt, r187_5, t6, e2, w1]; exact rfl, ?_⟩
     exact ⟨rfl, tree_same (keys7 rfl rfl rfl rfl rfl rfl rfl (fun k a b c d e f g => by simp [tA, tB, upd, a, b, c, d, e, f, g])) rfl rfl⟩
   ·skip
    refine ⟨_, by simp [stepAt, r187_5, t6, e2, w1]; exact rfl, ?_⟩
    refine ⟨fun hr => absurd hr (by decide), fun i hi => ?_⟩
    have hi : i ∈ [2, 4] := hi
    simp only [List.mem_cons, List.not_mem_nil, or_false] at hi
    rcases hi with rfl | rfl
    ·skip
     refine ⟨_, by simp [stepAt, r187_5, t6, e2, w1]; exact rfl, ?_⟩
     refine ⟨fun hr => absurd hr (by decide), fun i hi => ?_⟩
     have hi : i ∈ [4, 5] := hi
     simp only [List.mem_cons, List.not_mem_nil, or_false] at hi
     rcases hi with rfl | rfl
     ·skip
      refine ⟨_, by simp [stepAt, r187_5, t6, e2, w1]; exact rfl, ?_⟩
      refine ⟨fun hr => absurd hr (by decide), fun i hi => ?_⟩
      have hi : i ∈ [5] := hi
      simp only [List.mem_cons, List.not_mem_nil, or_false] at hi
      subst hi
      refine ⟨_, by simp [stepAt, r187_5, t6, e2, w1]; exact rfl, ?_⟩
      refine ⟨fun hr => absurd hr (by decide), fun i hi => ?_⟩
      have hi : i ∈ [6] := hi
      simp only [List.mem_cons, List.not_mem_nil, or_false] at hi
      subst hi
      refine ⟨_, by simp [stepAt, r187_5, t6, e2, w1]; exact rfl, ?_⟩
      exact ⟨rfl, tree_same (keys7 rfl rfl rfl rfl rfl rfl rfl (fun k a b c d e f g => by simp [tA, tB, upd, a, b, c, d, e, f, g])) rfl rfl⟩
     ·skip
      refine ⟨_, by simp [stepAt, r187_5, t6, e2, w1]; exact rfl, ?_⟩
      refine ⟨fun hr => absurd hr (by decide), fun i hi => ?_⟩
      have hi : i ∈ [4] := hi
      simp only [List.mem_cons, List.not_mem_nil, or_false] at hi
      subst hi
      refine ⟨_, by simp [stepAt, r187_5, t6, e2, w1]; exact rfl, ?_⟩
      refine ⟨fun hr => absurd hr (by decide), fun i hi => ?_⟩
      have hi : i ∈ [6] := hi
      simp only [List.mem_cons, List.not_mem_nil, or_false] at hi
      subst hi
      refine ⟨_, by simp [stepAt, r187_5, t6, e2, w1]; exact rfl, ?_⟩
      exact ⟨rfl, tree_same (keys7 rfl rfl rfl rfl rfl rfl rfl (fun k a b c d e f g => by simp [tA, tB, upd, a, b, c, d, e, f, g])) rfl rfl⟩
    ·skip
     refine ⟨_, by simp [stepAt, r187_5, t6, e2, w1]; exact rfl, ?_⟩
     refine ⟨fun hr => absurd hr (by decide), fun i hi => ?_⟩
     have hi : i ∈ [2] := hi
     simp only [List.mem_cons, List.not_mem_nil, or_false] at hi
     subst hi
     refine ⟨_, by simp [stepAt, r187_5, t6, e2, w1]; exact rfl, ?_⟩
     refine ⟨fun hr => absurd hr (by decide), fun i hi => ?_⟩
     have hi : i ∈ [5] := hi
     simp only [List.mem_cons, List.not_mem_nil, or_false] at hi
     subst hi
     refine ⟨_, by simp [stepAt, r187_5, t6, e2, w1]; exact rfl, ?_⟩
     refine ⟨fun hr => absurd hr (by decide), fun i hi => ?_⟩
     have hi : i ∈ [6] := hi
     simp only [List.mem_cons, List.not_mem_nil, or_false] at hi
     subst hi
     refine ⟨_, by simp [stepAt, r187_5, t6, e2, w1]; exact rfl, ?_⟩
     exact ⟨rfl, tree_twin (keys7 rfl rfl rfl rfl rfl rfl rfl (fun k a b c d e f g => by simp [tA, tB, upd, a, b, c, d, e, f, g])) rfl rfl⟩
  ·skip
   refine ⟨_, by simp [stepAt, r187_5, t6, e2, w1]; exact rfl, ?_⟩
   refine ⟨fun hr => absurd hr (by decide), fun i hi => ?_⟩
   have hi : i ∈ [1, 4] := hi
   simp only [List.mem_cons, List.not_mem_nil, or_false] at hi
   rcases hi with rfl | rfl
   ·skip
    refine ⟨_, by simp [stepAt, r187_5, t6, e2, w1]; exact rfl, ?_⟩
    refine ⟨fun hr => absurd hr (by decide), fun i hi => ?_⟩
    have hi : i ∈ [2, 4] := hi
    simp only [List.mem_cons, List.not_mem_nil, or_false] at hi
    rcases hi with rfl | rfl
    ·skip
     refine ⟨_, by simp [stepAt, r187_5, t6, e2, w1]; exact rfl, ?_⟩
     refine ⟨fun hr => absurd hr (by decide), fun i hi => ?_⟩
     have hi : i ∈ [4, 5] := hi
     simp only [List.mem_cons, List.not_mem_nil, or_false] at hi
     rcases hi with rfl | rfl
     ·skip
      refine ⟨_, by simp [stepAt, r187_5, t6, e2, w1]; exact rfl, ?_⟩
      refine ⟨fun hr => absurd hr (by decide), fun i hi => ?_⟩
      have hi : i ∈ [5] := hi
      simp only [List.mem_cons, List.not_mem_nil, or_false] at hi
      subst hi
      refine ⟨_, by simp [stepAt, r187_5, t6, e2, w1]; exact rfl, ?_⟩
      refine ⟨fun hr => absurd hr (by decide), fun i hi => ?_⟩
      have hi : i ∈ [6] := hi
      simp only [List.mem_cons, List.not_mem_nil, or_false] at hi
      subst hi
      refine ⟨_, by simp [stepAt, r187_5, t6, e2, w1]; exact rfl, ?_⟩
      exact ⟨rfl, tree_same (keys7 rfl rfl rfl rfl rfl rfl rfl (fun k a b c d e f g => by simp [tA, tB, upd, a, b, c, d, e, f, g])) rfl rfl⟩
     ·skip
      refine ⟨_, by simp [stepAt, r187_5, t6, e2, w1]; exact rfl, ?_⟩
      refine ⟨fun hr => absurd hr (by decide), fun i hi => ?_⟩
      have hi : i ∈ [4] := hi
      simp only [List.mem_cons, List.not_mem_nil, or_false] at hi
      subst hi
      refine ⟨_, by simp [stepAt, r187_5, t6, e2, w1]; exact rfl, ?_⟩
      refine ⟨fun hr => absurd hr (by decide), fun i hi => ?_⟩
      have hi : i ∈ [6] := hi
      simp only [List.mem_cons, List.not_mem_nil, or_false] at hi
      subst hi
      refine ⟨_, by simp [stepAt, r187_5, t6, e2, w1]; exact rfl, ?_⟩
      exact ⟨rfl, tree_same (keys7 rfl rfl rfl rfl rfl rfl rfl (fun k a b c d e f g => by simp [tA, tB, upd, a, b, c, d, e, f, g])) rfl rfl⟩
    ·skip
     refine ⟨_, by simp [stepAt, r187_5, t6, e2, w1]; exact rfl, ?_⟩
     refine ⟨fun hr => absurd hr (by decide), fun i hi => ?_⟩
     have hi : i ∈ [2] := hi
     simp only [List.mem_cons, List.not_mem_nil, or_false] at hi
     subst hi
     refine ⟨_, by simp [stepAt, r187_5, t6, e2, w1]; exact rfl, ?_⟩
     refine ⟨fun hr => absurd hr (by decide), fun i hi => ?_⟩
     have hi : i ∈ [5] := hi
     simp only [List.mem_cons, List.not_mem_nil, or_false] at hi
     subst hi
     refine ⟨_, by simp [stepAt, r187_5, t6, e2, w1]; exact rfl, ?_⟩
     refine ⟨fun hr => absurd hr (by decide), fun i hi => ?_⟩
     have hi : i ∈ [6] := hi
     simp only [List.mem_cons, List.not_mem_nil, or_false] at hi
     subst hi
     refine ⟨_, by simp [stepAt, r187_5, t6, e2, w1]; exact rfl, ?_⟩
     exact ⟨rfl, tree_twin (keys7 rfl rfl rfl rfl rfl rfl rfl (fun k a b c d e f g => by simp [tA, tB, upd, a, b, c, d, e, f, g])) rfl rfl⟩
   ·skip
    refine ⟨_, by simp [stepAt, r187_5, t6, e2, w1]; exact rfl, ?_⟩
    refine ⟨fun hr => absurd hr (by decide), fun i hi => ?_⟩
    have hi : i ∈ [1] := hi
    simp only [List.mem_cons, List.not_mem_nil, or_false] at hi
    subst hi
    refine ⟨_, by simp [stepAt, r187_5, t6, e2, w1]; exact rfl, ?_⟩
    refine ⟨fun hr => absurd hr (by decide), fun i hi => ?_⟩
    have hi : i ∈ [2] := hi
    simp only [List.mem_cons, List.not_mem_nil, or_false] at hi
    subst hi
    refine ⟨_, by simp [stepAt, r187_5, t6, e2, w1]; exact rfl, ?_⟩
    refine ⟨fun hr => absurd hr (by decide), fun i hi => ?_⟩
    have hi : i ∈ [5] := hi
    simp only [List.mem_cons, List.not_mem_nil, or_false] at hi
    subst hi
    refine ⟨_, by simp [stepAt, r187_5, t6, e2, w1]; exact rfl, ?_⟩
    refine ⟨fun hr => absurd hr (by decide), fun i hi => ?_⟩
    have hi : i ∈ [6] := hi
    simp only [List.mem_cons, List.not_mem_nil, or_false] at hi
    subst hi
    refine ⟨_, by simp [stepAt, r187_5, t6, e2, w1]; exact rfl, ?_⟩
    exact ⟨rfl, tree_twin (keys7 rfl rfl rfl rfl rfl rfl rfl (fun k a b c d e f g => by simp [tA, tB, upd, a, b, c, d, e, f, g])) rfl rfl⟩
 ·skip
  refine ⟨_, by simp [stepAt, r187_5, t6, e2, w1]; exact rfl, ?_⟩
  refine ⟨fun hr => absurd hr (by decide), fun i hi => ?_⟩
  have hi : i ∈ [0, 3] := hi
  simp only [List.mem_cons, List.not_mem_nil, or_false] at hi
  rcases hi with rfl | rfl
  ·skip
   refine ⟨_, by simp [stepAt, r187_5, t6, e2, w1]; exact rfl, ?_⟩
   refine ⟨fun hr => absurd hr (by decide), fun i hi => ?_⟩
   have hi : i ∈ [2, 3] := hi
   simp only [List.mem_cons, List.not_mem_nil, or_false] at hi
   rcases hi with rfl | rfl
   ·skip
    refine ⟨_, by simp [stepAt, r187_5, t6, e2, w1]; exact rfl, ?_⟩
    refine ⟨fun hr => absurd hr (by decide), fun i hi => ?_⟩
    have hi : i ∈ [3, 5] := hi
    simp only [List.mem_cons, List.not_mem_nil, or_false] at hi
    rcases hi with rfl | rfl
    ·skip
     refine ⟨_, by simp [stepAt, r187_5, t6, e2, w1]; exact rfl, ?_⟩
     refine ⟨fun hr => absurd hr (by decide), fun i hi => ?_⟩
     have hi : i ∈ [4, 5] := hi
     simp only [List.mem_cons, List.not_mem_nil, or_false] at hi
     rcases hi with rfl | rfl
     ·skip
      refine ⟨_, by simp [stepAt, r187_5, t6, e2, w1]; exact rfl, ?_⟩
      refine ⟨fun hr => absurd hr (by decide), fun i hi => ?_⟩
      have hi : i ∈ [5] := hi
      simp only [List.mem_cons, List.not_mem_nil, or_false] at hi
      subst hi
      refine ⟨_, by simp [stepAt, r187_5, t6, e2, w1]; exact rfl, ?_⟩
      refine ⟨fun hr => absurd hr (by decide), fun i hi => ?_⟩
      have hi : i ∈ [6] := hi
      simp only [List.mem_cons, List.not_mem_nil, or_false] at hi
      subst hi
      refine ⟨_, by simp [stepAt, r187_5, t6, e2, w1]; exact rfl, ?_⟩
      exact ⟨rfl, tree_same (keys7 rfl rfl rfl rfl rfl rfl rfl (fun k a b c d e f g => by simp [tA, tB, upd, a, b, c, d, e, f, g])) rfl rfl⟩
     ·skip
      refine ⟨_, by simp [stepAt, r187_5, t6, e2, w1]; exact rfl, ?_⟩
      refine ⟨fun hr => absurd hr (by decide), fun i hi => ?_⟩
      have hi : i ∈ [4] := hi
      simp only [List.mem_cons, List.not_mem_nil, or_false] at hi
      subst hi
      refine ⟨_, by simp [stepAt, r187_5, t6, e2, w1]; exact rfl, ?_⟩
      refine ⟨fun hr => absurd hr (by decide), fun i hi => ?_⟩
      have hi : i ∈ [6] := hi
      simp only [List.mem_cons, List.not_mem_nil, or_false] at hi
      subst hi
      refine ⟨_, by simp [stepAt, r187_5, t6, e2, w1]; exact rfl, ?_⟩
      exact ⟨rfl, tree_same (keys7 rfl rfl rfl rfl rfl rfl rfl (fun k a b c d e f g => by simp [tA, tB, upd, a, b, c, d, e, f, g])) rfl rfl⟩
    ·skip
     refine ⟨_, by simp [stepAt, r187_5, t6, e2, w1]; exact rfl, ?_⟩
     refine ⟨fun hr => absurd hr (by decide), fun i hi => ?_⟩
     have hi : i ∈ [3] := hi
     simp only [List.mem_cons, List.not_mem_nil, or_false] at hi
     subst hi
     refine ⟨_, by simp [stepAt, r187_5, t6, e2, w1]; exact rfl, ?_⟩
     refine ⟨fun hr => absurd hr (by decide), fun i hi => ?_⟩
     have hi : i ∈ [4] := hi
     simp only [List.mem_cons, List.not_mem_nil, or_false] at hi
     subst hi
     refine ⟨_, by simp [stepAt, r187_5, t6, e2, w1]; exact rfl, ?_⟩
     refine ⟨fun hr => absurd hr (by decide), fun i hi => ?_⟩
     have hi : i ∈ [6] := hi
     simp only [List.mem_cons, List.not_mem_nil, or_false] at hi
     subst hi
     refine ⟨_, by simp [stepAt, r187_5, t6, e2, w1]; exact rfl, ?_⟩
     exact ⟨rfl, tree_same (keys7 rfl rfl rfl rfl rfl rfl rfl (fun k a b c d e f g => by simp [tA, tB, upd, a, b, c, d, e, f, g])) rfl rfl⟩
   ·skip
    refine ⟨_, by simp [stepAt, r187_5, t6, e2, w1]; exact rfl, ?_⟩
    refine ⟨fun hr => absurd hr (by decide), fun i hi => ?_⟩
    have hi : i ∈ [2, 4] := hi
    simp only [List.mem_cons, List.not_mem_nil, or_false] at hi
    rcases hi with rfl | rfl
    ·skip
     refine ⟨_, by simp [stepAt, r187_5, t6, e2, w1]; exact rfl, ?_⟩
     refine ⟨fun hr => absurd hr (by decide), fun i hi => ?_⟩
     have hi : i ∈ [4, 5] := hi
     simp only [List.mem_cons, List.not_mem_nil, or_false] at hi
     rcases hi with rfl | rfl
     ·skip
      refine ⟨_, by simp [stepAt, r187_5, t6, e2, w1]; exact rfl, ?_⟩
      refine ⟨fun hr => absurd hr (by decide), fun i hi => ?_⟩
      have hi : i ∈ [5] := hi
      simp only [List.mem_cons, List.not_mem_nil, or_false] at hi
      subst hi
      refine ⟨_, by simp [stepAt, r187_5, t6, e2, w1]; exact rfl, ?_⟩
      refine ⟨fun hr => absurd hr (by decide), fun i hi => ?_⟩
      have hi : i ∈ [6] := hi
      simp only [List.mem_cons, List.not_mem_nil, or_false] at hi
      subst hi
      refine ⟨_, by simp [stepAt, r187_5, t6, e2, w1]; exact rfl, ?_⟩
      exact ⟨rfl, tree_same (keys7 rfl rfl rfl rfl rfl rfl rfl (fun k a b c d e f g => by simp [tA, tB, upd, a, b, c, d, e, f, g])) rfl rfl⟩
     ·skip
      refine ⟨_, by simp [stepAt, r187_5, t6, e2, w1]; exact rfl, ?_⟩
      refine ⟨fun hr => absurd hr (by decide), fun i hi => ?_⟩
      have hi : i ∈ [4] := hi
      simp only [List.mem_cons, List.not_mem_nil, or_false] at hi
      subst hi
      refine ⟨_, by simp [stepAt, r187_5, t6, e2, w1]; exact rfl, ?_⟩
      refine ⟨fun hr => absurd hr (by decide), fun i hi => ?_⟩
      have hi : i ∈ [6] := hi
      simp only [List.mem_cons, List.not_mem_nil, or_false] at hi
      subst hi
      refine ⟨_, by simp [stepAt, r187_5, t6, e2, w1]; exact rfl, ?_⟩
      exact ⟨rfl, tree_same (keys7 rfl rfl rfl rfl rfl rfl rfl (fun k a b c d e f g => by simp [tA, tB, upd, a, b, c, d, e, f, g])) rfl rfl⟩
    ·skip
     refine ⟨_, by simp [stepAt, r187_5, t6, e2, w1]; exact rfl, ?_⟩
     refine ⟨fun hr => absurd hr (by decide), fun i hi => ?_⟩
     have hi : i ∈ [2] := hi
     simp only [List.mem_cons, List.not_mem_nil, or_false] at hi
     subst hi
     refine ⟨_, by simp [stepAt, r187_5, t6, e2, w1]; exact rfl, ?_⟩
     refine ⟨fun hr => absurd hr (by decide), fun i hi => ?_⟩
     have hi : i ∈ [5] := hi
     simp only [List.mem_cons, List.not_mem_nil, or_false] at hi
     subst hi
     refine ⟨_, by simp [stepAt, r187_5, t6, e2, w1]; exact rfl, ?_⟩
     refine ⟨fun hr => absurd hr (by decide), fun i hi => ?_⟩
     have hi : i ∈ [6] := hi
     simp only [List.mem_cons, List.not_mem_nil, or_false] at hi
     subst hi
     refine ⟨_, by simp [stepAt, r187_5, t6, e2, w1]; exact rfl, ?_⟩
     exact ⟨rfl, tree_twin (keys7 rfl rfl rfl rfl rfl rfl rfl (fun k a b c d e f g => by simp [tA, tB, upd, a, b, c, d, e, f, g])) rfl rfl⟩
  ·skip
   refine ⟨_, by simp [stepAt, r187_5, t6, e2, w1]; exact rfl, ?_⟩
   refine ⟨fun hr => absurd hr (by decide), fun i hi => ?_⟩
   have hi : i ∈ [0, 4] := hi
   simp only [List.mem_cons, List.not_mem_nil, or_false] at hi
   rcases hi with rfl | rfl
   ·skip
    refine ⟨_, by simp [stepAt, r187_5, t6, e2, w1]; exact rfl, ?_⟩
    refine ⟨fun hr => absurd hr (by decide), fun i hi => ?_⟩
    have hi : i ∈ [2, 4] := hi
    simp only [List.mem_cons, List.not_mem_nil, or_false] at hi
    rcases hi with rfl | rfl
    ·skip
     refine ⟨_, by simp [stepAt, r187_5, t6, e2, w1]; exact rfl, ?_⟩
     refine ⟨fun hr => absurd hr (by decide), fun i hi => ?_⟩
     have hi : i ∈ [4, 5] := hi
     simp only [List.mem_cons, List.not_mem_nil, or_false] at hi
     rcases hi with rfl | rfl
     ·skip
      refine ⟨_, by simp [stepAt, r187_5, t6, e2, w1]; exact rfl, ?_⟩
      refine ⟨fun hr => absurd hr (by decide), fun i hi => ?_⟩
      have hi : i ∈ [5] := hi
      simp only [List.mem_cons, List.not_mem_nil, or_false] at hi
      subst hi
      refine ⟨_, by simp [stepAt, r187_5, t6, e2, w1]; exact rfl, ?_⟩
      refine ⟨fun hr => absurd hr (by decide), fun i hi => ?_⟩
      have hi : i ∈ [6] := hi
      simp only [List.mem_cons, List.not_mem_nil, or_false] at hi
      subst hi
      refine ⟨_, by simp [stepAt, r187_5, t6, e2, w1]; exact rfl, ?_⟩
      exact ⟨rfl, tree_same (keys7 rfl rfl rfl rfl rfl rfl rfl (fun k a b c d e f g => by simp [tA, tB, upd, a, b, c, d, e, f, g])) rfl rfl⟩
     ·skip
      refine ⟨_, by simp [stepAt, r187_5, t6, e2, w1]; exact rfl, ?_⟩
      refine ⟨fun hr => absurd hr (by decide), fun i hi => ?_⟩
      have hi : i ∈ [4] := hi
      simp only [List.mem_cons, List.not_mem_nil, or_false] at hi
      subst hi
      refine ⟨_, by simp [stepAt, r187_5, t6, e2, w1]; exact rfl, ?_⟩
      refine ⟨fun hr => absurd hr (by decide), fun i hi => ?_⟩
      have hi : i ∈ [6] := hi
      simp only [List.mem_cons, List.not_mem_nil, or_false] at hi
      subst hi
      refine ⟨_, by simp [stepAt, r187_5, t6, e2, w1]; exact rfl, ?_⟩
      exact ⟨rfl, tree_same (keys7 rfl rfl rfl rfl rfl rfl rfl (fun k a b c d e f g => by simp [tA, tB, upd, a, b, c, d, e, f, g])) rfl rfl⟩
    ·skip
     refine ⟨_, by simp [stepAt, r187_5, t6, e2, w1]; exact rfl, ?_⟩
     refine ⟨fun hr => absurd hr (by decide), fun i hi => ?_⟩
     have hi : i ∈ [2] := hi
     simp only [List.mem_cons, List.not_mem_nil, or_false] at hi
     subst hi
     refine ⟨_, by simp [stepAt, r187_5, t6, e2, w1]; exact rfl, ?_⟩
     refine ⟨fun hr => absurd hr (by decide), fun i hi => ?_⟩
     have hi : i ∈ [5] := hi
     simp only [List.mem_cons, List.not_mem_nil, or_false] at hi
     subst hi
     refine ⟨_, by simp [stepAt, r187_5, t6, e2, w1]; exact rfl, ?_⟩
     refine ⟨fun hr => absurd hr (by decide), fun i hi => ?_⟩
     have hi : i ∈ [6] := hi
     simp only [List.mem_cons, List.not_mem_nil, or_false] at hi
     subst hi
     refine ⟨_, by simp [stepAt, r187_5, t6, e2, w1]; exact rfl, ?_⟩
     exact ⟨rfl, tree_twin (keys7 rfl rfl rfl rfl rfl rfl rfl (fun k a b c d e f g => by simp [tA, tB, upd, a, b, c, d, e, f, g])) rfl rfl⟩
   ·skip
    refine ⟨_, by simp [stepAt, r187_5, t6, e2, w1]; exact rfl, ?_⟩
    refine ⟨fun hr => absurd hr (by decide), fun i hi => ?_⟩
    have hi : i ∈ [0] := hi
    simp only [List.mem_cons, List.not_mem_nil, or_false] at hi
    subst hi
    refine ⟨_, by simp [stepAt, r187_5, t6, e2, w1]; exact rfl, ?_⟩
    refine ⟨fun hr => absurd hr (by decide), fun i hi => ?_⟩
    have hi : i ∈ [2] := hi
    simp only [List.mem_cons, List.not_mem_nil, or_false] at hi
    subst hi
    refine ⟨_, by simp [stepAt, r187_5, t6, e2, w1]; exact rfl, ?_⟩
    refine ⟨fun hr => absurd hr (by decide), fun i hi => ?_⟩
    have hi : i ∈ [5] := hi
    simp only [List.mem_cons, List.not_mem_nil, or_false] at hi
    subst hi
    refine ⟨_, by simp [stepAt, r187_5, t6, e2, w1]; exact rfl, ?_⟩
    refine ⟨fun hr => absurd hr (by decide), fun i hi => ?_⟩
    have hi : i ∈ [6] := hi
    simp only [List.mem_cons, List.not_mem_nil, or_false] at hi
    subst hi
    refine ⟨_, by simp [stepAt, r187_5, t6, e2, w1]; exact rfl, ?_⟩
    exact ⟨rfl, tree_twin (keys7 rfl rfl rfl rfl rfl rfl rfl (fun k a b c d e f g => by simp [tA, tB, upd, a, b, c, d, e, f, g])) rfl rfl⟩
 ·skip
  refine ⟨_, by simp [stepAt, r187_5, t6, e2, w1]; exact rfl, ?_⟩
  refine ⟨fun hr => absurd hr (by decide), fun i hi => ?_⟩
  have hi : i ∈ [0, 1, 4] := hi
  simp only [List.mem_cons, List.not_mem_nil, or_false] at hi
  rcases hi with rfl | rfl | rfl
  ·skip
   refine ⟨_, by simp [stepAt, r187_5, t6, e2, w1]; exact rfl, ?_⟩
   refine ⟨fun hr => absurd hr (by decide), fun i hi => ?_⟩
   have hi : i ∈ [1, 4] := hi
   simp only [List.mem_cons, List.not_mem_nil, or_false] at hi
   rcases hi with rfl | rfl
   ·skip
    refine ⟨_, by simp [stepAt, r187_5, t6, e2, w1]; exact rfl, ?_⟩
    refine ⟨fun hr => absurd hr (by decide), fun i hi => ?_⟩
    have hi : i ∈ [2, 4] := hi
    simp only [List.mem_cons, List.not_mem_nil, or_false] at hi
    rcases hi with rfl | rfl
    ·skip
     refine ⟨_, by simp [stepAt, r187_5, t6, e2, w1]; exact rfl, ?_⟩
     refine ⟨fun hr => absurd hr (by decide), fun i hi => ?_⟩
     have hi : i ∈ [4, 5] := hi
     simp only [List.mem_cons, List.not_mem_nil, or_false] at hi
     rcases hi with rfl | rfl
     ·skip
      refine ⟨_, by simp [stepAt, r187_5, t6, e2, w1]; exact rfl, ?_⟩
      refine ⟨fun hr => absurd hr (by decide), fun i hi => ?_⟩
      have hi : i ∈ [5] := hi
      simp only [List.mem_cons, List.not_mem_nil, or_false] at hi
      subst hi
      refine ⟨_, by simp [stepAt, r187_5, t6, e2, w1]; exact rfl, ?_⟩
      refine ⟨fun hr => absurd hr (by decide), fun i hi => ?_⟩
      have hi : i ∈ [6] := hi
      simp only [List.mem_cons, List.not_mem_nil, or_false] at hi
      subst hi
      refine ⟨_, by simp [stepAt, r187_5, t6, e2, w1]; exact rfl, ?_⟩
      exact ⟨rfl, tree_same (keys7 rfl rfl rfl rfl rfl rfl rfl (fun k a b c d e f g => by simp [tA, tB, upd, a, b, c, d, e, f, g])) rfl rfl⟩
     ·skip
      refine ⟨_, by simp [stepAt, r187_5, t6, e2, w1]; exact rfl, ?_⟩
      refine ⟨fun hr => absurd hr (by decide), fun i hi => ?_⟩
      have hi : i ∈ [4] := hi
      simp only [List.mem_cons, List.not_mem_nil, or_false] at hi
      subst hi
      refine ⟨_, by simp [stepAt, r187_5, t6, e2, w1]; exact rfl, ?_⟩
      refine ⟨fun hr => absurd hr (by decide), fun i hi => ?_⟩
      have hi : i ∈ [6] := hi
      simp only [List.mem_cons, List.not_mem_nil, or_false] at hi
      subst hi
      refine ⟨_, by simp [stepAt, r187_5, t6, e2, w1]; exact rfl, ?_⟩
      exact ⟨rfl, tree_same (keys7 rfl rfl rfl rfl rfl rfl rfl (fun k a b c d e f g => by simp [tA, tB, upd, a, b, c, d, e, f, g])) rfl rfl⟩
    ·skip
     refine ⟨_, by simp [stepAt, r187_5, t6, e2, w1]; exact rfl, ?_⟩
     refine ⟨fun hr => absurd hr (by decide), fun i hi => ?_⟩
     have hi : i ∈ [2] := hi
     simp only [List.mem_cons, List.not_mem_nil, or_false] at hi
     subst hi
     refine ⟨_, by simp [stepAt, r187_5, t6, e2, w1]; exact rfl, ?_⟩
     refine ⟨fun hr => absurd hr (by decide), fun i hi => ?_⟩
     have hi : i ∈ [5] := hi
     simp only [List.mem_cons, List.not_mem_nil, or_false] at hi
     subst hi
     refine ⟨_, by simp [stepAt, r187_5, t6, e2, w1]; exact rfl, ?_⟩
     refine ⟨fun hr => absurd hr (by decide), fun i hi => ?_⟩
     have hi : i ∈ [6] := hi
     simp only [List.mem_cons, List.not_mem_nil, or_false] at hi
     subst hi
     refine ⟨_, by simp [stepAt, r187_5, t6, e2, w1]; exact rfl, ?_⟩
     exact ⟨rfl, tree_twin (keys7 rfl rfl rfl rfl rfl rfl rfl (fun k a b c d e f g => by simp [tA, tB, upd, a, b, c, d, e, f, g])) rfl rfl⟩
   ·skip
    refine ⟨_, by simp [stepAt, r187_5, t6, e2, w1]; exact rfl, ?_⟩
    refine ⟨fun hr => absurd hr (by decide), fun i hi => ?_⟩
    have hi : i ∈ [1] := hi
    simp only [List.mem_cons, List.not_mem_nil, or_false] at hi
    subst hi
    refine ⟨_, by simp [stepAt, r187_5, t6, e2, w1]; exact rfl, ?_⟩
    refine ⟨fun hr => absurd hr (by decide), fun i hi => ?_⟩
    have hi : i ∈ [2] := hi
    simp only [List.mem_cons, List.not_mem_nil, or_false] at hi
    subst hi
    refine ⟨_, by simp [stepAt, r187_5, t6, e2, w1]; exact rfl, ?_⟩
    refine ⟨fun hr => absurd hr (by decide), fun i hi => ?_⟩
    have hi : i ∈ [5] := hi
    simp only [List.mem_cons, List.not_mem_nil, or_false] at hi
    subst hi
    refine ⟨_, by simp [stepAt, r187_5, t6, e2, w1]; exact rfl, ?_⟩
    refine ⟨fun hr => absurd hr (by decide), fun i hi => ?_⟩
    have hi : i ∈ [6] := hi
    simp only [List.mem_cons, List.not_mem_nil, or_false] at hi
    subst hi
    refine ⟨_, by simp [stepAt, r187_5, t6, e2, w1]; exact rfl, ?_⟩
    exact ⟨rfl, tree_twin (keys7 rfl rfl rfl rfl rfl rfl rfl (fun k a b c d e f g => by simp [tA, tB, upd, a, b, c, d, e, f, g])) rfl rfl⟩
  ·skip
   refine ⟨_, by simp [stepAt, r187_5, t6, e2, w1]; exact rfl, ?_⟩
   refine ⟨fun hr => absurd hr (by decide), fun i hi => ?_⟩
   have hi : i ∈ [0, 4] := hi
   simp only [List.mem_cons, List.not_mem_nil, or_false] at hi
   rcases hi with rfl | rfl
   ·skip
    refine ⟨_, by simp [stepAt, r187_5, t6, e2, w1]; exact rfl, ?_⟩
    refine ⟨fun hr => absurd hr (by decide), fun i hi => ?_⟩
    have hi : i ∈ [2, 4] := hi
    simp only [List.mem_cons, List.not_mem_nil, or_false] at hi
    rcases hi with rfl | rfl
    ·skip
     refine ⟨_, by simp [stepAt, r187_5, t6, e2, w1]; exact rfl, ?_⟩
     refine ⟨fun hr => absurd hr (by decide), fun i hi => ?_⟩
     have hi : i ∈ [4, 5] := hi
     simp only [List.mem_cons, List.not_mem_nil, or_false] at hi
     rcases hi with rfl | rfl
     ·skip
      refine ⟨_, by simp [stepAt, r187_5, t6, e2, w1]; exact rfl, ?_⟩
      refine ⟨fun hr => absurd hr (by decide), fun i hi => ?_⟩
      have hi : i ∈ [5] := hi
      simp only [List.mem_cons, List.not_mem_nil, or_false] at hi
      subst hi
      refine ⟨_, by simp [stepAt, r187_5, t6, e2, w1]; exact rfl, ?_⟩
      refine ⟨fun hr => absurd hr (by decide), fun i hi => ?_⟩
      have hi : i ∈ [6] := hi
      simp only [List.mem_cons, List.not_mem_nil, or_false] at hi
      subst hi
      refine ⟨_, by simp [stepAt, r187_5, t6, e2, w1]; exact rfl, ?_⟩
      exact ⟨rfl, tree_same (keys7 rfl rfl rfl rfl rfl rfl rfl (fun k a b c d e f g => by simp [tA, tB, upd, a, b, c, d, e, f, g])) rfl rfl⟩
     ·skip
      refine ⟨_, by simp [stepAt, r187_5, t6, e2, w1]; exact rfl, ?_⟩
      refine ⟨fun hr => absurd hr (by decide), fun i hi => ?_⟩
      have hi : i ∈ [4] := hi
      simp only [List.mem_cons, List.not_mem_nil, or_false] at hi
      subst hi
      refine ⟨_, by simp [stepAt, r187_5, t6, e2, w1]; exact rfl, ?_⟩
      refine ⟨fun hr => absurd hr (by decide), fun i hi => ?_⟩
      have hi : i ∈ [6] := hi
      simp only [List.mem_cons, List.not_mem_nil, or_false] at hi
      subst hi
      refine ⟨_, by simp [stepAt, r187_5, t6, e2, w1]; exact rfl, ?_⟩
      exact ⟨rfl, tree_same (keys7 rfl rfl rfl rfl rfl rfl rfl (fun k a b c d e f g => by simp [tA, tB, upd, a, b, c, d, e, f, g])) rfl rfl⟩
    ·skip
     refine ⟨_, by simp [stepAt, r187_5, t6, e2, w1]; exact rfl, ?_⟩
     refine ⟨fun hr => absurd hr (by decide), fun i hi => ?_⟩
     have hi : i ∈ [2] := hi
     simp only [List.mem_cons, List.not_mem_nil, or_false] at hi
     subst hi
     refine ⟨_, by simp [stepAt, r187_5, t6, e2, w1]; exact rfl, ?_⟩
     refine ⟨fun hr => absurd hr (by decide), fun i hi => ?_⟩
     have hi : i ∈ [5] := hi
     simp only [List.mem_cons, List.not_mem_nil, or_false] at hi
     subst hi
     refine ⟨_, by simp [stepAt, r187_5, t6, e2, w1]; exact rfl, ?_⟩
     refine ⟨fun hr => absurd hr (by decide), fun i hi => ?_⟩
     have hi : i ∈ [6] := hi
     simp only [List.mem_cons, List.not_mem_nil, or_false] at hi
     subst hi
     refine ⟨_, by simp [stepAt, r187_5, t6, e2, w1]; exact rfl, ?_⟩
     exact ⟨rfl, tree_twin (keys7 rfl rfl rfl rfl rfl rfl rfl (fun k a b c d e f g => by simp [tA, tB, upd, a, b, c, d, e, f, g])) rfl rfl⟩
   ·skip
    refine ⟨_, by simp [stepAt, r187_5, t6, e2, w1]; exact rfl, ?_⟩
    refine ⟨fun hr => absurd hr (by decide), fun i hi => ?_⟩
    have hi : i ∈ [0] := hi
    simp only [List.mem_cons, List.not_mem_nil, or_false] at hi
    subst hi
    refine ⟨_, by simp [stepAt, r187_5, t6, e2, w1]; exact rfl, ?_⟩
    refine ⟨fun hr => absurd hr (by decide), fun i hi => ?_⟩
    have hi : i ∈ [2] := hi
    simp only [List.mem_cons, List.not_mem_nil, or_false] at hi
    subst hi
    refine ⟨_, by simp [stepAt, r187_5, t6, e2, w1]; exact rfl, ?_⟩
    refine ⟨fun hr => absurd hr (by decide), fun i hi => ?_⟩
    have hi : i ∈ [5] := hi
    simp only [List.mem_cons, List.not_mem_nil, or_false] at hi
    subst hi
    refine ⟨_, by simp [stepAt, r187_5, t6, e2, w1]; exact rfl, ?_⟩
    refine ⟨fun hr => absurd hr (by decide), fun i hi => ?_⟩
    have hi : i ∈ [6] := hi
    simp only [List.mem_cons, List.not_mem_nil, or_false] at hi
    subst hi
    refine ⟨_, by simp [stepAt, r187_5, t6, e2, w1]; exact rfl, ?_⟩
    exact ⟨rfl, tree_twin (keys7 rfl rfl rfl rfl rfl rfl rfl (fun k a b c d e f g => by simp [tA, tB, upd, a, b, c, d, e, f, g])) rfl rfl⟩
  ·skip
   refine ⟨_, by simp [stepAt, r187_5, t6, e2, w1]; exact rfl, ?_⟩
   refine ⟨fun hr => absurd hr (by decide), fun i hi => ?_⟩
   have hi : i ∈ [0, 1] := hi
   simp only [List.mem_cons, List.not_mem_nil, or_false] at hi
   rcases hi with rfl | rfl
   ·skip
    refine ⟨_, by simp [stepAt, r187_5, t6, e2, w1]; exact rfl, ?_⟩
    refine ⟨fun hr => absurd hr (by decide), fun i hi => ?_⟩
    have hi : i ∈ [1] := hi
    simp only [List.mem_cons, List.not_mem_nil, or_false] at hi
    subst hi
    refine ⟨_, by simp [stepAt, r187_5, t6, e2, w1]; exact rfl, ?_⟩
    refine ⟨fun hr => absurd hr (by decide), fun i hi => ?_⟩
    have hi : i ∈ [2] := hi
    simp only [List.mem_cons, List.not_mem_nil, or_false] at hi
    subst hi
    refine ⟨_, by simp [stepAt, r187_5, t6, e2, w1]; exact rfl, ?_⟩
    refine ⟨fun hr => absurd hr (by decide), fun i hi => ?_⟩
    have hi : i ∈ [5] := hi
    simp only [List.mem_cons, List.not_mem_nil, or_false] at hi
    subst hi
    refine ⟨_, by simp [stepAt, r187_5, t6, e2, w1]; exact rfl, ?_⟩
    refine ⟨fun hr => absurd hr (by decide), fun i hi => ?_⟩
    have hi : i ∈ [6] := hi
    simp only [List.mem_cons, List.not_mem_nil, or_false] at hi
    subst hi
    refine ⟨_, by simp [stepAt, r187_5, t6, e2, w1]; exact rfl, ?_⟩
    exact ⟨rfl, tree_twin (keys7 rfl rfl rfl rfl rfl rfl rfl (fun k a b c d e f g => by simp [tA, tB, upd, a, b, c, d, e, f, g])) rfl rfl⟩
   ·skip
    refine ⟨_, by simp [stepAt, r187_5, t6, e2, w1]; exact rfl, ?_⟩
    refine ⟨fun hr => absurd hr (by decide), fun i hi => ?_⟩
    have hi : i ∈ [0] := hi
    simp only [List.mem_cons, List.not_mem_nil, or_false] at hi
    subst hi
    refine ⟨_, by simp [stepAt, r187_5, t6, e2, w1]; exact rfl, ?_⟩
    refine ⟨fun hr => absurd hr (by decide), fun i hi => ?_⟩
    have hi : i ∈ [2] := hi
    simp only [List.mem_cons, List.not_mem_nil, or_false] at hi
    subst hi
    refine ⟨_, by simp [stepAt, r187_5, t6, e2, w1]; exact rfl, ?_⟩
    refine ⟨fun hr => absurd hr (by decide), fun i hi => ?_⟩
    have hi : i ∈ [5] := hi
    simp only [List.mem_cons, List.not_mem_nil, or_false] at hi
    subst hi
    refine ⟨_, by simp [stepAt, r187_5, t6, e2, w1]; exact rfl, ?_⟩
    refine ⟨fun hr => absurd hr (by decide), fun i hi => ?_⟩
    have hi : i ∈ [6] := hi
    simp only [List.mem_cons, List.not_mem_nil, or_false] at hi
    subst hi
    refine ⟨_, by simp [stepAt, r187_5, t6, e2, w1]; exact rfl, ?_⟩
    exact ⟨rfl, tree_twin (keys7 rfl rfl rfl rfl rfl rfl rfl (fun k a b c d e f g => by simp [tA, tB, upd, a, b, c, d, e, f, g])) rfl rfl⟩

end Go.Proofs.YtpbngohpklpalaaGreat

/- What dominates in the graph of one block: the walk. -/
namespace Go.Proofs.YtpbngohpklpalaaGreat
open Go.LS Go.IntWalk
theorem tree_one (h : LS.Heap) : callD T 187 [.agg oneG, .int .i64 0] h = some (.lst .ro [[.int .i64 (-1)]], h) := by
 have e1 := order_run h
 unfold oneG at e1 ⊢
 have w1 : IntKind.i64.wrap 1 = 1 := rfl
 refine W_call t187 rfl rfl (by simp) ?_
 show W T c187 _ _
 unfold c187
 refine W_seq (W_ops (s1 := ?_) (by simp only [r187_0]; simp [a187, nextVer]; exact rfl) ?_)
 refine W_scope ?_
 refine W_seq (W_ops (s1 := ?_) (by simp only [r187_1]; simp [e1]; exact rfl) ?_)
 refine W_seq (W_seq (W_ops (s1 := ?_) (by simp only [r187_2]; simp; exact rfl) ?_))
 refine W_cond_f (by simp) (W_skip ?_)
 refine W_seq (W_ops (s1 := ?_) (by simp only [r187_4]; simp; exact rfl) ?_)
 refine W_seq (W_dops (tree_region (by simp)) ?_)
 have f1 : (hA h).objs h.next = some (.row [[.int .i64 (-2)]]) := by simp [hA, Heap.new, upd]
 have f2 : (hA h).objs (h.next + 1) = some (.row [[.int .i64 0]]) := by simp [hA, Heap.new, upd]
 have f3 : HExt h (hA h) := ⟨by simp [hA, Heap.new]; omega, fun id hid => by
  have a1 : id ≠ h.next := by omega
  have a2 : id ≠ h.next + 1 := by omega
  simp [hA, Heap.new, upd, a1, a2]⟩
 generalize hA h = h2 at f1 f2 f3
 simp only [tA]
 refine W_seq (W_seq (W_ops (s1 := ?_) (by simp only [r187_6]; simp; exact rfl) ?_))
 refine W_block (W_loop' l187_0.eq_1 ?_)
 refine W_seq (W_ops (s1 := ?_) (by simp only [r187_7]; simp; exact rfl) ?_)
 refine W_seq (W_cond_t (by simp) (W_skip ?_))
 refine W_seq (W_block (W_seq (W_ops (s1 := ?_) (by simp only [r187_8]; simp; exact rfl) ?_)))
 refine W_ops (s1 := ?_) (by simp only [r187_9]; simp [f2]; exact rfl) ?_
 repeat' (first | refine W_seq ?_ | refine W_skip ?_ | refine W_block ?_ | refine W_ret ?_ | refine W_exit ?_ | refine W_ops (s1 := ?_) (by simp [w1]; exact rfl) ?_ | refine W_tops (s1 := ?_) (by simp [w1]; exact rfl) ?_ | refine W_cond_t (by first | (simp [w1]; done) | fail) ?_ | refine W_cond_f (by first | (simp [w1]; done) | fail) ?_ | fail)
 refine W_loop' l187_0.eq_1 ?_
 repeat' (first | refine W_seq ?_ | refine W_skip ?_ | refine W_block ?_ | refine W_ret ?_ | refine W_exit ?_ | refine W_ops (s1 := ?_) (by simp [f1, Heap.set]; exact rfl) ?_ | refine W_tops (s1 := ?_) (by simp [f1, Heap.set]; exact rfl) ?_ | refine W_cond_t (by first | (simp [f1, Heap.set]; done) | fail) ?_ | refine W_cond_f (by first | (simp [f1, Heap.set]; done) | fail) ?_ | fail)
 refine W_label ?_
 repeat' (first | refine W_seq ?_ | refine W_skip ?_ | refine W_block ?_ | refine W_ret ?_ | refine W_exit ?_ | refine W_ops (s1 := ?_) (by simp [f1, Heap.set]; exact rfl) ?_ | refine W_tops (s1 := ?_) (by simp [f1, Heap.set]; exact rfl) ?_ | refine W_cond_t (by first | (simp [f1, Heap.set]; done) | fail) ?_ | refine W_cond_f (by first | (simp [f1, Heap.set]; done) | fail) ?_ | fail)
 refine W_loop' l187_1.eq_1 ?_
 repeat' (first | refine W_seq ?_ | refine W_skip ?_ | refine W_block ?_ | refine W_ret ?_ | refine W_exit ?_ | refine W_ops (s1 := ?_) (by simp [f1, Heap.set]; exact rfl) ?_ | refine W_tops (s1 := ?_) (by simp [f1, Heap.set]; exact rfl) ?_ | refine W_cond_t (by first | (simp [f1, Heap.set]; done) | fail) ?_ | refine W_cond_f (by first | (simp [f1, Heap.set]; done) | fail) ?_ | fail)
 refine W_ops (s1 := ?_) (by simp only [r187_28]; simp [freezeV, Heap.kill]; exact rfl) (W_ret ?_)
 refine ⟨(fun l e => by cases e), .inr rfl, [.lst .ro [[.int .i64 (-1)]]], by simp [a187, resV, resV1], by simp [a187, packV], rfl, f3.1, fun id hid => ?_⟩
 have a1 : id ≠ h.next := by omega
 have a2 : id ≠ h.next + 1 := by omega
 simp only [upd, a1, a2, if_false]
 exact f3.2 id hid

end Go.Proofs.YtpbngohpklpalaaGreat

/- The checker of a straight function: the blocks fit; nothing is wrong. -/
namespace Go.Proofs.YtpbngohpklpalaaGreat
open Go.LS Go.IntWalk
def TreeOne : Prop := ∀ h, callD T 187 [.agg oneG, .int .i64 0] h = some (.lst .ro [[.int .i64 (-1)]], h)
theorem shape_run (hTree : TreeOne) (x : Straight) (c : Nat) (h : LS.Heap) (hcn : c < h.next) {succ pred tree : List (List V)} {ts tp tt : Tag} (hc : h.objs c = some (.var (chkC x.f succ pred tree ts tp tt none))) :
  ∃ h', callD T 167 [.obj c 0] h = some (.int .i64 0, h') ∧ h'.next = h.next ∧ h'.objs c = some (.var (chkC x.f [[.lst .nil []]] [[.lst .ro []]] [[.int .i64 (-1)]] .ro .ro .ro none)) ∧ ∀ id, id ≠ c → h'.objs id = h.objs id := by
 have hcC : ∀ succ pred tree ts tp tt m, chkC x.f succ pred tree ts tp tt m = [.lst .ro (x.ps.map intC), .int .i64 x.ret, .lst .ro [[.lst .ro [], .lst .ro (x.ops.map OpD.c), .int .i64 0, .int .i64 x.arg, .lst .ro []]], .int .i64 2, .lst ts succ, .lst tp pred, .lst tt tree, .map m] := fun _ _ _ _ _ _ _ => rfl
 have e1 := of_graph (x.ps.map intC) x.ret (x.ops.map OpD.c) x.arg (by simp) (by simp) h
 have e2 := hTree h
 have e3 := fun h1 : LS.Heap => over_run .ro h1
 unfold oneG at e2
 rw [hcC] at hc
 refine W_callE t167 rfl rfl (by simp) ?_
 show W T c167 _ _
 unfold c167
 refine W_seq (W_ops (s1 := ?_) (by simp only [r167_0]; simp [a167]; exact rfl) ?_)
 refine W_seq (W_ops (s1 := ?_) (by simp only [r167_1]; simp [hc, e1, nextVer]; exact rfl) ?_)
 repeat' (first | refine W_seq ?_ | refine W_skip ?_ | refine W_block ?_ | refine W_ret ?_ | refine W_exit ?_ | refine W_ops (s1 := ?_) (by simp [hc, e2, Heap.set]; exact rfl) ?_ | refine W_tops (s1 := ?_) (by simp [hc, e2, Heap.set]; exact rfl) ?_ | refine W_cond_t (by first | (simp [hc, e2, Heap.set]; done) | fail) ?_ | refine W_cond_f (by first | (simp [hc, e2, Heap.set]; done) | fail) ?_ | fail)
 generalize hH : LS.Heap.mk _ _ = h1
 have hc1 : h1.objs c = some (.var (chkC x.f [[.lst .nil []]] [[.lst .ro []]] [[.int .i64 (-1)]] .ro .ro .ro none)) := by rw [← hH]; simp [upd, hcC]
 have hn1 : h1.next = h.next := by rw [← hH]
 have ho1 : ∀ id, id ≠ c → h1.objs id = h.objs id := fun id hid => by rw [← hH]; simp [upd, hid]
 clear hH
 rw [hcC] at hc1
 repeat' (first | refine W_seq ?_ | refine W_skip ?_ | refine W_block ?_ | refine W_ret ?_ | refine W_exit ?_ | refine W_ops (s1 := ?_) (by simp [hc1]; exact rfl) ?_ | refine W_tops (s1 := ?_) (by simp [hc1]; exact rfl) ?_ | refine W_cond_t (by first | (simp [hc1]; done) | fail) ?_ | refine W_cond_f (by first | (simp [hc1]; done) | fail) ?_ | fail)
 refine W_loop' l167_0.eq_1 ?_
 repeat' (first | refine W_seq ?_ | refine W_skip ?_ | refine W_block ?_ | refine W_ret ?_ | refine W_exit ?_ | refine W_ops (s1 := ?_) (by simp [hc1, e3, w1]; exact rfl) ?_ | refine W_tops (s1 := ?_) (by simp [hc1, e3, w1]; exact rfl) ?_ | refine W_cond_t (by first | (simp [hc1, e3, w1]; done) | fail) ?_ | refine W_cond_f (by first | (simp [hc1, e3, w1]; done) | fail) ?_ | fail)
 refine W_loop' l167_1.eq_1 ?_
 repeat' (first | refine W_seq ?_ | refine W_skip ?_ | refine W_block ?_ | refine W_ret ?_ | refine W_exit ?_ | refine W_ops (s1 := ?_) (by simp [hc1, w1]; exact rfl) ?_ | refine W_tops (s1 := ?_) (by simp [hc1, w1]; exact rfl) ?_ | refine W_cond_t (by first | (simp [hc1, w1]; done) | fail) ?_ | refine W_cond_f (by first | (simp [hc1, w1]; done) | fail) ?_ | fail)
 refine W_loop' l167_0.eq_1 ?_
 repeat' (first | refine W_seq ?_ | refine W_skip ?_ | refine W_block ?_ | refine W_ret ?_ | refine W_exit ?_ | refine W_ops (s1 := ?_) (by simp; exact rfl) ?_ | refine W_tops (s1 := ?_) (by simp; exact rfl) ?_ | refine W_cond_t (by first | (simp; done) | fail) ?_ | refine W_cond_f (by first | (simp; done) | fail) ?_ | fail)
 exact ⟨.inr rfl, [.int .i64 0], by simp [a167, resV, resV1], by simp [a167, packV], hn1, hc1, ho1⟩
structure Straight.Right (x : Straight) : Prop where
 fit : x.f.Fit
 tells : x.f.tells = true
 takes : ∀ o ∈ x.ops, TakesOK o
 ret : widthB x.ret = true
 ps : ∀ p ∈ x.ps, widthB p = true
 ops : ∀ o ∈ x.ops, mayOp o = true
 once : ∀ k (hk : k < x.ops.length), 0 < (giveM x.ops[k]).1 → Do x k x.ops[k].dst = none
 uses : ∀ k (hk : k < x.ops.length) j (hj : j < (takeL x.ops[k]).length), ∃ v d, x.ops[k].args[j]? = some v ∧ x.D v = some d ∧ d.bits = (takeL x.ops[k])[j].1 ∧ d.lanes = (takeL x.ops[k])[j].2 ∧ (d.block < 0 ∨ (d.block = 0 ∧ d.at_ < k))
 last : ∃ d, x.D x.arg = some d ∧ d.bits = x.ret ∧ d.lanes = 1 ∧ (d.block < 0 ∨ (d.block = 0 ∧ d.at_ < 1048576))
theorem width_ne {n : Int} (h : widthB n = true) : n ≠ 0 := by
 have := width_cases h
 omega
theorem look_run (hTree : TreeOne) (x : Straight) (R : x.Right) (h : LS.Heap) :
  ∃ h' m, callD T 118 [.agg x.f.c, .int .i64 2] h = some (.tup [.obj h.next 0, .int .i64 0], h') ∧ HExt h h' ∧ h.next < m ∧ m < h'.next ∧
   (∃ l1 l2 l3 l4 l5 l6 l7, h'.objs h.next = some (.var [l1, l2, l3, l4, l5, l6, l7, .map (some m)])) ∧ h'.objs m = some (.map .i64 (defsV x.D)) := by
 have hcC : ∀ succ pred tree ts tp tt m, chkC x.f succ pred tree ts tp tt m = [.lst .ro (x.ps.map intC), .int .i64 x.ret, .lst .ro [[.lst .ro [], .lst .ro (x.ops.map OpD.c), .int .i64 0, .int .i64 x.arg, .lst .ro []]], .int .i64 2, .lst ts succ, .lst tp pred, .lst tt tree, .map m] := fun _ _ _ _ _ _ _ => rfl
 have hfc : x.f.c = [.lst .ro (x.ps.map intC), .int .i64 x.ret, .lst .ro [[.lst .ro [], .lst .ro (x.ops.map OpD.c), .int .i64 0, .int .i64 x.arg, .lst .ro []]]] := rfl
 have hret := width_ne R.ret
 -- the checker
 obtain ⟨h1, hh1⟩ : ∃ h1, h.new (.var (chkC x.f [] [] [] .nil .nil .nil none)) = h1 := ⟨_, rfl⟩
 have c1 : h1.objs h.next = some (.var (chkC x.f [] [] [] .nil .nil .nil none)) := by rw [← hh1]; exact new_objs_new _ _
 have n1 : h1.next = h.next + 1 := by rw [← hh1]; rfl
 have x1 : HExt h h1 := by rw [← hh1]; exact .new _ _
 have e0 := codeMay_run x.f R.fit h1
 rw [R.tells] at e0
 obtain ⟨h2, e1, n2, c2, o2⟩ := shape_run hTree x h.next h1 (by omega) c1
 have e2 := typed_run x h.next h2 (by omega) c2 R.fit R.takes R.ret R.ps R.ops
 have c3 := (new_objs_old (h := h2) (o := .var [.obj h.next 0]) (id := h.next) (by omega)).trans c2
 obtain ⟨h4, e3, n4, c4, m4, o4⟩ := defined_run x h.next (h2.new (.var [.obj h.next 0])) (by simp only [Heap.new]; omega) c3 R.fit R.takes hret R.once
  (fun k hk j hj => let ⟨v, d, q1, q2, _⟩ := R.uses k hk j hj; ⟨v, d, q1, q2⟩) (let ⟨d, q1, _⟩ := R.last; ⟨d, q1⟩)
 have n3 : (h2.new (.var [.obj h.next 0])).next = h.next + 2 := by simp only [Heap.new]; omega
 rw [n3] at n4 c4 m4
 obtain ⟨h5, e4, x5⟩ := shapes_run x h.next (h.next + 2 + 1) h4 (by omega) (by omega) c4 m4 R.fit R.takes hret
  (fun k hk j hj => let ⟨v, d, q1, q2, q3, q4, _⟩ := R.uses k hk j hj; ⟨v, d, q1, q2, q3, q4⟩) (let ⟨d, q1, q2, q3, _⟩ := R.last; ⟨d, q1, q2, q3⟩)
 have c5 := (x5.2 h.next (by omega)).trans c4
 have m5 := (x5.2 (h.next + 2 + 1) (by omega)).trans m4
 obtain ⟨h6, e5, x6⟩ := places_run x h.next (h.next + 2 + 1) h5 (by have := x5.1; omega) (by have := x5.1; omega) c5 m5 R.fit R.takes hret
  (fun k hk j hj => let ⟨v, d, q1, q2, q3, q4, q5⟩ := R.uses k hk j hj; ⟨v, d, q1, q2, q5⟩) (let ⟨d, q1, q2, q3, q4⟩ := R.last; ⟨d, q1, q4⟩)
 have c6 := (x6.2 h.next (by have := x5.1; omega)).trans c5
 have m6 := (x6.2 (h.next + 2 + 1) (by have := x5.1; omega)).trans m5
 have hx : HExt h h6 := by
  refine ⟨by have := x5.1; have := x6.1; omega, fun id hid => ?_⟩
  rw [x6.2 id (by have := x5.1; omega), x5.2 id (by omega), o4 id (by rw [n3]; omega) (by omega), new_objs_old (by omega), o2 id (by omega), x1.2 id hid]
 rw [hfc] at e0
 refine ⟨h6, h.next + 2 + 1, ?_, hx, by omega, by have := x5.1; have := x6.1; omega, ⟨_, _, _, _, _, _, _, c6⟩, m6⟩
 rw [hfc]
 rw [hcC] at hh1
 have w2 : IntKind.i64.wrap 2 = 2 := i64_in _ (by omega)
 have w3 : IntKind.i64.wrap 3 = 3 := i64_in _ (by omega)
 have w4 : IntKind.i64.wrap 4 = 4 := i64_in _ (by omega)
 have w5 : IntKind.i64.wrap 5 = 5 := i64_in _ (by omega)
 refine W_callH t118 rfl rfl (by simp) ?_
 show W T c118 _ _
 unfold c118
 refine W_seq (W_ops (s1 := ?_) (by simp only [r118_0]; simp [a118, nextVer]; exact rfl) ?_)
 refine W_seq (W_ops (s1 := ?_) (by simp only [r118_1]; simp [hh1]; exact rfl) ?_)
 repeat' (first | refine W_seq ?_ | refine W_skip ?_ | refine W_block ?_ | refine W_ret ?_ | refine W_exit ?_ | refine W_ops (s1 := ?_) (by simp [e0]; exact rfl) ?_ | refine W_tops (s1 := ?_) (by simp [e0]; exact rfl) ?_ | refine W_cond_t (by first | (simp [e0]; done) | fail) ?_ | refine W_cond_f (by first | (simp [e0]; done) | fail) ?_ | fail)
 refine W_loop' l118_0.eq_1 ?_
 repeat' (first | refine W_seq ?_ | refine W_skip ?_ | refine W_block ?_ | refine W_ret ?_ | refine W_exit ?_ | refine W_ops (s1 := ?_) (by simp [e1, w1]; exact rfl) ?_ | refine W_tops (s1 := ?_) (by simp [e1, w1]; exact rfl) ?_ | refine W_cond_t (by first | (simp [e1, w1]; done) | fail) ?_ | refine W_cond_f (by first | (simp [e1, w1]; done) | fail) ?_ | fail)
 refine W_loop' l118_0.eq_1 ?_
 repeat' (first | refine W_seq ?_ | refine W_skip ?_ | refine W_block ?_ | refine W_ret ?_ | refine W_exit ?_ | refine W_ops (s1 := ?_) (by simp [e2, w2]; exact rfl) ?_ | refine W_tops (s1 := ?_) (by simp [e2, w2]; exact rfl) ?_ | refine W_cond_t (by first | (simp [e2, w2]; done) | fail) ?_ | refine W_cond_f (by first | (simp [e2, w2]; done) | fail) ?_ | fail)
 refine W_loop' l118_0.eq_1 ?_
 repeat' (first | refine W_seq ?_ | refine W_skip ?_ | refine W_block ?_ | refine W_ret ?_ | refine W_exit ?_ | refine W_ops (s1 := ?_) (by simp [e3, w3]; exact rfl) ?_ | refine W_tops (s1 := ?_) (by simp [e3, w3]; exact rfl) ?_ | refine W_cond_t (by first | (simp [e3, w3]; done) | fail) ?_ | refine W_cond_f (by first | (simp [e3, w3]; done) | fail) ?_ | fail)
 refine W_loop' l118_0.eq_1 ?_
 repeat' (first | refine W_seq ?_ | refine W_skip ?_ | refine W_block ?_ | refine W_ret ?_ | refine W_exit ?_ | refine W_ops (s1 := ?_) (by simp [e4, w4]; exact rfl) ?_ | refine W_tops (s1 := ?_) (by simp [e4, w4]; exact rfl) ?_ | refine W_cond_t (by first | (simp [e4, w4]; done) | fail) ?_ | refine W_cond_f (by first | (simp [e4, w4]; done) | fail) ?_ | fail)
 refine W_loop' l118_0.eq_1 ?_
 repeat' (first | refine W_seq ?_ | refine W_skip ?_ | refine W_block ?_ | refine W_ret ?_ | refine W_exit ?_ | refine W_ops (s1 := ?_) (by simp [e5, w5]; exact rfl) ?_ | refine W_tops (s1 := ?_) (by simp [e5, w5]; exact rfl) ?_ | refine W_cond_t (by first | (simp [e5, w5]; done) | fail) ?_ | refine W_cond_f (by first | (simp [e5, w5]; done) | fail) ?_ | fail)
 refine W_loop' l118_0.eq_1 ?_
 repeat' (first | refine W_seq ?_ | refine W_skip ?_ | refine W_block ?_ | refine W_ret ?_ | refine W_exit ?_ | refine W_ops (s1 := ?_) (by simp; exact rfl) ?_ | refine W_tops (s1 := ?_) (by simp; exact rfl) ?_ | refine W_cond_t (by first | (simp; done) | fail) ?_ | refine W_cond_f (by first | (simp; done) | fail) ?_ | fail)
 exact ⟨.inr rfl, [.obj h.next 0, .int .i64 0], by simp [a118, resV, resV1], by simp [a118, packV], rfl⟩

end Go.Proofs.YtpbngohpklpalaaGreat

/- The shapes of a straight function that is right. -/
namespace Go.Proofs.YtpbngohpklpalaaGreat
open Go.LS Go.IntWalk
def DefD.sh (d : DefD) : V := .agg [.int .i64 d.bits, .int .i64 d.lanes]
def shapesV (D : Int → Option DefD) : Int → Option V := fun j => (D j).map DefD.sh
theorem dead_shapes {i : Nat} (h : deadR 21 22 23 r57_7 i = false) : i ≠ 21 ∧ i ≠ 22 ∧ i ≠ 23 ∧ i ≠ 24 ∧ i ≠ 25 ∧ i ≠ 7 ∧ i ≠ 6 ∧ i ≠ 26 ∧ i ≠ 27 ∧ i ≠ 28 ∧ i ≠ 29 := by
 simp [deadR, r57_7] at h
 omega
theorem shapes_rounds {s0 : St} {m2 it m : Nat} {D : Int → Option DefD} (h5 : s0.t 5 = .map (some m2)) (h20 : s0.t 20 = .obj it 0) (l7 : s0.loc 7 = none) :
  ∀ (ks vis : List Int) (s : St), (∀ n ∈ ks, D n ≠ none) → s.t 20 = .obj it 0 → (∀ i, deadR 21 22 23 r57_7 i = false → s.t i = s0.t i) → (∀ sl c, s0.loc sl = some c → s.loc sl = some c) →
   s.h = s0.h.set m2 (.map .i64 (fun j => if j ∈ vis then (D j).map DefD.sh else none)) →
   rangeRun m .i64 (defsV D) it 20 21 22 23 r57_7 s0 ks s = some ⟨fun i => if i = 22 then .bool false else if deadR 21 22 23 r57_7 i then .undef else s0.t i, s0.loc,
    (s0.h.set m2 (.map .i64 (fun j => if j ∈ vis ++ ks then (D j).map DefD.sh else none))).set m (.map .i64 (defsV D))⟩
 | [], vis, s, _, ht, hd, hl, hh => by
  simp only [rangeRun]
  rw [if_pos ⟨ht, hd, hl⟩, hh, List.append_nil]
 | n :: ks, vis, s, hk, ht, hd, hl, hh => by
  obtain ⟨d, hdn⟩ : ∃ d, D n = some d := by
   cases hq : D n with
   | none => exact absurd hq (hk n (List.mem_cons_self ..))
   | some d => exact ⟨d, rfl⟩
  have hv : defsV D n = some (.agg [.int .i64 d.block, .int .i64 d.at_, .int .i64 d.bits, .int .i64 d.lanes]) := by simp [defsV, hdn, DefD.v]
  have t5 : s.t 5 = .map (some m2) := by rw [hd 5 (by rfl)]; exact h5
  obtain ⟨t, loc, h⟩ := s
  simp only at ht hd hl hh t5
  have hob : h.objs m2 = some (.map .i64 (fun j => if j ∈ vis then (D j).map DefD.sh else none)) := by rw [hh]; simp [Heap.set, upd]
  have hset : h.set m2 (.map .i64 (fun j => if j = n then some (.agg [.int .i64 d.bits, .int .i64 d.lanes]) else if j ∈ vis then (D j).map DefD.sh else none)) = s0.h.set m2 (.map .i64 (fun j => if j ∈ vis ++ [n] then (D j).map DefD.sh else none)) := by
   rw [hh]
   simp only [Heap.set]
   congr 1
   funext i
   simp only [upd]
   split
   ·congr 2
    funext j
    by_cases e : j = n
    ·subst e; simp [hdn, DefD.sh]
    ·simp [e]
   ·rfl
  have hrun : ∃ s', runOps (fun _ _ _ => none) r57_7 ⟨upd (upd (upd t 21 .undef) 22 (.bool true)) 23 (.tup [.int .i64 n, .agg [.int .i64 d.block, .int .i64 d.at_, .int .i64 d.bits, .int .i64 d.lanes]]), loc, h⟩ = some s' ∧
    s'.t 20 = .obj it 0 ∧ (∀ i, deadR 21 22 23 r57_7 i = false → s'.t i = s0.t i) ∧ (∀ sl c, s0.loc sl = some c → s'.loc sl = some c) ∧ s'.h = s0.h.set m2 (.map .i64 (fun j => if j ∈ vis ++ [n] then (D j).map DefD.sh else none)) := by
   refine ⟨_, by simp only [r57_7]; simp [t5, hob]; exact rfl, by simp [ht], fun i hi => ?_, fun sl c hc => ?_, hset⟩
   ·obtain ⟨q1, q2, q3, q4, q5, q6, q7, q8, q9, q10, q11⟩ := dead_shapes hi
    simp [q1, q2, q3, q4, q5, q6, q7, q8, q9, q10, q11, hd i hi]
   ·have q : sl ≠ 7 := fun e => by rw [e, l7] at hc; cases hc
    simp [q, hl sl c hc]
  obtain ⟨s', r1, r2, r3, r4, r5⟩ := hrun
  simp only [rangeRun]
  rw [if_pos ht]
  simp only [hv, r1]
  rw [shapes_rounds h5 h20 l7 ks (vis ++ [n]) s' (fun j hj => hk j (List.mem_cons_of_mem _ hj)) r2 r3 r4 r5]
  simp
theorem Dp_enum (ps : List Int) : ∀ i, ∃ ks, Enum (defsV (Dp ps i)) ks
 | 0 => ⟨[], Enum.nil⟩
 | i + 1 => by
  obtain ⟨ks, h⟩ := Dp_enum ps i
  refine ⟨((i : Int) + 1) :: ks, ?_⟩
  have := Enum.cons h (v := (i : Int) + 1) (d := DefD.v ⟨-1, 0, ps.getD i 0, 1⟩) (by simp [defsV, Dp_none ps i _ (by omega : (i : Int) < (i : Int) + 1)])
  have e : defsV (Dp ps (i + 1)) = fun j => if j = (i : Int) + 1 then some (DefD.v ⟨-1, 0, ps.getD i 0, 1⟩) else defsV (Dp ps i) j := by
   funext j
   simp only [defsV, Dp]
   split <;> rfl
  rw [e]; exact this
theorem Do_enum (x : Straight) (honce : ∀ k (hk : k < x.ops.length), 0 < (giveM x.ops[k]).1 → Do x k x.ops[k].dst = none) : ∀ k, k ≤ x.ops.length → ∃ ks, Enum (defsV (Do x k)) ks
 | 0, _ => Dp_enum _ _
 | k + 1, hk => by
  obtain ⟨ks, h⟩ := Do_enum x honce k (by omega)
  have hk' : k < x.ops.length := by omega
  by_cases hg : 0 < (giveM x.ops[k]).1
  ·have e : Do x (k + 1) = fun j => if j = x.ops[k].dst then some ⟨0, k, (giveM x.ops[k]).1, (giveM x.ops[k]).2⟩ else Do x k j := by simp [Do, hk', hg]
   refine ⟨x.ops[k].dst :: ks, ?_⟩
   have := Enum.cons h (v := x.ops[k].dst) (d := DefD.v ⟨0, k, (giveM x.ops[k]).1, (giveM x.ops[k]).2⟩) (by simp [defsV, honce k hk' hg])
   have e2 : defsV (Do x (k + 1)) = fun j => if j = x.ops[k].dst then some (DefD.v ⟨0, k, (giveM x.ops[k]).1, (giveM x.ops[k]).2⟩) else defsV (Do x k) j := by
    rw [e]
    funext j
    simp only [defsV]
    split <;> rfl
   rw [e2]; exact this
  ·have e : Do x (k + 1) = Do x k := by simp [Do, hk', hg]
   exact ⟨ks, by rw [e]; exact h⟩
theorem Shapes_run (hTree : TreeOne) (x : Straight) (R : x.Right) (h : LS.Heap) :
  ∃ h' m, callD T 57 [.agg x.f.c] h = some (.map (some m), h') ∧ HExt h h' ∧ h.next ≤ m ∧ m < h'.next ∧ h'.objs m = some (.map .i64 (shapesV x.D)) := by
 have hfc : x.f.c = [.lst .ro (x.ps.map intC), .int .i64 x.ret, .lst .ro [[.lst .ro [], .lst .ro (x.ops.map OpD.c), .int .i64 0, .int .i64 x.arg, .lst .ro []]]] := rfl
 obtain ⟨h1, m, e1, x1, g1, g2, ⟨l1, l2, l3, l4, l5, l6, l7, c1⟩, m1⟩ := look_run hTree x R h
 obtain ⟨ks0, hks0⟩ := Do_enum x R.once x.ops.length (Nat.le_refl _)
 have key : ∀ h' : LS.Heap, True := fun _ => trivial
 suffices hw : ∃ h', callD T 57 [.agg x.f.c] h = some (.map (some h1.next), h') ∧ (HExt h h' ∧ h1.next < h'.next ∧ h'.objs h1.next = some (.map .i64 (shapesV x.D))) by
  obtain ⟨h', q1, q2, q3, q4⟩ := hw
  exact ⟨h', h1.next, q1, q2, x1.1, q3, q4⟩
 rw [hfc] at e1 ⊢
 have hne : h.next ≠ h1.next := by omega
 have hnm : m ≠ h1.next := by omega
 refine W_callE t57 rfl rfl (by simp) ?_
 show W T c57 _ _
 unfold c57
 refine W_seq (W_ops (s1 := ?_) (by simp only [r57_0]; simp [a57, nextVer]; exact rfl) ?_)
 refine W_seq (W_ops (s1 := ?_) (by simp only [r57_1]; simp [e1]; exact rfl) ?_)
 repeat' (first | refine W_seq ?_ | refine W_skip ?_ | refine W_block ?_ | refine W_ret ?_ | refine W_exit ?_ | refine W_ops (s1 := ?_) (by simp; exact rfl) ?_ | refine W_tops (s1 := ?_) (by simp; exact rfl) ?_ | refine W_cond_t (by first | (simp; done) | fail) ?_ | refine W_cond_f (by first | (simp; done) | fail) ?_ | fail)
 generalize hS : (St.mk (upd _ _ _) _ _ : St) = sA
 have hpre : ∃ s1, runOps (callD T) r57_5 sA = some s1 ∧ s1.t 19 = .map (some m) ∧ s1.t 5 = .map (some h1.next) ∧ s1.loc 7 = none ∧ s1.h = h1.new (.map .i64 fun _ => none) := by
  rw [← hS]
  refine ⟨_, by simp only [r57_5]; simp [Heap.new, hne, c1]; exact rfl, by simp, by simp, by simp, by simp [Heap.new]⟩
 clear hS
 obtain ⟨s1, p1, p2, p3, p4, p5⟩ := hpre
 have hm1 : s1.h.objs m = some (.map .i64 (defsV x.D)) := by rw [p5, new_objs_old g2]; exact m1
 have hm2 : s1.h.objs h1.next = some (.map .i64 fun _ => none) := by rw [p5]; exact new_objs_new _ _
 refine W_rangeM p1 (m := .t 19) p2 hm1 ⟨ks0, hks0⟩ (s2 := ⟨fun i => if i = 22 then .bool false else if deadR 21 22 23 r57_7 i then .undef else (rangeSt m 20 s1).t i, s1.loc,
  ((rangeSt m 20 s1).h.set h1.next (.map .i64 (shapesV x.D))).set m (.map .i64 (defsV x.D))⟩) (fun ks hks => ?_) ?_
 ·have hk : ∀ n ∈ ks, x.D n ≠ none := fun n hn h0 => (hks.2 n).1 hn (by simp [defsV, h0])
  have hstart : (rangeSt m 20 s1).h = (rangeSt m 20 s1).h.set h1.next (.map .i64 (fun j => if j ∈ ([] : List Int) then (x.D j).map DefD.sh else none)) := by
   have : (rangeSt m 20 s1).h.objs h1.next = some (.map .i64 fun _ => none) := by
    simp only [rangeSt, Heap.kill, upd]
    rw [if_neg (Ne.symm hnm)]
    exact hm2
   unfold Heap.set
   have e : upd (rangeSt m 20 s1).h.objs h1.next (some (.map .i64 (fun j => if j ∈ ([] : List Int) then (x.D j).map DefD.sh else none))) = (rangeSt m 20 s1).h.objs := by
    funext i
    simp only [upd]
    split
    ·rename_i hi; subst hi; rw [this]; simp
    ·rfl
   rw [e]
  have := shapes_rounds (s0 := rangeSt m 20 s1) (m2 := h1.next) (it := s1.h.next) (m := m) (D := x.D) (by simp [rangeSt, p3]) (by simp [rangeSt]) (by simp [rangeSt, p4]) ks [] (rangeSt m 20 s1) hk (by simp [rangeSt]) (fun _ _ => rfl) (fun _ _ h => h) hstart
  rw [this]
  have hfun : (fun j => if j ∈ ([] : List Int) ++ ks then (x.D j).map DefD.sh else none) = shapesV x.D := by
   funext j
   simp only [List.nil_append, shapesV]
   split
   ·rfl
   ·rename_i hj
    cases hq : x.D j with
    | none => rfl
    | some d => exact absurd ((hks.2 j).2 (by simp [defsV, hq])) hj
  rw [hfun]
  rfl
 ·have hd5 : deadR 21 22 23 r57_7 5 = false := rfl
  generalize deadR 21 22 23 r57_7 = dd at hd5 ⊢
  repeat' (first | refine W_seq ?_ | refine W_skip ?_ | refine W_block ?_ | refine W_ret ?_ | refine W_exit ?_ | refine W_ops (s1 := ?_) (by simp; exact rfl) ?_ | refine W_tops (s1 := ?_) (by simp; exact rfl) ?_ | refine W_cond_t (by first | (simp; done) | fail) ?_ | refine W_cond_f (by first | (simp; done) | fail) ?_ | fail)
  have hn1 : s1.h.next = h1.next + 1 := by rw [p5]; rfl
  refine ⟨.inr rfl, [.map (some h1.next)], ?_, by simp [a57, packV], ⟨?_, fun id hid => ?_⟩, ?_, ?_⟩
  ·simp [a57, resV, resV1, hd5, rangeSt, p3]
  ·have := x1.1
   simp only [Heap.set, rangeSt]
   omega
  ·have q1 : id ≠ m := by omega
   have q2 : id ≠ h1.next := by omega
   have q3 : id < h1.next := by have := x1.1; omega
   simp only [Heap.set, rangeSt, Heap.kill, upd, q1, q2, if_false]
   rw [p5, new_objs_old q3, x1.2 id hid]
  ·simp only [Heap.set, rangeSt]
   omega
  ·simp only [Heap.set, upd, Ne.symm hnm, if_false, if_true]

end Go.Proofs.YtpbngohpklpalaaGreat

/- Finding forms: each value's form, by its operation. -/
namespace Go.Proofs.YtpbngohpklpalaaGreat
open Go.LS Go.IntWalk
abbrev FormD := List (Int × Int) × Int
def ownF (v : Int) : FormD := ([(v, 1)], 0)
def shlU (n : Int) : Int := IntKind.u64.wrap (1 * 2 ^ min n.toNat 64)
def twoF (k : Int) (A B : FormD) : Option FormD :=
 if k = 1 then some (plusM A.1 B.1 A.2 B.2)
 else if k = 2 then some (minusM A.1 B.1 A.2 B.2)
 else if k = 3 ∧ B.1 = [] then some (timesM A.1 A.2 B.2)
 else if k = 3 ∧ A.1 = [] then some (timesM B.1 B.2 A.2)
 else if k = 8 ∧ B.1 = [] ∧ B.2 < 64 then some (timesM A.1 A.2 (shlU B.2))
 else none
def capF (v : Int) : Option FormD → FormD
 | none => ownF v
 | some F => if 16 < F.1.length then ownF v else F
inductive FormOf (O : Int → Option OpD) : Int → FormD → Prop
 | none {v : Int} (h : O v = none) : FormOf O v (ownF v)
 | narrow {v : Int} {o : OpD} (h : O v = some o) (hn : o.bits ≠ 64 ∨ o.lanes ≠ 1) : FormOf O v (ownF v)
 | const {v : Int} {o : OpD} (h : O v = some o) (hb : o.bits = 64) (hl : o.lanes = 1) (hk : o.kind = 0) : FormOf O v ([], o.imm)
 | other {v : Int} {o : OpD} (h : O v = some o) (hb : o.bits = 64) (hl : o.lanes = 1) (h0 : o.kind ≠ 0) (hk : o.kind < 1 ∨ 8 < o.kind) : FormOf O v (ownF v)
 | two {v : Int} {o : OpD} {a b : Int} {rest : List Int} {A B : FormD} (h : O v = some o) (hb : o.bits = 64) (hl : o.lanes = 1) (hk1 : 1 ≤ o.kind) (hk2 : o.kind ≤ 8) (ha : o.args = a :: b :: rest) (hA : FormOf O a A) (hB : FormOf O b B) :
   FormOf O v (capF v (twoF o.kind A B))
theorem FormOf.short {O : Int → Option OpD} {v : Int} {F : FormD} (h : FormOf O v F) : F.1.length ≤ 16 := by
 cases h with
 | two =>
  unfold capF
  split
  ·simp [ownF]
  ·split
   ·simp [ownF]
   ·omega
 | _ => simp [ownF]
theorem FormOf.unique {O : Int → Option OpD} {v : Int} {F : FormD} (h : FormOf O v F) : ∀ {G : FormD}, FormOf O v G → F = G := by
 induction h with
 | none h =>
  intro G g
  cases g with
  | none _ => rfl
  | narrow h' _ => exact absurd (h.symm.trans h') (by simp)
  | const h' _ _ _ => exact absurd (h.symm.trans h') (by simp)
  | other h' _ _ _ _ => exact absurd (h.symm.trans h') (by simp)
  | two h' _ _ _ _ _ _ _ => exact absurd (h.symm.trans h') (by simp)
 | narrow h hn =>
  intro G g
  cases g with
  | none h' => exact absurd (h.symm.trans h') (by simp)
  | narrow h' _ => rfl
  | const h' hb hl _ => rw [h] at h'; injection h' with h'; subst h'; omega
  | other h' hb hl _ _ => rfl
  | two h' hb hl _ _ _ _ _ => rw [h] at h'; injection h' with h'; subst h'; omega
 | const h hb hl hk =>
  intro G g
  cases g with
  | none h' => exact absurd (h.symm.trans h') (by simp)
  | narrow h' hn => rw [h] at h'; injection h' with h'; subst h'; omega
  | const h' _ _ _ => rw [h] at h'; injection h' with h'; subst h'; rfl
  | other h' _ _ h0 _ => rw [h] at h'; injection h' with h'; subst h'; exact absurd hk h0
  | two h' _ _ k1 _ _ _ _ => rw [h] at h'; injection h' with h'; subst h'; omega
 | other h hb hl h0 hk =>
  intro G g
  cases g with
  | none h' => exact absurd (h.symm.trans h') (by simp)
  | narrow h' hn => rfl
  | const h' _ _ k => rw [h] at h'; injection h' with h'; subst h'; exact absurd k h0
  | other h' _ _ _ _ => rfl
  | two h' _ _ k1 k2 _ _ _ => rw [h] at h'; injection h' with h'; subst h'; omega
 | two h hb hl k1 k2 ha hA hB ihA ihB =>
  intro G g
  cases g with
  | none h' => exact absurd (h.symm.trans h') (by simp)
  | narrow h' hn => rw [h] at h'; injection h' with h'; subst h'; omega
  | const h' _ _ k => rw [h] at h'; injection h' with h'; subst h'; omega
  | other h' _ _ _ k => rw [h] at h'; injection h' with h'; subst h'; omega
  | two h' _ _ _ _ ha' hA' hB' =>
   rw [h] at h'
   injection h' with h'
   subst h'
   rw [ha] at ha'
   injection ha' with e1 e2
   injection e2 with e2 e3
   subst e1 e2
   rw [ihA hA', ihB hB']
def formV (F : FormD) : V := .agg [.lst .ro (terms F.1), .int .u64 F.2]
def opsV (O : Int → Option OpD) : Int → Option V := fun j => (O j).map fun o => .agg o.c
def formsV (Φ : Int → Option FormD) : Int → Option V := fun j => (Φ j).map formV
structure Finds (h : LS.Heap) (c m1 m2 : Nat) (O : Int → Option OpD) (Φ : Int → Option FormD) : Prop where
 obj : h.objs c = some (.var [.map (some m1), .map (some m2)])
 ops : h.objs m1 = some (.map .i64 (opsV O))
 forms : h.objs m2 = some (.map .i64 (formsV Φ))
 n1 : c ≠ m2
 n2 : m1 ≠ m2
 sound : ∀ u G, Φ u = some G → FormOf O u G
theorem set_set (h : LS.Heap) (id : Nat) (a b : AObj) : (h.set id a).set id b = h.set id b := by
 simp only [Heap.set]
 congr 1
 funext i
 simp only [upd]
 split <;> rfl
theorem set_same {h : LS.Heap} {id : Nat} {a : AObj} (hid : h.objs id = some a) : h.set id a = h := by
 unfold Heap.set
 have : upd h.objs id (some a) = h.objs := by
  funext i
  simp only [upd]
  split
  ·rename_i e; rw [e, hid]
  ·rfl
 rw [this]
theorem Finds.set {h : LS.Heap} {c m1 m2 : Nat} {O : Int → Option OpD} {Φ Φ' : Int → Option FormD} (k : Finds h c m1 m2 O Φ) (hs : ∀ u G, Φ' u = some G → FormOf O u G) : Finds (h.set m2 (.map .i64 (formsV Φ'))) c m1 m2 O Φ' := by
 obtain ⟨a, b, d, n1, n2, _⟩ := k
 refine ⟨?_, ?_, ?_, n1, n2, hs⟩
 ·simp only [Heap.set, upd]; rw [if_neg n1]; exact a
 ·simp only [Heap.set, upd]; rw [if_neg n2]; exact b
 ·simp only [Heap.set, upd, if_true]

section
variable {h : LS.Heap} {c m1 m2 : Nat} {O : Int → Option OpD} {Φ : Int → Option FormD} {v : Int}
theorem made_none (k : Finds h c m1 m2 O Φ) (ho : O v = none) : callD T 119 [.obj c 0, .int .i64 v] h = some (.tup [formV ([], 0), .bool false], h) := by
 have e1 := k.obj
 have e2 := k.ops
 have e3 : opsV O v = none := by simp [opsV, ho]
 refine W_callH t119 rfl rfl (by simp) ?_
 show W T c119 _ _
 unfold c119
 repeat' (first | refine W_seq ?_ | refine W_skip ?_ | refine W_block ?_ | refine W_ret ?_ | refine W_exit ?_ | refine W_ops (s1 := ?_) (by simp [a119, nextVer, e1, e2, e3]; exact rfl) ?_ | refine W_tops (s1 := ?_) (by simp [a119, nextVer, e1, e2, e3]; exact rfl) ?_ | refine W_cond_t (by first | (simp [a119, nextVer, e1, e2, e3]; done) | fail) ?_ | refine W_cond_f (by first | (simp [a119, nextVer, e1, e2, e3]; done) | fail) ?_ | fail)
 exact ⟨.inr rfl, _, by simp [a119, resV, resV1]; exact rfl, by simp [a119, packV, formV, terms_nil], rfl⟩
theorem made_narrow {o : OpD} (k : Finds h c m1 m2 O Φ) (ho : O v = some o) (hn : o.bits ≠ 64 ∨ o.lanes ≠ 1) : callD T 119 [.obj c 0, .int .i64 v] h = some (.tup [formV ([], 0), .bool false], h) := by
 have e1 := k.obj
 have e2 := k.ops
 have e3 : opsV O v = some (.agg [.int .i64 o.kind, .int .i64 o.bits, .int .i64 o.lanes, .int .i64 o.dst, .lst .ro (o.args.map intC), .int .u64 o.imm]) := by simp [opsV, ho]; rfl
 refine W_callH t119 rfl rfl (by simp) ?_
 show W T c119 _ _
 unfold c119
 by_cases hb : o.bits = 64
 ·have hl : o.lanes ≠ 1 := by omega
  repeat' (first | refine W_seq ?_ | refine W_skip ?_ | refine W_block ?_ | refine W_ret ?_ | refine W_exit ?_ | refine W_ops (s1 := ?_) (by simp [a119, nextVer, e1, e2, e3, hb, hl]; exact rfl) ?_ | refine W_tops (s1 := ?_) (by simp [a119, nextVer, e1, e2, e3, hb, hl]; exact rfl) ?_ | refine W_cond_t (by first | (simp [a119, nextVer, e1, e2, e3, hb, hl]; done) | fail) ?_ | refine W_cond_f (by first | (simp [a119, nextVer, e1, e2, e3, hb, hl]; done) | fail) ?_ | fail)
  exact ⟨.inr rfl, _, by simp [a119, resV, resV1]; exact rfl, by simp [a119, packV, formV, terms_nil], rfl⟩
 ·skip
  repeat' (first | refine W_seq ?_ | refine W_skip ?_ | refine W_block ?_ | refine W_ret ?_ | refine W_exit ?_ | refine W_ops (s1 := ?_) (by simp [a119, nextVer, e1, e2, e3, hb]; exact rfl) ?_ | refine W_tops (s1 := ?_) (by simp [a119, nextVer, e1, e2, e3, hb]; exact rfl) ?_ | refine W_cond_t (by first | (simp [a119, nextVer, e1, e2, e3, hb]; done) | fail) ?_ | refine W_cond_f (by first | (simp [a119, nextVer, e1, e2, e3, hb]; done) | fail) ?_ | fail)
  exact ⟨.inr rfl, _, by simp [a119, resV, resV1]; exact rfl, by simp [a119, packV, formV, terms_nil], rfl⟩
theorem made_const {o : OpD} (k : Finds h c m1 m2 O Φ) (ho : O v = some o) (hb : o.bits = 64) (hl : o.lanes = 1) (hk : o.kind = 0) : callD T 119 [.obj c 0, .int .i64 v] h = some (.tup [formV ([], o.imm), .bool true], h) := by
 have e1 := k.obj
 have e2 := k.ops
 have e3 : opsV O v = some (.agg [.int .i64 o.kind, .int .i64 o.bits, .int .i64 o.lanes, .int .i64 o.dst, .lst .ro (o.args.map intC), .int .u64 o.imm]) := by simp [opsV, ho]; rfl
 refine W_callH t119 rfl rfl (by simp) ?_
 show W T c119 _ _
 unfold c119
 repeat' (first | refine W_seq ?_ | refine W_skip ?_ | refine W_block ?_ | refine W_ret ?_ | refine W_exit ?_ | refine W_ops (s1 := ?_) (by simp [a119, nextVer, e1, e2, e3, hb, hl, hk]; exact rfl) ?_ | refine W_tops (s1 := ?_) (by simp [a119, nextVer, e1, e2, e3, hb, hl, hk]; exact rfl) ?_ | refine W_cond_t (by first | (simp [a119, nextVer, e1, e2, e3, hb, hl, hk]; done) | fail) ?_ | refine W_cond_f (by first | (simp [a119, nextVer, e1, e2, e3, hb, hl, hk]; done) | fail) ?_ | fail)
 exact ⟨.inr rfl, _, by simp [a119, resV, resV1]; exact rfl, by simp [a119, packV, formV, terms_nil], rfl⟩
theorem made_other {o : OpD} (k : Finds h c m1 m2 O Φ) (ho : O v = some o) (hb : o.bits = 64) (hl : o.lanes = 1) (h0 : o.kind ≠ 0) (hk : o.kind < 1 ∨ 8 < o.kind) : callD T 119 [.obj c 0, .int .i64 v] h = some (.tup [formV ([], 0), .bool false], h) := by
 have e1 := k.obj
 have e2 := k.ops
 have e3 : opsV O v = some (.agg [.int .i64 o.kind, .int .i64 o.bits, .int .i64 o.lanes, .int .i64 o.dst, .lst .ro (o.args.map intC), .int .u64 o.imm]) := by simp [opsV, ho]; rfl
 refine W_callH t119 rfl rfl (by simp) ?_
 show W T c119 _ _
 unfold c119
 by_cases h1 : o.kind < 1
 ·skip
  repeat' (first | refine W_seq ?_ | refine W_skip ?_ | refine W_block ?_ | refine W_ret ?_ | refine W_exit ?_ | refine W_ops (s1 := ?_) (by simp [a119, nextVer, e1, e2, e3, hb, hl, h0, h1]; exact rfl) ?_ | refine W_tops (s1 := ?_) (by simp [a119, nextVer, e1, e2, e3, hb, hl, h0, h1]; exact rfl) ?_ | refine W_cond_t (by first | (simp [a119, nextVer, e1, e2, e3, hb, hl, h0, h1]; done) | fail) ?_ | refine W_cond_f (by first | (simp [a119, nextVer, e1, e2, e3, hb, hl, h0, h1]; done) | fail) ?_ | fail)
  exact ⟨.inr rfl, _, by simp [a119, resV, resV1]; exact rfl, by simp [a119, packV, formV, terms_nil], rfl⟩
 ·have h8 : 8 < o.kind := by omega
  repeat' (first | refine W_seq ?_ | refine W_skip ?_ | refine W_block ?_ | refine W_ret ?_ | refine W_exit ?_ | refine W_ops (s1 := ?_) (by simp [a119, nextVer, e1, e2, e3, hb, hl, h0, h1, h8]; exact rfl) ?_ | refine W_tops (s1 := ?_) (by simp [a119, nextVer, e1, e2, e3, hb, hl, h0, h1, h8]; exact rfl) ?_ | refine W_cond_t (by first | (simp [a119, nextVer, e1, e2, e3, hb, hl, h0, h1, h8]; done) | fail) ?_ | refine W_cond_f (by first | (simp [a119, nextVer, e1, e2, e3, hb, hl, h0, h1, h8]; done) | fail) ?_ | fail)
  exact ⟨.inr rfl, _, by simp [a119, resV, resV1]; exact rfl, by simp [a119, packV, formV, terms_nil], rfl⟩

end

end Go.Proofs.YtpbngohpklpalaaGreat

/- Finding forms: the form of an operation of two; of any value. -/
namespace Go.Proofs.YtpbngohpklpalaaGreat
open Go.LS Go.IntWalk
def madeV : Option FormD → V
 | some F => .tup [formV F, .bool true]
 | none => .tup [formV ([], 0), .bool false]

section
variable {h : LS.Heap} {c m1 m2 : Nat} {O : Int → Option OpD} {Φ : Int → Option FormD} {v : Int}
theorem made_two {o : OpD} {x y : Int} {rest : List Int} {A1 B1 : List (Int × Int)} {A2 B2 : Int} {h1 h2 : LS.Heap} (k : Finds h c m1 m2 O Φ) (ho : O v = some o) (hb : o.bits = 64) (hl : o.lanes = 1) (hk1 : 1 ≤ o.kind) (hk2 : o.kind ≤ 8) (hargs : o.args = x :: y :: rest)
  (fa : callD T 58 [.obj c 0, .int .i64 x] h = some (formV (A1, A2), h1)) (fb : callD T 58 [.obj c 0, .int .i64 y] h1 = some (formV (B1, B2), h2)) (la : A1.length ≤ 16) (lb : B1.length ≤ 16) (hB : 0 ≤ B2) :
  callD T 119 [.obj c 0, .int .i64 v] h = some (madeV (twoF o.kind (A1, A2) (B1, B2)), h2) := by
 have e1 := k.obj
 have e2 := k.ops
 have e3 : opsV O v = some (.agg [.int .i64 o.kind, .int .i64 o.bits, .int .i64 o.lanes, .int .i64 o.dst, .lst .ro ([.int .i64 x] :: [.int .i64 y] :: rest.map intC), .int .u64 o.imm]) := by simp [opsV, ho, OpD.c, hargs, intC]
 have k0 : o.kind ≠ 0 := by omega
 have k1 : ¬ o.kind < 1 := by omega
 have k8 : ¬ 8 < o.kind := by omega
 unfold formV at fa fb
 simp only at fa fb
 have pl := Plus_run .ro .ro A1 B1 A2 B2 (by omega) (by omega) h2
 have mi := Minus_run .ro .ro A1 B1 A2 B2 (by omega) (by omega) h2
 have t1 := Times_run .ro A1 A2 B2 (by omega) h2
 have t2 := Times_run .ro B1 B2 A2 (by omega) h2
 have t3 := Times_run .ro A1 A2 (shlU B2) (by omega) h2
 simp only [formC] at pl mi t1 t2 t3
 have hretag : ∀ l : List Int, V.retagLL (l.map intC) = l.map intC := fun l => by simp
 refine W_callH t119 rfl rfl (by simp) ?_
 show W T c119 _ _
 unfold c119
 refine W_seq (W_ops (s1 := ?_) (by simp only [r119_0]; simp [a119, nextVer]; exact rfl) ?_)
 refine W_seq (W_ops (s1 := ?_) (by simp only [r119_1]; simp [nextVer, e1, e2, e3]; exact rfl) ?_)
 refine W_seq (W_seq (W_ops (s1 := ?_) (by simp only [r119_2]; simp [hb, hl]; exact rfl) ?_))
 refine W_cond_f (by simp) (W_skip ?_)
 refine W_seq (W_seq (W_ops (s1 := ?_) (by simp only [r119_4]; simp [k0]; exact rfl) ?_))
 refine W_cond_f (by simp) (W_skip ?_)
 refine W_seq (W_seq (W_ops (s1 := ?_) (by simp only [r119_6]; simp [k1, k8]; exact rfl) ?_))
 refine W_cond_f (by simp) (W_skip ?_)
 refine W_seq (W_tops (s1 := ?_) (by simp only [r119_8]; simp [fa, fb, nextVer]; exact rfl) ?_)
 have fin : ∀ (F : Option FormD) (s : St) (b : Bool) (l : List (List V)) (n : Int) (tg : Tag), s.t 4 = .loc 4 0 0 → s.loc 4 = some (0, [.lst tg l, .int .u64 n]) → s.t 5 = .bool b → s.h = h2 → madeV F = .tup [.agg [.lst .ro (V.retagLL l), .int .u64 n], .bool b] → twoF o.kind (A1, A2) (B1, B2) = F →
   (AExit.ret = AExit.normal ∨ AExit.ret = AExit.ret) ∧ ∃ vs, resV s a119.res = some vs ∧ (if a119.keepR = true then packV vs else (packV vs).retag) = madeV (twoF o.kind (A1, A2) (B1, B2)) ∧ s.h = h2 := fun F s b l n tg q1 q2 q3 q4 q5 q6 => by
  refine ⟨.inr rfl, [.agg [.lst tg l, .int .u64 n], .bool b], by simp [a119, resV, resV1, q1, q2, q3], ?_, q4⟩
  rw [q6, q5]
  simp [a119, packV]
 by_cases c1 : o.kind = 1
 ·skip
  repeat' (first | refine W_seq ?_ | refine W_skip ?_ | refine W_block ?_ | refine W_ret ?_ | refine W_exit ?_ | refine W_ops (s1 := ?_) (by simp [c1, pl]; exact rfl) ?_ | refine W_tops (s1 := ?_) (by simp [c1, pl]; exact rfl) ?_ | refine W_cond_t (by first | (simp [c1, pl]; done) | fail) ?_ | refine W_cond_f (by first | (simp [c1, pl]; done) | fail) ?_ | fail)
  exact fin (some (plusM A1 B1 A2 B2)) _ true _ _ _ (by simp) (by simp; exact ⟨⟨rfl, rfl⟩, rfl⟩) (by simp) rfl (by simp [madeV, formV]) (by simp [twoF, c1])
 by_cases c2 : o.kind = 2
 ·skip
  repeat' (first | refine W_seq ?_ | refine W_skip ?_ | refine W_block ?_ | refine W_ret ?_ | refine W_exit ?_ | refine W_ops (s1 := ?_) (by simp [c2, mi]; exact rfl) ?_ | refine W_tops (s1 := ?_) (by simp [c2, mi]; exact rfl) ?_ | refine W_cond_t (by first | (simp [c2, mi]; done) | fail) ?_ | refine W_cond_f (by first | (simp [c2, mi]; done) | fail) ?_ | fail)
  exact fin (some (minusM A1 B1 A2 B2)) _ true _ _ _ (by simp) (by simp; exact ⟨⟨rfl, rfl⟩, rfl⟩) (by simp) rfl (by simp [madeV, formV]) (by simp [twoF, c2])
 by_cases c3 : o.kind = 3
 ·by_cases hB1 : B1 = []
  ·subst hB1
   repeat' (first | refine W_seq ?_ | refine W_skip ?_ | refine W_block ?_ | refine W_ret ?_ | refine W_exit ?_ | refine W_ops (s1 := ?_) (by simp [c3, t1, terms_nil]; exact rfl) ?_ | refine W_tops (s1 := ?_) (by simp [c3, t1, terms_nil]; exact rfl) ?_ | refine W_cond_t (by first | (simp [c3, t1, terms_nil]; done) | fail) ?_ | refine W_cond_f (by first | (simp [c3, t1, terms_nil]; done) | fail) ?_ | fail)
   exact fin (some (timesM A1 A2 B2)) _ true _ _ _ (by simp) (by simp; exact ⟨⟨rfl, rfl⟩, rfl⟩) (by simp) rfl (by simp [madeV, formV]) (by simp [twoF, c3])
  ·have hBl : ¬ (B1.length : Int) = 0 := by
    intro e
    exact hB1 (List.length_eq_zero_iff.1 (by omega))
   by_cases hA1 : A1 = []
   ·subst hA1
    repeat' (first | refine W_seq ?_ | refine W_skip ?_ | refine W_block ?_ | refine W_ret ?_ | refine W_exit ?_ | refine W_ops (s1 := ?_) (by simp [c3, t2, terms_nil, terms_len, hBl, hB1]; exact rfl) ?_ | refine W_tops (s1 := ?_) (by simp [c3, t2, terms_nil, terms_len, hBl, hB1]; exact rfl) ?_ | refine W_cond_t (by first | (simp [c3, t2, terms_nil, terms_len, hBl, hB1]; done) | fail) ?_ | refine W_cond_f (by first | (simp [c3, t2, terms_nil, terms_len, hBl, hB1]; done) | fail) ?_ | fail)
    exact fin (some (timesM B1 B2 A2)) _ true _ _ _ (by simp) (by simp; exact ⟨⟨rfl, rfl⟩, rfl⟩) (by simp) rfl (by simp [madeV, formV]) (by simp [twoF, c3, hB1])
   ·have hAl : ¬ (A1.length : Int) = 0 := by
     intro e
     exact hA1 (List.length_eq_zero_iff.1 (by omega))
    repeat' (first | refine W_seq ?_ | refine W_skip ?_ | refine W_block ?_ | refine W_ret ?_ | refine W_exit ?_ | refine W_ops (s1 := ?_) (by simp [c3, terms_len, hBl, hAl, hB1, hA1]; exact rfl) ?_ | refine W_tops (s1 := ?_) (by simp [c3, terms_len, hBl, hAl, hB1, hA1]; exact rfl) ?_ | refine W_cond_t (by first | (simp [c3, terms_len, hBl, hAl, hB1, hA1]; done) | fail) ?_ | refine W_cond_f (by first | (simp [c3, terms_len, hBl, hAl, hB1, hA1]; done) | fail) ?_ | fail)
    exact fin none _ false _ _ _ (by simp) (by simp; exact ⟨⟨rfl, rfl⟩, rfl⟩) (by simp) rfl (by simp [madeV, formV, terms_nil]) (by simp [twoF, c3, hB1, hA1])
 by_cases c8 : o.kind = 8
 ·by_cases hB1 : B1 = []
  ·subst hB1
   by_cases h64 : B2 < 64
   ·have hneg : ¬ B2 < 0 := by omega
    unfold shlU at t3
    simp only [Int.one_mul] at t3
    repeat' (first | refine W_seq ?_ | refine W_skip ?_ | refine W_block ?_ | refine W_ret ?_ | refine W_exit ?_ | refine W_ops (s1 := ?_) (by simp [c8, t3, terms_nil, h64, hneg, hB, IntKind.bits]; exact rfl) ?_ | refine W_tops (s1 := ?_) (by simp [c8, t3, terms_nil, h64, hneg, hB, IntKind.bits]; exact rfl) ?_ | refine W_cond_t (by first | (simp [c8, t3, terms_nil, h64, hneg, hB, IntKind.bits]; done) | fail) ?_ | refine W_cond_f (by first | (simp [c8, t3, terms_nil, h64, hneg, hB, IntKind.bits]; done) | fail) ?_ | fail)
    exact fin (some (timesM A1 A2 (shlU B2))) _ true _ _ _ (by simp) (by simp; exact ⟨⟨rfl, rfl⟩, rfl⟩) (by simp) rfl (by simp [madeV, formV, shlU]) (by simp [twoF, c8, h64])
   ·skip
    repeat' (first | refine W_seq ?_ | refine W_skip ?_ | refine W_block ?_ | refine W_ret ?_ | refine W_exit ?_ | refine W_ops (s1 := ?_) (by simp [c8, terms_nil, h64]; exact rfl) ?_ | refine W_tops (s1 := ?_) (by simp [c8, terms_nil, h64]; exact rfl) ?_ | refine W_cond_t (by first | (simp [c8, terms_nil, h64]; done) | fail) ?_ | refine W_cond_f (by first | (simp [c8, terms_nil, h64]; done) | fail) ?_ | fail)
    exact fin none _ false _ _ _ (by simp) (by simp; exact ⟨⟨rfl, rfl⟩, rfl⟩) (by simp) rfl (by simp [madeV, formV, terms_nil]) (by simp [twoF, c8, h64])
  ·have hBl : ¬ (B1.length : Int) = 0 := by
    intro e
    exact hB1 (List.length_eq_zero_iff.1 (by omega))
   repeat' (first | refine W_seq ?_ | refine W_skip ?_ | refine W_block ?_ | refine W_ret ?_ | refine W_exit ?_ | refine W_ops (s1 := ?_) (by simp [c8, terms_len, hBl, hB1]; exact rfl) ?_ | refine W_tops (s1 := ?_) (by simp [c8, terms_len, hBl, hB1]; exact rfl) ?_ | refine W_cond_t (by first | (simp [c8, terms_len, hBl, hB1]; done) | fail) ?_ | refine W_cond_f (by first | (simp [c8, terms_len, hBl, hB1]; done) | fail) ?_ | fail)
   exact fin none _ false _ _ _ (by simp) (by simp; exact ⟨⟨rfl, rfl⟩, rfl⟩) (by simp) rfl (by simp [madeV, formV, terms_nil]) (by simp [twoF, c8, hB1])
 ·skip
  repeat' (first | refine W_seq ?_ | refine W_skip ?_ | refine W_block ?_ | refine W_ret ?_ | refine W_exit ?_ | refine W_ops (s1 := ?_) (by simp [c1, c2, c3, c8]; exact rfl) ?_ | refine W_tops (s1 := ?_) (by simp [c1, c2, c3, c8]; exact rfl) ?_ | refine W_cond_t (by first | (simp [c1, c2, c3, c8]; done) | fail) ?_ | refine W_cond_f (by first | (simp [c1, c2, c3, c8]; done) | fail) ?_ | fail)
  exact fin none _ false _ _ _ (by simp) (by simp; exact ⟨⟨rfl, rfl⟩, rfl⟩) (by simp) rfl (by simp [madeV, formV, terms_nil]) (by simp [twoF, c1, c2, c3, c8])

end

end Go.Proofs.YtpbngohpklpalaaGreat

/- Finding forms: the finder finds each value's form. -/
namespace Go.Proofs.YtpbngohpklpalaaGreat
open Go.LS Go.IntWalk
theorem plusM_off (a b : List (Int × Int)) (x y : Int) : 0 ≤ (plusM a b x y).2 := by
 unfold plusM; split
 ·exact (addU_range _ _).1
 ·simp
theorem minusM_off (a b : List (Int × Int)) (x y : Int) : 0 ≤ (minusM a b x y).2 := by
 unfold minusM; split
 ·exact (subU_range _ _).1
 ·simp
theorem timesM_off (a : List (Int × Int)) (x n : Int) : 0 ≤ (timesM a x n).2 := by
 unfold timesM; split
 ·exact (mulU_range _ _).1
 ·simp
theorem twoF_off {k : Int} {A B F : FormD} (h : twoF k A B = some F) : 0 ≤ F.2 := by
 unfold twoF at h
 split at h
 ·injection h with h; subst h; exact plusM_off _ _ _ _
 ·split at h
  ·injection h with h; subst h; exact minusM_off _ _ _ _
  ·split at h
   ·injection h with h; subst h; exact timesM_off _ _ _
   ·split at h
    ·injection h with h; subst h; exact timesM_off _ _ _
    ·split at h
     ·injection h with h; subst h; exact timesM_off _ _ _
     ·cases h
theorem FormOf.off {O : Int → Option OpD} (hO : ∀ v o, O v = some o → 0 ≤ o.imm) {v : Int} {F : FormD} (h : FormOf O v F) : 0 ≤ F.2 := by
 cases h with
 | const h _ _ _ => exact hO _ _ h
 | two h _ _ _ _ _ hA hB =>
  unfold capF
  split
  ·simp [ownF]
  ·rename_i G hG
   split
   ·simp [ownF]
   ·exact twoF_off hG
 | _ => simp [ownF]

section
variable {h h1 : LS.Heap} {c m1 m2 : Nat} {O : Int → Option OpD} {Φ Φ1 : Int → Option FormD} {v : Int}
theorem form_found (k : Finds h c m1 m2 O Φ) {G : FormD} (hv : Φ v = some G) : callD T 58 [.obj c 0, .int .i64 v] h = some (formV G, h) := by
 have e1 := k.obj
 have e2 := k.forms
 have e3 : formsV Φ v = some (.agg [.lst .ro (terms G.1), .int .u64 G.2]) := by simp [formsV, hv, formV]
 refine W_callH t58 rfl rfl (by simp) ?_
 show W T c58 _ _
 unfold c58
 repeat' (first | refine W_seq ?_ | refine W_skip ?_ | refine W_block ?_ | refine W_ret ?_ | refine W_exit ?_ | refine W_ops (s1 := ?_) (by simp [a58, nextVer, e1, e2, e3]; exact rfl) ?_ | refine W_tops (s1 := ?_) (by simp [a58, nextVer, e1, e2, e3]; exact rfl) ?_ | refine W_cond_t (by first | (simp [a58, nextVer, e1, e2, e3]; done) | fail) ?_ | refine W_cond_f (by first | (simp [a58, nextVer, e1, e2, e3]; done) | fail) ?_ | fail)
 exact ⟨.inr rfl, _, by simp [a58, resV, resV1]; exact rfl, by simp [a58, packV, formV], rfl⟩
theorem form_made (k : Finds h c m1 m2 O Φ) (hv : Φ v = none) {G : FormD} {ok : Bool} (hm : callD T 119 [.obj c 0, .int .i64 v] h = some (.tup [formV G, .bool ok], h1)) (k1 : Finds h1 c m1 m2 O Φ1) {F : FormD}
  (hF : F = if ok = true ∧ G.1.length ≤ 16 then G else ownF v) :
  callD T 58 [.obj c 0, .int .i64 v] h = some (formV F, h1.set m2 (.map .i64 (formsV (fun j => if j = v then some F else Φ1 j)))) := by
 have e1 := k.obj
 have e2 := k.forms
 have e3 : formsV Φ v = none := by simp [formsV, hv]
 have e4 := k1.obj
 have e5 := k1.forms
 have e6 : ∀ F : FormD, formsV (fun j => if j = v then some F else Φ1 j) = fun j => if j = v then some (.agg [.lst .ro (terms F.1), .int .u64 F.2]) else formsV Φ1 j := fun F => by
  funext j
  simp only [formsV]
  split <;> rfl
 have own1 : terms (ownF v).1 = [[.int .i64 v, .int .u64 1]] := rfl
 have own2 : (ownF v).2 = 0 := rfl
 rw [e6]
 unfold formV at hm ⊢
 refine W_callH t58 rfl rfl (by simp) ?_
 show W T c58 _ _
 unfold c58
 cases ok with
 | false =>
  have hF : F = ownF v := by rw [hF]; simp
  subst hF
  repeat' (first | refine W_seq ?_ | refine W_skip ?_ | refine W_block ?_ | refine W_ret ?_ | refine W_exit ?_ | refine W_ops (s1 := ?_) (by simp [a58, nextVer, e1, e2, e3, e4, e5, hm, own1, own2]; exact rfl) ?_ | refine W_tops (s1 := ?_) (by simp [a58, nextVer, e1, e2, e3, e4, e5, hm, own1, own2]; exact rfl) ?_ | refine W_cond_t (by first | (simp [a58, nextVer, e1, e2, e3, e4, e5, hm, own1, own2]; done) | fail) ?_ | refine W_cond_f (by first | (simp [a58, nextVer, e1, e2, e3, e4, e5, hm, own1, own2]; done) | fail) ?_ | fail)
  exact ⟨.inr rfl, _, by simp [a58, resV, resV1]; exact rfl, by simp [a58, packV, own1, own2], by simp [own1, own2]⟩
 | true =>
  by_cases hl : G.1.length ≤ 16
  ·have hF : F = G := by rw [hF]; simp [hl]
   subst hF
   have hl1 : ¬ (16 : Int) < F.1.length := by omega
   have hl2 : ¬ 16 < F.1.length := by omega
   repeat' (first | refine W_seq ?_ | refine W_skip ?_ | refine W_block ?_ | refine W_ret ?_ | refine W_exit ?_ | refine W_ops (s1 := ?_) (by simp [a58, nextVer, e1, e2, e3, e4, e5, hm, terms_len, hl1, hl2]; exact rfl) ?_ | refine W_tops (s1 := ?_) (by simp [a58, nextVer, e1, e2, e3, e4, e5, hm, terms_len, hl1, hl2]; exact rfl) ?_ | refine W_cond_t (by first | (simp [a58, nextVer, e1, e2, e3, e4, e5, hm, terms_len, hl1, hl2]; done) | fail) ?_ | refine W_cond_f (by first | (simp [a58, nextVer, e1, e2, e3, e4, e5, hm, terms_len, hl1, hl2]; done) | fail) ?_ | fail)
   exact ⟨.inr rfl, _, by simp [a58, resV, resV1]; exact rfl, by simp [a58, packV], by simp⟩
  ·have hF : F = ownF v := by rw [hF]; simp; intro h; omega
   subst hF
   have hl1 : (16 : Int) < G.1.length := by omega
   have hl2 : 16 < G.1.length := by omega
   repeat' (first | refine W_seq ?_ | refine W_skip ?_ | refine W_block ?_ | refine W_ret ?_ | refine W_exit ?_ | refine W_ops (s1 := ?_) (by simp [a58, nextVer, e1, e2, e3, e4, e5, hm, terms_len, hl1, hl2, own1, own2]; exact rfl) ?_ | refine W_tops (s1 := ?_) (by simp [a58, nextVer, e1, e2, e3, e4, e5, hm, terms_len, hl1, hl2, own1, own2]; exact rfl) ?_ | refine W_cond_t (by first | (simp [a58, nextVer, e1, e2, e3, e4, e5, hm, terms_len, hl1, hl2, own1, own2]; done) | fail) ?_ | refine W_cond_f (by first | (simp [a58, nextVer, e1, e2, e3, e4, e5, hm, terms_len, hl1, hl2, own1, own2]; done) | fail) ?_ | fail)
   exact ⟨.inr rfl, _, by simp [a58, resV, resV1]; exact rfl, by simp [a58, packV, own1, own2], by simp [own1, own2]⟩

end
theorem form_run {c m1 m2 : Nat} {O : Int → Option OpD} (hO : ∀ v o, O v = some o → 0 ≤ o.imm) {v : Int} {F : FormD} (hF : FormOf O v F) : ∀ (h : LS.Heap) (Φ : Int → Option FormD), Finds h c m1 m2 O Φ →
  ∃ Φ', callD T 58 [.obj c 0, .int .i64 v] h = some (formV F, h.set m2 (.map .i64 (formsV Φ'))) ∧ ∀ u G, Φ' u = some G → FormOf O u G := by
 have found : ∀ {v : Int} {F : FormD} (hF : FormOf O v F) (h : LS.Heap) (Φ : Int → Option FormD) (k : Finds h c m1 m2 O Φ) {G : FormD} (hv : Φ v = some G), ∃ Φ', callD T 58 [.obj c 0, .int .i64 v] h = some (formV F, h.set m2 (.map .i64 (formsV Φ'))) ∧ ∀ u G, Φ' u = some G → FormOf O u G := by
  intro v F hF h Φ k G hv
  have := hF.unique (k.sound v G hv)
  subst this
  exact ⟨Φ, by rw [set_same k.forms]; exact form_found k hv, k.sound⟩
 have step : ∀ {v : Int} {F : FormD} (hF : FormOf O v F) (h h1 : LS.Heap) (Φ Φ1 : Int → Option FormD) (k : Finds h c m1 m2 O Φ) (hv : Φ v = none) {G : FormD} {ok : Bool} (hm : callD T 119 [.obj c 0, .int .i64 v] h = some (.tup [formV G, .bool ok], h1)) (h1e : h1 = h.set m2 (.map .i64 (formsV Φ1)))
   (hs : ∀ u G, Φ1 u = some G → FormOf O u G) (hFe : F = if ok = true ∧ G.1.length ≤ 16 then G else ownF v), ∃ Φ', callD T 58 [.obj c 0, .int .i64 v] h = some (formV F, h.set m2 (.map .i64 (formsV Φ'))) ∧ ∀ u G, Φ' u = some G → FormOf O u G := by
  intro v F hF h h1 Φ Φ1 k hv G ok hm h1e hs hFe
  have k1 : Finds h1 c m1 m2 O Φ1 := by rw [h1e]; exact k.set hs
  refine ⟨fun j => if j = v then some F else Φ1 j, ?_, fun u G' hu => ?_⟩
  rotate_left
  ·simp only at hu
   split at hu
   ·rename_i e
    injection hu with hu
    subst e hu
    exact hF
   ·exact hs u G' hu
  ·rw [form_made k hv hm k1 hFe, h1e, set_set]
 induction hF with
 | @none v ho =>
  intro h Φ k
  cases hv : Φ v with
  | some G => exact found (.none ho) h Φ k hv
  | none => exact step (.none ho) h h Φ Φ k hv (made_none k ho) (set_same k.forms).symm k.sound (by simp)
 | @narrow v o ho hn =>
  intro h Φ k
  cases hv : Φ v with
  | some G => exact found (.narrow ho hn) h Φ k hv
  | none => exact step (.narrow ho hn) h h Φ Φ k hv (made_narrow k ho hn) (set_same k.forms).symm k.sound (by simp)
 | @const v o ho hb hl hk =>
  intro h Φ k
  cases hv : Φ v with
  | some G => exact found (.const ho hb hl hk) h Φ k hv
  | none => exact step (.const ho hb hl hk) h h Φ Φ k hv (made_const k ho hb hl hk) (set_same k.forms).symm k.sound (by simp)
 | @other v o ho hb hl h0 hk =>
  intro h Φ k
  cases hv : Φ v with
  | some G => exact found (.other ho hb hl h0 hk) h Φ k hv
  | none => exact step (.other ho hb hl h0 hk) h h Φ Φ k hv (made_other k ho hb hl h0 hk) (set_same k.forms).symm k.sound (by simp)
 | @two v o x y rest A B ho hb hl hk1 hk2 ha hA hB ihA ihB =>
  intro h Φ k
  cases hv : Φ v with
  | some G => exact found (.two ho hb hl hk1 hk2 ha hA hB) h Φ k hv
  | none =>
   obtain ⟨Φ1, q1, q2⟩ := ihA h Φ k
   obtain ⟨Φ2, q3, q4⟩ := ihB _ Φ1 (k.set q2)
   rw [set_set] at q3
   have hm := made_two (A1 := A.1) (A2 := A.2) (B1 := B.1) (B2 := B.2) k ho hb hl hk1 hk2 ha q1 q3 hA.short hB.short (hB.off hO)
   rcases ht : twoF o.kind A B with _ | G
   ·have ht' : twoF o.kind (A.1, A.2) (B.1, B.2) = none := ht
    rw [ht'] at hm
    have hF := FormOf.two ho hb hl hk1 hk2 ha hA hB
    rw [ht] at hF
    exact step hF h _ Φ Φ2 k hv hm rfl q4 (by simp [capF])
   ·have ht' : twoF o.kind (A.1, A.2) (B.1, B.2) = some G := ht
    rw [ht'] at hm
    have hF := FormOf.two ho hb hl hk1 hk2 ha hA hB
    rw [ht] at hF
    refine step hF h _ Φ Φ2 k hv hm rfl q4 ?_
    simp only [capF, true_and]
    by_cases hl16 : G.1.length ≤ 16
    ·rw [if_neg (by omega), if_pos hl16]
    ·rw [if_pos (by omega), if_neg hl16]

end Go.Proofs.YtpbngohpklpalaaGreat

/- The form of a value of a straight function. -/
namespace Go.Proofs.YtpbngohpklpalaaGreat
open Go.LS Go.IntWalk
def opM (l : List OpD) : Nat → Int → Option OpD
 | 0 => fun _ => none
 | k + 1 => match l[k]? with
  | some o => fun j => if j = o.dst then some o else opM l k j
  | none => opM l k
theorem opM_mem {l : List OpD} : ∀ {k : Nat} {j : Int} {o : OpD}, opM l k j = some o → o ∈ l
 | 0, _, _, h => by simp [opM] at h
 | k + 1, j, o, h => by
  cases hl : l[k]? with
  | none => simp only [opM, hl] at h; exact opM_mem h
  | some o' =>
   simp only [opM, hl] at h
   by_cases hj : j = o'.dst
   ·rw [if_pos hj] at h; injection h with h; subst h; exact List.mem_of_getElem? hl
   ·rw [if_neg hj] at h; exact opM_mem h
def Straight.O (x : Straight) : Int → Option OpD := opM x.ops x.ops.length
theorem Of_no (hTree : TreeOne) (x : Straight) (R : x.Right) (v : Int) (h : LS.Heap) (hv : ∀ d, x.D v = some d → d.bits ≠ 64 ∨ d.lanes ≠ 1) : callD T 17 [.agg x.f.c, .int .i64 v] h = some (.tup [formV ([], 0), .int .i64 10], h) := by
 have hfc : x.f.c = [.lst .ro (x.ps.map intC), .int .i64 x.ret, .lst .ro [[.lst .ro [], .lst .ro (x.ops.map OpD.c), .int .i64 0, .int .i64 x.arg, .lst .ro []]]] := rfl
 obtain ⟨h', m, e1, hx, g1, g2, m1⟩ := Shapes_run hTree x R h
 rw [hfc] at e1 ⊢
 refine W_call t17 rfl rfl (by simp) ?_
 show W T c17 _ _
 unfold c17
 refine W_seq (W_ops (s1 := ?_) (by simp only [r17_0]; simp [a17, nextVer]; exact rfl) ?_)
 cases hd : x.D v with
 | none =>
  have e2 : shapesV x.D v = none := by simp [shapesV, hd]
  repeat' (first | refine W_seq ?_ | refine W_skip ?_ | refine W_block ?_ | refine W_ret ?_ | refine W_exit ?_ | refine W_ops (s1 := ?_) (by simp [e1, m1, e2, nextVer]; exact rfl) ?_ | refine W_tops (s1 := ?_) (by simp [e1, m1, e2, nextVer]; exact rfl) ?_ | refine W_cond_t (by first | (simp [e1, m1, e2, nextVer]; done) | fail) ?_ | refine W_cond_f (by first | (simp [e1, m1, e2, nextVer]; done) | fail) ?_ | fail)
  exact ⟨.inr rfl, _, by simp [a17, resV, resV1]; exact rfl, by simp [a17, packV, formV, terms_nil], by simp [formV], hx⟩
 | some d =>
  have e2 : shapesV x.D v = some (.agg [.int .i64 d.bits, .int .i64 d.lanes]) := by simp [shapesV, hd, DefD.sh]
  by_cases hb : d.bits = 64
  ·have hl : d.lanes ≠ 1 := by have := hv d hd; omega
   repeat' (first | refine W_seq ?_ | refine W_skip ?_ | refine W_block ?_ | refine W_ret ?_ | refine W_exit ?_ | refine W_ops (s1 := ?_) (by simp [e1, m1, e2, nextVer, hb, hl]; exact rfl) ?_ | refine W_tops (s1 := ?_) (by simp [e1, m1, e2, nextVer, hb, hl]; exact rfl) ?_ | refine W_cond_t (by first | (simp [e1, m1, e2, nextVer, hb, hl]; done) | fail) ?_ | refine W_cond_f (by first | (simp [e1, m1, e2, nextVer, hb, hl]; done) | fail) ?_ | fail)
   exact ⟨.inr rfl, _, by simp [a17, resV, resV1]; exact rfl, by simp [a17, packV, formV, terms_nil], by simp [formV], hx⟩
  ·skip
   repeat' (first | refine W_seq ?_ | refine W_skip ?_ | refine W_block ?_ | refine W_ret ?_ | refine W_exit ?_ | refine W_ops (s1 := ?_) (by simp [e1, m1, e2, nextVer, hb]; exact rfl) ?_ | refine W_tops (s1 := ?_) (by simp [e1, m1, e2, nextVer, hb]; exact rfl) ?_ | refine W_cond_t (by first | (simp [e1, m1, e2, nextVer, hb]; done) | fail) ?_ | refine W_cond_f (by first | (simp [e1, m1, e2, nextVer, hb]; done) | fail) ?_ | fail)
   exact ⟨.inr rfl, _, by simp [a17, resV, resV1]; exact rfl, by simp [a17, packV, formV, terms_nil], by simp [formV], hx⟩
theorem Of_yes (hTree : TreeOne) (x : Straight) (R : x.Right) (v : Int) (h : LS.Heap) {d : DefD} (hv : x.D v = some d) (hb : d.bits = 64) (hl : d.lanes = 1) {F : FormD} (hF : FormOf x.O v F) (himm : ∀ o ∈ x.ops, 0 ≤ o.imm) : callD T 17 [.agg x.f.c, .int .i64 v] h = some (.tup [formV F, .int .i64 0], h) := by
 have hfc : x.f.c = [.lst .ro (x.ps.map intC), .int .i64 x.ret, .lst .ro [[.lst .ro [], .lst .ro (x.ops.map OpD.c), .int .i64 0, .int .i64 x.arg, .lst .ro []]]] := rfl
 obtain ⟨h', m, e1, hx, g1, g2, m1⟩ := Shapes_run hTree x R h
 obtain ⟨f1, f2, f3⟩ := R.fit
 obtain ⟨q1, q2, q3, q4, q5⟩ := f3 x.b (by simp [Straight.f])
 have q2 : x.ops.length < 2 ^ 40 := q2
 have w1 : IntKind.i64.wrap 1 = 1 := i64_in _ (by omega)
 rw [hfc] at e1 ⊢
 have e2 : shapesV x.D v = some (.agg [.int .i64 64, .int .i64 1]) := by simp [shapesV, hv, DefD.sh, hb, hl]
 refine W_call t17 rfl rfl (by simp) ?_
 show W T c17 _ _
 unfold c17
 refine W_seq (W_ops (s1 := ?_) (by simp only [r17_0]; simp [a17, nextVer]; exact rfl) ?_)
 refine W_seq (W_seq (W_ops (s1 := ?_) (by simp only [r17_1]; simp [e1, m1, e2, nextVer]; exact rfl) ?_))
 refine W_seq (W_ops (s1 := ?_) (by simp only [r17_2]; simp; exact rfl) ?_)
 refine W_cond_f (by simp) (W_skip ?_)
 refine W_seq (W_ops (s1 := ?_) (by simp only [r17_4]; simp [Heap.new]; exact rfl) ?_)
 refine W_seq (W_seq (W_ops (s1 := ?_) (by simp only [r17_5]; simp; exact rfl) ?_))
 generalize hH : LS.Heap.mk _ _ = h1
 have hn0 : h'.next ≠ h'.next + 2 := by omega
 have K0 : h1.next = h'.next + 3 ∧ (∀ id, id < h'.next → h1.objs id = h'.objs id) ∧ Finds h1 (h'.next + 2) h'.next (h'.next + 1) (opM x.ops 0) (fun _ => none) := by
  rw [← hH]
  refine ⟨rfl, fun id hid => ?_, ?_, ?_, ?_, by omega, by omega, fun u G hu => by cases hu⟩
  ·have a1 : id ≠ h'.next + 2 := by omega
   have a2 : id ≠ h'.next + 1 := by omega
   have a3 : id ≠ h'.next := by omega
   simp [upd, a1, a2, a3]
  ·simp [upd]
  ·have a1 : h'.next ≠ h'.next + 1 + 1 := by omega
   simp [upd, a1]; rfl
  ·simp [upd]; rfl
 clear hH
 refine W_block (W_loop' l17_0.eq_1 ?_)
 refine W_seq (W_ops (s1 := ?_) (by simp only [r17_6]; simp; exact rfl) ?_)
 refine W_seq (W_cond_t (by simp) (W_skip ?_))
 refine W_seq (W_block (W_seq (W_ops (s1 := ?_) (by simp only [r17_7]; simp; exact rfl) ?_)))
 refine W_seq (W_ops (s1 := ?_) (by simp only [r17_8]; simp; exact rfl) ?_)
 refine W_block (W_for' l17_1.eq_1 (n := x.ops.length) (fun i s => s.t 1 = .int .i64 v ∧ s.t 4 = .loc 4 0 0 ∧ s.t 8 = .obj (h'.next + 2) 0 ∧ s.t 34 = .int .i64 1 ∧ s.t 35 = .int .i64 0 ∧ s.t 40 = .lst .ro (x.ops.map OpD.c) ∧ s.t 41 = .int .i64 x.ops.length ∧ s.t 42 = .int .i64 i ∧
  s.loc 4 = some (0, [.lst .nil [], .int .u64 0]) ∧ s.h.next = h'.next + 3 ∧ (∀ id, id < h'.next → s.h.objs id = h'.objs id) ∧ Finds s.h (h'.next + 2) h'.next (h'.next + 1) (opM x.ops i) (fun _ => none)) ⟨by simp, by simp, by simp, by simp, by simp, by simp, by simp, by simp, by simp, K0.1, K0.2.1, K0.2.2⟩ ?_ ?_)
 ·clear K0
  rintro i ⟨t, loc, h2⟩ hi ⟨t1, t4, t8, t34, t35, t40, t41, t42, l4, hn, ho, k⟩
  simp only at t1 t4 t8 t34 t35 t40 t41 t42 l4 hn ho k
  have hl1 : ((i : Int) < x.ops.length) := by omega
  have hw := i64_succ (show i < 2 ^ 62 by omega)
  have hE : OpD.c x.ops[i] = [.int .i64 x.ops[i].kind, .int .i64 x.ops[i].bits, .int .i64 x.ops[i].lanes, .int .i64 x.ops[i].dst, .lst .ro (x.ops[i].args.map intC), .int .u64 x.ops[i].imm] := rfl
  obtain ⟨k1, k2, k3, k4, k5, k6⟩ := k
  refine W_seq (W_ops (s1 := ?_) (by simp only [r17_9]; simp [t41, t42, hl1]; exact rfl) ?_)
  refine W_seq (W_cond_t (by simp) (W_skip ?_))
  refine W_seq (W_block (W_seq (W_ops (s1 := ?_) (by simp only [r17_10]; simp [t40, t42, hi, hE]; exact rfl) ?_)))
  refine W_tops (s1 := ?_) (by simp only [r17_11]; simp [t8, k1, k2]; exact rfl) ?_
  repeat' (first | refine W_seq ?_ | refine W_skip ?_ | refine W_block ?_ | refine W_ret ?_ | refine W_exit ?_ | refine W_ops (s1 := ?_) (by simp [t42, hw]; exact rfl) ?_ | refine W_tops (s1 := ?_) (by simp [t42, hw]; exact rfl) ?_ | refine W_cond_t (by first | (simp [t42, hw]; done) | fail) ?_ | refine W_cond_f (by first | (simp [t42, hw]; done) | fail) ?_ | fail)
  refine .inl ⟨rfl, by simp [t1], by simp [t4], by simp [t8], by simp [t34], by simp [t35], by simp [t40], by simp [t41], by simp, by simp [l4], hn, fun id hid => ?_, ?_, ?_, ?_, k4, k5, fun u G hu => by cases hu⟩
  ·have a1 : id ≠ h'.next := by omega
   simp [Heap.set, upd, a1, ho id hid]
  ·simp [Heap.set, upd, k1]
  ·simp only [Heap.set, upd, if_true]
   congr 2
   funext j
   simp only [opsV, opM, List.getElem?_eq_getElem hi]
   split
   ·rename_i e
    subst e
    simp [hE]
   ·rename_i e
    simp [e]
  ·simp [Heap.set, upd, k3]
 ·rintro ⟨t, loc, h2⟩ ⟨t1, t4, t8, t34, t35, t40, t41, t42, l4, hn, ho, k⟩
  simp only at t1 t4 t8 t34 t35 t40 t41 t42 l4 hn ho k
  repeat' (first | refine W_seq ?_ | refine W_skip ?_ | refine W_block ?_ | refine W_ret ?_ | refine W_exit ?_ | refine W_ops (s1 := ?_) (by simp [t41, t42]; exact rfl) ?_ | refine W_tops (s1 := ?_) (by simp [t41, t42]; exact rfl) ?_ | refine W_cond_t (by first | (simp [t41, t42]; done) | fail) ?_ | refine W_cond_f (by first | (simp [t41, t42]; done) | fail) ?_ | fail)
  refine ⟨by simp, ?_⟩
  repeat' (first | refine W_seq ?_ | refine W_skip ?_ | refine W_block ?_ | refine W_ret ?_ | refine W_exit ?_ | refine W_ops (s1 := ?_) (by simp [t35, w1]; exact rfl) ?_ | refine W_tops (s1 := ?_) (by simp [t35, w1]; exact rfl) ?_ | refine W_cond_t (by first | (simp [t35, w1]; done) | fail) ?_ | refine W_cond_f (by first | (simp [t35, w1]; done) | fail) ?_ | fail)
  refine W_loop' l17_0.eq_1 ?_
  obtain ⟨Φ, q, _⟩ := form_run (fun u o ho => himm o (opM_mem ho)) hF h2 _ k
  have xh : HExt h (h2.set (h'.next + 1) (.map .i64 (formsV Φ))) := by
   refine ⟨?_, fun id hid => ?_⟩
   ·have := hx.1
    simp only [Heap.set]; omega
   ·have := hx.1
    have a1 : id ≠ h'.next + 1 := by omega
    simp only [Heap.set, upd, a1, if_false]
    rw [ho id (by omega), hx.2 id hid]
  unfold formV at q
  repeat' (first | refine W_seq ?_ | refine W_skip ?_ | refine W_block ?_ | refine W_ret ?_ | refine W_exit ?_ | refine W_ops (s1 := ?_) (by simp [t34, t35, t1, t4, t8, q, l4]; exact rfl) ?_ | refine W_tops (s1 := ?_) (by simp [t34, t35, t1, t4, t8, q, l4]; exact rfl) ?_ | refine W_cond_t (by first | (simp [t34, t35, t1, t4, t8, q, l4]; done) | fail) ?_ | refine W_cond_f (by first | (simp [t34, t35, t1, t4, t8, q, l4]; done) | fail) ?_ | fail)
  refine ⟨.inr rfl, _, by simp [a17, resV, resV1, t4]; exact rfl, ?_, by simp [formV], xh⟩
  simp [a17, packV, formV]

end Go.Proofs.YtpbngohpklpalaaGreat

/- The laws' own example. -/
namespace Go.Proofs.YtpbngohpklpalaaGreat
open Go.LS Go.IntWalk
theorem callD_retag {tab : FuncId → Option AFn} {f : FuncId} {af : AFn} {args args' : List V} {h : LS.Heap} (ht : tab f = some af) (he : af.ext = none) (hk : af.keepA = false) (h1 : args.all V.free = true) (h2 : args'.all V.free = true) (hr : args.map V.retag = args'.map V.retag) : callD tab f args h = callD tab f args' h := by
 unfold callD callF
 rw [ht]
 simp only [h1, h2, if_true, he, hk, hr]
 simp only [Bool.false_eq_true, if_false, hr]
def awF : Straight := ⟨[64], 64, [⟨0, 64, 1, 2, [], 8⟩, ⟨1, 64, 1, 3, [1, 2], 0⟩, ⟨3, 64, 1, 4, [2, 3], 0⟩], 4⟩
theorem aw_cases {P : OpD → Prop} (h0 : P ⟨0, 64, 1, 2, [], 8⟩) (h1 : P ⟨1, 64, 1, 3, [1, 2], 0⟩) (h2 : P ⟨3, 64, 1, 4, [2, 3], 0⟩) : ∀ o ∈ awF.ops, P o := by
 intro o ho
 simp only [awF, List.mem_cons, List.not_mem_nil, or_false] at ho
 rcases ho with rfl | rfl | rfl
 ·exact h0
 ·exact h1
 ·exact h2
theorem aw_D1 : awF.D 1 = some ⟨-1, 0, 64, 1⟩ := by rfl
theorem aw_D2 : awF.D 2 = some ⟨0, 0, 64, 1⟩ := by rfl
theorem aw_D3 : awF.D 3 = some ⟨0, 1, 64, 1⟩ := by rfl
theorem aw_D4 : awF.D 4 = some ⟨0, 2, 64, 1⟩ := by rfl
theorem aw_D5 : awF.D 5 = none := by rfl
theorem aw_right : awF.Right where
 fit := by
  refine ⟨by simp [awF, Straight.f], by simp [Straight.f], fun b hb => ?_⟩
  simp only [Straight.f, List.mem_cons, List.not_mem_nil, or_false] at hb
  subst hb
  exact ⟨by simp [Straight.b], by simp [Straight.b, awF], by simp [Straight.b], fun p hp => by simp [Straight.b] at hp, aw_cases (by simp [OpD.Fit]) (by simp [OpD.Fit]) (by simp [OpD.Fit])⟩
 tells := by rfl
 takes := aw_cases (takes_0 _ _ _ _ _ (by omega)) (takes_1 _ _ _ _ _) (takes_3 _ _ _ _ _)
 ret := by rfl
 ps := by intro p hp; simp only [awF, List.mem_cons, List.not_mem_nil, or_false] at hp; subst hp; rfl
 ops := aw_cases (by rfl) (by rfl) (by rfl)
 once := by
  intro k hk hg
  have : k < 3 := hk
  rcases k with _ | _ | _ | k
  ·rfl
  ·rfl
  ·rfl
  ·omega
 uses := by
  intro k hk j hj
  have : k < 3 := hk
  rcases k with _ | _ | _ | k
  ·exact absurd hj (Nat.not_lt_zero _)
  ·have : j < 2 := hj
   rcases j with _ | _ | j
   ·exact ⟨1, _, rfl, aw_D1, rfl, rfl, .inl (by decide)⟩
   ·exact ⟨2, _, rfl, aw_D2, rfl, rfl, .inr ⟨rfl, by decide⟩⟩
   ·omega
  ·have : j < 2 := hj
   rcases j with _ | _ | j
   ·exact ⟨2, _, rfl, aw_D2, rfl, rfl, .inr ⟨rfl, by decide⟩⟩
   ·exact ⟨3, _, rfl, aw_D3, rfl, rfl, .inr ⟨rfl, by decide⟩⟩
   ·omega
  ·omega
 last := ⟨_, aw_D4, rfl, rfl, .inr ⟨rfl, by decide⟩⟩
theorem wr (x y : Int) (h : IntKind.u64.wrap x = y) : IntKind.u64.wrap x = y := h
theorem both_nil (f : Int → Int → Int) : bothL f [] [] = [] := by rw [bothL]
theorem both_l (f : Int → Int → Int) (v s : Int) : bothL f [(v, s)] [] = keepT v (f s 0) [] := by rw [bothL, both_nil]
theorem both_2 (f : Int → Int → Int) (v s r : Int) : bothL f [(v, s)] [(v, r)] = keepT v (f s r) [] := by rw [bothL, if_neg (by omega), if_neg (by omega), both_nil]
theorem may_1 (v s : Int) (h : ¬ (v ≤ 0 ∨ 1023 < v ∨ s = 0)) : mayL 0 [(v, s)] = true := by simp only [mayL]; rw [if_neg h]
theorem v_p1 : plusM [(1, 1)] [] 0 8 = ([(1, 1)], 8) := by unfold plusM; rw [if_pos ⟨may_1 _ _ (by omega), rfl⟩, both_l]; rfl
theorem v_t1 : timesM [(1, 1)] 8 8 = ([(1, 8)], 64) := by unfold timesM; rw [if_pos (may_1 _ _ (by omega)), both_l]; rfl
theorem v_t2 : timesM [(1, 8)] 64 2 = ([(1, 16)], 128) := by unfold timesM; rw [if_pos (may_1 _ _ (by omega)), both_l]; rfl
theorem v_p2 : plusM [(1, 8)] [(1, 8)] 64 64 = ([(1, 16)], 128) := by unfold plusM; rw [if_pos ⟨may_1 _ _ (by omega), may_1 _ _ (by omega)⟩, both_2]; rfl
theorem v_m2 : minusM [(1, 8)] [(1, 8)] 64 64 = ([], 0) := by unfold minusM; rw [if_pos ⟨may_1 _ _ (by omega), may_1 _ _ (by omega)⟩, both_2]; rfl
theorem aw_form : FormOf awF.O 4 ([(1, 8)], 64) := by
 have f1 : FormOf awF.O 1 ([(1, 1)], 0) := .none rfl
 have f2 : FormOf awF.O 2 ([], 8) := .const (o := ⟨0, 64, 1, 2, [], 8⟩) rfl rfl rfl rfl
 have f3 := FormOf.two (O := awF.O) (v := 3) (o := ⟨1, 64, 1, 3, [1, 2], 0⟩) rfl rfl rfl (by decide) (by decide) rfl f1 f2
 have e3 : capF 3 (twoF 1 ([(1, 1)], 0) ([], 8)) = ([(1, 1)], 8) := by unfold twoF; rw [if_pos rfl, v_p1]; rfl
 simp only [e3] at f3
 have f4 := FormOf.two (O := awF.O) (v := 4) (o := ⟨3, 64, 1, 4, [2, 3], 0⟩) rfl rfl rfl (by decide) (by decide) rfl f2 f3
 have e4 : capF 4 (twoF 3 ([], 8) ([(1, 1)], 8)) = ([(1, 8)], 64) := by unfold twoF; rw [if_neg (by decide), if_neg (by decide), if_neg (by simp), if_pos ⟨rfl, rfl⟩, v_t1]; rfl
 simp only [e4] at f4
 exact f4
theorem awake_run (hTree : TreeOne) (h : LS.Heap) : callD T 15 [] h = some (.bool true, h) := by
 have e1 := Of_yes hTree awF aw_right 4 h aw_D4 rfl rfl aw_form (aw_cases (by decide) (by decide) (by decide))
 have e2 := Of_no hTree awF aw_right 5 h (fun d hd => by rw [aw_D5] at hd; cases hd)
 have p1 := Plus_run .exact .exact [(1, 8)] [(1, 8)] 64 64 (by simp) (by simp) h
 have p2 := Minus_run .exact .exact [(1, 8)] [(1, 8)] 64 64 (by simp) (by simp) h
 have p3 := Times_run .exact [(1, 8)] 64 2 (by simp) h
 have p4 := May_run .exact [(1, 8)] 64 (by simp) h
 have p5 := Same_run .ro .exact [(1, 8)] [(1, 8)] 64 64 (by simp) (by simp) h
 have p6 := Same_run .ro .nil [] [] 0 0 (by simp) (by simp) h
 rw [v_p2] at p1
 rw [v_m2] at p2
 rw [v_t2] at p3
 simp only [formC] at p1 p2 p3 p4 p5 p6
 have hf : awF.f.c = [.lst .ro [[.int .i64 64]], .int .i64 64, .lst .ro [[.lst .ro [], .lst .ro [[.int .i64 0, .int .i64 64, .int .i64 1, .int .i64 2, .lst .ro [], .int .u64 8], [.int .i64 1, .int .i64 64, .int .i64 1, .int .i64 3, .lst .ro [[.int .i64 1], [.int .i64 2]], .int .u64 0], [.int .i64 3, .int .i64 64, .int .i64 1, .int .i64 4, .lst .ro [[.int .i64 2], [.int .i64 3]], .int .u64 0]], .int .i64 0, .int .i64 4, .lst .ro []]]] := rfl
 rw [hf] at e1 e2
 simp only [formV] at e1 e2
 have t1 : terms [(1, 8)] = [[.int .i64 1, .int .u64 8]] := rfl
 have t2 : terms [(1, 16)] = [[.int .i64 1, .int .u64 16]] := rfl
 rw [t1] at e1 p1 p2 p3 p4 p5
 rw [t2] at p1 p3
 rw [terms_nil] at e2 p2 p6
 have m1 : mayL 0 [(1, 8)] = true := may_1 _ _ (by omega)
 rw [m1] at p4
 refine W_call t15 rfl rfl (by simp) ?_
 show W T c15 _ _
 unfold c15
 have hq : ∀ v, callD T 17 [.agg [.lst .exact [[.int .i64 64]], .int .i64 64, .lst .exact [[.lst .nil [], .lst .exact [[.int .i64 0, .int .i64 64, .int .i64 1, .int .i64 2, .lst .nil [], .int .u64 8], [.int .i64 1, .int .i64 64, .int .i64 1, .int .i64 3, .lst .exact [[.int .i64 1], [.int .i64 2]], .int .u64 0], [.int .i64 3, .int .i64 64, .int .i64 1, .int .i64 4, .lst .exact [[.int .i64 2], [.int .i64 3]], .int .u64 0]], .int .i64 0, .int .i64 4, .lst .nil []]]], .int .i64 v] h = _ :=
  fun v => callD_retag t17 rfl rfl (by simp) (args' := [.agg [.lst .ro [[.int .i64 64]], .int .i64 64, .lst .ro [[.lst .ro [], .lst .ro [[.int .i64 0, .int .i64 64, .int .i64 1, .int .i64 2, .lst .ro [], .int .u64 8], [.int .i64 1, .int .i64 64, .int .i64 1, .int .i64 3, .lst .ro [[.int .i64 1], [.int .i64 2]], .int .u64 0], [.int .i64 3, .int .i64 64, .int .i64 1, .int .i64 4, .lst .ro [[.int .i64 2], [.int .i64 3]], .int .u64 0]], .int .i64 0, .int .i64 4, .lst .ro []]]], .int .i64 v]) (by simp) (by simp)
 have g1 := (hq 4).trans e1
 have g2 := (hq 5).trans e2
 refine W_seq (W_ops (s1 := ?_) (by simp only [r15_0]; simp [a15]; exact rfl) ?_)
 refine W_seq (W_ops (s1 := ?_) (by simp only [r15_1]; simp [nextVer]; exact rfl) ?_)
 refine W_seq (W_ops (s1 := ?_) (by simp only [r15_2]; simp [nextVer, g1]; exact rfl) ?_)
 refine W_seq (W_ops (s1 := ?_) (by simp only [r15_3]; simp [nextVer, g2]; exact rfl) ?_)
 refine W_seq (W_ops (s1 := ?_) (by simp only [r15_4]; simp [nextVer]; exact rfl) ?_)
 refine W_seq (W_ops (s1 := ?_) (by simp only [r15_5]; simp [p1, p2, p3, p4, p5, p6]; exact rfl) (W_ret ?_))
 exact ⟨.inr rfl, [.bool true], by simp [a15, resV, resV1], by simp [a15, packV], rfl, .refl _⟩

end Go.Proofs.YtpbngohpklpalaaGreat
