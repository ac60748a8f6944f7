/- A part of the proof: an abstract machine for the program's code and what each of its functions comes to there. No conditions. -/
import Derived.Test.YtcngflmnbdcppaaGreatP10
import Derived.Test.YtcngflmnbdcppaaGreatRows

set_option linter.unusedSimpArgs false
set_option linter.unusedVariables false

/- The shapes of a straight function that is right. -/
namespace Go.Proofs.YtcngflmnbdcppaaGreat
open Go.LS Go.IntWalk

def DefD.sh (d : DefD) : V := .agg [.int .i64 d.bits, .int .i64 d.lanes]
def shapesV (D : Int → Option DefD) : Int → Option V := fun j => (D j).map DefD.sh

theorem dead_shapes {i : Nat} (h : deadR 21 22 23 r29_7 i = false) : i ≠ 21 ∧ i ≠ 22 ∧ i ≠ 23 ∧ i ≠ 24 ∧ i ≠ 25 ∧ i ≠ 7 ∧ i ≠ 6 ∧ i ≠ 26 ∧ i ≠ 27 ∧ i ≠ 28 ∧ i ≠ 29 := by
  simp [deadR, r29_7] at h
  omega

theorem shapes_rounds {s0 : St} {m2 it m : Nat} {D : Int → Option DefD} (h5 : s0.t 5 = .map (some m2)) (h20 : s0.t 20 = .obj it 0) (l7 : s0.loc 7 = none) :
    ∀ (ks vis : List Int) (s : St), (∀ n ∈ ks, D n ≠ none) → s.t 20 = .obj it 0 → (∀ i, deadR 21 22 23 r29_7 i = false → s.t i = s0.t i) → (∀ sl c, s0.loc sl = some c → s.loc sl = some c) →
      s.h = s0.h.set m2 (.map .i64 (fun j => if j ∈ vis then (D j).map DefD.sh else none)) →
      rangeRun m .i64 (defsV D) it 20 21 22 23 r29_7 s0 ks s = some ⟨fun i => if i = 22 then .bool false else if deadR 21 22 23 r29_7 i then .undef else s0.t i, s0.loc,
        (s0.h.set m2 (.map .i64 (fun j => if j ∈ vis ++ ks then (D j).map DefD.sh else none))).set m (.map .i64 (defsV D))⟩
  | [], vis, s, _, ht, hd, hl, hh => by
    simp only [rangeRun]
    rw [if_pos ⟨ht, hd, hl⟩, hh, List.append_nil]
  | n :: ks, vis, s, hk, ht, hd, hl, hh => by
    obtain ⟨d, hdn⟩ : ∃ d, D n = some d := by
      cases hq : D n with
      | none => exact absurd hq (hk n (List.mem_cons_self ..))
      | some d => exact ⟨d, rfl⟩
    have hv : defsV D n = some (.agg [.int .i64 d.block, .int .i64 d.at_, .int .i64 d.bits, .int .i64 d.lanes]) := by simp [defsV, hdn, DefD.v]
    have t5 : s.t 5 = .map (some m2) := by rw [hd 5 (by rfl)]; exact h5
    obtain ⟨t, loc, h⟩ := s
    simp only at ht hd hl hh t5
    have hob : h.objs m2 = some (.map .i64 (fun j => if j ∈ vis then (D j).map DefD.sh else none)) := by rw [hh]; simp [Heap.set, upd]
    have hset : h.set m2 (.map .i64 (fun j => if j = n then some (.agg [.int .i64 d.bits, .int .i64 d.lanes]) else if j ∈ vis then (D j).map DefD.sh else none)) = s0.h.set m2 (.map .i64 (fun j => if j ∈ vis ++ [n] then (D j).map DefD.sh else none)) := by
      rw [hh]
      simp only [Heap.set]
      congr 1
      funext i
      simp only [upd]
      split
      · congr 2
        funext j
        by_cases e : j = n
        · subst e; simp [hdn, DefD.sh]
        · simp [e]
      · rfl
    have hrun : ∃ s', runOps (fun _ _ _ => none) r29_7 ⟨upd (upd (upd t 21 .undef) 22 (.bool true)) 23 (.tup [.int .i64 n, .agg [.int .i64 d.block, .int .i64 d.at_, .int .i64 d.bits, .int .i64 d.lanes]]), loc, h⟩ = some s' ∧
        s'.t 20 = .obj it 0 ∧ (∀ i, deadR 21 22 23 r29_7 i = false → s'.t i = s0.t i) ∧ (∀ sl c, s0.loc sl = some c → s'.loc sl = some c) ∧ s'.h = s0.h.set m2 (.map .i64 (fun j => if j ∈ vis ++ [n] then (D j).map DefD.sh else none)) := by
      refine ⟨_, by simp only [r29_7]; simp [t5, hob]; exact rfl, by simp [ht], fun i hi => ?_, fun sl c hc => ?_, hset⟩
      · obtain ⟨q1, q2, q3, q4, q5, q6, q7, q8, q9, q10, q11⟩ := dead_shapes hi
        simp [q1, q2, q3, q4, q5, q6, q7, q8, q9, q10, q11, hd i hi]
      · have q : sl ≠ 7 := fun e => by rw [e, l7] at hc; cases hc
        simp [q, hl sl c hc]
    obtain ⟨s', r1, r2, r3, r4, r5⟩ := hrun
    simp only [rangeRun]
    rw [if_pos ht]
    simp only [hv, r1]
    rw [shapes_rounds h5 h20 l7 ks (vis ++ [n]) s' (fun j hj => hk j (List.mem_cons_of_mem _ hj)) r2 r3 r4 r5]
    simp

theorem Dp_enum (ps : List Int) : ∀ i, ∃ ks, Enum (defsV (Dp ps i)) ks
  | 0 => ⟨[], Enum.nil⟩
  | i + 1 => by
    obtain ⟨ks, h⟩ := Dp_enum ps i
    refine ⟨((i : Int) + 1) :: ks, ?_⟩
    have := Enum.cons h (v := (i : Int) + 1) (d := DefD.v ⟨-1, 0, ps.getD i 0, 1⟩) (by simp [defsV, Dp_none ps i _ (by omega : (i : Int) < (i : Int) + 1)])
    have e : defsV (Dp ps (i + 1)) = fun j => if j = (i : Int) + 1 then some (DefD.v ⟨-1, 0, ps.getD i 0, 1⟩) else defsV (Dp ps i) j := by
      funext j
      simp only [defsV, Dp]
      split <;> rfl
    rw [e]; exact this

theorem Do_enum (x : Straight) (honce : ∀ k (hk : k < x.ops.length), 0 < (giveM x.ops[k]).1 → Do x k x.ops[k].dst = none) : ∀ k, k ≤ x.ops.length → ∃ ks, Enum (defsV (Do x k)) ks
  | 0, _ => Dp_enum _ _
  | k + 1, hk => by
    obtain ⟨ks, h⟩ := Do_enum x honce k (by omega)
    have hk' : k < x.ops.length := by omega
    by_cases hg : 0 < (giveM x.ops[k]).1
    · have e : Do x (k + 1) = fun j => if j = x.ops[k].dst then some ⟨0, k, (giveM x.ops[k]).1, (giveM x.ops[k]).2⟩ else Do x k j := by simp [Do, hk', hg]
      refine ⟨x.ops[k].dst :: ks, ?_⟩
      have := Enum.cons h (v := x.ops[k].dst) (d := DefD.v ⟨0, k, (giveM x.ops[k]).1, (giveM x.ops[k]).2⟩) (by simp [defsV, honce k hk' hg])
      have e2 : defsV (Do x (k + 1)) = fun j => if j = x.ops[k].dst then some (DefD.v ⟨0, k, (giveM x.ops[k]).1, (giveM x.ops[k]).2⟩) else defsV (Do x k) j := by
        rw [e]
        funext j
        simp only [defsV]
        split <;> rfl
      rw [e2]; exact this
    · have e : Do x (k + 1) = Do x k := by simp [Do, hk', hg]
      exact ⟨ks, by rw [e]; exact h⟩

theorem Shapes_run (hTree : TreeOne) (x : Straight) (R : x.Right) (h : LS.Heap) :
    ∃ h' m, callD T 29 [.agg x.f.c] h = some (.map (some m), h') ∧ HExt h h' ∧ h.next ≤ m ∧ m < h'.next ∧ h'.objs m = some (.map .i64 (shapesV x.D)) := by
  have hfc : x.f.c = [.lst .ro (x.ps.map intC), .int .i64 x.ret, .lst .ro [[.lst .ro [], .lst .ro (x.ops.map OpD.c), .int .i64 0, .int .i64 x.arg, .lst .ro []]]] := rfl
  obtain ⟨h1, m, e1, x1, g1, g2, ⟨l1, l2, l3, l4, l5, l6, l7, c1⟩, m1⟩ := look_run hTree x R h
  obtain ⟨ks0, hks0⟩ := Do_enum x R.once x.ops.length (Nat.le_refl _)
  have key : ∀ h' : LS.Heap, True := fun _ => trivial
  suffices hw : ∃ h', callD T 29 [.agg x.f.c] h = some (.map (some h1.next), h') ∧ (HExt h h' ∧ h1.next < h'.next ∧ h'.objs h1.next = some (.map .i64 (shapesV x.D))) by
    obtain ⟨h', q1, q2, q3, q4⟩ := hw
    exact ⟨h', h1.next, q1, q2, x1.1, q3, q4⟩
  rw [hfc] at e1 ⊢
  have hne : h.next ≠ h1.next := by omega
  have hnm : m ≠ h1.next := by omega
  refine W_callE t29 rfl rfl (by simp) ?_
  show W T c29 _ _
  unfold c29
  refine W_seq (W_ops (s1 := ?_) (by simp only [r29_0]; simp [a29, nextVer]; exact rfl) ?_)
  refine W_seq (W_ops (s1 := ?_) (by simp only [r29_1]; simp [e1]; exact rfl) ?_)
  repeat' (first
    | refine W_seq ?_
    | refine W_skip ?_
    | refine W_block ?_
    | refine W_ret ?_
    | refine W_exit ?_
    | refine W_ops (s1 := ?_) (by simp only [r29_0, r29_1, r29_2, r29_3, r29_4, r29_5, r29_7, r29_9]; simp; exact rfl) ?_
    | refine W_tops (s1 := ?_) (by simp only [r29_0, r29_1, r29_2, r29_3, r29_4, r29_5, r29_7, r29_9]; simp; exact rfl) ?_
    | refine W_cond_t (by first | (simp; done) | fail) ?_
    | refine W_cond_f (by first | (simp; done) | fail) ?_
    | fail)
  generalize hS : (St.mk (upd _ _ _) _ _ : St) = sA
  have hpre : ∃ s1, runOps (callD T) r29_5 sA = some s1 ∧ s1.t 19 = .map (some m) ∧ s1.t 5 = .map (some h1.next) ∧ s1.loc 7 = none ∧ s1.h = h1.new (.map .i64 fun _ => none) := by
    rw [← hS]
    refine ⟨_, by simp only [r29_5]; simp [Heap.new, hne, c1]; exact rfl, by simp, by simp, by simp, by simp [Heap.new]⟩
  clear hS
  obtain ⟨s1, p1, p2, p3, p4, p5⟩ := hpre
  have hm1 : s1.h.objs m = some (.map .i64 (defsV x.D)) := by rw [p5, new_objs_old g2]; exact m1
  have hm2 : s1.h.objs h1.next = some (.map .i64 fun _ => none) := by rw [p5]; exact new_objs_new _ _
  refine W_rangeM p1 (m := .t 19) p2 hm1 ⟨ks0, hks0⟩ (s2 := ⟨fun i => if i = 22 then .bool false else if deadR 21 22 23 r29_7 i then .undef else (rangeSt m 20 s1).t i, s1.loc,
    ((rangeSt m 20 s1).h.set h1.next (.map .i64 (shapesV x.D))).set m (.map .i64 (defsV x.D))⟩) (fun ks hks => ?_) ?_
  · have hk : ∀ n ∈ ks, x.D n ≠ none := fun n hn h0 => (hks.2 n).1 hn (by simp [defsV, h0])
    have hstart : (rangeSt m 20 s1).h = (rangeSt m 20 s1).h.set h1.next (.map .i64 (fun j => if j ∈ ([] : List Int) then (x.D j).map DefD.sh else none)) := by
      have : (rangeSt m 20 s1).h.objs h1.next = some (.map .i64 fun _ => none) := by
        simp only [rangeSt, Heap.kill, upd]
        rw [if_neg (Ne.symm hnm)]
        exact hm2
      unfold Heap.set
      have e : upd (rangeSt m 20 s1).h.objs h1.next (some (.map .i64 (fun j => if j ∈ ([] : List Int) then (x.D j).map DefD.sh else none))) = (rangeSt m 20 s1).h.objs := by
        funext i
        simp only [upd]
        split
        · rename_i hi; subst hi; rw [this]; simp
        · rfl
      rw [e]
    have := shapes_rounds (s0 := rangeSt m 20 s1) (m2 := h1.next) (it := s1.h.next) (m := m) (D := x.D) (by simp [rangeSt, p3]) (by simp [rangeSt]) (by simp [rangeSt, p4]) ks [] (rangeSt m 20 s1) hk (by simp [rangeSt]) (fun _ _ => rfl) (fun _ _ h => h) hstart
    rw [this]
    have hfun : (fun j => if j ∈ ([] : List Int) ++ ks then (x.D j).map DefD.sh else none) = shapesV x.D := by
      funext j
      simp only [List.nil_append, shapesV]
      split
      · rfl
      · rename_i hj
        cases hq : x.D j with
        | none => rfl
        | some d => exact absurd ((hks.2 j).2 (by simp [defsV, hq])) hj
    rw [hfun]
    rfl
  · have hd5 : deadR 21 22 23 r29_7 5 = false := rfl
    generalize deadR 21 22 23 r29_7 = dd at hd5 ⊢
    repeat' (first
      | refine W_seq ?_
      | refine W_skip ?_
      | refine W_block ?_
      | refine W_ret ?_
      | refine W_exit ?_
      | refine W_ops (s1 := ?_) (by simp only [r29_0, r29_1, r29_2, r29_3, r29_4, r29_5, r29_7, r29_9]; simp; exact rfl) ?_
      | refine W_tops (s1 := ?_) (by simp only [r29_0, r29_1, r29_2, r29_3, r29_4, r29_5, r29_7, r29_9]; simp; exact rfl) ?_
      | refine W_cond_t (by first | (simp; done) | fail) ?_
      | refine W_cond_f (by first | (simp; done) | fail) ?_
      | fail)
    have hn1 : s1.h.next = h1.next + 1 := by rw [p5]; rfl
    refine ⟨.inr rfl, [.map (some h1.next)], ?_, by simp [a29, packV], ⟨?_, fun id hid => ?_⟩, ?_, ?_⟩
    · simp [a29, resV, resV1, hd5, rangeSt, p3]
    · have := x1.1
      simp only [Heap.set, rangeSt]
      omega
    · have q1 : id ≠ m := by omega
      have q2 : id ≠ h1.next := by omega
      have q3 : id < h1.next := by have := x1.1; omega
      simp only [Heap.set, rangeSt, Heap.kill, upd, q1, q2, if_false]
      rw [p5, new_objs_old q3, x1.2 id hid]
    · simp only [Heap.set, rangeSt]
      omega
    · simp only [Heap.set, upd, Ne.symm hnm, if_false, if_true]

end Go.Proofs.YtcngflmnbdcppaaGreat

/- Finding forms: each value's form, by its operation. -/
namespace Go.Proofs.YtcngflmnbdcppaaGreat
open Go.LS Go.IntWalk

abbrev FormD := List (Int × Int) × Int
def ownF (v : Int) : FormD := ([(v, 1)], 0)
def shlU (n : Int) : Int := IntKind.u64.wrap (1 * 2 ^ min n.toNat 64)

/-- The form of an operation of two, by theirs. -/
def twoF (k : Int) (A B : FormD) : Option FormD :=
  if k = 1 then some (plusM A.1 B.1 A.2 B.2)
  else if k = 2 then some (minusM A.1 B.1 A.2 B.2)
  else if k = 3 ∧ B.1 = [] then some (timesM A.1 A.2 B.2)
  else if k = 3 ∧ A.1 = [] then some (timesM B.1 B.2 A.2)
  else if k = 8 ∧ B.1 = [] ∧ B.2 < 64 then some (timesM A.1 A.2 (shlU B.2))
  else none

def capF (v : Int) : Option FormD → FormD
  | none => ownF v
  | some F => if 16 < F.1.length then ownF v else F

/-- The form of a value. -/
inductive FormOf (O : Int → Option OpD) : Int → FormD → Prop
  | none {v : Int} (h : O v = none) : FormOf O v (ownF v)
  | narrow {v : Int} {o : OpD} (h : O v = some o) (hn : o.bits ≠ 64 ∨ o.lanes ≠ 1) : FormOf O v (ownF v)
  | const {v : Int} {o : OpD} (h : O v = some o) (hb : o.bits = 64) (hl : o.lanes = 1) (hk : o.kind = 0) : FormOf O v ([], o.imm)
  | other {v : Int} {o : OpD} (h : O v = some o) (hb : o.bits = 64) (hl : o.lanes = 1) (h0 : o.kind ≠ 0) (hk : o.kind < 1 ∨ 8 < o.kind) : FormOf O v (ownF v)
  | two {v : Int} {o : OpD} {a b : Int} {rest : List Int} {A B : FormD} (h : O v = some o) (hb : o.bits = 64) (hl : o.lanes = 1) (hk1 : 1 ≤ o.kind) (hk2 : o.kind ≤ 8) (ha : o.args = a :: b :: rest) (hA : FormOf O a A) (hB : FormOf O b B) :
      FormOf O v (capF v (twoF o.kind A B))

theorem FormOf.short {O : Int → Option OpD} {v : Int} {F : FormD} (h : FormOf O v F) : F.1.length ≤ 16 := by
  cases h with
  | two =>
    unfold capF
    split
    · simp [ownF]
    · split
      · simp [ownF]
      · omega
  | _ => simp [ownF]

theorem FormOf.unique {O : Int → Option OpD} {v : Int} {F : FormD} (h : FormOf O v F) : ∀ {G : FormD}, FormOf O v G → F = G := by
  induction h with
  | none h =>
    intro G g
    cases g with
    | none _ => rfl
    | narrow h' _ => exact absurd (h.symm.trans h') (by simp)
    | const h' _ _ _ => exact absurd (h.symm.trans h') (by simp)
    | other h' _ _ _ _ => exact absurd (h.symm.trans h') (by simp)
    | two h' _ _ _ _ _ _ _ => exact absurd (h.symm.trans h') (by simp)
  | narrow h hn =>
    intro G g
    cases g with
    | none h' => exact absurd (h.symm.trans h') (by simp)
    | narrow h' _ => rfl
    | const h' hb hl _ => rw [h] at h'; injection h' with h'; subst h'; omega
    | other h' hb hl _ _ => rfl
    | two h' hb hl _ _ _ _ _ => rw [h] at h'; injection h' with h'; subst h'; omega
  | const h hb hl hk =>
    intro G g
    cases g with
    | none h' => exact absurd (h.symm.trans h') (by simp)
    | narrow h' hn => rw [h] at h'; injection h' with h'; subst h'; omega
    | const h' _ _ _ => rw [h] at h'; injection h' with h'; subst h'; rfl
    | other h' _ _ h0 _ => rw [h] at h'; injection h' with h'; subst h'; exact absurd hk h0
    | two h' _ _ k1 _ _ _ _ => rw [h] at h'; injection h' with h'; subst h'; omega
  | other h hb hl h0 hk =>
    intro G g
    cases g with
    | none h' => exact absurd (h.symm.trans h') (by simp)
    | narrow h' hn => rfl
    | const h' _ _ k => rw [h] at h'; injection h' with h'; subst h'; exact absurd k h0
    | other h' _ _ _ _ => rfl
    | two h' _ _ k1 k2 _ _ _ => rw [h] at h'; injection h' with h'; subst h'; omega
  | two h hb hl k1 k2 ha hA hB ihA ihB =>
    intro G g
    cases g with
    | none h' => exact absurd (h.symm.trans h') (by simp)
    | narrow h' hn => rw [h] at h'; injection h' with h'; subst h'; omega
    | const h' _ _ k => rw [h] at h'; injection h' with h'; subst h'; omega
    | other h' _ _ _ k => rw [h] at h'; injection h' with h'; subst h'; omega
    | two h' _ _ _ _ ha' hA' hB' =>
      rw [h] at h'
      injection h' with h'
      subst h'
      rw [ha] at ha'
      injection ha' with e1 e2
      injection e2 with e2 e3
      subst e1 e2
      rw [ihA hA', ihB hB']

def formV (F : FormD) : V := .agg [.lst .ro (terms F.1), .int .u64 F.2]
def opsV (O : Int → Option OpD) : Int → Option V := fun j => (O j).map fun o => .agg o.c
def formsV (Φ : Int → Option FormD) : Int → Option V := fun j => (Φ j).map formV

/-- A finder: its operations, and what it has found. -/
structure Finds (h : LS.Heap) (c m1 m2 : Nat) (O : Int → Option OpD) (Φ : Int → Option FormD) : Prop where
  obj : h.objs c = some (.var [.map (some m1), .map (some m2)])
  ops : h.objs m1 = some (.map .i64 (opsV O))
  forms : h.objs m2 = some (.map .i64 (formsV Φ))
  n1 : c ≠ m2
  n2 : m1 ≠ m2
  sound : ∀ u G, Φ u = some G → FormOf O u G

theorem set_set (h : LS.Heap) (id : Nat) (a b : AObj) : (h.set id a).set id b = h.set id b := by
  simp only [Heap.set]
  congr 1
  funext i
  simp only [upd]
  split <;> rfl
theorem set_same {h : LS.Heap} {id : Nat} {a : AObj} (hid : h.objs id = some a) : h.set id a = h := by
  unfold Heap.set
  have : upd h.objs id (some a) = h.objs := by
    funext i
    simp only [upd]
    split
    · rename_i e; rw [e, hid]
    · rfl
  rw [this]
theorem Finds.set {h : LS.Heap} {c m1 m2 : Nat} {O : Int → Option OpD} {Φ Φ' : Int → Option FormD} (k : Finds h c m1 m2 O Φ) (hs : ∀ u G, Φ' u = some G → FormOf O u G) : Finds (h.set m2 (.map .i64 (formsV Φ'))) c m1 m2 O Φ' := by
  obtain ⟨a, b, d, n1, n2, _⟩ := k
  refine ⟨?_, ?_, ?_, n1, n2, hs⟩
  · simp only [Heap.set, upd]; rw [if_neg n1]; exact a
  · simp only [Heap.set, upd]; rw [if_neg n2]; exact b
  · simp only [Heap.set, upd, if_true]

section
variable {h : LS.Heap} {c m1 m2 : Nat} {O : Int → Option OpD} {Φ : Int → Option FormD} {v : Int}

theorem made_none (k : Finds h c m1 m2 O Φ) (ho : O v = none) : callD T 39 [.obj c 0, .int .i64 v] h = some (.tup [formV ([], 0), .bool false], h) := by
  have e1 := k.obj
  have e2 := k.ops
  have e3 : opsV O v = none := by simp [opsV, ho]
  refine W_callH t39 rfl rfl (by simp) ?_
  show W T c39 _ _
  unfold c39
  repeat' (first
    | refine W_seq ?_
    | refine W_skip ?_
    | refine W_block ?_
    | refine W_ret ?_
    | refine W_exit ?_
    | refine W_ops (s1 := ?_) (by simp only [r39_0, r39_1, r39_2, r39_3, r39_4, r39_5, r39_6, r39_7, r39_8, r39_9, r39_10, r39_11, r39_12, r39_13, r39_14, r39_15, r39_16, r39_17, r39_18, r39_19]; simp [a39, nextVer, e1, e2, e3]; exact rfl) ?_
    | refine W_tops (s1 := ?_) (by simp only [r39_0, r39_1, r39_2, r39_3, r39_4, r39_5, r39_6, r39_7, r39_8, r39_9, r39_10, r39_11, r39_12, r39_13, r39_14, r39_15, r39_16, r39_17, r39_18, r39_19]; simp [a39, nextVer, e1, e2, e3]; exact rfl) ?_
    | refine W_cond_t (by first | (simp [a39, nextVer, e1, e2, e3]; done) | fail) ?_
    | refine W_cond_f (by first | (simp [a39, nextVer, e1, e2, e3]; done) | fail) ?_
    | fail)
  exact ⟨.inr rfl, _, by simp [a39, resV, resV1]; exact rfl, by simp [a39, packV, formV, terms_nil], rfl⟩

theorem made_narrow {o : OpD} (k : Finds h c m1 m2 O Φ) (ho : O v = some o) (hn : o.bits ≠ 64 ∨ o.lanes ≠ 1) : callD T 39 [.obj c 0, .int .i64 v] h = some (.tup [formV ([], 0), .bool false], h) := by
  have e1 := k.obj
  have e2 := k.ops
  have e3 : opsV O v = some (.agg [.int .i64 o.kind, .int .i64 o.bits, .int .i64 o.lanes, .int .i64 o.dst, .lst .ro (o.args.map intC), .int .u64 o.imm]) := by simp [opsV, ho]; rfl
  refine W_callH t39 rfl rfl (by simp) ?_
  show W T c39 _ _
  unfold c39
  by_cases hb : o.bits = 64
  · have hl : o.lanes ≠ 1 := by omega
    repeat' (first
      | refine W_seq ?_
      | refine W_skip ?_
      | refine W_block ?_
      | refine W_ret ?_
      | refine W_exit ?_
      | refine W_ops (s1 := ?_) (by simp only [r39_0, r39_1, r39_2, r39_3, r39_4, r39_5, r39_6, r39_7, r39_8, r39_9, r39_10, r39_11, r39_12, r39_13, r39_14, r39_15, r39_16, r39_17, r39_18, r39_19]; simp [a39, nextVer, e1, e2, e3, hb, hl]; exact rfl) ?_
      | refine W_tops (s1 := ?_) (by simp only [r39_0, r39_1, r39_2, r39_3, r39_4, r39_5, r39_6, r39_7, r39_8, r39_9, r39_10, r39_11, r39_12, r39_13, r39_14, r39_15, r39_16, r39_17, r39_18, r39_19]; simp [a39, nextVer, e1, e2, e3, hb, hl]; exact rfl) ?_
      | refine W_cond_t (by first | (simp [a39, nextVer, e1, e2, e3, hb, hl]; done) | fail) ?_
      | refine W_cond_f (by first | (simp [a39, nextVer, e1, e2, e3, hb, hl]; done) | fail) ?_
      | fail)
    exact ⟨.inr rfl, _, by simp [a39, resV, resV1]; exact rfl, by simp [a39, packV, formV, terms_nil], rfl⟩
  · skip
    repeat' (first
      | refine W_seq ?_
      | refine W_skip ?_
      | refine W_block ?_
      | refine W_ret ?_
      | refine W_exit ?_
      | refine W_ops (s1 := ?_) (by simp only [r39_0, r39_1, r39_2, r39_3, r39_4, r39_5, r39_6, r39_7, r39_8, r39_9, r39_10, r39_11, r39_12, r39_13, r39_14, r39_15, r39_16, r39_17, r39_18, r39_19]; simp [a39, nextVer, e1, e2, e3, hb]; exact rfl) ?_
      | refine W_tops (s1 := ?_) (by simp only [r39_0, r39_1, r39_2, r39_3, r39_4, r39_5, r39_6, r39_7, r39_8, r39_9, r39_10, r39_11, r39_12, r39_13, r39_14, r39_15, r39_16, r39_17, r39_18, r39_19]; simp [a39, nextVer, e1, e2, e3, hb]; exact rfl) ?_
      | refine W_cond_t (by first | (simp [a39, nextVer, e1, e2, e3, hb]; done) | fail) ?_
      | refine W_cond_f (by first | (simp [a39, nextVer, e1, e2, e3, hb]; done) | fail) ?_
      | fail)
    exact ⟨.inr rfl, _, by simp [a39, resV, resV1]; exact rfl, by simp [a39, packV, formV, terms_nil], rfl⟩

theorem made_const {o : OpD} (k : Finds h c m1 m2 O Φ) (ho : O v = some o) (hb : o.bits = 64) (hl : o.lanes = 1) (hk : o.kind = 0) : callD T 39 [.obj c 0, .int .i64 v] h = some (.tup [formV ([], o.imm), .bool true], h) := by
  have e1 := k.obj
  have e2 := k.ops
  have e3 : opsV O v = some (.agg [.int .i64 o.kind, .int .i64 o.bits, .int .i64 o.lanes, .int .i64 o.dst, .lst .ro (o.args.map intC), .int .u64 o.imm]) := by simp [opsV, ho]; rfl
  refine W_callH t39 rfl rfl (by simp) ?_
  show W T c39 _ _
  unfold c39
  repeat' (first
    | refine W_seq ?_
    | refine W_skip ?_
    | refine W_block ?_
    | refine W_ret ?_
    | refine W_exit ?_
    | refine W_ops (s1 := ?_) (by simp only [r39_0, r39_1, r39_2, r39_3, r39_4, r39_5, r39_6, r39_7, r39_8, r39_9, r39_10, r39_11, r39_12, r39_13, r39_14, r39_15, r39_16, r39_17, r39_18, r39_19]; simp [a39, nextVer, e1, e2, e3, hb, hl, hk]; exact rfl) ?_
    | refine W_tops (s1 := ?_) (by simp only [r39_0, r39_1, r39_2, r39_3, r39_4, r39_5, r39_6, r39_7, r39_8, r39_9, r39_10, r39_11, r39_12, r39_13, r39_14, r39_15, r39_16, r39_17, r39_18, r39_19]; simp [a39, nextVer, e1, e2, e3, hb, hl, hk]; exact rfl) ?_
    | refine W_cond_t (by first | (simp [a39, nextVer, e1, e2, e3, hb, hl, hk]; done) | fail) ?_
    | refine W_cond_f (by first | (simp [a39, nextVer, e1, e2, e3, hb, hl, hk]; done) | fail) ?_
    | fail)
  exact ⟨.inr rfl, _, by simp [a39, resV, resV1]; exact rfl, by simp [a39, packV, formV, terms_nil], rfl⟩

theorem made_other {o : OpD} (k : Finds h c m1 m2 O Φ) (ho : O v = some o) (hb : o.bits = 64) (hl : o.lanes = 1) (h0 : o.kind ≠ 0) (hk : o.kind < 1 ∨ 8 < o.kind) : callD T 39 [.obj c 0, .int .i64 v] h = some (.tup [formV ([], 0), .bool false], h) := by
  have e1 := k.obj
  have e2 := k.ops
  have e3 : opsV O v = some (.agg [.int .i64 o.kind, .int .i64 o.bits, .int .i64 o.lanes, .int .i64 o.dst, .lst .ro (o.args.map intC), .int .u64 o.imm]) := by simp [opsV, ho]; rfl
  refine W_callH t39 rfl rfl (by simp) ?_
  show W T c39 _ _
  unfold c39
  by_cases h1 : o.kind < 1
  · skip
    repeat' (first
      | refine W_seq ?_
      | refine W_skip ?_
      | refine W_block ?_
      | refine W_ret ?_
      | refine W_exit ?_
      | refine W_ops (s1 := ?_) (by simp only [r39_0, r39_1, r39_2, r39_3, r39_4, r39_5, r39_6, r39_7, r39_8, r39_9, r39_10, r39_11, r39_12, r39_13, r39_14, r39_15, r39_16, r39_17, r39_18, r39_19]; simp [a39, nextVer, e1, e2, e3, hb, hl, h0, h1]; exact rfl) ?_
      | refine W_tops (s1 := ?_) (by simp only [r39_0, r39_1, r39_2, r39_3, r39_4, r39_5, r39_6, r39_7, r39_8, r39_9, r39_10, r39_11, r39_12, r39_13, r39_14, r39_15, r39_16, r39_17, r39_18, r39_19]; simp [a39, nextVer, e1, e2, e3, hb, hl, h0, h1]; exact rfl) ?_
      | refine W_cond_t (by first | (simp [a39, nextVer, e1, e2, e3, hb, hl, h0, h1]; done) | fail) ?_
      | refine W_cond_f (by first | (simp [a39, nextVer, e1, e2, e3, hb, hl, h0, h1]; done) | fail) ?_
      | fail)
    exact ⟨.inr rfl, _, by simp [a39, resV, resV1]; exact rfl, by simp [a39, packV, formV, terms_nil], rfl⟩
  · have h8 : 8 < o.kind := by omega
    repeat' (first
      | refine W_seq ?_
      | refine W_skip ?_
      | refine W_block ?_
      | refine W_ret ?_
      | refine W_exit ?_
      | refine W_ops (s1 := ?_) (by simp only [r39_0, r39_1, r39_2, r39_3, r39_4, r39_5, r39_6, r39_7, r39_8, r39_9, r39_10, r39_11, r39_12, r39_13, r39_14, r39_15, r39_16, r39_17, r39_18, r39_19]; simp [a39, nextVer, e1, e2, e3, hb, hl, h0, h1, h8]; exact rfl) ?_
      | refine W_tops (s1 := ?_) (by simp only [r39_0, r39_1, r39_2, r39_3, r39_4, r39_5, r39_6, r39_7, r39_8, r39_9, r39_10, r39_11, r39_12, r39_13, r39_14, r39_15, r39_16, r39_17, r39_18, r39_19]; simp [a39, nextVer, e1, e2, e3, hb, hl, h0, h1, h8]; exact rfl) ?_
      | refine W_cond_t (by first | (simp [a39, nextVer, e1, e2, e3, hb, hl, h0, h1, h8]; done) | fail) ?_
      | refine W_cond_f (by first | (simp [a39, nextVer, e1, e2, e3, hb, hl, h0, h1, h8]; done) | fail) ?_
      | fail)
    exact ⟨.inr rfl, _, by simp [a39, resV, resV1]; exact rfl, by simp [a39, packV, formV, terms_nil], rfl⟩

end

end Go.Proofs.YtcngflmnbdcppaaGreat

/- Finding forms: the form of an operation of two; of any value. -/
namespace Go.Proofs.YtcngflmnbdcppaaGreat
open Go.LS Go.IntWalk

def madeV : Option FormD → V
  | some F => .tup [formV F, .bool true]
  | none => .tup [formV ([], 0), .bool false]

section
variable {h : LS.Heap} {c m1 m2 : Nat} {O : Int → Option OpD} {Φ : Int → Option FormD} {v : Int}

theorem made_two {o : OpD} {x y : Int} {rest : List Int} {A1 B1 : List (Int × Int)} {A2 B2 : Int} {h1 h2 : LS.Heap} (k : Finds h c m1 m2 O Φ) (ho : O v = some o) (hb : o.bits = 64) (hl : o.lanes = 1) (hk1 : 1 ≤ o.kind) (hk2 : o.kind ≤ 8) (hargs : o.args = x :: y :: rest)
    (fa : callD T 30 [.obj c 0, .int .i64 x] h = some (formV (A1, A2), h1)) (fb : callD T 30 [.obj c 0, .int .i64 y] h1 = some (formV (B1, B2), h2)) (la : A1.length ≤ 16) (lb : B1.length ≤ 16) (hB : 0 ≤ B2) :
    callD T 39 [.obj c 0, .int .i64 v] h = some (madeV (twoF o.kind (A1, A2) (B1, B2)), h2) := by
  have e1 := k.obj
  have e2 := k.ops
  have e3 : opsV O v = some (.agg [.int .i64 o.kind, .int .i64 o.bits, .int .i64 o.lanes, .int .i64 o.dst, .lst .ro ([.int .i64 x] :: [.int .i64 y] :: rest.map intC), .int .u64 o.imm]) := by simp [opsV, ho, OpD.c, hargs, intC]
  have k0 : o.kind ≠ 0 := by omega
  have k1 : ¬ o.kind < 1 := by omega
  have k8 : ¬ 8 < o.kind := by omega
  unfold formV at fa fb
  simp only at fa fb
  have pl := Plus_run .ro .ro A1 B1 A2 B2 (by omega) (by omega) h2
  have mi := Minus_run .ro .ro A1 B1 A2 B2 (by omega) (by omega) h2
  have t1 := Times_run .ro A1 A2 B2 (by omega) h2
  have t2 := Times_run .ro B1 B2 A2 (by omega) h2
  have t3 := Times_run .ro A1 A2 (shlU B2) (by omega) h2
  simp only [formC] at pl mi t1 t2 t3
  have hretag : ∀ l : List Int, V.retagLL (l.map intC) = l.map intC := fun l => by simp
  refine W_callH t39 rfl rfl (by simp) ?_
  show W T c39 _ _
  unfold c39
  refine W_seq (W_ops (s1 := ?_) (by simp only [r39_0]; simp [a39, nextVer]; exact rfl) ?_)
  refine W_seq (W_ops (s1 := ?_) (by simp only [r39_1]; simp [nextVer, e1, e2, e3]; exact rfl) ?_)
  refine W_seq (W_seq (W_ops (s1 := ?_) (by simp only [r39_2]; simp [hb, hl]; exact rfl) ?_))
  refine W_cond_f (by simp) (W_skip ?_)
  refine W_seq (W_seq (W_ops (s1 := ?_) (by simp only [r39_4]; simp [k0]; exact rfl) ?_))
  refine W_cond_f (by simp) (W_skip ?_)
  refine W_seq (W_seq (W_ops (s1 := ?_) (by simp only [r39_6]; simp [k1, k8]; exact rfl) ?_))
  refine W_cond_f (by simp) (W_skip ?_)
  refine W_seq (W_tops (s1 := ?_) (by simp only [r39_8]; simp [fa, fb, nextVer]; exact rfl) ?_)
  have fin : ∀ (F : Option FormD) (s : St) (b : Bool) (l : List (List V)) (n : Int) (tg : Tag), s.t 4 = .loc 4 0 0 → s.loc 4 = some (0, [.lst tg l, .int .u64 n]) → s.t 5 = .bool b → s.h = h2 → madeV F = .tup [.agg [.lst .ro (V.retagLL l), .int .u64 n], .bool b] → twoF o.kind (A1, A2) (B1, B2) = F →
      (AExit.ret = AExit.normal ∨ AExit.ret = AExit.ret) ∧ ∃ vs, resV s a39.res = some vs ∧ (if a39.keepR = true then packV vs else (packV vs).retag) = madeV (twoF o.kind (A1, A2) (B1, B2)) ∧ s.h = h2 := fun F s b l n tg q1 q2 q3 q4 q5 q6 => by
    refine ⟨.inr rfl, [.agg [.lst tg l, .int .u64 n], .bool b], by simp [a39, resV, resV1, q1, q2, q3], ?_, q4⟩
    rw [q6, q5]
    simp [a39, packV]
  by_cases c1 : o.kind = 1
  · skip
    repeat' (first
      | refine W_seq ?_
      | refine W_skip ?_
      | refine W_block ?_
      | refine W_ret ?_
      | refine W_exit ?_
      | refine W_ops (s1 := ?_) (by simp only [r39_0, r39_1, r39_2, r39_3, r39_4, r39_5, r39_6, r39_7, r39_8, r39_9, r39_10, r39_11, r39_12, r39_13, r39_14, r39_15, r39_16, r39_17, r39_18, r39_19]; simp [c1, pl]; exact rfl) ?_
      | refine W_tops (s1 := ?_) (by simp only [r39_0, r39_1, r39_2, r39_3, r39_4, r39_5, r39_6, r39_7, r39_8, r39_9, r39_10, r39_11, r39_12, r39_13, r39_14, r39_15, r39_16, r39_17, r39_18, r39_19]; simp [c1, pl]; exact rfl) ?_
      | refine W_cond_t (by first | (simp [c1, pl]; done) | fail) ?_
      | refine W_cond_f (by first | (simp [c1, pl]; done) | fail) ?_
      | fail)
    exact fin (some (plusM A1 B1 A2 B2)) _ true _ _ _ (by simp) (by simp; exact ⟨⟨rfl, rfl⟩, rfl⟩) (by simp) rfl (by simp [madeV, formV]) (by simp [twoF, c1])
  by_cases c2 : o.kind = 2
  · skip
    repeat' (first
      | refine W_seq ?_
      | refine W_skip ?_
      | refine W_block ?_
      | refine W_ret ?_
      | refine W_exit ?_
      | refine W_ops (s1 := ?_) (by simp only [r39_0, r39_1, r39_2, r39_3, r39_4, r39_5, r39_6, r39_7, r39_8, r39_9, r39_10, r39_11, r39_12, r39_13, r39_14, r39_15, r39_16, r39_17, r39_18, r39_19]; simp [c2, mi]; exact rfl) ?_
      | refine W_tops (s1 := ?_) (by simp only [r39_0, r39_1, r39_2, r39_3, r39_4, r39_5, r39_6, r39_7, r39_8, r39_9, r39_10, r39_11, r39_12, r39_13, r39_14, r39_15, r39_16, r39_17, r39_18, r39_19]; simp [c2, mi]; exact rfl) ?_
      | refine W_cond_t (by first | (simp [c2, mi]; done) | fail) ?_
      | refine W_cond_f (by first | (simp [c2, mi]; done) | fail) ?_
      | fail)
    exact fin (some (minusM A1 B1 A2 B2)) _ true _ _ _ (by simp) (by simp; exact ⟨⟨rfl, rfl⟩, rfl⟩) (by simp) rfl (by simp [madeV, formV]) (by simp [twoF, c2])
  by_cases c3 : o.kind = 3
  · by_cases hB1 : B1 = []
    · subst hB1
      repeat' (first
        | refine W_seq ?_
        | refine W_skip ?_
        | refine W_block ?_
        | refine W_ret ?_
        | refine W_exit ?_
        | refine W_ops (s1 := ?_) (by simp only [r39_0, r39_1, r39_2, r39_3, r39_4, r39_5, r39_6, r39_7, r39_8, r39_9, r39_10, r39_11, r39_12, r39_13, r39_14, r39_15, r39_16, r39_17, r39_18, r39_19]; simp [c3, t1, terms_nil]; exact rfl) ?_
        | refine W_tops (s1 := ?_) (by simp only [r39_0, r39_1, r39_2, r39_3, r39_4, r39_5, r39_6, r39_7, r39_8, r39_9, r39_10, r39_11, r39_12, r39_13, r39_14, r39_15, r39_16, r39_17, r39_18, r39_19]; simp [c3, t1, terms_nil]; exact rfl) ?_
        | refine W_cond_t (by first | (simp [c3, t1, terms_nil]; done) | fail) ?_
        | refine W_cond_f (by first | (simp [c3, t1, terms_nil]; done) | fail) ?_
        | fail)
      exact fin (some (timesM A1 A2 B2)) _ true _ _ _ (by simp) (by simp; exact ⟨⟨rfl, rfl⟩, rfl⟩) (by simp) rfl (by simp [madeV, formV]) (by simp [twoF, c3])
    · have hBl : ¬ (B1.length : Int) = 0 := by
        intro e
        exact hB1 (List.length_eq_zero_iff.1 (by omega))
      by_cases hA1 : A1 = []
      · subst hA1
        repeat' (first
          | refine W_seq ?_
          | refine W_skip ?_
          | refine W_block ?_
          | refine W_ret ?_
          | refine W_exit ?_
          | refine W_ops (s1 := ?_) (by simp only [r39_0, r39_1, r39_2, r39_3, r39_4, r39_5, r39_6, r39_7, r39_8, r39_9, r39_10, r39_11, r39_12, r39_13, r39_14, r39_15, r39_16, r39_17, r39_18, r39_19]; simp [c3, t2, terms_nil, terms_len, hBl, hB1]; exact rfl) ?_
          | refine W_tops (s1 := ?_) (by simp only [r39_0, r39_1, r39_2, r39_3, r39_4, r39_5, r39_6, r39_7, r39_8, r39_9, r39_10, r39_11, r39_12, r39_13, r39_14, r39_15, r39_16, r39_17, r39_18, r39_19]; simp [c3, t2, terms_nil, terms_len, hBl, hB1]; exact rfl) ?_
          | refine W_cond_t (by first | (simp [c3, t2, terms_nil, terms_len, hBl, hB1]; done) | fail) ?_
          | refine W_cond_f (by first | (simp [c3, t2, terms_nil, terms_len, hBl, hB1]; done) | fail) ?_
          | fail)
        exact fin (some (timesM B1 B2 A2)) _ true _ _ _ (by simp) (by simp; exact ⟨⟨rfl, rfl⟩, rfl⟩) (by simp) rfl (by simp [madeV, formV]) (by simp [twoF, c3, hB1])
      · have hAl : ¬ (A1.length : Int) = 0 := by
          intro e
          exact hA1 (List.length_eq_zero_iff.1 (by omega))
        repeat' (first
          | refine W_seq ?_
          | refine W_skip ?_
          | refine W_block ?_
          | refine W_ret ?_
          | refine W_exit ?_
          | refine W_ops (s1 := ?_) (by simp only [r39_0, r39_1, r39_2, r39_3, r39_4, r39_5, r39_6, r39_7, r39_8, r39_9, r39_10, r39_11, r39_12, r39_13, r39_14, r39_15, r39_16, r39_17, r39_18, r39_19]; simp [c3, terms_len, hBl, hAl, hB1, hA1]; exact rfl) ?_
          | refine W_tops (s1 := ?_) (by simp only [r39_0, r39_1, r39_2, r39_3, r39_4, r39_5, r39_6, r39_7, r39_8, r39_9, r39_10, r39_11, r39_12, r39_13, r39_14, r39_15, r39_16, r39_17, r39_18, r39_19]; simp [c3, terms_len, hBl, hAl, hB1, hA1]; exact rfl) ?_
          | refine W_cond_t (by first | (simp [c3, terms_len, hBl, hAl, hB1, hA1]; done) | fail) ?_
          | refine W_cond_f (by first | (simp [c3, terms_len, hBl, hAl, hB1, hA1]; done) | fail) ?_
          | fail)
        exact fin none _ false _ _ _ (by simp) (by simp; exact ⟨⟨rfl, rfl⟩, rfl⟩) (by simp) rfl (by simp [madeV, formV, terms_nil]) (by simp [twoF, c3, hB1, hA1])
  by_cases c8 : o.kind = 8
  · by_cases hB1 : B1 = []
    · subst hB1
      by_cases h64 : B2 < 64
      · have hneg : ¬ B2 < 0 := by omega
        unfold shlU at t3
        simp only [Int.one_mul] at t3
        repeat' (first
          | refine W_seq ?_
          | refine W_skip ?_
          | refine W_block ?_
          | refine W_ret ?_
          | refine W_exit ?_
          | refine W_ops (s1 := ?_) (by simp only [r39_0, r39_1, r39_2, r39_3, r39_4, r39_5, r39_6, r39_7, r39_8, r39_9, r39_10, r39_11, r39_12, r39_13, r39_14, r39_15, r39_16, r39_17, r39_18, r39_19]; simp [c8, t3, terms_nil, h64, hneg, hB, IntKind.bits]; exact rfl) ?_
          | refine W_tops (s1 := ?_) (by simp only [r39_0, r39_1, r39_2, r39_3, r39_4, r39_5, r39_6, r39_7, r39_8, r39_9, r39_10, r39_11, r39_12, r39_13, r39_14, r39_15, r39_16, r39_17, r39_18, r39_19]; simp [c8, t3, terms_nil, h64, hneg, hB, IntKind.bits]; exact rfl) ?_
          | refine W_cond_t (by first | (simp [c8, t3, terms_nil, h64, hneg, hB, IntKind.bits]; done) | fail) ?_
          | refine W_cond_f (by first | (simp [c8, t3, terms_nil, h64, hneg, hB, IntKind.bits]; done) | fail) ?_
          | fail)
        exact fin (some (timesM A1 A2 (shlU B2))) _ true _ _ _ (by simp) (by simp; exact ⟨⟨rfl, rfl⟩, rfl⟩) (by simp) rfl (by simp [madeV, formV, shlU]) (by simp [twoF, c8, h64])
      · skip
        repeat' (first
          | refine W_seq ?_
          | refine W_skip ?_
          | refine W_block ?_
          | refine W_ret ?_
          | refine W_exit ?_
          | refine W_ops (s1 := ?_) (by simp only [r39_0, r39_1, r39_2, r39_3, r39_4, r39_5, r39_6, r39_7, r39_8, r39_9, r39_10, r39_11, r39_12, r39_13, r39_14, r39_15, r39_16, r39_17, r39_18, r39_19]; simp [c8, terms_nil, h64]; exact rfl) ?_
          | refine W_tops (s1 := ?_) (by simp only [r39_0, r39_1, r39_2, r39_3, r39_4, r39_5, r39_6, r39_7, r39_8, r39_9, r39_10, r39_11, r39_12, r39_13, r39_14, r39_15, r39_16, r39_17, r39_18, r39_19]; simp [c8, terms_nil, h64]; exact rfl) ?_
          | refine W_cond_t (by first | (simp [c8, terms_nil, h64]; done) | fail) ?_
          | refine W_cond_f (by first | (simp [c8, terms_nil, h64]; done) | fail) ?_
          | fail)
        exact fin none _ false _ _ _ (by simp) (by simp; exact ⟨⟨rfl, rfl⟩, rfl⟩) (by simp) rfl (by simp [madeV, formV, terms_nil]) (by simp [twoF, c8, h64])
    · have hBl : ¬ (B1.length : Int) = 0 := by
        intro e
        exact hB1 (List.length_eq_zero_iff.1 (by omega))
      repeat' (first
        | refine W_seq ?_
        | refine W_skip ?_
        | refine W_block ?_
        | refine W_ret ?_
        | refine W_exit ?_
        | refine W_ops (s1 := ?_) (by simp only [r39_0, r39_1, r39_2, r39_3, r39_4, r39_5, r39_6, r39_7, r39_8, r39_9, r39_10, r39_11, r39_12, r39_13, r39_14, r39_15, r39_16, r39_17, r39_18, r39_19]; simp [c8, terms_len, hBl, hB1]; exact rfl) ?_
        | refine W_tops (s1 := ?_) (by simp only [r39_0, r39_1, r39_2, r39_3, r39_4, r39_5, r39_6, r39_7, r39_8, r39_9, r39_10, r39_11, r39_12, r39_13, r39_14, r39_15, r39_16, r39_17, r39_18, r39_19]; simp [c8, terms_len, hBl, hB1]; exact rfl) ?_
        | refine W_cond_t (by first | (simp [c8, terms_len, hBl, hB1]; done) | fail) ?_
        | refine W_cond_f (by first | (simp [c8, terms_len, hBl, hB1]; done) | fail) ?_
        | fail)
      exact fin none _ false _ _ _ (by simp) (by simp; exact ⟨⟨rfl, rfl⟩, rfl⟩) (by simp) rfl (by simp [madeV, formV, terms_nil]) (by simp [twoF, c8, hB1])
  · skip
    repeat' (first
      | refine W_seq ?_
      | refine W_skip ?_
      | refine W_block ?_
      | refine W_ret ?_
      | refine W_exit ?_
      | refine W_ops (s1 := ?_) (by simp only [r39_0, r39_1, r39_2, r39_3, r39_4, r39_5, r39_6, r39_7, r39_8, r39_9, r39_10, r39_11, r39_12, r39_13, r39_14, r39_15, r39_16, r39_17, r39_18, r39_19]; simp [c1, c2, c3, c8]; exact rfl) ?_
      | refine W_tops (s1 := ?_) (by simp only [r39_0, r39_1, r39_2, r39_3, r39_4, r39_5, r39_6, r39_7, r39_8, r39_9, r39_10, r39_11, r39_12, r39_13, r39_14, r39_15, r39_16, r39_17, r39_18, r39_19]; simp [c1, c2, c3, c8]; exact rfl) ?_
      | refine W_cond_t (by first | (simp [c1, c2, c3, c8]; done) | fail) ?_
      | refine W_cond_f (by first | (simp [c1, c2, c3, c8]; done) | fail) ?_
      | fail)
    exact fin none _ false _ _ _ (by simp) (by simp; exact ⟨⟨rfl, rfl⟩, rfl⟩) (by simp) rfl (by simp [madeV, formV, terms_nil]) (by simp [twoF, c1, c2, c3, c8])

end

end Go.Proofs.YtcngflmnbdcppaaGreat

/- Finding forms: the finder finds each value's form. -/
namespace Go.Proofs.YtcngflmnbdcppaaGreat
open Go.LS Go.IntWalk

theorem plusM_off (a b : List (Int × Int)) (x y : Int) : 0 ≤ (plusM a b x y).2 := by
  unfold plusM; split
  · exact (addU_range _ _).1
  · simp
theorem minusM_off (a b : List (Int × Int)) (x y : Int) : 0 ≤ (minusM a b x y).2 := by
  unfold minusM; split
  · exact (subU_range _ _).1
  · simp
theorem timesM_off (a : List (Int × Int)) (x n : Int) : 0 ≤ (timesM a x n).2 := by
  unfold timesM; split
  · exact (mulU_range _ _).1
  · simp

theorem twoF_off {k : Int} {A B F : FormD} (h : twoF k A B = some F) : 0 ≤ F.2 := by
  unfold twoF at h
  split at h
  · injection h with h; subst h; exact plusM_off _ _ _ _
  · split at h
    · injection h with h; subst h; exact minusM_off _ _ _ _
    · split at h
      · injection h with h; subst h; exact timesM_off _ _ _
      · split at h
        · injection h with h; subst h; exact timesM_off _ _ _
        · split at h
          · injection h with h; subst h; exact timesM_off _ _ _
          · cases h

theorem FormOf.off {O : Int → Option OpD} (hO : ∀ v o, O v = some o → 0 ≤ o.imm) {v : Int} {F : FormD} (h : FormOf O v F) : 0 ≤ F.2 := by
  cases h with
  | const h _ _ _ => exact hO _ _ h
  | two h _ _ _ _ _ hA hB =>
    unfold capF
    split
    · simp [ownF]
    · rename_i G hG
      split
      · simp [ownF]
      · exact twoF_off hG
  | _ => simp [ownF]

section
variable {h h1 : LS.Heap} {c m1 m2 : Nat} {O : Int → Option OpD} {Φ Φ1 : Int → Option FormD} {v : Int}

theorem form_found (k : Finds h c m1 m2 O Φ) {G : FormD} (hv : Φ v = some G) : callD T 30 [.obj c 0, .int .i64 v] h = some (formV G, h) := by
  have e1 := k.obj
  have e2 := k.forms
  have e3 : formsV Φ v = some (.agg [.lst .ro (terms G.1), .int .u64 G.2]) := by simp [formsV, hv, formV]
  refine W_callH t30 rfl rfl (by simp) ?_
  show W T c30 _ _
  unfold c30
  repeat' (first
    | refine W_seq ?_
    | refine W_skip ?_
    | refine W_block ?_
    | refine W_ret ?_
    | refine W_exit ?_
    | refine W_ops (s1 := ?_) (by simp only [r30_0, r30_1, r30_2, r30_3, r30_4, r30_5, r30_6, r30_7, r30_8, r30_9]; simp [a30, nextVer, e1, e2, e3]; exact rfl) ?_
    | refine W_tops (s1 := ?_) (by simp only [r30_0, r30_1, r30_2, r30_3, r30_4, r30_5, r30_6, r30_7, r30_8, r30_9]; simp [a30, nextVer, e1, e2, e3]; exact rfl) ?_
    | refine W_cond_t (by first | (simp [a30, nextVer, e1, e2, e3]; done) | fail) ?_
    | refine W_cond_f (by first | (simp [a30, nextVer, e1, e2, e3]; done) | fail) ?_
    | fail)
  exact ⟨.inr rfl, _, by simp [a30, resV, resV1]; exact rfl, by simp [a30, packV, formV], rfl⟩

theorem form_made (k : Finds h c m1 m2 O Φ) (hv : Φ v = none) {G : FormD} {ok : Bool} (hm : callD T 39 [.obj c 0, .int .i64 v] h = some (.tup [formV G, .bool ok], h1)) (k1 : Finds h1 c m1 m2 O Φ1) {F : FormD}
    (hF : F = if ok = true ∧ G.1.length ≤ 16 then G else ownF v) :
    callD T 30 [.obj c 0, .int .i64 v] h = some (formV F, h1.set m2 (.map .i64 (formsV (fun j => if j = v then some F else Φ1 j)))) := by
  have e1 := k.obj
  have e2 := k.forms
  have e3 : formsV Φ v = none := by simp [formsV, hv]
  have e4 := k1.obj
  have e5 := k1.forms
  have e6 : ∀ F : FormD, formsV (fun j => if j = v then some F else Φ1 j) = fun j => if j = v then some (.agg [.lst .ro (terms F.1), .int .u64 F.2]) else formsV Φ1 j := fun F => by
    funext j
    simp only [formsV]
    split <;> rfl
  have own1 : terms (ownF v).1 = [[.int .i64 v, .int .u64 1]] := rfl
  have own2 : (ownF v).2 = 0 := rfl
  rw [e6]
  unfold formV at hm ⊢
  refine W_callH t30 rfl rfl (by simp) ?_
  show W T c30 _ _
  unfold c30
  cases ok with
  | false =>
    have hF : F = ownF v := by rw [hF]; simp
    subst hF
    repeat' (first
      | refine W_seq ?_
      | refine W_skip ?_
      | refine W_block ?_
      | refine W_ret ?_
      | refine W_exit ?_
      | refine W_ops (s1 := ?_) (by simp only [r30_0, r30_1, r30_2, r30_3, r30_4, r30_5, r30_6, r30_7, r30_8, r30_9]; simp [a30, nextVer, e1, e2, e3, e4, e5, hm, own1, own2]; exact rfl) ?_
      | refine W_tops (s1 := ?_) (by simp only [r30_0, r30_1, r30_2, r30_3, r30_4, r30_5, r30_6, r30_7, r30_8, r30_9]; simp [a30, nextVer, e1, e2, e3, e4, e5, hm, own1, own2]; exact rfl) ?_
      | refine W_cond_t (by first | (simp [a30, nextVer, e1, e2, e3, e4, e5, hm, own1, own2]; done) | fail) ?_
      | refine W_cond_f (by first | (simp [a30, nextVer, e1, e2, e3, e4, e5, hm, own1, own2]; done) | fail) ?_
      | fail)
    exact ⟨.inr rfl, _, by simp [a30, resV, resV1]; exact rfl, by simp [a30, packV, own1, own2], by simp [own1, own2]⟩
  | true =>
    by_cases hl : G.1.length ≤ 16
    · have hF : F = G := by rw [hF]; simp [hl]
      subst hF
      have hl1 : ¬ (16 : Int) < F.1.length := by omega
      have hl2 : ¬ 16 < F.1.length := by omega
      repeat' (first
        | refine W_seq ?_
        | refine W_skip ?_
        | refine W_block ?_
        | refine W_ret ?_
        | refine W_exit ?_
        | refine W_ops (s1 := ?_) (by simp only [r30_0, r30_1, r30_2, r30_3, r30_4, r30_5, r30_6, r30_7, r30_8, r30_9]; simp [a30, nextVer, e1, e2, e3, e4, e5, hm, terms_len, hl1, hl2]; exact rfl) ?_
        | refine W_tops (s1 := ?_) (by simp only [r30_0, r30_1, r30_2, r30_3, r30_4, r30_5, r30_6, r30_7, r30_8, r30_9]; simp [a30, nextVer, e1, e2, e3, e4, e5, hm, terms_len, hl1, hl2]; exact rfl) ?_
        | refine W_cond_t (by first | (simp [a30, nextVer, e1, e2, e3, e4, e5, hm, terms_len, hl1, hl2]; done) | fail) ?_
        | refine W_cond_f (by first | (simp [a30, nextVer, e1, e2, e3, e4, e5, hm, terms_len, hl1, hl2]; done) | fail) ?_
        | fail)
      exact ⟨.inr rfl, _, by simp [a30, resV, resV1]; exact rfl, by simp [a30, packV], by simp⟩
    · have hF : F = ownF v := by rw [hF]; simp; intro h; omega
      subst hF
      have hl1 : (16 : Int) < G.1.length := by omega
      have hl2 : 16 < G.1.length := by omega
      repeat' (first
        | refine W_seq ?_
        | refine W_skip ?_
        | refine W_block ?_
        | refine W_ret ?_
        | refine W_exit ?_
        | refine W_ops (s1 := ?_) (by simp only [r30_0, r30_1, r30_2, r30_3, r30_4, r30_5, r30_6, r30_7, r30_8, r30_9]; simp [a30, nextVer, e1, e2, e3, e4, e5, hm, terms_len, hl1, hl2, own1, own2]; exact rfl) ?_
        | refine W_tops (s1 := ?_) (by simp only [r30_0, r30_1, r30_2, r30_3, r30_4, r30_5, r30_6, r30_7, r30_8, r30_9]; simp [a30, nextVer, e1, e2, e3, e4, e5, hm, terms_len, hl1, hl2, own1, own2]; exact rfl) ?_
        | refine W_cond_t (by first | (simp [a30, nextVer, e1, e2, e3, e4, e5, hm, terms_len, hl1, hl2, own1, own2]; done) | fail) ?_
        | refine W_cond_f (by first | (simp [a30, nextVer, e1, e2, e3, e4, e5, hm, terms_len, hl1, hl2, own1, own2]; done) | fail) ?_
        | fail)
      exact ⟨.inr rfl, _, by simp [a30, resV, resV1]; exact rfl, by simp [a30, packV, own1, own2], by simp [own1, own2]⟩

end

theorem form_run {c m1 m2 : Nat} {O : Int → Option OpD} (hO : ∀ v o, O v = some o → 0 ≤ o.imm) {v : Int} {F : FormD} (hF : FormOf O v F) : ∀ (h : LS.Heap) (Φ : Int → Option FormD), Finds h c m1 m2 O Φ →
    ∃ Φ', callD T 30 [.obj c 0, .int .i64 v] h = some (formV F, h.set m2 (.map .i64 (formsV Φ'))) ∧ ∀ u G, Φ' u = some G → FormOf O u G := by
  have found : ∀ {v : Int} {F : FormD} (hF : FormOf O v F) (h : LS.Heap) (Φ : Int → Option FormD) (k : Finds h c m1 m2 O Φ) {G : FormD} (hv : Φ v = some G), ∃ Φ', callD T 30 [.obj c 0, .int .i64 v] h = some (formV F, h.set m2 (.map .i64 (formsV Φ'))) ∧ ∀ u G, Φ' u = some G → FormOf O u G := by
    intro v F hF h Φ k G hv
    have := hF.unique (k.sound v G hv)
    subst this
    exact ⟨Φ, by rw [set_same k.forms]; exact form_found k hv, k.sound⟩
  have step : ∀ {v : Int} {F : FormD} (hF : FormOf O v F) (h h1 : LS.Heap) (Φ Φ1 : Int → Option FormD) (k : Finds h c m1 m2 O Φ) (hv : Φ v = none) {G : FormD} {ok : Bool} (hm : callD T 39 [.obj c 0, .int .i64 v] h = some (.tup [formV G, .bool ok], h1)) (h1e : h1 = h.set m2 (.map .i64 (formsV Φ1)))
      (hs : ∀ u G, Φ1 u = some G → FormOf O u G) (hFe : F = if ok = true ∧ G.1.length ≤ 16 then G else ownF v), ∃ Φ', callD T 30 [.obj c 0, .int .i64 v] h = some (formV F, h.set m2 (.map .i64 (formsV Φ'))) ∧ ∀ u G, Φ' u = some G → FormOf O u G := by
    intro v F hF h h1 Φ Φ1 k hv G ok hm h1e hs hFe
    have k1 : Finds h1 c m1 m2 O Φ1 := by rw [h1e]; exact k.set hs
    refine ⟨fun j => if j = v then some F else Φ1 j, ?_, fun u G' hu => ?_⟩
    rotate_left
    · simp only at hu
      split at hu
      · rename_i e
        injection hu with hu
        subst e hu
        exact hF
      · exact hs u G' hu
    · rw [form_made k hv hm k1 hFe, h1e, set_set]
  induction hF with
  | @none v ho =>
    intro h Φ k
    cases hv : Φ v with
    | some G => exact found (.none ho) h Φ k hv
    | none => exact step (.none ho) h h Φ Φ k hv (made_none k ho) (set_same k.forms).symm k.sound (by simp)
  | @narrow v o ho hn =>
    intro h Φ k
    cases hv : Φ v with
    | some G => exact found (.narrow ho hn) h Φ k hv
    | none => exact step (.narrow ho hn) h h Φ Φ k hv (made_narrow k ho hn) (set_same k.forms).symm k.sound (by simp)
  | @const v o ho hb hl hk =>
    intro h Φ k
    cases hv : Φ v with
    | some G => exact found (.const ho hb hl hk) h Φ k hv
    | none => exact step (.const ho hb hl hk) h h Φ Φ k hv (made_const k ho hb hl hk) (set_same k.forms).symm k.sound (by simp)
  | @other v o ho hb hl h0 hk =>
    intro h Φ k
    cases hv : Φ v with
    | some G => exact found (.other ho hb hl h0 hk) h Φ k hv
    | none => exact step (.other ho hb hl h0 hk) h h Φ Φ k hv (made_other k ho hb hl h0 hk) (set_same k.forms).symm k.sound (by simp)
  | @two v o x y rest A B ho hb hl hk1 hk2 ha hA hB ihA ihB =>
    intro h Φ k
    cases hv : Φ v with
    | some G => exact found (.two ho hb hl hk1 hk2 ha hA hB) h Φ k hv
    | none =>
      obtain ⟨Φ1, q1, q2⟩ := ihA h Φ k
      obtain ⟨Φ2, q3, q4⟩ := ihB _ Φ1 (k.set q2)
      rw [set_set] at q3
      have hm := made_two (A1 := A.1) (A2 := A.2) (B1 := B.1) (B2 := B.2) k ho hb hl hk1 hk2 ha q1 q3 hA.short hB.short (hB.off hO)
      rcases ht : twoF o.kind A B with _ | G
      · have ht' : twoF o.kind (A.1, A.2) (B.1, B.2) = none := ht
        rw [ht'] at hm
        have hF := FormOf.two ho hb hl hk1 hk2 ha hA hB
        rw [ht] at hF
        exact step hF h _ Φ Φ2 k hv hm rfl q4 (by simp [capF])
      · have ht' : twoF o.kind (A.1, A.2) (B.1, B.2) = some G := ht
        rw [ht'] at hm
        have hF := FormOf.two ho hb hl hk1 hk2 ha hA hB
        rw [ht] at hF
        refine step hF h _ Φ Φ2 k hv hm rfl q4 ?_
        simp only [capF, true_and]
        by_cases hl16 : G.1.length ≤ 16
        · rw [if_neg (by omega), if_pos hl16]
        · rw [if_pos (by omega), if_neg hl16]

end Go.Proofs.YtcngflmnbdcppaaGreat

/- The form of a value of a straight function. -/
namespace Go.Proofs.YtcngflmnbdcppaaGreat
open Go.LS Go.IntWalk

/-- The operation that defines a value, among the first. -/
def opM (l : List OpD) : Nat → Int → Option OpD
  | 0 => fun _ => none
  | k + 1 => match l[k]? with
    | some o => fun j => if j = o.dst then some o else opM l k j
    | none => opM l k

theorem opM_mem {l : List OpD} : ∀ {k : Nat} {j : Int} {o : OpD}, opM l k j = some o → o ∈ l
  | 0, _, _, h => by simp [opM] at h
  | k + 1, j, o, h => by
    cases hl : l[k]? with
    | none => simp only [opM, hl] at h; exact opM_mem h
    | some o' =>
      simp only [opM, hl] at h
      by_cases hj : j = o'.dst
      · rw [if_pos hj] at h; injection h with h; subst h; exact List.mem_of_getElem? hl
      · rw [if_neg hj] at h; exact opM_mem h

def Straight.O (x : Straight) : Int → Option OpD := opM x.ops x.ops.length

theorem Of_no (hTree : TreeOne) (x : Straight) (R : x.Right) (v : Int) (h : LS.Heap) (hv : ∀ d, x.D v = some d → d.bits ≠ 64 ∨ d.lanes ≠ 1) : callD T 18 [.agg x.f.c, .int .i64 v] h = some (.tup [formV ([], 0), .int .i64 10], h) := by
  have hfc : x.f.c = [.lst .ro (x.ps.map intC), .int .i64 x.ret, .lst .ro [[.lst .ro [], .lst .ro (x.ops.map OpD.c), .int .i64 0, .int .i64 x.arg, .lst .ro []]]] := rfl
  obtain ⟨h', m, e1, hx, g1, g2, m1⟩ := Shapes_run hTree x R h
  rw [hfc] at e1 ⊢
  refine W_call t18 rfl rfl (by simp) ?_
  show W T c18 _ _
  unfold c18
  refine W_seq (W_ops (s1 := ?_) (by simp only [r18_0]; simp [a18, nextVer]; exact rfl) ?_)
  cases hd : x.D v with
  | none =>
    have e2 : shapesV x.D v = none := by simp [shapesV, hd]
    repeat' (first
      | refine W_seq ?_
      | refine W_skip ?_
      | refine W_block ?_
      | refine W_ret ?_
      | refine W_exit ?_
      | refine W_ops (s1 := ?_) (by simp only [r18_0, r18_1, r18_2, r18_3, r18_4, r18_5, r18_6, r18_7, r18_8, r18_9, r18_10, r18_11, r18_12, r18_13, r18_14]; simp [e1, m1, e2, nextVer]; exact rfl) ?_
      | refine W_tops (s1 := ?_) (by simp only [r18_0, r18_1, r18_2, r18_3, r18_4, r18_5, r18_6, r18_7, r18_8, r18_9, r18_10, r18_11, r18_12, r18_13, r18_14]; simp [e1, m1, e2, nextVer]; exact rfl) ?_
      | refine W_cond_t (by first | (simp [e1, m1, e2, nextVer]; done) | fail) ?_
      | refine W_cond_f (by first | (simp [e1, m1, e2, nextVer]; done) | fail) ?_
      | fail)
    exact ⟨.inr rfl, _, by simp [a18, resV, resV1]; exact rfl, by simp [a18, packV, formV, terms_nil], by simp [formV], hx⟩
  | some d =>
    have e2 : shapesV x.D v = some (.agg [.int .i64 d.bits, .int .i64 d.lanes]) := by simp [shapesV, hd, DefD.sh]
    by_cases hb : d.bits = 64
    · have hl : d.lanes ≠ 1 := by have := hv d hd; omega
      repeat' (first
        | refine W_seq ?_
        | refine W_skip ?_
        | refine W_block ?_
        | refine W_ret ?_
        | refine W_exit ?_
        | refine W_ops (s1 := ?_) (by simp only [r18_0, r18_1, r18_2, r18_3, r18_4, r18_5, r18_6, r18_7, r18_8, r18_9, r18_10, r18_11, r18_12, r18_13, r18_14]; simp [e1, m1, e2, nextVer, hb, hl]; exact rfl) ?_
        | refine W_tops (s1 := ?_) (by simp only [r18_0, r18_1, r18_2, r18_3, r18_4, r18_5, r18_6, r18_7, r18_8, r18_9, r18_10, r18_11, r18_12, r18_13, r18_14]; simp [e1, m1, e2, nextVer, hb, hl]; exact rfl) ?_
        | refine W_cond_t (by first | (simp [e1, m1, e2, nextVer, hb, hl]; done) | fail) ?_
        | refine W_cond_f (by first | (simp [e1, m1, e2, nextVer, hb, hl]; done) | fail) ?_
        | fail)
      exact ⟨.inr rfl, _, by simp [a18, resV, resV1]; exact rfl, by simp [a18, packV, formV, terms_nil], by simp [formV], hx⟩
    · skip
      repeat' (first
        | refine W_seq ?_
        | refine W_skip ?_
        | refine W_block ?_
        | refine W_ret ?_
        | refine W_exit ?_
        | refine W_ops (s1 := ?_) (by simp only [r18_0, r18_1, r18_2, r18_3, r18_4, r18_5, r18_6, r18_7, r18_8, r18_9, r18_10, r18_11, r18_12, r18_13, r18_14]; simp [e1, m1, e2, nextVer, hb]; exact rfl) ?_
        | refine W_tops (s1 := ?_) (by simp only [r18_0, r18_1, r18_2, r18_3, r18_4, r18_5, r18_6, r18_7, r18_8, r18_9, r18_10, r18_11, r18_12, r18_13, r18_14]; simp [e1, m1, e2, nextVer, hb]; exact rfl) ?_
        | refine W_cond_t (by first | (simp [e1, m1, e2, nextVer, hb]; done) | fail) ?_
        | refine W_cond_f (by first | (simp [e1, m1, e2, nextVer, hb]; done) | fail) ?_
        | fail)
      exact ⟨.inr rfl, _, by simp [a18, resV, resV1]; exact rfl, by simp [a18, packV, formV, terms_nil], by simp [formV], hx⟩

theorem Of_yes (hTree : TreeOne) (x : Straight) (R : x.Right) (v : Int) (h : LS.Heap) {d : DefD} (hv : x.D v = some d) (hb : d.bits = 64) (hl : d.lanes = 1) {F : FormD} (hF : FormOf x.O v F) (himm : ∀ o ∈ x.ops, 0 ≤ o.imm) : callD T 18 [.agg x.f.c, .int .i64 v] h = some (.tup [formV F, .int .i64 0], h) := by
  have hfc : x.f.c = [.lst .ro (x.ps.map intC), .int .i64 x.ret, .lst .ro [[.lst .ro [], .lst .ro (x.ops.map OpD.c), .int .i64 0, .int .i64 x.arg, .lst .ro []]]] := rfl
  obtain ⟨h', m, e1, hx, g1, g2, m1⟩ := Shapes_run hTree x R h
  obtain ⟨f1, f2, f3⟩ := R.fit
  obtain ⟨q1, q2, q3, q4, q5⟩ := f3 x.b (by simp [Straight.f])
  have q2 : x.ops.length < 2 ^ 40 := q2
  have w1 : IntKind.i64.wrap 1 = 1 := i64_in _ (by omega)
  rw [hfc] at e1 ⊢
  have e2 : shapesV x.D v = some (.agg [.int .i64 64, .int .i64 1]) := by simp [shapesV, hv, DefD.sh, hb, hl]
  refine W_call t18 rfl rfl (by simp) ?_
  show W T c18 _ _
  unfold c18
  refine W_seq (W_ops (s1 := ?_) (by simp only [r18_0]; simp [a18, nextVer]; exact rfl) ?_)
  refine W_seq (W_seq (W_ops (s1 := ?_) (by simp only [r18_1]; simp [e1, m1, e2, nextVer]; exact rfl) ?_))
  refine W_seq (W_ops (s1 := ?_) (by simp only [r18_2]; simp; exact rfl) ?_)
  refine W_cond_f (by simp) (W_skip ?_)
  refine W_seq (W_ops (s1 := ?_) (by simp only [r18_4]; simp [Heap.new]; exact rfl) ?_)
  refine W_seq (W_seq (W_ops (s1 := ?_) (by simp only [r18_5]; simp; exact rfl) ?_))
  generalize hH : LS.Heap.mk _ _ = h1
  have hn0 : h'.next ≠ h'.next + 2 := by omega
  have K0 : h1.next = h'.next + 3 ∧ (∀ id, id < h'.next → h1.objs id = h'.objs id) ∧ Finds h1 (h'.next + 2) h'.next (h'.next + 1) (opM x.ops 0) (fun _ => none) := by
    rw [← hH]
    refine ⟨rfl, fun id hid => ?_, ?_, ?_, ?_, by omega, by omega, fun u G hu => by cases hu⟩
    · have a1 : id ≠ h'.next + 2 := by omega
      have a2 : id ≠ h'.next + 1 := by omega
      have a3 : id ≠ h'.next := by omega
      simp [upd, a1, a2, a3]
    · simp [upd]
    · have a1 : h'.next ≠ h'.next + 1 + 1 := by omega
      simp [upd, a1]; rfl
    · simp [upd]; rfl
  clear hH
  refine W_block (W_loop' l18_0.eq_1 ?_)
  refine W_seq (W_ops (s1 := ?_) (by simp only [r18_6]; simp; exact rfl) ?_)
  refine W_seq (W_cond_t (by simp) (W_skip ?_))
  refine W_seq (W_block (W_seq (W_ops (s1 := ?_) (by simp only [r18_7]; simp; exact rfl) ?_)))
  refine W_seq (W_ops (s1 := ?_) (by simp only [r18_8]; simp; exact rfl) ?_)
  refine W_block (W_for' l18_1.eq_1 (n := x.ops.length) (fun i s => s.t 1 = .int .i64 v ∧ s.t 4 = .loc 4 0 0 ∧ s.t 8 = .obj (h'.next + 2) 0 ∧ s.t 34 = .int .i64 1 ∧ s.t 35 = .int .i64 0 ∧ s.t 40 = .lst .ro (x.ops.map OpD.c) ∧ s.t 41 = .int .i64 x.ops.length ∧ s.t 42 = .int .i64 i ∧
    s.loc 4 = some (0, [.lst .nil [], .int .u64 0]) ∧ s.h.next = h'.next + 3 ∧ (∀ id, id < h'.next → s.h.objs id = h'.objs id) ∧ Finds s.h (h'.next + 2) h'.next (h'.next + 1) (opM x.ops i) (fun _ => none)) ⟨by simp, by simp, by simp, by simp, by simp, by simp, by simp, by simp, by simp, K0.1, K0.2.1, K0.2.2⟩ ?_ ?_)
  · clear K0
    rintro i ⟨t, loc, h2⟩ hi ⟨t1, t4, t8, t34, t35, t40, t41, t42, l4, hn, ho, k⟩
    simp only at t1 t4 t8 t34 t35 t40 t41 t42 l4 hn ho k
    have hl1 : ((i : Int) < x.ops.length) := by omega
    have hw := i64_succ (show i < 2 ^ 62 by omega)
    have hE : OpD.c x.ops[i] = [.int .i64 x.ops[i].kind, .int .i64 x.ops[i].bits, .int .i64 x.ops[i].lanes, .int .i64 x.ops[i].dst, .lst .ro (x.ops[i].args.map intC), .int .u64 x.ops[i].imm] := rfl
    obtain ⟨k1, k2, k3, k4, k5, k6⟩ := k
    refine W_seq (W_ops (s1 := ?_) (by simp only [r18_9]; simp [t41, t42, hl1]; exact rfl) ?_)
    refine W_seq (W_cond_t (by simp) (W_skip ?_))
    refine W_seq (W_block (W_seq (W_ops (s1 := ?_) (by simp only [r18_10]; simp [t40, t42, hi, hE]; exact rfl) ?_)))
    refine W_tops (s1 := ?_) (by simp only [r18_11]; simp [t8, k1, k2]; exact rfl) ?_
    repeat' (first
      | refine W_seq ?_
      | refine W_skip ?_
      | refine W_block ?_
      | refine W_ret ?_
      | refine W_exit ?_
      | refine W_ops (s1 := ?_) (by simp only [r18_0, r18_1, r18_2, r18_3, r18_4, r18_5, r18_6, r18_7, r18_8, r18_9, r18_10, r18_11, r18_12, r18_13, r18_14]; simp [t42, hw]; exact rfl) ?_
      | refine W_tops (s1 := ?_) (by simp only [r18_0, r18_1, r18_2, r18_3, r18_4, r18_5, r18_6, r18_7, r18_8, r18_9, r18_10, r18_11, r18_12, r18_13, r18_14]; simp [t42, hw]; exact rfl) ?_
      | refine W_cond_t (by first | (simp [t42, hw]; done) | fail) ?_
      | refine W_cond_f (by first | (simp [t42, hw]; done) | fail) ?_
      | fail)
    refine .inl ⟨rfl, by simp [t1], by simp [t4], by simp [t8], by simp [t34], by simp [t35], by simp [t40], by simp [t41], by simp, by simp [l4], hn, fun id hid => ?_, ?_, ?_, ?_, k4, k5, fun u G hu => by cases hu⟩
    · have a1 : id ≠ h'.next := by omega
      simp [Heap.set, upd, a1, ho id hid]
    · simp [Heap.set, upd, k1]
    · simp only [Heap.set, upd, if_true]
      congr 2
      funext j
      simp only [opsV, opM, List.getElem?_eq_getElem hi]
      split
      · rename_i e
        subst e
        simp [hE]
      · rename_i e
        simp [e]
    · simp [Heap.set, upd, k3]
  · rintro ⟨t, loc, h2⟩ ⟨t1, t4, t8, t34, t35, t40, t41, t42, l4, hn, ho, k⟩
    simp only at t1 t4 t8 t34 t35 t40 t41 t42 l4 hn ho k
    repeat' (first
      | refine W_seq ?_
      | refine W_skip ?_
      | refine W_block ?_
      | refine W_ret ?_
      | refine W_exit ?_
      | refine W_ops (s1 := ?_) (by simp only [r18_0, r18_1, r18_2, r18_3, r18_4, r18_5, r18_6, r18_7, r18_8, r18_9, r18_10, r18_11, r18_12, r18_13, r18_14]; simp [t41, t42]; exact rfl) ?_
      | refine W_tops (s1 := ?_) (by simp only [r18_0, r18_1, r18_2, r18_3, r18_4, r18_5, r18_6, r18_7, r18_8, r18_9, r18_10, r18_11, r18_12, r18_13, r18_14]; simp [t41, t42]; exact rfl) ?_
      | refine W_cond_t (by first | (simp [t41, t42]; done) | fail) ?_
      | refine W_cond_f (by first | (simp [t41, t42]; done) | fail) ?_
      | fail)
    refine ⟨by simp, ?_⟩
    repeat' (first
      | refine W_seq ?_
      | refine W_skip ?_
      | refine W_block ?_
      | refine W_ret ?_
      | refine W_exit ?_
      | refine W_ops (s1 := ?_) (by simp only [r18_0, r18_1, r18_2, r18_3, r18_4, r18_5, r18_6, r18_7, r18_8, r18_9, r18_10, r18_11, r18_12, r18_13, r18_14]; simp [t35, w1]; exact rfl) ?_
      | refine W_tops (s1 := ?_) (by simp only [r18_0, r18_1, r18_2, r18_3, r18_4, r18_5, r18_6, r18_7, r18_8, r18_9, r18_10, r18_11, r18_12, r18_13, r18_14]; simp [t35, w1]; exact rfl) ?_
      | refine W_cond_t (by first | (simp [t35, w1]; done) | fail) ?_
      | refine W_cond_f (by first | (simp [t35, w1]; done) | fail) ?_
      | fail)
    refine W_loop' l18_0.eq_1 ?_
    obtain ⟨Φ, q, _⟩ := form_run (fun u o ho => himm o (opM_mem ho)) hF h2 _ k
    have xh : HExt h (h2.set (h'.next + 1) (.map .i64 (formsV Φ))) := by
      refine ⟨?_, fun id hid => ?_⟩
      · have := hx.1
        simp only [Heap.set]; omega
      · have := hx.1
        have a1 : id ≠ h'.next + 1 := by omega
        simp only [Heap.set, upd, a1, if_false]
        rw [ho id (by omega), hx.2 id hid]
    unfold formV at q
    repeat' (first
      | refine W_seq ?_
      | refine W_skip ?_
      | refine W_block ?_
      | refine W_ret ?_
      | refine W_exit ?_
      | refine W_ops (s1 := ?_) (by simp only [r18_0, r18_1, r18_2, r18_3, r18_4, r18_5, r18_6, r18_7, r18_8, r18_9, r18_10, r18_11, r18_12, r18_13, r18_14]; simp [t34, t35, t1, t4, t8, q, l4]; exact rfl) ?_
      | refine W_tops (s1 := ?_) (by simp only [r18_0, r18_1, r18_2, r18_3, r18_4, r18_5, r18_6, r18_7, r18_8, r18_9, r18_10, r18_11, r18_12, r18_13, r18_14]; simp [t34, t35, t1, t4, t8, q, l4]; exact rfl) ?_
      | refine W_cond_t (by first | (simp [t34, t35, t1, t4, t8, q, l4]; done) | fail) ?_
      | refine W_cond_f (by first | (simp [t34, t35, t1, t4, t8, q, l4]; done) | fail) ?_
      | fail)
    refine ⟨.inr rfl, _, by simp [a18, resV, resV1, t4]; exact rfl, ?_, by simp [formV], xh⟩
    simp [a18, packV, formV]

end Go.Proofs.YtcngflmnbdcppaaGreat

/- The laws' own example. -/
namespace Go.Proofs.YtcngflmnbdcppaaGreat
open Go.LS Go.IntWalk

/-- A function sees its arguments as lists with tag 'ro'. -/
theorem callD_retag {tab : FuncId → Option AFn} {f : FuncId} {af : AFn} {args args' : List V} {h : LS.Heap} (ht : tab f = some af) (he : af.ext = none) (hk : af.keepA = false) (h1 : args.all V.free = true) (h2 : args'.all V.free = true) (hr : args.map V.retag = args'.map V.retag) : callD tab f args h = callD tab f args' h := by
  unfold callD callF
  rw [ht]
  simp only [h1, h2, if_true, he, hk, hr]
  simp only [Bool.false_eq_true, if_false, hr]

def awF : Straight := ⟨[64], 64, [⟨0, 64, 1, 2, [], 8⟩, ⟨1, 64, 1, 3, [1, 2], 0⟩, ⟨3, 64, 1, 4, [2, 3], 0⟩], 4⟩

theorem aw_cases {P : OpD → Prop} (h0 : P ⟨0, 64, 1, 2, [], 8⟩) (h1 : P ⟨1, 64, 1, 3, [1, 2], 0⟩) (h2 : P ⟨3, 64, 1, 4, [2, 3], 0⟩) : ∀ o ∈ awF.ops, P o := by
  intro o ho
  simp only [awF, List.mem_cons, List.not_mem_nil, or_false] at ho
  rcases ho with rfl | rfl | rfl
  · exact h0
  · exact h1
  · exact h2

theorem aw_D1 : awF.D 1 = some ⟨-1, 0, 64, 1⟩ := by rfl
theorem aw_D2 : awF.D 2 = some ⟨0, 0, 64, 1⟩ := by rfl
theorem aw_D3 : awF.D 3 = some ⟨0, 1, 64, 1⟩ := by rfl
theorem aw_D4 : awF.D 4 = some ⟨0, 2, 64, 1⟩ := by rfl
theorem aw_D5 : awF.D 5 = none := by rfl

theorem aw_right : awF.Right where
  fit := by
    refine ⟨by simp [awF, Straight.f], by simp [Straight.f], fun b hb => ?_⟩
    simp only [Straight.f, List.mem_cons, List.not_mem_nil, or_false] at hb
    subst hb
    exact ⟨by simp [Straight.b], by simp [Straight.b, awF], by simp [Straight.b], fun p hp => by simp [Straight.b] at hp, aw_cases (by simp [OpD.Fit]) (by simp [OpD.Fit]) (by simp [OpD.Fit])⟩
  tells := by rfl
  takes := aw_cases (takes_0 _ _ _ _ _ (by omega)) (takes_1 _ _ _ _ _) (takes_3 _ _ _ _ _)
  ret := by rfl
  ps := by intro p hp; simp only [awF, List.mem_cons, List.not_mem_nil, or_false] at hp; subst hp; rfl
  ops := aw_cases (by rfl) (by rfl) (by rfl)
  once := by
    intro k hk hg
    have : k < 3 := hk
    rcases k with _ | _ | _ | k
    · rfl
    · rfl
    · rfl
    · omega
  uses := by
    intro k hk j hj
    have : k < 3 := hk
    rcases k with _ | _ | _ | k
    · exact absurd hj (Nat.not_lt_zero _)
    · have : j < 2 := hj
      rcases j with _ | _ | j
      · exact ⟨1, _, rfl, aw_D1, rfl, rfl, .inl (by decide)⟩
      · exact ⟨2, _, rfl, aw_D2, rfl, rfl, .inr ⟨rfl, by decide⟩⟩
      · omega
    · have : j < 2 := hj
      rcases j with _ | _ | j
      · exact ⟨2, _, rfl, aw_D2, rfl, rfl, .inr ⟨rfl, by decide⟩⟩
      · exact ⟨3, _, rfl, aw_D3, rfl, rfl, .inr ⟨rfl, by decide⟩⟩
      · omega
    · omega
  last := ⟨_, aw_D4, rfl, rfl, .inr ⟨rfl, by decide⟩⟩

theorem wr (x y : Int) (h : IntKind.u64.wrap x = y) : IntKind.u64.wrap x = y := h
theorem both_nil (f : Int → Int → Int) : bothL f [] [] = [] := by rw [bothL]
theorem both_l (f : Int → Int → Int) (v s : Int) : bothL f [(v, s)] [] = keepT v (f s 0) [] := by rw [bothL, both_nil]
theorem both_2 (f : Int → Int → Int) (v s r : Int) : bothL f [(v, s)] [(v, r)] = keepT v (f s r) [] := by rw [bothL, if_neg (by omega), if_neg (by omega), both_nil]
theorem may_1 (v s : Int) (h : ¬ (v ≤ 0 ∨ 1023 < v ∨ s = 0)) : mayL 0 [(v, s)] = true := by simp only [mayL]; rw [if_neg h]

theorem v_p1 : plusM [(1, 1)] [] 0 8 = ([(1, 1)], 8) := by unfold plusM; rw [if_pos ⟨may_1 _ _ (by omega), rfl⟩, both_l]; rfl
theorem v_t1 : timesM [(1, 1)] 8 8 = ([(1, 8)], 64) := by unfold timesM; rw [if_pos (may_1 _ _ (by omega)), both_l]; rfl
theorem v_t2 : timesM [(1, 8)] 64 2 = ([(1, 16)], 128) := by unfold timesM; rw [if_pos (may_1 _ _ (by omega)), both_l]; rfl
theorem v_p2 : plusM [(1, 8)] [(1, 8)] 64 64 = ([(1, 16)], 128) := by unfold plusM; rw [if_pos ⟨may_1 _ _ (by omega), may_1 _ _ (by omega)⟩, both_2]; rfl
theorem v_m2 : minusM [(1, 8)] [(1, 8)] 64 64 = ([], 0) := by unfold minusM; rw [if_pos ⟨may_1 _ _ (by omega), may_1 _ _ (by omega)⟩, both_2]; rfl

theorem aw_form : FormOf awF.O 4 ([(1, 8)], 64) := by
  have f1 : FormOf awF.O 1 ([(1, 1)], 0) := .none rfl
  have f2 : FormOf awF.O 2 ([], 8) := .const (o := ⟨0, 64, 1, 2, [], 8⟩) rfl rfl rfl rfl
  have f3 := FormOf.two (O := awF.O) (v := 3) (o := ⟨1, 64, 1, 3, [1, 2], 0⟩) rfl rfl rfl (by decide) (by decide) rfl f1 f2
  have e3 : capF 3 (twoF 1 ([(1, 1)], 0) ([], 8)) = ([(1, 1)], 8) := by unfold twoF; rw [if_pos rfl, v_p1]; rfl
  simp only [e3] at f3
  have f4 := FormOf.two (O := awF.O) (v := 4) (o := ⟨3, 64, 1, 4, [2, 3], 0⟩) rfl rfl rfl (by decide) (by decide) rfl f2 f3
  have e4 : capF 4 (twoF 3 ([], 8) ([(1, 1)], 8)) = ([(1, 8)], 64) := by unfold twoF; rw [if_neg (by decide), if_neg (by decide), if_neg (by simp), if_pos ⟨rfl, rfl⟩, v_t1]; rfl
  simp only [e4] at f4
  exact f4

theorem awake_run (hTree : TreeOne) (h : LS.Heap) : callD T 8 [] h = some (.bool true, h) := by
  have e1 := Of_yes hTree awF aw_right 4 h aw_D4 rfl rfl aw_form (aw_cases (by decide) (by decide) (by decide))
  have e2 := Of_no hTree awF aw_right 5 h (fun d hd => by rw [aw_D5] at hd; cases hd)
  have p1 := Plus_run .exact .exact [(1, 8)] [(1, 8)] 64 64 (by simp) (by simp) h
  have p2 := Minus_run .exact .exact [(1, 8)] [(1, 8)] 64 64 (by simp) (by simp) h
  have p3 := Times_run .exact [(1, 8)] 64 2 (by simp) h
  have p4 := May_run .exact [(1, 8)] 64 (by simp) h
  have p5 := Same_run .ro .exact [(1, 8)] [(1, 8)] 64 64 (by simp) (by simp) h
  have p6 := Same_run .ro .nil [] [] 0 0 (by simp) (by simp) h
  rw [v_p2] at p1
  rw [v_m2] at p2
  rw [v_t2] at p3
  simp only [formC] at p1 p2 p3 p4 p5 p6
  have hf : awF.f.c = [.lst .ro [[.int .i64 64]], .int .i64 64, .lst .ro [[.lst .ro [], .lst .ro [[.int .i64 0, .int .i64 64, .int .i64 1, .int .i64 2, .lst .ro [], .int .u64 8], [.int .i64 1, .int .i64 64, .int .i64 1, .int .i64 3, .lst .ro [[.int .i64 1], [.int .i64 2]], .int .u64 0], [.int .i64 3, .int .i64 64, .int .i64 1, .int .i64 4, .lst .ro [[.int .i64 2], [.int .i64 3]], .int .u64 0]], .int .i64 0, .int .i64 4, .lst .ro []]]] := rfl
  rw [hf] at e1 e2
  simp only [formV] at e1 e2
  have t1 : terms [(1, 8)] = [[.int .i64 1, .int .u64 8]] := rfl
  have t2 : terms [(1, 16)] = [[.int .i64 1, .int .u64 16]] := rfl
  rw [t1] at e1 p1 p2 p3 p4 p5
  rw [t2] at p1 p3
  rw [terms_nil] at e2 p2 p6
  have m1 : mayL 0 [(1, 8)] = true := may_1 _ _ (by omega)
  rw [m1] at p4
  refine W_call t8 rfl rfl (by simp) ?_
  show W T c8 _ _
  unfold c8
  have hq : ∀ v, callD T 18 [.agg [.lst .exact [[.int .i64 64]], .int .i64 64, .lst .exact [[.lst .nil [], .lst .exact [[.int .i64 0, .int .i64 64, .int .i64 1, .int .i64 2, .lst .nil [], .int .u64 8], [.int .i64 1, .int .i64 64, .int .i64 1, .int .i64 3, .lst .exact [[.int .i64 1], [.int .i64 2]], .int .u64 0], [.int .i64 3, .int .i64 64, .int .i64 1, .int .i64 4, .lst .exact [[.int .i64 2], [.int .i64 3]], .int .u64 0]], .int .i64 0, .int .i64 4, .lst .nil []]]], .int .i64 v] h = _ :=
    fun v => callD_retag t18 rfl rfl (by simp) (args' := [.agg [.lst .ro [[.int .i64 64]], .int .i64 64, .lst .ro [[.lst .ro [], .lst .ro [[.int .i64 0, .int .i64 64, .int .i64 1, .int .i64 2, .lst .ro [], .int .u64 8], [.int .i64 1, .int .i64 64, .int .i64 1, .int .i64 3, .lst .ro [[.int .i64 1], [.int .i64 2]], .int .u64 0], [.int .i64 3, .int .i64 64, .int .i64 1, .int .i64 4, .lst .ro [[.int .i64 2], [.int .i64 3]], .int .u64 0]], .int .i64 0, .int .i64 4, .lst .ro []]]], .int .i64 v]) (by simp) (by simp)
  have g1 := (hq 4).trans e1
  have g2 := (hq 5).trans e2
  refine W_seq (W_ops (s1 := ?_) (by simp only [r8_0]; simp [a8]; exact rfl) ?_)
  refine W_seq (W_ops (s1 := ?_) (by simp only [r8_1]; simp [nextVer]; exact rfl) ?_)
  refine W_seq (W_ops (s1 := ?_) (by simp only [r8_2]; simp [nextVer, g1]; exact rfl) ?_)
  refine W_seq (W_ops (s1 := ?_) (by simp only [r8_3]; simp [nextVer, g2]; exact rfl) ?_)
  refine W_seq (W_ops (s1 := ?_) (by simp only [r8_4]; simp [nextVer]; exact rfl) ?_)
  refine W_seq (W_ops (s1 := ?_) (by simp only [r8_5]; simp [p1, p2, p3, p4, p5, p6]; exact rfl) (W_ret ?_))
  exact ⟨.inr rfl, [.bool true], by simp [a8, resV, resV1], by simp [a8, packV], rfl, .refl _⟩

end Go.Proofs.YtcngflmnbdcppaaGreat

/- The law of scales: what it comes to. -/
namespace Go.Proofs.YtcngflmnbdcppaaGreat
open Go.LS Go.IntWalk

theorem const_may (d n : Int) (hd : 1 ≤ d ∧ d ≤ 1023) : mayOp ⟨0, 64, 1, d, [], n⟩ = true := by
  simp [mayOp, takesM, cutU, shapeB, widthB, dstB, valueB, storesB]
  omega
theorem const_give (d n : Int) (hd : 1 ≤ d ∧ d ≤ 1023) : giveM ⟨0, 64, 1, d, [], n⟩ = (64, 1) := by
  simp [giveM, const_may d n hd, storesB]

def scF (n b : Int) : Straight := ⟨[64], 64, [⟨0, 64, 1, 2, [], n⟩, ⟨0, 64, 1, 3, [], b⟩, ⟨1, 64, 1, 4, [1, 2], 0⟩, ⟨3, 64, 1, 5, [4, 3], 0⟩, ⟨3, 64, 1, 6, [3, 4], 0⟩, ⟨8, 64, 1, 7, [4, 3], 0⟩], 7⟩

theorem sc_cases {n b : Int} {P : OpD → Prop} (h0 : P ⟨0, 64, 1, 2, [], n⟩) (h1 : P ⟨0, 64, 1, 3, [], b⟩) (h2 : P ⟨1, 64, 1, 4, [1, 2], 0⟩) (h3 : P ⟨3, 64, 1, 5, [4, 3], 0⟩) (h4 : P ⟨3, 64, 1, 6, [3, 4], 0⟩) (h5 : P ⟨8, 64, 1, 7, [4, 3], 0⟩) : ∀ o ∈ (scF n b).ops, P o := by
  intro o ho
  simp only [scF, List.mem_cons, List.not_mem_nil, or_false] at ho
  rcases ho with rfl | rfl | rfl | rfl | rfl | rfl
  · exact h0
  · exact h1
  · exact h2
  · exact h3
  · exact h4
  · exact h5

section
variable (n b : Int)
theorem sc_g2 : giveM ⟨1, 64, 1, 4, [1, 2], 0⟩ = (64, 1) := rfl
theorem sc_g3 : giveM ⟨3, 64, 1, 5, [4, 3], 0⟩ = (64, 1) := rfl
theorem sc_g4 : giveM ⟨3, 64, 1, 6, [3, 4], 0⟩ = (64, 1) := rfl
theorem sc_g5 : giveM ⟨8, 64, 1, 7, [4, 3], 0⟩ = (64, 1) := rfl

theorem sc_Do0 : Do (scF n b) 0 = fun j => if j = 1 then some ⟨-1, 0, 64, 1⟩ else none := by
  funext j; simp [Do, scF, Dp]
theorem sc_Do1 : Do (scF n b) 1 = fun j => if j = 2 then some ⟨0, 0, 64, 1⟩ else Do (scF n b) 0 j := by
  have e : (scF n b).ops[0]? = some ⟨0, 64, 1, 2, [], n⟩ := rfl
  simp only [Do, e, const_give 2 n (by omega)]; rfl
theorem sc_Do2 : Do (scF n b) 2 = fun j => if j = 3 then some ⟨0, 1, 64, 1⟩ else Do (scF n b) 1 j := by
  have e : (scF n b).ops[1]? = some ⟨0, 64, 1, 3, [], b⟩ := rfl
  simp only [Do, e, const_give 3 b (by omega)]; rfl
theorem sc_Do3 : Do (scF n b) 3 = fun j => if j = 4 then some ⟨0, 2, 64, 1⟩ else Do (scF n b) 2 j := rfl
theorem sc_Do4 : Do (scF n b) 4 = fun j => if j = 5 then some ⟨0, 3, 64, 1⟩ else Do (scF n b) 3 j := rfl
theorem sc_Do5 : Do (scF n b) 5 = fun j => if j = 6 then some ⟨0, 4, 64, 1⟩ else Do (scF n b) 4 j := rfl
theorem sc_Do6 : Do (scF n b) 6 = fun j => if j = 7 then some ⟨0, 5, 64, 1⟩ else Do (scF n b) 5 j := rfl

theorem sc_D (j : Int) : (scF n b).D j = if j = 7 then some ⟨0, 5, 64, 1⟩ else if j = 6 then some ⟨0, 4, 64, 1⟩ else if j = 5 then some ⟨0, 3, 64, 1⟩ else if j = 4 then some ⟨0, 2, 64, 1⟩ else if j = 3 then some ⟨0, 1, 64, 1⟩ else if j = 2 then some ⟨0, 0, 64, 1⟩ else if j = 1 then some ⟨-1, 0, 64, 1⟩ else none := by
  show Do (scF n b) 6 j = _
  rw [sc_Do6, sc_Do5, sc_Do4, sc_Do3, sc_Do2, sc_Do1, sc_Do0]

theorem sc_right (hn : 0 ≤ n ∧ n < 18446744073709551616) (hb : 0 ≤ b ∧ b < 18446744073709551616) : (scF n b).Right where
  fit := by
    refine ⟨by simp [scF, Straight.f], by simp [Straight.f], fun x hx => ?_⟩
    simp only [Straight.f, List.mem_cons, List.not_mem_nil, or_false] at hx
    subst hx
    exact ⟨by simp [Straight.b], by simp [Straight.b, scF], by simp [Straight.b], fun p hp => by simp [Straight.b] at hp, sc_cases (by simp [OpD.Fit]) (by simp [OpD.Fit]) (by simp [OpD.Fit]) (by simp [OpD.Fit]) (by simp [OpD.Fit]) (by simp [OpD.Fit])⟩
  tells := by rfl
  takes := sc_cases (takes_0 _ _ _ _ _ hn) (takes_0 _ _ _ _ _ hb) (takes_1 _ _ _ _ _) (takes_3 _ _ _ _ _) (takes_3 _ _ _ _ _) (takes_8 _ _ _ _ _)
  ret := by rfl
  ps := by intro p hp; simp only [scF, List.mem_cons, List.not_mem_nil, or_false] at hp; subst hp; rfl
  ops := sc_cases (const_may 2 n (by omega)) (const_may 3 b (by omega)) rfl rfl rfl rfl
  once := by
    intro k hk hg
    have : k < 6 := hk
    rcases k with _ | _ | _ | _ | _ | _ | k
    · show Do (scF n b) 0 2 = none
      rw [sc_Do0]; rfl
    · show Do (scF n b) 1 3 = none
      rw [sc_Do1, sc_Do0]; rfl
    · show Do (scF n b) 2 4 = none
      rw [sc_Do2, sc_Do1, sc_Do0]; rfl
    · show Do (scF n b) 3 5 = none
      rw [sc_Do3, sc_Do2, sc_Do1, sc_Do0]; rfl
    · show Do (scF n b) 4 6 = none
      rw [sc_Do4, sc_Do3, sc_Do2, sc_Do1, sc_Do0]; rfl
    · show Do (scF n b) 5 7 = none
      rw [sc_Do5, sc_Do4, sc_Do3, sc_Do2, sc_Do1, sc_Do0]; rfl
    · omega
  uses := by
    intro k hk j hj
    have : k < 6 := hk
    have c0 : ∀ d m : Int, 1 ≤ d ∧ d ≤ 1023 → (takeL ⟨0, 64, 1, d, [], m⟩).length = 0 := fun d m hd => by simp [takeL, const_may d m hd, takesM]
    rcases k with _ | _ | _ | _ | _ | _ | k
    · have : j < (takeL ⟨0, 64, 1, 2, [], n⟩).length := hj
      rw [c0 2 n (by omega)] at this; omega
    · have : j < (takeL ⟨0, 64, 1, 3, [], b⟩).length := hj
      rw [c0 3 b (by omega)] at this; omega
    · have : j < 2 := hj
      rcases j with _ | _ | j
      · exact ⟨1, _, rfl, by rw [sc_D]; rfl, rfl, rfl, .inl (by decide)⟩
      · exact ⟨2, _, rfl, by rw [sc_D]; rfl, rfl, rfl, .inr ⟨rfl, by decide⟩⟩
      · omega
    · have : j < 2 := hj
      rcases j with _ | _ | j
      · exact ⟨4, _, rfl, by rw [sc_D]; rfl, rfl, rfl, .inr ⟨rfl, by decide⟩⟩
      · exact ⟨3, _, rfl, by rw [sc_D]; rfl, rfl, rfl, .inr ⟨rfl, by decide⟩⟩
      · omega
    · have : j < 2 := hj
      rcases j with _ | _ | j
      · exact ⟨3, _, rfl, by rw [sc_D]; rfl, rfl, rfl, .inr ⟨rfl, by decide⟩⟩
      · exact ⟨4, _, rfl, by rw [sc_D]; rfl, rfl, rfl, .inr ⟨rfl, by decide⟩⟩
      · omega
    · have : j < 2 := hj
      rcases j with _ | _ | j
      · exact ⟨4, _, rfl, by rw [sc_D]; rfl, rfl, rfl, .inr ⟨rfl, by decide⟩⟩
      · exact ⟨3, _, rfl, by rw [sc_D]; rfl, rfl, rfl, .inr ⟨rfl, by decide⟩⟩
      · omega
    · omega
  last := ⟨_, by show (scF n b).D 7 = _; rw [sc_D]; rfl, rfl, rfl, .inr ⟨rfl, by decide⟩⟩

theorem v_plus (hn : 0 ≤ n ∧ n < 18446744073709551616) : plusM [(1, 1)] [] 0 n = ([(1, 1)], n) := by
  unfold plusM
  rw [if_pos ⟨may_1 _ _ (by omega), rfl⟩, both_l]
  have e : addU 0 n = n := by unfold addU; rw [Int.zero_add, u64_wrap]; omega
  rw [e]; rfl
theorem v_times (m : Int) : (timesM [(1, 1)] n m).1.length ≤ 1 := by
  unfold timesM; rw [if_pos (may_1 _ _ (by omega)), both_l]
  simp only [keepT]
  split <;> simp

theorem sc_forms (hn : 0 ≤ n ∧ n < 18446744073709551616) : FormOf (scF n b).O 4 ([(1, 1)], n) ∧ FormOf (scF n b).O 5 (timesM [(1, 1)] n b) ∧ FormOf (scF n b).O 6 (timesM [(1, 1)] n b) ∧
    FormOf (scF n b).O 7 (if b < 64 then timesM [(1, 1)] n (shlU b) else ([(7, 1)], 0)) := by
  have f1 : FormOf (scF n b).O 1 ([(1, 1)], 0) := .none rfl
  have f2 : FormOf (scF n b).O 2 ([], n) := .const (o := ⟨0, 64, 1, 2, [], n⟩) rfl rfl rfl rfl
  have f3 : FormOf (scF n b).O 3 ([], b) := .const (o := ⟨0, 64, 1, 3, [], b⟩) rfl rfl rfl rfl
  have f4 := FormOf.two (O := (scF n b).O) (v := 4) (o := ⟨1, 64, 1, 4, [1, 2], 0⟩) rfl rfl rfl (by decide) (by decide) rfl f1 f2
  have e4 : capF 4 (twoF 1 ([(1, 1)], 0) ([], n)) = ([(1, 1)], n) := by unfold twoF; rw [if_pos rfl, v_plus n hn]; rfl
  simp only [e4] at f4
  have cap : ∀ v m, capF v (some (timesM [(1, 1)] n m)) = timesM [(1, 1)] n m := fun v m => by
    have := v_times n m
    simp only [capF]; rw [if_neg (by omega)]
  have f5 := FormOf.two (O := (scF n b).O) (v := 5) (o := ⟨3, 64, 1, 5, [4, 3], 0⟩) rfl rfl rfl (by decide) (by decide) rfl f4 f3
  have e5 : capF 5 (twoF 3 ([(1, 1)], n) ([], b)) = timesM [(1, 1)] n b := by unfold twoF; rw [if_neg (by decide), if_neg (by decide), if_pos ⟨rfl, rfl⟩, cap]
  simp only [e5] at f5
  have f6 := FormOf.two (O := (scF n b).O) (v := 6) (o := ⟨3, 64, 1, 6, [3, 4], 0⟩) rfl rfl rfl (by decide) (by decide) rfl f3 f4
  have e6 : capF 6 (twoF 3 ([], b) ([(1, 1)], n)) = timesM [(1, 1)] n b := by unfold twoF; rw [if_neg (by decide), if_neg (by decide), if_neg (by simp), if_pos ⟨rfl, rfl⟩, cap]
  simp only [e6] at f6
  have f7 := FormOf.two (O := (scF n b).O) (v := 7) (o := ⟨8, 64, 1, 7, [4, 3], 0⟩) rfl rfl rfl (by decide) (by decide) rfl f4 f3
  have e7 : capF 7 (twoF 8 ([(1, 1)], n) ([], b)) = if b < 64 then timesM [(1, 1)] n (shlU b) else ([(7, 1)], 0) := by
    unfold twoF
    rw [if_neg (by decide), if_neg (by decide), if_neg (by simp), if_neg (by simp)]
    by_cases h : b < 64
    · rw [if_pos ⟨rfl, rfl, h⟩, if_pos h, cap]
    · rw [if_neg (by simp; omega), if_neg h]; rfl
  simp only [e7] at f7
  exact ⟨f4, f5, f6, f7⟩
end

end Go.Proofs.YtcngflmnbdcppaaGreat

/- The law of steps: its function. -/
namespace Go.Proofs.YtcngflmnbdcppaaGreat
open Go.LS Go.IntWalk

def stOp (kind : Int) (i : Nat) : OpD := ⟨kind, 64, 1, 3 + (i : Int), [if i = 0 then 1 else 2 + (i : Int), 2], 0⟩
def stF (kind size : Int) (k : Nat) : Straight := ⟨[64], 64, ⟨0, 64, 1, 2, [], size⟩ :: (List.range k).map (stOp kind), if k = 0 then 1 else 2 + (k : Int)⟩

section
variable {kind size : Int} {k : Nat}

theorem st_len : (stF kind size k).ops.length = k + 1 := by simp [stF]
theorem st_op0 : (stF kind size k).ops[0]? = some ⟨0, 64, 1, 2, [], size⟩ := rfl
theorem st_op (i : Nat) (hi : i < k) : (stF kind size k).ops[i + 1]? = some (stOp kind i) := by simp [stF, hi]

theorem st_cases {P : OpD → Prop} (h0 : P ⟨0, 64, 1, 2, [], size⟩) (h1 : ∀ i, i < k → P (stOp kind i)) : ∀ o ∈ (stF kind size k).ops, P o := by
  intro o ho
  simp only [stF, List.mem_cons, List.mem_map, List.mem_range] at ho
  rcases ho with rfl | ⟨i, hi, rfl⟩
  · exact h0
  · exact h1 i hi

theorem st_may (hk : kind = 1 ∨ kind = 2) (i : Nat) (hi : i < 60) : mayOp (stOp kind i) = true := by
  have hv : valueB (3 + (i : Int)) = true := by simp [valueB]; omega
  have hv2 : valueB (if i = 0 then 1 else 2 + (i : Int)) = true := by split <;> (simp [valueB]; try omega)
  rcases hk with rfl | rfl
  · simp [mayOp, stOp, takesM, shapeB, widthB, dstB, storesB, OpD.no, hv, hv2]
    simp [valueB]
  · simp [mayOp, stOp, takesM, shapeB, widthB, dstB, storesB, OpD.no, hv, hv2]
    simp [valueB]

theorem st_give (hk : kind = 1 ∨ kind = 2) (i : Nat) (hi : i < 60) : giveM (stOp kind i) = (64, 1) := by
  unfold giveM
  rw [if_neg (by rw [st_may hk i hi]; rcases hk with rfl | rfl <;> simp [stOp, storesB]), if_neg (by rcases hk with rfl | rfl <;> simp [stOp]), if_neg (by rcases hk with rfl | rfl <;> simp [stOp])]
  rfl

theorem st_take (hk : kind = 1 ∨ kind = 2) (i : Nat) (hi : i < 60) : takeL (stOp kind i) = [(64, 1), (64, 1)] := by
  unfold takeL
  rw [if_pos (st_may hk i hi)]
  rcases hk with rfl | rfl <;> simp [stOp, takesM]

theorem st_Do (hk : kind = 1 ∨ kind = 2) (hk60 : k < 60) : ∀ m, m ≤ k + 1 → Do (stF kind size k) m = fun v => if v = 1 then some ⟨-1, 0, 64, 1⟩ else if 2 ≤ v ∧ v < (m : Int) + 2 then some ⟨0, v - 2, 64, 1⟩ else none
  | 0, _ => by
    funext v
    show (if v = ((0 : Nat) : Int) + 1 then some (⟨-1, 0, [64].getD 0 0, 1⟩ : DefD) else none) = _
    by_cases h1 : v = 1
    · subst h1; simp
    · rw [if_neg (by omega), if_neg h1, if_neg (by omega)]
  | 1, _ => by
    have e : Do (stF kind size k) 1 = fun j => if j = 2 then some ⟨0, 0, 64, 1⟩ else Do (stF kind size k) 0 j := by
      simp only [Do, st_op0, const_give 2 size (by omega)]; rfl
    rw [e, st_Do hk hk60 0 (by omega)]
    funext v
    by_cases h2 : v = 2
    · subst h2; simp
    · by_cases h1 : v = 1
      · subst h1; simp
      · simp only [h1, h2, if_false]
        rw [if_neg (by omega), if_neg (by omega)]
  | m + 2, hm => by
    have e : Do (stF kind size k) (m + 2) = fun j => if j = 3 + (m : Int) then some ⟨0, ((m + 1 : Nat) : Int), 64, 1⟩ else Do (stF kind size k) (m + 1) j := by
      have : Do (stF kind size k) (m + 2) = match (stF kind size k).ops[m + 1]? with
        | some o => if 0 < (giveM o).1 then fun j => if j = o.dst then some ⟨0, ((m + 1 : Nat) : Int), (giveM o).1, (giveM o).2⟩ else Do (stF kind size k) (m + 1) j else Do (stF kind size k) (m + 1)
        | none => Do (stF kind size k) (m + 1) := rfl
      rw [this, st_op m (by omega)]
      simp only [st_give hk m (by omega)]
      rfl
    rw [e, st_Do hk hk60 (m + 1) (by omega)]
    funext v
    simp only []
    by_cases h3 : v = 3 + (m : Int)
    · subst h3
      rw [if_pos rfl, if_neg (by omega), if_pos (by constructor <;> omega)]
      congr 2
      omega
    · rw [if_neg h3]
      by_cases h1 : v = 1
      · rw [if_pos h1, if_pos h1]
      · rw [if_neg h1, if_neg h1]
        by_cases hr : 2 ≤ v ∧ v < (m : Int) + 3
        · rw [if_pos (by omega), if_pos (by omega)]
        · rw [if_neg (by omega), if_neg (by omega)]

theorem st_D (hk : kind = 1 ∨ kind = 2) (hk60 : k < 60) (v : Int) : (stF kind size k).D v = if v = 1 then some ⟨-1, 0, 64, 1⟩ else if 2 ≤ v ∧ v < (k : Int) + 3 then some ⟨0, v - 2, 64, 1⟩ else none := by
  show Do (stF kind size k) (stF kind size k).ops.length v = _
  rw [st_len, st_Do hk hk60 (k + 1) (Nat.le_refl _)]
  have : ((k + 1 : Nat) : Int) + 2 = (k : Int) + 3 := by omega
  rw [this]
theorem st_bad : badOp ⟨0, 64, 1, 2, [], size⟩ = false := rfl
theorem st_badS (hk : kind = 1 ∨ kind = 2) (i : Nat) (hi : i < 60) : badOp (stOp kind i) = false := by
  have b1 : badN (3 + (i : Int)) = false := by simp [badN]; omega
  have b2 : badN (if i = 0 then 1 else 2 + (i : Int)) = false := by split <;> (simp [badN]; try omega)
  rcases hk with rfl | rfl
  · simp [badOp, stOp, badL, b1, b2]; simp [badN]
  · simp [badOp, stOp, badL, b1, b2]; simp [badN]

theorem st_arg (hk60 : k < 60) : badN (if k = 0 then 1 else 2 + (k : Int)) = false := by split <;> (simp [badN]; try omega)

theorem st_right (hk : kind = 1 ∨ kind = 2) (hk60 : k < 60) (hs : 0 ≤ size ∧ size < 18446744073709551616) : (stF kind size k).Right where
  fit := by
    refine ⟨by simp [stF, Straight.f], by simp [Straight.f], fun x hx => ?_⟩
    simp only [Straight.f, List.mem_cons, List.not_mem_nil, or_false] at hx
    subst hx
    refine ⟨by simp [Straight.b], ?_, by simp [Straight.b], fun p hp => by simp [Straight.b] at hp, st_cases (by simp [OpD.Fit]) (fun i _ => by simp [OpD.Fit, stOp])⟩
    show (stF kind size k).ops.length < 2 ^ 40
    rw [st_len]; omega
  tells := by
    have hany : (stF kind size k).ops.any badOp = false := by
      rw [List.any_eq_false]
      exact st_cases (by rw [st_bad]; decide) (fun i hi => by rw [st_badS hk i (by omega)]; decide)
    have harg := st_arg hk60
    have hb : badBlock (stF kind size k).b = false := by
      show badBlock ⟨[], (stF kind size k).ops, 0, (if k = 0 then 1 else 2 + (k : Int)), []⟩ = false
      simp [badBlock, hany, harg, badL]
      decide
    have hsz : (stF kind size k).f.size = 1 + (k + 1) := by
      show 1 + (szB (stF kind size k).b + 0) = _
      have : szB (stF kind size k).b = 0 + (stF kind size k).ops.length := rfl
      rw [this, st_len]; omega
    unfold FuncD.tells
    rw [hsz]
    have h1 : (stF kind size k).f.blocks.any badBlock = false := by
      show ([(stF kind size k).b].any badBlock) = false
      simp [hb]
    rw [h1]
    have h2 : decide (1 + (k + 1) ≤ 512) = true := by simp; omega
    rw [h2]
    rfl
  takes := st_cases (takes_0 _ _ _ _ _ hs) (fun i hi => by rcases hk with rfl | rfl; exact takes_1 _ _ _ _ _; exact takes_2 _ _ _ _ _)
  ret := by rfl
  ps := by intro p hp; simp only [stF, List.mem_cons, List.not_mem_nil, or_false] at hp; subst hp; rfl
  ops := st_cases (const_may 2 size (by omega)) (fun i hi => st_may hk i (by omega))
  once := by
    intro m hm hg
    have hm' : m < k + 1 := by rw [st_len] at hm; exact hm
    rw [st_Do hk hk60 m (by omega)]
    have hd : (stF kind size k).ops[m].dst = (m : Int) + 2 := by
      cases m with
      | zero => rfl
      | succ m =>
        have := st_op (kind := kind) (size := size) (k := k) m (by omega)
        rw [List.getElem?_eq_getElem hm] at this
        injection this with this
        rw [this]
        simp only [stOp]; omega
    simp only [hd]
    rw [if_neg (by omega), if_neg (by omega)]
  uses := by
    intro m hm j hj
    have hm' : m < k + 1 := by rw [st_len] at hm; exact hm
    cases m with
    | zero =>
      have h0 : (takeL ⟨0, 64, 1, 2, [], size⟩).length = 0 := by simp [takeL, const_may 2 size (by omega), takesM]
      have : j < (takeL ⟨0, 64, 1, 2, [], size⟩).length := hj
      omega
    | succ m =>
      have ho : (stF kind size k).ops[m + 1] = stOp kind m := by
        have := st_op (kind := kind) (size := size) (k := k) m (by omega)
        rw [List.getElem?_eq_getElem hm] at this
        injection this
      have ht := st_take (kind := kind) hk m (by omega)
      simp only [ho, ht] at hj ⊢
      have hj2 : j < 2 := hj
      rcases j with _ | _ | j
      · refine ⟨if m = 0 then 1 else 2 + (m : Int), if m = 0 then ⟨-1, 0, 64, 1⟩ else ⟨0, m, 64, 1⟩, rfl, ?_, ?_, ?_, ?_⟩
        · rw [st_D hk hk60]
          by_cases h0 : m = 0
          · simp [h0]
          · simp only [h0, if_false]
            rw [if_neg (by omega), if_pos (by omega)]
            congr 2; omega
        · split <;> rfl
        · split <;> rfl
        · by_cases h0 : m = 0
          · simp [h0]
          · rw [if_neg h0]; exact .inr ⟨rfl, by show (m : Int) < ((m + 1 : Nat) : Int); omega⟩
      · refine ⟨2, ⟨0, 0, 64, 1⟩, rfl, ?_, rfl, rfl, .inr ⟨rfl, by show (0 : Int) < ((m + 1 : Nat) : Int); omega⟩⟩
        rw [st_D hk hk60, if_neg (by omega), if_pos (by omega)]
        rfl
      · omega
  last := by
    refine ⟨if k = 0 then ⟨-1, 0, 64, 1⟩ else ⟨0, k, 64, 1⟩, ?_, by split <;> rfl, by split <;> rfl, ?_⟩
    · show (stF kind size k).D (if k = 0 then 1 else 2 + (k : Int)) = _
      rw [st_D hk hk60]
      by_cases h0 : k = 0
      · simp [h0]
      · simp only [h0, if_false]
        rw [if_neg (by omega), if_pos (by omega)]
        congr 2; omega
    · by_cases h0 : k = 0
      · simp [h0]
      · rw [if_neg h0]; exact .inr ⟨rfl, by show (k : Int) < 1048576; omega⟩
theorem st_opM (m : Nat) (hm : m ≤ k + 1) : ∀ v : Int, opM (stF kind size k).ops m v = if 2 ≤ v ∧ v < (m : Int) + 2 then (stF kind size k).ops[(v - 2).toNat]? else none := by
  induction m with
  | zero => intro v; simp only [opM]; rw [if_neg (by omega)]
  | succ m ih =>
    intro v
    have hm' : m < (stF kind size k).ops.length := by rw [st_len]; omega
    have hd : (stF kind size k).ops[m].dst = (m : Int) + 2 := by
      cases m with
      | zero => rfl
      | succ m =>
        have := st_op (kind := kind) (size := size) (k := k) m (by omega)
        rw [List.getElem?_eq_getElem hm'] at this
        injection this with this
        rw [this]
        simp only [stOp]; omega
    simp only [opM, List.getElem?_eq_getElem hm', hd]
    by_cases hv : v = (m : Int) + 2
    · subst hv
      rw [if_pos rfl, if_pos (by omega)]
      have : ((m : Int) + 2 - 2).toNat = m := by omega
      rw [this, List.getElem?_eq_getElem hm']
    · rw [if_neg hv, ih (by omega)]
      by_cases hr : 2 ≤ v ∧ v < (m : Int) + 2
      · rw [if_pos hr, if_pos (by omega)]
      · rw [if_neg hr, if_neg (by omega)]

def offS (kind size : Int) : Nat → Int
  | 0 => 0
  | i + 1 => if kind = 1 then addU (offS kind size i) size else subU (offS kind size i) size

theorem st_forms (hk : kind = 1 ∨ kind = 2) (i : Nat) (hi : i ≤ k) : FormOf (stF kind size k).O (if i = 0 then 1 else 2 + (i : Int)) ([(1, 1)], offS kind size i) := by
  have hO : ∀ v, (stF kind size k).O v = if 2 ≤ v ∧ v < (k : Int) + 3 then (stF kind size k).ops[(v - 2).toNat]? else none := fun v => by
    show opM (stF kind size k).ops (stF kind size k).ops.length v = _
    rw [st_len, st_opM (k + 1) (Nat.le_refl _)]
    have : ((k + 1 : Nat) : Int) + 2 = (k : Int) + 3 := by omega
    rw [this]
  induction i with
  | zero => exact .none (by rw [hO, if_neg (by simp)])
  | succ i ih =>
    have f2 : FormOf (stF kind size k).O 2 ([], size) := .const (o := ⟨0, 64, 1, 2, [], size⟩) (by rw [hO, if_pos (by omega)]; rfl) rfl rfl rfl
    have ho : (stF kind size k).O (3 + (i : Int)) = some (stOp kind i) := by
      rw [hO, if_pos (by omega)]
      have : (3 + (i : Int) - 2).toNat = i + 1 := by omega
      rw [this, st_op i (by omega)]
    have f := FormOf.two ho rfl rfl (by rcases hk with rfl | rfl <;> simp [stOp]) (by rcases hk with rfl | rfl <;> simp [stOp]) rfl (ih (by omega)) f2
    have e : (if i + 1 = 0 then (1 : Int) else 2 + ((i + 1 : Nat) : Int)) = 3 + (i : Int) := by rw [if_neg (by omega)]; omega
    rw [e]
    have c : capF (3 + (i : Int)) (twoF (stOp kind i).kind ([(1, 1)], offS kind size i) ([], size)) = ([(1, 1)], offS kind size (i + 1)) := by
      rcases hk with rfl | rfl
      · show capF _ (twoF 1 _ _) = _
        unfold twoF; rw [if_pos rfl]; unfold plusM
        rw [if_pos ⟨may_1 _ _ (by omega), rfl⟩, both_l]
        rfl
      · show capF _ (twoF 2 _ _) = _
        unfold twoF; rw [if_neg (by decide), if_pos rfl]; unfold minusM
        rw [if_pos ⟨may_1 _ _ (by omega), rfl⟩, both_l]
        rfl
    rw [c] at f
    exact f

theorem offS_add (i : Nat) : offS 1 size i = IntKind.u64.wrap (size * i) := by
  induction i with
  | zero => simp [offS, u64_wrap]
  | succ i ih =>
    simp only [offS, if_true, addU]
    rw [ih, u64_wrap, u64_wrap, u64_wrap]
    have : size * ((i + 1 : Nat) : Int) = size * i + size := by rw [Int.natCast_succ, Int.mul_add, Int.mul_one]
    rw [this]; omega
theorem offS_sub (i : Nat) : offS 2 size i = IntKind.u64.wrap (0 - IntKind.u64.wrap (size * i)) := by
  induction i with
  | zero => simp [offS, u64_wrap]
  | succ i ih =>
    simp only [offS]
    rw [if_neg (by decide)]
    unfold subU
    rw [ih]
    simp only [u64_wrap]
    have : size * ((i + 1 : Nat) : Int) = size * i + size := by rw [Int.natCast_succ, Int.mul_add, Int.mul_one]
    rw [this]; omega
end

end Go.Proofs.YtcngflmnbdcppaaGreat

/- The law of steps: it answers true. -/
namespace Go.Proofs.YtcngflmnbdcppaaGreat
open Go.LS Go.IntWalk

/-- The operations as the law builds them. -/
def stC (kind size : Int) (i : Nat) : List (List V) :=
  [.int .i64 0, .int .i64 64, .int .i64 1, .int .i64 2, .lst .nil [], .int .u64 size] :: (List.range i).map fun (j : Nat) => [.int .i64 kind, .int .i64 64, .int .i64 1, .int .i64 (3 + (j : Int)), .lst .exact [[.int .i64 (if j = 0 then 1 else 2 + (j : Int))], [.int .i64 2]], .int .u64 0]

theorem stC_succ (kind size : Int) (i : Nat) : stC kind size (i + 1) = stC kind size i ++ [[.int .i64 kind, .int .i64 64, .int .i64 1, .int .i64 (3 + (i : Int)), .lst .exact [[.int .i64 (if i = 0 then 1 else 2 + (i : Int))], [.int .i64 2]], .int .u64 0]] := by
  simp [stC, List.range_succ]
theorem stC_len (kind size : Int) (i : Nat) : (stC kind size i).length = i + 1 := by simp [stC]
theorem stC_size (kind size : Int) (i : Nat) : okSize 6 (stC kind size i) = true := by
  simp [okSize, stC, hasSize]
theorem stC_retag (kind size : Int) (i : Nat) : V.retagLL (stC kind size i) = (stF kind size i).ops.map OpD.c := by
  rw [V.retagLL_map]
  simp [stC, stF, OpD.c, stOp, intC, V.retag, V.retagLL, V.retagL]

/-- A list that grows from a literal. -/
def Grows (h0 h : LS.Heap) (v : V) (l : List (List V)) : Prop := v = .lst .exact l ∨ Acc 6 h0 h v l

theorem Grows.append {h0 h : LS.Heap} {v : V} {l m : List (List V)} {tg : Tag} (ha : Grows h0 h v l) (hx : HExt h0 h) (hm : m ≠ []) (hsm : okSize 6 m = true) (hsl : okSize 6 l = true) (hb : (l.length + m.length) * 64 ≤ 140737488355328) :
    ∃ v' h', appendV 6 64 h v (.lst tg m) = some (v', h') ∧ Grows h0 h' v' (l ++ m) ∧ HExt h0 h' := by
  rcases ha with rfl | ha
  · refine ⟨.lst (.own h.next) (l ++ m), h.new (.tok (l ++ m).length 6), ?_, .inr (.inr ⟨h.next, rfl, by simp [Heap.new, upd], hx.1⟩), hx.trans (.new _ _)⟩
    unfold appendV
    simp only [elemsOf]
    rw [if_neg hm, if_pos hb, if_pos ⟨hsm, hsl⟩]
  · obtain ⟨v', h', e, a, x⟩ := ha.append hx hm hsm hsl (bytes := 64) (tg := tg) hb
    exact ⟨v', h', e, .inr a, x⟩

theorem Grows.lst {h0 h : LS.Heap} {v : V} {l : List (List V)} (ha : Grows h0 h v l) : ∃ tg, v = .lst tg l := by
  rcases ha with rfl | ⟨rfl, rfl⟩ | ⟨tk, rfl, _⟩
  · exact ⟨_, rfl⟩
  · exact ⟨_, rfl⟩
  · exact ⟨_, rfl⟩

theorem steps_of {kind size : Int} {k : Nat} (hk : kind = 1 ∨ kind = 2) (hk60 : k < 60) (hs : 0 ≤ size ∧ size < 18446744073709551616) (tg : Tag) (h : LS.Heap) :
    callD T 18 [.agg [.lst .exact [[.int .i64 64]], .int .i64 64, .lst .exact [[.lst .nil [], .lst tg (stC kind size k), .int .i64 0, .int .i64 (if k = 0 then 1 else 2 + (k : Int)), .lst .nil []]]], .int .i64 (if k = 0 then 1 else 2 + (k : Int))] h = some (.tup [formV ([(1, 1)], offS kind size k), .int .i64 0], h) := by
  have R := st_right (kind := kind) (size := size) (k := k) hk hk60 hs
  have himm : ∀ o ∈ (stF kind size k).ops, 0 ≤ o.imm := st_cases hs.1 (fun i _ => by simp [stOp])
  have q := Of_yes tree_one (stF kind size k) R (if k = 0 then 1 else 2 + (k : Int)) h (d := if k = 0 then ⟨-1, 0, 64, 1⟩ else ⟨0, k, 64, 1⟩)
    (by
      rw [st_D hk hk60]
      by_cases h0 : k = 0
      · simp [h0]
      · simp only [h0, if_false]
        rw [if_neg (by omega), if_pos (by omega)]
        congr 2; omega) (by split <;> rfl) (by split <;> rfl) (st_forms hk k (Nat.le_refl _)) himm
  refine (callD_retag t18 rfl rfl (by simp) (by simp) ?_).trans q
  simp only [List.map_cons, List.map_nil, V.retag, V.retagL, V.retagLL, FuncD.c, stC_retag, Straight.f, BlockD.c, Straight.b]
  simp only [stF, List.map_cons, List.map_nil, V.retag, V.retagL, V.retagLL, intC, FuncD.c, BlockD.c, OpD.c]
  rw [retag_op]

theorem steps_tail {kind n size : Int} {k : Nat} {down : Bool} (hkd : (kind = 2 ∧ down = true) ∨ (kind = 1 ∧ down = false)) (hk60 : k < 60) (hs : 0 ≤ size ∧ size < 18446744073709551616) {h : LS.Heap} {Q : AExit → St → Prop} (hQ : ∀ s : St, s.t 6 = .bool true → HExt h s.h → Q .ret s)
    (s : St) (t1 : s.t 1 = .int .u64 size) (t2 : s.t 2 = .bool down) (t7 : s.t 7 = .int .i64 k) (t8 : s.t 8 = .int .i64 kind) (hh : s.h = h) :
    W T (.seq (.ops r6_7) (.seq (.ops r6_8) (.seq (.seq (.ops r6_9) (.block 0 (.loop l6_0))) (.seq (.ops r6_14) (.seq (.ops r6_15) (.seq (.ops r6_16)
      (.seq (.seq (.ops r6_17) (.cond (.t 58) (.ops r6_18) (.skip))) (.seq (.ops r6_19) .ret)))))))) s Q := by
  obtain ⟨t, loc, h0⟩ := s
  simp only at t1 t2 t7 t8 hh
  subst hh
  refine W_seq (W_ops (s1 := ?_) (by simp only [r6_7]; simp [t1]; exact rfl) ?_)
  refine W_seq (W_ops (s1 := ?_) (by simp only [r6_8]; simp; exact rfl) ?_)
  refine W_seq (W_seq (W_ops (s1 := ?_) (by simp only [r6_9]; simp; exact rfl) ?_))
  refine W_block (W_for' l6_0.eq_1 (n := k) (fun i s => s.t 1 = .int .u64 size ∧ s.t 2 = .bool down ∧ s.t 7 = .int .i64 k ∧ s.t 8 = .int .i64 kind ∧ s.t 10 = .int .i64 (if i = 0 then 1 else 2 + (i : Int)) ∧ s.t 11 = .int .i64 i ∧ s.loc = loc ∧ Grows h0 s.h (s.t 9) (stC kind size i) ∧ HExt h0 s.h)
    ⟨by simp [t1], by simp [t2], by simp [t7], by simp [t8], by simp, by simp, rfl, .inl (by simp [stC]), .refl _⟩ ?_ ?_)
  · clear t1 t2 t7 t8
    rintro i ⟨t, loc', h2⟩ hi ⟨t1, t2, t7, t8, t10, t11, rfl, g, hx⟩
    simp only at t1 t2 t7 t8 t10 t11 g hx
    have hl1 : ((i : Int) < k) := by omega
    have hw := i64_succ (show i < 2 ^ 62 by omega)
    have hw3 : IntKind.i64.wrap (3 + (i : Int)) = 3 + (i : Int) := i64_in _ (by omega)
    obtain ⟨v', h', e, g', x'⟩ := g.append hx (m := [[.int .i64 kind, .int .i64 64, .int .i64 1, .int .i64 (3 + (i : Int)), .lst .exact [[.int .i64 (if i = 0 then 1 else 2 + (i : Int))], [.int .i64 2]], .int .u64 0]]) (tg := .exact) (by simp) (by simp) (stC_size _ _ _) (by rw [stC_len]; simp; omega)
    rw [← stC_succ] at g'
    obtain ⟨tg, hv⟩ := g.lst
    obtain ⟨tg', hv'⟩ := g'.lst
    refine W_seq (W_seq (W_ops (s1 := ?_) (by simp only [r6_10]; simp [t7, t11, hl1]; exact rfl) ?_))
    refine W_cond_t (by simp) (W_skip ?_)
    refine W_seq (W_block (W_seq (W_ops (s1 := ?_) (by simp only [r6_12]; simp [t8, t10, t11, hw3, e]; exact rfl) ?_)))
    refine W_ops (s1 := ?_) (by simp only [r6_13]; simp [t11, hw3]; exact rfl) ?_
    repeat' (first
      | refine W_seq ?_
      | refine W_skip ?_
      | refine W_block ?_
      | refine W_ret ?_
      | refine W_exit ?_
      | refine W_ops (s1 := ?_) (by simp only [r6_0, r6_1, r6_2, r6_3, r6_4, r6_5, r6_6, r6_7, r6_8, r6_9, r6_10, r6_12, r6_13, r6_11, r6_14, r6_15, r6_16, r6_17, r6_18, r6_19]; simp [t11, hw]; exact rfl) ?_
      | refine W_tops (s1 := ?_) (by simp only [r6_0, r6_1, r6_2, r6_3, r6_4, r6_5, r6_6, r6_7, r6_8, r6_9, r6_10, r6_12, r6_13, r6_11, r6_14, r6_15, r6_16, r6_17, r6_18, r6_19]; simp [t11, hw]; exact rfl) ?_
      | refine W_cond_t (by first | (simp [t11, hw]; done) | fail) ?_
      | refine W_cond_f (by first | (simp [t11, hw]; done) | fail) ?_
      | fail)
    exact .inl ⟨rfl, by simp [t1], by simp [t2], by simp [t7], by simp [t8], by simp; omega, by simp, rfl, by simpa using g', x'⟩
  · clear t1 t2 t7 t8
    rintro ⟨t, loc', h2⟩ ⟨t1, t2, t7, t8, t10, t11, rfl, g, hx⟩
    simp only at t1 t2 t7 t8 t10 t11 g hx
    refine W_seq (W_seq (W_ops (s1 := ?_) (by simp only [r6_10]; simp [t7, t11]; exact rfl) ?_))
    refine W_cond_f (by simp) (W_exit ?_)
    refine ⟨by simp, ?_⟩
    simp only [blockW, if_true, thenW]
    obtain ⟨tg, hv⟩ := g.lst
    have hk : kind = 1 ∨ kind = 2 := by rcases hkd with ⟨h1, _⟩ | ⟨h1, _⟩ <;> simp [h1]
    have hof := steps_of (kind := kind) (size := size) (k := k) hk hk60 hs tg h2
    have hsame := Same_run .ro .exact [(1, 1)] [(1, 1)] (offS kind size k) (offS kind size k) (by simp) (by simp) h2
    have tt1 : terms [(1, 1)] = [[.int .i64 1, .int .u64 1]] := rfl
    simp only [formC, tt1] at hsame
    simp only [formV, tt1] at hof
    rcases hkd with ⟨rfl, rfl⟩ | ⟨rfl, rfl⟩
    · rw [offS_sub, Int.zero_sub] at hof hsame
      have hwk : IntKind.u64.wrap (k : Int) = k := by rw [u64_wrap]; omega
      repeat' (first
        | refine W_seq ?_
        | refine W_skip ?_
        | refine W_block ?_
        | refine W_ret ?_
        | refine W_exit ?_
        | refine W_ops (s1 := ?_) (by simp only [r6_0, r6_1, r6_2, r6_3, r6_4, r6_5, r6_6, r6_7, r6_8, r6_9, r6_10, r6_12, r6_13, r6_11, r6_14, r6_15, r6_16, r6_17, r6_18, r6_19]; simp [t1, t2, t7, t8, hv, t10, nextVer, hof, hwk, hsame]; exact rfl) ?_
        | refine W_tops (s1 := ?_) (by simp only [r6_0, r6_1, r6_2, r6_3, r6_4, r6_5, r6_6, r6_7, r6_8, r6_9, r6_10, r6_12, r6_13, r6_11, r6_14, r6_15, r6_16, r6_17, r6_18, r6_19]; simp [t1, t2, t7, t8, hv, t10, nextVer, hof, hwk, hsame]; exact rfl) ?_
        | refine W_cond_t (by first | (simp [t1, t2, t7, t8, hv, t10, nextVer, hof, hwk, hsame]; done) | fail) ?_
        | refine W_cond_f (by first | (simp [t1, t2, t7, t8, hv, t10, nextVer, hof, hwk, hsame]; done) | fail) ?_
        | fail)
      exact hQ _ (by simp) hx
    · rw [offS_add] at hof hsame
      have hwk : IntKind.u64.wrap (k : Int) = k := by rw [u64_wrap]; omega
      repeat' (first
        | refine W_seq ?_
        | refine W_skip ?_
        | refine W_block ?_
        | refine W_ret ?_
        | refine W_exit ?_
        | refine W_ops (s1 := ?_) (by simp only [r6_0, r6_1, r6_2, r6_3, r6_4, r6_5, r6_6, r6_7, r6_8, r6_9, r6_10, r6_12, r6_13, r6_11, r6_14, r6_15, r6_16, r6_17, r6_18, r6_19]; simp [t1, t2, t7, t8, hv, t10, nextVer, hof, hwk, hsame]; exact rfl) ?_
        | refine W_tops (s1 := ?_) (by simp only [r6_0, r6_1, r6_2, r6_3, r6_4, r6_5, r6_6, r6_7, r6_8, r6_9, r6_10, r6_12, r6_13, r6_11, r6_14, r6_15, r6_16, r6_17, r6_18, r6_19]; simp [t1, t2, t7, t8, hv, t10, nextVer, hof, hwk, hsame]; exact rfl) ?_
        | refine W_cond_t (by first | (simp [t1, t2, t7, t8, hv, t10, nextVer, hof, hwk, hsame]; done) | fail) ?_
        | refine W_cond_f (by first | (simp [t1, t2, t7, t8, hv, t10, nextVer, hof, hwk, hsame]; done) | fail) ?_
        | fail)
      exact hQ _ (by simp) hx

theorem steps_run (n size : Int) (hn : 0 ≤ n ∧ n < 256) (hs : 0 ≤ size ∧ size < 18446744073709551616) (down : Bool) (h : LS.Heap) : callD T 6 [.int .u8 n, .int .u64 size, .bool down] h = some (.bool true, h) := by
  have e0 := awake_run tree_one h
  obtain ⟨k, hk⟩ : ∃ k : Nat, (k : Int) = n % 60 := ⟨(n % 60).toNat, by omega⟩
  have hk60 : k < 60 := by omega
  have hw : IntKind.i64.wrap n = n := i64_in _ (by omega)
  have hrem : n.tmod 60 = k := by rw [Int.tmod_eq_emod_of_nonneg hn.1, hk]
  have hwk : IntKind.i64.wrap (k : Int) = k := i64_in _ (by omega)
  refine W_call t6 rfl rfl (by simp) ?_
  show W T c6 _ _
  unfold c6
  refine W_seq (W_ops (s1 := ?_) (by simp only [r6_0]; simp [a6]; exact rfl) ?_)
  refine W_seq (W_seq (W_ops (s1 := ?_) (by simp only [r6_1]; simp [e0]; exact rfl) ?_))
  refine W_cond_f (by simp) (W_skip ?_)
  refine W_seq (W_ops (s1 := ?_) (by simp only [r6_3]; simp [hw, hrem, hwk]; exact rfl) ?_)
  refine W_seq (W_ops (s1 := ?_) (by simp only [r6_4]; simp; exact rfl) ?_)
  refine W_seq (W_seq (W_ops (s1 := ?_) (by simp only [r6_5]; simp; exact rfl) ?_))
  have hQ : ∀ s : St, s.t 6 = .bool true → HExt h s.h → (AExit.ret = .normal ∨ AExit.ret = .ret) ∧ ∃ vs, resV s a6.res = some vs ∧ (if a6.keepR = true then packV vs else (packV vs).retag) = .bool true ∧ (V.bool true).under h.next = true ∧ HExt h s.h :=
    fun s h6 hx => ⟨.inr rfl, [.bool true], by simp [a6, resV, resV1, h6], by simp [a6, packV], rfl, hx⟩
  cases down with
  | true =>
    refine W_cond_t (by simp) (W_ops (s1 := ?_) (by simp only [r6_6]; simp; exact rfl) ?_)
    exact steps_tail (kind := 2) (n := n) (down := true) (.inl ⟨rfl, rfl⟩) hk60 hs (h := h) hQ _ (by simp) (by simp) (by simp) (by simp) rfl
  | false =>
    refine W_cond_f (by simp) (W_skip ?_)
    exact steps_tail (kind := 1) (n := n) (down := false) (.inr ⟨rfl, rfl⟩) hk60 hs (h := h) hQ _ (by simp) (by simp) (by simp) (by simp) rfl

end Go.Proofs.YtcngflmnbdcppaaGreat

/- The law of sums, the ring law: the given statements. -/
namespace Go.Proofs.YtcngflmnbdcppaaGreat
open Go.LS
open Go.ChangeShapes Go.WideShapes Go.ChangeAt Go.RowKit

theorem awake_ok (h : LS.Heap) : callD T 8 [] h = some (.bool true, h) := awake_run tree_one h

theorem own : ownKnob Tryz.prog.godebug = none := by kernel_rfl
theorem laidOut : laidOutB Tryz.prog = true := by kernel_rfl
theorem cells23 : Tryz.prog.cellsOf 23 = 1 := by kernel_rfl
theorem cells3 : Tryz.prog.cellsOf 3 = 1 := by kernel_rfl
theorem cells22 : Tryz.prog.cellsOf 22 = 1 := by kernel_rfl
theorem cells25 : Tryz.prog.cellsOf 25 = 2 := by kernel_rfl
theorem cells51 : Tryz.prog.cellsOf 51 = 2 := by kernel_rfl

theorem wf_u64 {n : Int} (h : (Lit.int .u64 n).wf = true) : 0 ≤ n ∧ n < 18446744073709551616 := by
  simp only [Lit.wf, Bool.and_eq_true, decide_eq_true_eq] at h
  have h1 : IntKind.u64.min = 0 := rfl
  have h2 : IntKind.u64.max = 18446744073709551615 := rfl
  omega

def fTermV : Field := { name := "V", type := 3, offset := 0, embedded := false, tag := "", pkgPath := "", byteOffset := 0 }
def fTermS : Field := { name := "Scale", type := 23, offset := 1, embedded := false, tag := "", pkgPath := "", byteOffset := 8 }
def fFormT : Field := { name := "Terms", type := 22, offset := 0, embedded := false, tag := "", pkgPath := "", byteOffset := 0 }
def fFormO : Field := { name := "Off", type := 23, offset := 1, embedded := false, tag := "", pkgPath := "", byteOffset := 24 }

/-- A term, a form, as they are read. -/
theorem told_term (w : World) : LS.Told Tryz.prog w 51 (fun p : Int × Int => [.int .i64 p.1, .int .u64 p.2]) (fun p => 0 ≤ p.2 ∧ p.2 < 18446744073709551616) := by
  have f := Told_struct' (P := Tryz.prog) (w := w) (t := 51) (fs := [fTermV, fTermS]) (tot := 2) Tryz.underlying51 cells51
    (ToldF_cons' (f := fTermV) (off' := 1) (k := 1) rfl cells3 (Told_int Tryz.underlying3) rfl (ToldF_cons' (f := fTermS) (off' := 2) (k := 1) rfl cells23 (Told_int Tryz.underlying23) rfl ToldF_nil))
  refine LS.Told.map (enc' := fun p : Int × Int => [.int .i64 p.1, .int .u64 p.2]) f (fun x : Int × Int × Unit => (x.1, x.2.1)) (fun a => ?_) (fun x hx => wf_u64 hx.2.1)
  simp

theorem told_form (w : World) : LS.Told Tryz.prog w 25 (fun p : List (Int × Int) × Int => formC .ro p.1 p.2) (fun p => Narrow p.1 ∧ 0 ≤ p.2 ∧ p.2 < 18446744073709551616) := by
  have f := Told_struct' (P := Tryz.prog) (w := w) (t := 25) (fs := [fFormT, fFormO]) (tot := 2) Tryz.underlying25 cells25
    (ToldF_cons' (f := fFormT) (off' := 1) (k := 1) rfl cells22 (Told_slice Tryz.underlying22 (by rw [cells51]; decide) (told_term w)) rfl (ToldF_cons' (f := fFormO) (off' := 2) (k := 1) rfl cells23 (Told_int Tryz.underlying23) rfl ToldF_nil))
  refine LS.Told.map (enc' := fun p : List (Int × Int) × Int => formC .ro p.1 p.2) f (fun x : List (Int × Int) × Int × Unit => (x.1, x.2.1)) (fun a => ?_) (fun x hx => ⟨fun p hp => hx.1.2 p hp, wf_u64 hx.2.1⟩)
  simp [formC, terms]

theorem read25 : Tryz.prog.readableRec 25 = true := by kernel_rfl
theorem row25 : 25 < Tryz.prog.types.size := of_decide_eq_true (by kernel_rfl)
theorem read23 : Tryz.prog.readableRec 23 = true := by kernel_rfl
theorem row23 : 23 < Tryz.prog.types.size := of_decide_eq_true (by kernel_rfl)

theorem okWide_true (W : World) : Value.okWide Tryz.prog W .any 0 4 (.bool true) := by
  simp [Value.okWide, Cell.okWide, Cell.ok, Tryz.underlying4]

set_option maxRecDepth 100000 in
/-- Two forms and a number are read: the law answers, and what lay in memory lies there. -/
theorem form3 {f : FuncId} (hf : ∀ (a b : List (Int × Int)) (oa ob n : Int), Narrow a → Narrow b → (0 ≤ oa ∧ oa < 18446744073709551616) → (0 ≤ ob ∧ ob < 18446744073709551616) → ∀ h, callD T f [.agg (formC .ro a oa), .agg (formC .ro b ob), .int .u64 n] h = some (.bool true, h))
    {H : Type} {enc : TypeId × Value → H} {W : World} {base : Nat} {v0 v1 v2 : Value} {d0 d1 d2 : DataW H} {p0 p1 p2 : List MemPlace} (o0 : Value.okWide Tryz.prog W .any base 25 v0) (o1 : Value.okWide Tryz.prog W .any base 25 v1) (o2 : Value.okWide Tryz.prog W .any base 23 v2)
    (h0 : DataW.Trod enc Tryz.prog W 0 (fun _ => true) true 25 v0 d0 p0) (h1 : DataW.Trod enc Tryz.prog W 0 (fun _ => true) true 25 v1 d1 p1) (h2 : DataW.Trod enc Tryz.prog W 0 (fun _ => true) true 23 v2 d2 p2) :
    Calls Tryz.prog f #[v0, v1, v2] W fun e W' => e = .returned (.bool true) ∧ Below W.heap.size W W' := by
  obtain ⟨⟨a, oa⟩, r0, na, ra⟩ := (told_form W).agg Tryz.underlying25 o0 h0
  obtain ⟨⟨b, ob⟩, r1, nb, rb⟩ := (told_form W).agg Tryz.underlying25 o1 h1
  obtain ⟨n, r2, _⟩ := LS.told_int Tryz.underlying23 o2 h2
  refine (call_reads T_ok (hf a b oa ob n na nb ra rb _) (cargs := #[v0, v1, v2]) rfl (fun j x hj => ?_)).mono ?_
  · rcases j with _ | _ | _ | j
    · simp at hj; subst hj; exact r0
    · simp at hj; subst hj; exact r1
    · simp at hj; subst hj; exact r2
    · simp at hj
  · rintro e W' ⟨cv, G', rfl, hv, hb⟩
    cases hv
    exact ⟨rfl, hb⟩

end Go.Proofs.YtcngflmnbdcppaaGreat

/- The law of steps: the given statement. -/
namespace Go.Proofs.YtcngflmnbdcppaaGreat
open Go.LS
open Go.ChangeShapes Go.WideShapes Go.ChangeAt Go.RowKit

theorem readS5 : Tryz.prog.readableRec 5 = true := by kernel_rfl
theorem rowS5 : 5 < Tryz.prog.types.size := of_decide_eq_true (by kernel_rfl)
theorem readS4 : Tryz.prog.readableRec 4 = true := by kernel_rfl
theorem rowS4 : 4 < Tryz.prog.types.size := of_decide_eq_true (by kernel_rfl)
theorem wfS_u8 {n : Int} (h : (Lit.int .u8 n).wf = true) : 0 ≤ n ∧ n < 256 := by
  simp only [Lit.wf, Bool.and_eq_true, decide_eq_true_eq] at h
  have h1 : IntKind.u8.min = 0 := rfl
  have h2 : IntKind.u8.max = 255 := rfl
  omega

theorem told_bool {P : Program} {w : World} {t : TypeId} (ht : P.underlying t = some .bool) {H : Type} {eh : TypeId × Value → H} {r : Reach} {b0 base : Nat} {sp : Nat → Bool} {held : Bool} {v : Value} {d : DataW H} {ps : List MemPlace}
    (hval : Value.okWide P w r b0 t v) (hd : DataW.Trod eh P w base sp held t v d ps) : ∃ b : Bool, R (memG w) (.bool b) v := by
  obtain ⟨n, rfl⟩ := Go.WideShapes.okWide_bool ht hval
  exact ⟨n, .bool n⟩

set_option maxRecDepth 100000 in
theorem steps_any {H : Type} {enc : TypeId × Value → H} {W : World} {base : Nat} {v0 v1 v2 : Value} {d0 d1 d2 : DataW H} {p0 p1 p2 : List MemPlace} (o0 : Value.okWide Tryz.prog W .any base 5 v0) (o1 : Value.okWide Tryz.prog W .any base 23 v1) (o2 : Value.okWide Tryz.prog W .any base 4 v2)
    (h0 : DataW.Trod enc Tryz.prog W 0 (fun _ => true) true 5 v0 d0 p0) (h1 : DataW.Trod enc Tryz.prog W 0 (fun _ => true) true 23 v1 d1 p1) (h2 : DataW.Trod enc Tryz.prog W 0 (fun _ => true) true 4 v2 d2 p2) :
    Calls Tryz.prog 6 #[v0, v1, v2] W fun e W' => e = .returned (.bool true) ∧ Below W.heap.size W W' := by
  obtain ⟨n, r0, w0⟩ := LS.told_int Tryz.underlying5 o0 h0
  obtain ⟨b, r1, w1⟩ := LS.told_int Tryz.underlying23 o1 h1
  obtain ⟨d, r2⟩ := told_bool Tryz.underlying4 o2 h2
  refine (call_reads T_ok (steps_run n b (wfS_u8 w0) (wf_u64 w1) d _) (cargs := #[v0, v1, v2]) rfl (fun j x hj => ?_)).mono ?_
  · rcases j with _ | _ | _ | j
    · simp at hj; subst hj; exact r0
    · simp at hj; subst hj; exact r1
    · simp at hj; subst hj; exact r2
    · simp at hj
  · rintro e W' ⟨cv, G', rfl, hv, hb⟩
    cases hv
    exact ⟨rfl, hb⟩

set_option maxRecDepth 100000 in
theorem affineSteps_lifted (os : Os) (started : os.Started) (H : Type) (enc : TypeId × Value → H) :
    ReturnsInHanded {} Tryz.checked os 6 .any (Rows.affineStepsSpec.pre6 enc Tryz.prog Tryz.f6 Rows.affineStepsRow.domain false) (Rows.affineStepsSpec.post enc Tryz.prog Tryz.f6 false true false false) := by
  refine returnsInHanded_of_change (C := Tryz.checked) own started (by kernel_rfl) Tryz.func6
    (ChangeSpec.witness6 (enc := enc) (C := Tryz.checked) false ⟨#[], #[.int .u8 0, .int .u64 0, .bool false], []⟩ 8 (by kernel_rfl) (by kernel_rfl) (by kernel_rfl) (by kernel_rfl)) ?_
  intro W base args ds gs before hval0 hW hcnd _
  have hval : ∀ (j : Nat) t v, Tryz.f6.params[j]? = some t → args[j]? = some v → Value.okWide Tryz.prog W .any base t v := hval0
  have hW' := hW
  obtain ⟨p, q, hA0, hV, rfl, hfz, hnd⟩ := hW
  have hA : DataW.TrodAll enc Tryz.prog W 0 (fun _ => true) true Tryz.f6.params.toList args.toList ds p := hA0
  rw [Tryz.params6] at hA hval
  obtain ⟨v0, v1, v2, d0, d1, d2, p0, p1, p2, rfl, rfl, rfl, h0, h1, h2⟩ := trodAll_three hA
  obtain ⟨rfl, rfl⟩ := trodVars_none hV
  clear hA0 hval0
  simp only [List.append_nil] at hW'
  refine (steps_any (hval 0 5 v0 rfl rfl) (hval 1 23 v1 rfl rfl) (hval 2 4 v2 rfl rfl) h0 h1 h2).mono fun e W' ⟨he, hb⟩ => ?_
  subst he
  have same : ∀ x ∈ p0 ++ p1 ++ p2, W.sameAt W' x := fun x hx => hb.same (hW'.lt x hx)
  refine ⟨_, rfl, post_of_below (pa := p0 ++ (p1 ++ p2)) (pv := []) hW' (fun _ _ _ => trodAll_mk1 (shut_bool Tryz.underlying4 true)) (fun sp hsp => trodAll_mk3 ?_ ?_ ?_) (fun _ _ => rfl) (by simp) hb (ok_one (by kernel_rfl) rfl (okWide_true _))⟩
  · exact WideElems.Trod_stays laidOut readS5 rowS5 h0 (fun x hx => same x (by simp [hx])) (fun x hx => hsp x (by simp [hx]))
  · exact WideElems.Trod_stays laidOut read23 row23 h1 (fun x hx => same x (by simp [hx])) (fun x hx => hsp x (by simp [hx]))
  · exact WideElems.Trod_stays laidOut readS4 rowS4 h2 (fun x hx => same x (by simp [hx])) (fun x hx => hsp x (by simp [hx]))

theorem affineSteps_holds : Rows.AffineStepsSaid :=
  OpenClaim.holds_of_wide 6 Tryz.f6 rfl rfl rfl rfl rfl rfl rfl ⟨rfl, rfl, rfl, rfl, rfl⟩ rfl rfl rfl rfl rfl (by kernel_rfl) Tryz.func6 (by kernel_rfl)
    (of_decide_eq_true (by kernel_rfl)) (by unfold Func.isWrapper; rw [if_neg (by decide +kernel)]; exact ⟨rfl, rfl⟩)
    (fun os started H enc _ => affineSteps_lifted os started H enc)

end Go.Proofs.YtcngflmnbdcppaaGreat
