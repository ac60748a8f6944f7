/- A part of the proof: an abstract machine for the program's code and what each of its functions comes to there. No conditions. -/
import Derived.Test.YtcngflmnbdcppaaGreatP09

set_option linter.unusedSimpArgs false
set_option linter.unusedVariables false

/- The checker: something is asked of each argument of a straight function. -/
namespace Go.Proofs.YtcngflmnbdcppaaGreat
open Go.LS Go.IntWalk

theorem shapes_getElem {l : List (Int × Int)} {j : Nat} (h : j < l.length) : (l.map shapeC)[j]? = some [.int .i64 l[j].1, .int .i64 l[j].2] := by simp [shapeC, h]

theorem uses_run (x : Straight) (c bx : Nat) (A : FuncId) (h : LS.Heap) (hcn : c < h.next) {succ pred tree : List (List V)} {ts tp tt : Tag} {m : Option Nat} (hc : h.objs c = some (.var (chkC x.f succ pred tree ts tp tt m)))
    (hfit : x.f.Fit) (hT : ∀ o ∈ x.ops, TakesOK o) (hret : x.ret ≠ 0)
    (ho : ∀ k (hk : k < x.ops.length) j (hj : j < (takeL x.ops[k]).length), ∃ v, x.ops[k].args[j]? = some v ∧ Asks A bx h v (takeL x.ops[k])[j] k)
    (he : Asks A bx h x.arg (x.ret, 1) 1048576) :
    ∃ h', callD T 90 [.obj c 0, .fn A [] [.obj bx 0]] h = some (.int .i64 0, h') ∧ HExt h h' := by
  obtain ⟨f1, f2, f3⟩ := hfit
  obtain ⟨g1, g2, g3, g4, g5⟩ := f3 x.b (by simp [Straight.f])
  have g2 : x.ops.length < 2 ^ 40 := g2
  unfold chkC at hc
  have hbk : x.f.blocks.map BlockD.c = [[.lst .ro [], .lst .ro (x.ops.map OpD.c), .int .i64 0, .int .i64 x.arg, .lst .ro []]] := rfl
  have hr : x.f.ret = x.ret := rfl
  have hp : x.f.params = x.ps := rfl
  rw [hbk, hr, hp] at hc
  have w1 : IntKind.i64.wrap 1 = 1 := i64_in _ (by omega)
  refine W_callE t90 rfl rfl (by simp) ?_
  show W T c90 _ _
  unfold c90
  refine W_seq (W_ops (s1 := ?_) (by simp only [r90_0]; simp [a90]; exact rfl) ?_)
  refine W_scope (W_seq (W_ops (s1 := ?_) (by simp only [r90_1]; simp; exact rfl) ?_))
  refine W_seq (W_seq (W_ops (s1 := ?_) (by simp only [r90_2]; simp [hc]; exact rfl) ?_))
  refine W_block (W_loop' l90_0.eq_1 ?_)
  refine W_seq (W_ops (s1 := ?_) (by simp only [r90_3]; simp; exact rfl) ?_)
  refine W_seq (W_cond_t (by simp) (W_skip ?_))
  refine W_seq (W_block (W_seq (W_ops (s1 := ?_) (by simp only [r90_4]; simp [nextVer]; exact rfl) ?_)))
  -- no phis
  refine W_seq (W_seq (W_ops (s1 := ?_) (by simp only [r90_5]; simp; exact rfl) ?_))
  refine W_block (W_loop' l90_1.eq_1 ?_)
  refine W_seq (W_ops (s1 := ?_) (by simp only [r90_6]; simp; exact rfl) ?_)
  refine W_seq (W_cond_f (by simp) (W_exit ?_))
  -- operations
  refine W_seq (W_seq (W_ops (s1 := ?_) (by simp only [r90_15]; simp; exact rfl) ?_))
  refine W_block (W_for' l90_3.eq_1 (n := x.ops.length) (fun i s => s.t 0 = .obj c 0 ∧ s.t 1 = .fn A [] [.obj bx 0] ∧ s.t 5 = .int .i64 0 ∧ s.t 6 = .int .i64 0 ∧ s.t 7 = .loc 7 0 0 ∧ s.loc 7 = some (0, [.lst .ro [], .lst .ro (x.ops.map OpD.c), .int .i64 0, .int .i64 x.arg, .lst .ro []]) ∧
    s.t 22 = .int .i64 1 ∧ s.t 23 = .int .i64 0 ∧ s.t 59 = .lst .ro (x.ops.map OpD.c) ∧ s.t 60 = .int .i64 x.ops.length ∧ s.t 61 = .int .i64 i ∧ s.h = h) ⟨by simp, by simp, by simp, by simp, by simp, by simp, by simp, by simp, by simp, by simp, by simp, rfl⟩ ?_ ?_)
  · rintro i ⟨t, loc, h'⟩ hi ⟨t0, t1, t5, t6, t7, l7, t22, t23, t59, t60, t61, hh⟩
    simp only at t0 t1 t5 t6 t7 l7 t22 t23 t59 t60 t61 hh
    subst hh
    have hl1 : ((i : Int) < x.ops.length) := by omega
    have hw := i64_succ (show i < 2 ^ 62 by omega)
    have hE := opc_eq x.ops[i]
    have eT := Takes_run x.ops[i] (hT _ (List.getElem_mem hi)) (g5 _ (List.getElem_mem hi)) h'
    rw [hE] at eT
    have htl : (takeL x.ops[i]).length < 2 ^ 40 := by
      have h1 : x.ops[i].args.length < 2 ^ 40 := g5 _ (List.getElem_mem hi)
      rcases Nat.lt_or_ge (x.ops[i].args.length) (takeL x.ops[i]).length with h2 | h2
      · obtain ⟨v, h3, _⟩ := ho i hi _ h2
        have := (List.getElem?_eq_some_iff.1 h3).1
        omega
      · omega
    refine W_seq (W_ops (s1 := ?_) (by simp only [r90_16]; simp [t60, t61, hl1, hi]; exact rfl) ?_)
    refine W_seq (W_cond_t (by simp) (W_skip ?_))
    refine W_seq (W_block (W_seq (W_ops (s1 := ?_) (by simp only [r90_17]; simp [t59, t60, t61, hi, hE]; exact rfl) ?_)))
    refine W_seq (W_ops (s1 := ?_) (by simp only [r90_18]; simp [eT]; exact rfl) ?_)
    generalize hver : nextVer loc 13 = ver
    refine W_block (W_for' l90_4.eq_1 (n := (takeL x.ops[i]).length) (fun j s => s.t 0 = .obj c 0 ∧ s.t 1 = .fn A [] [.obj bx 0] ∧ s.t 5 = .int .i64 0 ∧ s.t 6 = .int .i64 0 ∧ s.t 7 = .loc 7 0 0 ∧ s.loc 7 = some (0, [.lst .ro [], .lst .ro (x.ops.map OpD.c), .int .i64 0, .int .i64 x.arg, .lst .ro []]) ∧
      s.t 22 = .int .i64 1 ∧ s.t 23 = .int .i64 0 ∧ s.t 59 = .lst .ro (x.ops.map OpD.c) ∧ s.t 60 = .int .i64 x.ops.length ∧ s.t 61 = .int .i64 i ∧ s.t 12 = .int .i64 i ∧ s.t 13 = .loc 13 ver 0 ∧ s.loc 13 = some (ver, [.int .i64 x.ops[i].kind, .int .i64 x.ops[i].bits, .int .i64 x.ops[i].lanes, .int .i64 x.ops[i].dst, .lst .ro (x.ops[i].args.map intC), .int .u64 x.ops[i].imm]) ∧
      s.t 67 = .lst .ro ((takeL x.ops[i]).map shapeC) ∧ s.t 68 = .int .i64 (takeL x.ops[i]).length ∧ s.t 69 = .int .i64 j ∧ s.h = h') ⟨by simp [t0], by simp [t1], by simp [t5], by simp [t6], by simp [t7], by simp [l7], by simp [t22], by simp [t23], by simp [t59], by simp [t60], by simp [t61], by simp, by simp, by simp, by simp, by simp, by simp, rfl⟩ ?_ ?_)
    · clear t0 t1 t5 t6 t7 l7 t22 t23 t59 t60 t61 hver
      rintro j ⟨t, loc, h2⟩ hj ⟨t0, t1, t5, t6, t7, l7, t22, t23, t59, t60, t61, t12, t13, l13, t67, t68, t69, hh⟩
      simp only at t0 t1 t5 t6 t7 l7 t22 t23 t59 t60 t61 t12 t13 l13 t67 t68 t69 hh
      subst hh
      obtain ⟨v, ha, hq⟩ := ho i hi j hj
      have hq := hq h2 (.refl h2)
      have hl2 : ((j : Int) < (takeL x.ops[i]).length) := by omega
      have hw2 := i64_succ (show j < 2 ^ 62 by omega)
      obtain ⟨hjl, ha⟩ := List.getElem?_eq_some_iff.1 ha
      have hSh : shapeC (takeL x.ops[i])[j] = [.int .i64 (takeL x.ops[i])[j].1, .int .i64 (takeL x.ops[i])[j].2] := rfl
      rw [hSh] at hq
      have hIn : intC x.ops[i].args[j] = [.int .i64 v] := by rw [ha]; rfl
      repeat' (first
        | refine W_seq ?_
        | refine W_skip ?_
        | refine W_block ?_
        | refine W_ret ?_
        | refine W_exit ?_
        | refine W_ops (s1 := ?_) (by simp only [r90_0, r90_1, r90_2, r90_3, r90_4, r90_5, r90_6, r90_7, r90_8, r90_9, r90_10, r90_11, r90_12, r90_13, r90_14, r90_15, r90_16, r90_17, r90_18, r90_19, r90_20, r90_21, r90_22, r90_23, r90_24, r90_25, r90_26, r90_27, r90_28, r90_29, r90_30]; simp [t0, t1, t5, t6, t7, l7, t12, t13, l13, t67, t68, t69, hl2, hj, hSh, hjl, hIn, hq, hw2]; exact rfl) ?_
        | refine W_tops (s1 := ?_) (by simp only [r90_0, r90_1, r90_2, r90_3, r90_4, r90_5, r90_6, r90_7, r90_8, r90_9, r90_10, r90_11, r90_12, r90_13, r90_14, r90_15, r90_16, r90_17, r90_18, r90_19, r90_20, r90_21, r90_22, r90_23, r90_24, r90_25, r90_26, r90_27, r90_28, r90_29, r90_30]; simp [t0, t1, t5, t6, t7, l7, t12, t13, l13, t67, t68, t69, hl2, hj, hSh, hjl, hIn, hq, hw2]; exact rfl) ?_
        | refine W_cond_t (by first | (simp [t0, t1, t5, t6, t7, l7, t12, t13, l13, t67, t68, t69, hl2, hj, hSh, hjl, hIn, hq, hw2]; done) | fail) ?_
        | refine W_cond_f (by first | (simp [t0, t1, t5, t6, t7, l7, t12, t13, l13, t67, t68, t69, hl2, hj, hSh, hjl, hIn, hq, hw2]; done) | fail) ?_
        | fail)
      exact .inl ⟨rfl, by simp [t0], by simp [t1], by simp, by simp [t6], by simp [t7], by simp [l7], by simp [t22], by simp [t23], by simp [t59], by simp [t60], by simp [t61], by simp [t12], by simp [t13], by simp [l13], by simp [t67], by simp [t68], by simp, rfl⟩
    · clear t0 t1 t5 t6 t7 l7 t22 t23 t59 t60 t61 hver
      rintro ⟨t, loc, h2⟩ ⟨t0, t1, t5, t6, t7, l7, t22, t23, t59, t60, t61, t12, t13, l13, t67, t68, t69, hh⟩
      simp only at t0 t1 t5 t6 t7 l7 t22 t23 t59 t60 t61 t12 t13 l13 t67 t68 t69 hh
      subst hh
      repeat' (first
        | refine W_seq ?_
        | refine W_skip ?_
        | refine W_block ?_
        | refine W_ret ?_
        | refine W_exit ?_
        | refine W_ops (s1 := ?_) (by simp only [r90_0, r90_1, r90_2, r90_3, r90_4, r90_5, r90_6, r90_7, r90_8, r90_9, r90_10, r90_11, r90_12, r90_13, r90_14, r90_15, r90_16, r90_17, r90_18, r90_19, r90_20, r90_21, r90_22, r90_23, r90_24, r90_25, r90_26, r90_27, r90_28, r90_29, r90_30]; simp [t68, t69]; exact rfl) ?_
        | refine W_tops (s1 := ?_) (by simp only [r90_0, r90_1, r90_2, r90_3, r90_4, r90_5, r90_6, r90_7, r90_8, r90_9, r90_10, r90_11, r90_12, r90_13, r90_14, r90_15, r90_16, r90_17, r90_18, r90_19, r90_20, r90_21, r90_22, r90_23, r90_24, r90_25, r90_26, r90_27, r90_28, r90_29, r90_30]; simp [t68, t69]; exact rfl) ?_
        | refine W_cond_t (by first | (simp [t68, t69]; done) | fail) ?_
        | refine W_cond_f (by first | (simp [t68, t69]; done) | fail) ?_
        | fail)
      refine ⟨by simp, ?_⟩
      repeat' (first
        | refine W_seq ?_
        | refine W_skip ?_
        | refine W_block ?_
        | refine W_ret ?_
        | refine W_exit ?_
        | refine W_ops (s1 := ?_) (by simp only [r90_0, r90_1, r90_2, r90_3, r90_4, r90_5, r90_6, r90_7, r90_8, r90_9, r90_10, r90_11, r90_12, r90_13, r90_14, r90_15, r90_16, r90_17, r90_18, r90_19, r90_20, r90_21, r90_22, r90_23, r90_24, r90_25, r90_26, r90_27, r90_28, r90_29, r90_30]; simp [t61, hw]; exact rfl) ?_
        | refine W_tops (s1 := ?_) (by simp only [r90_0, r90_1, r90_2, r90_3, r90_4, r90_5, r90_6, r90_7, r90_8, r90_9, r90_10, r90_11, r90_12, r90_13, r90_14, r90_15, r90_16, r90_17, r90_18, r90_19, r90_20, r90_21, r90_22, r90_23, r90_24, r90_25, r90_26, r90_27, r90_28, r90_29, r90_30]; simp [t61, hw]; exact rfl) ?_
        | refine W_cond_t (by first | (simp [t61, hw]; done) | fail) ?_
        | refine W_cond_f (by first | (simp [t61, hw]; done) | fail) ?_
        | fail)
      exact .inl ⟨rfl, by simp [t0], by simp [t1], by simp [t5], by simp [t6], by simp [t7], by simp [l7], by simp [t22], by simp [t23], by simp [t59], by simp [t60], by simp, rfl⟩
  · rintro ⟨t, loc, h'⟩ ⟨t0, t1, t5, t6, t7, l7, t22, t23, t59, t60, t61, hh⟩
    simp only at t0 t1 t5 t6 t7 l7 t22 t23 t59 t60 t61 hh
    subst hh
    refine W_seq (W_ops (s1 := ?_) (by simp only [r90_16]; simp [t60, t61]; exact rfl) ?_)
    refine W_seq (W_cond_f (by simp) (W_exit ?_))
    refine ⟨by simp, ?_⟩
    have hne : c ≠ h'.next := by omega
    refine W_seq (W_dops_swap uses_swaps (uses_swap _) (s1 := ?_) (by simp only [r90_25]; simp [t0, t7, l7, Heap.new, Heap.set, upd, hne, hc]; exact rfl) ?_)
    generalize hH : LS.Heap.mk _ _ = h2
    have hx : HExt h' h2 := by
      rw [← hH]
      refine ⟨by simp, fun id hid => ?_⟩
      have hid' : id ≠ h'.next := by omega
      simp [upd, hid']
    have he := he h2 hx
    simp only [shapeC] at he
    have es := scalar_run x.ret h2
    repeat' (first
      | refine W_seq ?_
      | refine W_skip ?_
      | refine W_block ?_
      | refine W_ret ?_
      | refine W_exit ?_
      | refine W_ops (s1 := ?_) (by simp only [r90_0, r90_1, r90_2, r90_3, r90_4, r90_5, r90_6, r90_7, r90_8, r90_9, r90_10, r90_11, r90_12, r90_13, r90_14, r90_15, r90_16, r90_17, r90_18, r90_19, r90_20, r90_21, r90_22, r90_23, r90_24, r90_25, r90_26, r90_27, r90_28, r90_29, r90_30]; simp [t1, t6, t7, l7, t23, hret, es, he, w1]; exact rfl) ?_
      | refine W_tops (s1 := ?_) (by simp only [r90_0, r90_1, r90_2, r90_3, r90_4, r90_5, r90_6, r90_7, r90_8, r90_9, r90_10, r90_11, r90_12, r90_13, r90_14, r90_15, r90_16, r90_17, r90_18, r90_19, r90_20, r90_21, r90_22, r90_23, r90_24, r90_25, r90_26, r90_27, r90_28, r90_29, r90_30]; simp [t1, t6, t7, l7, t23, hret, es, he, w1]; exact rfl) ?_
      | refine W_cond_t (by first | (simp [t1, t6, t7, l7, t23, hret, es, he, w1]; done) | fail) ?_
      | refine W_cond_f (by first | (simp [t1, t6, t7, l7, t23, hret, es, he, w1]; done) | fail) ?_
      | fail)
    refine W_loop' l90_0.eq_1 ?_
    repeat' (first
      | refine W_seq ?_
      | refine W_skip ?_
      | refine W_block ?_
      | refine W_ret ?_
      | refine W_exit ?_
      | refine W_ops (s1 := ?_) (by simp only [r90_0, r90_1, r90_2, r90_3, r90_4, r90_5, r90_6, r90_7, r90_8, r90_9, r90_10, r90_11, r90_12, r90_13, r90_14, r90_15, r90_16, r90_17, r90_18, r90_19, r90_20, r90_21, r90_22, r90_23, r90_24, r90_25, r90_26, r90_27, r90_28, r90_29, r90_30]; simp [t22, w1]; exact rfl) ?_
      | refine W_tops (s1 := ?_) (by simp only [r90_0, r90_1, r90_2, r90_3, r90_4, r90_5, r90_6, r90_7, r90_8, r90_9, r90_10, r90_11, r90_12, r90_13, r90_14, r90_15, r90_16, r90_17, r90_18, r90_19, r90_20, r90_21, r90_22, r90_23, r90_24, r90_25, r90_26, r90_27, r90_28, r90_29, r90_30]; simp [t22, w1]; exact rfl) ?_
      | refine W_cond_t (by first | (simp [t22, w1]; done) | fail) ?_
      | refine W_cond_f (by first | (simp [t22, w1]; done) | fail) ?_
      | fail)
    refine W_label ?_
    repeat' (first
      | refine W_seq ?_
      | refine W_skip ?_
      | refine W_block ?_
      | refine W_ret ?_
      | refine W_exit ?_
      | refine W_ops (s1 := ?_) (by simp only [r90_0, r90_1, r90_2, r90_3, r90_4, r90_5, r90_6, r90_7, r90_8, r90_9, r90_10, r90_11, r90_12, r90_13, r90_14, r90_15, r90_16, r90_17, r90_18, r90_19, r90_20, r90_21, r90_22, r90_23, r90_24, r90_25, r90_26, r90_27, r90_28, r90_29, r90_30]; simp; exact rfl) ?_
      | refine W_tops (s1 := ?_) (by simp only [r90_0, r90_1, r90_2, r90_3, r90_4, r90_5, r90_6, r90_7, r90_8, r90_9, r90_10, r90_11, r90_12, r90_13, r90_14, r90_15, r90_16, r90_17, r90_18, r90_19, r90_20, r90_21, r90_22, r90_23, r90_24, r90_25, r90_26, r90_27, r90_28, r90_29, r90_30]; simp; exact rfl) ?_
      | refine W_cond_t (by first | (simp; done) | fail) ?_
      | refine W_cond_f (by first | (simp; done) | fail) ?_
      | fail)
    exact ⟨by simp, .inr rfl, [.int .i64 0], by simp [a90, resV, resV1], by simp [a90, packV], hx⟩

end Go.Proofs.YtcngflmnbdcppaaGreat

/- The checker: each value of a straight function is defined once. -/
namespace Go.Proofs.YtcngflmnbdcppaaGreat
open Go.LS Go.IntWalk

/-- What the first parameters define. -/
def Dp (ps : List Int) : Nat → Int → Option DefD
  | 0 => fun _ => none
  | i + 1 => fun j => if j = (i : Int) + 1 then some ⟨-1, 0, ps.getD i 0, 1⟩ else Dp ps i j

/-- What the parameters and the first operations define. -/
def Do (x : Straight) : Nat → Int → Option DefD
  | 0 => Dp x.ps x.ps.length
  | k + 1 => match x.ops[k]? with
    | some o => if 0 < (giveM o).1 then fun j => if j = o.dst then some ⟨0, k, (giveM o).1, (giveM o).2⟩ else Do x k j else Do x k
    | none => Do x k

def Straight.D (x : Straight) : Int → Option DefD := Do x x.ops.length

theorem Dp_none (ps : List Int) : ∀ (i : Nat) (j : Int), (i : Int) < j → Dp ps i j = none
  | 0, _, _ => rfl
  | i + 1, j, h => by
    simp only [Dp]
    rw [if_neg (by omega)]
    exact Dp_none ps i j (by omega)

theorem defsV_add (D : Int → Option DefD) (v : Int) (d : DefD) : defsV (fun j => if j = v then some d else D j) = addM (defsV D) v d.v := by
  funext j
  simp only [defsV, addM]
  split <;> rfl

theorem defined_swaps : ordBut r54_5 p54_5 [(0, 4)] = true := by kernel_rfl

theorem defined_swap : ∀ a i x y, (a, i) ∈ [(0, 4)] → r54_5[a]? = some x → r54_5[i]? = some y → Swap (callD T) x y := by
  intro a i x y hm hx hy
  simp only [List.mem_cons, Prod.mk.injEq, List.not_mem_nil, or_false] at hm
  unfold r54_5 at hx hy
  obtain ⟨rfl, rfl⟩ := hm
  simp only [List.getElem?_cons_zero, List.getElem?_cons_succ, Option.some.injEq] at hx hy
  subst hx hy
  exact swap_read_call (.inr (.inr ⟨_, _, rfl⟩)) t88 rfl rfl (by decide) (by decide) (fun _ _ => rfl)

/-- The heap while definitions are laid down. -/
structure Laying (x : Straight) (h0 h : LS.Heap) (c : Nat) (succ pred tree : List (List V)) (ts tp tt : Tag) (D : Int → Option DefD) : Prop where
  next : h.next = h0.next + 2
  box : h.objs h0.next = some (.var [.obj c 0])
  chk : h.objs c = some (.var (chkC x.f succ pred tree ts tp tt (some (h0.next + 1))))
  defs : h.objs (h0.next + 1) = some (.map .i64 (defsV D))
  old : ∀ id, id < h0.next → id ≠ c → h.objs id = h0.objs id

theorem Laying.put {x : Straight} {h0 h : LS.Heap} {c : Nat} {succ pred tree : List (List V)} {ts tp tt : Tag} {D : Int → Option DefD} (L : Laying x h0 h c succ pred tree ts tp tt D) (hcn : c < h0.next) (v : Int) (d : DefD) (hv : D v = none) :
    callD T 87 [.obj c 0, .int .i64 v, .agg [.int .i64 d.block, .int .i64 d.at_, .int .i64 d.bits, .int .i64 d.lanes]] h = some (.bool true, h.set (h0.next + 1) (.map .i64 (addM (defsV D) v d.v))) ∧
    Laying x h0 (h.set (h0.next + 1) (.map .i64 (addM (defsV D) v d.v))) c succ pred tree ts tp tt (fun j => if j = v then some d else D j) := by
  obtain ⟨l1, l2, l3, l4, l5⟩ := L
  refine ⟨put_run c (h0.next + 1) v d.block d.at_ d.bits d.lanes h l3 l4 (by omega) (by simp [defsV, hv]), l1, ?_, ?_, ?_, fun id h1 h2 => ?_⟩
  · simp only [Heap.set, upd]; rw [if_neg (by omega)]; exact l2
  · simp only [Heap.set, upd]; rw [if_neg (by omega)]; exact l3
  · simp only [Heap.set, upd, if_true]; rw [defsV_add]
  · simp only [Heap.set, upd]; rw [if_neg (by omega)]; exact l5 id h1 h2

theorem defined_run (x : Straight) (c : Nat) (h : LS.Heap) (hcn : c < h.next) {succ pred tree : List (List V)} {ts tp tt : Tag} {m : Option Nat} (hc : h.objs c = some (.var (chkC x.f succ pred tree ts tp tt m)))
    (hfit : x.f.Fit) (hT : ∀ o ∈ x.ops, TakesOK o) (hret : x.ret ≠ 0) (honce : ∀ k (hk : k < x.ops.length), 0 < (giveM x.ops[k]).1 → Do x k x.ops[k].dst = none)
    (ho : ∀ k (hk : k < x.ops.length) j (hj : j < (takeL x.ops[k]).length), ∃ v d, x.ops[k].args[j]? = some v ∧ x.D v = some d) (he : ∃ d, x.D x.arg = some d) :
    ∃ h', callD T 54 [.obj c 0] h = some (.int .i64 0, h') ∧ h.next + 2 ≤ h'.next ∧ h'.objs c = some (.var (chkC x.f succ pred tree ts tp tt (some (h.next + 1)))) ∧ h'.objs (h.next + 1) = some (.map .i64 (defsV x.D)) ∧
      ∀ id, id < h.next → id ≠ c → h'.objs id = h.objs id := by
  have hfit' := hfit
  obtain ⟨f1, f2, f3⟩ := hfit
  obtain ⟨g1, g2, g3, g4, g5⟩ := f3 x.b (by simp [Straight.f])
  have g2 : x.ops.length < 2 ^ 40 := g2
  have f1 : x.ps.length < 2 ^ 40 := f1
  have hbk : x.f.blocks.map BlockD.c = [[.lst .ro [], .lst .ro (x.ops.map OpD.c), .int .i64 0, .int .i64 x.arg, .lst .ro []]] := rfl
  have hr : x.f.ret = x.ret := rfl
  have hp : x.f.params = x.ps := rfl
  have hcC : ∀ m, chkC x.f succ pred tree ts tp tt m = [.lst .ro (x.ps.map intC), .int .i64 x.ret, .lst .ro [[.lst .ro [], .lst .ro (x.ops.map OpD.c), .int .i64 0, .int .i64 x.arg, .lst .ro []]], .int .i64 2, .lst ts succ, .lst tp pred, .lst tt tree, .map m] := fun m => rfl
  have w1 : IntKind.i64.wrap 1 = 1 := i64_in _ (by omega)
  have hne1 : c ≠ h.next := by omega
  have hne2 : c ≠ h.next + 1 := by omega
  rw [hcC] at hc
  refine W_callE t54 rfl rfl (by simp) ?_
  show W T c54 _ _
  unfold c54
  refine W_seq (W_ops (s1 := ?_) (by simp only [r54_0]; simp [a54, Heap.new]; exact rfl) ?_)
  refine W_seq (W_ops (s1 := ?_) (by simp only [r54_1]; simp [Heap.new, Heap.set, hne1, hne2, hc]; exact rfl) ?_)
  generalize hH : LS.Heap.mk _ _ = h1
  have L0 : Laying x h h1 c succ pred tree ts tp tt (Dp x.ps 0) := by
    rw [← hH]
    refine ⟨by simp, ?_, ?_, ?_, fun id h1 h2 => ?_⟩
    · simp [upd, Ne.symm hne1]
    · simp [upd, hcC]
    · simp [upd, Ne.symm hne2]; rfl
    · have q1 : id ≠ h.next := by omega
      have q2 : id ≠ h.next + 1 := by omega
      simp [upd, h2, q1, q2]
  clear hH hc
  -- parameters
  have hc0 := L0.chk
  rw [hcC] at hc0
  have hb0 := L0.box
  refine W_seq (W_seq (W_ops (s1 := ?_) (by simp only [r54_2]; simp [hb0, hc0]; exact rfl) ?_))
  refine W_block (W_for' l54_0.eq_1 (n := x.ps.length) (fun i s => s.t 1 = .obj h.next 0 ∧ s.t 21 = .lst .ro (x.ps.map intC) ∧ s.t 22 = .int .i64 x.ps.length ∧ s.t 23 = .int .i64 i ∧ Laying x h s.h c succ pred tree ts tp tt (Dp x.ps i)) ⟨by simp, by simp, by simp, by simp, L0⟩ ?_ ?_)
  · rintro i ⟨t, loc, h2⟩ hi ⟨t1, t21, t22, t23, L⟩
    simp only at t1 t21 t22 t23 L
    have hl1 : ((i : Int) < x.ps.length) := by omega
    have hw := i64_succ (show i < 2 ^ 62 by omega)
    have hE : intC x.ps[i] = [.int .i64 x.ps[i]] := rfl
    have hb := L.box
    have es := scalar_run x.ps[i] h2
    obtain ⟨p1, p2⟩ := L.put hcn ((i : Int) + 1) ⟨-1, 0, x.ps[i], 1⟩ (Dp_none _ _ _ (by omega))
    simp only at p1
    have hD : Dp x.ps (i + 1) = fun j => if j = (i : Int) + 1 then some ⟨-1, 0, x.ps[i], 1⟩ else Dp x.ps i j := by
      funext j
      simp [Dp, hi]
    rw [← hD] at p2
    refine W_seq (W_ops (s1 := ?_) (by simp only [r54_3]; simp [t22, t23, hl1, hi]; exact rfl) ?_)
    refine W_seq (W_cond_t (by simp) (W_skip ?_))
    refine W_seq (W_block (W_seq (W_ops (s1 := ?_) (by simp only [r54_4]; simp [t21, t23, hi, hE]; exact rfl) ?_)))
    refine W_dops_swap defined_swaps defined_swap (s1 := ?_) (by simp only [r54_5]; simp [t1, hb, es, hw, p1]; exact rfl) ?_
    repeat' (first
      | refine W_seq ?_
      | refine W_skip ?_
      | refine W_block ?_
      | refine W_ret ?_
      | refine W_exit ?_
      | refine W_ops (s1 := ?_) (by simp only [r54_0, r54_1, r54_2, r54_3, r54_4, r54_5, r54_6, r54_7, r54_8, r54_9, r54_10, r54_11, r54_12, r54_13, r54_14, r54_15, r54_16, r54_17, r54_18, r54_19, r54_20, r54_21, r54_22, r54_23, r54_24]; simp [t23, hw]; exact rfl) ?_
      | refine W_tops (s1 := ?_) (by simp only [r54_0, r54_1, r54_2, r54_3, r54_4, r54_5, r54_6, r54_7, r54_8, r54_9, r54_10, r54_11, r54_12, r54_13, r54_14, r54_15, r54_16, r54_17, r54_18, r54_19, r54_20, r54_21, r54_22, r54_23, r54_24]; simp [t23, hw]; exact rfl) ?_
      | refine W_cond_t (by first | (simp [t23, hw]; done) | fail) ?_
      | refine W_cond_f (by first | (simp [t23, hw]; done) | fail) ?_
      | fail)
    exact .inl ⟨rfl, by simp [t1], by simp [t21], by simp [t22], by simp, p2⟩
  · rintro ⟨t, loc, h2⟩ ⟨t1, t21, t22, t23, L⟩
    simp only at t1 t21 t22 t23 L
    repeat' (first
      | refine W_seq ?_
      | refine W_skip ?_
      | refine W_block ?_
      | refine W_ret ?_
      | refine W_exit ?_
      | refine W_ops (s1 := ?_) (by simp only [r54_0, r54_1, r54_2, r54_3, r54_4, r54_5, r54_6, r54_7, r54_8, r54_9, r54_10, r54_11, r54_12, r54_13, r54_14, r54_15, r54_16, r54_17, r54_18, r54_19, r54_20, r54_21, r54_22, r54_23, r54_24]; simp [t22, t23]; exact rfl) ?_
      | refine W_tops (s1 := ?_) (by simp only [r54_0, r54_1, r54_2, r54_3, r54_4, r54_5, r54_6, r54_7, r54_8, r54_9, r54_10, r54_11, r54_12, r54_13, r54_14, r54_15, r54_16, r54_17, r54_18, r54_19, r54_20, r54_21, r54_22, r54_23, r54_24]; simp [t22, t23]; exact rfl) ?_
      | refine W_cond_t (by first | (simp [t22, t23]; done) | fail) ?_
      | refine W_cond_f (by first | (simp [t22, t23]; done) | fail) ?_
      | fail)
    refine ⟨by simp, ?_⟩
    have hc1 := L.chk
    rw [hcC] at hc1
    have hb1 := L.box
    -- the block
    refine W_seq (W_seq (W_ops (s1 := ?_) (by simp only [r54_7]; simp [t1, hb1, hc1]; exact rfl) ?_))
    refine W_block (W_loop' l54_1.eq_1 ?_)
    refine W_seq (W_ops (s1 := ?_) (by simp only [r54_8]; simp; exact rfl) ?_)
    refine W_seq (W_cond_t (by simp) (W_skip ?_))
    refine W_seq (W_block (W_seq (W_ops (s1 := ?_) (by simp only [r54_9]; simp; exact rfl) ?_)))
    refine W_seq (W_seq (W_ops (s1 := ?_) (by simp only [r54_10]; simp; exact rfl) ?_))
    refine W_block (W_loop' l54_2.eq_1 ?_)
    refine W_seq (W_ops (s1 := ?_) (by simp only [r54_11]; simp; exact rfl) ?_)
    refine W_seq (W_cond_f (by simp) (W_exit ?_))
    refine W_seq (W_ops (s1 := ?_) (by simp only [r54_16]; simp; exact rfl) ?_)
    refine W_block (W_for' l54_3.eq_1 (n := x.ops.length) (fun i s => s.t 1 = .obj h.next 0 ∧ s.t 5 = .int .i64 0 ∧ s.t 41 = .int .i64 1 ∧ s.t 42 = .int .i64 0 ∧ s.t 76 = .lst .ro (x.ops.map OpD.c) ∧ s.t 77 = .int .i64 x.ops.length ∧ s.t 78 = .int .i64 i ∧ Laying x h s.h c succ pred tree ts tp tt (Do x i)) ⟨by simp [t1], by simp, by simp, by simp, by simp, by simp, by simp, L⟩ ?_ ?_)
    · clear t1 t21 t22 t23 L hc1 hb1
      rintro i ⟨t, loc, h2⟩ hi ⟨t1, t5, t41, t42, t76, t77, t78, L⟩
      simp only at t1 t5 t41 t42 t76 t77 t78 L
      have hl1 : ((i : Int) < x.ops.length) := by omega
      have hw := i64_succ (show i < 2 ^ 62 by omega)
      have hE := opc_eq x.ops[i]
      have eG := Gives_run x.ops[i] (hT _ (List.getElem_mem hi)) (g5 _ (List.getElem_mem hi)) h2
      rw [hE] at eG
      have hb := L.box
      by_cases hg : 0 < (giveM x.ops[i]).1
      · obtain ⟨p1, p2⟩ := L.put hcn x.ops[i].dst ⟨0, i, (giveM x.ops[i]).1, (giveM x.ops[i]).2⟩ (honce i hi hg)
        simp only at p1
        have hD : Do x (i + 1) = fun j => if j = x.ops[i].dst then some ⟨0, i, (giveM x.ops[i]).1, (giveM x.ops[i]).2⟩ else Do x i j := by
          simp [Do, hi, hg]
        rw [← hD] at p2
        repeat' (first
          | refine W_seq ?_
          | refine W_skip ?_
          | refine W_block ?_
          | refine W_ret ?_
          | refine W_exit ?_
          | refine W_ops (s1 := ?_) (by simp only [r54_0, r54_1, r54_2, r54_3, r54_4, r54_5, r54_6, r54_7, r54_8, r54_9, r54_10, r54_11, r54_12, r54_13, r54_14, r54_15, r54_16, r54_17, r54_18, r54_19, r54_20, r54_21, r54_22, r54_23, r54_24]; simp [t1, t5, t76, t77, t78, hl1, hi, hE, eG, hg, hb, p1, hw]; exact rfl) ?_
          | refine W_tops (s1 := ?_) (by simp only [r54_0, r54_1, r54_2, r54_3, r54_4, r54_5, r54_6, r54_7, r54_8, r54_9, r54_10, r54_11, r54_12, r54_13, r54_14, r54_15, r54_16, r54_17, r54_18, r54_19, r54_20, r54_21, r54_22, r54_23, r54_24]; simp [t1, t5, t76, t77, t78, hl1, hi, hE, eG, hg, hb, p1, hw]; exact rfl) ?_
          | refine W_cond_t (by first | (simp [t1, t5, t76, t77, t78, hl1, hi, hE, eG, hg, hb, p1, hw]; done) | fail) ?_
          | refine W_cond_f (by first | (simp [t1, t5, t76, t77, t78, hl1, hi, hE, eG, hg, hb, p1, hw]; done) | fail) ?_
          | fail)
        exact .inl ⟨rfl, by simp [t1], by simp [t5], by simp [t41], by simp [t42], by simp [t76], by simp [t77], by simp, p2⟩
      · have hD : Do x (i + 1) = Do x i := by simp [Do, hi, hg]
        repeat' (first
          | refine W_seq ?_
          | refine W_skip ?_
          | refine W_block ?_
          | refine W_ret ?_
          | refine W_exit ?_
          | refine W_ops (s1 := ?_) (by simp only [r54_0, r54_1, r54_2, r54_3, r54_4, r54_5, r54_6, r54_7, r54_8, r54_9, r54_10, r54_11, r54_12, r54_13, r54_14, r54_15, r54_16, r54_17, r54_18, r54_19, r54_20, r54_21, r54_22, r54_23, r54_24]; simp [t1, t5, t76, t77, t78, hl1, hi, hE, eG, hg, hw]; exact rfl) ?_
          | refine W_tops (s1 := ?_) (by simp only [r54_0, r54_1, r54_2, r54_3, r54_4, r54_5, r54_6, r54_7, r54_8, r54_9, r54_10, r54_11, r54_12, r54_13, r54_14, r54_15, r54_16, r54_17, r54_18, r54_19, r54_20, r54_21, r54_22, r54_23, r54_24]; simp [t1, t5, t76, t77, t78, hl1, hi, hE, eG, hg, hw]; exact rfl) ?_
          | refine W_cond_t (by first | (simp [t1, t5, t76, t77, t78, hl1, hi, hE, eG, hg, hw]; done) | fail) ?_
          | refine W_cond_f (by first | (simp [t1, t5, t76, t77, t78, hl1, hi, hE, eG, hg, hw]; done) | fail) ?_
          | fail)
        exact .inl ⟨rfl, by simp [t1], by simp [t5], by simp [t41], by simp [t42], by simp [t76], by simp [t77], by simp, by rw [hD]; exact L⟩
    · clear t1 t21 t22 t23 L hc1 hb1
      rintro ⟨t, loc, h2⟩ ⟨t1, t5, t41, t42, t76, t77, t78, L⟩
      simp only at t1 t5 t41 t42 t76 t77 t78 L
      repeat' (first
        | refine W_seq ?_
        | refine W_skip ?_
        | refine W_block ?_
        | refine W_ret ?_
        | refine W_exit ?_
        | refine W_ops (s1 := ?_) (by simp only [r54_0, r54_1, r54_2, r54_3, r54_4, r54_5, r54_6, r54_7, r54_8, r54_9, r54_10, r54_11, r54_12, r54_13, r54_14, r54_15, r54_16, r54_17, r54_18, r54_19, r54_20, r54_21, r54_22, r54_23, r54_24]; simp [t77, t78]; exact rfl) ?_
        | refine W_tops (s1 := ?_) (by simp only [r54_0, r54_1, r54_2, r54_3, r54_4, r54_5, r54_6, r54_7, r54_8, r54_9, r54_10, r54_11, r54_12, r54_13, r54_14, r54_15, r54_16, r54_17, r54_18, r54_19, r54_20, r54_21, r54_22, r54_23, r54_24]; simp [t77, t78]; exact rfl) ?_
        | refine W_cond_t (by first | (simp [t77, t78]; done) | fail) ?_
        | refine W_cond_f (by first | (simp [t77, t78]; done) | fail) ?_
        | fail)
      refine ⟨by simp, ?_⟩
      repeat' (first
        | refine W_seq ?_
        | refine W_skip ?_
        | refine W_block ?_
        | refine W_ret ?_
        | refine W_exit ?_
        | refine W_ops (s1 := ?_) (by simp only [r54_0, r54_1, r54_2, r54_3, r54_4, r54_5, r54_6, r54_7, r54_8, r54_9, r54_10, r54_11, r54_12, r54_13, r54_14, r54_15, r54_16, r54_17, r54_18, r54_19, r54_20, r54_21, r54_22, r54_23, r54_24]; simp [t42, w1]; exact rfl) ?_
        | refine W_tops (s1 := ?_) (by simp only [r54_0, r54_1, r54_2, r54_3, r54_4, r54_5, r54_6, r54_7, r54_8, r54_9, r54_10, r54_11, r54_12, r54_13, r54_14, r54_15, r54_16, r54_17, r54_18, r54_19, r54_20, r54_21, r54_22, r54_23, r54_24]; simp [t42, w1]; exact rfl) ?_
        | refine W_cond_t (by first | (simp [t42, w1]; done) | fail) ?_
        | refine W_cond_f (by first | (simp [t42, w1]; done) | fail) ?_
        | fail)
      refine W_loop' l54_1.eq_1 ?_
      repeat' (first
        | refine W_seq ?_
        | refine W_skip ?_
        | refine W_block ?_
        | refine W_ret ?_
        | refine W_exit ?_
        | refine W_ops (s1 := ?_) (by simp only [r54_0, r54_1, r54_2, r54_3, r54_4, r54_5, r54_6, r54_7, r54_8, r54_9, r54_10, r54_11, r54_12, r54_13, r54_14, r54_15, r54_16, r54_17, r54_18, r54_19, r54_20, r54_21, r54_22, r54_23, r54_24]; simp [t41, w1]; exact rfl) ?_
        | refine W_tops (s1 := ?_) (by simp only [r54_0, r54_1, r54_2, r54_3, r54_4, r54_5, r54_6, r54_7, r54_8, r54_9, r54_10, r54_11, r54_12, r54_13, r54_14, r54_15, r54_16, r54_17, r54_18, r54_19, r54_20, r54_21, r54_22, r54_23, r54_24]; simp [t41, w1]; exact rfl) ?_
        | refine W_cond_t (by first | (simp [t41, w1]; done) | fail) ?_
        | refine W_cond_f (by first | (simp [t41, w1]; done) | fail) ?_
        | fail)
      have kn : Knows h2 c h.next (h.next + 1) x.D := ⟨L.box, ⟨_, _, _, _, _, _, _, L.chk⟩, L.defs⟩
      have hn := L.next
      obtain ⟨d, hd⟩ := he
      obtain ⟨h3, u1, u2⟩ := uses_run x c h.next 91 h2 (by omega) L.chk hfit' hT hret
        (fun k hk j hj => by
          obtain ⟨v, d, q1, q2⟩ := ho k hk j hj
          exact ⟨v, q1, fun h' hx => definedQ_run (kn.ext hx (by omega) (by omega) (by omega)) q2 _ _ _⟩)
        (fun h' hx => definedQ_run (kn.ext hx (by omega) (by omega) (by omega)) hd _ _ _)
      have hb := L.box
      repeat' (first
        | refine W_seq ?_
        | refine W_skip ?_
        | refine W_block ?_
        | refine W_ret ?_
        | refine W_exit ?_
        | refine W_ops (s1 := ?_) (by simp only [r54_0, r54_1, r54_2, r54_3, r54_4, r54_5, r54_6, r54_7, r54_8, r54_9, r54_10, r54_11, r54_12, r54_13, r54_14, r54_15, r54_16, r54_17, r54_18, r54_19, r54_20, r54_21, r54_22, r54_23, r54_24]; simp [t1, hb, u1]; exact rfl) ?_
        | refine W_tops (s1 := ?_) (by simp only [r54_0, r54_1, r54_2, r54_3, r54_4, r54_5, r54_6, r54_7, r54_8, r54_9, r54_10, r54_11, r54_12, r54_13, r54_14, r54_15, r54_16, r54_17, r54_18, r54_19, r54_20, r54_21, r54_22, r54_23, r54_24]; simp [t1, hb, u1]; exact rfl) ?_
        | refine W_cond_t (by first | (simp [t1, hb, u1]; done) | fail) ?_
        | refine W_cond_f (by first | (simp [t1, hb, u1]; done) | fail) ?_
        | fail)
      refine ⟨.inr rfl, [.int .i64 0], by simp [a54, resV, resV1], by simp [a54, packV], ?_, ?_, ?_, fun id h4 h5 => ?_⟩
      · have := u2.1; simp only; omega
      · simp only; rw [u2.2 _ (by omega)]; exact L.chk
      · simp only; rw [u2.2 _ (by omega)]; exact L.defs
      · simp only; rw [u2.2 _ (by omega)]; exact L.old id h4 h5

end Go.Proofs.YtcngflmnbdcppaaGreat

/- The checker: each argument of a straight function has the shape that is taken, and is defined where it is used. -/
namespace Go.Proofs.YtcngflmnbdcppaaGreat
open Go.LS Go.IntWalk

theorem shapes_run (x : Straight) (c m : Nat) (h : LS.Heap) (hcn : c < h.next) (hmn : m < h.next) {succ pred tree : List (List V)} {ts tp tt : Tag} (hc : h.objs c = some (.var (chkC x.f succ pred tree ts tp tt (some m)))) (hm : h.objs m = some (.map .i64 (defsV x.D)))
    (hfit : x.f.Fit) (hT : ∀ o ∈ x.ops, TakesOK o) (hret : x.ret ≠ 0)
    (ho : ∀ k (hk : k < x.ops.length) j (hj : j < (takeL x.ops[k]).length), ∃ v d, x.ops[k].args[j]? = some v ∧ x.D v = some d ∧ (d.bits = (takeL x.ops[k])[j].1 ∧ d.lanes = (takeL x.ops[k])[j].2)) (he : ∃ d, x.D x.arg = some d ∧ (d.bits = x.ret ∧ d.lanes = 1)) :
    ∃ h', callD T 55 [.obj c 0] h = some (.int .i64 0, h') ∧ HExt h h' := by
  have hc1 : (h.new (.var [.obj c 0])).objs c = some (.var (chkC x.f succ pred tree ts tp tt (some m))) := by rw [new_objs_old hcn]; exact hc
  have kn : Knows (h.new (.var [.obj c 0])) c h.next m x.D := ⟨new_objs_new _ _, ⟨_, _, _, _, _, _, _, hc1⟩, by rw [new_objs_old hmn]; exact hm⟩
  have hn : (h.new (.var [.obj c 0])).next = h.next + 1 := rfl
  obtain ⟨d, hd, hd2⟩ := he
  obtain ⟨h3, u1, u2⟩ := uses_run x c h.next 92 (h.new (.var [.obj c 0])) (by omega) hc1 hfit hT hret
    (fun k hk j hj => by
      obtain ⟨v, d, q1, q2, q3⟩ := ho k hk j hj
      exact ⟨v, q1, fun h' hx => shapesQ_run (kn.ext hx (by omega) (by omega) (by omega)) q2 _ q3 _ _⟩)
    (fun h' hx => shapesQ_run (kn.ext hx (by omega) (by omega) (by omega)) hd _ hd2 _ _)
  have hb := new_objs_new h (.var [.obj c 0])
  refine W_callE t55 rfl rfl (by simp) ?_
  show W T c55 _ _
  unfold c55
  refine W_seq (W_ops (s1 := ?_) (by simp only [r55_0]; simp [a55]; exact rfl) ?_)
  repeat' (first
    | refine W_seq ?_
    | refine W_skip ?_
    | refine W_block ?_
    | refine W_ret ?_
    | refine W_exit ?_
    | refine W_ops (s1 := ?_) (by simp only [r55_0, r55_1]; simp [hb, u1]; exact rfl) ?_
    | refine W_tops (s1 := ?_) (by simp only [r55_0, r55_1]; simp [hb, u1]; exact rfl) ?_
    | refine W_cond_t (by first | (simp [hb, u1]; done) | fail) ?_
    | refine W_cond_f (by first | (simp [hb, u1]; done) | fail) ?_
    | fail)
  exact ⟨.inr rfl, [.int .i64 0], by simp [a55, resV, resV1], by simp [a55, packV], (HExt.new h _).trans u2⟩

theorem places_run (x : Straight) (c m : Nat) (h : LS.Heap) (hcn : c < h.next) (hmn : m < h.next) {succ pred tree : List (List V)} {ts tp tt : Tag} (hc : h.objs c = some (.var (chkC x.f succ pred tree ts tp tt (some m)))) (hm : h.objs m = some (.map .i64 (defsV x.D)))
    (hfit : x.f.Fit) (hT : ∀ o ∈ x.ops, TakesOK o) (hret : x.ret ≠ 0)
    (ho : ∀ k (hk : k < x.ops.length) j (hj : j < (takeL x.ops[k]).length), ∃ v d, x.ops[k].args[j]? = some v ∧ x.D v = some d ∧ (d.block < 0 ∨ (d.block = 0 ∧ d.at_ < k))) (he : ∃ d, x.D x.arg = some d ∧ (d.block < 0 ∨ (d.block = 0 ∧ d.at_ < 1048576))) :
    ∃ h', callD T 56 [.obj c 0] h = some (.int .i64 0, h') ∧ HExt h h' := by
  have hc1 : (h.new (.var [.obj c 0])).objs c = some (.var (chkC x.f succ pred tree ts tp tt (some m))) := by rw [new_objs_old hcn]; exact hc
  have kn : Knows (h.new (.var [.obj c 0])) c h.next m x.D := ⟨new_objs_new _ _, ⟨_, _, _, _, _, _, _, hc1⟩, by rw [new_objs_old hmn]; exact hm⟩
  have hn : (h.new (.var [.obj c 0])).next = h.next + 1 := rfl
  obtain ⟨d, hd, hd2⟩ := he
  obtain ⟨h3, u1, u2⟩ := uses_run x c h.next 93 (h.new (.var [.obj c 0])) (by omega) hc1 hfit hT hret
    (fun k hk j hj => by
      obtain ⟨v, d, q1, q2, q3⟩ := ho k hk j hj
      exact ⟨v, q1, fun h' hx => placesQ_run (kn.ext hx (by omega) (by omega) (by omega)) q2 _ _ _ q3⟩)
    (fun h' hx => placesQ_run (kn.ext hx (by omega) (by omega) (by omega)) hd _ _ _ hd2)
  have hb := new_objs_new h (.var [.obj c 0])
  refine W_callE t56 rfl rfl (by simp) ?_
  show W T c56 _ _
  unfold c56
  refine W_seq (W_ops (s1 := ?_) (by simp only [r56_0]; simp [a56]; exact rfl) ?_)
  repeat' (first
    | refine W_seq ?_
    | refine W_skip ?_
    | refine W_block ?_
    | refine W_ret ?_
    | refine W_exit ?_
    | refine W_ops (s1 := ?_) (by simp only [r56_0, r56_1]; simp [hb, u1]; exact rfl) ?_
    | refine W_tops (s1 := ?_) (by simp only [r56_0, r56_1]; simp [hb, u1]; exact rfl) ?_
    | refine W_cond_t (by first | (simp [hb, u1]; done) | fail) ?_
    | refine W_cond_f (by first | (simp [hb, u1]; done) | fail) ?_
    | fail)
  exact ⟨.inr rfl, [.int .i64 0], by simp [a56, resV, resV1], by simp [a56, packV], (HExt.new h _).trans u2⟩

end Go.Proofs.YtcngflmnbdcppaaGreat

/- The graph of one block that goes nowhere. -/
namespace Go.Proofs.YtcngflmnbdcppaaGreat
open Go.LS Go.IntWalk

theorem w1 : IntKind.i64.wrap 1 = 1 := i64_in _ (by omega)
theorem w0 : IntKind.i64.wrap 0 = 0 := i64_in _ (by omega)
theorem wu0 : IntKind.u64.wrap 0 = 0 := u64_in _ (by omega)
theorem w8 : IntKind.u8.wrap 0 = 0 := u8_in _ (by omega)

set_option maxRecDepth 100000 in
theorem len64_run (h : LS.Heap) : ∃ n, callD T 157 [.int .u64 0] h = some (.int .i64 n, h) := by
  have hw : W T c157 ⟨initT [.int .u64 0], fun _ => none, h⟩ (fun e s => e = .ret ∧ ∃ n, s.t 2 = .int .i64 n ∧ s.h = h) := by
    unfold c157
    repeat' (first
      | refine W_seq ?_
      | refine W_skip ?_
      | refine W_block ?_
      | refine W_ret ?_
      | refine W_exit ?_
      | refine W_ops (s1 := ?_) (by simp only [r157_0, r157_1, r157_2, r157_3, r157_4, r157_5, r157_6, r157_7, r157_8, r157_9, r157_10]; simp [w0, w8]; exact rfl) ?_
      | refine W_tops (s1 := ?_) (by simp only [r157_0, r157_1, r157_2, r157_3, r157_4, r157_5, r157_6, r157_7, r157_8, r157_9, r157_10]; simp [w0, w8]; exact rfl) ?_
      | refine W_cond_t (by first | (simp [w0, w8]; done) | fail) ?_
      | refine W_cond_f (by first | (simp [w0, w8]; done) | fail) ?_
      | fail)
    exact ⟨rfl, _, by simp; exact rfl, rfl⟩
  obtain ⟨e, s, h1, h2, n, h3, h4⟩ := hw
  refine ⟨n, W_call t157 rfl rfl (by simp) ⟨e, s, by simpa [a157] using h1, .inr h2, [.int .i64 n], by simp [a157, resV, resV1, h3], by simp [a157, packV], rfl, by rw [h4]; exact .refl _⟩⟩

theorem len_run (h : LS.Heap) : ∃ n, callD T 139 [.int .u64 0] h = some (.int .i64 n, h) := by
  obtain ⟨n, e⟩ := len64_run h
  refine ⟨n, ?_⟩
  refine W_call t139 rfl rfl (by simp) ?_
  show W T c139 _ _
  unfold c139
  repeat' (first
    | refine W_seq ?_
    | refine W_skip ?_
    | refine W_block ?_
    | refine W_ret ?_
    | refine W_exit ?_
    | refine W_ops (s1 := ?_) (by simp only [r139_0, r139_1, r139_2]; simp [a139, e]; exact rfl) ?_
    | refine W_tops (s1 := ?_) (by simp only [r139_0, r139_1, r139_2]; simp [a139, e]; exact rfl) ?_
    | refine W_cond_t (by first | (simp [a139, e]; done) | fail) ?_
    | refine W_cond_f (by first | (simp [a139, e]; done) | fail) ?_
    | fail)
  exact ⟨.inr rfl, [.int .i64 n], by simp [a139, resV, resV1], by simp [a139, packV], rfl, .refl _⟩

theorem insertion_run (tg : Tag) (h : LS.Heap) : callD T 147 [.lst tg [], .int .i64 0, .int .i64 0] h = some (.tup [], h) := by
  refine W_callH t147 rfl rfl (by simp) ?_
  show W T c147 _ _
  unfold c147
  repeat' (first
    | refine W_seq ?_
    | refine W_skip ?_
    | refine W_block ?_
    | refine W_ret ?_
    | refine W_exit ?_
    | refine W_ops (s1 := ?_) (by simp only [r147_0, r147_1, r147_3, r147_4, r147_6, r147_5, r147_2]; simp [a147, w1]; exact rfl) ?_
    | refine W_tops (s1 := ?_) (by simp only [r147_0, r147_1, r147_3, r147_4, r147_6, r147_5, r147_2]; simp [a147, w1]; exact rfl) ?_
    | refine W_cond_t (by first | (simp [a147, w1]; done) | fail) ?_
    | refine W_cond_f (by first | (simp [a147, w1]; done) | fail) ?_
    | fail)
  refine W_loop' l147_0.eq_1 ?_
  repeat' (first
    | refine W_seq ?_
    | refine W_skip ?_
    | refine W_block ?_
    | refine W_ret ?_
    | refine W_exit ?_
    | refine W_ops (s1 := ?_) (by simp only [r147_0, r147_1, r147_3, r147_4, r147_6, r147_5, r147_2]; simp; exact rfl) ?_
    | refine W_tops (s1 := ?_) (by simp only [r147_0, r147_1, r147_3, r147_4, r147_6, r147_5, r147_2]; simp; exact rfl) ?_
    | refine W_cond_t (by first | (simp; done) | fail) ?_
    | refine W_cond_f (by first | (simp; done) | fail) ?_
    | fail)
  exact ⟨.inl rfl, [], by simp [a147, resV], by simp [a147, packV], rfl⟩

theorem pdq_run (tg : Tag) (n : Int) (h : LS.Heap) : callD T 138 [.lst tg [], .int .i64 0, .int .i64 0, .int .i64 n] h = some (.tup [], h) := by
  have e := insertion_run .ro h
  refine W_callH t138 rfl rfl (by simp) ?_
  show W T c138 _ _
  unfold c138
  repeat' (first
    | refine W_seq ?_
    | refine W_skip ?_
    | refine W_block ?_
    | refine W_ret ?_
    | refine W_exit ?_
    | refine W_ops (s1 := ?_) (by simp only [r138_0, r138_1, r138_2, r138_3, r138_4, r138_5, r138_6, r138_7, r138_8, r138_9, r138_10, r138_11, r138_12, r138_13, r138_14, r138_15, r138_16, r138_17, r138_18, r138_19, r138_20, r138_21, r138_22, r138_23, r138_24, r138_25, r138_26, r138_27, r138_28, r138_29, r138_30]; simp [a138]; exact rfl) ?_
    | refine W_tops (s1 := ?_) (by simp only [r138_0, r138_1, r138_2, r138_3, r138_4, r138_5, r138_6, r138_7, r138_8, r138_9, r138_10, r138_11, r138_12, r138_13, r138_14, r138_15, r138_16, r138_17, r138_18, r138_19, r138_20, r138_21, r138_22, r138_23, r138_24, r138_25, r138_26, r138_27, r138_28, r138_29, r138_30]; simp [a138]; exact rfl) ?_
    | refine W_cond_t (by first | (simp [a138]; done) | fail) ?_
    | refine W_cond_f (by first | (simp [a138]; done) | fail) ?_
    | fail)
  refine W_loop' l138_0.eq_1 ?_
  repeat' (first
    | refine W_seq ?_
    | refine W_skip ?_
    | refine W_block ?_
    | refine W_ret ?_
    | refine W_exit ?_
    | refine W_ops (s1 := ?_) (by simp only [r138_0, r138_1, r138_2, r138_3, r138_4, r138_5, r138_6, r138_7, r138_8, r138_9, r138_10, r138_11, r138_12, r138_13, r138_14, r138_15, r138_16, r138_17, r138_18, r138_19, r138_20, r138_21, r138_22, r138_23, r138_24, r138_25, r138_26, r138_27, r138_28, r138_29, r138_30]; simp [w0, e]; exact rfl) ?_
    | refine W_tops (s1 := ?_) (by simp only [r138_0, r138_1, r138_2, r138_3, r138_4, r138_5, r138_6, r138_7, r138_8, r138_9, r138_10, r138_11, r138_12, r138_13, r138_14, r138_15, r138_16, r138_17, r138_18, r138_19, r138_20, r138_21, r138_22, r138_23, r138_24, r138_25, r138_26, r138_27, r138_28, r138_29, r138_30]; simp [w0, e]; exact rfl) ?_
    | refine W_cond_t (by first | (simp [w0, e]; done) | fail) ?_
    | refine W_cond_f (by first | (simp [w0, e]; done) | fail) ?_
    | fail)
  exact ⟨.inr rfl, [], by simp [a138, resV], by simp [a138, packV], rfl⟩

theorem sort_run (tg : Tag) (h : LS.Heap) : callD T 120 [.lst tg []] h = some (.tup [], h) := by
  obtain ⟨n, e1⟩ := len_run h
  have e2 := pdq_run .ro n h
  refine W_callH t120 rfl rfl (by simp) ?_
  show W T c120 _ _
  unfold c120
  repeat' (first
    | refine W_seq ?_
    | refine W_skip ?_
    | refine W_block ?_
    | refine W_ret ?_
    | refine W_exit ?_
    | refine W_ops (s1 := ?_) (by simp only [r120_0, r120_1]; simp [a120, wu0, e1, e2]; exact rfl) ?_
    | refine W_tops (s1 := ?_) (by simp only [r120_0, r120_1]; simp [a120, wu0, e1, e2]; exact rfl) ?_
    | refine W_cond_t (by first | (simp [a120, wu0, e1, e2]; done) | fail) ?_
    | refine W_cond_f (by first | (simp [a120, wu0, e1, e2]; done) | fail) ?_
    | fail)
  exact ⟨.inl rfl, [], by simp [a120, resV], by simp [a120, packV], rfl⟩

theorem values_run (tg : Tag) (h : LS.Heap) : callD T 105 [.lst tg []] h = some (.fn 121 [] [.obj h.next 0], h.new (.var [.lst .ro []])) := by
  refine W_callH t105 rfl rfl (by simp) ?_
  show W T c105 _ _
  unfold c105
  repeat' (first
    | refine W_seq ?_
    | refine W_skip ?_
    | refine W_block ?_
    | refine W_ret ?_
    | refine W_exit ?_
    | refine W_ops (s1 := ?_) (by simp only [r105_0, r105_1]; simp [a105]; exact rfl) ?_
    | refine W_tops (s1 := ?_) (by simp only [r105_0, r105_1]; simp [a105]; exact rfl) ?_
    | refine W_cond_t (by first | (simp [a105]; done) | fail) ?_
    | refine W_cond_f (by first | (simp [a105]; done) | fail) ?_
    | fail)
  exact ⟨.inr rfl, [.fn 121 [] [.obj h.next 0]], by simp [a105, resV, resV1], by simp [a105, packV], rfl⟩

theorem yields_none (id : Nat) (tg : Tag) (h : LS.Heap) (hid : h.objs id = some (.var [.lst tg []])) : callD T0 121 [.undef, .obj id 0] h = some (.tup [], h) := by
  refine W_call z121 rfl rfl (by simp) ?_
  show W T0 c121 _ _
  unfold c121
  repeat' (first
    | refine W_seq ?_
    | refine W_skip ?_
    | refine W_block ?_
    | refine W_ret ?_
    | refine W_exit ?_
    | refine W_ops (s1 := ?_) (by simp only [r121_0, r121_1, r121_2, r121_3, r121_4]; simp [a121, hid]; exact rfl) ?_
    | refine W_tops (s1 := ?_) (by simp only [r121_0, r121_1, r121_2, r121_3, r121_4]; simp [a121, hid]; exact rfl) ?_
    | refine W_cond_t (by first | (simp [a121, hid]; done) | fail) ?_
    | refine W_cond_f (by first | (simp [a121, hid]; done) | fail) ?_
    | fail)
  refine W_loop' l121_0.eq_1 ?_
  repeat' (first
    | refine W_seq ?_
    | refine W_skip ?_
    | refine W_block ?_
    | refine W_ret ?_
    | refine W_exit ?_
    | refine W_ops (s1 := ?_) (by simp only [r121_0, r121_1, r121_2, r121_3, r121_4]; simp; exact rfl) ?_
    | refine W_tops (s1 := ?_) (by simp only [r121_0, r121_1, r121_2, r121_3, r121_4]; simp; exact rfl) ?_
    | refine W_cond_t (by first | (simp; done) | fail) ?_
    | refine W_cond_f (by first | (simp; done) | fail) ?_
    | fail)
  exact ⟨.inl rfl, [], by simp [a121, resV], by simp [a121, packV], rfl, .refl _⟩

theorem appendSeq_run (id : Nat) (tg : Tag) (h : LS.Heap) (hid : h.objs id = some (.var [.lst tg []])) : callD T 137 [.lst .nil [], .fn 121 [] [.obj id 0]] h = some (.lst .nil [], h) := by
  have e := yields_none id tg h hid
  unfold callD callF
  simp only [T]
  simp [appendE, e]

theorem collect_run (id : Nat) (tg : Tag) (h : LS.Heap) (hid : h.objs id = some (.var [.lst tg []])) : callD T 119 [.fn 121 [] [.obj id 0]] h = some (.lst .nil [], h) := by
  have e := appendSeq_run id tg h hid
  refine W_callH t119 rfl rfl (by simp) ?_
  show W T c119 _ _
  unfold c119
  repeat' (first
    | refine W_seq ?_
    | refine W_skip ?_
    | refine W_block ?_
    | refine W_ret ?_
    | refine W_exit ?_
    | refine W_ops (s1 := ?_) (by simp only [r119_0, r119_1]; simp [a119, e]; exact rfl) ?_
    | refine W_tops (s1 := ?_) (by simp only [r119_0, r119_1]; simp [a119, e]; exact rfl) ?_
    | refine W_cond_t (by first | (simp [a119, e]; done) | fail) ?_
    | refine W_cond_f (by first | (simp [a119, e]; done) | fail) ?_
    | fail)
  exact ⟨.inr rfl, [.lst .nil []], by simp [a119, resV, resV1], by simp [a119, packV], rfl⟩

theorem sorted_run (id : Nat) (tg : Tag) (h : LS.Heap) (hid : h.objs id = some (.var [.lst tg []])) : callD T 104 [.fn 121 [] [.obj id 0]] h = some (.lst .nil [], h) := by
  have e := collect_run id tg h hid
  have e2 := sort_run .nil h
  refine W_callH t104 rfl rfl (by simp) ?_
  show W T c104 _ _
  unfold c104
  repeat' (first
    | refine W_seq ?_
    | refine W_skip ?_
    | refine W_block ?_
    | refine W_ret ?_
    | refine W_exit ?_
    | refine W_ops (s1 := ?_) (by simp only [r104_0, r104_1, r104_2, r104_3]; simp [a104, e, e2]; exact rfl) ?_
    | refine W_tops (s1 := ?_) (by simp only [r104_0, r104_1, r104_2, r104_3]; simp [a104, e, e2]; exact rfl) ?_
    | refine W_cond_t (by first | (simp [a104, e, e2]; done) | fail) ?_
    | refine W_cond_f (by first | (simp [a104, e, e2]; done) | fail) ?_
    | fail)
  exact ⟨.inr rfl, [.lst .nil []], by simp [a104, resV, resV1], by simp [a104, packV], rfl⟩

theorem compact_run (h : LS.Heap) : callD T 103 [.lst .nil []] h = some (.lst .nil [], h) := by
  refine W_callH t103 rfl rfl (by simp) ?_
  show W T c103 _ _
  unfold c103
  repeat' (first
    | refine W_seq ?_
    | refine W_skip ?_
    | refine W_block ?_
    | refine W_ret ?_
    | refine W_exit ?_
    | refine W_ops (s1 := ?_) (by simp only [r103_0, r103_1, r103_2, r103_3, r103_4, r103_6, r103_7, r103_8, r103_9, r103_11, r103_12, r103_13, r103_10, r103_14, r103_15, r103_5, r103_16]; simp [a103]; exact rfl) ?_
    | refine W_tops (s1 := ?_) (by simp only [r103_0, r103_1, r103_2, r103_3, r103_4, r103_6, r103_7, r103_8, r103_9, r103_11, r103_12, r103_13, r103_10, r103_14, r103_15, r103_5, r103_16]; simp [a103]; exact rfl) ?_
    | refine W_cond_t (by first | (simp [a103]; done) | fail) ?_
    | refine W_cond_f (by first | (simp [a103]; done) | fail) ?_
    | fail)
  exact ⟨.inr rfl, [.lst .nil []], by simp [a103, resV, resV1], by simp [a103, packV], rfl⟩

theorem goes_run (h : LS.Heap) : callD T 101 [.int .i64 0] h = some (.int .i64 0, h) := by
  refine W_call t101 rfl rfl (by simp) ?_
  show W T c101 _ _
  unfold c101
  repeat' (first
    | refine W_seq ?_
    | refine W_skip ?_
    | refine W_block ?_
    | refine W_ret ?_
    | refine W_exit ?_
    | refine W_ops (s1 := ?_) (by simp only [r101_0, r101_1, r101_2, r101_3, r101_4, r101_5, r101_6, r101_7, r101_8, r101_9]; simp [a101]; exact rfl) ?_
    | refine W_tops (s1 := ?_) (by simp only [r101_0, r101_1, r101_2, r101_3, r101_4, r101_5, r101_6, r101_7, r101_8, r101_9]; simp [a101]; exact rfl) ?_
    | refine W_cond_t (by first | (simp [a101]; done) | fail) ?_
    | refine W_cond_f (by first | (simp [a101]; done) | fail) ?_
    | fail)
  exact ⟨.inr rfl, [.int .i64 0], by simp [a101, resV, resV1], by simp [a101, packV], rfl, .refl _⟩

theorem clone_run (h : LS.Heap) : callD T 125 [.lst .nil []] h = some (.lst .nil [], h) := by
  refine W_call t125 rfl rfl (by simp) ?_
  show W T c125 _ _
  unfold c125
  repeat' (first
    | refine W_seq ?_
    | refine W_skip ?_
    | refine W_block ?_
    | refine W_ret ?_
    | refine W_exit ?_
    | refine W_ops (s1 := ?_) (by simp only [r125_0, r125_1, r125_2, r125_3]; simp [a125]; exact rfl) ?_
    | refine W_tops (s1 := ?_) (by simp only [r125_0, r125_1, r125_2, r125_3]; simp [a125]; exact rfl) ?_
    | refine W_cond_t (by first | (simp [a125]; done) | fail) ?_
    | refine W_cond_f (by first | (simp [a125]; done) | fail) ?_
    | fail)
  exact ⟨.inr rfl, [.lst .nil []], by simp [a125, resV, resV1], by simp [a125, packV], rfl, .refl _⟩

end Go.Proofs.YtcngflmnbdcppaaGreat

/- The graph of one block that goes nowhere: made, and gone through. -/
namespace Go.Proofs.YtcngflmnbdcppaaGreat
open Go.LS Go.IntWalk

theorem rising_run (tg : Tag) (n : Int) (h : LS.Heap) : callD T 124 [.lst tg [], .int .i64 n] h = some (.bool true, h) := by
  refine W_call t124 rfl rfl (by simp) ?_
  show W T c124 _ _
  unfold c124
  repeat' (first
    | refine W_seq ?_
    | refine W_skip ?_
    | refine W_block ?_
    | refine W_ret ?_
    | refine W_exit ?_
    | refine W_ops (s1 := ?_) (by simp only [r124_0, r124_1, r124_2, r124_3, r124_4, r124_5, r124_6, r124_7, r124_8, r124_9]; simp [a124]; exact rfl) ?_
    | refine W_tops (s1 := ?_) (by simp only [r124_0, r124_1, r124_2, r124_3, r124_4, r124_5, r124_6, r124_7, r124_8, r124_9]; simp [a124]; exact rfl) ?_
    | refine W_cond_t (by first | (simp [a124]; done) | fail) ?_
    | refine W_cond_f (by first | (simp [a124]; done) | fail) ?_
    | fail)
  refine W_loop' l124_0.eq_1 ?_
  repeat' (first
    | refine W_seq ?_
    | refine W_skip ?_
    | refine W_block ?_
    | refine W_ret ?_
    | refine W_exit ?_
    | refine W_ops (s1 := ?_) (by simp only [r124_0, r124_1, r124_2, r124_3, r124_4, r124_5, r124_6, r124_7, r124_8, r124_9]; simp; exact rfl) ?_
    | refine W_tops (s1 := ?_) (by simp only [r124_0, r124_1, r124_2, r124_3, r124_4, r124_5, r124_6, r124_7, r124_8, r124_9]; simp; exact rfl) ?_
    | refine W_cond_t (by first | (simp; done) | fail) ?_
    | refine W_cond_f (by first | (simp; done) | fail) ?_
    | fail)
  exact ⟨.inr rfl, [.bool true], by simp [a124, resV, resV1], by simp [a124, packV], rfl, .refl _⟩

theorem makeP_run (tg : Tag) (id : Nat) (n : Int) (h : LS.Heap) (hid : h.objs id = some (.var [.int .i64 n])) : callD T 123 [.lst tg [], .obj id 0] h = some (.bool false, h) := by
  have e := rising_run .ro n h
  refine W_call t123 rfl rfl (by simp) ?_
  show W T c123 _ _
  unfold c123
  repeat' (first
    | refine W_seq ?_
    | refine W_skip ?_
    | refine W_block ?_
    | refine W_ret ?_
    | refine W_exit ?_
    | refine W_ops (s1 := ?_) (by simp only [r123_0, r123_1]; simp [a123, hid, e]; exact rfl) ?_
    | refine W_tops (s1 := ?_) (by simp only [r123_0, r123_1]; simp [a123, hid, e]; exact rfl) ?_
    | refine W_cond_t (by first | (simp [a123, hid, e]; done) | fail) ?_
    | refine W_cond_f (by first | (simp [a123, hid, e]; done) | fail) ?_
    | fail)
  exact ⟨.inr rfl, [.bool false], by simp [a123, resV, resV1], by simp [a123, packV], rfl, .refl _⟩

theorem preds_run (tg tg' : Tag) (h : LS.Heap) : callD T 126 [.lst tg [[.lst tg' []]]] h = some (.lst .ro [[.lst .ro []]], h) := by
  refine W_call t126 rfl rfl (by simp) ?_
  show W T c126 _ _
  unfold c126
  repeat' (first
    | refine W_seq ?_
    | refine W_skip ?_
    | refine W_block ?_
    | refine W_ret ?_
    | refine W_exit ?_
    | refine W_ops (s1 := ?_) (by simp only [r126_0, r126_1, r126_2, r126_3, r126_4, r126_5, r126_6, r126_7, r126_8, r126_9, r126_10, r126_11]; simp [a126]; exact rfl) ?_
    | refine W_tops (s1 := ?_) (by simp only [r126_0, r126_1, r126_2, r126_3, r126_4, r126_5, r126_6, r126_7, r126_8, r126_9, r126_10, r126_11]; simp [a126]; exact rfl) ?_
    | refine W_cond_t (by first | (simp [a126]; done) | fail) ?_
    | refine W_cond_f (by first | (simp [a126]; done) | fail) ?_
    | fail)
  refine W_loop' l126_0.eq_1 ?_
  repeat' (first
    | refine W_seq ?_
    | refine W_skip ?_
    | refine W_block ?_
    | refine W_ret ?_
    | refine W_exit ?_
    | refine W_ops (s1 := ?_) (by simp only [r126_0, r126_1, r126_2, r126_3, r126_4, r126_5, r126_6, r126_7, r126_8, r126_9, r126_10, r126_11]; simp [w1]; exact rfl) ?_
    | refine W_tops (s1 := ?_) (by simp only [r126_0, r126_1, r126_2, r126_3, r126_4, r126_5, r126_6, r126_7, r126_8, r126_9, r126_10, r126_11]; simp [w1]; exact rfl) ?_
    | refine W_cond_t (by first | (simp [w1]; done) | fail) ?_
    | refine W_cond_f (by first | (simp [w1]; done) | fail) ?_
    | fail)
  refine W_loop' l126_1.eq_1 ?_
  repeat' (first
    | refine W_seq ?_
    | refine W_skip ?_
    | refine W_block ?_
    | refine W_ret ?_
    | refine W_exit ?_
    | refine W_ops (s1 := ?_) (by simp only [r126_0, r126_1, r126_2, r126_3, r126_4, r126_5, r126_6, r126_7, r126_8, r126_9, r126_10, r126_11]; simp [w1]; exact rfl) ?_
    | refine W_tops (s1 := ?_) (by simp only [r126_0, r126_1, r126_2, r126_3, r126_4, r126_5, r126_6, r126_7, r126_8, r126_9, r126_10, r126_11]; simp [w1]; exact rfl) ?_
    | refine W_cond_t (by first | (simp [w1]; done) | fail) ?_
    | refine W_cond_f (by first | (simp [w1]; done) | fail) ?_
    | fail)
  refine W_loop' l126_0.eq_1 ?_
  repeat' (first
    | refine W_seq ?_
    | refine W_skip ?_
    | refine W_block ?_
    | refine W_ret ?_
    | refine W_exit ?_
    | refine W_ops (s1 := ?_) (by simp only [r126_0, r126_1, r126_2, r126_3, r126_4, r126_5, r126_6, r126_7, r126_8, r126_9, r126_10, r126_11]; simp [w1, freezeV, Heap.new, Heap.kill]; exact rfl) ?_
    | refine W_tops (s1 := ?_) (by simp only [r126_0, r126_1, r126_2, r126_3, r126_4, r126_5, r126_6, r126_7, r126_8, r126_9, r126_10, r126_11]; simp [w1, freezeV, Heap.new, Heap.kill]; exact rfl) ?_
    | refine W_cond_t (by first | (simp [w1, freezeV, Heap.new, Heap.kill]; done) | fail) ?_
    | refine W_cond_f (by first | (simp [w1, freezeV, Heap.new, Heap.kill]; done) | fail) ?_
    | fail)
  refine ⟨.inr rfl, [.lst .ro [[.lst .nil []]]], by simp [a126, resV, resV1], by simp [a126, packV], by simp, by simp, fun id hid => ?_⟩
  have q0 : id ≠ h.next := by omega
  simp [upd, q0]

theorem make_run (tg : Tag) (h : LS.Heap) : callD T 106 [.lst tg [[.lst .nil []]]] h = some (.tup [.agg [.lst .ro [[.lst .nil []]], .lst .ro [[.lst .ro []]]], .int .i64 0], h) := by
  have e1 : ∀ h1 : LS.Heap, h1.objs h.next = some (.var [.int .i64 1]) → callD T 122 [.lst tg [[.lst .nil []]], .fn 123 [] [.obj h.next 0]] h1 = some (.bool false, h1) := fun h1 h2 => by
    have hC := Contains_list (fun _ : Unit => [.lst .ro []]) [()] 123 [.obj h.next 0] (fun _ => false) h1 .ro (by simp) (fun _ => rfl) (by simp) (by simp) (fun x _ => makeP_run .ro h.next 1 h1 h2)
    have hW : callD T 122 [.lst tg [[.lst .nil []]], .fn 123 [] [.obj h.next 0]] h1 = callD T 122 [.lst .ro [[.lst .ro []]], .fn 123 [] [.obj h.next 0]] h1 := by
      unfold callD callF
      rw [t122]
      simp [a122]
    rw [hW]
    simpa using hC
  have e2 := fun h1 : LS.Heap => clone_run h1
  have e3 := fun (tg : Tag) (h1 : LS.Heap) => preds_run tg .nil h1
  refine W_call t106 rfl rfl (by simp) ?_
  show W T c106 _ _
  unfold c106
  repeat' (first
    | refine W_seq ?_
    | refine W_skip ?_
    | refine W_block ?_
    | refine W_ret ?_
    | refine W_exit ?_
    | refine W_ops (s1 := ?_) (by simp only [r106_0, r106_1, r106_2, r106_3, r106_4, r106_5, r106_6, r106_7, r106_8, r106_9, r106_10]; simp [a106, nextVer, Heap.new, Heap.set, e1]; exact rfl) ?_
    | refine W_tops (s1 := ?_) (by simp only [r106_0, r106_1, r106_2, r106_3, r106_4, r106_5, r106_6, r106_7, r106_8, r106_9, r106_10]; simp [a106, nextVer, Heap.new, Heap.set, e1]; exact rfl) ?_
    | refine W_cond_t (by first | (simp [a106, nextVer, Heap.new, Heap.set, e1]; done) | fail) ?_
    | refine W_cond_f (by first | (simp [a106, nextVer, Heap.new, Heap.set, e1]; done) | fail) ?_
    | fail)
  refine W_loop' l106_0.eq_1 ?_
  repeat' (first
    | refine W_seq ?_
    | refine W_skip ?_
    | refine W_block ?_
    | refine W_ret ?_
    | refine W_exit ?_
    | refine W_ops (s1 := ?_) (by simp only [r106_0, r106_1, r106_2, r106_3, r106_4, r106_5, r106_6, r106_7, r106_8, r106_9, r106_10]; simp [w1, e2, appendV, Heap.new, Heap.kill]; exact rfl) ?_
    | refine W_tops (s1 := ?_) (by simp only [r106_0, r106_1, r106_2, r106_3, r106_4, r106_5, r106_6, r106_7, r106_8, r106_9, r106_10]; simp [w1, e2, appendV, Heap.new, Heap.kill]; exact rfl) ?_
    | refine W_cond_t (by first | (simp [w1, e2, appendV, Heap.new, Heap.kill]; done) | fail) ?_
    | refine W_cond_f (by first | (simp [w1, e2, appendV, Heap.new, Heap.kill]; done) | fail) ?_
    | fail)
  refine W_loop' l106_0.eq_1 ?_
  repeat' (first
    | refine W_seq ?_
    | refine W_skip ?_
    | refine W_block ?_
    | refine W_ret ?_
    | refine W_exit ?_
    | refine W_ops (s1 := ?_) (by simp only [r106_0, r106_1, r106_2, r106_3, r106_4, r106_5, r106_6, r106_7, r106_8, r106_9, r106_10]; simp [w1, e3, freezeV, Tag.settle]; exact rfl) ?_
    | refine W_tops (s1 := ?_) (by simp only [r106_0, r106_1, r106_2, r106_3, r106_4, r106_5, r106_6, r106_7, r106_8, r106_9, r106_10]; simp [w1, e3, freezeV, Tag.settle]; exact rfl) ?_
    | refine W_cond_t (by first | (simp [w1, e3, freezeV, Tag.settle]; done) | fail) ?_
    | refine W_cond_f (by first | (simp [w1, e3, freezeV, Tag.settle]; done) | fail) ?_
    | fail)
  refine ⟨.inr rfl, _, by simp [a106, resV, resV1]; exact rfl, by simp [a106, packV], by simp, by simp; omega, fun id hid => ?_⟩
  have q0 : id ≠ h.next := by omega
  have q1 : id ≠ h.next + 1 := by omega
  have q2 : id ≠ h.next + 1 + 1 := by omega
  simp [upd, q0, q1, q2]

theorem of_graph (x : List (List V)) (r : Int) (ops : List (List V)) (ea : Int) (hx : V.retagLL x = x) (ho : V.retagLL ops = ops) (h : LS.Heap) :
    callD T 75 [.agg [.lst .ro x, .int .i64 r, .lst .ro [[.lst .ro [], .lst .ro ops, .int .i64 0, .int .i64 ea, .lst .ro []]]]] h = some (.tup [.agg [.lst .ro [[.lst .nil []]], .lst .ro [[.lst .ro []]]], .int .i64 0], h) := by
  have e1 := fun h1 : LS.Heap => goes_run h1
  have e2 := fun (c : V) (hc : c.leaf = true) (h1 : LS.Heap) => Contains_int (fun n : Int => [.int .i64 n]) ([] : List Int) 102 [c] (fun _ => false) h1 .ro (by simp) (fun _ => rfl) rfl (by simp only [List.all_cons, hc]; rfl) (fun x hx => by cases hx)
  have e3 := fun (h1 : LS.Heap) => values_run .ro h1
  have e4 := fun (h1 : LS.Heap) => sorted_run h1.next .ro (h1.new (.var [.lst .ro []])) (by simp [Heap.new, upd])
  have e5 := fun h1 : LS.Heap => compact_run h1
  have e6 := fun (tg : Tag) (h1 : LS.Heap) => make_run tg h1
  refine W_call t75 rfl rfl (by simp) ?_
  show W T c75 _ _
  unfold c75
  refine W_seq (W_ops (s1 := ?_) (by simp only [r75_0]; simp [a75, nextVer, hx, ho]; exact rfl) ?_)
  refine W_seq (W_ops (s1 := ?_) (by simp only [r75_1]; simp [Heap.new, Heap.set]; exact rfl) ?_)
  generalize hH : LS.Heap.mk _ _ = h1
  have hx1 : HExt h h1 := by
    rw [← hH]
    refine ⟨by simp, fun id hid => ?_⟩
    have q0 : id ≠ h.next := by omega
    simp [upd, q0]
  have ho1 : h1.objs h.next = some (.var [.int .i64 1]) := by rw [← hH]; simp [upd]
  clear hH
  have e2' := e2 (.obj h.next 0) rfl
  simp only [List.map_nil, List.any_nil] at e2'
  repeat' (first
    | refine W_seq ?_
    | refine W_skip ?_
    | refine W_block ?_
    | refine W_ret ?_
    | refine W_exit ?_
    | refine W_ops (s1 := ?_) (by simp only [r75_0, r75_1, r75_2, r75_3, r75_4, r75_5, r75_6, r75_7, r75_8, r75_9, r75_10, r75_11, r75_12]; simp [ho1]; exact rfl) ?_
    | refine W_tops (s1 := ?_) (by simp only [r75_0, r75_1, r75_2, r75_3, r75_4, r75_5, r75_6, r75_7, r75_8, r75_9, r75_10, r75_11, r75_12]; simp [ho1]; exact rfl) ?_
    | refine W_cond_t (by first | (simp [ho1]; done) | fail) ?_
    | refine W_cond_f (by first | (simp [ho1]; done) | fail) ?_
    | fail)
  refine W_loop' l75_0.eq_1 ?_
  repeat' (first
    | refine W_seq ?_
    | refine W_skip ?_
    | refine W_block ?_
    | refine W_ret ?_
    | refine W_exit ?_
    | refine W_ops (s1 := ?_) (by simp only [r75_0, r75_1, r75_2, r75_3, r75_4, r75_5, r75_6, r75_7, r75_8, r75_9, r75_10, r75_11, r75_12]; simp [w1, e1, e2', e3, e4, e5, appendV]; exact rfl) ?_
    | refine W_tops (s1 := ?_) (by simp only [r75_0, r75_1, r75_2, r75_3, r75_4, r75_5, r75_6, r75_7, r75_8, r75_9, r75_10, r75_11, r75_12]; simp [w1, e1, e2', e3, e4, e5, appendV]; exact rfl) ?_
    | refine W_cond_t (by first | (simp [w1, e1, e2', e3, e4, e5, appendV]; done) | fail) ?_
    | refine W_cond_f (by first | (simp [w1, e1, e2', e3, e4, e5, appendV]; done) | fail) ?_
    | fail)
  refine W_loop' l75_0.eq_1 ?_
  repeat' (first
    | refine W_seq ?_
    | refine W_skip ?_
    | refine W_block ?_
    | refine W_ret ?_
    | refine W_exit ?_
    | refine W_ops (s1 := ?_) (by simp only [r75_0, r75_1, r75_2, r75_3, r75_4, r75_5, r75_6, r75_7, r75_8, r75_9, r75_10, r75_11, r75_12]; simp [w1, e6]; exact rfl) ?_
    | refine W_tops (s1 := ?_) (by simp only [r75_0, r75_1, r75_2, r75_3, r75_4, r75_5, r75_6, r75_7, r75_8, r75_9, r75_10, r75_11, r75_12]; simp [w1, e6]; exact rfl) ?_
    | refine W_cond_t (by first | (simp [w1, e6]; done) | fail) ?_
    | refine W_cond_f (by first | (simp [w1, e6]; done) | fail) ?_
    | fail)
  exact ⟨.inr rfl, _, by simp [a75, resV, resV1]; exact rfl, by simp [a75, packV], by simp, (hx1.trans (.new _ _)).trans (.new _ _)⟩

end Go.Proofs.YtcngflmnbdcppaaGreat

/- The graph of one block: the order; what dominates in a tree of one. -/
namespace Go.Proofs.YtcngflmnbdcppaaGreat
open Go.LS Go.IntWalk

theorem new_objs_new' (h : LS.Heap) (o : AObj) : (h.new o).objs h.next = some o := by simp [Heap.new, upd]

theorem equal0_run (ta tb : Tag) (h : LS.Heap) : callD T 78 [.lst ta [], .lst tb []] h = some (.bool true, h) := by
  refine W_call t78 rfl rfl (by simp) ?_
  show W T c78 _ _
  unfold c78
  repeat' (first
    | refine W_seq ?_
    | refine W_skip ?_
    | refine W_block ?_
    | refine W_ret ?_
    | refine W_exit ?_
    | refine W_ops (s1 := ?_) (by simp only [r78_0, r78_1, r78_2, r78_3, r78_4, r78_5, r78_6, r78_7, r78_8, r78_9]; simp [a78]; exact rfl) ?_
    | refine W_tops (s1 := ?_) (by simp only [r78_0, r78_1, r78_2, r78_3, r78_4, r78_5, r78_6, r78_7, r78_8, r78_9]; simp [a78]; exact rfl) ?_
    | refine W_cond_t (by first | (simp [a78]; done) | fail) ?_
    | refine W_cond_f (by first | (simp [a78]; done) | fail) ?_
    | fail)
  refine W_loop' l78_0.eq_1 ?_
  repeat' (first
    | refine W_seq ?_
    | refine W_skip ?_
    | refine W_block ?_
    | refine W_ret ?_
    | refine W_exit ?_
    | refine W_ops (s1 := ?_) (by simp only [r78_0, r78_1, r78_2, r78_3, r78_4, r78_5, r78_6, r78_7, r78_8, r78_9]; simp; exact rfl) ?_
    | refine W_tops (s1 := ?_) (by simp only [r78_0, r78_1, r78_2, r78_3, r78_4, r78_5, r78_6, r78_7, r78_8, r78_9]; simp; exact rfl) ?_
    | refine W_cond_t (by first | (simp; done) | fail) ?_
    | refine W_cond_f (by first | (simp; done) | fail) ?_
    | fail)
  exact ⟨.inr rfl, [.bool true], by simp [a78, resV, resV1], by simp [a78, packV], rfl, .refl _⟩

theorem equalFunc_run (ta tb ta' tb' : Tag) (h : LS.Heap) : callD T 141 [.lst ta [[.lst ta' []]], .lst tb [[.lst tb' []]], .fn 78 [] []] h = some (.bool true, h) := by
  have e := equal0_run .ro .ro h
  refine W_call t141 rfl rfl (by simp) ?_
  show W T c141 _ _
  unfold c141
  repeat' (first
    | refine W_seq ?_
    | refine W_skip ?_
    | refine W_block ?_
    | refine W_ret ?_
    | refine W_exit ?_
    | refine W_ops (s1 := ?_) (by simp only [r141_0, r141_1, r141_2, r141_3, r141_4, r141_5, r141_6, r141_7, r141_8, r141_9, r141_10]; simp [a141]; exact rfl) ?_
    | refine W_tops (s1 := ?_) (by simp only [r141_0, r141_1, r141_2, r141_3, r141_4, r141_5, r141_6, r141_7, r141_8, r141_9, r141_10]; simp [a141]; exact rfl) ?_
    | refine W_cond_t (by first | (simp [a141]; done) | fail) ?_
    | refine W_cond_f (by first | (simp [a141]; done) | fail) ?_
    | fail)
  refine W_loop' l141_0.eq_1 ?_
  repeat' (first
    | refine W_seq ?_
    | refine W_skip ?_
    | refine W_block ?_
    | refine W_ret ?_
    | refine W_exit ?_
    | refine W_ops (s1 := ?_) (by simp only [r141_0, r141_1, r141_2, r141_3, r141_4, r141_5, r141_6, r141_7, r141_8, r141_9, r141_10]; simp [w1, e]; exact rfl) ?_
    | refine W_tops (s1 := ?_) (by simp only [r141_0, r141_1, r141_2, r141_3, r141_4, r141_5, r141_6, r141_7, r141_8, r141_9, r141_10]; simp [w1, e]; exact rfl) ?_
    | refine W_cond_t (by first | (simp [w1, e]; done) | fail) ?_
    | refine W_cond_f (by first | (simp [w1, e]; done) | fail) ?_
    | fail)
  refine W_loop' l141_0.eq_1 ?_
  repeat' (first
    | refine W_seq ?_
    | refine W_skip ?_
    | refine W_block ?_
    | refine W_ret ?_
    | refine W_exit ?_
    | refine W_ops (s1 := ?_) (by simp only [r141_0, r141_1, r141_2, r141_3, r141_4, r141_5, r141_6, r141_7, r141_8, r141_9, r141_10]; simp; exact rfl) ?_
    | refine W_tops (s1 := ?_) (by simp only [r141_0, r141_1, r141_2, r141_3, r141_4, r141_5, r141_6, r141_7, r141_8, r141_9, r141_10]; simp; exact rfl) ?_
    | refine W_cond_t (by first | (simp; done) | fail) ?_
    | refine W_cond_f (by first | (simp; done) | fail) ?_
    | fail)
  exact ⟨.inr rfl, [.bool true], by simp [a141, resV, resV1], by simp [a141, packV], rfl, .refl _⟩

/-- The graph of one block. -/
def oneG : List V := [.lst .ro [[.lst .nil []]], .lst .ro [[.lst .ro []]]]

theorem graphMay_run (h : LS.Heap) : callD T 127 [.agg oneG] h = some (.bool true, h) := by
  have e1 := make_run .ro h
  have e2 := equalFunc_run .ro .ro .ro .ro h
  refine W_call t127 rfl rfl (by simp) ?_
  show W T c127 _ _
  unfold c127
  unfold oneG
  repeat' (first
    | refine W_seq ?_
    | refine W_skip ?_
    | refine W_block ?_
    | refine W_ret ?_
    | refine W_exit ?_
    | refine W_ops (s1 := ?_) (by simp only [r127_0, r127_1, r127_2]; simp [a127, nextVer, e1, e2]; exact rfl) ?_
    | refine W_tops (s1 := ?_) (by simp only [r127_0, r127_1, r127_2]; simp [a127, nextVer, e1, e2]; exact rfl) ?_
    | refine W_cond_t (by first | (simp [a127, nextVer, e1, e2]; done) | fail) ?_
    | refine W_cond_f (by first | (simp [a127, nextVer, e1, e2]; done) | fail) ?_
    | fail)
  exact ⟨.inr rfl, [.bool true], by simp [a127, resV, resV1], by simp [a127, packV], rfl, .refl _⟩

theorem reverse_run (tg : Tag) (x : V) (h : LS.Heap) (hx : x.retag = x) : callD T 128 [.lst tg [[x]]] h = some (.tup [], h) := by
  refine W_callH t128 rfl rfl (by simp) ?_
  show W T c128 _ _
  unfold c128
  repeat' (first
    | refine W_seq ?_
    | refine W_skip ?_
    | refine W_block ?_
    | refine W_ret ?_
    | refine W_exit ?_
    | refine W_ops (s1 := ?_) (by simp only [r128_0, r128_1, r128_3, r128_2]; simp [a128, hx, w0, w1]; exact rfl) ?_
    | refine W_tops (s1 := ?_) (by simp only [r128_0, r128_1, r128_3, r128_2]; simp [a128, hx, w0, w1]; exact rfl) ?_
    | refine W_cond_t (by first | (simp [a128, hx, w0, w1]; done) | fail) ?_
    | refine W_cond_f (by first | (simp [a128, hx, w0, w1]; done) | fail) ?_
    | fail)
  refine W_loop' l128_0.eq_1 ?_
  repeat' (first
    | refine W_seq ?_
    | refine W_skip ?_
    | refine W_block ?_
    | refine W_ret ?_
    | refine W_exit ?_
    | refine W_ops (s1 := ?_) (by simp only [r128_0, r128_1, r128_3, r128_2]; simp [w0]; exact rfl) ?_
    | refine W_tops (s1 := ?_) (by simp only [r128_0, r128_1, r128_3, r128_2]; simp [w0]; exact rfl) ?_
    | refine W_cond_t (by first | (simp [w0]; done) | fail) ?_
    | refine W_cond_f (by first | (simp [w0]; done) | fail) ?_
    | fail)
  exact ⟨.inl rfl, [], by simp [a128, resV], by simp [a128, packV], rfl⟩

theorem order_run (h : LS.Heap) : callD T 107 [.agg oneG, .int .i64 0] h = some (.lst .ro [[.int .i64 0]], h) := by
  have e1 := graphMay_run h
  have e2 := fun (tg : Tag) (h1 : LS.Heap) => reverse_run tg (.int .i64 0) h1 rfl
  unfold oneG at e1 ⊢
  refine W_call t107 rfl rfl (by simp) ?_
  show W T c107 _ _
  unfold c107
  refine W_seq (W_ops (s1 := ?_) (by simp only [r107_0]; simp [a107, nextVer]; exact rfl) ?_)
  refine W_scope ?_
  repeat' (first
    | refine W_seq ?_
    | refine W_skip ?_
    | refine W_block ?_
    | refine W_ret ?_
    | refine W_exit ?_
    | refine W_ops (s1 := ?_) (by simp only [r107_0, r107_1, r107_2, r107_3, r107_4, r107_5, r107_6, r107_7, r107_8, r107_9, r107_10, r107_11, r107_12, r107_13, r107_14, r107_15, r107_16, r107_17, r107_18, r107_19]; simp [nextVer, e1, w0, w1]; exact rfl) ?_
    | refine W_tops (s1 := ?_) (by simp only [r107_0, r107_1, r107_2, r107_3, r107_4, r107_5, r107_6, r107_7, r107_8, r107_9, r107_10, r107_11, r107_12, r107_13, r107_14, r107_15, r107_16, r107_17, r107_18, r107_19]; simp [nextVer, e1, w0, w1]; exact rfl) ?_
    | refine W_cond_t (by first | (simp [nextVer, e1, w0, w1]; done) | fail) ?_
    | refine W_cond_f (by first | (simp [nextVer, e1, w0, w1]; done) | fail) ?_
    | fail)
  refine W_label ?_
  repeat' (first
    | refine W_seq ?_
    | refine W_skip ?_
    | refine W_block ?_
    | refine W_ret ?_
    | refine W_exit ?_
    | refine W_ops (s1 := ?_) (by simp only [r107_0, r107_1, r107_2, r107_3, r107_4, r107_5, r107_6, r107_7, r107_8, r107_9, r107_10, r107_11, r107_12, r107_13, r107_14, r107_15, r107_16, r107_17, r107_18, r107_19]; simp [w0]; exact rfl) ?_
    | refine W_tops (s1 := ?_) (by simp only [r107_0, r107_1, r107_2, r107_3, r107_4, r107_5, r107_6, r107_7, r107_8, r107_9, r107_10, r107_11, r107_12, r107_13, r107_14, r107_15, r107_16, r107_17, r107_18, r107_19]; simp [w0]; exact rfl) ?_
    | refine W_cond_t (by first | (simp [w0]; done) | fail) ?_
    | refine W_cond_f (by first | (simp [w0]; done) | fail) ?_
    | fail)
  refine W_loop' l107_0.eq_1 ?_
  repeat' (first
    | refine W_seq ?_
    | refine W_skip ?_
    | refine W_block ?_
    | refine W_ret ?_
    | refine W_exit ?_
    | refine W_ops (s1 := ?_) (by simp only [r107_0, r107_1, r107_2, r107_3, r107_4, r107_5, r107_6, r107_7, r107_8, r107_9, r107_10, r107_11, r107_12, r107_13, r107_14, r107_15, r107_16, r107_17, r107_18, r107_19]; simp [w0, w1, appendV, e2]; exact rfl) ?_
    | refine W_tops (s1 := ?_) (by simp only [r107_0, r107_1, r107_2, r107_3, r107_4, r107_5, r107_6, r107_7, r107_8, r107_9, r107_10, r107_11, r107_12, r107_13, r107_14, r107_15, r107_16, r107_17, r107_18, r107_19]; simp [w0, w1, appendV, e2]; exact rfl) ?_
    | refine W_cond_t (by first | (simp [w0, w1, appendV, e2]; done) | fail) ?_
    | refine W_cond_f (by first | (simp [w0, w1, appendV, e2]; done) | fail) ?_
    | fail)
  exact ⟨by simp, .inr rfl, [_], by simp [a107, resV, resV1]; exact rfl, by simp [a107, packV], by simp, .new _ _⟩

theorem depth_run (tg : Tag) (h : LS.Heap) : callD T 132 [.lst tg [[.int .i64 (-1)]], .int .i64 0] h = some (.int .i64 0, h) := by
  refine W_call t132 rfl rfl (by simp) ?_
  show W T c132 _ _
  unfold c132
  repeat' (first
    | refine W_seq ?_
    | refine W_skip ?_
    | refine W_block ?_
    | refine W_ret ?_
    | refine W_exit ?_
    | refine W_ops (s1 := ?_) (by simp only [r132_0, r132_1, r132_2, r132_3, r132_4, r132_5, r132_6, r132_7, r132_8, r132_9, r132_10]; simp [a132]; exact rfl) ?_
    | refine W_tops (s1 := ?_) (by simp only [r132_0, r132_1, r132_2, r132_3, r132_4, r132_5, r132_6, r132_7, r132_8, r132_9, r132_10]; simp [a132]; exact rfl) ?_
    | refine W_cond_t (by first | (simp [a132]; done) | fail) ?_
    | refine W_cond_f (by first | (simp [a132]; done) | fail) ?_
    | fail)
  refine W_loop' l132_0.eq_1 ?_
  repeat' (first
    | refine W_seq ?_
    | refine W_skip ?_
    | refine W_block ?_
    | refine W_ret ?_
    | refine W_exit ?_
    | refine W_ops (s1 := ?_) (by simp only [r132_0, r132_1, r132_2, r132_3, r132_4, r132_5, r132_6, r132_7, r132_8, r132_9, r132_10]; simp; exact rfl) ?_
    | refine W_tops (s1 := ?_) (by simp only [r132_0, r132_1, r132_2, r132_3, r132_4, r132_5, r132_6, r132_7, r132_8, r132_9, r132_10]; simp; exact rfl) ?_
    | refine W_cond_t (by first | (simp; done) | fail) ?_
    | refine W_cond_f (by first | (simp; done) | fail) ?_
    | fail)
  exact ⟨.inr rfl, [.int .i64 0], by simp [a132, resV, resV1], by simp [a132, packV], rfl, .refl _⟩

theorem right_run (tg : Tag) (h : LS.Heap) : callD T 130 [.lst tg [[.int .i64 (-1)]]] h = some (.bool true, h) := by
  have e := depth_run .ro h
  refine W_call t130 rfl rfl (by simp) ?_
  show W T c130 _ _
  unfold c130
  repeat' (first
    | refine W_seq ?_
    | refine W_skip ?_
    | refine W_block ?_
    | refine W_ret ?_
    | refine W_exit ?_
    | refine W_ops (s1 := ?_) (by simp only [r130_0, r130_1, r130_2, r130_3, r130_4, r130_5, r130_6, r130_7, r130_8, r130_9, r130_10]; simp [a130]; exact rfl) ?_
    | refine W_tops (s1 := ?_) (by simp only [r130_0, r130_1, r130_2, r130_3, r130_4, r130_5, r130_6, r130_7, r130_8, r130_9, r130_10]; simp [a130]; exact rfl) ?_
    | refine W_cond_t (by first | (simp [a130]; done) | fail) ?_
    | refine W_cond_f (by first | (simp [a130]; done) | fail) ?_
    | fail)
  refine W_loop' l130_0.eq_1 ?_
  repeat' (first
    | refine W_seq ?_
    | refine W_skip ?_
    | refine W_block ?_
    | refine W_ret ?_
    | refine W_exit ?_
    | refine W_ops (s1 := ?_) (by simp only [r130_0, r130_1, r130_2, r130_3, r130_4, r130_5, r130_6, r130_7, r130_8, r130_9, r130_10]; simp [w1, e]; exact rfl) ?_
    | refine W_tops (s1 := ?_) (by simp only [r130_0, r130_1, r130_2, r130_3, r130_4, r130_5, r130_6, r130_7, r130_8, r130_9, r130_10]; simp [w1, e]; exact rfl) ?_
    | refine W_cond_t (by first | (simp [w1, e]; done) | fail) ?_
    | refine W_cond_f (by first | (simp [w1, e]; done) | fail) ?_
    | fail)
  refine W_loop' l130_0.eq_1 ?_
  repeat' (first
    | refine W_seq ?_
    | refine W_skip ?_
    | refine W_block ?_
    | refine W_ret ?_
    | refine W_exit ?_
    | refine W_ops (s1 := ?_) (by simp only [r130_0, r130_1, r130_2, r130_3, r130_4, r130_5, r130_6, r130_7, r130_8, r130_9, r130_10]; simp; exact rfl) ?_
    | refine W_tops (s1 := ?_) (by simp only [r130_0, r130_1, r130_2, r130_3, r130_4, r130_5, r130_6, r130_7, r130_8, r130_9, r130_10]; simp; exact rfl) ?_
    | refine W_cond_t (by first | (simp; done) | fail) ?_
    | refine W_cond_f (by first | (simp; done) | fail) ?_
    | fail)
  exact ⟨.inr rfl, [.bool true], by simp [a130, resV, resV1], by simp [a130, packV], rfl, .refl _⟩

theorem domInP_run (tg : Tag) (id : Nat) (h : LS.Heap) (hid : h.objs id = some (.var [.lst tg [[.int .i64 (-1)]]])) : callD T 131 [.int .i64 0, .obj id 0] h = some (.bool false, h) := by
  have e := depth_run tg h
  refine W_call t131 rfl rfl (by simp) ?_
  show W T c131 _ _
  unfold c131
  repeat' (first
    | refine W_seq ?_
    | refine W_skip ?_
    | refine W_block ?_
    | refine W_ret ?_
    | refine W_exit ?_
    | refine W_ops (s1 := ?_) (by simp only [r131_0, r131_1]; simp [a131, hid, e]; exact rfl) ?_
    | refine W_tops (s1 := ?_) (by simp only [r131_0, r131_1]; simp [a131, hid, e]; exact rfl) ?_
    | refine W_cond_t (by first | (simp [a131, hid, e]; done) | fail) ?_
    | refine W_cond_f (by first | (simp [a131, hid, e]; done) | fail) ?_
    | fail)
  exact ⟨.inr rfl, [.bool false], by simp [a131, resV, resV1], by simp [a131, packV], rfl, .refl _⟩

theorem domIn_run (ta tb : Tag) (h : LS.Heap) : callD T 110 [.lst ta [[.int .i64 (-1)]], .lst tb [[.int .i64 0], [.int .i64 0]]] h = some (.bool true, h) := by
  have hn := new_objs_new' h (.var [.lst .ro [[.int .i64 (-1)]]])
  have e1 := right_run .ro (h.new (.var [.lst .ro [[.int .i64 (-1)]]]))
  have e2 := Contains_int (fun n : Int => [.int .i64 n]) [0, 0] 131 [.obj h.next 0] (fun _ => false) (h.new (.var [.lst .ro [[.int .i64 (-1)]]])) .ro (by simp) (fun _ => rfl) (by simp) rfl
    (fun x hx => by
      have : x = 0 := by simpa using hx
      subst this
      exact domInP_run .ro h.next _ hn)
  simp only [List.map_cons, List.map_nil, List.any_cons, List.any_nil, Bool.or_false] at e2
  refine W_call t110 rfl rfl (by simp) ?_
  show W T c110 _ _
  unfold c110
  repeat' (first
    | refine W_seq ?_
    | refine W_skip ?_
    | refine W_block ?_
    | refine W_ret ?_
    | refine W_exit ?_
    | refine W_ops (s1 := ?_) (by simp only [r110_0, r110_1]; simp [a110, hn, e1, e2]; exact rfl) ?_
    | refine W_tops (s1 := ?_) (by simp only [r110_0, r110_1]; simp [a110, hn, e1, e2]; exact rfl) ?_
    | refine W_cond_t (by first | (simp [a110, hn, e1, e2]; done) | fail) ?_
    | refine W_cond_f (by first | (simp [a110, hn, e1, e2]; done) | fail) ?_
    | fail)
  exact ⟨.inr rfl, [.bool true], by simp [a110, resV, resV1], by simp [a110, packV], rfl, .new _ _⟩

theorem meet_run (ta : Tag) (h : LS.Heap) : callD T 111 [.lst ta [[.int .i64 (-1)]], .int .i64 0, .int .i64 0] h = some (.int .i64 0, h) := by
  have e := domIn_run .ro .exact h
  refine W_call t111 rfl rfl (by simp) ?_
  show W T c111 _ _
  unfold c111
  repeat' (first
    | refine W_seq ?_
    | refine W_skip ?_
    | refine W_block ?_
    | refine W_ret ?_
    | refine W_exit ?_
    | refine W_ops (s1 := ?_) (by simp only [r111_0, r111_1, r111_2, r111_3, r111_4, r111_5, r111_6, r111_7]; simp [a111, e]; exact rfl) ?_
    | refine W_tops (s1 := ?_) (by simp only [r111_0, r111_1, r111_2, r111_3, r111_4, r111_5, r111_6, r111_7]; simp [a111, e]; exact rfl) ?_
    | refine W_cond_t (by first | (simp [a111, e]; done) | fail) ?_
    | refine W_cond_f (by first | (simp [a111, e]; done) | fail) ?_
    | fail)
  refine W_loop' l111_0.eq_1 ?_
  repeat' (first
    | refine W_seq ?_
    | refine W_skip ?_
    | refine W_block ?_
    | refine W_ret ?_
    | refine W_exit ?_
    | refine W_ops (s1 := ?_) (by simp only [r111_0, r111_1, r111_2, r111_3, r111_4, r111_5, r111_6, r111_7]; simp; exact rfl) ?_
    | refine W_tops (s1 := ?_) (by simp only [r111_0, r111_1, r111_2, r111_3, r111_4, r111_5, r111_6, r111_7]; simp; exact rfl) ?_
    | refine W_cond_t (by first | (simp; done) | fail) ?_
    | refine W_cond_f (by first | (simp; done) | fail) ?_
    | fail)
  exact ⟨.inr rfl, [.int .i64 0], by simp [a111, resV, resV1], by simp [a111, packV], rfl, .refl _⟩

theorem over_run (ta : Tag) (h : LS.Heap) : callD T 77 [.lst ta [[.int .i64 (-1)]], .int .i64 0, .int .i64 0] h = some (.bool true, h) := by
  have e1 := domIn_run .ro .exact h
  have e2 := meet_run .ro h
  refine W_call t77 rfl rfl (by simp) ?_
  show W T c77 _ _
  unfold c77
  repeat' (first
    | refine W_seq ?_
    | refine W_skip ?_
    | refine W_block ?_
    | refine W_ret ?_
    | refine W_exit ?_
    | refine W_ops (s1 := ?_) (by simp only [r77_0, r77_1]; simp [a77, e1, e2]; exact rfl) ?_
    | refine W_tops (s1 := ?_) (by simp only [r77_0, r77_1]; simp [a77, e1, e2]; exact rfl) ?_
    | refine W_cond_t (by first | (simp [a77, e1, e2]; done) | fail) ?_
    | refine W_cond_f (by first | (simp [a77, e1, e2]; done) | fail) ?_
    | fail)
  exact ⟨.inr rfl, [.bool true], by simp [a77, resV, resV1], by simp [a77, packV], rfl, .refl _⟩

end Go.Proofs.YtcngflmnbdcppaaGreat

/- What dominates in the graph of one block. -/
namespace Go.Proofs.YtcngflmnbdcppaaGreat
open Go.LS Go.IntWalk

theorem mul64_run (h : LS.Heap) : callD T 143 [.int .u64 1, .int .u64 1] h = some (.tup [.int .u64 0, .int .u64 1], h) := by
  refine W_call t143 rfl rfl (by simp) ?_
  show W T c143 _ _
  unfold c143
  repeat' (first
    | refine W_seq ?_
    | refine W_skip ?_
    | refine W_block ?_
    | refine W_ret ?_
    | refine W_exit ?_
    | refine W_ops (s1 := ?_) (by simp only [r143_0, r143_1, r143_2, r143_3, r143_4, r143_5, r143_6, r143_7, r143_8, r143_9, r143_10, r143_11]; simp [a143]; exact rfl) ?_
    | refine W_tops (s1 := ?_) (by simp only [r143_0, r143_1, r143_2, r143_3, r143_4, r143_5, r143_6, r143_7, r143_8, r143_9, r143_10, r143_11]; simp [a143]; exact rfl) ?_
    | refine W_cond_t (by first | (simp [a143]; done) | fail) ?_
    | refine W_cond_f (by first | (simp [a143]; done) | fail) ?_
    | fail)
  exact ⟨.inr rfl, [.int .u64 0, .int .u64 1], by simp [a143, resV, resV1]; first | done | decide, by simp [a143, packV], rfl, .refl _⟩

theorem mul_run (h : LS.Heap) : callD T 129 [.int .u64 1, .int .u64 1] h = some (.tup [.int .u64 0, .int .u64 1], h) := by
  have e := mul64_run h
  refine W_call t129 rfl rfl (by simp) ?_
  show W T c129 _ _
  unfold c129
  repeat' (first
    | refine W_seq ?_
    | refine W_skip ?_
    | refine W_block ?_
    | refine W_ret ?_
    | refine W_exit ?_
    | refine W_ops (s1 := ?_) (by simp only [r129_0, r129_1, r129_2, r129_3, r129_4]; simp [a129, e]; exact rfl) ?_
    | refine W_tops (s1 := ?_) (by simp only [r129_0, r129_1, r129_2, r129_3, r129_4]; simp [a129, e]; exact rfl) ?_
    | refine W_cond_t (by first | (simp [a129, e]; done) | fail) ?_
    | refine W_cond_f (by first | (simp [a129, e]; done) | fail) ?_
    | fail)
  exact ⟨.inr rfl, [.int .u64 0, .int .u64 1], by simp [a129, resV, resV1], by simp [a129, packV], rfl, .refl _⟩

theorem repeat1_run (tg : Tag) (n : Int) (h : LS.Heap) : callD T 108 [.lst tg [[.int .i64 n]], .int .i64 1] h = some (.row h.next 0 1 1, h.new (.row [[.int .i64 n]])) := by
  have e := fun h1 => mul_run h1
  have w1 : IntKind.u64.wrap 1 = 1 := rfl
  have w2 : IntKind.i64.wrap 1 = 1 := rfl
  refine W_callH t108 rfl rfl (by simp) ?_
  show W T c108 _ _
  unfold c108
  repeat' (first
    | refine W_seq ?_
    | refine W_skip ?_
    | refine W_block ?_
    | refine W_ret ?_
    | refine W_exit ?_
    | refine W_ops (s1 := ?_) (by simp only [r108_0, r108_1, r108_2, r108_3, r108_4, r108_5, r108_6, r108_7, r108_8, r108_9, r108_10]; simp [a108, e, w1, w2]; exact rfl) ?_
    | refine W_tops (s1 := ?_) (by simp only [r108_0, r108_1, r108_2, r108_3, r108_4, r108_5, r108_6, r108_7, r108_8, r108_9, r108_10]; simp [a108, e, w1, w2]; exact rfl) ?_
    | refine W_cond_t (by first | (simp [a108, e, w1, w2]; done) | fail) ?_
    | refine W_cond_f (by first | (simp [a108, e, w1, w2]; done) | fail) ?_
    | fail)
  have en : ∀ o, (h.new o).objs h.next = some o := fun o => new_objs_new' h o
  have hs : ∀ o o', (h.new o).set h.next o' = h.new o' := fun o o' => by
    simp only [Heap.set, Heap.new]
    congr 1
    funext i
    simp only [upd]
    split <;> rfl
  refine (W_ops (s1 := ?_) (by simp only [r108_7]; simp [en, hs]; exact rfl) ?_)
  refine W_seq (W_block (W_loop' l108_0.eq_1 ?_))
  repeat' (first
    | refine W_seq ?_
    | refine W_skip ?_
    | refine W_block ?_
    | refine W_ret ?_
    | refine W_exit ?_
    | refine W_ops (s1 := ?_) (by simp only [r108_0, r108_1, r108_2, r108_3, r108_4, r108_5, r108_6, r108_7, r108_8, r108_9, r108_10]; simp; exact rfl) ?_
    | refine W_tops (s1 := ?_) (by simp only [r108_0, r108_1, r108_2, r108_3, r108_4, r108_5, r108_6, r108_7, r108_8, r108_9, r108_10]; simp; exact rfl) ?_
    | refine W_cond_t (by first | (simp; done) | fail) ?_
    | refine W_cond_f (by first | (simp; done) | fail) ?_
    | fail)
  exact ⟨.inr rfl, [.row h.next 0 1 1], by simp [a108, resV, resV1], by simp [a108, packV], rfl⟩

end Go.Proofs.YtcngflmnbdcppaaGreat

/- What dominates in the graph of one block: two new rows in either order. Printed by gen/tree.py. -/
namespace Go.Proofs.YtcngflmnbdcppaaGreat
open Go.LS Go.IntWalk

def tA (t : Nat → V) (h : LS.Heap) : Nat → V := upd (upd (upd (upd (upd (upd (upd t 25 (.lst .exact [[.int .i64 (-2)]])) 26 (.int .i64 1)) 27 (.row h.next 0 1 1)) 28 (.int .i64 1)) 29 (.row (h.next + 1) 0 1 1)) 7 (.row h.next 0 1 1)) 8 (.row (h.next + 1) 0 1 1)
def tB (t : Nat → V) (h : LS.Heap) : Nat → V := upd (upd (upd (upd (upd (upd (upd t 25 (.lst .exact [[.int .i64 (-2)]])) 26 (.int .i64 1)) 27 (.row (h.next + 1) 0 1 1)) 28 (.int .i64 1)) 29 (.row h.next 0 1 1)) 7 (.row (h.next + 1) 0 1 1)) 8 (.row h.next 0 1 1)
def hA (h : LS.Heap) : LS.Heap := (h.new (.row [[.int .i64 (-2)]])).new (.row [[.int .i64 0]])
def hB (h : LS.Heap) : LS.Heap := (h.new (.row [[.int .i64 0]])).new (.row [[.int .i64 (-2)]])

section
variable {t : Nat → V} {loc : LS.Loc} {h : LS.Heap} {s2 : St}

theorem tree_same (ht : ∀ k, s2.t k = tA t h k) (hl : s2.loc = loc) (hh : s2.h = hA h) : EndsAs ⟨t, loc, h⟩ ⟨tA t h, loc, hA h⟩ s2 := by
  obtain ⟨t2, l2, h2⟩ := s2
  obtain rfl : t2 = tA t h := funext ht
  subst hl hh
  exact .inl rfl

theorem tree_twin (ht : ∀ k, s2.t k = tB t h k) (hl : s2.loc = loc) (hh : s2.h = hB h) : EndsAs ⟨t, loc, h⟩ ⟨tA t h, loc, hA h⟩ s2 := by
  obtain ⟨t2, l2, h2⟩ := s2
  obtain rfl : t2 = tB t h := funext ht
  subst hl hh
  refine .inr ⟨h.next, h.next + 1, Nat.le_refl _, Nat.le_succ _, ?_, ?_, rfl, fun id => ?_, fun id hid => ?_, fun id ob hid hid2 ho => ?_, rfl, rfl, fun k => ?_⟩
  · simp [hB, Heap.new]; omega
  · simp [hB, Heap.new]
  · simp only [hA, hB, Heap.new, upd, swp]
    by_cases h1 : id = h.next
    · subst h1; simp
    · by_cases h2 : id = h.next + 1
      · subst h2; simp
      · simp [h1, h2]
  · have h1 : id ≠ h.next := by simp only at hid; omega
    have h2 : id ≠ h.next + 1 := by simp only at hid; omega
    simp [hB, Heap.new, upd, h1, h2]
  · simp only [hB, Heap.new, upd] at ho
    by_cases h2 : id = h.next + 1
    · rw [if_pos h2] at ho; injection ho with ho; subst ho; rfl
    · rw [if_neg h2] at ho
      by_cases h1 : id = h.next
      · rw [if_pos h1] at ho; injection ho with ho; subst ho; rfl
      · rw [if_neg h1] at ho
        simp only [hB, Heap.new] at hid2
        simp only at hid
        omega
  · by_cases h25 : k = 25
    · subst h25; exact .inl ⟨rfl, .inr rfl⟩
    by_cases h26 : k = 26
    · subst h26; exact .inl ⟨rfl, .inr rfl⟩
    by_cases h27 : k = 27
    · subst h27; exact .inr ⟨0, 1, 1, .inr ⟨rfl, rfl⟩⟩
    by_cases h28 : k = 28
    · subst h28; exact .inl ⟨rfl, .inr rfl⟩
    by_cases h29 : k = 29
    · subst h29; exact .inr ⟨0, 1, 1, .inl ⟨rfl, rfl⟩⟩
    by_cases h7 : k = 7
    · subst h7; exact .inr ⟨0, 1, 1, .inr ⟨rfl, rfl⟩⟩
    by_cases h8 : k = 8
    · subst h8; exact .inr ⟨0, 1, 1, .inl ⟨rfl, rfl⟩⟩
    refine .inl ⟨?_, .inl ?_⟩
    · simp [tA, tB, upd, h25, h26, h27, h28, h29, h7, h8]
    · simp [tA, upd, h25, h26, h27, h28, h29, h7, h8]
end

theorem keys7 {f g : Nat → V} (h25 : f 25 = g 25) (h26 : f 26 = g 26) (h27 : f 27 = g 27) (h28 : f 28 = g 28) (h29 : f 29 = g 29) (h7 : f 7 = g 7) (h8 : f 8 = g 8)
    (ho : ∀ k, k ≠ 25 → k ≠ 26 → k ≠ 27 → k ≠ 28 → k ≠ 29 → k ≠ 7 → k ≠ 8 → f k = g k) : ∀ k, f k = g k := fun k => by
  by_cases a : k = 25
  · subst a; exact h25
  by_cases b : k = 26
  · subst b; exact h26
  by_cases c : k = 27
  · subst c; exact h27
  by_cases d : k = 28
  · subst d; exact h28
  by_cases e : k = 29
  · subst e; exact h29
  by_cases f' : k = 7
  · subst f'; exact h7
  by_cases g' : k = 8
  · subst g'; exact h8
  exact ho k a b c d e f' g'

theorem tree_region {t : Nat → V} {loc : LS.Loc} {h : LS.Heap} (t6 : t 6 = .int .i64 1) : runAny (callD T) r76_5 p76_5 ⟨t, loc, h⟩ = some ⟨tA t h, loc, hA h⟩ := by
  have e2 := fun h1 => repeat1_run .exact (-2) h1
  have w1 : IntKind.i64.wrap 1 = 1 := rfl
  refine runAny_iff.2 ⟨by simp only [r76_5]; simp [t6, e2, w1]; exact ⟨rfl, rfl⟩, ?_⟩
  show AllOrdP _ _ _ 7 _ _
  unfold p76_5
  refine ⟨fun hr => absurd hr (by decide), fun i hi => ?_⟩
  have hi : i ∈ [0, 1, 3] := hi
  simp only [List.mem_cons, List.not_mem_nil, or_false] at hi
  rcases hi with rfl | rfl | rfl
  · skip
    refine ⟨_, by simp [stepAt, r76_5, t6, e2, w1]; exact rfl, ?_⟩
    refine ⟨fun hr => absurd hr (by decide), fun i hi => ?_⟩
    have hi : i ∈ [1, 3] := hi
    simp only [List.mem_cons, List.not_mem_nil, or_false] at hi
    rcases hi with rfl | rfl
    · skip
      refine ⟨_, by simp [stepAt, r76_5, t6, e2, w1]; exact rfl, ?_⟩
      refine ⟨fun hr => absurd hr (by decide), fun i hi => ?_⟩
      have hi : i ∈ [2, 3] := hi
      simp only [List.mem_cons, List.not_mem_nil, or_false] at hi
      rcases hi with rfl | rfl
      · skip
        refine ⟨_, by simp [stepAt, r76_5, t6, e2, w1]; exact rfl, ?_⟩
        refine ⟨fun hr => absurd hr (by decide), fun i hi => ?_⟩
        have hi : i ∈ [3, 5] := hi
        simp only [List.mem_cons, List.not_mem_nil, or_false] at hi
        rcases hi with rfl | rfl
        · skip
          refine ⟨_, by simp [stepAt, r76_5, t6, e2, w1]; exact rfl, ?_⟩
          refine ⟨fun hr => absurd hr (by decide), fun i hi => ?_⟩
          have hi : i ∈ [4, 5] := hi
          simp only [List.mem_cons, List.not_mem_nil, or_false] at hi
          rcases hi with rfl | rfl
          · skip
            refine ⟨_, by simp [stepAt, r76_5, t6, e2, w1]; exact rfl, ?_⟩
            refine ⟨fun hr => absurd hr (by decide), fun i hi => ?_⟩
            have hi : i ∈ [5] := hi
            simp only [List.mem_cons, List.not_mem_nil, or_false] at hi
            subst hi
            refine ⟨_, by simp [stepAt, r76_5, t6, e2, w1]; exact rfl, ?_⟩
            refine ⟨fun hr => absurd hr (by decide), fun i hi => ?_⟩
            have hi : i ∈ [6] := hi
            simp only [List.mem_cons, List.not_mem_nil, or_false] at hi
            subst hi
            refine ⟨_, by simp [stepAt, r76_5, t6, e2, w1]; exact rfl, ?_⟩
            exact ⟨rfl, tree_same (keys7 rfl rfl rfl rfl rfl rfl rfl (fun k a b c d e f g => by simp [tA, tB, upd, a, b, c, d, e, f, g])) rfl rfl⟩
          · skip
            refine ⟨_, by simp [stepAt, r76_5, t6, e2, w1]; exact rfl, ?_⟩
            refine ⟨fun hr => absurd hr (by decide), fun i hi => ?_⟩
            have hi : i ∈ [4] := hi
            simp only [List.mem_cons, List.not_mem_nil, or_false] at hi
            subst hi
            refine ⟨_, by simp [stepAt, r76_5, t6, e2, w1]; exact rfl, ?_⟩
            refine ⟨fun hr => absurd hr (by decide), fun i hi => ?_⟩
            have hi : i ∈ [6] := hi
            simp only [List.mem_cons, List.not_mem_nil, or_false] at hi
            subst hi
            refine ⟨_, by simp [stepAt, r76_5, t6, e2, w1]; exact rfl, ?_⟩
            exact ⟨rfl, tree_same (keys7 rfl rfl rfl rfl rfl rfl rfl (fun k a b c d e f g => by simp [tA, tB, upd, a, b, c, d, e, f, g])) rfl rfl⟩
        · skip
          refine ⟨_, by simp [stepAt, r76_5, t6, e2, w1]; exact rfl, ?_⟩
          refine ⟨fun hr => absurd hr (by decide), fun i hi => ?_⟩
          have hi : i ∈ [3] := hi
          simp only [List.mem_cons, List.not_mem_nil, or_false] at hi
          subst hi
          refine ⟨_, by simp [stepAt, r76_5, t6, e2, w1]; exact rfl, ?_⟩
          refine ⟨fun hr => absurd hr (by decide), fun i hi => ?_⟩
          have hi : i ∈ [4] := hi
          simp only [List.mem_cons, List.not_mem_nil, or_false] at hi
          subst hi
          refine ⟨_, by simp [stepAt, r76_5, t6, e2, w1]; exact rfl, ?_⟩
          refine ⟨fun hr => absurd hr (by decide), fun i hi => ?_⟩
          have hi : i ∈ [6] := hi
          simp only [List.mem_cons, List.not_mem_nil, or_false] at hi
          subst hi
          refine ⟨_, by simp [stepAt, r76_5, t6, e2, w1]; exact rfl, ?_⟩
          exact ⟨rfl, tree_same (keys7 rfl rfl rfl rfl rfl rfl rfl (fun k a b c d e f g => by simp [tA, tB, upd, a, b, c, d, e, f, g])) rfl rfl⟩
      · skip
        refine ⟨_, by simp [stepAt, r76_5, t6, e2, w1]; exact rfl, ?_⟩
        refine ⟨fun hr => absurd hr (by decide), fun i hi => ?_⟩
        have hi : i ∈ [2, 4] := hi
        simp only [List.mem_cons, List.not_mem_nil, or_false] at hi
        rcases hi with rfl | rfl
        · skip
          refine ⟨_, by simp [stepAt, r76_5, t6, e2, w1]; exact rfl, ?_⟩
          refine ⟨fun hr => absurd hr (by decide), fun i hi => ?_⟩
          have hi : i ∈ [4, 5] := hi
          simp only [List.mem_cons, List.not_mem_nil, or_false] at hi
          rcases hi with rfl | rfl
          · skip
            refine ⟨_, by simp [stepAt, r76_5, t6, e2, w1]; exact rfl, ?_⟩
            refine ⟨fun hr => absurd hr (by decide), fun i hi => ?_⟩
            have hi : i ∈ [5] := hi
            simp only [List.mem_cons, List.not_mem_nil, or_false] at hi
            subst hi
            refine ⟨_, by simp [stepAt, r76_5, t6, e2, w1]; exact rfl, ?_⟩
            refine ⟨fun hr => absurd hr (by decide), fun i hi => ?_⟩
            have hi : i ∈ [6] := hi
            simp only [List.mem_cons, List.not_mem_nil, or_false] at hi
            subst hi
            refine ⟨_, by simp [stepAt, r76_5, t6, e2, w1]; exact rfl, ?_⟩
            exact ⟨rfl, tree_same (keys7 rfl rfl rfl rfl rfl rfl rfl (fun k a b c d e f g => by simp [tA, tB, upd, a, b, c, d, e, f, g])) rfl rfl⟩
          · skip
            refine ⟨_, by simp [stepAt, r76_5, t6, e2, w1]; exact rfl, ?_⟩
            refine ⟨fun hr => absurd hr (by decide), fun i hi => ?_⟩
            have hi : i ∈ [4] := hi
            simp only [List.mem_cons, List.not_mem_nil, or_false] at hi
            subst hi
            refine ⟨_, by simp [stepAt, r76_5, t6, e2, w1]; exact rfl, ?_⟩
            refine ⟨fun hr => absurd hr (by decide), fun i hi => ?_⟩
            have hi : i ∈ [6] := hi
            simp only [List.mem_cons, List.not_mem_nil, or_false] at hi
            subst hi
            refine ⟨_, by simp [stepAt, r76_5, t6, e2, w1]; exact rfl, ?_⟩
            exact ⟨rfl, tree_same (keys7 rfl rfl rfl rfl rfl rfl rfl (fun k a b c d e f g => by simp [tA, tB, upd, a, b, c, d, e, f, g])) rfl rfl⟩
        · skip
          refine ⟨_, by simp [stepAt, r76_5, t6, e2, w1]; exact rfl, ?_⟩
          refine ⟨fun hr => absurd hr (by decide), fun i hi => ?_⟩
          have hi : i ∈ [2] := hi
          simp only [List.mem_cons, List.not_mem_nil, or_false] at hi
          subst hi
          refine ⟨_, by simp [stepAt, r76_5, t6, e2, w1]; exact rfl, ?_⟩
          refine ⟨fun hr => absurd hr (by decide), fun i hi => ?_⟩
          have hi : i ∈ [5] := hi
          simp only [List.mem_cons, List.not_mem_nil, or_false] at hi
          subst hi
          refine ⟨_, by simp [stepAt, r76_5, t6, e2, w1]; exact rfl, ?_⟩
          refine ⟨fun hr => absurd hr (by decide), fun i hi => ?_⟩
          have hi : i ∈ [6] := hi
          simp only [List.mem_cons, List.not_mem_nil, or_false] at hi
          subst hi
          refine ⟨_, by simp [stepAt, r76_5, t6, e2, w1]; exact rfl, ?_⟩
          exact ⟨rfl, tree_twin (keys7 rfl rfl rfl rfl rfl rfl rfl (fun k a b c d e f g => by simp [tA, tB, upd, a, b, c, d, e, f, g])) rfl rfl⟩
    · skip
      refine ⟨_, by simp [stepAt, r76_5, t6, e2, w1]; exact rfl, ?_⟩
      refine ⟨fun hr => absurd hr (by decide), fun i hi => ?_⟩
      have hi : i ∈ [1, 4] := hi
      simp only [List.mem_cons, List.not_mem_nil, or_false] at hi
      rcases hi with rfl | rfl
      · skip
        refine ⟨_, by simp [stepAt, r76_5, t6, e2, w1]; exact rfl, ?_⟩
        refine ⟨fun hr => absurd hr (by decide), fun i hi => ?_⟩
        have hi : i ∈ [2, 4] := hi
        simp only [List.mem_cons, List.not_mem_nil, or_false] at hi
        rcases hi with rfl | rfl
        · skip
          refine ⟨_, by simp [stepAt, r76_5, t6, e2, w1]; exact rfl, ?_⟩
          refine ⟨fun hr => absurd hr (by decide), fun i hi => ?_⟩
          have hi : i ∈ [4, 5] := hi
          simp only [List.mem_cons, List.not_mem_nil, or_false] at hi
          rcases hi with rfl | rfl
          · skip
            refine ⟨_, by simp [stepAt, r76_5, t6, e2, w1]; exact rfl, ?_⟩
            refine ⟨fun hr => absurd hr (by decide), fun i hi => ?_⟩
            have hi : i ∈ [5] := hi
            simp only [List.mem_cons, List.not_mem_nil, or_false] at hi
            subst hi
            refine ⟨_, by simp [stepAt, r76_5, t6, e2, w1]; exact rfl, ?_⟩
            refine ⟨fun hr => absurd hr (by decide), fun i hi => ?_⟩
            have hi : i ∈ [6] := hi
            simp only [List.mem_cons, List.not_mem_nil, or_false] at hi
            subst hi
            refine ⟨_, by simp [stepAt, r76_5, t6, e2, w1]; exact rfl, ?_⟩
            exact ⟨rfl, tree_same (keys7 rfl rfl rfl rfl rfl rfl rfl (fun k a b c d e f g => by simp [tA, tB, upd, a, b, c, d, e, f, g])) rfl rfl⟩
          · skip
            refine ⟨_, by simp [stepAt, r76_5, t6, e2, w1]; exact rfl, ?_⟩
            refine ⟨fun hr => absurd hr (by decide), fun i hi => ?_⟩
            have hi : i ∈ [4] := hi
            simp only [List.mem_cons, List.not_mem_nil, or_false] at hi
            subst hi
            refine ⟨_, by simp [stepAt, r76_5, t6, e2, w1]; exact rfl, ?_⟩
            refine ⟨fun hr => absurd hr (by decide), fun i hi => ?_⟩
            have hi : i ∈ [6] := hi
            simp only [List.mem_cons, List.not_mem_nil, or_false] at hi
            subst hi
            refine ⟨_, by simp [stepAt, r76_5, t6, e2, w1]; exact rfl, ?_⟩
            exact ⟨rfl, tree_same (keys7 rfl rfl rfl rfl rfl rfl rfl (fun k a b c d e f g => by simp [tA, tB, upd, a, b, c, d, e, f, g])) rfl rfl⟩
        · skip
          refine ⟨_, by simp [stepAt, r76_5, t6, e2, w1]; exact rfl, ?_⟩
          refine ⟨fun hr => absurd hr (by decide), fun i hi => ?_⟩
          have hi : i ∈ [2] := hi
          simp only [List.mem_cons, List.not_mem_nil, or_false] at hi
          subst hi
          refine ⟨_, by simp [stepAt, r76_5, t6, e2, w1]; exact rfl, ?_⟩
          refine ⟨fun hr => absurd hr (by decide), fun i hi => ?_⟩
          have hi : i ∈ [5] := hi
          simp only [List.mem_cons, List.not_mem_nil, or_false] at hi
          subst hi
          refine ⟨_, by simp [stepAt, r76_5, t6, e2, w1]; exact rfl, ?_⟩
          refine ⟨fun hr => absurd hr (by decide), fun i hi => ?_⟩
          have hi : i ∈ [6] := hi
          simp only [List.mem_cons, List.not_mem_nil, or_false] at hi
          subst hi
          refine ⟨_, by simp [stepAt, r76_5, t6, e2, w1]; exact rfl, ?_⟩
          exact ⟨rfl, tree_twin (keys7 rfl rfl rfl rfl rfl rfl rfl (fun k a b c d e f g => by simp [tA, tB, upd, a, b, c, d, e, f, g])) rfl rfl⟩
      · skip
        refine ⟨_, by simp [stepAt, r76_5, t6, e2, w1]; exact rfl, ?_⟩
        refine ⟨fun hr => absurd hr (by decide), fun i hi => ?_⟩
        have hi : i ∈ [1] := hi
        simp only [List.mem_cons, List.not_mem_nil, or_false] at hi
        subst hi
        refine ⟨_, by simp [stepAt, r76_5, t6, e2, w1]; exact rfl, ?_⟩
        refine ⟨fun hr => absurd hr (by decide), fun i hi => ?_⟩
        have hi : i ∈ [2] := hi
        simp only [List.mem_cons, List.not_mem_nil, or_false] at hi
        subst hi
        refine ⟨_, by simp [stepAt, r76_5, t6, e2, w1]; exact rfl, ?_⟩
        refine ⟨fun hr => absurd hr (by decide), fun i hi => ?_⟩
        have hi : i ∈ [5] := hi
        simp only [List.mem_cons, List.not_mem_nil, or_false] at hi
        subst hi
        refine ⟨_, by simp [stepAt, r76_5, t6, e2, w1]; exact rfl, ?_⟩
        refine ⟨fun hr => absurd hr (by decide), fun i hi => ?_⟩
        have hi : i ∈ [6] := hi
        simp only [List.mem_cons, List.not_mem_nil, or_false] at hi
        subst hi
        refine ⟨_, by simp [stepAt, r76_5, t6, e2, w1]; exact rfl, ?_⟩
        exact ⟨rfl, tree_twin (keys7 rfl rfl rfl rfl rfl rfl rfl (fun k a b c d e f g => by simp [tA, tB, upd, a, b, c, d, e, f, g])) rfl rfl⟩
  · skip
    refine ⟨_, by simp [stepAt, r76_5, t6, e2, w1]; exact rfl, ?_⟩
    refine ⟨fun hr => absurd hr (by decide), fun i hi => ?_⟩
    have hi : i ∈ [0, 3] := hi
    simp only [List.mem_cons, List.not_mem_nil, or_false] at hi
    rcases hi with rfl | rfl
    · skip
      refine ⟨_, by simp [stepAt, r76_5, t6, e2, w1]; exact rfl, ?_⟩
      refine ⟨fun hr => absurd hr (by decide), fun i hi => ?_⟩
      have hi : i ∈ [2, 3] := hi
      simp only [List.mem_cons, List.not_mem_nil, or_false] at hi
      rcases hi with rfl | rfl
      · skip
        refine ⟨_, by simp [stepAt, r76_5, t6, e2, w1]; exact rfl, ?_⟩
        refine ⟨fun hr => absurd hr (by decide), fun i hi => ?_⟩
        have hi : i ∈ [3, 5] := hi
        simp only [List.mem_cons, List.not_mem_nil, or_false] at hi
        rcases hi with rfl | rfl
        · skip
          refine ⟨_, by simp [stepAt, r76_5, t6, e2, w1]; exact rfl, ?_⟩
          refine ⟨fun hr => absurd hr (by decide), fun i hi => ?_⟩
          have hi : i ∈ [4, 5] := hi
          simp only [List.mem_cons, List.not_mem_nil, or_false] at hi
          rcases hi with rfl | rfl
          · skip
            refine ⟨_, by simp [stepAt, r76_5, t6, e2, w1]; exact rfl, ?_⟩
            refine ⟨fun hr => absurd hr (by decide), fun i hi => ?_⟩
            have hi : i ∈ [5] := hi
            simp only [List.mem_cons, List.not_mem_nil, or_false] at hi
            subst hi
            refine ⟨_, by simp [stepAt, r76_5, t6, e2, w1]; exact rfl, ?_⟩
            refine ⟨fun hr => absurd hr (by decide), fun i hi => ?_⟩
            have hi : i ∈ [6] := hi
            simp only [List.mem_cons, List.not_mem_nil, or_false] at hi
            subst hi
            refine ⟨_, by simp [stepAt, r76_5, t6, e2, w1]; exact rfl, ?_⟩
            exact ⟨rfl, tree_same (keys7 rfl rfl rfl rfl rfl rfl rfl (fun k a b c d e f g => by simp [tA, tB, upd, a, b, c, d, e, f, g])) rfl rfl⟩
          · skip
            refine ⟨_, by simp [stepAt, r76_5, t6, e2, w1]; exact rfl, ?_⟩
            refine ⟨fun hr => absurd hr (by decide), fun i hi => ?_⟩
            have hi : i ∈ [4] := hi
            simp only [List.mem_cons, List.not_mem_nil, or_false] at hi
            subst hi
            refine ⟨_, by simp [stepAt, r76_5, t6, e2, w1]; exact rfl, ?_⟩
            refine ⟨fun hr => absurd hr (by decide), fun i hi => ?_⟩
            have hi : i ∈ [6] := hi
            simp only [List.mem_cons, List.not_mem_nil, or_false] at hi
            subst hi
            refine ⟨_, by simp [stepAt, r76_5, t6, e2, w1]; exact rfl, ?_⟩
            exact ⟨rfl, tree_same (keys7 rfl rfl rfl rfl rfl rfl rfl (fun k a b c d e f g => by simp [tA, tB, upd, a, b, c, d, e, f, g])) rfl rfl⟩
        · skip
          refine ⟨_, by simp [stepAt, r76_5, t6, e2, w1]; exact rfl, ?_⟩
          refine ⟨fun hr => absurd hr (by decide), fun i hi => ?_⟩
          have hi : i ∈ [3] := hi
          simp only [List.mem_cons, List.not_mem_nil, or_false] at hi
          subst hi
          refine ⟨_, by simp [stepAt, r76_5, t6, e2, w1]; exact rfl, ?_⟩
          refine ⟨fun hr => absurd hr (by decide), fun i hi => ?_⟩
          have hi : i ∈ [4] := hi
          simp only [List.mem_cons, List.not_mem_nil, or_false] at hi
          subst hi
          refine ⟨_, by simp [stepAt, r76_5, t6, e2, w1]; exact rfl, ?_⟩
          refine ⟨fun hr => absurd hr (by decide), fun i hi => ?_⟩
          have hi : i ∈ [6] := hi
          simp only [List.mem_cons, List.not_mem_nil, or_false] at hi
          subst hi
          refine ⟨_, by simp [stepAt, r76_5, t6, e2, w1]; exact rfl, ?_⟩
          exact ⟨rfl, tree_same (keys7 rfl rfl rfl rfl rfl rfl rfl (fun k a b c d e f g => by simp [tA, tB, upd, a, b, c, d, e, f, g])) rfl rfl⟩
      · skip
        refine ⟨_, by simp [stepAt, r76_5, t6, e2, w1]; exact rfl, ?_⟩
        refine ⟨fun hr => absurd hr (by decide), fun i hi => ?_⟩
        have hi : i ∈ [2, 4] := hi
        simp only [List.mem_cons, List.not_mem_nil, or_false] at hi
        rcases hi with rfl | rfl
        · skip
          refine ⟨_, by simp [stepAt, r76_5, t6, e2, w1]; exact rfl, ?_⟩
          refine ⟨fun hr => absurd hr (by decide), fun i hi => ?_⟩
          have hi : i ∈ [4, 5] := hi
          simp only [List.mem_cons, List.not_mem_nil, or_false] at hi
          rcases hi with rfl | rfl
          · skip
            refine ⟨_, by simp [stepAt, r76_5, t6, e2, w1]; exact rfl, ?_⟩
            refine ⟨fun hr => absurd hr (by decide), fun i hi => ?_⟩
            have hi : i ∈ [5] := hi
            simp only [List.mem_cons, List.not_mem_nil, or_false] at hi
            subst hi
            refine ⟨_, by simp [stepAt, r76_5, t6, e2, w1]; exact rfl, ?_⟩
            refine ⟨fun hr => absurd hr (by decide), fun i hi => ?_⟩
            have hi : i ∈ [6] := hi
            simp only [List.mem_cons, List.not_mem_nil, or_false] at hi
            subst hi
            refine ⟨_, by simp [stepAt, r76_5, t6, e2, w1]; exact rfl, ?_⟩
            exact ⟨rfl, tree_same (keys7 rfl rfl rfl rfl rfl rfl rfl (fun k a b c d e f g => by simp [tA, tB, upd, a, b, c, d, e, f, g])) rfl rfl⟩
          · skip
            refine ⟨_, by simp [stepAt, r76_5, t6, e2, w1]; exact rfl, ?_⟩
            refine ⟨fun hr => absurd hr (by decide), fun i hi => ?_⟩
            have hi : i ∈ [4] := hi
            simp only [List.mem_cons, List.not_mem_nil, or_false] at hi
            subst hi
            refine ⟨_, by simp [stepAt, r76_5, t6, e2, w1]; exact rfl, ?_⟩
            refine ⟨fun hr => absurd hr (by decide), fun i hi => ?_⟩
            have hi : i ∈ [6] := hi
            simp only [List.mem_cons, List.not_mem_nil, or_false] at hi
            subst hi
            refine ⟨_, by simp [stepAt, r76_5, t6, e2, w1]; exact rfl, ?_⟩
            exact ⟨rfl, tree_same (keys7 rfl rfl rfl rfl rfl rfl rfl (fun k a b c d e f g => by simp [tA, tB, upd, a, b, c, d, e, f, g])) rfl rfl⟩
        · skip
          refine ⟨_, by simp [stepAt, r76_5, t6, e2, w1]; exact rfl, ?_⟩
          refine ⟨fun hr => absurd hr (by decide), fun i hi => ?_⟩
          have hi : i ∈ [2] := hi
          simp only [List.mem_cons, List.not_mem_nil, or_false] at hi
          subst hi
          refine ⟨_, by simp [stepAt, r76_5, t6, e2, w1]; exact rfl, ?_⟩
          refine ⟨fun hr => absurd hr (by decide), fun i hi => ?_⟩
          have hi : i ∈ [5] := hi
          simp only [List.mem_cons, List.not_mem_nil, or_false] at hi
          subst hi
          refine ⟨_, by simp [stepAt, r76_5, t6, e2, w1]; exact rfl, ?_⟩
          refine ⟨fun hr => absurd hr (by decide), fun i hi => ?_⟩
          have hi : i ∈ [6] := hi
          simp only [List.mem_cons, List.not_mem_nil, or_false] at hi
          subst hi
          refine ⟨_, by simp [stepAt, r76_5, t6, e2, w1]; exact rfl, ?_⟩
          exact ⟨rfl, tree_twin (keys7 rfl rfl rfl rfl rfl rfl rfl (fun k a b c d e f g => by simp [tA, tB, upd, a, b, c, d, e, f, g])) rfl rfl⟩
    · skip
      refine ⟨_, by simp [stepAt, r76_5, t6, e2, w1]; exact rfl, ?_⟩
      refine ⟨fun hr => absurd hr (by decide), fun i hi => ?_⟩
      have hi : i ∈ [0, 4] := hi
      simp only [List.mem_cons, List.not_mem_nil, or_false] at hi
      rcases hi with rfl | rfl
      · skip
        refine ⟨_, by simp [stepAt, r76_5, t6, e2, w1]; exact rfl, ?_⟩
        refine ⟨fun hr => absurd hr (by decide), fun i hi => ?_⟩
        have hi : i ∈ [2, 4] := hi
        simp only [List.mem_cons, List.not_mem_nil, or_false] at hi
        rcases hi with rfl | rfl
        · skip
          refine ⟨_, by simp [stepAt, r76_5, t6, e2, w1]; exact rfl, ?_⟩
          refine ⟨fun hr => absurd hr (by decide), fun i hi => ?_⟩
          have hi : i ∈ [4, 5] := hi
          simp only [List.mem_cons, List.not_mem_nil, or_false] at hi
          rcases hi with rfl | rfl
          · skip
            refine ⟨_, by simp [stepAt, r76_5, t6, e2, w1]; exact rfl, ?_⟩
            refine ⟨fun hr => absurd hr (by decide), fun i hi => ?_⟩
            have hi : i ∈ [5] := hi
            simp only [List.mem_cons, List.not_mem_nil, or_false] at hi
            subst hi
            refine ⟨_, by simp [stepAt, r76_5, t6, e2, w1]; exact rfl, ?_⟩
            refine ⟨fun hr => absurd hr (by decide), fun i hi => ?_⟩
            have hi : i ∈ [6] := hi
            simp only [List.mem_cons, List.not_mem_nil, or_false] at hi
            subst hi
            refine ⟨_, by simp [stepAt, r76_5, t6, e2, w1]; exact rfl, ?_⟩
            exact ⟨rfl, tree_same (keys7 rfl rfl rfl rfl rfl rfl rfl (fun k a b c d e f g => by simp [tA, tB, upd, a, b, c, d, e, f, g])) rfl rfl⟩
          · skip
            refine ⟨_, by simp [stepAt, r76_5, t6, e2, w1]; exact rfl, ?_⟩
            refine ⟨fun hr => absurd hr (by decide), fun i hi => ?_⟩
            have hi : i ∈ [4] := hi
            simp only [List.mem_cons, List.not_mem_nil, or_false] at hi
            subst hi
            refine ⟨_, by simp [stepAt, r76_5, t6, e2, w1]; exact rfl, ?_⟩
            refine ⟨fun hr => absurd hr (by decide), fun i hi => ?_⟩
            have hi : i ∈ [6] := hi
            simp only [List.mem_cons, List.not_mem_nil, or_false] at hi
            subst hi
            refine ⟨_, by simp [stepAt, r76_5, t6, e2, w1]; exact rfl, ?_⟩
            exact ⟨rfl, tree_same (keys7 rfl rfl rfl rfl rfl rfl rfl (fun k a b c d e f g => by simp [tA, tB, upd, a, b, c, d, e, f, g])) rfl rfl⟩
        · skip
          refine ⟨_, by simp [stepAt, r76_5, t6, e2, w1]; exact rfl, ?_⟩
          refine ⟨fun hr => absurd hr (by decide), fun i hi => ?_⟩
          have hi : i ∈ [2] := hi
          simp only [List.mem_cons, List.not_mem_nil, or_false] at hi
          subst hi
          refine ⟨_, by simp [stepAt, r76_5, t6, e2, w1]; exact rfl, ?_⟩
          refine ⟨fun hr => absurd hr (by decide), fun i hi => ?_⟩
          have hi : i ∈ [5] := hi
          simp only [List.mem_cons, List.not_mem_nil, or_false] at hi
          subst hi
          refine ⟨_, by simp [stepAt, r76_5, t6, e2, w1]; exact rfl, ?_⟩
          refine ⟨fun hr => absurd hr (by decide), fun i hi => ?_⟩
          have hi : i ∈ [6] := hi
          simp only [List.mem_cons, List.not_mem_nil, or_false] at hi
          subst hi
          refine ⟨_, by simp [stepAt, r76_5, t6, e2, w1]; exact rfl, ?_⟩
          exact ⟨rfl, tree_twin (keys7 rfl rfl rfl rfl rfl rfl rfl (fun k a b c d e f g => by simp [tA, tB, upd, a, b, c, d, e, f, g])) rfl rfl⟩
      · skip
        refine ⟨_, by simp [stepAt, r76_5, t6, e2, w1]; exact rfl, ?_⟩
        refine ⟨fun hr => absurd hr (by decide), fun i hi => ?_⟩
        have hi : i ∈ [0] := hi
        simp only [List.mem_cons, List.not_mem_nil, or_false] at hi
        subst hi
        refine ⟨_, by simp [stepAt, r76_5, t6, e2, w1]; exact rfl, ?_⟩
        refine ⟨fun hr => absurd hr (by decide), fun i hi => ?_⟩
        have hi : i ∈ [2] := hi
        simp only [List.mem_cons, List.not_mem_nil, or_false] at hi
        subst hi
        refine ⟨_, by simp [stepAt, r76_5, t6, e2, w1]; exact rfl, ?_⟩
        refine ⟨fun hr => absurd hr (by decide), fun i hi => ?_⟩
        have hi : i ∈ [5] := hi
        simp only [List.mem_cons, List.not_mem_nil, or_false] at hi
        subst hi
        refine ⟨_, by simp [stepAt, r76_5, t6, e2, w1]; exact rfl, ?_⟩
        refine ⟨fun hr => absurd hr (by decide), fun i hi => ?_⟩
        have hi : i ∈ [6] := hi
        simp only [List.mem_cons, List.not_mem_nil, or_false] at hi
        subst hi
        refine ⟨_, by simp [stepAt, r76_5, t6, e2, w1]; exact rfl, ?_⟩
        exact ⟨rfl, tree_twin (keys7 rfl rfl rfl rfl rfl rfl rfl (fun k a b c d e f g => by simp [tA, tB, upd, a, b, c, d, e, f, g])) rfl rfl⟩
  · skip
    refine ⟨_, by simp [stepAt, r76_5, t6, e2, w1]; exact rfl, ?_⟩
    refine ⟨fun hr => absurd hr (by decide), fun i hi => ?_⟩
    have hi : i ∈ [0, 1, 4] := hi
    simp only [List.mem_cons, List.not_mem_nil, or_false] at hi
    rcases hi with rfl | rfl | rfl
    · skip
      refine ⟨_, by simp [stepAt, r76_5, t6, e2, w1]; exact rfl, ?_⟩
      refine ⟨fun hr => absurd hr (by decide), fun i hi => ?_⟩
      have hi : i ∈ [1, 4] := hi
      simp only [List.mem_cons, List.not_mem_nil, or_false] at hi
      rcases hi with rfl | rfl
      · skip
        refine ⟨_, by simp [stepAt, r76_5, t6, e2, w1]; exact rfl, ?_⟩
        refine ⟨fun hr => absurd hr (by decide), fun i hi => ?_⟩
        have hi : i ∈ [2, 4] := hi
        simp only [List.mem_cons, List.not_mem_nil, or_false] at hi
        rcases hi with rfl | rfl
        · skip
          refine ⟨_, by simp [stepAt, r76_5, t6, e2, w1]; exact rfl, ?_⟩
          refine ⟨fun hr => absurd hr (by decide), fun i hi => ?_⟩
          have hi : i ∈ [4, 5] := hi
          simp only [List.mem_cons, List.not_mem_nil, or_false] at hi
          rcases hi with rfl | rfl
          · skip
            refine ⟨_, by simp [stepAt, r76_5, t6, e2, w1]; exact rfl, ?_⟩
            refine ⟨fun hr => absurd hr (by decide), fun i hi => ?_⟩
            have hi : i ∈ [5] := hi
            simp only [List.mem_cons, List.not_mem_nil, or_false] at hi
            subst hi
            refine ⟨_, by simp [stepAt, r76_5, t6, e2, w1]; exact rfl, ?_⟩
            refine ⟨fun hr => absurd hr (by decide), fun i hi => ?_⟩
            have hi : i ∈ [6] := hi
            simp only [List.mem_cons, List.not_mem_nil, or_false] at hi
            subst hi
            refine ⟨_, by simp [stepAt, r76_5, t6, e2, w1]; exact rfl, ?_⟩
            exact ⟨rfl, tree_same (keys7 rfl rfl rfl rfl rfl rfl rfl (fun k a b c d e f g => by simp [tA, tB, upd, a, b, c, d, e, f, g])) rfl rfl⟩
          · skip
            refine ⟨_, by simp [stepAt, r76_5, t6, e2, w1]; exact rfl, ?_⟩
            refine ⟨fun hr => absurd hr (by decide), fun i hi => ?_⟩
            have hi : i ∈ [4] := hi
            simp only [List.mem_cons, List.not_mem_nil, or_false] at hi
            subst hi
            refine ⟨_, by simp [stepAt, r76_5, t6, e2, w1]; exact rfl, ?_⟩
            refine ⟨fun hr => absurd hr (by decide), fun i hi => ?_⟩
            have hi : i ∈ [6] := hi
            simp only [List.mem_cons, List.not_mem_nil, or_false] at hi
            subst hi
            refine ⟨_, by simp [stepAt, r76_5, t6, e2, w1]; exact rfl, ?_⟩
            exact ⟨rfl, tree_same (keys7 rfl rfl rfl rfl rfl rfl rfl (fun k a b c d e f g => by simp [tA, tB, upd, a, b, c, d, e, f, g])) rfl rfl⟩
        · skip
          refine ⟨_, by simp [stepAt, r76_5, t6, e2, w1]; exact rfl, ?_⟩
          refine ⟨fun hr => absurd hr (by decide), fun i hi => ?_⟩
          have hi : i ∈ [2] := hi
          simp only [List.mem_cons, List.not_mem_nil, or_false] at hi
          subst hi
          refine ⟨_, by simp [stepAt, r76_5, t6, e2, w1]; exact rfl, ?_⟩
          refine ⟨fun hr => absurd hr (by decide), fun i hi => ?_⟩
          have hi : i ∈ [5] := hi
          simp only [List.mem_cons, List.not_mem_nil, or_false] at hi
          subst hi
          refine ⟨_, by simp [stepAt, r76_5, t6, e2, w1]; exact rfl, ?_⟩
          refine ⟨fun hr => absurd hr (by decide), fun i hi => ?_⟩
          have hi : i ∈ [6] := hi
          simp only [List.mem_cons, List.not_mem_nil, or_false] at hi
          subst hi
          refine ⟨_, by simp [stepAt, r76_5, t6, e2, w1]; exact rfl, ?_⟩
          exact ⟨rfl, tree_twin (keys7 rfl rfl rfl rfl rfl rfl rfl (fun k a b c d e f g => by simp [tA, tB, upd, a, b, c, d, e, f, g])) rfl rfl⟩
      · skip
        refine ⟨_, by simp [stepAt, r76_5, t6, e2, w1]; exact rfl, ?_⟩
        refine ⟨fun hr => absurd hr (by decide), fun i hi => ?_⟩
        have hi : i ∈ [1] := hi
        simp only [List.mem_cons, List.not_mem_nil, or_false] at hi
        subst hi
        refine ⟨_, by simp [stepAt, r76_5, t6, e2, w1]; exact rfl, ?_⟩
        refine ⟨fun hr => absurd hr (by decide), fun i hi => ?_⟩
        have hi : i ∈ [2] := hi
        simp only [List.mem_cons, List.not_mem_nil, or_false] at hi
        subst hi
        refine ⟨_, by simp [stepAt, r76_5, t6, e2, w1]; exact rfl, ?_⟩
        refine ⟨fun hr => absurd hr (by decide), fun i hi => ?_⟩
        have hi : i ∈ [5] := hi
        simp only [List.mem_cons, List.not_mem_nil, or_false] at hi
        subst hi
        refine ⟨_, by simp [stepAt, r76_5, t6, e2, w1]; exact rfl, ?_⟩
        refine ⟨fun hr => absurd hr (by decide), fun i hi => ?_⟩
        have hi : i ∈ [6] := hi
        simp only [List.mem_cons, List.not_mem_nil, or_false] at hi
        subst hi
        refine ⟨_, by simp [stepAt, r76_5, t6, e2, w1]; exact rfl, ?_⟩
        exact ⟨rfl, tree_twin (keys7 rfl rfl rfl rfl rfl rfl rfl (fun k a b c d e f g => by simp [tA, tB, upd, a, b, c, d, e, f, g])) rfl rfl⟩
    · skip
      refine ⟨_, by simp [stepAt, r76_5, t6, e2, w1]; exact rfl, ?_⟩
      refine ⟨fun hr => absurd hr (by decide), fun i hi => ?_⟩
      have hi : i ∈ [0, 4] := hi
      simp only [List.mem_cons, List.not_mem_nil, or_false] at hi
      rcases hi with rfl | rfl
      · skip
        refine ⟨_, by simp [stepAt, r76_5, t6, e2, w1]; exact rfl, ?_⟩
        refine ⟨fun hr => absurd hr (by decide), fun i hi => ?_⟩
        have hi : i ∈ [2, 4] := hi
        simp only [List.mem_cons, List.not_mem_nil, or_false] at hi
        rcases hi with rfl | rfl
        · skip
          refine ⟨_, by simp [stepAt, r76_5, t6, e2, w1]; exact rfl, ?_⟩
          refine ⟨fun hr => absurd hr (by decide), fun i hi => ?_⟩
          have hi : i ∈ [4, 5] := hi
          simp only [List.mem_cons, List.not_mem_nil, or_false] at hi
          rcases hi with rfl | rfl
          · skip
            refine ⟨_, by simp [stepAt, r76_5, t6, e2, w1]; exact rfl, ?_⟩
            refine ⟨fun hr => absurd hr (by decide), fun i hi => ?_⟩
            have hi : i ∈ [5] := hi
            simp only [List.mem_cons, List.not_mem_nil, or_false] at hi
            subst hi
            refine ⟨_, by simp [stepAt, r76_5, t6, e2, w1]; exact rfl, ?_⟩
            refine ⟨fun hr => absurd hr (by decide), fun i hi => ?_⟩
            have hi : i ∈ [6] := hi
            simp only [List.mem_cons, List.not_mem_nil, or_false] at hi
            subst hi
            refine ⟨_, by simp [stepAt, r76_5, t6, e2, w1]; exact rfl, ?_⟩
            exact ⟨rfl, tree_same (keys7 rfl rfl rfl rfl rfl rfl rfl (fun k a b c d e f g => by simp [tA, tB, upd, a, b, c, d, e, f, g])) rfl rfl⟩
          · skip
            refine ⟨_, by simp [stepAt, r76_5, t6, e2, w1]; exact rfl, ?_⟩
            refine ⟨fun hr => absurd hr (by decide), fun i hi => ?_⟩
            have hi : i ∈ [4] := hi
            simp only [List.mem_cons, List.not_mem_nil, or_false] at hi
            subst hi
            refine ⟨_, by simp [stepAt, r76_5, t6, e2, w1]; exact rfl, ?_⟩
            refine ⟨fun hr => absurd hr (by decide), fun i hi => ?_⟩
            have hi : i ∈ [6] := hi
            simp only [List.mem_cons, List.not_mem_nil, or_false] at hi
            subst hi
            refine ⟨_, by simp [stepAt, r76_5, t6, e2, w1]; exact rfl, ?_⟩
            exact ⟨rfl, tree_same (keys7 rfl rfl rfl rfl rfl rfl rfl (fun k a b c d e f g => by simp [tA, tB, upd, a, b, c, d, e, f, g])) rfl rfl⟩
        · skip
          refine ⟨_, by simp [stepAt, r76_5, t6, e2, w1]; exact rfl, ?_⟩
          refine ⟨fun hr => absurd hr (by decide), fun i hi => ?_⟩
          have hi : i ∈ [2] := hi
          simp only [List.mem_cons, List.not_mem_nil, or_false] at hi
          subst hi
          refine ⟨_, by simp [stepAt, r76_5, t6, e2, w1]; exact rfl, ?_⟩
          refine ⟨fun hr => absurd hr (by decide), fun i hi => ?_⟩
          have hi : i ∈ [5] := hi
          simp only [List.mem_cons, List.not_mem_nil, or_false] at hi
          subst hi
          refine ⟨_, by simp [stepAt, r76_5, t6, e2, w1]; exact rfl, ?_⟩
          refine ⟨fun hr => absurd hr (by decide), fun i hi => ?_⟩
          have hi : i ∈ [6] := hi
          simp only [List.mem_cons, List.not_mem_nil, or_false] at hi
          subst hi
          refine ⟨_, by simp [stepAt, r76_5, t6, e2, w1]; exact rfl, ?_⟩
          exact ⟨rfl, tree_twin (keys7 rfl rfl rfl rfl rfl rfl rfl (fun k a b c d e f g => by simp [tA, tB, upd, a, b, c, d, e, f, g])) rfl rfl⟩
      · skip
        refine ⟨_, by simp [stepAt, r76_5, t6, e2, w1]; exact rfl, ?_⟩
        refine ⟨fun hr => absurd hr (by decide), fun i hi => ?_⟩
        have hi : i ∈ [0] := hi
        simp only [List.mem_cons, List.not_mem_nil, or_false] at hi
        subst hi
        refine ⟨_, by simp [stepAt, r76_5, t6, e2, w1]; exact rfl, ?_⟩
        refine ⟨fun hr => absurd hr (by decide), fun i hi => ?_⟩
        have hi : i ∈ [2] := hi
        simp only [List.mem_cons, List.not_mem_nil, or_false] at hi
        subst hi
        refine ⟨_, by simp [stepAt, r76_5, t6, e2, w1]; exact rfl, ?_⟩
        refine ⟨fun hr => absurd hr (by decide), fun i hi => ?_⟩
        have hi : i ∈ [5] := hi
        simp only [List.mem_cons, List.not_mem_nil, or_false] at hi
        subst hi
        refine ⟨_, by simp [stepAt, r76_5, t6, e2, w1]; exact rfl, ?_⟩
        refine ⟨fun hr => absurd hr (by decide), fun i hi => ?_⟩
        have hi : i ∈ [6] := hi
        simp only [List.mem_cons, List.not_mem_nil, or_false] at hi
        subst hi
        refine ⟨_, by simp [stepAt, r76_5, t6, e2, w1]; exact rfl, ?_⟩
        exact ⟨rfl, tree_twin (keys7 rfl rfl rfl rfl rfl rfl rfl (fun k a b c d e f g => by simp [tA, tB, upd, a, b, c, d, e, f, g])) rfl rfl⟩
    · skip
      refine ⟨_, by simp [stepAt, r76_5, t6, e2, w1]; exact rfl, ?_⟩
      refine ⟨fun hr => absurd hr (by decide), fun i hi => ?_⟩
      have hi : i ∈ [0, 1] := hi
      simp only [List.mem_cons, List.not_mem_nil, or_false] at hi
      rcases hi with rfl | rfl
      · skip
        refine ⟨_, by simp [stepAt, r76_5, t6, e2, w1]; exact rfl, ?_⟩
        refine ⟨fun hr => absurd hr (by decide), fun i hi => ?_⟩
        have hi : i ∈ [1] := hi
        simp only [List.mem_cons, List.not_mem_nil, or_false] at hi
        subst hi
        refine ⟨_, by simp [stepAt, r76_5, t6, e2, w1]; exact rfl, ?_⟩
        refine ⟨fun hr => absurd hr (by decide), fun i hi => ?_⟩
        have hi : i ∈ [2] := hi
        simp only [List.mem_cons, List.not_mem_nil, or_false] at hi
        subst hi
        refine ⟨_, by simp [stepAt, r76_5, t6, e2, w1]; exact rfl, ?_⟩
        refine ⟨fun hr => absurd hr (by decide), fun i hi => ?_⟩
        have hi : i ∈ [5] := hi
        simp only [List.mem_cons, List.not_mem_nil, or_false] at hi
        subst hi
        refine ⟨_, by simp [stepAt, r76_5, t6, e2, w1]; exact rfl, ?_⟩
        refine ⟨fun hr => absurd hr (by decide), fun i hi => ?_⟩
        have hi : i ∈ [6] := hi
        simp only [List.mem_cons, List.not_mem_nil, or_false] at hi
        subst hi
        refine ⟨_, by simp [stepAt, r76_5, t6, e2, w1]; exact rfl, ?_⟩
        exact ⟨rfl, tree_twin (keys7 rfl rfl rfl rfl rfl rfl rfl (fun k a b c d e f g => by simp [tA, tB, upd, a, b, c, d, e, f, g])) rfl rfl⟩
      · skip
        refine ⟨_, by simp [stepAt, r76_5, t6, e2, w1]; exact rfl, ?_⟩
        refine ⟨fun hr => absurd hr (by decide), fun i hi => ?_⟩
        have hi : i ∈ [0] := hi
        simp only [List.mem_cons, List.not_mem_nil, or_false] at hi
        subst hi
        refine ⟨_, by simp [stepAt, r76_5, t6, e2, w1]; exact rfl, ?_⟩
        refine ⟨fun hr => absurd hr (by decide), fun i hi => ?_⟩
        have hi : i ∈ [2] := hi
        simp only [List.mem_cons, List.not_mem_nil, or_false] at hi
        subst hi
        refine ⟨_, by simp [stepAt, r76_5, t6, e2, w1]; exact rfl, ?_⟩
        refine ⟨fun hr => absurd hr (by decide), fun i hi => ?_⟩
        have hi : i ∈ [5] := hi
        simp only [List.mem_cons, List.not_mem_nil, or_false] at hi
        subst hi
        refine ⟨_, by simp [stepAt, r76_5, t6, e2, w1]; exact rfl, ?_⟩
        refine ⟨fun hr => absurd hr (by decide), fun i hi => ?_⟩
        have hi : i ∈ [6] := hi
        simp only [List.mem_cons, List.not_mem_nil, or_false] at hi
        subst hi
        refine ⟨_, by simp [stepAt, r76_5, t6, e2, w1]; exact rfl, ?_⟩
        exact ⟨rfl, tree_twin (keys7 rfl rfl rfl rfl rfl rfl rfl (fun k a b c d e f g => by simp [tA, tB, upd, a, b, c, d, e, f, g])) rfl rfl⟩

end Go.Proofs.YtcngflmnbdcppaaGreat

/- What dominates in the graph of one block: the walk. -/
namespace Go.Proofs.YtcngflmnbdcppaaGreat
open Go.LS Go.IntWalk

theorem tree_one (h : LS.Heap) : callD T 76 [.agg oneG, .int .i64 0] h = some (.lst .ro [[.int .i64 (-1)]], h) := by
  have e1 := order_run h
  unfold oneG at e1 ⊢
  have w1 : IntKind.i64.wrap 1 = 1 := rfl
  refine W_call t76 rfl rfl (by simp) ?_
  show W T c76 _ _
  unfold c76
  refine W_seq (W_ops (s1 := ?_) (by simp only [r76_0]; simp [a76, nextVer]; exact rfl) ?_)
  refine W_scope ?_
  refine W_seq (W_ops (s1 := ?_) (by simp only [r76_1]; simp [e1]; exact rfl) ?_)
  refine W_seq (W_seq (W_ops (s1 := ?_) (by simp only [r76_2]; simp; exact rfl) ?_))
  refine W_cond_f (by simp) (W_skip ?_)
  refine W_seq (W_ops (s1 := ?_) (by simp only [r76_4]; simp; exact rfl) ?_)
  refine W_seq (W_dops (tree_region (by simp)) ?_)
  have f1 : (hA h).objs h.next = some (.row [[.int .i64 (-2)]]) := by simp [hA, Heap.new, upd]
  have f2 : (hA h).objs (h.next + 1) = some (.row [[.int .i64 0]]) := by simp [hA, Heap.new, upd]
  have f3 : HExt h (hA h) := ⟨by simp [hA, Heap.new]; omega, fun id hid => by
    have a1 : id ≠ h.next := by omega
    have a2 : id ≠ h.next + 1 := by omega
    simp [hA, Heap.new, upd, a1, a2]⟩
  generalize hA h = h2 at f1 f2 f3
  simp only [tA]
  refine W_seq (W_seq (W_ops (s1 := ?_) (by simp only [r76_6]; simp; exact rfl) ?_))
  refine W_block (W_loop' l76_0.eq_1 ?_)
  refine W_seq (W_ops (s1 := ?_) (by simp only [r76_7]; simp; exact rfl) ?_)
  refine W_seq (W_cond_t (by simp) (W_skip ?_))
  refine W_seq (W_block (W_seq (W_ops (s1 := ?_) (by simp only [r76_8]; simp; exact rfl) ?_)))
  refine W_ops (s1 := ?_) (by simp only [r76_9]; simp [f2]; exact rfl) ?_
  repeat' (first
    | refine W_seq ?_
    | refine W_skip ?_
    | refine W_block ?_
    | refine W_ret ?_
    | refine W_exit ?_
    | refine W_ops (s1 := ?_) (by simp only [r76_0, r76_1, r76_2, r76_3, r76_4, r76_5, r76_6, r76_7, r76_8, r76_9, r76_10, r76_11, r76_12, r76_13, r76_14, r76_15, r76_16, r76_17, r76_18, r76_20, r76_21, r76_22, r76_19, r76_23, r76_24, r76_25, r76_26, r76_27, r76_28]; simp [w1]; exact rfl) ?_
    | refine W_tops (s1 := ?_) (by simp only [r76_0, r76_1, r76_2, r76_3, r76_4, r76_5, r76_6, r76_7, r76_8, r76_9, r76_10, r76_11, r76_12, r76_13, r76_14, r76_15, r76_16, r76_17, r76_18, r76_20, r76_21, r76_22, r76_19, r76_23, r76_24, r76_25, r76_26, r76_27, r76_28]; simp [w1]; exact rfl) ?_
    | refine W_cond_t (by first | (simp [w1]; done) | fail) ?_
    | refine W_cond_f (by first | (simp [w1]; done) | fail) ?_
    | fail)
  refine W_loop' l76_0.eq_1 ?_
  repeat' (first
    | refine W_seq ?_
    | refine W_skip ?_
    | refine W_block ?_
    | refine W_ret ?_
    | refine W_exit ?_
    | refine W_ops (s1 := ?_) (by simp only [r76_0, r76_1, r76_2, r76_3, r76_4, r76_5, r76_6, r76_7, r76_8, r76_9, r76_10, r76_11, r76_12, r76_13, r76_14, r76_15, r76_16, r76_17, r76_18, r76_20, r76_21, r76_22, r76_19, r76_23, r76_24, r76_25, r76_26, r76_27, r76_28]; simp [f1, Heap.set]; exact rfl) ?_
    | refine W_tops (s1 := ?_) (by simp only [r76_0, r76_1, r76_2, r76_3, r76_4, r76_5, r76_6, r76_7, r76_8, r76_9, r76_10, r76_11, r76_12, r76_13, r76_14, r76_15, r76_16, r76_17, r76_18, r76_20, r76_21, r76_22, r76_19, r76_23, r76_24, r76_25, r76_26, r76_27, r76_28]; simp [f1, Heap.set]; exact rfl) ?_
    | refine W_cond_t (by first | (simp [f1, Heap.set]; done) | fail) ?_
    | refine W_cond_f (by first | (simp [f1, Heap.set]; done) | fail) ?_
    | fail)
  refine W_label ?_
  repeat' (first
    | refine W_seq ?_
    | refine W_skip ?_
    | refine W_block ?_
    | refine W_ret ?_
    | refine W_exit ?_
    | refine W_ops (s1 := ?_) (by simp only [r76_0, r76_1, r76_2, r76_3, r76_4, r76_5, r76_6, r76_7, r76_8, r76_9, r76_10, r76_11, r76_12, r76_13, r76_14, r76_15, r76_16, r76_17, r76_18, r76_20, r76_21, r76_22, r76_19, r76_23, r76_24, r76_25, r76_26, r76_27, r76_28]; simp [f1, Heap.set]; exact rfl) ?_
    | refine W_tops (s1 := ?_) (by simp only [r76_0, r76_1, r76_2, r76_3, r76_4, r76_5, r76_6, r76_7, r76_8, r76_9, r76_10, r76_11, r76_12, r76_13, r76_14, r76_15, r76_16, r76_17, r76_18, r76_20, r76_21, r76_22, r76_19, r76_23, r76_24, r76_25, r76_26, r76_27, r76_28]; simp [f1, Heap.set]; exact rfl) ?_
    | refine W_cond_t (by first | (simp [f1, Heap.set]; done) | fail) ?_
    | refine W_cond_f (by first | (simp [f1, Heap.set]; done) | fail) ?_
    | fail)
  refine W_loop' l76_1.eq_1 ?_
  repeat' (first
    | refine W_seq ?_
    | refine W_skip ?_
    | refine W_block ?_
    | refine W_ret ?_
    | refine W_exit ?_
    | refine W_ops (s1 := ?_) (by simp only [r76_0, r76_1, r76_2, r76_3, r76_4, r76_5, r76_6, r76_7, r76_8, r76_9, r76_10, r76_11, r76_12, r76_13, r76_14, r76_15, r76_16, r76_17, r76_18, r76_20, r76_21, r76_22, r76_19, r76_23, r76_24, r76_25, r76_26, r76_27, r76_28]; simp [f1, Heap.set]; exact rfl) ?_
    | refine W_tops (s1 := ?_) (by simp only [r76_0, r76_1, r76_2, r76_3, r76_4, r76_5, r76_6, r76_7, r76_8, r76_9, r76_10, r76_11, r76_12, r76_13, r76_14, r76_15, r76_16, r76_17, r76_18, r76_20, r76_21, r76_22, r76_19, r76_23, r76_24, r76_25, r76_26, r76_27, r76_28]; simp [f1, Heap.set]; exact rfl) ?_
    | refine W_cond_t (by first | (simp [f1, Heap.set]; done) | fail) ?_
    | refine W_cond_f (by first | (simp [f1, Heap.set]; done) | fail) ?_
    | fail)
  refine W_ops (s1 := ?_) (by simp only [r76_28]; simp [freezeV, Heap.kill]; exact rfl) (W_ret ?_)
  refine ⟨(fun l e => by cases e), .inr rfl, [.lst .ro [[.int .i64 (-1)]]], by simp [a76, resV, resV1], by simp [a76, packV], rfl, f3.1, fun id hid => ?_⟩
  have a1 : id ≠ h.next := by omega
  have a2 : id ≠ h.next + 1 := by omega
  simp only [upd, a1, a2, if_false]
  exact f3.2 id hid

end Go.Proofs.YtcngflmnbdcppaaGreat

/- The checker of a straight function: the blocks fit; nothing is wrong. -/
namespace Go.Proofs.YtcngflmnbdcppaaGreat
open Go.LS Go.IntWalk

/-- What dominates in a graph of one block. -/
def TreeOne : Prop := ∀ h, callD T 76 [.agg oneG, .int .i64 0] h = some (.lst .ro [[.int .i64 (-1)]], h)

theorem shape_run (hTree : TreeOne) (x : Straight) (c : Nat) (h : LS.Heap) (hcn : c < h.next) {succ pred tree : List (List V)} {ts tp tt : Tag} (hc : h.objs c = some (.var (chkC x.f succ pred tree ts tp tt none))) :
    ∃ h', callD T 52 [.obj c 0] h = some (.int .i64 0, h') ∧ h'.next = h.next ∧ h'.objs c = some (.var (chkC x.f [[.lst .nil []]] [[.lst .ro []]] [[.int .i64 (-1)]] .ro .ro .ro none)) ∧ ∀ id, id ≠ c → h'.objs id = h.objs id := by
  have hcC : ∀ succ pred tree ts tp tt m, chkC x.f succ pred tree ts tp tt m = [.lst .ro (x.ps.map intC), .int .i64 x.ret, .lst .ro [[.lst .ro [], .lst .ro (x.ops.map OpD.c), .int .i64 0, .int .i64 x.arg, .lst .ro []]], .int .i64 2, .lst ts succ, .lst tp pred, .lst tt tree, .map m] := fun _ _ _ _ _ _ _ => rfl
  have e1 := of_graph (x.ps.map intC) x.ret (x.ops.map OpD.c) x.arg (by simp) (by simp) h
  have e2 := hTree h
  have e3 := fun h1 : LS.Heap => over_run .ro h1
  unfold oneG at e2
  rw [hcC] at hc
  refine W_callE t52 rfl rfl (by simp) ?_
  show W T c52 _ _
  unfold c52
  refine W_seq (W_ops (s1 := ?_) (by simp only [r52_0]; simp [a52]; exact rfl) ?_)
  refine W_seq (W_ops (s1 := ?_) (by simp only [r52_1]; simp [hc, e1, nextVer]; exact rfl) ?_)
  repeat' (first
    | refine W_seq ?_
    | refine W_skip ?_
    | refine W_block ?_
    | refine W_ret ?_
    | refine W_exit ?_
    | refine W_ops (s1 := ?_) (by simp only [r52_0, r52_1, r52_2, r52_3, r52_4, r52_5, r52_6, r52_7, r52_8, r52_9, r52_10, r52_11, r52_12, r52_13, r52_14, r52_15, r52_16, r52_17, r52_18, r52_19]; simp [hc, e2, Heap.set]; exact rfl) ?_
    | refine W_tops (s1 := ?_) (by simp only [r52_0, r52_1, r52_2, r52_3, r52_4, r52_5, r52_6, r52_7, r52_8, r52_9, r52_10, r52_11, r52_12, r52_13, r52_14, r52_15, r52_16, r52_17, r52_18, r52_19]; simp [hc, e2, Heap.set]; exact rfl) ?_
    | refine W_cond_t (by first | (simp [hc, e2, Heap.set]; done) | fail) ?_
    | refine W_cond_f (by first | (simp [hc, e2, Heap.set]; done) | fail) ?_
    | fail)
  generalize hH : LS.Heap.mk _ _ = h1
  have hc1 : h1.objs c = some (.var (chkC x.f [[.lst .nil []]] [[.lst .ro []]] [[.int .i64 (-1)]] .ro .ro .ro none)) := by rw [← hH]; simp [upd, hcC]
  have hn1 : h1.next = h.next := by rw [← hH]
  have ho1 : ∀ id, id ≠ c → h1.objs id = h.objs id := fun id hid => by rw [← hH]; simp [upd, hid]
  clear hH
  rw [hcC] at hc1
  repeat' (first
    | refine W_seq ?_
    | refine W_skip ?_
    | refine W_block ?_
    | refine W_ret ?_
    | refine W_exit ?_
    | refine W_ops (s1 := ?_) (by simp only [r52_0, r52_1, r52_2, r52_3, r52_4, r52_5, r52_6, r52_7, r52_8, r52_9, r52_10, r52_11, r52_12, r52_13, r52_14, r52_15, r52_16, r52_17, r52_18, r52_19]; simp [hc1]; exact rfl) ?_
    | refine W_tops (s1 := ?_) (by simp only [r52_0, r52_1, r52_2, r52_3, r52_4, r52_5, r52_6, r52_7, r52_8, r52_9, r52_10, r52_11, r52_12, r52_13, r52_14, r52_15, r52_16, r52_17, r52_18, r52_19]; simp [hc1]; exact rfl) ?_
    | refine W_cond_t (by first | (simp [hc1]; done) | fail) ?_
    | refine W_cond_f (by first | (simp [hc1]; done) | fail) ?_
    | fail)
  refine W_loop' l52_0.eq_1 ?_
  repeat' (first
    | refine W_seq ?_
    | refine W_skip ?_
    | refine W_block ?_
    | refine W_ret ?_
    | refine W_exit ?_
    | refine W_ops (s1 := ?_) (by simp only [r52_0, r52_1, r52_2, r52_3, r52_4, r52_5, r52_6, r52_7, r52_8, r52_9, r52_10, r52_11, r52_12, r52_13, r52_14, r52_15, r52_16, r52_17, r52_18, r52_19]; simp [hc1, e3, w1]; exact rfl) ?_
    | refine W_tops (s1 := ?_) (by simp only [r52_0, r52_1, r52_2, r52_3, r52_4, r52_5, r52_6, r52_7, r52_8, r52_9, r52_10, r52_11, r52_12, r52_13, r52_14, r52_15, r52_16, r52_17, r52_18, r52_19]; simp [hc1, e3, w1]; exact rfl) ?_
    | refine W_cond_t (by first | (simp [hc1, e3, w1]; done) | fail) ?_
    | refine W_cond_f (by first | (simp [hc1, e3, w1]; done) | fail) ?_
    | fail)
  refine W_loop' l52_1.eq_1 ?_
  repeat' (first
    | refine W_seq ?_
    | refine W_skip ?_
    | refine W_block ?_
    | refine W_ret ?_
    | refine W_exit ?_
    | refine W_ops (s1 := ?_) (by simp only [r52_0, r52_1, r52_2, r52_3, r52_4, r52_5, r52_6, r52_7, r52_8, r52_9, r52_10, r52_11, r52_12, r52_13, r52_14, r52_15, r52_16, r52_17, r52_18, r52_19]; simp [hc1, w1]; exact rfl) ?_
    | refine W_tops (s1 := ?_) (by simp only [r52_0, r52_1, r52_2, r52_3, r52_4, r52_5, r52_6, r52_7, r52_8, r52_9, r52_10, r52_11, r52_12, r52_13, r52_14, r52_15, r52_16, r52_17, r52_18, r52_19]; simp [hc1, w1]; exact rfl) ?_
    | refine W_cond_t (by first | (simp [hc1, w1]; done) | fail) ?_
    | refine W_cond_f (by first | (simp [hc1, w1]; done) | fail) ?_
    | fail)
  refine W_loop' l52_0.eq_1 ?_
  repeat' (first
    | refine W_seq ?_
    | refine W_skip ?_
    | refine W_block ?_
    | refine W_ret ?_
    | refine W_exit ?_
    | refine W_ops (s1 := ?_) (by simp only [r52_0, r52_1, r52_2, r52_3, r52_4, r52_5, r52_6, r52_7, r52_8, r52_9, r52_10, r52_11, r52_12, r52_13, r52_14, r52_15, r52_16, r52_17, r52_18, r52_19]; simp; exact rfl) ?_
    | refine W_tops (s1 := ?_) (by simp only [r52_0, r52_1, r52_2, r52_3, r52_4, r52_5, r52_6, r52_7, r52_8, r52_9, r52_10, r52_11, r52_12, r52_13, r52_14, r52_15, r52_16, r52_17, r52_18, r52_19]; simp; exact rfl) ?_
    | refine W_cond_t (by first | (simp; done) | fail) ?_
    | refine W_cond_f (by first | (simp; done) | fail) ?_
    | fail)
  exact ⟨.inr rfl, [.int .i64 0], by simp [a52, resV, resV1], by simp [a52, packV], hn1, hc1, ho1⟩

/-- A straight function that is right. -/
structure Straight.Right (x : Straight) : Prop where
  fit : x.f.Fit
  tells : x.f.tells = true
  takes : ∀ o ∈ x.ops, TakesOK o
  ret : widthB x.ret = true
  ps : ∀ p ∈ x.ps, widthB p = true
  ops : ∀ o ∈ x.ops, mayOp o = true
  once : ∀ k (hk : k < x.ops.length), 0 < (giveM x.ops[k]).1 → Do x k x.ops[k].dst = none
  uses : ∀ k (hk : k < x.ops.length) j (hj : j < (takeL x.ops[k]).length), ∃ v d, x.ops[k].args[j]? = some v ∧ x.D v = some d ∧ d.bits = (takeL x.ops[k])[j].1 ∧ d.lanes = (takeL x.ops[k])[j].2 ∧ (d.block < 0 ∨ (d.block = 0 ∧ d.at_ < k))
  last : ∃ d, x.D x.arg = some d ∧ d.bits = x.ret ∧ d.lanes = 1 ∧ (d.block < 0 ∨ (d.block = 0 ∧ d.at_ < 1048576))

theorem width_ne {n : Int} (h : widthB n = true) : n ≠ 0 := by
  have := width_cases h
  omega

theorem look_run (hTree : TreeOne) (x : Straight) (R : x.Right) (h : LS.Heap) :
    ∃ h' m, callD T 38 [.agg x.f.c, .int .i64 2] h = some (.tup [.obj h.next 0, .int .i64 0], h') ∧ HExt h h' ∧ h.next < m ∧ m < h'.next ∧
      (∃ l1 l2 l3 l4 l5 l6 l7, h'.objs h.next = some (.var [l1, l2, l3, l4, l5, l6, l7, .map (some m)])) ∧ h'.objs m = some (.map .i64 (defsV x.D)) := by
  have hcC : ∀ succ pred tree ts tp tt m, chkC x.f succ pred tree ts tp tt m = [.lst .ro (x.ps.map intC), .int .i64 x.ret, .lst .ro [[.lst .ro [], .lst .ro (x.ops.map OpD.c), .int .i64 0, .int .i64 x.arg, .lst .ro []]], .int .i64 2, .lst ts succ, .lst tp pred, .lst tt tree, .map m] := fun _ _ _ _ _ _ _ => rfl
  have hfc : x.f.c = [.lst .ro (x.ps.map intC), .int .i64 x.ret, .lst .ro [[.lst .ro [], .lst .ro (x.ops.map OpD.c), .int .i64 0, .int .i64 x.arg, .lst .ro []]]] := rfl
  have hret := width_ne R.ret
  -- the checker
  obtain ⟨h1, hh1⟩ : ∃ h1, h.new (.var (chkC x.f [] [] [] .nil .nil .nil none)) = h1 := ⟨_, rfl⟩
  have c1 : h1.objs h.next = some (.var (chkC x.f [] [] [] .nil .nil .nil none)) := by rw [← hh1]; exact new_objs_new _ _
  have n1 : h1.next = h.next + 1 := by rw [← hh1]; rfl
  have x1 : HExt h h1 := by rw [← hh1]; exact .new _ _
  have e0 := codeMay_run x.f R.fit h1
  rw [R.tells] at e0
  obtain ⟨h2, e1, n2, c2, o2⟩ := shape_run hTree x h.next h1 (by omega) c1
  have e2 := typed_run x h.next h2 (by omega) c2 R.fit R.takes R.ret R.ps R.ops
  have c3 := (new_objs_old (h := h2) (o := .var [.obj h.next 0]) (id := h.next) (by omega)).trans c2
  obtain ⟨h4, e3, n4, c4, m4, o4⟩ := defined_run x h.next (h2.new (.var [.obj h.next 0])) (by simp only [Heap.new]; omega) c3 R.fit R.takes hret R.once
    (fun k hk j hj => let ⟨v, d, q1, q2, _⟩ := R.uses k hk j hj; ⟨v, d, q1, q2⟩) (let ⟨d, q1, _⟩ := R.last; ⟨d, q1⟩)
  have n3 : (h2.new (.var [.obj h.next 0])).next = h.next + 2 := by simp only [Heap.new]; omega
  rw [n3] at n4 c4 m4
  obtain ⟨h5, e4, x5⟩ := shapes_run x h.next (h.next + 2 + 1) h4 (by omega) (by omega) c4 m4 R.fit R.takes hret
    (fun k hk j hj => let ⟨v, d, q1, q2, q3, q4, _⟩ := R.uses k hk j hj; ⟨v, d, q1, q2, q3, q4⟩) (let ⟨d, q1, q2, q3, _⟩ := R.last; ⟨d, q1, q2, q3⟩)
  have c5 := (x5.2 h.next (by omega)).trans c4
  have m5 := (x5.2 (h.next + 2 + 1) (by omega)).trans m4
  obtain ⟨h6, e5, x6⟩ := places_run x h.next (h.next + 2 + 1) h5 (by have := x5.1; omega) (by have := x5.1; omega) c5 m5 R.fit R.takes hret
    (fun k hk j hj => let ⟨v, d, q1, q2, q3, q4, q5⟩ := R.uses k hk j hj; ⟨v, d, q1, q2, q5⟩) (let ⟨d, q1, q2, q3, q4⟩ := R.last; ⟨d, q1, q4⟩)
  have c6 := (x6.2 h.next (by have := x5.1; omega)).trans c5
  have m6 := (x6.2 (h.next + 2 + 1) (by have := x5.1; omega)).trans m5
  have hx : HExt h h6 := by
    refine ⟨by have := x5.1; have := x6.1; omega, fun id hid => ?_⟩
    rw [x6.2 id (by have := x5.1; omega), x5.2 id (by omega), o4 id (by rw [n3]; omega) (by omega), new_objs_old (by omega), o2 id (by omega), x1.2 id hid]
  rw [hfc] at e0
  refine ⟨h6, h.next + 2 + 1, ?_, hx, by omega, by have := x5.1; have := x6.1; omega, ⟨_, _, _, _, _, _, _, c6⟩, m6⟩
  rw [hfc]
  rw [hcC] at hh1
  have w2 : IntKind.i64.wrap 2 = 2 := i64_in _ (by omega)
  have w3 : IntKind.i64.wrap 3 = 3 := i64_in _ (by omega)
  have w4 : IntKind.i64.wrap 4 = 4 := i64_in _ (by omega)
  have w5 : IntKind.i64.wrap 5 = 5 := i64_in _ (by omega)
  refine W_callH t38 rfl rfl (by simp) ?_
  show W T c38 _ _
  unfold c38
  refine W_seq (W_ops (s1 := ?_) (by simp only [r38_0]; simp [a38, nextVer]; exact rfl) ?_)
  refine W_seq (W_ops (s1 := ?_) (by simp only [r38_1]; simp [hh1]; exact rfl) ?_)
  repeat' (first
    | refine W_seq ?_
    | refine W_skip ?_
    | refine W_block ?_
    | refine W_ret ?_
    | refine W_exit ?_
    | refine W_ops (s1 := ?_) (by simp only [r38_0, r38_1, r38_2, r38_3, r38_4, r38_5, r38_6, r38_7, r38_8, r38_9, r38_10, r38_11]; simp [e0]; exact rfl) ?_
    | refine W_tops (s1 := ?_) (by simp only [r38_0, r38_1, r38_2, r38_3, r38_4, r38_5, r38_6, r38_7, r38_8, r38_9, r38_10, r38_11]; simp [e0]; exact rfl) ?_
    | refine W_cond_t (by first | (simp [e0]; done) | fail) ?_
    | refine W_cond_f (by first | (simp [e0]; done) | fail) ?_
    | fail)
  refine W_loop' l38_0.eq_1 ?_
  repeat' (first
    | refine W_seq ?_
    | refine W_skip ?_
    | refine W_block ?_
    | refine W_ret ?_
    | refine W_exit ?_
    | refine W_ops (s1 := ?_) (by simp only [r38_0, r38_1, r38_2, r38_3, r38_4, r38_5, r38_6, r38_7, r38_8, r38_9, r38_10, r38_11]; simp [e1, w1]; exact rfl) ?_
    | refine W_tops (s1 := ?_) (by simp only [r38_0, r38_1, r38_2, r38_3, r38_4, r38_5, r38_6, r38_7, r38_8, r38_9, r38_10, r38_11]; simp [e1, w1]; exact rfl) ?_
    | refine W_cond_t (by first | (simp [e1, w1]; done) | fail) ?_
    | refine W_cond_f (by first | (simp [e1, w1]; done) | fail) ?_
    | fail)
  refine W_loop' l38_0.eq_1 ?_
  repeat' (first
    | refine W_seq ?_
    | refine W_skip ?_
    | refine W_block ?_
    | refine W_ret ?_
    | refine W_exit ?_
    | refine W_ops (s1 := ?_) (by simp only [r38_0, r38_1, r38_2, r38_3, r38_4, r38_5, r38_6, r38_7, r38_8, r38_9, r38_10, r38_11]; simp [e2, w2]; exact rfl) ?_
    | refine W_tops (s1 := ?_) (by simp only [r38_0, r38_1, r38_2, r38_3, r38_4, r38_5, r38_6, r38_7, r38_8, r38_9, r38_10, r38_11]; simp [e2, w2]; exact rfl) ?_
    | refine W_cond_t (by first | (simp [e2, w2]; done) | fail) ?_
    | refine W_cond_f (by first | (simp [e2, w2]; done) | fail) ?_
    | fail)
  refine W_loop' l38_0.eq_1 ?_
  repeat' (first
    | refine W_seq ?_
    | refine W_skip ?_
    | refine W_block ?_
    | refine W_ret ?_
    | refine W_exit ?_
    | refine W_ops (s1 := ?_) (by simp only [r38_0, r38_1, r38_2, r38_3, r38_4, r38_5, r38_6, r38_7, r38_8, r38_9, r38_10, r38_11]; simp [e3, w3]; exact rfl) ?_
    | refine W_tops (s1 := ?_) (by simp only [r38_0, r38_1, r38_2, r38_3, r38_4, r38_5, r38_6, r38_7, r38_8, r38_9, r38_10, r38_11]; simp [e3, w3]; exact rfl) ?_
    | refine W_cond_t (by first | (simp [e3, w3]; done) | fail) ?_
    | refine W_cond_f (by first | (simp [e3, w3]; done) | fail) ?_
    | fail)
  refine W_loop' l38_0.eq_1 ?_
  repeat' (first
    | refine W_seq ?_
    | refine W_skip ?_
    | refine W_block ?_
    | refine W_ret ?_
    | refine W_exit ?_
    | refine W_ops (s1 := ?_) (by simp only [r38_0, r38_1, r38_2, r38_3, r38_4, r38_5, r38_6, r38_7, r38_8, r38_9, r38_10, r38_11]; simp [e4, w4]; exact rfl) ?_
    | refine W_tops (s1 := ?_) (by simp only [r38_0, r38_1, r38_2, r38_3, r38_4, r38_5, r38_6, r38_7, r38_8, r38_9, r38_10, r38_11]; simp [e4, w4]; exact rfl) ?_
    | refine W_cond_t (by first | (simp [e4, w4]; done) | fail) ?_
    | refine W_cond_f (by first | (simp [e4, w4]; done) | fail) ?_
    | fail)
  refine W_loop' l38_0.eq_1 ?_
  repeat' (first
    | refine W_seq ?_
    | refine W_skip ?_
    | refine W_block ?_
    | refine W_ret ?_
    | refine W_exit ?_
    | refine W_ops (s1 := ?_) (by simp only [r38_0, r38_1, r38_2, r38_3, r38_4, r38_5, r38_6, r38_7, r38_8, r38_9, r38_10, r38_11]; simp [e5, w5]; exact rfl) ?_
    | refine W_tops (s1 := ?_) (by simp only [r38_0, r38_1, r38_2, r38_3, r38_4, r38_5, r38_6, r38_7, r38_8, r38_9, r38_10, r38_11]; simp [e5, w5]; exact rfl) ?_
    | refine W_cond_t (by first | (simp [e5, w5]; done) | fail) ?_
    | refine W_cond_f (by first | (simp [e5, w5]; done) | fail) ?_
    | fail)
  refine W_loop' l38_0.eq_1 ?_
  repeat' (first
    | refine W_seq ?_
    | refine W_skip ?_
    | refine W_block ?_
    | refine W_ret ?_
    | refine W_exit ?_
    | refine W_ops (s1 := ?_) (by simp only [r38_0, r38_1, r38_2, r38_3, r38_4, r38_5, r38_6, r38_7, r38_8, r38_9, r38_10, r38_11]; simp; exact rfl) ?_
    | refine W_tops (s1 := ?_) (by simp only [r38_0, r38_1, r38_2, r38_3, r38_4, r38_5, r38_6, r38_7, r38_8, r38_9, r38_10, r38_11]; simp; exact rfl) ?_
    | refine W_cond_t (by first | (simp; done) | fail) ?_
    | refine W_cond_f (by first | (simp; done) | fail) ?_
    | fail)
  exact ⟨.inr rfl, [.obj h.next 0, .int .i64 0], by simp [a38, resV, resV1], by simp [a38, packV], rfl⟩

end Go.Proofs.YtcngflmnbdcppaaGreat
