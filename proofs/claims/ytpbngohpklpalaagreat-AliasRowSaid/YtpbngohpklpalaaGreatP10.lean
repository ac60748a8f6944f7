/- A part of the proof: an abstract machine for the program's code and what each of its functions comes to there. No conditions. -/
import Derived.Test.YtpbngohpklpalaaGreatP09

set_option linter.unusedSimpArgs false
set_option linter.unusedVariables false

/- The checker: what is asked of each argument. -/
namespace Go.Proofs.YtpbngohpklpalaaGreat
open Go.LS Go.IntWalk
structure DefD where
 block : Int
 at_ : Int
 bits : Int
 lanes : Int
def DefD.v (d : DefD) : V := .agg [.int .i64 d.block, .int .i64 d.at_, .int .i64 d.bits, .int .i64 d.lanes]
def defsV (D : Int → Option DefD) : Int → Option V := fun j => (D j).map DefD.v
structure Knows (h : LS.Heap) (c bx m : Nat) (D : Int → Option DefD) : Prop where
 box : h.objs bx = some (.var [.obj c 0])
 chk : ∃ l1 l2 l3 l4 l5 l6 l7, h.objs c = some (.var [l1, l2, l3, l4, l5, l6, l7, .map (some m)])
 defs : h.objs m = some (.map .i64 (defsV D))
theorem Knows.ext {h h' : LS.Heap} {c bx m : Nat} {D : Int → Option DefD} (k : Knows h c bx m D) (hx : HExt h h') (h1 : c < h.next) (h2 : bx < h.next) (h3 : m < h.next) : Knows h' c bx m D :=
 ⟨by rw [hx.2 _ h2]; exact k.box, by rw [hx.2 _ h1]; exact k.chk, by rw [hx.2 _ h3]; exact k.defs⟩
theorem definedQ_run {h : LS.Heap} {c bx m : Nat} {D : Int → Option DefD} (k : Knows h c bx m D) {v : Int} {d : DefD} (hd : D v = some d) (s : Int × Int) (b at_ : Int) :
  callD T 199 [.int .i64 v, .agg (shapeC s), .int .i64 b, .int .i64 at_, .obj bx 0] h = some (.int .i64 0, h) := by
 obtain ⟨hb, ⟨l1, l2, l3, l4, l5, l6, l7, hc⟩, hm⟩ := k
 have hg : defsV D v = some (.agg [.int .i64 d.block, .int .i64 d.at_, .int .i64 d.bits, .int .i64 d.lanes]) := by simp [defsV, hd, DefD.v]
 refine W_call t199 rfl rfl (by simp) ?_
 show W T c199 _ _
 unfold c199
 repeat' (first | refine W_seq ?_ | refine W_skip ?_ | refine W_block ?_ | refine W_ret ?_ | refine W_exit ?_ | refine W_ops (s1 := ?_) (by simp [a199, nextVer, shapeC, hb, hc, hm, hg]; exact rfl) ?_ | refine W_tops (s1 := ?_) (by simp [a199, nextVer, shapeC, hb, hc, hm, hg]; exact rfl) ?_ | refine W_cond_t (by first | (simp [a199, nextVer, shapeC, hb, hc, hm, hg]; done) | fail) ?_ | refine W_cond_f (by first | (simp [a199, nextVer, shapeC, hb, hc, hm, hg]; done) | fail) ?_ | fail)
 exact ⟨.inr rfl, [.int .i64 0], by simp [a199, resV, resV1], by simp [a199, packV], rfl, .refl _⟩
theorem shapesQ_run {h : LS.Heap} {c bx m : Nat} {D : Int → Option DefD} (k : Knows h c bx m D) {v : Int} {d : DefD} (hd : D v = some d) (s : Int × Int) (hs : d.bits = s.1 ∧ d.lanes = s.2) (b at_ : Int) :
  callD T 200 [.int .i64 v, .agg (shapeC s), .int .i64 b, .int .i64 at_, .obj bx 0] h = some (.int .i64 0, h) := by
 obtain ⟨hb, ⟨l1, l2, l3, l4, l5, l6, l7, hc⟩, hm⟩ := k
 have hg : defsV D v = some (.agg [.int .i64 d.block, .int .i64 d.at_, .int .i64 d.bits, .int .i64 d.lanes]) := by simp [defsV, hd, DefD.v]
 obtain ⟨s1, s2⟩ := s
 obtain ⟨rfl, rfl⟩ := hs
 refine W_call t200 rfl rfl (by simp) ?_
 show W T c200 _ _
 unfold c200
 repeat' (first | refine W_seq ?_ | refine W_skip ?_ | refine W_block ?_ | refine W_ret ?_ | refine W_exit ?_ | refine W_ops (s1 := ?_) (by simp [a200, nextVer, shapeC, hb, hc, hm, hg]; exact rfl) ?_ | refine W_tops (s1 := ?_) (by simp [a200, nextVer, shapeC, hb, hc, hm, hg]; exact rfl) ?_ | refine W_cond_t (by first | (simp [a200, nextVer, shapeC, hb, hc, hm, hg]; done) | fail) ?_ | refine W_cond_f (by first | (simp [a200, nextVer, shapeC, hb, hc, hm, hg]; done) | fail) ?_ | fail)
 exact ⟨.inr rfl, [.int .i64 0], by simp [a200, resV, resV1], by simp [a200, packV], rfl, .refl _⟩
theorem placesQ_run {h : LS.Heap} {c bx m : Nat} {D : Int → Option DefD} (k : Knows h c bx m D) {v : Int} {d : DefD} (hd : D v = some d) (s : Int × Int) (b at_ : Int) (hp : d.block < 0 ∨ (d.block = b ∧ d.at_ < at_)) :
  callD T 201 [.int .i64 v, .agg (shapeC s), .int .i64 b, .int .i64 at_, .obj bx 0] h = some (.int .i64 0, h) := by
 obtain ⟨hb, ⟨l1, l2, l3, l4, l5, l6, l7, hc⟩, hm⟩ := k
 have hg : defsV D v = some (.agg [.int .i64 d.block, .int .i64 d.at_, .int .i64 d.bits, .int .i64 d.lanes]) := by simp [defsV, hd, DefD.v]
 refine W_call t201 rfl rfl (by simp) ?_
 show W T c201 _ _
 unfold c201
 by_cases h1 : d.block < 0
 ·skip
  repeat' (first | refine W_seq ?_ | refine W_skip ?_ | refine W_block ?_ | refine W_ret ?_ | refine W_exit ?_ | refine W_ops (s1 := ?_) (by simp [a201, nextVer, shapeC, hb, hc, hm, hg, h1]; exact rfl) ?_ | refine W_tops (s1 := ?_) (by simp [a201, nextVer, shapeC, hb, hc, hm, hg, h1]; exact rfl) ?_ | refine W_cond_t (by first | (simp [a201, nextVer, shapeC, hb, hc, hm, hg, h1]; done) | fail) ?_ | refine W_cond_f (by first | (simp [a201, nextVer, shapeC, hb, hc, hm, hg, h1]; done) | fail) ?_ | fail)
  exact ⟨.inr rfl, [.int .i64 0], by simp [a201, resV, resV1], by simp [a201, packV], rfl, .refl _⟩
 ·obtain ⟨h2, h3⟩ := hp.resolve_left h1
  subst h2
  repeat' (first | refine W_seq ?_ | refine W_skip ?_ | refine W_block ?_ | refine W_ret ?_ | refine W_exit ?_ | refine W_ops (s1 := ?_) (by simp [a201, nextVer, shapeC, hb, hc, hm, hg, h1, h3]; exact rfl) ?_ | refine W_tops (s1 := ?_) (by simp [a201, nextVer, shapeC, hb, hc, hm, hg, h1, h3]; exact rfl) ?_ | refine W_cond_t (by first | (simp [a201, nextVer, shapeC, hb, hc, hm, hg, h1, h3]; done) | fail) ?_ | refine W_cond_f (by first | (simp [a201, nextVer, shapeC, hb, hc, hm, hg, h1, h3]; done) | fail) ?_ | fail)
  exact ⟨.inr rfl, [.int .i64 0], by simp [a201, resV, resV1], by simp [a201, packV], rfl, .refl _⟩
def Asks (A : FuncId) (bx : Nat) (h0 : LS.Heap) (v : Int) (s : Int × Int) (at_ : Int) : Prop := ∀ h', HExt h0 h' → callD T A [.int .i64 v, .agg (shapeC s), .int .i64 0, .int .i64 at_, .obj bx 0] h' = some (.int .i64 0, h')
theorem uses_swaps : ordBut r198_25 p198_25 [(0, 2), (0, 3), (0, 4), (0, 5), (2, 7), (3, 7), (4, 7), (5, 7), (6, 7)] = true := by kernel_rfl
theorem uses_swap (call : CallT) : ∀ a i x y, (a, i) ∈ [(0, 2), (0, 3), (0, 4), (0, 5), (2, 7), (3, 7), (4, 7), (5, 7), (6, 7)] → r198_25[a]? = some x → r198_25[i]? = some y → Swap call x y := by
 intro a i x y hm hx hy
 simp only [List.mem_cons, Prod.mk.injEq, List.not_mem_nil, or_false] at hm
 unfold r198_25 at hx hy
 rcases hm with ⟨rfl, rfl⟩ | ⟨rfl, rfl⟩ | ⟨rfl, rfl⟩ | ⟨rfl, rfl⟩ | ⟨rfl, rfl⟩ | ⟨rfl, rfl⟩ | ⟨rfl, rfl⟩ | ⟨rfl, rfl⟩ | ⟨rfl, rfl⟩ <;> (simp only [List.getElem?_cons_zero, List.getElem?_cons_succ, Option.some.injEq] at hx hy; subst hx hy)
 ·exact swap_mkmap_read (.inl rfl) (by decide) (by decide)
 ·exact swap_mkmap_read (.inr (.inl ⟨_, rfl⟩)) (by decide) (by decide)
 ·exact swap_mkmap_read (.inr (.inl ⟨_, rfl⟩)) (by decide) (by decide)
 ·exact swap_mkmap_read (.inr (.inr ⟨_, _, rfl⟩)) (by decide) (by decide)
 ·exact swap_read_mapset (.inl rfl) (by decide) (fun _ _ => rfl)
 ·exact swap_read_mapset (.inr (.inl ⟨_, rfl⟩)) (by decide) (fun _ _ => rfl)
 ·exact swap_read_mapset (.inr (.inl ⟨_, rfl⟩)) (by decide) (fun _ _ => rfl)
 ·exact swap_read_mapset (.inr (.inr ⟨_, _, rfl⟩)) (by decide) (fun _ _ => rfl)
 ·exact swap_mapset_mapset (by decide) (fun _ _ => rfl) (fun _ _ => rfl)

end Go.Proofs.YtpbngohpklpalaaGreat

/- The checker: something is asked of each argument of a straight function. -/
namespace Go.Proofs.YtpbngohpklpalaaGreat
open Go.LS Go.IntWalk
theorem shapes_getElem {l : List (Int × Int)} {j : Nat} (h : j < l.length) : (l.map shapeC)[j]? = some [.int .i64 l[j].1, .int .i64 l[j].2] := by simp [shapeC, h]
theorem uses_run (x : Straight) (c bx : Nat) (A : FuncId) (h : LS.Heap) (hcn : c < h.next) {succ pred tree : List (List V)} {ts tp tt : Tag} {m : Option Nat} (hc : h.objs c = some (.var (chkC x.f succ pred tree ts tp tt m)))
  (hfit : x.f.Fit) (hT : ∀ o ∈ x.ops, TakesOK o) (hret : x.ret ≠ 0)
  (ho : ∀ k (hk : k < x.ops.length) j (hj : j < (takeL x.ops[k]).length), ∃ v, x.ops[k].args[j]? = some v ∧ Asks A bx h v (takeL x.ops[k])[j] k)
  (he : Asks A bx h x.arg (x.ret, 1) 1048576) :
  ∃ h', callD T 198 [.obj c 0, .fn A [] [.obj bx 0]] h = some (.int .i64 0, h') ∧ HExt h h' := by
 obtain ⟨f1, f2, f3⟩ := hfit
 obtain ⟨g1, g2, g3, g4, g5⟩ := f3 x.b (by simp [Straight.f])
 have g2 : x.ops.length < 2 ^ 40 := g2
 unfold chkC at hc
 have hbk : x.f.blocks.map BlockD.c = [[.lst .ro [], .lst .ro (x.ops.map OpD.c), .int .i64 0, .int .i64 x.arg, .lst .ro []]] := rfl
 have hr : x.f.ret = x.ret := rfl
 have hp : x.f.params = x.ps := rfl
 rw [hbk, hr, hp] at hc
 have w1 : IntKind.i64.wrap 1 = 1 := i64_in _ (by omega)
 refine W_callE t198 rfl rfl (by simp) ?_
 show W T c198 _ _
 unfold c198
 refine W_seq (W_ops (s1 := ?_) (by simp only [r198_0]; simp [a198]; exact rfl) ?_)
 refine W_scope (W_seq (W_ops (s1 := ?_) (by simp only [r198_1]; simp; exact rfl) ?_))
 refine W_seq (W_seq (W_ops (s1 := ?_) (by simp only [r198_2]; simp [hc]; exact rfl) ?_))
 refine W_block (W_loop' l198_0.eq_1 ?_)
 refine W_seq (W_ops (s1 := ?_) (by simp only [r198_3]; simp; exact rfl) ?_)
 refine W_seq (W_cond_t (by simp) (W_skip ?_))
 refine W_seq (W_block (W_seq (W_ops (s1 := ?_) (by simp only [r198_4]; simp [nextVer]; exact rfl) ?_)))
 -- no phis
 refine W_seq (W_seq (W_ops (s1 := ?_) (by simp only [r198_5]; simp; exact rfl) ?_))
 refine W_block (W_loop' l198_1.eq_1 ?_)
 refine W_seq (W_ops (s1 := ?_) (by simp only [r198_6]; simp; exact rfl) ?_)
 refine W_seq (W_cond_f (by simp) (W_exit ?_))
 -- operations
 refine W_seq (W_seq (W_ops (s1 := ?_) (by simp only [r198_15]; simp; exact rfl) ?_))
 refine W_block (W_for' l198_3.eq_1 (n := x.ops.length) (fun i s => s.t 0 = .obj c 0 ∧ s.t 1 = .fn A [] [.obj bx 0] ∧ s.t 5 = .int .i64 0 ∧ s.t 6 = .int .i64 0 ∧ s.t 7 = .loc 7 0 0 ∧ s.loc 7 = some (0, [.lst .ro [], .lst .ro (x.ops.map OpD.c), .int .i64 0, .int .i64 x.arg, .lst .ro []]) ∧
  s.t 22 = .int .i64 1 ∧ s.t 23 = .int .i64 0 ∧ s.t 59 = .lst .ro (x.ops.map OpD.c) ∧ s.t 60 = .int .i64 x.ops.length ∧ s.t 61 = .int .i64 i ∧ s.h = h) ⟨by simp, by simp, by simp, by simp, by simp, by simp, by simp, by simp, by simp, by simp, by simp, rfl⟩ ?_ ?_)
 ·rintro i ⟨t, loc, h'⟩ hi ⟨t0, t1, t5, t6, t7, l7, t22, t23, t59, t60, t61, hh⟩
  simp only at t0 t1 t5 t6 t7 l7 t22 t23 t59 t60 t61 hh
  subst hh
  have hl1 : ((i : Int) < x.ops.length) := by omega
  have hw := i64_succ (show i < 2 ^ 62 by omega)
  have hE := opc_eq x.ops[i]
  have eT := Takes_run x.ops[i] (hT _ (List.getElem_mem hi)) (g5 _ (List.getElem_mem hi)) h'
  rw [hE] at eT
  have htl : (takeL x.ops[i]).length < 2 ^ 40 := by
   have h1 : x.ops[i].args.length < 2 ^ 40 := g5 _ (List.getElem_mem hi)
   rcases Nat.lt_or_ge (x.ops[i].args.length) (takeL x.ops[i]).length with h2 | h2
   ·obtain ⟨v, h3, _⟩ := ho i hi _ h2
    have := (List.getElem?_eq_some_iff.1 h3).1
    omega
   ·omega
  refine W_seq (W_ops (s1 := ?_) (by simp only [r198_16]; simp [t60, t61, hl1, hi]; exact rfl) ?_)
  refine W_seq (W_cond_t (by simp) (W_skip ?_))
  refine W_seq (W_block (W_seq (W_ops (s1 := ?_) (by simp only [r198_17]; simp [t59, t60, t61, hi, hE]; exact rfl) ?_)))
  refine W_seq (W_ops (s1 := ?_) (by simp only [r198_18]; simp [eT]; exact rfl) ?_)
  generalize hver : nextVer loc 13 = ver
  refine W_block (W_for' l198_4.eq_1 (n := (takeL x.ops[i]).length) (fun j s => s.t 0 = .obj c 0 ∧ s.t 1 = .fn A [] [.obj bx 0] ∧ s.t 5 = .int .i64 0 ∧ s.t 6 = .int .i64 0 ∧ s.t 7 = .loc 7 0 0 ∧ s.loc 7 = some (0, [.lst .ro [], .lst .ro (x.ops.map OpD.c), .int .i64 0, .int .i64 x.arg, .lst .ro []]) ∧
   s.t 22 = .int .i64 1 ∧ s.t 23 = .int .i64 0 ∧ s.t 59 = .lst .ro (x.ops.map OpD.c) ∧ s.t 60 = .int .i64 x.ops.length ∧ s.t 61 = .int .i64 i ∧ s.t 12 = .int .i64 i ∧ s.t 13 = .loc 13 ver 0 ∧ s.loc 13 = some (ver, [.int .i64 x.ops[i].kind, .int .i64 x.ops[i].bits, .int .i64 x.ops[i].lanes, .int .i64 x.ops[i].dst, .lst .ro (x.ops[i].args.map intC), .int .u64 x.ops[i].imm]) ∧
   s.t 67 = .lst .ro ((takeL x.ops[i]).map shapeC) ∧ s.t 68 = .int .i64 (takeL x.ops[i]).length ∧ s.t 69 = .int .i64 j ∧ s.h = h') ⟨by simp [t0], by simp [t1], by simp [t5], by simp [t6], by simp [t7], by simp [l7], by simp [t22], by simp [t23], by simp [t59], by simp [t60], by simp [t61], by simp, by simp, by simp, by simp, by simp, by simp, rfl⟩ ?_ ?_)
  ·clear t0 t1 t5 t6 t7 l7 t22 t23 t59 t60 t61 hver
   rintro j ⟨t, loc, h2⟩ hj ⟨t0, t1, t5, t6, t7, l7, t22, t23, t59, t60, t61, t12, t13, l13, t67, t68, t69, hh⟩
   simp only at t0 t1 t5 t6 t7 l7 t22 t23 t59 t60 t61 t12 t13 l13 t67 t68 t69 hh
   subst hh
   obtain ⟨v, ha, hq⟩ := ho i hi j hj
   have hq := hq h2 (.refl h2)
   have hl2 : ((j : Int) < (takeL x.ops[i]).length) := by omega
   have hw2 := i64_succ (show j < 2 ^ 62 by omega)
   obtain ⟨hjl, ha⟩ := List.getElem?_eq_some_iff.1 ha
   have hSh : shapeC (takeL x.ops[i])[j] = [.int .i64 (takeL x.ops[i])[j].1, .int .i64 (takeL x.ops[i])[j].2] := rfl
   rw [hSh] at hq
   have hIn : intC x.ops[i].args[j] = [.int .i64 v] := by rw [ha]; rfl
   repeat' (first | refine W_seq ?_ | refine W_skip ?_ | refine W_block ?_ | refine W_ret ?_ | refine W_exit ?_ | refine W_ops (s1 := ?_) (by simp [t0, t1, t5, t6, t7, l7, t12, t13, l13, t67, t68, t69, hl2, hj, hSh, hjl, hIn, hq, hw2]; exact rfl) ?_ | refine W_tops (s1 := ?_) (by simp [t0, t1, t5, t6, t7, l7, t12, t13, l13, t67, t68, t69, hl2, hj, hSh, hjl, hIn, hq, hw2]; exact rfl) ?_ | refine W_cond_t (by first | (simp [t0, t1, t5, t6, t7, l7, t12, t13, l13, t67, t68, t69, hl2, hj, hSh, hjl, hIn, hq, hw2]; done) | fail) ?_ | refine W_cond_f (by first | (simp [t0, t1, t5, t6, t7, l7, t12, t13, l13, t67, t68, t69, hl2, hj, hSh, hjl, hIn, hq, hw2]; done) | fail) ?_ | fail)
   exact .inl ⟨rfl, by simp [t0], by simp [t1], by simp, by simp [t6], by simp [t7], by simp [l7], by simp [t22], by simp [t23], by simp [t59], by simp [t60], by simp [t61], by simp [t12], by simp [t13], by simp [l13], by simp [t67], by simp [t68], by simp, rfl⟩
  ·clear t0 t1 t5 t6 t7 l7 t22 t23 t59 t60 t61 hver
   rintro ⟨t, loc, h2⟩ ⟨t0, t1, t5, t6, t7, l7, t22, t23, t59, t60, t61, t12, t13, l13, t67, t68, t69, hh⟩
   simp only at t0 t1 t5 t6 t7 l7 t22 t23 t59 t60 t61 t12 t13 l13 t67 t68 t69 hh
   subst hh
   repeat' (first | refine W_seq ?_ | refine W_skip ?_ | refine W_block ?_ | refine W_ret ?_ | refine W_exit ?_ | refine W_ops (s1 := ?_) (by simp [t68, t69]; exact rfl) ?_ | refine W_tops (s1 := ?_) (by simp [t68, t69]; exact rfl) ?_ | refine W_cond_t (by first | (simp [t68, t69]; done) | fail) ?_ | refine W_cond_f (by first | (simp [t68, t69]; done) | fail) ?_ | fail)
   refine ⟨by simp, ?_⟩
   repeat' (first | refine W_seq ?_ | refine W_skip ?_ | refine W_block ?_ | refine W_ret ?_ | refine W_exit ?_ | refine W_ops (s1 := ?_) (by simp [t61, hw]; exact rfl) ?_ | refine W_tops (s1 := ?_) (by simp [t61, hw]; exact rfl) ?_ | refine W_cond_t (by first | (simp [t61, hw]; done) | fail) ?_ | refine W_cond_f (by first | (simp [t61, hw]; done) | fail) ?_ | fail)
   exact .inl ⟨rfl, by simp [t0], by simp [t1], by simp [t5], by simp [t6], by simp [t7], by simp [l7], by simp [t22], by simp [t23], by simp [t59], by simp [t60], by simp, rfl⟩
 ·rintro ⟨t, loc, h'⟩ ⟨t0, t1, t5, t6, t7, l7, t22, t23, t59, t60, t61, hh⟩
  simp only at t0 t1 t5 t6 t7 l7 t22 t23 t59 t60 t61 hh
  subst hh
  refine W_seq (W_ops (s1 := ?_) (by simp only [r198_16]; simp [t60, t61]; exact rfl) ?_)
  refine W_seq (W_cond_f (by simp) (W_exit ?_))
  refine ⟨by simp, ?_⟩
  have hne : c ≠ h'.next := by omega
  refine W_seq (W_dops_swap uses_swaps (uses_swap _) (s1 := ?_) (by simp only [r198_25]; simp [t0, t7, l7, Heap.new, Heap.set, upd, hne, hc]; exact rfl) ?_)
  generalize hH : LS.Heap.mk _ _ = h2
  have hx : HExt h' h2 := by
   rw [← hH]
   refine ⟨by simp, fun id hid => ?_⟩
   have hid' : id ≠ h'.next := by omega
   simp [upd, hid']
  have he := he h2 hx
  simp only [shapeC] at he
  have es := scalar_run x.ret h2
  repeat' (first | refine W_seq ?_ | refine W_skip ?_ | refine W_block ?_ | refine W_ret ?_ | refine W_exit ?_ | refine W_ops (s1 := ?_) (by simp [t1, t6, t7, l7, t23, hret, es, he, w1]; exact rfl) ?_ | refine W_tops (s1 := ?_) (by simp [t1, t6, t7, l7, t23, hret, es, he, w1]; exact rfl) ?_ | refine W_cond_t (by first | (simp [t1, t6, t7, l7, t23, hret, es, he, w1]; done) | fail) ?_ | refine W_cond_f (by first | (simp [t1, t6, t7, l7, t23, hret, es, he, w1]; done) | fail) ?_ | fail)
  refine W_loop' l198_0.eq_1 ?_
  repeat' (first | refine W_seq ?_ | refine W_skip ?_ | refine W_block ?_ | refine W_ret ?_ | refine W_exit ?_ | refine W_ops (s1 := ?_) (by simp [t22, w1]; exact rfl) ?_ | refine W_tops (s1 := ?_) (by simp [t22, w1]; exact rfl) ?_ | refine W_cond_t (by first | (simp [t22, w1]; done) | fail) ?_ | refine W_cond_f (by first | (simp [t22, w1]; done) | fail) ?_ | fail)
  refine W_label ?_
  repeat' (first | refine W_seq ?_ | refine W_skip ?_ | refine W_block ?_ | refine W_ret ?_ | refine W_exit ?_ | refine W_ops (s1 := ?_) (by simp; exact rfl) ?_ | refine W_tops (s1 := ?_) (by simp; exact rfl) ?_ | refine W_cond_t (by first | (simp; done) | fail) ?_ | refine W_cond_f (by first | (simp; done) | fail) ?_ | fail)
  exact ⟨by simp, .inr rfl, [.int .i64 0], by simp [a198, resV, resV1], by simp [a198, packV], hx⟩

end Go.Proofs.YtpbngohpklpalaaGreat

/- The checker: each value of a straight function is defined once. -/
namespace Go.Proofs.YtpbngohpklpalaaGreat
open Go.LS Go.IntWalk
def Dp (ps : List Int) : Nat → Int → Option DefD
 | 0 => fun _ => none
 | i + 1 => fun j => if j = (i : Int) + 1 then some ⟨-1, 0, ps.getD i 0, 1⟩ else Dp ps i j
def Do (x : Straight) : Nat → Int → Option DefD
 | 0 => Dp x.ps x.ps.length
 | k + 1 => match x.ops[k]? with
  | some o => if 0 < (giveM o).1 then fun j => if j = o.dst then some ⟨0, k, (giveM o).1, (giveM o).2⟩ else Do x k j else Do x k
  | none => Do x k
def Straight.D (x : Straight) : Int → Option DefD := Do x x.ops.length
theorem Dp_none (ps : List Int) : ∀ (i : Nat) (j : Int), (i : Int) < j → Dp ps i j = none
 | 0, _, _ => rfl
 | i + 1, j, h => by
  simp only [Dp]
  rw [if_neg (by omega)]
  exact Dp_none ps i j (by omega)
theorem defsV_add (D : Int → Option DefD) (v : Int) (d : DefD) : defsV (fun j => if j = v then some d else D j) = addM (defsV D) v d.v := by
 funext j
 simp only [defsV, addM]
 split <;> rfl
theorem defined_swaps : ordBut r169_5 p169_5 [(0, 4)] = true := by kernel_rfl
theorem defined_swap : ∀ a i x y, (a, i) ∈ [(0, 4)] → r169_5[a]? = some x → r169_5[i]? = some y → Swap (callD T) x y := by
 intro a i x y hm hx hy
 simp only [List.mem_cons, Prod.mk.injEq, List.not_mem_nil, or_false] at hm
 unfold r169_5 at hx hy
 obtain ⟨rfl, rfl⟩ := hm
 simp only [List.getElem?_cons_zero, List.getElem?_cons_succ, Option.some.injEq] at hx hy
 subst hx hy
 exact swap_read_call (.inr (.inr ⟨_, _, rfl⟩)) t196 rfl rfl (by decide) (by decide) (fun _ _ => rfl)
structure Laying (x : Straight) (h0 h : LS.Heap) (c : Nat) (succ pred tree : List (List V)) (ts tp tt : Tag) (D : Int → Option DefD) : Prop where
 next : h.next = h0.next + 2
 box : h.objs h0.next = some (.var [.obj c 0])
 chk : h.objs c = some (.var (chkC x.f succ pred tree ts tp tt (some (h0.next + 1))))
 defs : h.objs (h0.next + 1) = some (.map .i64 (defsV D))
 old : ∀ id, id < h0.next → id ≠ c → h.objs id = h0.objs id
theorem Laying.put {x : Straight} {h0 h : LS.Heap} {c : Nat} {succ pred tree : List (List V)} {ts tp tt : Tag} {D : Int → Option DefD} (L : Laying x h0 h c succ pred tree ts tp tt D) (hcn : c < h0.next) (v : Int) (d : DefD) (hv : D v = none) :
  callD T 195 [.obj c 0, .int .i64 v, .agg [.int .i64 d.block, .int .i64 d.at_, .int .i64 d.bits, .int .i64 d.lanes]] h = some (.bool true, h.set (h0.next + 1) (.map .i64 (addM (defsV D) v d.v))) ∧
  Laying x h0 (h.set (h0.next + 1) (.map .i64 (addM (defsV D) v d.v))) c succ pred tree ts tp tt (fun j => if j = v then some d else D j) := by
 obtain ⟨l1, l2, l3, l4, l5⟩ := L
 refine ⟨put_run c (h0.next + 1) v d.block d.at_ d.bits d.lanes h l3 l4 (by omega) (by simp [defsV, hv]), l1, ?_, ?_, ?_, fun id h1 h2 => ?_⟩
 ·simp only [Heap.set, upd]; rw [if_neg (by omega)]; exact l2
 ·simp only [Heap.set, upd]; rw [if_neg (by omega)]; exact l3
 ·simp only [Heap.set, upd, if_true]; rw [defsV_add]
 ·simp only [Heap.set, upd]; rw [if_neg (by omega)]; exact l5 id h1 h2
theorem defined_run (x : Straight) (c : Nat) (h : LS.Heap) (hcn : c < h.next) {succ pred tree : List (List V)} {ts tp tt : Tag} {m : Option Nat} (hc : h.objs c = some (.var (chkC x.f succ pred tree ts tp tt m)))
  (hfit : x.f.Fit) (hT : ∀ o ∈ x.ops, TakesOK o) (hret : x.ret ≠ 0) (honce : ∀ k (hk : k < x.ops.length), 0 < (giveM x.ops[k]).1 → Do x k x.ops[k].dst = none)
  (ho : ∀ k (hk : k < x.ops.length) j (hj : j < (takeL x.ops[k]).length), ∃ v d, x.ops[k].args[j]? = some v ∧ x.D v = some d) (he : ∃ d, x.D x.arg = some d) :
  ∃ h', callD T 169 [.obj c 0] h = some (.int .i64 0, h') ∧ h.next + 2 ≤ h'.next ∧ h'.objs c = some (.var (chkC x.f succ pred tree ts tp tt (some (h.next + 1)))) ∧ h'.objs (h.next + 1) = some (.map .i64 (defsV x.D)) ∧
   ∀ id, id < h.next → id ≠ c → h'.objs id = h.objs id := by
 have hfit' := hfit
 obtain ⟨f1, f2, f3⟩ := hfit
 obtain ⟨g1, g2, g3, g4, g5⟩ := f3 x.b (by simp [Straight.f])
 have g2 : x.ops.length < 2 ^ 40 := g2
 have f1 : x.ps.length < 2 ^ 40 := f1
 have hbk : x.f.blocks.map BlockD.c = [[.lst .ro [], .lst .ro (x.ops.map OpD.c), .int .i64 0, .int .i64 x.arg, .lst .ro []]] := rfl
 have hr : x.f.ret = x.ret := rfl
 have hp : x.f.params = x.ps := rfl
 have hcC : ∀ m, chkC x.f succ pred tree ts tp tt m = [.lst .ro (x.ps.map intC), .int .i64 x.ret, .lst .ro [[.lst .ro [], .lst .ro (x.ops.map OpD.c), .int .i64 0, .int .i64 x.arg, .lst .ro []]], .int .i64 2, .lst ts succ, .lst tp pred, .lst tt tree, .map m] := fun m => rfl
 have w1 : IntKind.i64.wrap 1 = 1 := i64_in _ (by omega)
 have hne1 : c ≠ h.next := by omega
 have hne2 : c ≠ h.next + 1 := by omega
 rw [hcC] at hc
 refine W_callE t169 rfl rfl (by simp) ?_
 show W T c169 _ _
 unfold c169
 refine W_seq (W_ops (s1 := ?_) (by simp only [r169_0]; simp [a169, Heap.new]; exact rfl) ?_)
 refine W_seq (W_ops (s1 := ?_) (by simp only [r169_1]; simp [Heap.new, Heap.set, hne1, hne2, hc]; exact rfl) ?_)
 generalize hH : LS.Heap.mk _ _ = h1
 have L0 : Laying x h h1 c succ pred tree ts tp tt (Dp x.ps 0) := by
  rw [← hH]
  refine ⟨by simp, ?_, ?_, ?_, fun id h1 h2 => ?_⟩
  ·simp [upd, Ne.symm hne1]
  ·simp [upd, hcC]
  ·simp [upd, Ne.symm hne2]; rfl
  ·have q1 : id ≠ h.next := by omega
   have q2 : id ≠ h.next + 1 := by omega
   simp [upd, h2, q1, q2]
 clear hH hc
 -- parameters
 have hc0 := L0.chk
 rw [hcC] at hc0
 have hb0 := L0.box
 refine W_seq (W_seq (W_ops (s1 := ?_) (by simp only [r169_2]; simp [hb0, hc0]; exact rfl) ?_))
 refine W_block (W_for' l169_0.eq_1 (n := x.ps.length) (fun i s => s.t 1 = .obj h.next 0 ∧ s.t 21 = .lst .ro (x.ps.map intC) ∧ s.t 22 = .int .i64 x.ps.length ∧ s.t 23 = .int .i64 i ∧ Laying x h s.h c succ pred tree ts tp tt (Dp x.ps i)) ⟨by simp, by simp, by simp, by simp, L0⟩ ?_ ?_)
 ·rintro i ⟨t, loc, h2⟩ hi ⟨t1, t21, t22, t23, L⟩
  simp only at t1 t21 t22 t23 L
  have hl1 : ((i : Int) < x.ps.length) := by omega
  have hw := i64_succ (show i < 2 ^ 62 by omega)
  have hE : intC x.ps[i] = [.int .i64 x.ps[i]] := rfl
  have hb := L.box
  have es := scalar_run x.ps[i] h2
  obtain ⟨p1, p2⟩ := L.put hcn ((i : Int) + 1) ⟨-1, 0, x.ps[i], 1⟩ (Dp_none _ _ _ (by omega))
  simp only at p1
  have hD : Dp x.ps (i + 1) = fun j => if j = (i : Int) + 1 then some ⟨-1, 0, x.ps[i], 1⟩ else Dp x.ps i j := by
   funext j
   simp [Dp, hi]
  rw [← hD] at p2
  refine W_seq (W_ops (s1 := ?_) (by simp only [r169_3]; simp [t22, t23, hl1, hi]; exact rfl) ?_)
  refine W_seq (W_cond_t (by simp) (W_skip ?_))
  refine W_seq (W_block (W_seq (W_ops (s1 := ?_) (by simp only [r169_4]; simp [t21, t23, hi, hE]; exact rfl) ?_)))
  refine W_dops_swap defined_swaps defined_swap (s1 := ?_) (by simp only [r169_5]; simp [t1, hb, es, hw, p1]; exact rfl) ?_
  repeat' (first | refine W_seq ?_ | refine W_skip ?_ | refine W_block ?_ | refine W_ret ?_ | refine W_exit ?_ | refine W_ops (s1 := ?_) (by simp [t23, hw]; exact rfl) ?_ | refine W_tops (s1 := ?_) (by simp [t23, hw]; exact rfl) ?_ | refine W_cond_t (by first | (simp [t23, hw]; done) | fail) ?_ | refine W_cond_f (by first | (simp [t23, hw]; done) | fail) ?_ | fail)
  exact .inl ⟨rfl, by simp [t1], by simp [t21], by simp [t22], by simp, p2⟩
 ·rintro ⟨t, loc, h2⟩ ⟨t1, t21, t22, t23, L⟩
  simp only at t1 t21 t22 t23 L
  repeat' (first | refine W_seq ?_ | refine W_skip ?_ | refine W_block ?_ | refine W_ret ?_ | refine W_exit ?_ | refine W_ops (s1 := ?_) (by simp [t22, t23]; exact rfl) ?_ | refine W_tops (s1 := ?_) (by simp [t22, t23]; exact rfl) ?_ | refine W_cond_t (by first | (simp [t22, t23]; done) | fail) ?_ | refine W_cond_f (by first | (simp [t22, t23]; done) | fail) ?_ | fail)
  refine ⟨by simp, ?_⟩
  have hc1 := L.chk
  rw [hcC] at hc1
  have hb1 := L.box
  -- the block
  refine W_seq (W_seq (W_ops (s1 := ?_) (by simp only [r169_7]; simp [t1, hb1, hc1]; exact rfl) ?_))
  refine W_block (W_loop' l169_1.eq_1 ?_)
  refine W_seq (W_ops (s1 := ?_) (by simp only [r169_8]; simp; exact rfl) ?_)
  refine W_seq (W_cond_t (by simp) (W_skip ?_))
  refine W_seq (W_block (W_seq (W_ops (s1 := ?_) (by simp only [r169_9]; simp; exact rfl) ?_)))
  refine W_seq (W_seq (W_ops (s1 := ?_) (by simp only [r169_10]; simp; exact rfl) ?_))
  refine W_block (W_loop' l169_2.eq_1 ?_)
  refine W_seq (W_ops (s1 := ?_) (by simp only [r169_11]; simp; exact rfl) ?_)
  refine W_seq (W_cond_f (by simp) (W_exit ?_))
  refine W_seq (W_ops (s1 := ?_) (by simp only [r169_16]; simp; exact rfl) ?_)
  refine W_block (W_for' l169_3.eq_1 (n := x.ops.length) (fun i s => s.t 1 = .obj h.next 0 ∧ s.t 5 = .int .i64 0 ∧ s.t 41 = .int .i64 1 ∧ s.t 42 = .int .i64 0 ∧ s.t 76 = .lst .ro (x.ops.map OpD.c) ∧ s.t 77 = .int .i64 x.ops.length ∧ s.t 78 = .int .i64 i ∧ Laying x h s.h c succ pred tree ts tp tt (Do x i)) ⟨by simp [t1], by simp, by simp, by simp, by simp, by simp, by simp, L⟩ ?_ ?_)
  ·clear t1 t21 t22 t23 L hc1 hb1
   rintro i ⟨t, loc, h2⟩ hi ⟨t1, t5, t41, t42, t76, t77, t78, L⟩
   simp only at t1 t5 t41 t42 t76 t77 t78 L
   have hl1 : ((i : Int) < x.ops.length) := by omega
   have hw := i64_succ (show i < 2 ^ 62 by omega)
   have hE := opc_eq x.ops[i]
   have eG := Gives_run x.ops[i] (hT _ (List.getElem_mem hi)) (g5 _ (List.getElem_mem hi)) h2
   rw [hE] at eG
   have hb := L.box
   by_cases hg : 0 < (giveM x.ops[i]).1
   ·obtain ⟨p1, p2⟩ := L.put hcn x.ops[i].dst ⟨0, i, (giveM x.ops[i]).1, (giveM x.ops[i]).2⟩ (honce i hi hg)
    simp only at p1
    have hD : Do x (i + 1) = fun j => if j = x.ops[i].dst then some ⟨0, i, (giveM x.ops[i]).1, (giveM x.ops[i]).2⟩ else Do x i j := by
     simp [Do, hi, hg]
    rw [← hD] at p2
    repeat' (first | refine W_seq ?_ | refine W_skip ?_ | refine W_block ?_ | refine W_ret ?_ | refine W_exit ?_ | refine W_ops (s1 := ?_) (by simp [t1, t5, t76, t77, t78, hl1, hi, hE, eG, hg, hb, p1, hw]; exact rfl) ?_ | refine W_tops (s1 := ?_) (by simp [t1, t5, t76, t77, t78, hl1, hi, hE, eG, hg, hb, p1, hw]; exact rfl) ?_ | refine W_cond_t (by first | (simp [t1, t5, t76, t77, t78, hl1, hi, hE, eG, hg, hb, p1, hw]; done) | fail) ?_ | refine W_cond_f (by first | (simp [t1, t5, t76, t77, t78, hl1, hi, hE, eG, hg, hb, p1, hw]; done) | fail) ?_ | fail)
    exact .inl ⟨rfl, by simp [t1], by simp [t5], by simp [t41], by simp [t42], by simp [t76], by simp [t77], by simp, p2⟩
   ·have hD : Do x (i + 1) = Do x i := by simp [Do, hi, hg]
    repeat' (first | refine W_seq ?_ | refine W_skip ?_ | refine W_block ?_ | refine W_ret ?_ | refine W_exit ?_ | refine W_ops (s1 := ?_) (by simp [t1, t5, t76, t77, t78, hl1, hi, hE, eG, hg, hw]; exact rfl) ?_ | refine W_tops (s1 := ?_) (by simp [t1, t5, t76, t77, t78, hl1, hi, hE, eG, hg, hw]; exact rfl) ?_ | refine W_cond_t (by first | (simp [t1, t5, t76, t77, t78, hl1, hi, hE, eG, hg, hw]; done) | fail) ?_ | refine W_cond_f (by first | (simp [t1, t5, t76, t77, t78, hl1, hi, hE, eG, hg, hw]; done) | fail) ?_ | fail)
    exact .inl ⟨rfl, by simp [t1], by simp [t5], by simp [t41], by simp [t42], by simp [t76], by simp [t77], by simp, by rw [hD]; exact L⟩
  ·clear t1 t21 t22 t23 L hc1 hb1
   rintro ⟨t, loc, h2⟩ ⟨t1, t5, t41, t42, t76, t77, t78, L⟩
   simp only at t1 t5 t41 t42 t76 t77 t78 L
   repeat' (first | refine W_seq ?_ | refine W_skip ?_ | refine W_block ?_ | refine W_ret ?_ | refine W_exit ?_ | refine W_ops (s1 := ?_) (by simp [t77, t78]; exact rfl) ?_ | refine W_tops (s1 := ?_) (by simp [t77, t78]; exact rfl) ?_ | refine W_cond_t (by first | (simp [t77, t78]; done) | fail) ?_ | refine W_cond_f (by first | (simp [t77, t78]; done) | fail) ?_ | fail)
   refine ⟨by simp, ?_⟩
   repeat' (first | refine W_seq ?_ | refine W_skip ?_ | refine W_block ?_ | refine W_ret ?_ | refine W_exit ?_ | refine W_ops (s1 := ?_) (by simp [t42, w1]; exact rfl) ?_ | refine W_tops (s1 := ?_) (by simp [t42, w1]; exact rfl) ?_ | refine W_cond_t (by first | (simp [t42, w1]; done) | fail) ?_ | refine W_cond_f (by first | (simp [t42, w1]; done) | fail) ?_ | fail)
   refine W_loop' l169_1.eq_1 ?_
   repeat' (first | refine W_seq ?_ | refine W_skip ?_ | refine W_block ?_ | refine W_ret ?_ | refine W_exit ?_ | refine W_ops (s1 := ?_) (by simp [t41, w1]; exact rfl) ?_ | refine W_tops (s1 := ?_) (by simp [t41, w1]; exact rfl) ?_ | refine W_cond_t (by first | (simp [t41, w1]; done) | fail) ?_ | refine W_cond_f (by first | (simp [t41, w1]; done) | fail) ?_ | fail)
   have kn : Knows h2 c h.next (h.next + 1) x.D := ⟨L.box, ⟨_, _, _, _, _, _, _, L.chk⟩, L.defs⟩
   have hn := L.next
   obtain ⟨d, hd⟩ := he
   obtain ⟨h3, u1, u2⟩ := uses_run x c h.next 199 h2 (by omega) L.chk hfit' hT hret
    (fun k hk j hj => by
     obtain ⟨v, d, q1, q2⟩ := ho k hk j hj
     exact ⟨v, q1, fun h' hx => definedQ_run (kn.ext hx (by omega) (by omega) (by omega)) q2 _ _ _⟩)
    (fun h' hx => definedQ_run (kn.ext hx (by omega) (by omega) (by omega)) hd _ _ _)
   have hb := L.box
   repeat' (first | refine W_seq ?_ | refine W_skip ?_ | refine W_block ?_ | refine W_ret ?_ | refine W_exit ?_ | refine W_ops (s1 := ?_) (by simp [t1, hb, u1]; exact rfl) ?_ | refine W_tops (s1 := ?_) (by simp [t1, hb, u1]; exact rfl) ?_ | refine W_cond_t (by first | (simp [t1, hb, u1]; done) | fail) ?_ | refine W_cond_f (by first | (simp [t1, hb, u1]; done) | fail) ?_ | fail)
   refine ⟨.inr rfl, [.int .i64 0], by simp [a169, resV, resV1], by simp [a169, packV], ?_, ?_, ?_, fun id h4 h5 => ?_⟩
   ·have := u2.1; simp only; omega
   ·simp only; rw [u2.2 _ (by omega)]; exact L.chk
   ·simp only; rw [u2.2 _ (by omega)]; exact L.defs
   ·simp only; rw [u2.2 _ (by omega)]; exact L.old id h4 h5

end Go.Proofs.YtpbngohpklpalaaGreat

/- The checker: each argument of a straight function has the shape that is taken, and is defined where it is used. -/
namespace Go.Proofs.YtpbngohpklpalaaGreat
open Go.LS Go.IntWalk
theorem shapes_run (x : Straight) (c m : Nat) (h : LS.Heap) (hcn : c < h.next) (hmn : m < h.next) {succ pred tree : List (List V)} {ts tp tt : Tag} (hc : h.objs c = some (.var (chkC x.f succ pred tree ts tp tt (some m)))) (hm : h.objs m = some (.map .i64 (defsV x.D)))
  (hfit : x.f.Fit) (hT : ∀ o ∈ x.ops, TakesOK o) (hret : x.ret ≠ 0)
  (ho : ∀ k (hk : k < x.ops.length) j (hj : j < (takeL x.ops[k]).length), ∃ v d, x.ops[k].args[j]? = some v ∧ x.D v = some d ∧ (d.bits = (takeL x.ops[k])[j].1 ∧ d.lanes = (takeL x.ops[k])[j].2)) (he : ∃ d, x.D x.arg = some d ∧ (d.bits = x.ret ∧ d.lanes = 1)) :
  ∃ h', callD T 170 [.obj c 0] h = some (.int .i64 0, h') ∧ HExt h h' := by
 have hc1 : (h.new (.var [.obj c 0])).objs c = some (.var (chkC x.f succ pred tree ts tp tt (some m))) := by rw [new_objs_old hcn]; exact hc
 have kn : Knows (h.new (.var [.obj c 0])) c h.next m x.D := ⟨new_objs_new _ _, ⟨_, _, _, _, _, _, _, hc1⟩, by rw [new_objs_old hmn]; exact hm⟩
 have hn : (h.new (.var [.obj c 0])).next = h.next + 1 := rfl
 obtain ⟨d, hd, hd2⟩ := he
 obtain ⟨h3, u1, u2⟩ := uses_run x c h.next 200 (h.new (.var [.obj c 0])) (by omega) hc1 hfit hT hret
  (fun k hk j hj => by
   obtain ⟨v, d, q1, q2, q3⟩ := ho k hk j hj
   exact ⟨v, q1, fun h' hx => shapesQ_run (kn.ext hx (by omega) (by omega) (by omega)) q2 _ q3 _ _⟩)
  (fun h' hx => shapesQ_run (kn.ext hx (by omega) (by omega) (by omega)) hd _ hd2 _ _)
 have hb := new_objs_new h (.var [.obj c 0])
 refine W_callE t170 rfl rfl (by simp) ?_
 show W T c170 _ _
 unfold c170
 refine W_seq (W_ops (s1 := ?_) (by simp only [r170_0]; simp [a170]; exact rfl) ?_)
 repeat' (first | refine W_seq ?_ | refine W_skip ?_ | refine W_block ?_ | refine W_ret ?_ | refine W_exit ?_ | refine W_ops (s1 := ?_) (by simp [hb, u1]; exact rfl) ?_ | refine W_tops (s1 := ?_) (by simp [hb, u1]; exact rfl) ?_ | refine W_cond_t (by first | (simp [hb, u1]; done) | fail) ?_ | refine W_cond_f (by first | (simp [hb, u1]; done) | fail) ?_ | fail)
 exact ⟨.inr rfl, [.int .i64 0], by simp [a170, resV, resV1], by simp [a170, packV], (HExt.new h _).trans u2⟩
theorem places_run (x : Straight) (c m : Nat) (h : LS.Heap) (hcn : c < h.next) (hmn : m < h.next) {succ pred tree : List (List V)} {ts tp tt : Tag} (hc : h.objs c = some (.var (chkC x.f succ pred tree ts tp tt (some m)))) (hm : h.objs m = some (.map .i64 (defsV x.D)))
  (hfit : x.f.Fit) (hT : ∀ o ∈ x.ops, TakesOK o) (hret : x.ret ≠ 0)
  (ho : ∀ k (hk : k < x.ops.length) j (hj : j < (takeL x.ops[k]).length), ∃ v d, x.ops[k].args[j]? = some v ∧ x.D v = some d ∧ (d.block < 0 ∨ (d.block = 0 ∧ d.at_ < k))) (he : ∃ d, x.D x.arg = some d ∧ (d.block < 0 ∨ (d.block = 0 ∧ d.at_ < 1048576))) :
  ∃ h', callD T 171 [.obj c 0] h = some (.int .i64 0, h') ∧ HExt h h' := by
 have hc1 : (h.new (.var [.obj c 0])).objs c = some (.var (chkC x.f succ pred tree ts tp tt (some m))) := by rw [new_objs_old hcn]; exact hc
 have kn : Knows (h.new (.var [.obj c 0])) c h.next m x.D := ⟨new_objs_new _ _, ⟨_, _, _, _, _, _, _, hc1⟩, by rw [new_objs_old hmn]; exact hm⟩
 have hn : (h.new (.var [.obj c 0])).next = h.next + 1 := rfl
 obtain ⟨d, hd, hd2⟩ := he
 obtain ⟨h3, u1, u2⟩ := uses_run x c h.next 201 (h.new (.var [.obj c 0])) (by omega) hc1 hfit hT hret
  (fun k hk j hj => by
   obtain ⟨v, d, q1, q2, q3⟩ := ho k hk j hj
   exact ⟨v, q1, fun h' hx => placesQ_run (kn.ext hx (by omega) (by omega) (by omega)) q2 _ _ _ q3⟩)
  (fun h' hx => placesQ_run (kn.ext hx (by omega) (by omega) (by omega)) hd _ _ _ hd2)
 have hb := new_objs_new h (.var [.obj c 0])
 refine W_callE t171 rfl rfl (by simp) ?_
 show W T c171 _ _
 unfold c171
 refine W_seq (W_ops (s1 := ?_) (by simp only [r171_0]; simp [a171]; exact rfl) ?_)
 repeat' (first | refine W_seq ?_ | refine W_skip ?_ | refine W_block ?_ | refine W_ret ?_ | refine W_exit ?_ | refine W_ops (s1 := ?_) (by simp [hb, u1]; exact rfl) ?_ | refine W_tops (s1 := ?_) (by simp [hb, u1]; exact rfl) ?_ | refine W_cond_t (by first | (simp [hb, u1]; done) | fail) ?_ | refine W_cond_f (by first | (simp [hb, u1]; done) | fail) ?_ | fail)
 exact ⟨.inr rfl, [.int .i64 0], by simp [a171, resV, resV1], by simp [a171, packV], (HExt.new h _).trans u2⟩

end Go.Proofs.YtpbngohpklpalaaGreat

/- The graph of one block that goes nowhere. -/
namespace Go.Proofs.YtpbngohpklpalaaGreat
open Go.LS Go.IntWalk
theorem w1 : IntKind.i64.wrap 1 = 1 := i64_in _ (by omega)
theorem w0 : IntKind.i64.wrap 0 = 0 := i64_in _ (by omega)
theorem wu0 : IntKind.u64.wrap 0 = 0 := u64_in _ (by omega)
theorem w8 : IntKind.u8.wrap 0 = 0 := u8_in _ (by omega)

set_option maxRecDepth 100000 in
theorem len64_run (h : LS.Heap) : ∃ n, callD T 253 [.int .u64 0] h = some (.int .i64 n, h) := by
 have hw : W T c253 ⟨initT [.int .u64 0], fun _ => none, h⟩ (fun e s => e = .ret ∧ ∃ n, s.t 2 = .int .i64 n ∧ s.h = h) := by
  unfold c253
  repeat' (first | refine W_seq ?_ | refine W_skip ?_ | refine W_block ?_ | refine W_ret ?_ | refine W_exit ?_ | refine W_ops (s1 := ?_) (by simp [w0, w8]; exact rfl) ?_ | refine W_tops (s1 := ?_) (by simp [w0, w8]; exact rfl) ?_ | refine W_cond_t (by first | (simp [w0, w8]; done) | fail) ?_ | refine W_cond_f (by first | (simp [w0, w8]; done) | fail) ?_ | fail)
  exact ⟨rfl, _, by simp; exact rfl, rfl⟩
 obtain ⟨e, s, h1, h2, n, h3, h4⟩ := hw
 refine ⟨n, W_call t253 rfl rfl (by simp) ⟨e, s, by simpa [a253] using h1, .inr h2, [.int .i64 n], by simp [a253, resV, resV1, h3], by simp [a253, packV], rfl, by rw [h4]; exact .refl _⟩⟩
theorem len_run (h : LS.Heap) : ∃ n, callD T 236 [.int .u64 0] h = some (.int .i64 n, h) := by
 obtain ⟨n, e⟩ := len64_run h
 refine ⟨n, ?_⟩
 refine W_call t236 rfl rfl (by simp) ?_
 show W T c236 _ _
 unfold c236
 repeat' (first | refine W_seq ?_ | refine W_skip ?_ | refine W_block ?_ | refine W_ret ?_ | refine W_exit ?_ | refine W_ops (s1 := ?_) (by simp [a236, e]; exact rfl) ?_ | refine W_tops (s1 := ?_) (by simp [a236, e]; exact rfl) ?_ | refine W_cond_t (by first | (simp [a236, e]; done) | fail) ?_ | refine W_cond_f (by first | (simp [a236, e]; done) | fail) ?_ | fail)
 exact ⟨.inr rfl, [.int .i64 n], by simp [a236, resV, resV1], by simp [a236, packV], rfl, .refl _⟩
theorem insertion_run (tg : Tag) (h : LS.Heap) : callD T 243 [.lst tg [], .int .i64 0, .int .i64 0] h = some (.tup [], h) := by
 refine W_callH t243 rfl rfl (by simp) ?_
 show W T c243 _ _
 unfold c243
 repeat' (first | refine W_seq ?_ | refine W_skip ?_ | refine W_block ?_ | refine W_ret ?_ | refine W_exit ?_ | refine W_ops (s1 := ?_) (by simp [a243, w1]; exact rfl) ?_ | refine W_tops (s1 := ?_) (by simp [a243, w1]; exact rfl) ?_ | refine W_cond_t (by first | (simp [a243, w1]; done) | fail) ?_ | refine W_cond_f (by first | (simp [a243, w1]; done) | fail) ?_ | fail)
 refine W_loop' l243_0.eq_1 ?_
 repeat' (first | refine W_seq ?_ | refine W_skip ?_ | refine W_block ?_ | refine W_ret ?_ | refine W_exit ?_ | refine W_ops (s1 := ?_) (by simp; exact rfl) ?_ | refine W_tops (s1 := ?_) (by simp; exact rfl) ?_ | refine W_cond_t (by first | (simp; done) | fail) ?_ | refine W_cond_f (by first | (simp; done) | fail) ?_ | fail)
 exact ⟨.inl rfl, [], by simp [a243, resV], by simp [a243, packV], rfl⟩
theorem pdq_run (tg : Tag) (n : Int) (h : LS.Heap) : callD T 235 [.lst tg [], .int .i64 0, .int .i64 0, .int .i64 n] h = some (.tup [], h) := by
 have e := insertion_run .ro h
 refine W_callH t235 rfl rfl (by simp) ?_
 show W T c235 _ _
 unfold c235
 repeat' (first | refine W_seq ?_ | refine W_skip ?_ | refine W_block ?_ | refine W_ret ?_ | refine W_exit ?_ | refine W_ops (s1 := ?_) (by simp [a235]; exact rfl) ?_ | refine W_tops (s1 := ?_) (by simp [a235]; exact rfl) ?_ | refine W_cond_t (by first | (simp [a235]; done) | fail) ?_ | refine W_cond_f (by first | (simp [a235]; done) | fail) ?_ | fail)
 refine W_loop' l235_0.eq_1 ?_
 repeat' (first | refine W_seq ?_ | refine W_skip ?_ | refine W_block ?_ | refine W_ret ?_ | refine W_exit ?_ | refine W_ops (s1 := ?_) (by simp [w0, e]; exact rfl) ?_ | refine W_tops (s1 := ?_) (by simp [w0, e]; exact rfl) ?_ | refine W_cond_t (by first | (simp [w0, e]; done) | fail) ?_ | refine W_cond_f (by first | (simp [w0, e]; done) | fail) ?_ | fail)
 exact ⟨.inr rfl, [], by simp [a235, resV], by simp [a235, packV], rfl⟩
theorem sort_run (tg : Tag) (h : LS.Heap) : callD T 220 [.lst tg []] h = some (.tup [], h) := by
 obtain ⟨n, e1⟩ := len_run h
 have e2 := pdq_run .ro n h
 refine W_callH t220 rfl rfl (by simp) ?_
 show W T c220 _ _
 unfold c220
 repeat' (first | refine W_seq ?_ | refine W_skip ?_ | refine W_block ?_ | refine W_ret ?_ | refine W_exit ?_ | refine W_ops (s1 := ?_) (by simp [a220, wu0, e1, e2]; exact rfl) ?_ | refine W_tops (s1 := ?_) (by simp [a220, wu0, e1, e2]; exact rfl) ?_ | refine W_cond_t (by first | (simp [a220, wu0, e1, e2]; done) | fail) ?_ | refine W_cond_f (by first | (simp [a220, wu0, e1, e2]; done) | fail) ?_ | fail)
 exact ⟨.inl rfl, [], by simp [a220, resV], by simp [a220, packV], rfl⟩
theorem values_run (tg : Tag) (h : LS.Heap) : callD T 207 [.lst tg []] h = some (.fn 221 [] [.obj h.next 0], h.new (.var [.lst .ro []])) := by
 refine W_callH t207 rfl rfl (by simp) ?_
 show W T c207 _ _
 unfold c207
 repeat' (first | refine W_seq ?_ | refine W_skip ?_ | refine W_block ?_ | refine W_ret ?_ | refine W_exit ?_ | refine W_ops (s1 := ?_) (by simp [a207]; exact rfl) ?_ | refine W_tops (s1 := ?_) (by simp [a207]; exact rfl) ?_ | refine W_cond_t (by first | (simp [a207]; done) | fail) ?_ | refine W_cond_f (by first | (simp [a207]; done) | fail) ?_ | fail)
 exact ⟨.inr rfl, [.fn 221 [] [.obj h.next 0]], by simp [a207, resV, resV1], by simp [a207, packV], rfl⟩
theorem yields_none (id : Nat) (tg : Tag) (h : LS.Heap) (hid : h.objs id = some (.var [.lst tg []])) : callD T0 221 [.undef, .obj id 0] h = some (.tup [], h) := by
 refine W_call z221 rfl rfl (by simp) ?_
 show W T0 c221 _ _
 unfold c221
 repeat' (first | refine W_seq ?_ | refine W_skip ?_ | refine W_block ?_ | refine W_ret ?_ | refine W_exit ?_ | refine W_ops (s1 := ?_) (by simp [a221, hid]; exact rfl) ?_ | refine W_tops (s1 := ?_) (by simp [a221, hid]; exact rfl) ?_ | refine W_cond_t (by first | (simp [a221, hid]; done) | fail) ?_ | refine W_cond_f (by first | (simp [a221, hid]; done) | fail) ?_ | fail)
 refine W_loop' l221_0.eq_1 ?_
 repeat' (first | refine W_seq ?_ | refine W_skip ?_ | refine W_block ?_ | refine W_ret ?_ | refine W_exit ?_ | refine W_ops (s1 := ?_) (by simp; exact rfl) ?_ | refine W_tops (s1 := ?_) (by simp; exact rfl) ?_ | refine W_cond_t (by first | (simp; done) | fail) ?_ | refine W_cond_f (by first | (simp; done) | fail) ?_ | fail)
 exact ⟨.inl rfl, [], by simp [a221, resV], by simp [a221, packV], rfl, .refl _⟩
theorem appendSeq_run (id : Nat) (tg : Tag) (h : LS.Heap) (hid : h.objs id = some (.var [.lst tg []])) : callD T 234 [.lst .nil [], .fn 221 [] [.obj id 0]] h = some (.lst .nil [], h) := by
 have e := yields_none id tg h hid
 unfold callD callF
 simp only [T]
 simp [appendE, e]
theorem collect_run (id : Nat) (tg : Tag) (h : LS.Heap) (hid : h.objs id = some (.var [.lst tg []])) : callD T 219 [.fn 221 [] [.obj id 0]] h = some (.lst .nil [], h) := by
 have e := appendSeq_run id tg h hid
 refine W_callH t219 rfl rfl (by simp) ?_
 show W T c219 _ _
 unfold c219
 repeat' (first | refine W_seq ?_ | refine W_skip ?_ | refine W_block ?_ | refine W_ret ?_ | refine W_exit ?_ | refine W_ops (s1 := ?_) (by simp [a219, e]; exact rfl) ?_ | refine W_tops (s1 := ?_) (by simp [a219, e]; exact rfl) ?_ | refine W_cond_t (by first | (simp [a219, e]; done) | fail) ?_ | refine W_cond_f (by first | (simp [a219, e]; done) | fail) ?_ | fail)
 exact ⟨.inr rfl, [.lst .nil []], by simp [a219, resV, resV1], by simp [a219, packV], rfl⟩
theorem sorted_run (id : Nat) (tg : Tag) (h : LS.Heap) (hid : h.objs id = some (.var [.lst tg []])) : callD T 206 [.fn 221 [] [.obj id 0]] h = some (.lst .nil [], h) := by
 have e := collect_run id tg h hid
 have e2 := sort_run .nil h
 refine W_callH t206 rfl rfl (by simp) ?_
 show W T c206 _ _
 unfold c206
 repeat' (first | refine W_seq ?_ | refine W_skip ?_ | refine W_block ?_ | refine W_ret ?_ | refine W_exit ?_ | refine W_ops (s1 := ?_) (by simp [a206, e, e2]; exact rfl) ?_ | refine W_tops (s1 := ?_) (by simp [a206, e, e2]; exact rfl) ?_ | refine W_cond_t (by first | (simp [a206, e, e2]; done) | fail) ?_ | refine W_cond_f (by first | (simp [a206, e, e2]; done) | fail) ?_ | fail)
 exact ⟨.inr rfl, [.lst .nil []], by simp [a206, resV, resV1], by simp [a206, packV], rfl⟩
theorem compact_run (h : LS.Heap) : callD T 205 [.lst .nil []] h = some (.lst .nil [], h) := by
 refine W_callH t205 rfl rfl (by simp) ?_
 show W T c205 _ _
 unfold c205
 repeat' (first | refine W_seq ?_ | refine W_skip ?_ | refine W_block ?_ | refine W_ret ?_ | refine W_exit ?_ | refine W_ops (s1 := ?_) (by simp [a205]; exact rfl) ?_ | refine W_tops (s1 := ?_) (by simp [a205]; exact rfl) ?_ | refine W_cond_t (by first | (simp [a205]; done) | fail) ?_ | refine W_cond_f (by first | (simp [a205]; done) | fail) ?_ | fail)
 exact ⟨.inr rfl, [.lst .nil []], by simp [a205, resV, resV1], by simp [a205, packV], rfl⟩
theorem goes_run (h : LS.Heap) : callD T 203 [.int .i64 0] h = some (.int .i64 0, h) := by
 refine W_call t203 rfl rfl (by simp) ?_
 show W T c203 _ _
 unfold c203
 repeat' (first | refine W_seq ?_ | refine W_skip ?_ | refine W_block ?_ | refine W_ret ?_ | refine W_exit ?_ | refine W_ops (s1 := ?_) (by simp [a203]; exact rfl) ?_ | refine W_tops (s1 := ?_) (by simp [a203]; exact rfl) ?_ | refine W_cond_t (by first | (simp [a203]; done) | fail) ?_ | refine W_cond_f (by first | (simp [a203]; done) | fail) ?_ | fail)
 exact ⟨.inr rfl, [.int .i64 0], by simp [a203, resV, resV1], by simp [a203, packV], rfl, .refl _⟩
theorem clone_run (h : LS.Heap) : callD T 85 [.lst .nil []] h = some (.lst .nil [], h) := by
 refine W_call t85 rfl rfl (by simp) ?_
 show W T c85 _ _
 unfold c85
 repeat' (first | refine W_seq ?_ | refine W_skip ?_ | refine W_block ?_ | refine W_ret ?_ | refine W_exit ?_ | refine W_ops (s1 := ?_) (by simp [a85]; exact rfl) ?_ | refine W_tops (s1 := ?_) (by simp [a85]; exact rfl) ?_ | refine W_cond_t (by first | (simp [a85]; done) | fail) ?_ | refine W_cond_f (by first | (simp [a85]; done) | fail) ?_ | fail)
 exact ⟨.inr rfl, [.lst .nil []], by simp [a85, resV, resV1], by simp [a85, packV], rfl, .refl _⟩

end Go.Proofs.YtpbngohpklpalaaGreat

/- The graph of one block that goes nowhere: made, and gone through. -/
namespace Go.Proofs.YtpbngohpklpalaaGreat
open Go.LS Go.IntWalk
theorem rising_run (tg : Tag) (n : Int) (h : LS.Heap) : callD T 223 [.lst tg [], .int .i64 n] h = some (.bool true, h) := by
 refine W_call t223 rfl rfl (by simp) ?_
 show W T c223 _ _
 unfold c223
 repeat' (first | refine W_seq ?_ | refine W_skip ?_ | refine W_block ?_ | refine W_ret ?_ | refine W_exit ?_ | refine W_ops (s1 := ?_) (by simp [a223]; exact rfl) ?_ | refine W_tops (s1 := ?_) (by simp [a223]; exact rfl) ?_ | refine W_cond_t (by first | (simp [a223]; done) | fail) ?_ | refine W_cond_f (by first | (simp [a223]; done) | fail) ?_ | fail)
 refine W_loop' l223_0.eq_1 ?_
 repeat' (first | refine W_seq ?_ | refine W_skip ?_ | refine W_block ?_ | refine W_ret ?_ | refine W_exit ?_ | refine W_ops (s1 := ?_) (by simp; exact rfl) ?_ | refine W_tops (s1 := ?_) (by simp; exact rfl) ?_ | refine W_cond_t (by first | (simp; done) | fail) ?_ | refine W_cond_f (by first | (simp; done) | fail) ?_ | fail)
 exact ⟨.inr rfl, [.bool true], by simp [a223, resV, resV1], by simp [a223, packV], rfl, .refl _⟩
theorem makeP_run (tg : Tag) (id : Nat) (n : Int) (h : LS.Heap) (hid : h.objs id = some (.var [.int .i64 n])) : callD T 222 [.lst tg [], .obj id 0] h = some (.bool false, h) := by
 have e := rising_run .ro n h
 refine W_call t222 rfl rfl (by simp) ?_
 show W T c222 _ _
 unfold c222
 repeat' (first | refine W_seq ?_ | refine W_skip ?_ | refine W_block ?_ | refine W_ret ?_ | refine W_exit ?_ | refine W_ops (s1 := ?_) (by simp [a222, hid, e]; exact rfl) ?_ | refine W_tops (s1 := ?_) (by simp [a222, hid, e]; exact rfl) ?_ | refine W_cond_t (by first | (simp [a222, hid, e]; done) | fail) ?_ | refine W_cond_f (by first | (simp [a222, hid, e]; done) | fail) ?_ | fail)
 exact ⟨.inr rfl, [.bool false], by simp [a222, resV, resV1], by simp [a222, packV], rfl, .refl _⟩
theorem preds_run (tg tg' : Tag) (h : LS.Heap) : callD T 224 [.lst tg [[.lst tg' []]]] h = some (.lst .ro [[.lst .ro []]], h) := by
 refine W_call t224 rfl rfl (by simp) ?_
 show W T c224 _ _
 unfold c224
 repeat' (first | refine W_seq ?_ | refine W_skip ?_ | refine W_block ?_ | refine W_ret ?_ | refine W_exit ?_ | refine W_ops (s1 := ?_) (by simp [a224]; exact rfl) ?_ | refine W_tops (s1 := ?_) (by simp [a224]; exact rfl) ?_ | refine W_cond_t (by first | (simp [a224]; done) | fail) ?_ | refine W_cond_f (by first | (simp [a224]; done) | fail) ?_ | fail)
 refine W_loop' l224_0.eq_1 ?_
 repeat' (first | refine W_seq ?_ | refine W_skip ?_ | refine W_block ?_ | refine W_ret ?_ | refine W_exit ?_ | refine W_ops (s1 := ?_) (by simp [w1]; exact rfl) ?_ | refine W_tops (s1 := ?_) (by simp [w1]; exact rfl) ?_ | refine W_cond_t (by first | (simp [w1]; done) | fail) ?_ | refine W_cond_f (by first | (simp [w1]; done) | fail) ?_ | fail)
 refine W_loop' l224_1.eq_1 ?_
 repeat' (first | refine W_seq ?_ | refine W_skip ?_ | refine W_block ?_ | refine W_ret ?_ | refine W_exit ?_ | refine W_ops (s1 := ?_) (by simp [w1]; exact rfl) ?_ | refine W_tops (s1 := ?_) (by simp [w1]; exact rfl) ?_ | refine W_cond_t (by first | (simp [w1]; done) | fail) ?_ | refine W_cond_f (by first | (simp [w1]; done) | fail) ?_ | fail)
 refine W_loop' l224_0.eq_1 ?_
 repeat' (first | refine W_seq ?_ | refine W_skip ?_ | refine W_block ?_ | refine W_ret ?_ | refine W_exit ?_ | refine W_ops (s1 := ?_) (by simp [w1, freezeV, Heap.new, Heap.kill]; exact rfl) ?_ | refine W_tops (s1 := ?_) (by simp [w1, freezeV, Heap.new, Heap.kill]; exact rfl) ?_ | refine W_cond_t (by first | (simp [w1, freezeV, Heap.new, Heap.kill]; done) | fail) ?_ | refine W_cond_f (by first | (simp [w1, freezeV, Heap.new, Heap.kill]; done) | fail) ?_ | fail)
 refine ⟨.inr rfl, [.lst .ro [[.lst .nil []]]], by simp [a224, resV, resV1], by simp [a224, packV], by simp, by simp, fun id hid => ?_⟩
 have q0 : id ≠ h.next := by omega
 simp [upd, q0]
theorem make_run (tg : Tag) (h : LS.Heap) : callD T 208 [.lst tg [[.lst .nil []]]] h = some (.tup [.agg [.lst .ro [[.lst .nil []]], .lst .ro [[.lst .ro []]]], .int .i64 0], h) := by
 have e1 : ∀ h1 : LS.Heap, h1.objs h.next = some (.var [.int .i64 1]) → callD T 149 [.lst tg [[.lst .nil []]], .fn 222 [] [.obj h.next 0]] h1 = some (.bool false, h1) := fun h1 h2 => by
  have hC := Contains_list (fun _ : Unit => [.lst .ro []]) [()] 222 [.obj h.next 0] (fun _ => false) h1 .ro (by simp) (fun _ => rfl) (by simp) (by simp) (fun x _ => makeP_run .ro h.next 1 h1 h2)
  have hW : callD T 149 [.lst tg [[.lst .nil []]], .fn 222 [] [.obj h.next 0]] h1 = callD T 149 [.lst .ro [[.lst .ro []]], .fn 222 [] [.obj h.next 0]] h1 := by
   unfold callD callF
   rw [t149]
   simp [a149]
  rw [hW]
  simpa using hC
 have e2 := fun h1 : LS.Heap => clone_run h1
 have e3 := fun (tg : Tag) (h1 : LS.Heap) => preds_run tg .nil h1
 refine W_call t208 rfl rfl (by simp) ?_
 show W T c208 _ _
 unfold c208
 repeat' (first | refine W_seq ?_ | refine W_skip ?_ | refine W_block ?_ | refine W_ret ?_ | refine W_exit ?_ | refine W_ops (s1 := ?_) (by simp [a208, nextVer, Heap.new, Heap.set, e1]; exact rfl) ?_ | refine W_tops (s1 := ?_) (by simp [a208, nextVer, Heap.new, Heap.set, e1]; exact rfl) ?_ | refine W_cond_t (by first | (simp [a208, nextVer, Heap.new, Heap.set, e1]; done) | fail) ?_ | refine W_cond_f (by first | (simp [a208, nextVer, Heap.new, Heap.set, e1]; done) | fail) ?_ | fail)
 refine W_loop' l208_0.eq_1 ?_
 repeat' (first | refine W_seq ?_ | refine W_skip ?_ | refine W_block ?_ | refine W_ret ?_ | refine W_exit ?_ | refine W_ops (s1 := ?_) (by simp [w1, e2, appendV, Heap.new, Heap.kill]; exact rfl) ?_ | refine W_tops (s1 := ?_) (by simp [w1, e2, appendV, Heap.new, Heap.kill]; exact rfl) ?_ | refine W_cond_t (by first | (simp [w1, e2, appendV, Heap.new, Heap.kill]; done) | fail) ?_ | refine W_cond_f (by first | (simp [w1, e2, appendV, Heap.new, Heap.kill]; done) | fail) ?_ | fail)
 refine W_loop' l208_0.eq_1 ?_
 repeat' (first | refine W_seq ?_ | refine W_skip ?_ | refine W_block ?_ | refine W_ret ?_ | refine W_exit ?_ | refine W_ops (s1 := ?_) (by simp [w1, e3, freezeV, Tag.settle]; exact rfl) ?_ | refine W_tops (s1 := ?_) (by simp [w1, e3, freezeV, Tag.settle]; exact rfl) ?_ | refine W_cond_t (by first | (simp [w1, e3, freezeV, Tag.settle]; done) | fail) ?_ | refine W_cond_f (by first | (simp [w1, e3, freezeV, Tag.settle]; done) | fail) ?_ | fail)
 refine ⟨.inr rfl, _, by simp [a208, resV, resV1]; exact rfl, by simp [a208, packV], by simp, by simp; omega, fun id hid => ?_⟩
 have q0 : id ≠ h.next := by omega
 have q1 : id ≠ h.next + 1 := by omega
 have q2 : id ≠ h.next + 1 + 1 := by omega
 simp [upd, q0, q1, q2]
theorem of_graph (x : List (List V)) (r : Int) (ops : List (List V)) (ea : Int) (hx : V.retagLL x = x) (ho : V.retagLL ops = ops) (h : LS.Heap) :
  callD T 186 [.agg [.lst .ro x, .int .i64 r, .lst .ro [[.lst .ro [], .lst .ro ops, .int .i64 0, .int .i64 ea, .lst .ro []]]]] h = some (.tup [.agg [.lst .ro [[.lst .nil []]], .lst .ro [[.lst .ro []]]], .int .i64 0], h) := by
 have e1 := fun h1 : LS.Heap => goes_run h1
 have e2 := fun (c : V) (hc : c.leaf = true) (h1 : LS.Heap) => Contains_int (fun n : Int => [.int .i64 n]) ([] : List Int) 204 [c] (fun _ => false) h1 .ro (by simp) (fun _ => rfl) rfl (by simp only [List.all_cons, hc]; rfl) (fun x hx => by cases hx)
 have e3 := fun (h1 : LS.Heap) => values_run .ro h1
 have e4 := fun (h1 : LS.Heap) => sorted_run h1.next .ro (h1.new (.var [.lst .ro []])) (by simp [Heap.new, upd])
 have e5 := fun h1 : LS.Heap => compact_run h1
 have e6 := fun (tg : Tag) (h1 : LS.Heap) => make_run tg h1
 refine W_call t186 rfl rfl (by simp) ?_
 show W T c186 _ _
 unfold c186
 refine W_seq (W_ops (s1 := ?_) (by simp only [r186_0]; simp [a186, nextVer, hx, ho]; exact rfl) ?_)
 refine W_seq (W_ops (s1 := ?_) (by simp only [r186_1]; simp [Heap.new, Heap.set]; exact rfl) ?_)
 generalize hH : LS.Heap.mk _ _ = h1
 have hx1 : HExt h h1 := by
  rw [← hH]
  refine ⟨by simp, fun id hid => ?_⟩
  have q0 : id ≠ h.next := by omega
  simp [upd, q0]
 have ho1 : h1.objs h.next = some (.var [.int .i64 1]) := by rw [← hH]; simp [upd]
 clear hH
 have e2' := e2 (.obj h.next 0) rfl
 simp only [List.map_nil, List.any_nil] at e2'
 repeat' (first | refine W_seq ?_ | refine W_skip ?_ | refine W_block ?_ | refine W_ret ?_ | refine W_exit ?_ | refine W_ops (s1 := ?_) (by simp [ho1]; exact rfl) ?_ | refine W_tops (s1 := ?_) (by simp [ho1]; exact rfl) ?_ | refine W_cond_t (by first | (simp [ho1]; done) | fail) ?_ | refine W_cond_f (by first | (simp [ho1]; done) | fail) ?_ | fail)
 refine W_loop' l186_0.eq_1 ?_
 repeat' (first | refine W_seq ?_ | refine W_skip ?_ | refine W_block ?_ | refine W_ret ?_ | refine W_exit ?_ | refine W_ops (s1 := ?_) (by simp [w1, e1, e2', e3, e4, e5, appendV]; exact rfl) ?_ | refine W_tops (s1 := ?_) (by simp [w1, e1, e2', e3, e4, e5, appendV]; exact rfl) ?_ | refine W_cond_t (by first | (simp [w1, e1, e2', e3, e4, e5, appendV]; done) | fail) ?_ | refine W_cond_f (by first | (simp [w1, e1, e2', e3, e4, e5, appendV]; done) | fail) ?_ | fail)
 refine W_loop' l186_0.eq_1 ?_
 repeat' (first | refine W_seq ?_ | refine W_skip ?_ | refine W_block ?_ | refine W_ret ?_ | refine W_exit ?_ | refine W_ops (s1 := ?_) (by simp [w1, e6]; exact rfl) ?_ | refine W_tops (s1 := ?_) (by simp [w1, e6]; exact rfl) ?_ | refine W_cond_t (by first | (simp [w1, e6]; done) | fail) ?_ | refine W_cond_f (by first | (simp [w1, e6]; done) | fail) ?_ | fail)
 exact ⟨.inr rfl, _, by simp [a186, resV, resV1]; exact rfl, by simp [a186, packV], by simp, (hx1.trans (.new _ _)).trans (.new _ _)⟩

end Go.Proofs.YtpbngohpklpalaaGreat

/- The graph of one block: the order; what dominates in a tree of one. -/
namespace Go.Proofs.YtpbngohpklpalaaGreat
open Go.LS Go.IntWalk
theorem new_objs_new' (h : LS.Heap) (o : AObj) : (h.new o).objs h.next = some o := by simp [Heap.new, upd]
theorem equal0_run (ta tb : Tag) (h : LS.Heap) : callD T 130 [.lst ta [], .lst tb []] h = some (.bool true, h) := by
 refine W_call t130 rfl rfl (by simp) ?_
 show W T c130 _ _
 unfold c130
 repeat' (first | refine W_seq ?_ | refine W_skip ?_ | refine W_block ?_ | refine W_ret ?_ | refine W_exit ?_ | refine W_ops (s1 := ?_) (by simp [a130]; exact rfl) ?_ | refine W_tops (s1 := ?_) (by simp [a130]; exact rfl) ?_ | refine W_cond_t (by first | (simp [a130]; done) | fail) ?_ | refine W_cond_f (by first | (simp [a130]; done) | fail) ?_ | fail)
 refine W_loop' l130_0.eq_1 ?_
 repeat' (first | refine W_seq ?_ | refine W_skip ?_ | refine W_block ?_ | refine W_ret ?_ | refine W_exit ?_ | refine W_ops (s1 := ?_) (by simp; exact rfl) ?_ | refine W_tops (s1 := ?_) (by simp; exact rfl) ?_ | refine W_cond_t (by first | (simp; done) | fail) ?_ | refine W_cond_f (by first | (simp; done) | fail) ?_ | fail)
 exact ⟨.inr rfl, [.bool true], by simp [a130, resV, resV1], by simp [a130, packV], rfl, .refl _⟩
theorem equalFunc_run (ta tb ta' tb' : Tag) (h : LS.Heap) : callD T 237 [.lst ta [[.lst ta' []]], .lst tb [[.lst tb' []]], .fn 130 [] []] h = some (.bool true, h) := by
 have e := equal0_run .ro .ro h
 refine W_call t237 rfl rfl (by simp) ?_
 show W T c237 _ _
 unfold c237
 repeat' (first | refine W_seq ?_ | refine W_skip ?_ | refine W_block ?_ | refine W_ret ?_ | refine W_exit ?_ | refine W_ops (s1 := ?_) (by simp [a237]; exact rfl) ?_ | refine W_tops (s1 := ?_) (by simp [a237]; exact rfl) ?_ | refine W_cond_t (by first | (simp [a237]; done) | fail) ?_ | refine W_cond_f (by first | (simp [a237]; done) | fail) ?_ | fail)
 refine W_loop' l237_0.eq_1 ?_
 repeat' (first | refine W_seq ?_ | refine W_skip ?_ | refine W_block ?_ | refine W_ret ?_ | refine W_exit ?_ | refine W_ops (s1 := ?_) (by simp [w1, e]; exact rfl) ?_ | refine W_tops (s1 := ?_) (by simp [w1, e]; exact rfl) ?_ | refine W_cond_t (by first | (simp [w1, e]; done) | fail) ?_ | refine W_cond_f (by first | (simp [w1, e]; done) | fail) ?_ | fail)
 refine W_loop' l237_0.eq_1 ?_
 repeat' (first | refine W_seq ?_ | refine W_skip ?_ | refine W_block ?_ | refine W_ret ?_ | refine W_exit ?_ | refine W_ops (s1 := ?_) (by simp; exact rfl) ?_ | refine W_tops (s1 := ?_) (by simp; exact rfl) ?_ | refine W_cond_t (by first | (simp; done) | fail) ?_ | refine W_cond_f (by first | (simp; done) | fail) ?_ | fail)
 exact ⟨.inr rfl, [.bool true], by simp [a237, resV, resV1], by simp [a237, packV], rfl, .refl _⟩
def oneG : List V := [.lst .ro [[.lst .nil []]], .lst .ro [[.lst .ro []]]]
theorem graphMay_run (h : LS.Heap) : callD T 225 [.agg oneG] h = some (.bool true, h) := by
 have e1 := make_run .ro h
 have e2 := equalFunc_run .ro .ro .ro .ro h
 refine W_call t225 rfl rfl (by simp) ?_
 show W T c225 _ _
 unfold c225
 unfold oneG
 repeat' (first | refine W_seq ?_ | refine W_skip ?_ | refine W_block ?_ | refine W_ret ?_ | refine W_exit ?_ | refine W_ops (s1 := ?_) (by simp [a225, nextVer, e1, e2]; exact rfl) ?_ | refine W_tops (s1 := ?_) (by simp [a225, nextVer, e1, e2]; exact rfl) ?_ | refine W_cond_t (by first | (simp [a225, nextVer, e1, e2]; done) | fail) ?_ | refine W_cond_f (by first | (simp [a225, nextVer, e1, e2]; done) | fail) ?_ | fail)
 exact ⟨.inr rfl, [.bool true], by simp [a225, resV, resV1], by simp [a225, packV], rfl, .refl _⟩
theorem reverse_run (tg : Tag) (x : V) (h : LS.Heap) (hx : x.retag = x) : callD T 226 [.lst tg [[x]]] h = some (.tup [], h) := by
 refine W_callH t226 rfl rfl (by simp) ?_
 show W T c226 _ _
 unfold c226
 repeat' (first | refine W_seq ?_ | refine W_skip ?_ | refine W_block ?_ | refine W_ret ?_ | refine W_exit ?_ | refine W_ops (s1 := ?_) (by simp [a226, hx, w0, w1]; exact rfl) ?_ | refine W_tops (s1 := ?_) (by simp [a226, hx, w0, w1]; exact rfl) ?_ | refine W_cond_t (by first | (simp [a226, hx, w0, w1]; done) | fail) ?_ | refine W_cond_f (by first | (simp [a226, hx, w0, w1]; done) | fail) ?_ | fail)
 refine W_loop' l226_0.eq_1 ?_
 repeat' (first | refine W_seq ?_ | refine W_skip ?_ | refine W_block ?_ | refine W_ret ?_ | refine W_exit ?_ | refine W_ops (s1 := ?_) (by simp [w0]; exact rfl) ?_ | refine W_tops (s1 := ?_) (by simp [w0]; exact rfl) ?_ | refine W_cond_t (by first | (simp [w0]; done) | fail) ?_ | refine W_cond_f (by first | (simp [w0]; done) | fail) ?_ | fail)
 exact ⟨.inl rfl, [], by simp [a226, resV], by simp [a226, packV], rfl⟩
theorem order_run (h : LS.Heap) : callD T 209 [.agg oneG, .int .i64 0] h = some (.lst .ro [[.int .i64 0]], h) := by
 have e1 := graphMay_run h
 have e2 := fun (tg : Tag) (h1 : LS.Heap) => reverse_run tg (.int .i64 0) h1 rfl
 unfold oneG at e1 ⊢
 refine W_call t209 rfl rfl (by simp) ?_
 show W T c209 _ _
 unfold c209
 refine W_seq (W_ops (s1 := ?_) (by simp only [r209_0]; simp [a209, nextVer]; exact rfl) ?_)
 refine W_scope ?_
 repeat' (first | refine W_seq ?_ | refine W_skip ?_ | refine W_block ?_ | refine W_ret ?_ | refine W_exit ?_ | refine W_ops (s1 := ?_) (by simp [nextVer, e1, w0, w1]; exact rfl) ?_ | refine W_tops (s1 := ?_) (by simp [nextVer, e1, w0, w1]; exact rfl) ?_ | refine W_cond_t (by first | (simp [nextVer, e1, w0, w1]; done) | fail) ?_ | refine W_cond_f (by first | (simp [nextVer, e1, w0, w1]; done) | fail) ?_ | fail)
 refine W_label ?_
 repeat' (first | refine W_seq ?_ | refine W_skip ?_ | refine W_block ?_ | refine W_ret ?_ | refine W_exit ?_ | refine W_ops (s1 := ?_) (by simp [w0]; exact rfl) ?_ | refine W_tops (s1 := ?_) (by simp [w0]; exact rfl) ?_ | refine W_cond_t (by first | (simp [w0]; done) | fail) ?_ | refine W_cond_f (by first | (simp [w0]; done) | fail) ?_ | fail)
 refine W_loop' l209_0.eq_1 ?_
 repeat' (first | refine W_seq ?_ | refine W_skip ?_ | refine W_block ?_ | refine W_ret ?_ | refine W_exit ?_ | refine W_ops (s1 := ?_) (by simp [w0, w1, appendV, e2]; exact rfl) ?_ | refine W_tops (s1 := ?_) (by simp [w0, w1, appendV, e2]; exact rfl) ?_ | refine W_cond_t (by first | (simp [w0, w1, appendV, e2]; done) | fail) ?_ | refine W_cond_f (by first | (simp [w0, w1, appendV, e2]; done) | fail) ?_ | fail)
 exact ⟨by simp, .inr rfl, [_], by simp [a209, resV, resV1]; exact rfl, by simp [a209, packV], by simp, .new _ _⟩
theorem depth_run (tg : Tag) (h : LS.Heap) : callD T 230 [.lst tg [[.int .i64 (-1)]], .int .i64 0] h = some (.int .i64 0, h) := by
 refine W_call t230 rfl rfl (by simp) ?_
 show W T c230 _ _
 unfold c230
 repeat' (first | refine W_seq ?_ | refine W_skip ?_ | refine W_block ?_ | refine W_ret ?_ | refine W_exit ?_ | refine W_ops (s1 := ?_) (by simp [a230]; exact rfl) ?_ | refine W_tops (s1 := ?_) (by simp [a230]; exact rfl) ?_ | refine W_cond_t (by first | (simp [a230]; done) | fail) ?_ | refine W_cond_f (by first | (simp [a230]; done) | fail) ?_ | fail)
 refine W_loop' l230_0.eq_1 ?_
 repeat' (first | refine W_seq ?_ | refine W_skip ?_ | refine W_block ?_ | refine W_ret ?_ | refine W_exit ?_ | refine W_ops (s1 := ?_) (by simp; exact rfl) ?_ | refine W_tops (s1 := ?_) (by simp; exact rfl) ?_ | refine W_cond_t (by first | (simp; done) | fail) ?_ | refine W_cond_f (by first | (simp; done) | fail) ?_ | fail)
 exact ⟨.inr rfl, [.int .i64 0], by simp [a230, resV, resV1], by simp [a230, packV], rfl, .refl _⟩
theorem right_run (tg : Tag) (h : LS.Heap) : callD T 228 [.lst tg [[.int .i64 (-1)]]] h = some (.bool true, h) := by
 have e := depth_run .ro h
 refine W_call t228 rfl rfl (by simp) ?_
 show W T c228 _ _
 unfold c228
 repeat' (first | refine W_seq ?_ | refine W_skip ?_ | refine W_block ?_ | refine W_ret ?_ | refine W_exit ?_ | refine W_ops (s1 := ?_) (by simp [a228]; exact rfl) ?_ | refine W_tops (s1 := ?_) (by simp [a228]; exact rfl) ?_ | refine W_cond_t (by first | (simp [a228]; done) | fail) ?_ | refine W_cond_f (by first | (simp [a228]; done) | fail) ?_ | fail)
 refine W_loop' l228_0.eq_1 ?_
 repeat' (first | refine W_seq ?_ | refine W_skip ?_ | refine W_block ?_ | refine W_ret ?_ | refine W_exit ?_ | refine W_ops (s1 := ?_) (by simp [w1, e]; exact rfl) ?_ | refine W_tops (s1 := ?_) (by simp [w1, e]; exact rfl) ?_ | refine W_cond_t (by first | (simp [w1, e]; done) | fail) ?_ | refine W_cond_f (by first | (simp [w1, e]; done) | fail) ?_ | fail)
 refine W_loop' l228_0.eq_1 ?_
 repeat' (first | refine W_seq ?_ | refine W_skip ?_ | refine W_block ?_ | refine W_ret ?_ | refine W_exit ?_ | refine W_ops (s1 := ?_) (by simp; exact rfl) ?_ | refine W_tops (s1 := ?_) (by simp; exact rfl) ?_ | refine W_cond_t (by first | (simp; done) | fail) ?_ | refine W_cond_f (by first | (simp; done) | fail) ?_ | fail)
 exact ⟨.inr rfl, [.bool true], by simp [a228, resV, resV1], by simp [a228, packV], rfl, .refl _⟩
theorem domInP_run (tg : Tag) (id : Nat) (h : LS.Heap) (hid : h.objs id = some (.var [.lst tg [[.int .i64 (-1)]]])) : callD T 229 [.int .i64 0, .obj id 0] h = some (.bool false, h) := by
 have e := depth_run tg h
 refine W_call t229 rfl rfl (by simp) ?_
 show W T c229 _ _
 unfold c229
 repeat' (first | refine W_seq ?_ | refine W_skip ?_ | refine W_block ?_ | refine W_ret ?_ | refine W_exit ?_ | refine W_ops (s1 := ?_) (by simp [a229, hid, e]; exact rfl) ?_ | refine W_tops (s1 := ?_) (by simp [a229, hid, e]; exact rfl) ?_ | refine W_cond_t (by first | (simp [a229, hid, e]; done) | fail) ?_ | refine W_cond_f (by first | (simp [a229, hid, e]; done) | fail) ?_ | fail)
 exact ⟨.inr rfl, [.bool false], by simp [a229, resV, resV1], by simp [a229, packV], rfl, .refl _⟩
theorem domIn_run (ta tb : Tag) (h : LS.Heap) : callD T 212 [.lst ta [[.int .i64 (-1)]], .lst tb [[.int .i64 0], [.int .i64 0]]] h = some (.bool true, h) := by
 have hn := new_objs_new' h (.var [.lst .ro [[.int .i64 (-1)]]])
 have e1 := right_run .ro (h.new (.var [.lst .ro [[.int .i64 (-1)]]]))
 have e2 := Contains_int (fun n : Int => [.int .i64 n]) [0, 0] 229 [.obj h.next 0] (fun _ => false) (h.new (.var [.lst .ro [[.int .i64 (-1)]]])) .ro (by simp) (fun _ => rfl) (by simp) rfl
  (fun x hx => by
   have : x = 0 := by simpa using hx
   subst this
   exact domInP_run .ro h.next _ hn)
 simp only [List.map_cons, List.map_nil, List.any_cons, List.any_nil, Bool.or_false] at e2
 refine W_call t212 rfl rfl (by simp) ?_
 show W T c212 _ _
 unfold c212
 repeat' (first | refine W_seq ?_ | refine W_skip ?_ | refine W_block ?_ | refine W_ret ?_ | refine W_exit ?_ | refine W_ops (s1 := ?_) (by simp [a212, hn, e1, e2]; exact rfl) ?_ | refine W_tops (s1 := ?_) (by simp [a212, hn, e1, e2]; exact rfl) ?_ | refine W_cond_t (by first | (simp [a212, hn, e1, e2]; done) | fail) ?_ | refine W_cond_f (by first | (simp [a212, hn, e1, e2]; done) | fail) ?_ | fail)
 exact ⟨.inr rfl, [.bool true], by simp [a212, resV, resV1], by simp [a212, packV], rfl, .new _ _⟩
theorem meet_run (ta : Tag) (h : LS.Heap) : callD T 213 [.lst ta [[.int .i64 (-1)]], .int .i64 0, .int .i64 0] h = some (.int .i64 0, h) := by
 have e := domIn_run .ro .exact h
 refine W_call t213 rfl rfl (by simp) ?_
 show W T c213 _ _
 unfold c213
 repeat' (first | refine W_seq ?_ | refine W_skip ?_ | refine W_block ?_ | refine W_ret ?_ | refine W_exit ?_ | refine W_ops (s1 := ?_) (by simp [a213, e]; exact rfl) ?_ | refine W_tops (s1 := ?_) (by simp [a213, e]; exact rfl) ?_ | refine W_cond_t (by first | (simp [a213, e]; done) | fail) ?_ | refine W_cond_f (by first | (simp [a213, e]; done) | fail) ?_ | fail)
 refine W_loop' l213_0.eq_1 ?_
 repeat' (first | refine W_seq ?_ | refine W_skip ?_ | refine W_block ?_ | refine W_ret ?_ | refine W_exit ?_ | refine W_ops (s1 := ?_) (by simp; exact rfl) ?_ | refine W_tops (s1 := ?_) (by simp; exact rfl) ?_ | refine W_cond_t (by first | (simp; done) | fail) ?_ | refine W_cond_f (by first | (simp; done) | fail) ?_ | fail)
 exact ⟨.inr rfl, [.int .i64 0], by simp [a213, resV, resV1], by simp [a213, packV], rfl, .refl _⟩
theorem over_run (ta : Tag) (h : LS.Heap) : callD T 188 [.lst ta [[.int .i64 (-1)]], .int .i64 0, .int .i64 0] h = some (.bool true, h) := by
 have e1 := domIn_run .ro .exact h
 have e2 := meet_run .ro h
 refine W_call t188 rfl rfl (by simp) ?_
 show W T c188 _ _
 unfold c188
 repeat' (first | refine W_seq ?_ | refine W_skip ?_ | refine W_block ?_ | refine W_ret ?_ | refine W_exit ?_ | refine W_ops (s1 := ?_) (by simp [a188, e1, e2]; exact rfl) ?_ | refine W_tops (s1 := ?_) (by simp [a188, e1, e2]; exact rfl) ?_ | refine W_cond_t (by first | (simp [a188, e1, e2]; done) | fail) ?_ | refine W_cond_f (by first | (simp [a188, e1, e2]; done) | fail) ?_ | fail)
 exact ⟨.inr rfl, [.bool true], by simp [a188, resV, resV1], by simp [a188, packV], rfl, .refl _⟩

end Go.Proofs.YtpbngohpklpalaaGreat

/- What dominates in the graph of one block. -/
namespace Go.Proofs.YtpbngohpklpalaaGreat
open Go.LS Go.IntWalk
theorem mul64_run (h : LS.Heap) : callD T 239 [.int .u64 1, .int .u64 1] h = some (.tup [.int .u64 0, .int .u64 1], h) := by
 refine W_call t239 rfl rfl (by simp) ?_
 show W T c239 _ _
 unfold c239
 repeat' (first | refine W_seq ?_ | refine W_skip ?_ | refine W_block ?_ | refine W_ret ?_ | refine W_exit ?_ | refine W_ops (s1 := ?_) (by simp [a239]; exact rfl) ?_ | refine W_tops (s1 := ?_) (by simp [a239]; exact rfl) ?_ | refine W_cond_t (by first | (simp [a239]; done) | fail) ?_ | refine W_cond_f (by first | (simp [a239]; done) | fail) ?_ | fail)
 exact ⟨.inr rfl, [.int .u64 0, .int .u64 1], by simp [a239, resV, resV1]; first | done | decide, by simp [a239, packV], rfl, .refl _⟩
theorem mul_run (h : LS.Heap) : callD T 227 [.int .u64 1, .int .u64 1] h = some (.tup [.int .u64 0, .int .u64 1], h) := by
 have e := mul64_run h
 refine W_call t227 rfl rfl (by simp) ?_
 show W T c227 _ _
 unfold c227
 repeat' (first | refine W_seq ?_ | refine W_skip ?_ | refine W_block ?_ | refine W_ret ?_ | refine W_exit ?_ | refine W_ops (s1 := ?_) (by simp [a227, e]; exact rfl) ?_ | refine W_tops (s1 := ?_) (by simp [a227, e]; exact rfl) ?_ | refine W_cond_t (by first | (simp [a227, e]; done) | fail) ?_ | refine W_cond_f (by first | (simp [a227, e]; done) | fail) ?_ | fail)
 exact ⟨.inr rfl, [.int .u64 0, .int .u64 1], by simp [a227, resV, resV1], by simp [a227, packV], rfl, .refl _⟩
theorem repeat1_run (tg : Tag) (n : Int) (h : LS.Heap) : callD T 210 [.lst tg [[.int .i64 n]], .int .i64 1] h = some (.row h.next 0 1 1, h.new (.row [[.int .i64 n]])) := by
 have e := fun h1 => mul_run h1
 have w1 : IntKind.u64.wrap 1 = 1 := rfl
 have w2 : IntKind.i64.wrap 1 = 1 := rfl
 refine W_callH t210 rfl rfl (by simp) ?_
 show W T c210 _ _
 unfold c210
 repeat' (first | refine W_seq ?_ | refine W_skip ?_ | refine W_block ?_ | refine W_ret ?_ | refine W_exit ?_ | refine W_ops (s1 := ?_) (by simp [a210, e, w1, w2]; exact rfl) ?_ | refine W_tops (s1 := ?_) (by simp [a210, e, w1, w2]; exact rfl) ?_ | refine W_cond_t (by first | (simp [a210, e, w1, w2]; done) | fail) ?_ | refine W_cond_f (by first | (simp [a210, e, w1, w2]; done) | fail) ?_ | fail)
 have en : ∀ o, (h.new o).objs h.next = some o := fun o => new_objs_new' h o
 have hs : ∀ o o', (h.new o).set h.next o' = h.new o' := fun o o' => by
  simp only [Heap.set, Heap.new]
  congr 1
  funext i
  simp only [upd]
  split <;> rfl
 refine (W_ops (s1 := ?_) (by simp only [r210_7]; simp [en, hs]; exact rfl) ?_)
 refine W_seq (W_block (W_loop' l210_0.eq_1 ?_))
 repeat' (first | refine W_seq ?_ | refine W_skip ?_ | refine W_block ?_ | refine W_ret ?_ | refine W_exit ?_ | refine W_ops (s1 := ?_) (by simp; exact rfl) ?_ | refine W_tops (s1 := ?_) (by simp; exact rfl) ?_ | refine W_cond_t (by first | (simp; done) | fail) ?_ | refine W_cond_f (by first | (simp; done) | fail) ?_ | fail)
 exact ⟨.inr rfl, [.row h.next 0 1 1], by simp [a210, resV, resV1], by simp [a210, packV], rfl⟩

end Go.Proofs.YtpbngohpklpalaaGreat

/- What dominates in the graph of one block: two new rows in either order. Printed by gen/tree.py. -/
namespace Go.Proofs.YtpbngohpklpalaaGreat
open Go.LS Go.IntWalk
def tA (t : Nat → V) (h : LS.Heap) : Nat → V := upd (upd (upd (upd (upd (upd (upd t 25 (.lst .exact [[.int .i64 (-2)]])) 26 (.int .i64 1)) 27 (.row h.next 0 1 1)) 28 (.int .i64 1)) 29 (.row (h.next + 1) 0 1 1)) 7 (.row h.next 0 1 1)) 8 (.row (h.next + 1) 0 1 1)
def tB (t : Nat → V) (h : LS.Heap) : Nat → V := upd (upd (upd (upd (upd (upd (upd t 25 (.lst .exact [[.int .i64 (-2)]])) 26 (.int .i64 1)) 27 (.row (h.next + 1) 0 1 1)) 28 (.int .i64 1)) 29 (.row h.next 0 1 1)) 7 (.row (h.next + 1) 0 1 1)) 8 (.row h.next 0 1 1)
def hA (h : LS.Heap) : LS.Heap := (h.new (.row [[.int .i64 (-2)]])).new (.row [[.int .i64 0]])
def hB (h : LS.Heap) : LS.Heap := (h.new (.row [[.int .i64 0]])).new (.row [[.int .i64 (-2)]])

section
variable {t : Nat → V} {loc : LS.Loc} {h : LS.Heap} {s2 : St}
theorem tree_same (ht : ∀ k, s2.t k = tA t h k) (hl : s2.loc = loc) (hh : s2.h = hA h) : EndsAs ⟨t, loc, h⟩ ⟨tA t h, loc, hA h⟩ s2 := by
 obtain ⟨t2, l2, h2⟩ := s2
 obtain rfl : t2 = tA t h := funext ht
 subst hl hh
 exact .inl rfl
theorem tree_twin (ht : ∀ k, s2.t k = tB t h k) (hl : s2.loc = loc) (hh : s2.h = hB h) : EndsAs ⟨t, loc, h⟩ ⟨tA t h, loc, hA h⟩ s2 := by
 obtain ⟨t2, l2, h2⟩ := s2
 obtain rfl : t2 = tB t h := funext ht
 subst hl hh
 refine .inr ⟨h.next, h.next + 1, Nat.le_refl _, Nat.le_succ _, ?_, ?_, rfl, fun id => ?_, fun id hid => ?_, fun id ob hid hid2 ho => ?_, rfl, rfl, fun k => ?_⟩
 ·simp [hB, Heap.new]; omega
 ·simp [hB, Heap.new]
 ·simp only [hA, hB, Heap.new, upd, swp]
  by_cases h1 : id = h.next
  ·subst h1; simp
  ·by_cases h2 : id = h.next + 1
   ·subst h2; simp
   ·simp [h1, h2]
 ·have h1 : id ≠ h.next := by simp only at hid; omega
  have h2 : id ≠ h.next + 1 := by simp only at hid; omega
  simp [hB, Heap.new, upd, h1, h2]
 ·simp only [hB, Heap.new, upd] at ho
  by_cases h2 : id = h.next + 1
  ·rw [if_pos h2] at ho; injection ho with ho; subst ho; rfl
  ·rw [if_neg h2] at ho
   by_cases h1 : id = h.next
   ·rw [if_pos h1] at ho; injection ho with ho; subst ho; rfl
   ·rw [if_neg h1] at ho
    simp only [hB, Heap.new] at hid2
    simp only at hid
    omega
 ·by_cases h25 : k = 25
  ·subst h25; exact .inl ⟨rfl, .inr rfl⟩
  by_cases h26 : k = 26
  ·subst h26; exact .inl ⟨rfl, .inr rfl⟩
  by_cases h27 : k = 27
  ·subst h27; exact .inr ⟨0, 1, 1, .inr ⟨rfl, rfl⟩⟩
  by_cases h28 : k = 28
  ·subst h28; exact .inl ⟨rfl, .inr rfl⟩
  by_cases h29 : k = 29
  ·subst h29; exact .inr ⟨0, 1, 1, .inl ⟨rfl, rfl⟩⟩
  by_cases h7 : k = 7
  ·subst h7; exact .inr ⟨0, 1, 1, .inr ⟨rfl, rfl⟩⟩
  by_cases h8 : k = 8
  ·subst h8; exact .inr ⟨0, 1, 1, .inl ⟨rfl, rfl⟩⟩
  refine .inl ⟨?_, .inl ?_⟩
  ·simp [tA, tB, upd, h25, h26, h27, h28, h29, h7, h8]
  ·simp [tA, upd, h25, h26, h27, h28, h29, h7, h8]
end
theorem keys7 {f g : Nat → V} (h25 : f 25 = g 25) (h26 : f 26 = g 26) (h27 : f 27 = g 27) (h28 : f 28 = g 28) (h29 : f 29 = g 29) (h7 : f 7 = g 7) (h8 : f 8 = g 8)
  (ho : ∀ k, k ≠ 25 → k ≠ 26 → k ≠ 27 → k ≠ 28 → k ≠ 29 → k ≠ 7 → k ≠ 8 → f k = g k) : ∀ k, f k = g k := fun k => by
 by_cases a : k = 25
 ·subst a; exact h25
 by_cases b : k = 26
 ·subst b; exact h26
 by_cases c : k = 27
 ·subst c; exact h27
 by_cases d : k = 28
 ·subst d; exact h28
 by_cases e : k = 29
 ·subst e; exact h29
 by_cases f' : k = 7
 ·subst f'; exact h7
 by_cases g' : k = 8
 ·subst g'; exact h8
 exact ho k a b c d e f' g'
theorem tree_region {t : Nat → V} {loc : LS.Loc} {h : LS.Heap} (t6 : t 6 = .int .i64 1) : runAny (callD T) r187_5 p187_5 ⟨t, loc, h⟩ = some ⟨tA t h, loc, hA h⟩ := by
 have e2 := fun h1 => repeat1_run .exact (-2) h1
 have w1 : IntKind.i64.wrap 1 = 1 := rfl
 refine runAny_iff.2 ⟨by simp only [r187_5]; simp [t6, e2, w1]; exact ⟨rfl, rfl⟩, ?_⟩
 show AllOrdP _ _ _ 7 _ _
 unfold p187_5
 refine ⟨fun hr => absurd hr (by decide), fun i hi => ?_⟩
 have hi : i ∈ [0, 1, 3] := hi
 simp only [List.mem_cons, List.not_mem_nil, or_false] at hi
 rcases hi with rfl | rfl | rfl
 ·skip
  refine ⟨_, by simp [stepAt, r187_5, t6, e2, w1]; exact rfl, ?_⟩
  refine ⟨fun hr => absurd hr (by decide), fun i hi => ?_⟩
  have hi : i ∈ [1, 3] := hi
  simp only [List.mem_cons, List.not_mem_nil, or_false] at hi
  rcases hi with rfl | rfl
  ·skip
   refine ⟨_, by simp [stepAt, r187_5, t6, e2, w1]; exact rfl, ?_⟩
   refine ⟨fun hr => absurd hr (by decide), fun i hi => ?_⟩
   have hi : i ∈ [2, 3] := hi
   simp only [List.mem_cons, List.not_mem_nil, or_false] at hi
   rcases hi with rfl | rfl
   ·skip
    refine ⟨_, by simp [stepAt, r187_5, t6, e2, w1]; exact rfl, ?_⟩
    refine ⟨fun hr => absurd hr (by decide), fun i hi => ?_⟩
    have hi : i ∈ [3, 5] := hi
    simp only [List.mem_cons, List.not_mem_nil, or_false] at hi
    rcases hi with rfl | rfl
    ·skip
     refine ⟨_, by simp [stepAt, r187_5, t6, e2, w1]; exact rfl, ?_⟩
     refine ⟨fun hr => absurd hr (by decide), fun i hi => ?_⟩
     have hi : i ∈ [4, 5] := hi
     simp only [List.mem_cons, List.not_mem_nil, or_false] at hi
     rcases hi with rfl | rfl
     ·skip
      refine ⟨_, by simp [stepAt, r187_5, t6, e2, w1]; exact rfl, ?_⟩
      refine ⟨fun hr => absurd hr (by decide), fun i hi => ?_⟩
      have hi : i ∈ [5] := hi
      simp only [List.mem_cons, List.not_mem_nil, or_false] at hi
      subst hi
      refine ⟨_, by simp [stepAt, r187_5, t6, e2, w1]; exact rfl, ?_⟩
      refine ⟨fun hr => absurd hr (by decide), fun i hi => ?_⟩
      have hi : i ∈ [6] := hi
      simp only [List.mem_cons, List.not_mem_nil, or_false] at hi
      subst hi
      refine ⟨_, by simp [stepAt, r187_5, t6, e2, w1]; exact rfl, ?_⟩
      exact ⟨rfl, tree_same (keys7 rfl rfl rfl rfl rfl rfl rfl (fun k a b c d e f g => by simp [tA, tB, upd, a, b, c, d, e, f, g])) rfl rfl⟩
     ·skip
      refine ⟨_, by simp [stepAt, r187_5, t6, e2, w1]; exact rfl, ?_⟩
      refine ⟨fun hr => absurd hr (by decide), fun i hi => ?_⟩
      have hi : i ∈ [4] := hi
      simp only [List.mem_cons, List.not_mem_nil, or_false] at hi
      subst hi
      refine ⟨_, by simp [stepAt, r187_5, t6, e2, w1]; exact rfl, ?_⟩
      refine ⟨fun hr => absurd hr (by decide), fun i hi => ?_⟩
      have hi : i ∈ [6] := hi
      simp only [List.mem_cons, List.not_mem_nil, or_false] at hi
      subst hi
      refine ⟨_, by simp [stepAt, r187_5, t6, e2, w1]; exact rfl, ?_⟩
      exact ⟨rfl, tree_same (keys7 rfl rfl rfl rfl rfl rfl rfl (fun k a b c d e f g => by simp [tA, tB, upd, a, b, c, d, e, f, g])) rfl rfl⟩
    ·skip
     refine ⟨_, by simp [stepAt, r187_5, t6, e2, w1]; exact rfl, ?_⟩
     refine ⟨fun hr => absurd hr (by decide), fun i hi => ?_⟩
     have hi : i ∈ [3] := hi
     simp only [List.mem_cons, List.not_mem_nil, or_false] at hi
     subst hi
     refine ⟨_, by simp [stepAt, r187_5, t6, e2, w1]; exact rfl, ?_⟩
     refine ⟨fun hr => absurd hr (by decide), fun i hi => ?_⟩
     have hi : i ∈ [4] := hi
     simp only [List.mem_cons, List.not_mem_nil, or_false] at hi
     subst hi
     refine ⟨_, by simp [stepAt, r187_5, t6, e2, w1]; exact rfl, ?_⟩
     refine ⟨fun hr => absurd hr (by decide), fun i hi => ?_⟩
     have hi : i ∈ [6] := hi
     simp only [List.mem_cons, List.not_mem_nil, or_false] at hi
     subst hi
     refine ⟨_, by simp [stepAt, r187_5, t6, e2, w1]; exact rfl, ?_⟩
     exact ⟨rfl, tree_same (keys7 rfl rfl rfl rfl rfl rfl rfl (fun k a b c d e f g => by simp [tA, tB, upd, a, b, c, d, e, f, g])) rfl rfl⟩
   ·skip
    refine ⟨_, by simp [stepAt, r187_5, t6, e2, w1]; exact rfl, ?_⟩
    refine ⟨fun hr => absurd hr (by decide), fun i hi => ?_⟩
    have hi : i ∈ [2, 4] := hi
    simp only [List.mem_cons, List.not_mem_nil, or_false] at hi
    rcases hi with rfl | rfl
    ·skip
     refine ⟨_, by simp [stepAt, r187_5, t6, e2, w1]; exact rfl, ?_⟩
     refine ⟨fun hr => absurd hr (by decide), fun i hi => ?_⟩
     have hi : i ∈ [4, 5] := hi
     simp only [List.mem_cons, List.not_mem_nil, or_false] at hi
     rcases hi with rfl | rfl
     ·skip
      refine ⟨_, by simp [stepAt, r187_5, t6, e2, w1]; exact rfl, ?_⟩
      refine ⟨fun hr => absurd hr (by decide), fun i hi => ?_⟩
      have hi : i ∈ [5] := hi
      simp only [List.mem_cons, List.not_mem_nil, or_false] at hi
      subst hi
      refine ⟨_, by simp [stepAt, r187_5, t6, e2, w1]; exact rfl, ?_⟩
      refine ⟨fun hr => absurd hr (by decide), fun i hi => ?_⟩
      have hi : i ∈ [6] := hi
      simp only [List.mem_cons, List.not_mem_nil, or_false] at hi
      subst hi
      refine ⟨_, by simp [stepAt, r187_5, t6, e2, w1]; exact rfl, ?_⟩
      exact ⟨rfl, tree_same (keys7 rfl rfl rfl rfl rfl rfl rfl (fun k a b c d e f g => by simp [tA, tB, upd, a, b, c, d, e, f, g])) rfl rfl⟩
     ·skip
      refine ⟨_, by simp [stepAt, r187_5, t6, e2, w1]; exact rfl, ?_⟩
      refine ⟨fun hr => absurd hr (by decide), fun i hi => ?_⟩
      have hi : i ∈ [4] := hi
      simp only [List.mem_cons, List.not_mem_nil, or_false] at hi
      subst hi
      refine ⟨_, by simp [stepAt, r187_5, t6, e2, w1]; exact rfl, ?_⟩
      refine ⟨fun hr => absurd hr (by decide), fun i hi => ?_⟩
      have hi : i ∈ [6] := hi
      simp only [List.mem_cons, List.not_mem_nil, or_false] at hi
      subst hi
      refine ⟨_, by simp [stepAt, r187_5, t6, e2, w1]; exact rfl, ?_⟩
      exact ⟨rfl, tree_same (keys7 rfl rfl rfl rfl rfl rfl rfl (fun k a b c d e f g => by simp [tA, tB, upd, a, b, c, d, e, f, g])) rfl rfl⟩
    ·skip
     refine ⟨_, by simp [stepAt, r187_5, t6, e2, w1]; exact rfl, ?_⟩
     refine ⟨fun hr => absurd hr (by decide), fun i hi => ?_⟩
     have hi : i ∈ [2] := hi
     simp only [List.mem_cons, List.not_mem_nil, or_false] at hi
     subst hi
     refine ⟨_, by simp [stepAt, r187_5, t6, e2, w1]; exact rfl, ?_⟩
     refine ⟨fun hr => absurd hr (by decide), fun i hi => ?_⟩
     have hi : i ∈ [5] := hi
     simp only [List.mem_cons, List.not_mem_nil, or_false] at hi
     subst hi
     refine ⟨_, by simp [stepAt, r187_5, t6, e2, w1]; exact rfl, ?_⟩
     refine ⟨fun hr => absurd hr (by decide), fun i hi => ?_⟩
     have hi : i ∈ [6] := hi
     simp only [List.mem_cons, List.not_mem_nil, or_false] at hi
     subst hi
     refine ⟨_, by simp [stepAt, r187_5, t6, e2, w1]; exact rfl, ?_⟩
     exact ⟨rfl, tree_twin (keys7 rfl rfl rfl rfl rfl rfl rfl (fun k a b c d e f g => by simp [tA, tB, upd, a, b, c, d, e, f, g])) rfl rfl⟩
  ·skip
   refine ⟨_, by simp [stepAt, r187_5, t6, e2, w1]; exact rfl, ?_⟩
   refine ⟨fun hr => absurd hr (by decide), fun i hi => ?_⟩
   have hi : i ∈ [1, 4] := hi
   simp only [List.mem_cons, List.not_mem_nil, or_false] at hi
   rcases hi with rfl | rfl
   ·skip
    refine ⟨_, by simp [stepAt, r187_5, t6, e2, w1]; exact rfl, ?_⟩
    refine ⟨fun hr => absurd hr (by decide), fun i hi => ?_⟩
    have hi : i ∈ [2, 4] := hi
    simp only [List.mem_cons, List.not_mem_nil, or_false] at hi
    rcases hi with rfl | rfl
    ·skip
     refine ⟨_, by simp [stepAt, r187_5, t6, e2, w1]; exact rfl, ?_⟩
     refine ⟨fun hr => absurd hr (by decide), fun i hi => ?_⟩
     have hi : i ∈ [4, 5] := hi
     simp only [List.mem_cons, List.not_mem_nil, or_false] at hi
     rcases hi with rfl | rfl
     ·skip
      refine ⟨_, by simp [stepAt, r187_5, t6, e2, w1]; exact rfl, ?_⟩
      refine ⟨fun hr => absurd hr (by decide), fun i hi => ?_⟩
      have hi : i ∈ [5] := hi
      simp only [List.mem_cons, List.not_mem_nil, or_false] at hi
      subst hi
      refine ⟨_, by simp [stepAt, r187_5, t6, e2, w1]; exact rfl, ?_⟩
      refine ⟨fun hr => absurd hr (by decide), fun i hi => ?_⟩
      have hi : i ∈ [6] := hi
      simp only [List.mem_cons, List.not_mem_nil, or_false] at hi
      subst hi
      refine ⟨_, by simp [stepAt, r187_5, t6, e2, w1]; exact rfl, ?_⟩
      exact ⟨rfl, tree_same (keys7 rfl rfl rfl rfl rfl rfl rfl (fun k a b c d e f g => by simp [tA, tB, upd, a, b, c, d, e, f, g])) rfl rfl⟩
     ·skip
      refine ⟨_, by simp [stepAt, r187_5, t6, e2, w1]; exact rfl, ?_⟩
      refine ⟨fun hr => absurd hr (by decide), fun i hi => ?_⟩
      have hi : i ∈ [4] := hi
      simp only [List.mem_cons, List.not_mem_nil, or_false] at hi
      subst hi
      refine ⟨_, by simp [stepAt, r187_5, t6, e2, w1]; exact rfl, ?_⟩
      refine ⟨fun hr => absurd hr (by decide), fun i hi => ?_⟩
      have hi : i ∈ [6] := hi
      simp only [List.mem_cons, List.not_mem_nil, or_false] at hi
      subst hi
      refine ⟨_, by simp [stepAt, r187_5, t6, e2, w1]; exact rfl, ?_⟩
      exact ⟨rfl, tree_same (keys7 rfl rfl rfl rfl rfl rfl rfl (fun k a b c d e f g => by simp [tA, tB, upd, a, b, c, d, e, f, g])) rfl rfl⟩
    ·skip
     refine ⟨_, by simp [stepAt, r187_5, t6, e2, w1]; exact rfl, ?_⟩
     refine ⟨fun hr => absurd hr (by decide), fun i hi => ?_⟩
     have hi : i ∈ [2] := hi
     simp only [List.mem_cons, List.not_mem_nil, or_false] at hi
     subst hi
     refine ⟨_, by simp [stepAt, r187_5, t6, e2, w1]; exact rfl, ?_⟩
     refine ⟨fun hr => absurd hr (by decide), fun i hi => ?_⟩
     have hi : i ∈ [5] := hi
     simp only [List.mem_cons, List.not_mem_nil, or_false] at hi
     subst hi
     refine ⟨_, by simp [stepAt, r187_5, t6, e2, w1]; exact rfl, ?_⟩
     refine ⟨fun hr => absurd hr (by decide), fun i hi => ?_⟩
     have hi : i ∈ [6] := hi
     simp only [List.mem_cons, List.not_mem_nil, or_false] at hi
     subst hi
     refine ⟨_, by simp [stepAt, r187_5, t6, e2, w1]; exact rfl, ?_⟩
     exact ⟨rfl, tree_twin (keys7 rfl rfl rfl rfl rfl rfl rfl (fun k a b c d e f g => by simp [tA, tB, upd, a, b, c, d, e, f, g])) rfl rfl⟩
   ·skip
    refine ⟨_, by simp [stepAt, r187_5, t6, e2, w1]; exact rfl, ?_⟩
    refine ⟨fun hr => absurd hr (by decide), fun i hi => ?_⟩
    have hi : i ∈ [1] := hi
    simp only [List.mem_cons, List.not_mem_nil, or_false] at hi
    subst hi
    refine ⟨_, by simp [stepAt, r187_5, t6, e2, w1]; exact rfl, ?_⟩
    refine ⟨fun hr => absurd hr (by decide), fun i hi => ?_⟩
    have hi : i ∈ [2] := hi
    simp only [List.mem_cons, List.not_mem_nil, or_false] at hi
    subst hi
    refine ⟨_, by simp [stepAt, r187_5, t6, e2, w1]; exact rfl, ?_⟩
    refine ⟨fun hr => absurd hr (by decide), fun i hi => ?_⟩
    have hi : i ∈ [5] := hi
    simp only [List.mem_cons, List.not_mem_nil, or_false] at hi
    subst hi
    refine ⟨_, by simp [stepAt, r187_5, t6, e2, w1]; exact rfl, ?_⟩
    refine ⟨fun hr => absurd hr (by decide), fun i hi => ?_⟩
    have hi : i ∈ [6] := hi
    simp only [List.mem_cons, List.not_mem_nil, or_false] at hi
    subst hi
    refine ⟨_, by simp [stepAt, r187_5, t6, e2, w1]; exact rfl, ?_⟩
    exact ⟨rfl, tree_twin (keys7 rfl rfl rfl rfl rfl rfl rfl (fun k a b c d e f g => by simp [tA, tB, upd, a, b, c, d, e, f, g])) rfl rfl⟩
 ·skip
  refine ⟨_, by simp [stepAt, r187_5, t6, e2, w1]; exact rfl, ?_⟩
  refine ⟨fun hr => absurd hr (by decide), fun i hi => ?_⟩
  have hi : i ∈ [0, 3] := hi
  simp only [List.mem_cons, List.not_mem_nil, or_false] at hi
  rcases hi with rfl | rfl
  ·skip
   refine ⟨_, by simp [stepAt, r187_5, t6, e2, w1]; exact rfl, ?_⟩
   refine ⟨fun hr => absurd hr (by decide), fun i hi => ?_⟩
   have hi : i ∈ [2, 3] := hi
   simp only [List.mem_cons, List.not_mem_nil, or_false] at hi
   rcases hi with rfl | rfl
   ·skip
    refine ⟨_, by simp [stepAt, r187_5, t6, e2, w1]; exact rfl, ?_⟩
    refine ⟨fun hr => absurd hr (by decide), fun i hi => ?_⟩
    have hi : i ∈ [3, 5] := hi
    simp only [List.mem_cons, List.not_mem_nil, or_false] at hi
    rcases hi with rfl | rfl
    ·skip
     refine ⟨_, by simp [stepAt, r187_5, t6, e2, w1]; exact rfl, ?_⟩
     refine ⟨fun hr => absurd hr (by decide), fun i hi => ?_⟩
     have hi : i ∈ [4, 5] := hi
     simp only [List.mem_cons, List.not_mem_nil, or_false] at hi
     rcases hi with rfl | rfl
     ·skip
      refine ⟨_, by simp [stepAt, r187_5, t6, e2, w1]; exact rfl, ?_⟩
      refine ⟨fun hr => absurd hr (by decide), fun i hi => ?_⟩
      have hi : i ∈ [5] := hi
      simp only [List.mem_cons, List.not_mem_nil, or_false] at hi
      subst hi
      refine ⟨_, by simp [stepAt, r187_5, t6, e2, w1]; exact rfl, ?_⟩
      refine ⟨fun hr => absurd hr (by decide), fun i hi => ?_⟩
      have hi : i ∈ [6] := hi
      simp only [List.mem_cons, List.not_mem_nil, or_false] at hi
      subst hi
      refine ⟨_, by simp [stepAt, r187_5, t6, e2, w1]; exact rfl, ?_⟩
      exact ⟨rfl, tree_same (keys7 rfl rfl rfl rfl rfl rfl rfl (fun k a b c d e f g => by simp [tA, tB, upd, a, b, c, d, e, f, g])) rfl rfl⟩
     ·skip
      refine ⟨_, by simp [stepAt, r187_5, t6, e2, w1]; exact rfl, ?_⟩
      refine ⟨fun hr => absurd hr (by decide), fun i hi => ?_⟩
      have hi : i ∈ [4] := hi
      simp only [List.mem_cons, List.not_mem_nil, or_false] at hi
      subst hi
      refine ⟨_, by simp [stepAt, r187_5, t6, e2, w1]; exact rfl, ?_⟩
      refine ⟨fun hr => absurd hr (by decide), fun i hi => ?_⟩
      have hi : i ∈ [6] := hi
      simp only [List.mem_cons, List.not_mem_nil, or_false] at hi
      subst hi
      refine ⟨_, by simp [stepAt, r187_5, t6, e2, w1]; exact rfl, ?_⟩
      exact ⟨rfl, tree_same (keys7 rfl rfl rfl rfl rfl rfl rfl (fun k a b c d e f g => by simp [tA, tB, upd, a, b, c, d, e, f, g])) rfl rfl⟩
    ·skip
     refine ⟨_, by simp [stepAt, r187_5, t6, e2, w1]; exact rfl, ?_⟩
     refine ⟨fun hr => absurd hr (by decide), fun i hi => ?_⟩
     have hi : i ∈ [3] := hi
     simp only [List.mem_cons, List.not_mem_nil, or_false] at hi
     subst hi
     refine ⟨_, by simp [stepAt, r187_5, t6, e2, w1]; exact rfl, ?_⟩
     refine ⟨fun hr => absurd hr (by decide), fun i hi => ?_⟩
     have hi : i ∈ [4] := hi
     simp only [List.mem_cons, List.not_mem_nil, or_false] at hi
     subst hi
     refine ⟨_, by simp [stepAt, r187_5, t6, e2, w1]; exact rfl, ?_⟩
     refine ⟨fun hr => absurd hr (by decide), fun i hi => ?_⟩
     have hi : i ∈ [6] := hi
     simp only [List.mem_cons, List.not_mem_nil, or_false] at hi
     subst hi
     refine ⟨_, by simp [stepAt, r187_5, t6, e2, w1]; exact rfl, ?_⟩
     exact ⟨rfl, tree_same (keys7 rfl rfl rfl rfl rfl rfl rfl (fun k a b c d e f g => by simp [tA, tB, upd, a, b, c, d, e, f, g])) rfl rfl⟩
   ·skip
    refine ⟨_, by simp [stepAt, r187_5, t6, e2, w1]; exact rfl, ?_⟩
    refine ⟨fun hr => absurd hr (by decide), fun i hi => ?_⟩
    have hi : i ∈ [2, 4] := hi
    simp only [List.mem_cons, List.not_mem_nil, or_false] at hi
    rcases hi with rfl | rfl
    ·skip
     refine ⟨_, by simp [stepAt, r187_5, t6, e2, w1]; exact rfl, ?_⟩
     refine ⟨fun hr => absurd hr (by decide), fun i hi => ?_⟩
     have hi : i ∈ [4, 5] := hi
     simp only [List.mem_cons, List.not_mem_nil, or_false] at hi
     rcases hi with rfl | rfl
     ·skip
      refine ⟨_, by simp [stepAt, r187_5, t6, e2, w1]; exact rfl, ?_⟩
      refine ⟨fun hr => absurd hr (by decide), fun i hi => ?_⟩
      have hi : i ∈ [5] := hi
      simp only [List.mem_cons, List.not_mem_nil, or_false] at hi
      subst hi
      refine ⟨_, by simp [stepAt, r187_5, t6, e2, w1]; exact rfl, ?_⟩
      refine ⟨fun hr => absurd hr (by decide), fun i hi => ?_⟩
      have hi : i ∈ [6] := hi
      simp only [List.mem_cons, List.not_mem_nil, or_false] at hi
      subst hi
      refine ⟨_, by simp [stepAt, r187_5, t6, e2, w1]; exact rfl, ?_⟩
      exact ⟨rfl, tree_same (keys7 rfl rfl rfl rfl rfl rfl rfl (fun k a b c d e f g => by simp [tA, tB, upd, a, b, c, d, e, f, g])) rfl rfl⟩
     ·skip
      refine ⟨_, by simp [stepAt, r187_5, t6, e2, w1]; exact rfl, ?_⟩
      refine ⟨fun hr => absurd hr (by decide), fun i hi => ?_⟩
      have hi : i ∈ [4] := hi
      simp only [List.mem_cons, List.not_mem_nil, or_false] at hi
      subst hi
      refine ⟨_, by simp [stepAt, r187_5, t6, e2, w1]; exact rfl, ?_⟩
      refine ⟨fun hr => absurd hr (by decide), fun i hi => ?_⟩
      have hi : i ∈ [6] := hi
      simp only [List.mem_cons, List.not_mem_nil, or_false] at hi
      subst hi
      refine ⟨_, by simp [stepAt, r187_5, t6, e2, w1]; exact rfl, ?_⟩
      exact ⟨rfl, tree_same (keys7 rfl rfl rfl rfl rfl rfl rfl (fun k a b c d e f g => by simp [tA, tB, upd, a, b, c, d, e, f, g])) rfl rfl⟩
    ·skip
     refine ⟨_, by simp [stepAt, r187_5, t6, e2, w1]; exact rfl, ?_⟩
     refine ⟨fun hr => absurd hr (by decide), fun i hi => ?_⟩
     have hi : i ∈ [2] := hi
     simp only [List.mem_cons, List.not_mem_nil, or_false] at hi
     subst hi
     refine ⟨_, by simp [stepAt, r187_5, t6, e2, w1]; exact rfl, ?_⟩
     refine ⟨fun hr => absurd hr (by decide), fun i hi => ?_⟩
     have hi : i ∈ [5] := hi
     simp only [List.mem_cons, List.not_mem_nil, or_false] at hi
     subst hi
     refine ⟨_, by simp [stepAt, r187_5, t6, e2, w1]; exact rfl, ?_⟩
     refine ⟨fun hr => absurd hr (by decide), fun i hi => ?_⟩
     have hi : i ∈ [6] := hi
     simp only [List.mem_cons, List.not_mem_nil, or_false] at hi
     subst hi
     refine ⟨_, by simp [stepAt, r187_5, t6, e2, w1]; exact rfl, ?_⟩
     exact ⟨rfl, tree_twin (keys7 rfl rfl rfl rfl rfl rfl rfl (fun k a b c d e f g => by simp [tA, tB, upd, a, b, c, d, e, f, g])) rfl rfl⟩
  ·skip
   refine ⟨_, by simp [stepAt, r187_5, t6, e2, w1]; exact rfl, ?_⟩
   refine ⟨fun hr => absurd hr (by decide), fun i hi => ?_⟩
   have hi : i ∈ [0, 4] := hi
   simp only [List.mem_cons, List.not_mem_nil, or_false] at hi
   rcases hi with rfl | rfl
   ·skip
    refine ⟨_, by simp [stepAt, r187_5, t6, e2, w1]; exact rfl, ?_⟩
    refine ⟨fun hr => absurd hr (by decide), fun i hi => ?_⟩
    have hi : i ∈ [2, 4] := hi
    simp only [List.mem_cons, List.not_mem_nil, or_false] at hi
    rcases hi with rfl | rfl
    ·skip
     refine ⟨_, by simp [stepAt, r187_5, t6, e2, w1]; exact rfl, ?_⟩
     refine ⟨fun hr => absurd hr (by decide), fun i hi => ?_⟩
     have hi : i ∈ [4, 5] := hi
     simp only [List.mem_cons, List.not_mem_nil, or_false] at hi
     rcases hi with rfl | rfl
     ·skip
      refine ⟨_, by simp [stepAt, r187_5, t6, e2, w1]; exact rfl, ?_⟩
      refine ⟨fun hr => absurd hr (by decide), fun i hi => ?_⟩
      have hi : i ∈ [5] := hi
      simp only [List.mem_cons, List.not_mem_nil, or_false] at hi
      subst hi
      refine ⟨_, by simp [stepAt, r187_5, t6, e2, w1]; exact rfl, ?_⟩
      refine ⟨fun hr => absurd hr (by decide), fun i hi => ?_⟩
      have hi : i ∈ [6] := hi
      simp only [List.mem_cons, List.not_mem_nil, or_false] at hi
      subst hi
      refine ⟨_, by simp [stepAt, r187_5, t6, e2, w1]; exact rfl, ?_⟩
      exact ⟨rfl, tree_same (keys7 rfl rfl rfl rfl rfl rfl rfl (fun k a b c d e f g => by simp [tA, tB, upd, a, b, c, d, e, f, g])) rfl rfl⟩
     ·skip
      refine ⟨_, by simp [stepAt, r187_5, t6, e2, w1]; exact rfl, ?_⟩
      refine ⟨fun hr => absurd hr (by decide), fun i hi => ?_⟩
      have hi : i ∈ [4] := hi
      simp only [List.mem_cons, List.not_mem_nil, or_false] at hi
      subst hi
      refine ⟨_, by simp [stepAt, r187_5, t6, e2, w1]; exact rfl, ?_⟩
      refine ⟨fun hr => absurd hr (by decide), fun i hi => ?_⟩
      have hi : i ∈ [6] := hi
      simp only [List.mem_cons, List.not_mem_nil, or_false] at hi
      subst hi
      refine ⟨_, by simp [stepAt, r187_5, t6, e2, w1]; exact rfl, ?_⟩
      exact ⟨rfl, tree_same (keys7 rfl rfl rfl rfl rfl rfl rfl (fun k a b c d e f g => by simp [tA, tB, upd, a, b, c, d, e, f, g])) rfl rfl⟩
    ·skip
     refine ⟨_, by simp [stepAt, r187_5, t6, e2, w1]; exact rfl, ?_⟩
     refine ⟨fun hr => absurd hr (by decide), fun i hi => ?_⟩
     have hi : i ∈ [2] := hi
     simp only [List.mem_cons, List.not_mem_nil, or_false] at hi
     subst hi
     refine ⟨_, by simp [stepAt, r187_5, t6, e2, w1]; exact rfl, ?_⟩
     refine ⟨fun hr => absurd hr (by decide), fun i hi => ?_⟩
     have hi : i ∈ [5] := hi
     simp only [List.mem_cons, List.not_mem_nil, or_false] at hi
     subst hi
     refine ⟨_, by simp [stepAt, r187_5, t6, e2, w1]; exact rfl, ?_⟩
     refine ⟨fun hr => absurd hr (by decide), fun i hi => ?_⟩
     have hi : i ∈ [6] := hi
     simp only [List.mem_cons, List.not_mem_nil, or_false] at hi
     subst hi
     refine ⟨_, by simp [stepAt, r187_5, t6, e2, w1]; exact rfl, ?_⟩
     exact ⟨rfl, tree_twin (keys7 rfl rfl rfl rfl rfl rfl rfl (fun k a b c d e f g => by simp [tA, tB, upd, a, b, c, d, e, f, g])) rfl rfl⟩
   ·skip
    refine ⟨_, by simp [stepAt, r187_5, t6, e2, w1]; exact rfl, ?_⟩
    refine ⟨fun hr => absurd hr (by decide), fun i hi => ?_⟩
    have hi : i ∈ [0] := hi
    simp only [List.mem_cons, List.not_mem_nil, or_false] at hi
    subst hi
    refine ⟨_, by simp [stepAt, r187_5, t6, e2, w1]; exact rfl, ?_⟩
    refine ⟨fun hr => absurd hr (by decide), fun i hi => ?_⟩
    have hi : i ∈ [2] := hi
    simp only [List.mem_cons, List.not_mem_nil, or_false] at hi
    subst hi
    refine ⟨_, by simp [stepAt, r187_5, t6, e2, w1]; exact rfl, ?_⟩
    refine ⟨fun hr => absurd hr (by decide), fun i hi => ?_⟩
    have hi : i ∈ [5] := hi
    simp only [List.mem_cons, List.not_mem_nil, or_false] at hi
    subst hi
    refine ⟨_, by simp [stepAt, r187_5, t6, e2, w1]; exact rfl, ?_⟩
    refine ⟨fun hr => absurd hr (by decide), fun i hi => ?_⟩
    have hi : i ∈ [6] := hi
    simp only [List.mem_cons, List.not_mem_nil, or_false] at hi
    subst hi
    refine ⟨_, by simp [stepAt, r187_5, t6, e2, w1]; exact rfl, ?_⟩
    exact ⟨rfl, tree_twin (keys7 rfl rfl rfl rfl rfl rfl rfl (fun k a b c d e f g => by simp [tA, tB, upd, a, b, c, d, e, f, g])) rfl rfl⟩
 ·skip
  refine ⟨_, by simp [stepAt, r187_5, t6, e2, w1]; exact rfl, ?_⟩
  refine ⟨fun hr => absurd hr (by decide), fun i hi => ?_⟩
  have hi : i ∈ [0, 1, 4] := hi
  simp only [List.mem_cons, List.not_mem_nil, or_false] at hi
  rcases hi with rfl | rfl | rfl
  ·skip
   refine ⟨_, by simp [stepAt, r187_5, t6, e2, w1]; exact rfl, ?_⟩
   refine ⟨fun hr => absurd hr (by decide), fun i hi => ?_⟩
   have hi : i ∈ [1, 4] := hi
   simp only [List.mem_cons, List.not_mem_nil, or_false] at hi
   rcases hi with rfl | rfl
   ·skip
    refine ⟨_, by simp [stepAt, r187_5, t6, e2, w1]; exact rfl, ?_⟩
    refine ⟨fun hr => absurd hr (by decide), fun i hi => ?_⟩
    have hi : i ∈ [2, 4] := hi
    simp only [List.mem_cons, List.not_mem_nil, or_false] at hi
    rcases hi with rfl | rfl
    ·skip
     refine ⟨_, by simp [stepAt, r187_5, t6, e2, w1]; exact rfl, ?_⟩
     refine ⟨fun hr => absurd hr (by decide), fun i hi => ?_⟩
     have hi : i ∈ [4, 5] := hi
     simp only [List.mem_cons, List.not_mem_nil, or_false] at hi
     rcases hi with rfl | rfl
     ·skip
      refine ⟨_, by simp [stepAt, r187_5, t6, e2, w1]; exact rfl, ?_⟩
      refine ⟨fun hr => absurd hr (by decide), fun i hi => ?_⟩
      have hi : i ∈ [5] := hi
      simp only [List.mem_cons, List.not_mem_nil, or_false] at hi
      subst hi
      refine ⟨_, by simp [stepAt, r187_5, t6, e2, w1]; exact rfl, ?_⟩
      refine ⟨fun hr => absurd hr (by decide), fun i hi => ?_⟩
      have hi : i ∈ [6] := hi
      simp only [List.mem_cons, List.not_mem_nil, or_false] at hi
      subst hi
      refine ⟨_, by simp [stepAt, r187_5, t6, e2, w1]; exact rfl, ?_⟩
      exact ⟨rfl, tree_same (keys7 rfl rfl rfl rfl rfl rfl rfl (fun k a b c d e f g => by simp [tA, tB, upd, a, b, c, d, e, f, g])) rfl rfl⟩
     ·skip
      refine ⟨_, by simp [stepAt, r187_5, t6, e2, w1]; exact rfl, ?_⟩
      refine ⟨fun hr => absurd hr (by decide), fun i hi => ?_⟩
      have hi : i ∈ [4] := hi
      simp only [List.mem_cons, List.not_mem_nil, or_false] at hi
      subst hi
      refine ⟨_, by simp [stepAt, r187_5, t6, e2, w1]; exact rfl, ?_⟩
      refine ⟨fun hr => absurd hr (by decide), fun i hi => ?_⟩
      have hi : i ∈ [6] := hi
      simp only [List.mem_cons, List.not_mem_nil, or_false] at hi
      subst hi
      refine ⟨_, by simp [stepAt, r187_5, t6, e2, w1]; exact rfl, ?_⟩
      exact ⟨rfl, tree_same (keys7 rfl rfl rfl rfl rfl rfl rfl (fun k a b c d e f g => by simp [tA, tB, upd, a, b, c, d, e, f, g])) rfl rfl⟩
    ·skip
     refine ⟨_, by simp [stepAt, r187_5, t6, e2, w1]; exact rfl, ?_⟩
     refine ⟨fun hr => absurd hr (by decide), fun i hi => ?_⟩
     have hi : i ∈ [2] := hi
     simp only [List.mem_cons, List.not_mem_nil, or_false] at hi
     subst hi
     refine ⟨_, by simp [stepAt, r187_5, t6, e2, w1]; exact rfl, ?_⟩
     refine ⟨fun hr => absurd hr (by decide), fun i hi => ?_⟩
     have hi : i ∈ [5] := hi
     simp only [List.mem_cons, List.not_mem_nil, or_false] at hi
     subst hi
     refine ⟨_, by simp [stepAt, r187_5, t6, e2, w1]; exact rfl, ?_⟩
     refine ⟨fun hr => absurd hr (by decide), fun i hi => ?_⟩
     have hi : i ∈ [6] := hi
     simp only [List.mem_cons, List.not_mem_nil, or_false] at hi
     subst hi
     refine ⟨_, by simp [stepAt, r187_5, t6, e2, w1]; exact rfl, ?_⟩
     exact ⟨rfl, tree_twin (keys7 rfl rfl rfl rfl rfl rfl rfl (fun k a b c d e f g => by simp [tA, tB, upd, a, b, c, d, e, f, g])) rfl rfl⟩
   ·skip
    refine ⟨_, by simp [stepAt, r187_5, t6, e2, w1]; exact rfl, ?_⟩
    refine ⟨fun hr => absurd hr (by decide), fun i hi => ?_⟩
    have hi : i ∈ [1] := hi
    simp only [List.mem_cons, List.not_mem_nil, or_false] at hi
    subst hi
    refine ⟨_, by simp [stepAt, r187_5, t6, e2, w1]; exact rfl, ?_⟩
    refine ⟨fun hr => absurd hr (by decide), fun i hi => ?_⟩
    have hi : i ∈ [2] := hi
    simp only [List.mem_cons, List.not_mem_nil, or_false] at hi
    subst hi
    refine ⟨_, by simp [stepAt, r187_5, t6, e2, w1]; exact rfl, ?_⟩
    refine ⟨fun hr => absurd hr (by decide), fun i hi => ?_⟩
    have hi : i ∈ [5] := hi
    simp only [List.mem_cons, List.not_mem_nil, or_false] at hi
    subst hi
    refine ⟨_, by simp [stepAt, r187_5, t6, e2, w1]; exact rfl, ?_⟩
    refine ⟨fun hr => absurd hr (by decide), fun i hi => ?_⟩
    have hi : i ∈ [6] := hi
    simp only [List.mem_cons, List.not_mem_nil, or_false] at hi
    subst hi
    refine ⟨_, by simp [stepAt, r187_5, t6, e2, w1]; exact rfl, ?_⟩
    exact ⟨rfl, tree_twin (keys7 rfl rfl rfl rfl rfl rfl rfl (fun k a b c d e f g => by simp [tA, tB, upd, a, b, c, d, e, f, g])) rfl rfl⟩
  ·skip
   refine ⟨_, by simp [stepAt, r187_5, t6, e2, w1]; exact rfl, ?_⟩
   refine ⟨fun hr => absurd hr (by decide), fun i hi => ?_⟩
   have hi : i ∈ [0, 4] := hi
   simp only [List.mem_cons, List.not_mem_nil, or_false] at hi
   rcases hi with rfl | rfl
   ·skip
    refine ⟨_, by simp [stepAt, r187_5, t6, e2, w1]; exact rfl, ?_⟩
    refine ⟨fun hr => absurd hr (by decide), fun i hi => ?_⟩
    have hi : i ∈ [2, 4] := hi
    simp only [List.mem_cons, List.not_mem_nil, or_false] at hi
    rcases hi with rfl | rfl
    ·skip
     refine ⟨_, by simp [stepAt, r187_5, t6, e2, w1]; exact rfl, ?_⟩
     refine ⟨fun hr => absurd hr (by decide), fun i hi => ?_⟩
     have hi : i ∈ [4, 5] := hi
     simp only [List.mem_cons, List.not_mem_nil, or_false] at hi
     rcases hi with rfl | rfl
     ·skip
      refine ⟨_, by simp [stepAt, r187_5, t6, e2, w1]; exact rfl, ?_⟩
      refine ⟨fun hr => absurd hr (by decide), fun i hi => ?_⟩
      have hi : i ∈ [5] := hi
      simp only [List.mem_cons, List.not_mem_nil, or_false] at hi
      subst hi
      refine ⟨_, by simp [stepAt, r187_5, t6, e2, w1]; exact rfl, ?_⟩
      refine ⟨fun hr => absurd hr (by decide), fun i hi => ?_⟩
      have hi : i ∈ [6] := hi
      simp only [List.mem_cons, List.not_mem_nil, or_false] at hi
      subst hi
      refine ⟨_, by simp [stepAt, r187_5, t6, e2, w1]; exact rfl, ?_⟩
      exact ⟨rfl, tree_same (keys7 rfl rfl rfl rfl rfl rfl rfl (fun k a b c d e f g => by simp [tA, tB, upd, a, b, c, d, e, f, g])) rfl rfl⟩
     ·skip
      refine ⟨_, by simp [stepAt, r187_5, t6, e2, w1]; exact rfl, ?_⟩
      refine ⟨fun hr => absurd hr (by decide), fun i hi => ?_⟩
      have hi : i ∈ [4] := hi
      simp only [List.mem_cons, List.not_mem_nil, or_false] at hi
      subst hi
      refine ⟨_, by simp [stepAt, r187_5, t6, e2, w1]; exact rfl, ?_⟩
      refine ⟨fun hr => absurd hr (by decide), fun i hi => ?_⟩
      have hi : i ∈ [6] := hi
      simp only [List.mem_cons, List.not_mem_nil, or_false] at hi
      subst hi
      refine ⟨_, by simp [stepAt, r187_5, t6, e2, w1]; exact rfl, ?_⟩
      exact ⟨rfl, tree_same (keys7 rfl rfl rfl rfl rfl rfl rfl (fun k a b c d e f g => by simp [tA, tB, upd, a, b, c, d, e, f, g])) rfl rfl⟩
    ·skip
     refine ⟨_, by simp [stepAt, r187_5, t6, e2, w1]; exact rfl, ?_⟩
     refine ⟨fun hr => absurd hr (by decide), fun i hi => ?_⟩
     have hi : i ∈ [2] := hi
     simp only [List.mem_cons, List.not_mem_nil, or_false] at hi
     subst hi
     refine ⟨_, by simp [stepAt, r187_5, t6, e2, w1]; exact rfl, ?_⟩
     refine ⟨fun hr => absurd hr (by decide), fun i hi => ?_⟩
     have hi : i ∈ [5] := hi
     simp only [List.mem_cons, List.not_mem_nil, or_false] at hi
     subst hi
     refine ⟨_, by simp [stepAt, r187_5, t6, e2, w1]; exact rfl, ?_⟩
     refine ⟨fun hr => absurd hr (by decide), fun i hi => ?_⟩
     have hi : i ∈ [6] := hi
     simp only [List.mem_cons, List.not_mem_nil, or_false] at hi
     subst hi
     refine ⟨_, by simp [stepAt, r187_5, t6, e2, w1]; exact rfl, ?_⟩
     exact ⟨rfl, tree_twin (keys7 rfl rfl rfl rfl rfl rfl rfl (fun k a b c d e f g => by simp [tA, tB, upd, a, b, c, d, e, f, g])) rfl rfl⟩
   ·skip
    refine ⟨_, by simp [stepAt, r187_5, t6, e2, w1]; exact rfl, ?_⟩
    refine ⟨fun hr => absurd hr (by decide), fun i hi => ?_⟩
    have hi : i ∈ [0] := hi
    simp only [List.mem_cons, List.not_mem_nil, or_false] at hi
    subst hi
    refine ⟨_, by simp [stepAt, r187_5, t6, e2, w1]; exact rfl, ?_⟩
    refine ⟨fun hr => absurd hr (by decide), fun i hi => ?_⟩
    have hi : i ∈ [2] := hi
    simp only [List.mem_cons, List.not_mem_nil, or_false] at hi
    subst hi
    refine ⟨_, by simp [stepAt, r187_5, t6, e2, w1]; exact rfl, ?_⟩
    refine ⟨fun hr => absurd hr (by decide), fun i hi => ?_⟩
    have hi : i ∈ [5] := hi
    simp only [List.mem_cons, List.not_mem_nil, or_false] at hi
    subst hi
    refine ⟨_, by simp [stepAt, r187_5, t6, e2, w1]; exact rfl, ?_⟩
    refine ⟨fun hr => absurd hr (by decide), fun i hi => ?_⟩
    have hi : i ∈ [6] := hi
    simp only [List.mem_cons, List.not_mem_nil, or_false] at hi
    subst hi
    refine ⟨_, by simp [stepAt, r187_5, t6, e2, w1]; exact rfl, ?_⟩
    exact ⟨rfl, tree_twin (keys7 rfl rfl rfl rfl rfl rfl rfl (fun k a b c d e f g => by simp [tA, tB, upd, a, b, c, d, e, f, g])) rfl rfl⟩
  ·skip
   refine ⟨_, by simp [stepAt, r187_5, t6, e2, w1]; exact rfl, ?_⟩
   refine ⟨fun hr => absurd hr (by decide), fun i hi => ?_⟩
   have hi : i ∈ [0, 1] := hi
   simp only [List.mem_cons, List.not_mem_nil, or_false] at hi
   rcases hi with rfl | rfl
   ·skip
    refine ⟨_, by simp [stepAt, r187_5, t6, e2, w1]; exact rfl, ?_⟩
    refine ⟨fun hr => absurd hr (by decide), fun i hi => ?_⟩
    have hi : i ∈ [1] := hi
    simp only [List.mem_cons, List.not_mem_nil, or_false] at hi
    subst hi
    refine ⟨_, by simp [stepAt, r187_5, t6, e2, w1]; exact rfl, ?_⟩
    refine ⟨fun hr => absurd hr (by decide), fun i hi => ?_⟩
    have hi : i ∈ [2] := hi
    simp only [List.mem_cons, List.not_mem_nil, or_false] at hi
    subst hi
    refine ⟨_, by simp [stepAt, r187_5, t6, e2, w1]; exact rfl, ?_⟩
    refine ⟨fun hr => absurd hr (by decide), fun i hi => ?_⟩
    have hi : i ∈ [5] := hi
    simp only [List.mem_cons, List.not_mem_nil, or_false] at hi
    subst hi
    refine ⟨_, by simp [stepAt, r187_5, t6, e2, w1]; exact rfl, ?_⟩
    refine ⟨fun hr => absurd hr (by decide), fun i hi => ?_⟩
    have hi : i ∈ [6] := hi
    simp only [List.mem_cons, List.not_mem_nil, or_false] at hi
    subst hi
    refine ⟨_, by simp [stepAt, r187_5, t6, e2, w1]; exact rfl, ?_⟩
    exact ⟨rfl, tree_twin (keys7 rfl rfl rfl rfl rfl rfl rfl (fun k a b c d e f g => by simp [tA, tB, upd, a, b, c, d, e, f, g])) rfl rfl⟩
   ·skip
    refine ⟨_, by simp [stepAt, r187_5, t6, e2, w1]; exact rfl, ?_⟩
    refine ⟨fun hr => absurd hr (by decide), fun i hi => ?_⟩
    have hi : i ∈ [0] := hi
    simp only [List.mem_cons, List.not_mem_nil, or_false] at hi
    subst hi
    refine ⟨_, by simp [stepAt, r187_5, t6, e2, w1]; exact rfl, ?_⟩
    refine ⟨fun hr => absurd hr (by decide), fun i hi => ?_⟩
    have hi : i ∈ [2] := hi
    simp only [List.mem_cons, List.not_mem_nil, or_false] at hi
    subst hi
    refine ⟨_, by simp [stepAt, r187_5, t6, e2, w1]; exact rfl, ?_⟩
    refine ⟨fun hr => absurd hr (by decide), fun i hi => ?_⟩
    have hi : i ∈ [5] := hi
    simp only [List.mem_cons, List.not_mem_nil, or_false] at hi
    subst hi
    refine ⟨_, by simp [stepAt, r187_5, t6, e2, w1]; exact rfl, ?_⟩
    refine ⟨fun hr => absurd hr (by decide), fun i hi => ?_⟩
    have hi : i ∈ [6] := hi
    simp only [List.mem_cons, List.not_mem_nil, or_false] at hi
    subst hi
    refine ⟨_, by simp [stepAt, r187_5, t6, e2, w1]; exact rfl, ?_⟩
    exact ⟨rfl, tree_twin (keys7 rfl rfl rfl rfl rfl rfl rfl (fun k a b c d e f g => by simp [tA, tB, upd, a, b, c, d, e, f, g])) rfl rfl⟩

end Go.Proofs.YtpbngohpklpalaaGreat

/- What dominates in the graph of one block: the walk. -/
namespace Go.Proofs.YtpbngohpklpalaaGreat
open Go.LS Go.IntWalk
theorem tree_one (h : LS.Heap) : callD T 187 [.agg oneG, .int .i64 0] h = some (.lst .ro [[.int .i64 (-1)]], h) := by
 have e1 := order_run h
 unfold oneG at e1 ⊢
 have w1 : IntKind.i64.wrap 1 = 1 := rfl
 refine W_call t187 rfl rfl (by simp) ?_
 show W T c187 _ _
 unfold c187
 refine W_seq (W_ops (s1 := ?_) (by simp only [r187_0]; simp [a187, nextVer]; exact rfl) ?_)
 refine W_scope ?_
 refine W_seq (W_ops (s1 := ?_) (by simp only [r187_1]; simp [e1]; exact rfl) ?_)
 refine W_seq (W_seq (W_ops (s1 := ?_) (by simp only [r187_2]; simp; exact rfl) ?_))
 refine W_cond_f (by simp) (W_skip ?_)
 refine W_seq (W_ops (s1 := ?_) (by simp only [r187_4]; simp; exact rfl) ?_)
 refine W_seq (W_dops (tree_region (by simp)) ?_)
 have f1 : (hA h).objs h.next = some (.row [[.int .i64 (-2)]]) := by simp [hA, Heap.new, upd]
 have f2 : (hA h).objs (h.next + 1) = some (.row [[.int .i64 0]]) := by simp [hA, Heap.new, upd]
 have f3 : HExt h (hA h) := ⟨by simp [hA, Heap.new]; omega, fun id hid => by
  have a1 : id ≠ h.next := by omega
  have a2 : id ≠ h.next + 1 := by omega
  simp [hA, Heap.new, upd, a1, a2]⟩
 generalize hA h = h2 at f1 f2 f3
 simp only [tA]
 refine W_seq (W_seq (W_ops (s1 := ?_) (by simp only [r187_6]; simp; exact rfl) ?_))
 refine W_block (W_loop' l187_0.eq_1 ?_)
 refine W_seq (W_ops (s1 := ?_) (by simp only [r187_7]; simp; exact rfl) ?_)
 refine W_seq (W_cond_t (by simp) (W_skip ?_))
 refine W_seq (W_block (W_seq (W_ops (s1 := ?_) (by simp only [r187_8]; simp; exact rfl) ?_)))
 refine W_ops (s1 := ?_) (by simp only [r187_9]; simp [f2]; exact rfl) ?_
 repeat' (first | refine W_seq ?_ | refine W_skip ?_ | refine W_block ?_ | refine W_ret ?_ | refine W_exit ?_ | refine W_ops (s1 := ?_) (by simp [w1]; exact rfl) ?_ | refine W_tops (s1 := ?_) (by simp [w1]; exact rfl) ?_ | refine W_cond_t (by first | (simp [w1]; done) | fail) ?_ | refine W_cond_f (by first | (simp [w1]; done) | fail) ?_ | fail)
 refine W_loop' l187_0.eq_1 ?_
 repeat' (first | refine W_seq ?_ | refine W_skip ?_ | refine W_block ?_ | refine W_ret ?_ | refine W_exit ?_ | refine W_ops (s1 := ?_) (by simp [f1, Heap.set]; exact rfl) ?_ | refine W_tops (s1 := ?_) (by simp [f1, Heap.set]; exact rfl) ?_ | refine W_cond_t (by first | (simp [f1, Heap.set]; done) | fail) ?_ | refine W_cond_f (by first | (simp [f1, Heap.set]; done) | fail) ?_ | fail)
 refine W_label ?_
 repeat' (first | refine W_seq ?_ | refine W_skip ?_ | refine W_block ?_ | refine W_ret ?_ | refine W_exit ?_ | refine W_ops (s1 := ?_) (by simp [f1, Heap.set]; exact rfl) ?_ | refine W_tops (s1 := ?_) (by simp [f1, Heap.set]; exact rfl) ?_ | refine W_cond_t (by first | (simp [f1, Heap.set]; done) | fail) ?_ | refine W_cond_f (by first | (simp [f1, Heap.set]; done) | fail) ?_ | fail)
 refine W_loop' l187_1.eq_1 ?_
 repeat' (first | refine W_seq ?_ | refine W_skip ?_ | refine W_block ?_ | refine W_ret ?_ | refine W_exit ?_ | refine W_ops (s1 := ?_) (by simp [f1, Heap.set]; exact rfl) ?_ | refine W_tops (s1 := ?_) (by simp [f1, Heap.set]; exact rfl) ?_ | refine W_cond_t (by first | (simp [f1, Heap.set]; done) | fail) ?_ | refine W_cond_f (by first | (simp [f1, Heap.set]; done) | fail) ?_ | fail)
 refine W_ops (s1 := ?_) (by simp only [r187_28]; simp [freezeV, Heap.kill]; exact rfl) (W_ret ?_)
 refine ⟨(fun l e => by cases e), .inr rfl, [.lst .ro [[.int .i64 (-1)]]], by simp [a187, resV, resV1], by simp [a187, packV], rfl, f3.1, fun id hid => ?_⟩
 have a1 : id ≠ h.next := by omega
 have a2 : id ≠ h.next + 1 := by omega
 simp only [upd, a1, a2, if_false]
 exact f3.2 id hid

end Go.Proofs.YtpbngohpklpalaaGreat

/- The checker of a straight function: the blocks fit; nothing is wrong. -/
namespace Go.Proofs.YtpbngohpklpalaaGreat
open Go.LS Go.IntWalk
def TreeOne : Prop := ∀ h, callD T 187 [.agg oneG, .int .i64 0] h = some (.lst .ro [[.int .i64 (-1)]], h)
theorem shape_run (hTree : TreeOne) (x : Straight) (c : Nat) (h : LS.Heap) (hcn : c < h.next) {succ pred tree : List (List V)} {ts tp tt : Tag} (hc : h.objs c = some (.var (chkC x.f succ pred tree ts tp tt none))) :
  ∃ h', callD T 167 [.obj c 0] h = some (.int .i64 0, h') ∧ h'.next = h.next ∧ h'.objs c = some (.var (chkC x.f [[.lst .nil []]] [[.lst .ro []]] [[.int .i64 (-1)]] .ro .ro .ro none)) ∧ ∀ id, id ≠ c → h'.objs id = h.objs id := by
 have hcC : ∀ succ pred tree ts tp tt m, chkC x.f succ pred tree ts tp tt m = [.lst .ro (x.ps.map intC), .int .i64 x.ret, .lst .ro [[.lst .ro [], .lst .ro (x.ops.map OpD.c), .int .i64 0, .int .i64 x.arg, .lst .ro []]], .int .i64 2, .lst ts succ, .lst tp pred, .lst tt tree, .map m] := fun _ _ _ _ _ _ _ => rfl
 have e1 := of_graph (x.ps.map intC) x.ret (x.ops.map OpD.c) x.arg (by simp) (by simp) h
 have e2 := hTree h
 have e3 := fun h1 : LS.Heap => over_run .ro h1
 unfold oneG at e2
 rw [hcC] at hc
 refine W_callE t167 rfl rfl (by simp) ?_
 show W T c167 _ _
 unfold c167
 refine W_seq (W_ops (s1 := ?_) (by simp only [r167_0]; simp [a167]; exact rfl) ?_)
 refine W_seq (W_ops (s1 := ?_) (by simp only [r167_1]; simp [hc, e1, nextVer]; exact rfl) ?_)
 repeat' (first | refine W_seq ?_ | refine W_skip ?_ | refine W_block ?_ | refine W_ret ?_ | refine W_exit ?_ | refine W_ops (s1 := ?_) (by simp [hc, e2, Heap.set]; exact rfl) ?_ | refine W_tops (s1 := ?_) (by simp [hc, e2, Heap.set]; exact rfl) ?_ | refine W_cond_t (by first | (simp [hc, e2, Heap.set]; done) | fail) ?_ | refine W_cond_f (by first | (simp [hc, e2, Heap.set]; done) | fail) ?_ | fail)
 generalize hH : LS.Heap.mk _ _ = h1
 have hc1 : h1.objs c = some (.var (chkC x.f [[.lst .nil []]] [[.lst .ro []]] [[.int .i64 (-1)]] .ro .ro .ro none)) := by rw [← hH]; simp [upd, hcC]
 have hn1 : h1.next = h.next := by rw [← hH]
 have ho1 : ∀ id, id ≠ c → h1.objs id = h.objs id := fun id hid => by rw [← hH]; simp [upd, hid]
 clear hH
 rw [hcC] at hc1
 repeat' (first | refine W_seq ?_ | refine W_skip ?_ | refine W_block ?_ | refine W_ret ?_ | refine W_exit ?_ | refine W_ops (s1 := ?_) (by simp [hc1]; exact rfl) ?_ | refine W_tops (s1 := ?_) (by simp [hc1]; exact rfl) ?_ | refine W_cond_t (by first | (simp [hc1]; done) | fail) ?_ | refine W_cond_f (by first | (simp [hc1]; done) | fail) ?_ | fail)
 refine W_loop' l167_0.eq_1 ?_
 repeat' (first | refine W_seq ?_ | refine W_skip ?_ | refine W_block ?_ | refine W_ret ?_ | refine W_exit ?_ | refine W_ops (s1 := ?_) (by simp [hc1, e3, w1]; exact rfl) ?_ | refine W_tops (s1 := ?_) (by simp [hc1, e3, w1]; exact rfl) ?_ | refine W_cond_t (by first | (simp [hc1, e3, w1]; done) | fail) ?_ | refine W_cond_f (by first | (simp [hc1, e3, w1]; done) | fail) ?_ | fail)
 refine W_loop' l167_1.eq_1 ?_
 repeat' (first | refine W_seq ?_ | refine W_skip ?_ | refine W_block ?_ | refine W_ret ?_ | refine W_exit ?_ | refine W_ops (s1 := ?_) (by simp [hc1, w1]; exact rfl) ?_ | refine W_tops (s1 := ?_) (by simp [hc1, w1]; exact rfl) ?_ | refine W_cond_t (by first | (simp [hc1, w1]; done) | fail) ?_ | refine W_cond_f (by first | (simp [hc1, w1]; done) | fail) ?_ | fail)
 refine W_loop' l167_0.eq_1 ?_
 repeat' (first | refine W_seq ?_ | refine W_skip ?_ | refine W_block ?_ | refine W_ret ?_ | refine W_exit ?_ | refine W_ops (s1 := ?_) (by simp; exact rfl) ?_ | refine W_tops (s1 := ?_) (by simp; exact rfl) ?_ | refine W_cond_t (by first | (simp; done) | fail) ?_ | refine W_cond_f (by first | (simp; done) | fail) ?_ | fail)
 exact ⟨.inr rfl, [.int .i64 0], by simp [a167, resV, resV1], by simp [a167, packV], hn1, hc1, ho1⟩
structure Straight.Right (x : Straight) : Prop where
 fit : x.f.Fit
 tells : x.f.tells = true
 takes : ∀ o ∈ x.ops, TakesOK o
 ret : widthB x.ret = true
 ps : ∀ p ∈ x.ps, widthB p = true
 ops : ∀ o ∈ x.ops, mayOp o = true
 once : ∀ k (hk : k < x.ops.length), 0 < (giveM x.ops[k]).1 → Do x k x.ops[k].dst = none
 uses : ∀ k (hk : k < x.ops.length) j (hj : j < (takeL x.ops[k]).length), ∃ v d, x.ops[k].args[j]? = some v ∧ x.D v = some d ∧ d.bits = (takeL x.ops[k])[j].1 ∧ d.lanes = (takeL x.ops[k])[j].2 ∧ (d.block < 0 ∨ (d.block = 0 ∧ d.at_ < k))
 last : ∃ d, x.D x.arg = some d ∧ d.bits = x.ret ∧ d.lanes = 1 ∧ (d.block < 0 ∨ (d.block = 0 ∧ d.at_ < 1048576))
theorem width_ne {n : Int} (h : widthB n = true) : n ≠ 0 := by
 have := width_cases h
 omega
theorem look_run (hTree : TreeOne) (x : Straight) (R : x.Right) (h : LS.Heap) :
  ∃ h' m, callD T 118 [.agg x.f.c, .int .i64 2] h = some (.tup [.obj h.next 0, .int .i64 0], h') ∧ HExt h h' ∧ h.next < m ∧ m < h'.next ∧
   (∃ l1 l2 l3 l4 l5 l6 l7, h'.objs h.next = some (.var [l1, l2, l3, l4, l5, l6, l7, .map (some m)])) ∧ h'.objs m = some (.map .i64 (defsV x.D)) := by
 have hcC : ∀ succ pred tree ts tp tt m, chkC x.f succ pred tree ts tp tt m = [.lst .ro (x.ps.map intC), .int .i64 x.ret, .lst .ro [[.lst .ro [], .lst .ro (x.ops.map OpD.c), .int .i64 0, .int .i64 x.arg, .lst .ro []]], .int .i64 2, .lst ts succ, .lst tp pred, .lst tt tree, .map m] := fun _ _ _ _ _ _ _ => rfl
 have hfc : x.f.c = [.lst .ro (x.ps.map intC), .int .i64 x.ret, .lst .ro [[.lst .ro [], .lst .ro (x.ops.map OpD.c), .int .i64 0, .int .i64 x.arg, .lst .ro []]]] := rfl
 have hret := width_ne R.ret
 -- the checker
 obtain ⟨h1, hh1⟩ : ∃ h1, h.new (.var (chkC x.f [] [] [] .nil .nil .nil none)) = h1 := ⟨_, rfl⟩
 have c1 : h1.objs h.next = some (.var (chkC x.f [] [] [] .nil .nil .nil none)) := by rw [← hh1]; exact new_objs_new _ _
 have n1 : h1.next = h.next + 1 := by rw [← hh1]; rfl
 have x1 : HExt h h1 := by rw [← hh1]; exact .new _ _
 have e0 := codeMay_run x.f R.fit h1
 rw [R.tells] at e0
 obtain ⟨h2, e1, n2, c2, o2⟩ := shape_run hTree x h.next h1 (by omega) c1
 have e2 := typed_run x h.next h2 (by omega) c2 R.fit R.takes R.ret R.ps R.ops
 have c3 := (new_objs_old (h := h2) (o := .var [.obj h.next 0]) (id := h.next) (by omega)).trans c2
 obtain ⟨h4, e3, n4, c4, m4, o4⟩ := defined_run x h.next (h2.new (.var [.obj h.next 0])) (by simp only [Heap.new]; omega) c3 R.fit R.takes hret R.once
  (fun k hk j hj => let ⟨v, d, q1, q2, _⟩ := R.uses k hk j hj; ⟨v, d, q1, q2⟩) (let ⟨d, q1, _⟩ := R.last; ⟨d, q1⟩)
 have n3 : (h2.new (.var [.obj h.next 0])).next = h.next + 2 := by simp only [Heap.new]; omega
 rw [n3] at n4 c4 m4
 obtain ⟨h5, e4, x5⟩ := shapes_run x h.next (h.next + 2 + 1) h4 (by omega) (by omega) c4 m4 R.fit R.takes hret
  (fun k hk j hj => let ⟨v, d, q1, q2, q3, q4, _⟩ := R.uses k hk j hj; ⟨v, d, q1, q2, q3, q4⟩) (let ⟨d, q1, q2, q3, _⟩ := R.last; ⟨d, q1, q2, q3⟩)
 have c5 := (x5.2 h.next (by omega)).trans c4
 have m5 := (x5.2 (h.next + 2 + 1) (by omega)).trans m4
 obtain ⟨h6, e5, x6⟩ := places_run x h.next (h.next + 2 + 1) h5 (by have := x5.1; omega) (by have := x5.1; omega) c5 m5 R.fit R.takes hret
  (fun k hk j hj => let ⟨v, d, q1, q2, q3, q4, q5⟩ := R.uses k hk j hj; ⟨v, d, q1, q2, q5⟩) (let ⟨d, q1, q2, q3, q4⟩ := R.last; ⟨d, q1, q4⟩)
 have c6 := (x6.2 h.next (by have := x5.1; omega)).trans c5
 have m6 := (x6.2 (h.next + 2 + 1) (by have := x5.1; omega)).trans m5
 have hx : HExt h h6 := by
  refine ⟨by have := x5.1; have := x6.1; omega, fun id hid => ?_⟩
  rw [x6.2 id (by have := x5.1; omega), x5.2 id (by omega), o4 id (by rw [n3]; omega) (by omega), new_objs_old (by omega), o2 id (by omega), x1.2 id hid]
 rw [hfc] at e0
 refine ⟨h6, h.next + 2 + 1, ?_, hx, by omega, by have := x5.1; have := x6.1; omega, ⟨_, _, _, _, _, _, _, c6⟩, m6⟩
 rw [hfc]
 rw [hcC] at hh1
 have w2 : IntKind.i64.wrap 2 = 2 := i64_in _ (by omega)
 have w3 : IntKind.i64.wrap 3 = 3 := i64_in _ (by omega)
 have w4 : IntKind.i64.wrap 4 = 4 := i64_in _ (by omega)
 have w5 : IntKind.i64.wrap 5 = 5 := i64_in _ (by omega)
 refine W_callH t118 rfl rfl (by simp) ?_
 show W T c118 _ _
 unfold c118
 refine W_seq (W_ops (s1 := ?_) (by simp only [r118_0]; simp [a118, nextVer]; exact rfl) ?_)
 refine W_seq (W_ops (s1 := ?_) (by simp only [r118_1]; simp [hh1]; exact rfl) ?_)
 repeat' (first | refine W_seq ?_ | refine W_skip ?_ | refine W_block ?_ | refine W_ret ?_ | refine W_exit ?_ | refine W_ops (s1 := ?_) (by simp [e0]; exact rfl) ?_ | refine W_tops (s1 := ?_) (by simp [e0]; exact rfl) ?_ | refine W_cond_t (by first | (simp [e0]; done) | fail) ?_ | refine W_cond_f (by first | (simp [e0]; done) | fail) ?_ | fail)
 refine W_loop' l118_0.eq_1 ?_
 repeat' (first | refine W_seq ?_ | refine W_skip ?_ | refine W_block ?_ | refine W_ret ?_ | refine W_exit ?_ | refine W_ops (s1 := ?_) (by simp [e1, w1]; exact rfl) ?_ | refine W_tops (s1 := ?_) (by simp [e1, w1]; exact rfl) ?_ | refine W_cond_t (by first | (simp [e1, w1]; done) | fail) ?_ | refine W_cond_f (by first | (simp [e1, w1]; done) | fail) ?_ | fail)
 refine W_loop' l118_0.eq_1 ?_
 repeat' (first | refine W_seq ?_ | refine W_skip ?_ | refine W_block ?_ | refine W_ret ?_ | refine W_exit ?_ | refine W_ops (s1 := ?_) (by simp [e2, w2]; exact rfl) ?_ | refine W_tops (s1 := ?_) (by simp [e2, w2]; exact rfl) ?_ | refine W_cond_t (by first | (simp [e2, w2]; done) | fail) ?_ | refine W_cond_f (by first | (simp [e2, w2]; done) | fail) ?_ | fail)
 refine W_loop' l118_0.eq_1 ?_
 repeat' (first | refine W_seq ?_ | refine W_skip ?_ | refine W_block ?_ | refine W_ret ?_ | refine W_exit ?_ | refine W_ops (s1 := ?_) (by simp [e3, w3]; exact rfl) ?_ | refine W_tops (s1 := ?_) (by simp [e3, w3]; exact rfl) ?_ | refine W_cond_t (by first | (simp [e3, w3]; done) | fail) ?_ | refine W_cond_f (by first | (simp [e3, w3]; done) | fail) ?_ | fail)
 refine W_loop' l118_0.eq_1 ?_
 repeat' (first | refine W_seq ?_ | refine W_skip ?_ | refine W_block ?_ | refine W_ret ?_ | refine W_exit ?_ | refine W_ops (s1 := ?_) (by simp [e4, w4]; exact rfl) ?_ | refine W_tops (s1 := ?_) (by simp [e4, w4]; exact rfl) ?_ | refine W_cond_t (by first | (simp [e4, w4]; done) | fail) ?_ | refine W_cond_f (by first | (simp [e4, w4]; done) | fail) ?_ | fail)
 refine W_loop' l118_0.eq_1 ?_
 repeat' (first | refine W_seq ?_ | refine W_skip ?_ | refine W_block ?_ | refine W_ret ?_ | refine W_exit ?_ | refine W_ops (s1 := ?_) (by simp [e5, w5]; exact rfl) ?_ | refine W_tops (s1 := ?_) (by simp [e5, w5]; exact rfl) ?_ | refine W_cond_t (by first | (simp [e5, w5]; done) | fail) ?_ | refine W_cond_f (by first | (simp [e5, w5]; done) | fail) ?_ | fail)
 refine W_loop' l118_0.eq_1 ?_
 repeat' (first | refine W_seq ?_ | refine W_skip ?_ | refine W_block ?_ | refine W_ret ?_ | refine W_exit ?_ | refine W_ops (s1 := ?_) (by simp; exact rfl) ?_ | refine W_tops (s1 := ?_) (by simp; exact rfl) ?_ | refine W_cond_t (by first | (simp; done) | fail) ?_ | refine W_cond_f (by first | (simp; done) | fail) ?_ | fail)
 exact ⟨.inr rfl, [.obj h.next 0, .int .i64 0], by simp [a118, resV, resV1], by simp [a118, packV], rfl⟩

end Go.Proofs.YtpbngohpklpalaaGreat

/- The shapes of a straight function that is right. -/
namespace Go.Proofs.YtpbngohpklpalaaGreat
open Go.LS Go.IntWalk
def DefD.sh (d : DefD) : V := .agg [.int .i64 d.bits, .int .i64 d.lanes]
def shapesV (D : Int → Option DefD) : Int → Option V := fun j => (D j).map DefD.sh
theorem dead_shapes {i : Nat} (h : deadR 21 22 23 r57_7 i = false) : i ≠ 21 ∧ i ≠ 22 ∧ i ≠ 23 ∧ i ≠ 24 ∧ i ≠ 25 ∧ i ≠ 7 ∧ i ≠ 6 ∧ i ≠ 26 ∧ i ≠ 27 ∧ i ≠ 28 ∧ i ≠ 29 := by
 simp [deadR, r57_7] at h
 omega
theorem shapes_rounds {s0 : St} {m2 it m : Nat} {D : Int → Option DefD} (h5 : s0.t 5 = .map (some m2)) (h20 : s0.t 20 = .obj it 0) (l7 : s0.loc 7 = none) :
  ∀ (ks vis : List Int) (s : St), (∀ n ∈ ks, D n ≠ none) → s.t 20 = .obj it 0 → (∀ i, deadR 21 22 23 r57_7 i = false → s.t i = s0.t i) → (∀ sl c, s0.loc sl = some c → s.loc sl = some c) →
   s.h = s0.h.set m2 (.map .i64 (fun j => if j ∈ vis then (D j).map DefD.sh else none)) →
   rangeRun m .i64 (defsV D) it 20 21 22 23 r57_7 s0 ks s = some ⟨fun i => if i = 22 then .bool false else if deadR 21 22 23 r57_7 i then .undef else s0.t i, s0.loc,
    (s0.h.set m2 (.map .i64 (fun j => if j ∈ vis ++ ks then (D j).map DefD.sh else none))).set m (.map .i64 (defsV D))⟩
 | [], vis, s, _, ht, hd, hl, hh => by
  simp only [rangeRun]
  rw [if_pos ⟨ht, hd, hl⟩, hh, List.append_nil]
 | n :: ks, vis, s, hk, ht, hd, hl, hh => by
  obtain ⟨d, hdn⟩ : ∃ d, D n = some d := by
   cases hq : D n with
   | none => exact absurd hq (hk n (List.mem_cons_self ..))
   | some d => exact ⟨d, rfl⟩
  have hv : defsV D n = some (.agg [.int .i64 d.block, .int .i64 d.at_, .int .i64 d.bits, .int .i64 d.lanes]) := by simp [defsV, hdn, DefD.v]
  have t5 : s.t 5 = .map (some m2) := by rw [hd 5 (by rfl)]; exact h5
  obtain ⟨t, loc, h⟩ := s
  simp only at ht hd hl hh t5
  have hob : h.objs m2 = some (.map .i64 (fun j => if j ∈ vis then (D j).map DefD.sh else none)) := by rw [hh]; simp [Heap.set, upd]
  have hset : h.set m2 (.map .i64 (fun j => if j = n then some (.agg [.int .i64 d.bits, .int .i64 d.lanes]) else if j ∈ vis then (D j).map DefD.sh else none)) = s0.h.set m2 (.map .i64 (fun j => if j ∈ vis ++ [n] then (D j).map DefD.sh else none)) := by
   rw [hh]
   simp only [Heap.set]
   congr 1
   funext i
   simp only [upd]
   split
   ·congr 2
    funext j
    by_cases e : j = n
    ·subst e; simp [hdn, DefD.sh]
    ·simp [e]
   ·rfl
  have hrun : ∃ s', runOps (fun _ _ _ => none) r57_7 ⟨upd (upd (upd t 21 .undef) 22 (.bool true)) 23 (.tup [.int .i64 n, .agg [.int .i64 d.block, .int .i64 d.at_, .int .i64 d.bits, .int .i64 d.lanes]]), loc, h⟩ = some s' ∧
    s'.t 20 = .obj it 0 ∧ (∀ i, deadR 21 22 23 r57_7 i = false → s'.t i = s0.t i) ∧ (∀ sl c, s0.loc sl = some c → s'.loc sl = some c) ∧ s'.h = s0.h.set m2 (.map .i64 (fun j => if j ∈ vis ++ [n] then (D j).map DefD.sh else none)) := by
   refine ⟨_, by simp only [r57_7]; simp [t5, hob]; exact rfl, by simp [ht], fun i hi => ?_, fun sl c hc => ?_, hset⟩
   ·obtain ⟨q1, q2, q3, q4, q5, q6, q7, q8, q9, q10, q11⟩ := dead_shapes hi
    simp [q1, q2, q3, q4, q5, q6, q7, q8, q9, q10, q11, hd i hi]
   ·have q : sl ≠ 7 := fun e => by rw [e, l7] at hc; cases hc
    simp [q, hl sl c hc]
  obtain ⟨s', r1, r2, r3, r4, r5⟩ := hrun
  simp only [rangeRun]
  rw [if_pos ht]
  simp only [hv, r1]
  rw [shapes_rounds h5 h20 l7 ks (vis ++ [n]) s' (fun j hj => hk j (List.mem_cons_of_mem _ hj)) r2 r3 r4 r5]
  simp
theorem Dp_enum (ps : List Int) : ∀ i, ∃ ks, Enum (defsV (Dp ps i)) ks
 | 0 => ⟨[], Enum.nil⟩
 | i + 1 => by
  obtain ⟨ks, h⟩ := Dp_enum ps i
  refine ⟨((i : Int) + 1) :: ks, ?_⟩
  have := Enum.cons h (v := (i : Int) + 1) (d := DefD.v ⟨-1, 0, ps.getD i 0, 1⟩) (by simp [defsV, Dp_none ps i _ (by omega : (i : Int) < (i : Int) + 1)])
  have e : defsV (Dp ps (i + 1)) = fun j => if j = (i : Int) + 1 then some (DefD.v ⟨-1, 0, ps.getD i 0, 1⟩) else defsV (Dp ps i) j := by
   funext j
   simp only [defsV, Dp]
   split <;> rfl
  rw [e]; exact this
theorem Do_enum (x : Straight) (honce : ∀ k (hk : k < x.ops.length), 0 < (giveM x.ops[k]).1 → Do x k x.ops[k].dst = none) : ∀ k, k ≤ x.ops.length → ∃ ks, Enum (defsV (Do x k)) ks
 | 0, _ => Dp_enum _ _
 | k + 1, hk => by
  obtain ⟨ks, h⟩ := Do_enum x honce k (by omega)
  have hk' : k < x.ops.length := by omega
  by_cases hg : 0 < (giveM x.ops[k]).1
  ·have e : Do x (k + 1) = fun j => if j = x.ops[k].dst then some ⟨0, k, (giveM x.ops[k]).1, (giveM x.ops[k]).2⟩ else Do x k j := by simp [Do, hk', hg]
   refine ⟨x.ops[k].dst :: ks, ?_⟩
   have := Enum.cons h (v := x.ops[k].dst) (d := DefD.v ⟨0, k, (giveM x.ops[k]).1, (giveM x.ops[k]).2⟩) (by simp [defsV, honce k hk' hg])
   have e2 : defsV (Do x (k + 1)) = fun j => if j = x.ops[k].dst then some (DefD.v ⟨0, k, (giveM x.ops[k]).1, (giveM x.ops[k]).2⟩) else defsV (Do x k) j := by
    rw [e]
    funext j
    simp only [defsV]
    split <;> rfl
   rw [e2]; exact this
  ·have e : Do x (k + 1) = Do x k := by simp [Do, hk', hg]
   exact ⟨ks, by rw [e]; exact h⟩
theorem Shapes_run (hTree : TreeOne) (x : Straight) (R : x.Right) (h : LS.Heap) :
  ∃ h' m, callD T 57 [.agg x.f.c] h = some (.map (some m), h') ∧ HExt h h' ∧ h.next ≤ m ∧ m < h'.next ∧ h'.objs m = some (.map .i64 (shapesV x.D)) := by
 have hfc : x.f.c = [.lst .ro (x.ps.map intC), .int .i64 x.ret, .lst .ro [[.lst .ro [], .lst .ro (x.ops.map OpD.c), .int .i64 0, .int .i64 x.arg, .lst .ro []]]] := rfl
 obtain ⟨h1, m, e1, x1, g1, g2, ⟨l1, l2, l3, l4, l5, l6, l7, c1⟩, m1⟩ := look_run hTree x R h
 obtain ⟨ks0, hks0⟩ := Do_enum x R.once x.ops.length (Nat.le_refl _)
 have key : ∀ h' : LS.Heap, True := fun _ => trivial
 suffices hw : ∃ h', callD T 57 [.agg x.f.c] h = some (.map (some h1.next), h') ∧ (HExt h h' ∧ h1.next < h'.next ∧ h'.objs h1.next = some (.map .i64 (shapesV x.D))) by
  obtain ⟨h', q1, q2, q3, q4⟩ := hw
  exact ⟨h', h1.next, q1, q2, x1.1, q3, q4⟩
 rw [hfc] at e1 ⊢
 have hne : h.next ≠ h1.next := by omega
 have hnm : m ≠ h1.next := by omega
 refine W_callE t57 rfl rfl (by simp) ?_
 show W T c57 _ _
 unfold c57
 refine W_seq (W_ops (s1 := ?_) (by simp only [r57_0]; simp [a57, nextVer]; exact rfl) ?_)
 refine W_seq (W_ops (s1 := ?_) (by simp only [r57_1]; simp [e1]; exact rfl) ?_)
 repeat' (first | refine W_seq ?_ | refine W_skip ?_ | refine W_block ?_ | refine W_ret ?_ | refine W_exit ?_ | refine W_ops (s1 := ?_) (by simp; exact rfl) ?_ | refine W_tops (s1 := ?_) (by simp; exact rfl) ?_ | refine W_cond_t (by first | (simp; done) | fail) ?_ | refine W_cond_f (by first | (simp; done) | fail) ?_ | fail)
 generalize hS : (St.mk (upd _ _ _) _ _ : St) = sA
 have hpre : ∃ s1, runOps (callD T) r57_5 sA = some s1 ∧ s1.t 19 = .map (some m) ∧ s1.t 5 = .map (some h1.next) ∧ s1.loc 7 = none ∧ s1.h = h1.new (.map .i64 fun _ => none) := by
  rw [← hS]
  refine ⟨_, by simp only [r57_5]; simp [Heap.new, hne, c1]; exact rfl, by simp, by simp, by simp, by simp [Heap.new]⟩
 clear hS
 obtain ⟨s1, p1, p2, p3, p4, p5⟩ := hpre
 have hm1 : s1.h.objs m = some (.map .i64 (defsV x.D)) := by rw [p5, new_objs_old g2]; exact m1
 have hm2 : s1.h.objs h1.next = some (.map .i64 fun _ => none) := by rw [p5]; exact new_objs_new _ _
 refine W_rangeM p1 (m := .t 19) p2 hm1 ⟨ks0, hks0⟩ (s2 := ⟨fun i => if i = 22 then .bool false else if deadR 21 22 23 r57_7 i then .undef else (rangeSt m 20 s1).t i, s1.loc,
  ((rangeSt m 20 s1).h.set h1.next (.map .i64 (shapesV x.D))).set m (.map .i64 (defsV x.D))⟩) (fun ks hks => ?_) ?_
 ·have hk : ∀ n ∈ ks, x.D n ≠ none := fun n hn h0 => (hks.2 n).1 hn (by simp [defsV, h0])
  have hstart : (rangeSt m 20 s1).h = (rangeSt m 20 s1).h.set h1.next (.map .i64 (fun j => if j ∈ ([] : List Int) then (x.D j).map DefD.sh else none)) := by
   have : (rangeSt m 20 s1).h.objs h1.next = some (.map .i64 fun _ => none) := by
    simp only [rangeSt, Heap.kill, upd]
    rw [if_neg (Ne.symm hnm)]
    exact hm2
   unfold Heap.set
   have e : upd (rangeSt m 20 s1).h.objs h1.next (some (.map .i64 (fun j => if j ∈ ([] : List Int) then (x.D j).map DefD.sh else none))) = (rangeSt m 20 s1).h.objs := by
    funext i
    simp only [upd]
    split
    ·rename_i hi; subst hi; rw [this]; simp
    ·rfl
   rw [e]
  have := shapes_rounds (s0 := rangeSt m 20 s1) (m2 := h1.next) (it := s1.h.next) (m := m) (D := x.D) (by simp [rangeSt, p3]) (by simp [rangeSt]) (by simp [rangeSt, p4]) ks [] (rangeSt m 20 s1) hk (by simp [rangeSt]) (fun _ _ => rfl) (fun _ _ h => h) hstart
  rw [this]
  have hfun : (fun j => if j ∈ ([] : List Int) ++ ks then (x.D j).map DefD.sh else none) = shapesV x.D := by
   funext j
   simp only [List.nil_append, shapesV]
   split
   ·rfl
   ·rename_i hj
    cases hq : x.D j with
    | none => rfl
    | some d => exact absurd ((hks.2 j).2 (by simp [defsV, hq])) hj
  rw [hfun]
  rfl
 ·have hd5 : deadR 21 22 23 r57_7 5 = false := rfl
  generalize deadR 21 22 23 r57_7 = dd at hd5 ⊢
  repeat' (first | refine W_seq ?_ | refine W_skip ?_ | refine W_block ?_ | refine W_ret ?_ | refine W_exit ?_ | refine W_ops (s1 := ?_) (by simp; exact rfl) ?_ | refine W_tops (s1 := ?_) (by simp; exact rfl) ?_ | refine W_cond_t (by first | (simp; done) | fail) ?_ | refine W_cond_f (by first | (simp; done) | fail) ?_ | fail)
  have hn1 : s1.h.next = h1.next + 1 := by rw [p5]; rfl
  refine ⟨.inr rfl, [.map (some h1.next)], ?_, by simp [a57, packV], ⟨?_, fun id hid => ?_⟩, ?_, ?_⟩
  ·simp [a57, resV, resV1, hd5, rangeSt, p3]
  ·have := x1.1
   simp only [Heap.set, rangeSt]
   omega
  ·have q1 : id ≠ m := by omega
   have q2 : id ≠ h1.next := by omega
   have q3 : id < h1.next := by have := x1.1; omega
   simp only [Heap.set, rangeSt, Heap.kill, upd, q1, q2, if_false]
   rw [p5, new_objs_old q3, x1.2 id hid]
  ·simp only [Heap.set, rangeSt]
   omega
  ·simp only [Heap.set, upd, Ne.symm hnm, if_false, if_true]

end Go.Proofs.YtpbngohpklpalaaGreat

/- Finding forms: each value's form, by its operation. -/
namespace Go.Proofs.YtpbngohpklpalaaGreat
open Go.LS Go.IntWalk
abbrev FormD := List (Int × Int) × Int
def ownF (v : Int) : FormD := ([(v, 1)], 0)
def shlU (n : Int) : Int := IntKind.u64.wrap (1 * 2 ^ min n.toNat 64)
def twoF (k : Int) (A B : FormD) : Option FormD :=
 if k = 1 then some (plusM A.1 B.1 A.2 B.2)
 else if k = 2 then some (minusM A.1 B.1 A.2 B.2)
 else if k = 3 ∧ B.1 = [] then some (timesM A.1 A.2 B.2)
 else if k = 3 ∧ A.1 = [] then some (timesM B.1 B.2 A.2)
 else if k = 8 ∧ B.1 = [] ∧ B.2 < 64 then some (timesM A.1 A.2 (shlU B.2))
 else none
def capF (v : Int) : Option FormD → FormD
 | none => ownF v
 | some F => if 16 < F.1.length then ownF v else F
inductive FormOf (O : Int → Option OpD) : Int → FormD → Prop
 | none {v : Int} (h : O v = none) : FormOf O v (ownF v)
 | narrow {v : Int} {o : OpD} (h : O v = some o) (hn : o.bits ≠ 64 ∨ o.lanes ≠ 1) : FormOf O v (ownF v)
 | const {v : Int} {o : OpD} (h : O v = some o) (hb : o.bits = 64) (hl : o.lanes = 1) (hk : o.kind = 0) : FormOf O v ([], o.imm)
 | other {v : Int} {o : OpD} (h : O v = some o) (hb : o.bits = 64) (hl : o.lanes = 1) (h0 : o.kind ≠ 0) (hk : o.kind < 1 ∨ 8 < o.kind) : FormOf O v (ownF v)
 | two {v : Int} {o : OpD} {a b : Int} {rest : List Int} {A B : FormD} (h : O v = some o) (hb : o.bits = 64) (hl : o.lanes = 1) (hk1 : 1 ≤ o.kind) (hk2 : o.kind ≤ 8) (ha : o.args = a :: b :: rest) (hA : FormOf O a A) (hB : FormOf O b B) :
   FormOf O v (capF v (twoF o.kind A B))
theorem FormOf.short {O : Int → Option OpD} {v : Int} {F : FormD} (h : FormOf O v F) : F.1.length ≤ 16 := by
 cases h with
 | two =>
  unfold capF
  split
  ·simp [ownF]
  ·split
   ·simp [ownF]
   ·omega
 | _ => simp [ownF]
theorem FormOf.unique {O : Int → Option OpD} {v : Int} {F : FormD} (h : FormOf O v F) : ∀ {G : FormD}, FormOf O v G → F = G := by
 induction h with
 | none h =>
  intro G g
  cases g with
  | none _ => rfl
  | narrow h' _ => exact absurd (h.symm.trans h') (by simp)
  | const h' _ _ _ => exact absurd (h.symm.trans h') (by simp)
  | other h' _ _ _ _ => exact absurd (h.symm.trans h') (by simp)
  | two h' _ _ _ _ _ _ _ => exact absurd (h.symm.trans h') (by simp)
 | narrow h hn =>
  intro G g
  cases g with
  | none h' => exact absurd (h.symm.trans h') (by simp)
  | narrow h' _ => rfl
  | const h' hb hl _ => rw [h] at h'; injection h' with h'; subst h'; omega
  | other h' hb hl _ _ => rfl
  | two h' hb hl _ _ _ _ _ => rw [h] at h'; injection h' with h'; subst h'; omega
 | const h hb hl hk =>
  intro G g
  cases g with
  | none h' => exact absurd (h.symm.trans h') (by simp)
  | narrow h' hn => rw [h] at h'; injection h' with h'; subst h'; omega
  | const h' _ _ _ => rw [h] at h'; injection h' with h'; subst h'; rfl
  | other h' _ _ h0 _ => rw [h] at h'; injection h' with h'; subst h'; exact absurd hk h0
  | two h' _ _ k1 _ _ _ _ => rw [h] at h'; injection h' with h'; subst h'; omega
 | other h hb hl h0 hk =>
  intro G g
  cases g with
  | none h' => exact absurd (h.symm.trans h') (by simp)
  | narrow h' hn => rfl
  | const h' _ _ k => rw [h] at h'; injection h' with h'; subst h'; exact absurd k h0
  | other h' _ _ _ _ => rfl
  | two h' _ _ k1 k2 _ _ _ => rw [h] at h'; injection h' with h'; subst h'; omega
 | two h hb hl k1 k2 ha hA hB ihA ihB =>
  intro G g
  cases g with
  | none h' => exact absurd (h.symm.trans h') (by simp)
  | narrow h' hn => rw [h] at h'; injection h' with h'; subst h'; omega
  | const h' _ _ k => rw [h] at h'; injection h' with h'; subst h'; omega
  | other h' _ _ _ k => rw [h] at h'; injection h' with h'; subst h'; omega
  | two h' _ _ _ _ ha' hA' hB' =>
   rw [h] at h'
   injection h' with h'
   subst h'
   rw [ha] at ha'
   injection ha' with e1 e2
   injection e2 with e2 e3
   subst e1 e2
   rw [ihA hA', ihB hB']
def formV (F : FormD) : V := .agg [.lst .ro (terms F.1), .int .u64 F.2]
def opsV (O : Int → Option OpD) : Int → Option V := fun j => (O j).map fun o => .agg o.c
def formsV (Φ : Int → Option FormD) : Int → Option V := fun j => (Φ j).map formV
structure Finds (h : LS.Heap) (c m1 m2 : Nat) (O : Int → Option OpD) (Φ : Int → Option FormD) : Prop where
 obj : h.objs c = some (.var [.map (some m1), .map (some m2)])
 ops : h.objs m1 = some (.map .i64 (opsV O))
 forms : h.objs m2 = some (.map .i64 (formsV Φ))
 n1 : c ≠ m2
 n2 : m1 ≠ m2
 sound : ∀ u G, Φ u = some G → FormOf O u G
theorem set_set (h : LS.Heap) (id : Nat) (a b : AObj) : (h.set id a).set id b = h.set id b := by
 simp only [Heap.set]
 congr 1
 funext i
 simp only [upd]
 split <;> rfl
theorem set_same {h : LS.Heap} {id : Nat} {a : AObj} (hid : h.objs id = some a) : h.set id a = h := by
 unfold Heap.set
 have : upd h.objs id (some a) = h.objs := by
  funext i
  simp only [upd]
  split
  ·rename_i e; rw [e, hid]
  ·rfl
 rw [this]
theorem Finds.set {h : LS.Heap} {c m1 m2 : Nat} {O : Int → Option OpD} {Φ Φ' : Int → Option FormD} (k : Finds h c m1 m2 O Φ) (hs : ∀ u G, Φ' u = some G → FormOf O u G) : Finds (h.set m2 (.map .i64 (formsV Φ'))) c m1 m2 O Φ' := by
 obtain ⟨a, b, d, n1, n2, _⟩ := k
 refine ⟨?_, ?_, ?_, n1, n2, hs⟩
 ·simp only [Heap.set, upd]; rw [if_neg n1]; exact a
 ·simp only [Heap.set, upd]; rw [if_neg n2]; exact b
 ·simp only [Heap.set, upd, if_true]

section
variable {h : LS.Heap} {c m1 m2 : Nat} {O : Int → Option OpD} {Φ : Int → Option FormD} {v : Int}
theorem made_none (k : Finds h c m1 m2 O Φ) (ho : O v = none) : callD T 119 [.obj c 0, .int .i64 v] h = some (.tup [formV ([], 0), .bool false], h) := by
 have e1 := k.obj
 have e2 := k.ops
 have e3 : opsV O v = none := by simp [opsV, ho]
 refine W_callH t119 rfl rfl (by simp) ?_
 show W T c119 _ _
 unfold c119
 repeat' (first | refine W_seq ?_ | refine W_skip ?_ | refine W_block ?_ | refine W_ret ?_ | refine W_exit ?_ | refine W_ops (s1 := ?_) (by simp [a119, nextVer, e1, e2, e3]; exact rfl) ?_ | refine W_tops (s1 := ?_) (by simp [a119, nextVer, e1, e2, e3]; exact rfl) ?_ | refine W_cond_t (by first | (simp [a119, nextVer, e1, e2, e3]; done) | fail) ?_ | refine W_cond_f (by first | (simp [a119, nextVer, e1, e2, e3]; done) | fail) ?_ | fail)
 exact ⟨.inr rfl, _, by simp [a119, resV, resV1]; exact rfl, by simp [a119, packV, formV, terms_nil], rfl⟩
theorem made_narrow {o : OpD} (k : Finds h c m1 m2 O Φ) (ho : O v = some o) (hn : o.bits ≠ 64 ∨ o.lanes ≠ 1) : callD T 119 [.obj c 0, .int .i64 v] h = some (.tup [formV ([], 0), .bool false], h) := by
 have e1 := k.obj
 have e2 := k.ops
 have e3 : opsV O v = some (.agg [.int .i64 o.kind, .int .i64 o.bits, .int .i64 o.lanes, .int .i64 o.dst, .lst .ro (o.args.map intC), .int .u64 o.imm]) := by simp [opsV, ho]; rfl
 refine W_callH t119 rfl rfl (by simp) ?_
 show W T c119 _ _
 unfold c119
 by_cases hb : o.bits = 64
 ·have hl : o.lanes ≠ 1 := by omega
  repeat' (first | refine W_seq ?_ | refine W_skip ?_ | refine W_block ?_ | refine W_ret ?_ | refine W_exit ?_ | refine W_ops (s1 := ?_) (by simp [a119, nextVer, e1, e2, e3, hb, hl]; exact rfl) ?_ | refine W_tops (s1 := ?_) (by simp [a119, nextVer, e1, e2, e3, hb, hl]; exact rfl) ?_ | refine W_cond_t (by first | (simp [a119, nextVer, e1, e2, e3, hb, hl]; done) | fail) ?_ | refine W_cond_f (by first | (simp [a119, nextVer, e1, e2, e3, hb, hl]; done) | fail) ?_ | fail)
  exact ⟨.inr rfl, _, by simp [a119, resV, resV1]; exact rfl, by simp [a119, packV, formV, terms_nil], rfl⟩
 ·skip
  repeat' (first | refine W_seq ?_ | refine W_skip ?_ | refine W_block ?_ | refine W_ret ?_ | refine W_exit ?_ | refine W_ops (s1 := ?_) (by simp [a119, nextVer, e1, e2, e3, hb]; exact rfl) ?_ | refine W_tops (s1 := ?_) (by simp [a119, nextVer, e1, e2, e3, hb]; exact rfl) ?_ | refine W_cond_t (by first | (simp [a119, nextVer, e1, e2, e3, hb]; done) | fail) ?_ | refine W_cond_f (by first | (simp [a119, nextVer, e1, e2, e3, hb]; done) | fail) ?_ | fail)
  exact ⟨.inr rfl, _, by simp [a119, resV, resV1]; exact rfl, by simp [a119, packV, formV, terms_nil], rfl⟩
theorem made_const {o : OpD} (k : Finds h c m1 m2 O Φ) (ho : O v = some o) (hb : o.bits = 64) (hl : o.lanes = 1) (hk : o.kind = 0) : callD T 119 [.obj c 0, .int .i64 v] h = some (.tup [formV ([], o.imm), .bool true], h) := by
 have e1 := k.obj
 have e2 := k.ops
 have e3 : opsV O v = some (.agg [.int .i64 o.kind, .int .i64 o.bits, .int .i64 o.lanes, .int .i64 o.dst, .lst .ro (o.args.map intC), .int .u64 o.imm]) := by simp [opsV, ho]; rfl
 refine W_callH t119 rfl rfl (by simp) ?_
 show W T c119 _ _
 unfold c119
 repeat' (first | refine W_seq ?_ | refine W_skip ?_ | refine W_block ?_ | refine W_ret ?_ | refine W_exit ?_ | refine W_ops (s1 := ?_) (by simp [a119, nextVer, e1, e2, e3, hb, hl, hk]; exact rfl) ?_ | refine W_tops (s1 := ?_) (by simp [a119, nextVer, e1, e2, e3, hb, hl, hk]; exact rfl) ?_ | refine W_cond_t (by first | (simp [a119, nextVer, e1, e2, e3, hb, hl, hk]; done) | fail) ?_ | refine W_cond_f (by first | (simp [a119, nextVer, e1, e2, e3, hb, hl, hk]; done) | fail) ?_ | fail)
 exact ⟨.inr rfl, _, by simp [a119, resV, resV1]; exact rfl, by simp [a119, packV, formV, terms_nil], rfl⟩
theorem made_other {o : OpD} (k : Finds h c m1 m2 O Φ) (ho : O v = some o) (hb : o.bits = 64) (hl : o.lanes = 1) (h0 : o.kind ≠ 0) (hk : o.kind < 1 ∨ 8 < o.kind) : callD T 119 [.obj c 0, .int .i64 v] h = some (.tup [formV ([], 0), .bool false], h) := by
 have e1 := k.obj
 have e2 := k.ops
 have e3 : opsV O v = some (.agg [.int .i64 o.kind, .int .i64 o.bits, .int .i64 o.lanes, .int .i64 o.dst, .lst .ro (o.args.map intC), .int .u64 o.imm]) := by simp [opsV, ho]; rfl
 refine W_callH t119 rfl rfl (by simp) ?_
 show W T c119 _ _
 unfold c119
 by_cases h1 : o.kind < 1
 ·skip
  repeat' (first | refine W_seq ?_ | refine W_skip ?_ | refine W_block ?_ | refine W_ret ?_ | refine W_exit ?_ | refine W_ops (s1 := ?_) (by simp [a119, nextVer, e1, e2, e3, hb, hl, h0, h1]; exact rfl) ?_ | refine W_tops (s1 := ?_) (by simp [a119, nextVer, e1, e2, e3, hb, hl, h0, h1]; exact rfl) ?_ | refine W_cond_t (by first | (simp [a119, nextVer, e1, e2, e3, hb, hl, h0, h1]; done) | fail) ?_ | refine W_cond_f (by first | (simp [a119, nextVer, e1, e2, e3, hb, hl, h0, h1]; done) | fail) ?_ | fail)
  exact ⟨.inr rfl, _, by simp [a119, resV, resV1]; exact rfl, by simp [a119, packV, formV, terms_nil], rfl⟩
 ·have h8 : 8 < o.kind := by omega
  repeat' (first | refine W_seq ?_ | refine W_skip ?_ | refine W_block ?_ | refine W_ret ?_ | refine W_exit ?_ | refine W_ops (s1 := ?_) (by simp [a119, nextVer, e1, e2, e3, hb, hl, h0, h1, h8]; exact rfl) ?_ | refine W_tops (s1 := ?_) (by simp [a119, nextVer, e1, e2, e3, hb, hl, h0, h1, h8]; exact rfl) ?_ | refine W_cond_t (by first | (simp [a119, nextVer, e1, e2, e3, hb, hl, h0, h1, h8]; done) | fail) ?_ | refine W_cond_f (by first | (simp [a119, nextVer, e1, e2, e3, hb, hl, h0, h1, h8]; done) | fail) ?_ | fail)
  exact ⟨.inr rfl, _, by simp [a119, resV, resV1]; exact rfl, by simp [a119, packV, formV, terms_nil], rfl⟩

end

end Go.Proofs.YtpbngohpklpalaaGreat
