/- A part of the proof: an abstract machine for the program's code and what each of its functions comes to there. No conditions. -/
import Derived.Test.YtpbngohpklpalaaGreatP08

set_option linter.unusedSimpArgs false
set_option linter.unusedVariables false

/- Forms: sum, difference, so many times. -/
namespace Go.Proofs.YtpbngohpklpalaaGreat
open Go.LS Go.IntWalk
def addU (a b : Int) : Int := IntKind.u64.wrap (a + b)
def subU (a b : Int) : Int := IntKind.u64.wrap (a - b)
def mulU (a b : Int) : Int := IntKind.u64.wrap (a * b)
theorem plus_do (h0 : LS.Heap) : DoOK 116 [] h0 addU := by
 intro a b h _
 refine W_call t116 rfl rfl (by simp) ?_
 show W T c116 _ _
 unfold c116
 refine W_seq (W_ops (s1 := ?_) (by simp only [r116_0]; simp [a116]; exact rfl) ?_)
 refine W_seq (W_ops (s1 := ?_) (by simp only [r116_1]; simp; exact rfl) (W_ret ?_))
 exact ⟨.inr rfl, [.int .u64 (addU a b)], by simp [a116, resV, resV1, addU], by simp [a116, packV], rfl, .refl _⟩
theorem minus_do (h0 : LS.Heap) : DoOK 115 [] h0 subU := by
 intro a b h _
 refine W_call t115 rfl rfl (by simp) ?_
 show W T c115 _ _
 unfold c115
 refine W_seq (W_ops (s1 := ?_) (by simp only [r115_0]; simp [a115]; exact rfl) ?_)
 refine W_seq (W_ops (s1 := ?_) (by simp only [r115_1]; simp; exact rfl) (W_ret ?_))
 exact ⟨.inr rfl, [.int .u64 (subU a b)], by simp [a115, resV, resV1, subU], by simp [a115, packV], rfl, .refl _⟩
def plusM (a b : List (Int × Int)) (oa ob : Int) : List (Int × Int) × Int := if mayL 0 a = true ∧ mayL 0 b = true then (bothL addU a b, addU oa ob) else ([], 0)
def minusM (a b : List (Int × Int)) (oa ob : Int) : List (Int × Int) × Int := if mayL 0 a = true ∧ mayL 0 b = true then (bothL subU a b, subU oa ob) else ([], 0)
theorem terms_nil : terms [] = [] := rfl
theorem Plus_run (ta tb : Tag) (a b : List (Int × Int)) (oa ob : Int) (ha : (a.length : Int) < 2 ^ 39) (hb : (b.length : Int) < 2 ^ 39) (h : LS.Heap) :
  callD T 54 [.agg (formC ta a oa), .agg (formC tb b ob)] h = some (.agg (formC .ro (plusM a b oa ob).1 (plusM a b oa ob).2), h) := by
 refine W_call t54 rfl rfl (by simp) ?_
 show W T c54 _ _
 unfold c54
 have hm := may_run .ro .ro .exact a b oa ob (by omega) (by omega) h
 have hd := both_run (plus_do h) (by simp) .ro .ro a b oa ob ha hb
 simp only [formC] at hm hd
 refine W_seq (W_ops (s1 := ?_) (by simp only [r54_0]; simp [formC, a54]; exact rfl) ?_)
 refine W_seq (W_seq (W_ops (s1 := ?_) (by simp only [r54_1]; simp [nextVer, hm]; exact rfl) ?_))
 by_cases hc : mayL 0 a = true ∧ mayL 0 b = true
 ·refine W_cond_f (by simp [hc]) (W_skip ?_)
  refine W_seq (W_ops (s1 := ?_) (by simp only [r54_3]; simp [nextVer, hd]; exact rfl) (W_ret ?_))
  exact ⟨.inr rfl, _, by simp [a54, resV, resV1, nextVer]; exact rfl, by simp [a54, packV, formC, plusM, hc], by simp [formC], .refl _⟩
 ·have hc' : (mayL 0 a && mayL 0 b) = false := by
   cases h1 : mayL 0 a <;> cases h2 : mayL 0 b <;> simp_all
  refine W_cond_t (by simp; cases h1 : mayL 0 a <;> simp_all) ?_
  refine W_seq (W_ops (s1 := ?_) (by simp only [r54_2]; simp [nextVer]; exact rfl) (W_ret ?_))
  exact ⟨.inr rfl, _, by simp [a54, resV, resV1, nextVer]; exact rfl, by simp only [plusM]; rw [if_neg hc]; simp [a54, packV, formC, terms_nil], by simp [formC], .refl _⟩
theorem Minus_run (ta tb : Tag) (a b : List (Int × Int)) (oa ob : Int) (ha : (a.length : Int) < 2 ^ 39) (hb : (b.length : Int) < 2 ^ 39) (h : LS.Heap) :
  callD T 53 [.agg (formC ta a oa), .agg (formC tb b ob)] h = some (.agg (formC .ro (minusM a b oa ob).1 (minusM a b oa ob).2), h) := by
 refine W_call t53 rfl rfl (by simp) ?_
 show W T c53 _ _
 unfold c53
 have hm := may_run .ro .ro .exact a b oa ob (by omega) (by omega) h
 have hd := both_run (minus_do h) (by simp) .ro .ro a b oa ob ha hb
 simp only [formC] at hm hd
 refine W_seq (W_ops (s1 := ?_) (by simp only [r53_0]; simp [formC, a53]; exact rfl) ?_)
 refine W_seq (W_seq (W_ops (s1 := ?_) (by simp only [r53_1]; simp [nextVer, hm]; exact rfl) ?_))
 by_cases hc : mayL 0 a = true ∧ mayL 0 b = true
 ·refine W_cond_f (by simp [hc]) (W_skip ?_)
  refine W_seq (W_ops (s1 := ?_) (by simp only [r53_3]; simp [nextVer, hd]; exact rfl) (W_ret ?_))
  exact ⟨.inr rfl, _, by simp [a53, resV, resV1, nextVer]; exact rfl, by simp [a53, packV, formC, minusM, hc], by simp [formC], .refl _⟩
 ·have hc' : (mayL 0 a && mayL 0 b) = false := by
   cases h1 : mayL 0 a <;> cases h2 : mayL 0 b <;> simp_all
  refine W_cond_t (by simp; cases h1 : mayL 0 a <;> simp_all) ?_
  refine W_seq (W_ops (s1 := ?_) (by simp only [r53_2]; simp [nextVer]; exact rfl) (W_ret ?_))
  exact ⟨.inr rfl, _, by simp [a53, resV, resV1, nextVer]; exact rfl, by simp only [minusM]; rw [if_neg hc]; simp [a53, packV, formC, terms_nil], by simp [formC], .refl _⟩
theorem times_do (h0 : LS.Heap) (id : Nat) (n : Int) (hid : id < h0.next) (hob : h0.objs id = some (.var [.int .u64 n])) : DoOK 117 [.obj id 0] h0 (fun a _ => mulU a n) := by
 intro a b h hx
 have ho : h.objs id = some (.var [.int .u64 n]) := by rw [hx.2 id hid]; exact hob
 refine W_call t117 rfl rfl (by simp) ?_
 show W T c117 _ _
 unfold c117
 refine W_seq (W_ops (s1 := ?_) (by simp only [r117_0]; simp [a117]; exact rfl) ?_)
 refine W_seq (W_ops (s1 := ?_) (by simp only [r117_1]; simp [ho]; exact rfl) (W_ret ?_))
 exact ⟨.inr rfl, [.int .u64 (mulU a n)], by simp [a117, resV, resV1, mulU], by simp [a117, packV], rfl, .refl _⟩
def timesM (a : List (Int × Int)) (oa n : Int) : List (Int × Int) × Int := if mayL 0 a = true then (bothL (fun x _ => mulU x n) a [], mulU oa n) else ([], 0)
theorem Times_run (ta : Tag) (a : List (Int × Int)) (oa n : Int) (ha : (a.length : Int) < 2 ^ 39) (h : LS.Heap) :
  callD T 55 [.agg (formC ta a oa), .int .u64 n] h = some (.agg (formC .ro (timesM a oa n).1 (timesM a oa n).2), h) := by
 refine W_call t55 rfl rfl (by simp) ?_
 show W T c55 _ _
 unfold c55
 have hm := May_run .ro a oa (by omega) (h.new (.var [.int .u64 n]))
 have hd := both_run (times_do (h.new (.var [.int .u64 n])) h.next n (by simp [Heap.new]) (by simp [Heap.new, upd])) (by simp) .ro .nil a [] oa 0 ha (by simp)
 simp only [formC, terms_nil] at hm hd
 refine W_seq (W_ops (s1 := ?_) (by simp only [r55_0]; simp [formC, a55]; exact rfl) ?_)
 refine W_seq (W_seq (W_ops (s1 := ?_) (by simp only [r55_1]; simp [nextVer, hm]; exact rfl) ?_))
 by_cases hc : mayL 0 a = true
 ·refine W_cond_f (by simp [hc]) (W_skip ?_)
  refine W_seq (W_ops (s1 := ?_) (by simp only [r55_3]; simp [nextVer, hd]; exact rfl) (W_ret ?_))
  exact ⟨.inr rfl, _, by simp [a55, resV, resV1, nextVer]; exact rfl, by simp [a55, packV, formC, timesM, hc], by simp [formC], .new _ _⟩
 ·refine W_cond_t (by simp [hc]) ?_
  refine W_seq (W_ops (s1 := ?_) (by simp only [r55_2]; simp [nextVer]; exact rfl) (W_ret ?_))
  exact ⟨.inr rfl, _, by simp [a55, resV, resV1, nextVer]; exact rfl, by simp only [timesM]; rw [if_neg hc]; simp [a55, packV, formC, terms_nil], by simp [formC], .new _ _⟩

end Go.Proofs.YtpbngohpklpalaaGreat

/- Forms: the document's wide forms, a scale for each value. -/
namespace Go.Proofs.YtpbngohpklpalaaGreat
open Go.LS Go.IntWalk
def wideC (g : Nat → Int) (off : Int) : List V := (List.range 1024).map (fun i => .int .u64 (g i)) ++ [.int .u64 off]
theorem wideC_len (g : Nat → Int) (off : Int) : (wideC g off).length = 1025 := by simp [wideC]
theorem wideC_get (g : Nat → Int) (off : Int) {i : Nat} (h : i < 1024) : (wideC g off)[i]? = some (.int .u64 (g i)) := by
 unfold wideC
 rw [List.getElem?_append_left (by simpa using h)]
 simp [h]
theorem wideC_off (g : Nat → Int) (off : Int) : (wideC g off)[1024]? = some (.int .u64 off) := by
 unfold wideC
 rw [List.getElem?_append_right (by simp)]
 simp
theorem wideC_patch (g : Nat → Int) (off : Int) {i : Nat} (h : i < 1024) (n : Int) : patch (wideC g off) i [.int .u64 n] = wideC (fun j => if j = i then n else g j) off := by
 apply List.ext_getElem?
 intro k
 unfold patch
 have hl := wideC_len g off
 by_cases h1 : k < i
 ·rw [List.getElem?_append_left (by simp [hl]; omega), List.getElem?_take, if_pos h1, wideC_get _ _ (by omega), wideC_get _ _ (by omega)]
  simp [show k ≠ i by omega]
 ·rw [List.getElem?_append_right (by simp [hl]; omega)]
  simp only [List.length_take, hl, show min i 1025 = i by omega]
  by_cases h2 : k = i
  ·subst h2
   rw [wideC_get _ _ h]
   simp
  ·rw [List.getElem?_append_right (by simp; omega), List.getElem?_drop]
   simp only [List.length_cons, List.length_nil]
   rw [show i + (0 + 1) + (k - i - (0 + 1)) = k by omega]
   by_cases h3 : k < 1024
   ·rw [wideC_get _ _ h3, wideC_get _ _ h3]
    simp [h2]
   ·by_cases h4 : k = 1024
    ·subst h4; rw [wideC_off, wideC_off]
    ·rw [List.getElem?_eq_none (by rw [wideC_len]; omega), List.getElem?_eq_none (by rw [wideC_len]; omega)]
theorem new_set (h : LS.Heap) (o o' : AObj) : (h.new o).set h.next o' = h.new o' := by
 simp only [Heap.new, Heap.set, Heap.mk.injEq, and_true]
 funext i
 simp only [upd]
 split <;> rfl
theorem wide_zero (off : Int) : fillV (List.replicate 1025 (V.int .u64 0)) [(1024, 1, V.int .u64 off)] = some (wideC (fun _ => 0) off) := by
 have e : List.replicate 1025 (V.int .u64 0) = wideC (fun _ => 0) 0 := by
  unfold wideC
  rw [List.map_const', List.length_range, ← List.replicate_succ']
 have hp : patch (wideC (fun _ => 0) 0) 1024 [V.int .u64 off] = wideC (fun _ => 0) off := by
  unfold patch wideC
  rw [List.take_append_of_le_length (by simp), List.take_of_length_le (by simp)]
  simp
 simp only [fillV, V.cells, List.length_cons, List.length_nil, if_true, List.length_replicate]
 rw [if_pos (by omega), e, hp]
def scaleOf : List (Int × Int) → (Nat → Int) → Nat → Int
 | [], g => g
 | (v, s) :: l, g => scaleOf l (fun j => if j = v.toNat then s else g j)
def inRange (l : List (Int × Int)) : Prop := ∀ p ∈ l, 0 ≤ p.1 ∧ p.1 < 1024
theorem of_loop (l : List (Int × Int)) (off : Int) (hlen : (l.length : Int) < 2 ^ 62) (hr : inRange l) (h0 : LS.Heap) : ∀ (k i : Nat) (g : Nat → Int) (hk : l.length - i = k) (hi : i ≤ l.length) (t : Nat → V) (loc : LS.Loc)
  (h1 : t 1 = .loc 1 0 0) (l1 : loc 1 = some (0, [.lst .ro (terms l), .int .u64 off])) (h3 : t 3 = .obj h0.next 0) (h4 : t 4 = .int .i64 i),
  W T (.loop l122_0) ⟨t, loc, h0.new (.var (wideC g off))⟩ (fun e s => e = .exit 0 ∧ s.h = h0.new (.var (wideC (scaleOf (l.drop i) g) off)) ∧ s.t 3 = .obj h0.next 0)
 | 0, i, g, hk, hi, t, loc, h1, l1, h3, h4 => by
  have hlt : ¬ (i < l.length) := by omega
  refine W_loop' l122_0.eq_1 ?_
  refine W_seq (W_seq (W_ops (s1 := ?_) (by simp only [r122_3]; simp [h1, l1, h4, terms_len, hlt]; exact rfl) ?_))
  refine W_cond_f (by simp) (W_exit ⟨rfl, ?_, by simp [h3]⟩)
  rw [List.drop_eq_nil_of_le (by omega)]
  rfl
 | k + 1, i, g, hk, hi, t, loc, h1, l1, h3, h4 => by
  have hia : i < l.length := by omega
  have hw : IntKind.i64.wrap ((i : Int) + 1) = ((i + 1 : Nat) : Int) := by rw [i64_in _ (by omega)]; simp
  have ga := terms_at hia
  obtain ⟨r1, r2⟩ := hr l[i] (by simp)
  have hd : l.drop i = (l[i].1, l[i].2) :: l.drop (i + 1) := by rw [List.drop_eq_getElem_cons hia]
  have ho : (h0.new (.var (wideC g off))).objs h0.next = some (.var (wideC g off)) := by simp [Heap.new, upd]
  have hb : l[i].1.toNat + 1 ≤ (wideC g off).length := by rw [wideC_len]; omega
  have hp := wideC_patch g off (i := l[i].1.toNat) (by omega) l[i].2
  have hs := fun o => new_set h0 (.var (wideC g off)) o
  refine W_loop' l122_0.eq_1 ?_
  refine W_seq (W_seq (W_ops (s1 := ?_) (by simp only [r122_3]; simp [h1, l1, h4, terms_len, hia]; exact rfl) ?_))
  refine W_cond_t (by simp) (W_skip ?_)
  refine W_seq (W_block (W_tops (s1 := ?_) (by simp only [r122_5]; simp [-patch, h1, l1, h3, h4, ga, r1, r2, ho, hb, hp, hs]; exact rfl) ?_))
  refine W_ops (s1 := ?_) (by simp only [r122_4]; simp [h4, hw]; exact rfl) ?_
  rw [hd]
  exact of_loop l off hlen hr h0 k (i + 1) _ (by omega) (by omega) _ _ (by simp [h1]) l1 (by simp [h3]) (by simp)
theorem Of_run (ta : Tag) (l : List (Int × Int)) (off : Int) (hlen : (l.length : Int) < 2 ^ 62) (hr : inRange l) (h : LS.Heap) :
  callD T 122 [.agg (formC ta l off)] h = some (.obj h.next 0, h.new (.var (wideC (scaleOf l (fun _ => 0)) off))) := by
 refine W_callH t122 rfl rfl (by simp) ?_
 show W T c122 _ _
 unfold c122
 have hz := wide_zero off
 have hl := wideC_len (fun _ => 0) off
 refine W_seq (W_ops (s1 := ?_) (by simp only [r122_0]; simp [formC, a122]; exact rfl) ?_)
 refine W_seq (W_ops (s1 := ?_) (by simp only [r122_1]; simp [-fillV, -patch, -List.reduceReplicate, nextVer, hz, hl]; exact rfl) ?_)
 refine W_seq (W_seq (W_ops (s1 := ?_) (by simp only [r122_2]; simp; exact rfl) ?_))
 refine W_block ((of_loop l off hlen hr h l.length 0 (fun _ => 0) (by omega) (by omega) _ _ (by simp [nextVer]) (by simp [nextVer]) (by simp) (by simp)).mono ?_)
 rintro e ⟨t1, loc1, h1⟩ ⟨rfl, hh, ht⟩
 simp only [List.drop_zero] at hh ht
 subst hh
 refine W_seq (W_ops (s1 := ?_) (by simp only [r122_6]; simp [ht]; exact rfl) (W_ret ?_))
 exact ⟨.inr rfl, [.obj h.next 0], by simp [a122, resV, resV1], by simp [a122, packV], rfl⟩

end Go.Proofs.YtpbngohpklpalaaGreat

/- Forms: the document's mix of two forms. -/
namespace Go.Proofs.YtpbngohpklpalaaGreat
open Go.LS Go.IntWalk
def termsFrom (g : Nat → Int) : Nat → Nat → List (Int × Int)
 | _, 0 => []
 | v, k + 1 => keepT v (g v) (termsFrom g (v + 1) k)
theorem form_loop (g : Nat → Int) (off : Int) (h0 : LS.Heap) (id : Nat) (hid : id < h0.next) (hob : h0.objs id = some (.var (wideC g off))) : ∀ (k v : Nat) (hk : v + k = 1024) (out : List (Int × Int)) (hout : out.length ≤ v) (t : Nat → V) (loc : LS.Loc) (h : LS.Heap) (a : V)
  (t0 : t 0 = .obj id 0) (t2 : t 2 = .loc 2 0 0) (t3 : t 3 = .loc 3 0 0) (t4 : t 4 = .int .i64 v) (l2 : loc 2 = some (0, [.lst .nil [], .int .u64 0])) (l3 : loc 3 = some (0, [a, .int .u64 off])) (ha : Acc 2 h0 h a (terms out)) (hx : HExt h0 h),
  W T (.loop l123_0) ⟨t, loc, h⟩ (fun e s => e = .exit 0 ∧ s.t 2 = .loc 2 0 0 ∧ s.t 3 = .loc 3 0 0 ∧ s.loc 2 = some (0, [.lst .nil [], .int .u64 0]) ∧ (∃ a, s.loc 3 = some (0, [a, .int .u64 off]) ∧ Acc 2 h0 s.h a (terms (out ++ termsFrom g v k))) ∧ HExt h0 s.h)
 | 0, v, hk, out, hout, t, loc, h, a, t0, t2, t3, t4, l2, l3, ha, hx => by
  have hlt : ¬ ((v : Int) < 1024) := by omega
  refine W_loop' l123_0.eq_1 ?_
  refine W_seq (W_seq (W_ops (s1 := ?_) (by simp only [r123_3]; simp [t4, hlt]; exact rfl) ?_))
  refine W_cond_f (by simp) (W_exit ⟨rfl, by simp [t2], by simp [t3], l2, ⟨a, l3, ?_⟩, hx⟩)
  simp only [termsFrom, List.append_nil]
  exact ha
 | k + 1, v, hk, out, hout, t, loc, h, a, t0, t2, t3, t4, l2, l3, ha, hx => by
  have hlt : ((v : Int) < 1024) := by omega
  have hltn : v < 1024 := by omega
  have hw : IntKind.i64.wrap ((v : Int) + 1) = ((v + 1 : Nat) : Int) := by rw [i64_in _ (by omega)]; simp
  have ho : h.objs id = some (.var (wideC g off)) := by rw [hx.2 id hid]; exact hob
  have gv := wideC_get g off hltn
  refine W_loop' l123_0.eq_1 ?_
  refine W_seq (W_seq (W_ops (s1 := ?_) (by simp only [r123_3]; simp [t4, hlt]; exact rfl) ?_))
  refine W_cond_t (by simp) (W_skip ?_)
  refine W_seq (W_block (W_seq (W_ops (s1 := ?_) (by simp only [r123_5]; simp [t0, t4, hlt, hltn, ho, gv]; exact rfl) ?_)))
  by_cases hg : g v = 0
  ·refine W_cond_f (by simp [hg]) (W_skip ?_)
   refine W_ops (s1 := ?_) (by simp only [r123_4]; simp [t4, hw]; exact rfl) ?_
   simp only [termsFrom, keepT, hg, if_true]
   exact form_loop g off h0 id hid hob k (v + 1) (by omega) out (by omega) _ _ h a (by simp [t0]) (by simp [t2]) (by simp [t3]) (by simp) l2 l3 ha hx
  ·obtain ⟨a', h', e1, e2, e3⟩ := ha.append (bytes := 16) (m := [[.int .i64 v, .int .u64 (g v)]]) (tg := .exact) hx (by simp) (by simp [okSize]) (terms_ok _) (by simp [terms_len]; omega)
   obtain ⟨tk, rfl, e4⟩ : ∃ tk, a' = .lst (.own tk) (terms out ++ [[.int .i64 v, .int .u64 (g v)]]) ∧ h'.objs tk = some (.tok (terms out ++ [[V.int .i64 v, V.int .u64 (g v)]]).length 2) ∧ h0.next ≤ tk := by
    rcases e2 with ⟨h9, _⟩ | h9
    ·simp at h9
    ·exact h9
   refine W_cond_t (by simp [hg]) (W_tops (s1 := ?_) (by simp only [r123_6]; simp [t0, t3, t4, l3, hlt, hltn, ho, gv, e1]; exact rfl) ?_)
   refine W_ops (s1 := ?_) (by simp only [r123_4]; simp [t4, hw]; exact rfl) ?_
   simp only [termsFrom, keepT, hg, if_false]
   rw [show out ++ ((v : Int), g v) :: termsFrom g (v + 1) k = (out ++ [((v : Int), g v)]) ++ termsFrom g (v + 1) k by simp]
   exact form_loop g off h0 id hid hob k (v + 1) (by omega) (out ++ [((v : Int), g v)]) (by simp; omega) _ _ h' (.lst (.own tk) (terms out ++ [[.int .i64 v, .int .u64 (g v)]])) (by simp [t0]) (by simp [t2]) (by simp [t3]) (by simp) (by simp [l2]) (by simp) (.inr ⟨tk, by simp [terms], by simpa [terms] using e4.1, e4.2⟩) e3
theorem Form_run (g : Nat → Int) (off : Int) (h : LS.Heap) (id : Nat) (hid : id < h.next) (hob : h.objs id = some (.var (wideC g off))) :
  callD T 123 [.obj id 0] h = some (.agg (formC .ro (termsFrom g 0 1024) off), h) := by
 refine W_call t123 rfl rfl (by simp) ?_
 show W T c123 _ _
 unfold c123
 have go := wideC_off g off
 refine W_seq (W_ops (s1 := ?_) (by simp only [r123_0]; simp [a123]; exact rfl) ?_)
 refine W_seq (W_ops (s1 := ?_) (by simp only [r123_1]; simp [hob, go, nextVer]; exact rfl) ?_)
 refine W_seq (W_seq (W_ops (s1 := ?_) (by simp only [r123_2]; simp; exact rfl) ?_))
 refine W_block ((form_loop g off h id hid hob 1024 0 (by omega) [] (by simp) _ _ h (.lst .nil []) (by simp) (by simp [nextVer]) (by simp [nextVer]) (by simp) (by simp [nextVer]) (by simp [nextVer]) (.nil _ _ _) (.refl h)).mono ?_)
 rintro e ⟨t1, loc1, h1⟩ ⟨rfl, t2, t3, l2, ⟨a, l3, ha⟩, hx⟩
 simp only at t2 t3 l2 l3 ha hx
 refine W_seq (W_ops (s1 := ?_) (by simp only [r123_7]; simp [t2, t3, l2, l3]; exact rfl) (W_ret ?_))
 have hr := ha.retag
 simp only [List.nil_append] at hr
 refine ⟨.inr rfl, [.agg [a, .int .u64 off]], by simp [a123, resV, resV1, t2], ?_, by simp [formC], hx⟩
 simp [a123, packV, formC, hr]

end Go.Proofs.YtpbngohpklpalaaGreat

/- Forms: the document's mix of two forms. -/
namespace Go.Proofs.YtpbngohpklpalaaGreat
open Go.LS Go.IntWalk
def mixU (a n b m : Int) : Int := addU (mulU a n) (mulU b m)
theorem wideC_congr {g g' : Nat → Int} {off : Int} (h : ∀ j, j < 1024 → g j = g' j) : wideC g off = wideC g' off := by
 unfold wideC
 rw [List.map_congr_left (fun j hj => by rw [h j (List.mem_range.1 hj)])]
theorem mix_loop (gb : Nat → Int) (oa ob n m : Int) (ia ib : Nat) (hab : ia ≠ ib) : ∀ (k v : Nat) (hk : v + k = 1024) (ga : Nat → Int) (t : Nat → V) (loc : LS.Loc) (h : LS.Heap)
  (t1 : t 1 = .int .u64 n) (t3 : t 3 = .int .u64 m) (t9 : t 9 = .obj ia 0) (t10 : t 10 = .obj ib 0) (t11 : t 11 = .int .i64 v) (t8 : t 8 = .loc 8 0 0)
  (ha : h.objs ia = some (.var (wideC ga oa))) (hb : h.objs ib = some (.var (wideC gb ob))),
  W T (.loop l69_0) ⟨t, loc, h⟩ (fun e s => e = .exit 0 ∧ s.t 1 = .int .u64 n ∧ s.t 3 = .int .u64 m ∧ s.t 9 = .obj ia 0 ∧ s.t 10 = .obj ib 0 ∧ s.t 8 = .loc 8 0 0 ∧ s.loc = loc ∧ s.h.next = h.next ∧
   s.h.objs ia = some (.var (wideC (fun j => if v ≤ j then mixU (ga j) n (gb j) m else ga j) oa)) ∧ s.h.objs ib = some (.var (wideC gb ob)) ∧ ∀ id, id ≠ ia → s.h.objs id = h.objs id)
 | 0, v, hk, ga, t, loc, h, t1, t3, t9, t10, t11, t8, ha, hb => by
  have hlt : ¬ ((v : Int) < 1024) := by omega
  refine W_loop' l69_0.eq_1 ?_
  refine W_seq (W_seq (W_ops (s1 := ?_) (by simp only [r69_4]; simp [t11, hlt]; exact rfl) ?_))
  refine W_cond_f (by simp) (W_exit ⟨rfl, by simp [t1], by simp [t3], by simp [t9], by simp [t10], by simp [t8], rfl, rfl, ?_, hb, fun _ _ => rfl⟩)
  rw [ha, wideC_congr (fun j hj => (if_neg (show ¬ v ≤ j by omega)).symm)]
 | k + 1, v, hk, ga, t, loc, h, t1, t3, t9, t10, t11, t8, ha, hb => by
  have hlt : ((v : Int) < 1024) := by omega
  have hltn : v < 1024 := by omega
  have hw : IntKind.i64.wrap ((v : Int) + 1) = ((v + 1 : Nat) : Int) := by rw [i64_in _ (by omega)]; simp
  have g1 := wideC_get ga oa hltn
  have g2 := wideC_get gb ob hltn
  have hbd : v + 1 ≤ (wideC ga oa).length := by rw [wideC_len]; omega
  have hp := wideC_patch ga oa hltn (mixU (ga v) n (gb v) m)
  unfold mixU addU mulU at hp
  refine W_loop' l69_0.eq_1 ?_
  refine W_seq (W_seq (W_ops (s1 := ?_) (by simp only [r69_4]; simp [t11, hlt]; exact rfl) ?_))
  refine W_cond_t (by simp) (W_skip ?_)
  refine W_seq (W_block (W_tops (s1 := ?_) (by simp only [r69_6]; simp [-patch, t1, t3, t9, t10, t11, hlt, hltn, ha, hb, g1, g2, hbd, hp]; exact rfl) ?_))
  refine W_ops (s1 := ?_) (by simp only [r69_5]; simp [t11, hw]; exact rfl) ?_
  refine (mix_loop gb oa ob n m ia ib hab k (v + 1) (by omega) (fun j => if j = v then IntKind.u64.wrap (IntKind.u64.wrap (ga v * n) + IntKind.u64.wrap (gb v * m)) else ga j) _ loc _ (by simp [t1]) (by simp [t3]) (by simp [t9]) (by simp [t10]) (by simp) (by simp [t8]) (by simp only [Heap.set, upd, if_true]) (by simp only [Heap.set, upd]; rw [if_neg (Ne.symm hab)]; exact hb)).mono ?_
  rintro e s ⟨rfl, s1, s3, s9, s10, s8, sl, sn, sa, sb, so⟩
  refine ⟨rfl, s1, s3, s9, s10, s8, sl, by rw [sn]; rfl, ?_, sb, fun id hne => by rw [so id hne]; simp only [Heap.set, upd]; rw [if_neg hne]⟩
  rw [sa]
  refine congrArg (fun x => some (AObj.var x)) (wideC_congr (fun j hj => ?_))
  by_cases h1 : j = v
  ·subst h1
   rw [if_neg (show ¬ j + 1 ≤ j by omega)]
   simp [mixU, addU, mulU]
  ·by_cases h2 : v + 1 ≤ j
   ·rw [if_pos h2, if_pos (show v ≤ j by omega), if_neg h1]
   ·rw [if_neg h2, if_neg (show ¬ v ≤ j by omega), if_neg h1]
theorem wideC_patch_off (g : Nat → Int) (off n : Int) : patch (wideC g off) 1024 [.int .u64 n] = wideC g n := by
 unfold patch wideC
 rw [List.take_append_of_le_length (by simp), List.take_of_length_le (by simp)]
 simp
def mixM (a : List (Int × Int)) (n : Int) (b : List (Int × Int)) (m : Int) : List (Int × Int) := termsFrom (fun j => mixU (scaleOf a (fun _ => 0) j) n (scaleOf b (fun _ => 0) j) m) 0 1024
theorem Mix_run (ta tb : Tag) (a b : List (Int × Int)) (oa ob n m : Int) (ha : (a.length : Int) < 2 ^ 62) (hb : (b.length : Int) < 2 ^ 62) (hra : inRange a) (hrb : inRange b) (h : LS.Heap) :
  callD T 69 [.agg (formC ta a oa), .int .u64 n, .agg (formC tb b ob), .int .u64 m] h = some (.agg (formC .ro (mixM a n b m) (mixU oa n ob m)), h) := by
 refine W_call t69 rfl rfl (by simp) ?_
 show W T c69 _ _
 unfold c69
 have e1 := Of_run .ro a oa ha hra h
 have e2 := Of_run .ro b ob hb hrb (h.new (.var (wideC (scaleOf a (fun _ => 0)) oa)))
 simp only [formC] at e1 e2
 refine W_seq (W_ops (s1 := ?_) (by simp only [r69_0]; simp [formC, a69]; exact rfl) ?_)
 refine W_seq (W_ops (s1 := ?_) (by simp only [r69_1]; simp [nextVer, e1]; exact rfl) ?_)
 refine W_seq (W_ops (s1 := ?_) (by simp only [r69_2]; simp [nextVer, e2]; exact rfl) ?_)
 refine W_seq (W_seq (W_ops (s1 := ?_) (by simp only [r69_3]; simp; exact rfl) ?_))
 have n1 : (h.new (.var (wideC (scaleOf a (fun _ => 0)) oa))).next = h.next + 1 := rfl
 refine W_block ((mix_loop (scaleOf b (fun _ => 0)) oa ob n m h.next (h.next + 1) (by omega) 1024 0 (by omega) (scaleOf a (fun _ => 0)) _ _ _ (by simp) (by simp) (by simp) (by simp [n1]) (by simp) (by simp [nextVer])
  (by simp [Heap.new, upd]) (by simp [Heap.new, upd])).mono ?_)
 rintro e ⟨t1, loc1, h1⟩ ⟨rfl, s1, s3, s9, s10, s8, sl, sn, sa, sb, so⟩
 simp only at s1 s3 s9 s10 s8 sl sn sa sb so
 have hgm : ∃ gm : Nat → Int, h1.objs h.next = some (.var (wideC gm oa)) ∧ termsFrom gm 0 1024 = mixM a n b m := by
  refine ⟨_, sa, ?_⟩
  simp only [Nat.zero_le, if_true]
  rfl
 obtain ⟨gm, sa', hmix⟩ := hgm
 have g1 := wideC_off gm oa
 have g2 := wideC_off (scaleOf b (fun _ => 0)) ob
 have hl := wideC_len gm oa
 have hp := wideC_patch_off gm oa (mixU oa n ob m)
 unfold mixU addU mulU at hp
 have hf := Form_run gm (mixU oa n ob m) (h1.set h.next (.var (wideC gm (mixU oa n ob m)))) h.next (by rw [show (h1.set h.next (.var (wideC gm (mixU oa n ob m)))).next = h1.next from rfl, sn]; simp [Heap.new]; omega) (by simp only [Heap.set, upd, if_true])
 rw [hmix] at hf
 unfold mixU addU mulU at hf
 simp only [formC] at hf
 generalize wideC (scaleOf b fun _ => 0) ob = cb at *
 generalize hca : wideC gm oa = ca at *
 generalize wideC gm (IntKind.u64.wrap (IntKind.u64.wrap (oa * n) + IntKind.u64.wrap (ob * m))) = cc at *
 obtain ⟨p1, g1'⟩ := List.getElem?_eq_some_iff.1 g1
 refine W_seq (W_tops (s1 := ?_) (by simp only [r69_7]; simp [-patch, s1, s3, s9, s10, sa', sb, g1, g1', g2, hl, hp]; exact rfl) ?_)
 refine W_seq (W_ops (s1 := ?_) (by simp only [r69_8]; simp [s9, s8, sl, hf, nextVer]; exact rfl) (W_ret ?_))
 refine ⟨.inr rfl, _, by simp [a69, resV, resV1, s8]; exact rfl, by simp [a69, packV, formC, mixU, addU, mulU], by simp [formC], ?_⟩
 refine ⟨?_, fun id hid => ?_⟩
 ·show h.next ≤ h1.next
  rw [sn]; simp [Heap.new]; omega
 ·simp only [Heap.set, upd]
  rw [if_neg (by omega), so id (by omega)]
  simp only [Heap.new, upd]
  rw [if_neg (by omega), if_neg (by omega)]

end Go.Proofs.YtpbngohpklpalaaGreat

/- Forms: what is done term by term is what is done to the scales of each value: plain Lean, no program. -/
namespace Go.Proofs.YtpbngohpklpalaaGreat
open Go.LS Go.IntWalk
def look : List (Int × Int) → Nat → Int
 | [], _ => 0
 | (v, s) :: l, j => if (j : Int) = v then s else look l j
def Rising : Int → List (Int × Int) → Prop
 | _, [] => True
 | last, (v, s) :: l => last < v ∧ v < 1024 ∧ s ≠ 0 ∧ Rising v l
theorem rising_of_may : ∀ {l : List (Int × Int)} {last : Int}, mayL last l = true → Rising last l
 | [], _, _ => trivial
 | (v, s) :: l, last, h => by
  simp only [mayL] at h
  split at h
  ·cases h
  ·rename_i hn
   exact ⟨by omega, by omega, by omega, rising_of_may h⟩
theorem Rising.mono : ∀ {l : List (Int × Int)} {a b : Int}, Rising a l → b ≤ a → Rising b l
 | [], _, _, _, _ => trivial
 | (v, s) :: l, a, b, h, hb => ⟨by have := h.1; omega, h.2⟩
theorem look_below : ∀ {l : List (Int × Int)} {last : Int} {j : Nat}, Rising last l → (j : Int) ≤ last → look l j = 0
 | [], _, _, _, _ => rfl
 | (v, s) :: l, last, j, h, hj => by
  have h1 := h.1
  simp only [look]
  rw [if_neg (by omega)]
  exact look_below h.2.2.2 (by omega)
theorem scaleOf_look : ∀ {l : List (Int × Int)} {last : Int} (g : Nat → Int) (j : Nat), Rising last l → 0 ≤ last → scaleOf l g j = if look l j = 0 then g j else look l j
 | [], _, g, j, _, _ => by simp [scaleOf, look]
 | (v, s) :: l, last, g, j, h, h0 => by
  obtain ⟨h1, h2, h3, h4⟩ := h
  have e1 : scaleOf ((v, s) :: l) g j = scaleOf l (fun j => if j = v.toNat then s else g j) j := rfl
  rw [e1, scaleOf_look _ j h4 (by omega)]
  by_cases hj : (j : Int) = v
  ·have hz := look_below (j := j) h4 (by omega)
   have e2 : look ((v, s) :: l) j = s := by simp [look, hj]
   rw [e2, hz]
   simp [h3, show j = v.toNat by omega]
  ·have e2 : look ((v, s) :: l) j = look l j := by simp [look, hj]
   rw [e2]
   simp [show ¬ j = v.toNat by omega]
theorem scaleOf_zero {l : List (Int × Int)} (h : Rising 0 l) (j : Nat) : scaleOf l (fun _ => 0) j = look l j := by
 rw [scaleOf_look _ j h (by omega)]
 split <;> simp_all
theorem termsFrom_congr {g g' : Nat → Int} : ∀ (k v : Nat), (∀ j, v ≤ j → j < v + k → g j = g' j) → termsFrom g v k = termsFrom g' v k
 | 0, _, _ => rfl
 | k + 1, v, h => by
  simp only [termsFrom]
  rw [h v (by omega) (by omega), termsFrom_congr k (v + 1) (fun j h1 h2 => h j (by omega) (by omega))]
theorem bothL_terms {f : Int → Int → Int} (hf : f 0 0 = 0) : ∀ (k v : Nat) (hv : v + k = 1024) (x y : List (Int × Int)), Rising ((v : Int) - 1) x → Rising ((v : Int) - 1) y →
  bothL f x y = termsFrom (fun j => f (look x j) (look y j)) v k
 | 0, v, hv, x, y, hx, hy => by
  have ex : x = [] := by
   cases x with
   | nil => rfl
   | cons p x => obtain ⟨a, s⟩ := p; have := hx.1; have := hx.2.1; omega
  have ey : y = [] := by
   cases y with
   | nil => rfl
   | cons p x => obtain ⟨a, s⟩ := p; have := hy.1; have := hy.2.1; omega
  subst ex ey
  rw [bothL]
  rfl
 | k + 1, v, hv, x, y, hx, hy => by
  simp only [termsFrom]
  have up : ∀ {l : List (Int × Int)}, Rising ((v : Int) - 1) l → (∀ s l', l = ((v : Int), s) :: l' → False) → Rising (((v + 1 : Nat) : Int) - 1) l := by
   intro l hl hn
   cases l with
   | nil => trivial
   | cons p l =>
    obtain ⟨a, s⟩ := p
    refine ⟨?_, hl.2⟩
    have h1 := hl.1
    have : a ≠ v := fun e => hn s l (by rw [e])
    omega
  have tl : ∀ {s : Int} {l : List (Int × Int)}, Rising ((v : Int) - 1) (((v : Int), s) :: l) → Rising (((v + 1 : Nat) : Int) - 1) l := fun {s l} h => h.2.2.2.mono (by omega)
  have lk : ∀ {l : List (Int × Int)}, Rising (((v + 1 : Nat) : Int) - 1) l → look l v = 0 := fun {l} h => look_below h (by omega)
  have skip : ∀ {s : Int} {l : List (Int × Int)} (j : Nat), v + 1 ≤ j → look (((v : Int), s) :: l) j = look l j := fun {s l} j hj => by simp only [look]; rw [if_neg (by omega)]
  have hd : ∀ {s : Int} {l : List (Int × Int)}, look (((v : Int), s) :: l) v = s := fun {s l} => by simp [look]
  by_cases cx : ∃ s x', x = ((v : Int), s) :: x'
  ·obtain ⟨s, x', rfl⟩ := cx
   have rx := tl hx
   by_cases cy : ∃ r y', y = ((v : Int), r) :: y'
   ·obtain ⟨r, y', rfl⟩ := cy
    have ry := tl hy
    rw [bothL, if_neg (by omega), if_neg (by omega), bothL_terms hf k (v + 1) (by omega) x' y' rx ry, hd, hd]
    congr 1
    exact termsFrom_congr k (v + 1) (fun j h1 h2 => by rw [skip j h1, skip j h1])
   ·have ry := up hy (fun r y' e => cy ⟨r, y', e⟩)
    have e : bothL f (((v : Int), s) :: x') y = keepT v (f s 0) (bothL f x' y) := by
     cases y with
     | nil => rw [bothL]
     | cons p y =>
      obtain ⟨w, r⟩ := p
      have := ry.1
      rw [bothL, if_pos (by omega)]
    rw [e, bothL_terms hf k (v + 1) (by omega) x' y rx ry, hd, lk ry]
    congr 1
    exact termsFrom_congr k (v + 1) (fun j h1 h2 => by rw [skip j h1])
  ·have rx := up hx (fun s x' e => cx ⟨s, x', e⟩)
   by_cases cy : ∃ r y', y = ((v : Int), r) :: y'
   ·obtain ⟨r, y', rfl⟩ := cy
    have ry := tl hy
    have e : bothL f x (((v : Int), r) :: y') = keepT v (f 0 r) (bothL f x y') := by
     cases x with
     | nil => rw [bothL]
     | cons p x =>
      obtain ⟨w, s⟩ := p
      have := rx.1
      rw [bothL, if_neg (by omega), if_pos (by omega)]
    rw [e, bothL_terms hf k (v + 1) (by omega) x y' rx ry, hd, lk rx]
    congr 1
    exact termsFrom_congr k (v + 1) (fun j h1 h2 => by rw [skip j h1])
   ·have ry := up hy (fun r y' e => cy ⟨r, y', e⟩)
    rw [lk rx, lk ry, hf, bothL_terms hf k (v + 1) (by omega) x y rx ry]
    simp [keepT]

end Go.Proofs.YtpbngohpklpalaaGreat

/- Forms: sums, differences and so many times, as the document mixes them, and their ring laws: plain Lean, no program. -/
namespace Go.Proofs.YtpbngohpklpalaaGreat
open Go.LS Go.IntWalk
theorem u64_wrap (n : Int) : IntKind.u64.wrap n = n % 18446744073709551616 := by simp [IntKind.wrap, IntKind.bits, IntKind.signed]
def Narrow (l : List (Int × Int)) : Prop := ∀ p ∈ l, 0 ≤ p.2 ∧ p.2 < 18446744073709551616
theorem look_narrow : ∀ {l : List (Int × Int)} (j : Nat), Narrow l → 0 ≤ look l j ∧ look l j < 18446744073709551616
 | [], _, _ => by simp [look]
 | (v, s) :: l, j, h => by
  simp only [look]
  split
  ·exact h _ (List.mem_cons_self ..)
  ·exact look_narrow j (fun p hp => h p (List.mem_cons_of_mem _ hp))
theorem inRange_of_rising : ∀ {l : List (Int × Int)} {last : Int}, 0 ≤ last → Rising last l → inRange l
 | [], _, _, _ => fun p hp => by cases hp
 | (v, s) :: l, last, h0, h => fun p hp => by
  rcases List.mem_cons.1 hp with rfl | hp
  ·exact ⟨by have := h.1; simp only; omega, h.2.1⟩
  ·exact inRange_of_rising (by have := h.1; omega) h.2.2.2 p hp
theorem rising_top {l : List (Int × Int)} (h : Rising 0 l) : Rising (((0 : Nat) : Int) - 1) l := h.mono (by omega)
theorem addU_mix {a b : Int} (ha : 0 ≤ a ∧ a < 18446744073709551616) (hb : 0 ≤ b ∧ b < 18446744073709551616) : addU a b = mixU a 1 b 1 := by
 unfold addU mixU addU mulU
 rw [u64_wrap, u64_wrap, u64_wrap, u64_wrap]; omega
theorem subU_mix {a b : Int} (ha : 0 ≤ a ∧ a < 18446744073709551616) (hb : 0 ≤ b ∧ b < 18446744073709551616) : subU a b = mixU a 1 b 18446744073709551615 := by
 unfold subU mixU addU mulU
 rw [u64_wrap, u64_wrap, u64_wrap, u64_wrap]; omega
theorem mulU_mix {a n : Int} : mulU a n = mixU a n 0 0 := by
 unfold mixU addU mulU
 rw [u64_wrap, u64_wrap, u64_wrap]; omega
theorem plus_mix {a b : List (Int × Int)} (ha : Rising 0 a) (hb : Rising 0 b) (na : Narrow a) (nb : Narrow b) : bothL addU a b = mixM a 1 b 1 := by
 rw [bothL_terms rfl 1024 0 rfl a b (rising_top ha) (rising_top hb)]
 unfold mixM
 refine termsFrom_congr _ _ (fun j _ _ => ?_)
 rw [scaleOf_zero ha, scaleOf_zero hb, addU_mix (look_narrow j na) (look_narrow j nb)]
theorem minus_mix {a b : List (Int × Int)} (ha : Rising 0 a) (hb : Rising 0 b) (na : Narrow a) (nb : Narrow b) : bothL subU a b = mixM a 1 b 18446744073709551615 := by
 rw [bothL_terms rfl 1024 0 rfl a b (rising_top ha) (rising_top hb)]
 unfold mixM
 refine termsFrom_congr _ _ (fun j _ _ => ?_)
 rw [scaleOf_zero ha, scaleOf_zero hb, subU_mix (look_narrow j na) (look_narrow j nb)]
theorem times_mix {a : List (Int × Int)} (n : Int) (ha : Rising 0 a) : bothL (fun x _ => mulU x n) a [] = mixM a n [] 0 := by
 rw [bothL_terms (by simp [mulU, u64_wrap]) 1024 0 rfl a [] (rising_top ha) trivial]
 unfold mixM
 refine termsFrom_congr _ _ (fun j _ _ => ?_)
 rw [scaleOf_zero ha, scaleOf_zero (l := []) trivial, mulU_mix]
 rfl

theorem mayL_termsFrom (g : Nat → Int) : ∀ (k v : Nat) (last : Int), v + k = 1024 → (last < v ∨ (g v = 0 ∧ last ≤ v)) → mayL last (termsFrom g v k) = true
 | 0, _, _, _, _ => rfl
 | k + 1, v, last, hv, hl => by
  simp only [termsFrom, keepT]
  split
  ·exact mayL_termsFrom g k (v + 1) last (by omega) (by omega)
  ·rename_i hz
   simp only [mayL]
   rw [if_neg (by omega)]
   exact mayL_termsFrom g k (v + 1) v (by omega) (by omega)
theorem termsFrom_zero : ∀ (k v : Nat), termsFrom (fun _ => 0) v k = []
 | 0, _ => rfl
 | k + 1, v => by simp [termsFrom, keepT, termsFrom_zero k (v + 1)]
theorem look_termsFrom (g : Nat → Int) : ∀ (k v j : Nat), look (termsFrom g v k) j = if v ≤ j ∧ j < v + k then g j else 0
 | 0, v, j => by simp [termsFrom, look]; omega
 | k + 1, v, j => by
  have ih := look_termsFrom g k (v + 1) j
  simp only [termsFrom, keepT]
  split
  ·rename_i hz
   rw [ih]
   by_cases hj : j = v
   ·subst hj; simp [hz]
   ·by_cases h1 : v ≤ j ∧ j < v + (k + 1)
    ·rw [if_pos h1, if_pos (by omega)]
    ·rw [if_neg h1, if_neg (by omega)]
  ·simp only [look]
   by_cases hj : j = v
   ·subst hj; simp
   ·rw [if_neg (by omega), ih]
    by_cases h1 : v ≤ j ∧ j < v + (k + 1)
    ·rw [if_pos h1, if_pos (by omega)]
    ·rw [if_neg h1, if_neg (by omega)]
theorem narrow_termsFrom {g : Nat → Int} (hg : ∀ j, 0 ≤ g j ∧ g j < 18446744073709551616) : ∀ (k v : Nat), Narrow (termsFrom g v k)
 | 0, _ => fun p hp => by cases hp
 | k + 1, v => fun p hp => by
  simp only [termsFrom, keepT] at hp
  split at hp
  ·exact narrow_termsFrom hg k (v + 1) p hp
  ·rcases List.mem_cons.1 hp with rfl | hp
   ·exact hg v
   ·exact narrow_termsFrom hg k (v + 1) p hp
theorem termsFrom_len (g : Nat → Int) : ∀ (k v : Nat), (termsFrom g v k).length ≤ k
 | 0, _ => by simp [termsFrom]
 | k + 1, v => by
  have := termsFrom_len g k (v + 1)
  simp only [termsFrom, keepT]
  split
  ·omega
  ·simp; omega
theorem terms_of_look : ∀ {l : List (Int × Int)}, Rising 0 l → l = termsFrom (look l) 0 1024 := by
 intro l h
 have h1 := bothL_terms (f := fun a _ => a) rfl 1024 0 rfl l [] (rising_top h) trivial
 have h2 : ∀ (l : List (Int × Int)) (last : Int), Rising last l → bothL (fun a _ => a) l [] = l := by
  intro l
  induction l with
  | nil => intro _ _; rw [bothL]
  | cons p l ih =>
   obtain ⟨v, s⟩ := p
   intro last h
   rw [bothL, ih _ h.2.2.2, keepT, if_neg h.2.2.1]
 rw [h2 l 0 h] at h1
 exact h1
theorem same_of_look {a b : List (Int × Int)} (ha : Rising 0 a) (hb : Rising 0 b) (h : ∀ j, j < 1024 → look a j = look b j) : a = b := by
 rw [terms_of_look ha, terms_of_look hb]
 exact termsFrom_congr _ _ (fun j _ hj => h j (by omega))
theorem both_facts {f : Int → Int → Int} (hf : f 0 0 = 0) (hfr : ∀ a b, 0 ≤ f a b ∧ f a b < 18446744073709551616) {a b : List (Int × Int)} (ha : Rising 0 a) (hb : Rising 0 b) :
  mayL 0 (bothL f a b) = true ∧ Narrow (bothL f a b) ∧ (bothL f a b).length ≤ 1024 ∧ ∀ j, j < 1024 → look (bothL f a b) j = f (look a j) (look b j) := by
 have h := bothL_terms hf 1024 0 rfl a b (rising_top ha) (rising_top hb)
 rw [h]
 refine ⟨mayL_termsFrom _ _ _ _ rfl (.inr ⟨?_, by omega⟩), narrow_termsFrom (fun j => hfr _ _) _ _, termsFrom_len _ _ _, fun j hj => ?_⟩
 ·have e1 := look_below (j := 0) ha (by omega)
  have e2 := look_below (j := 0) hb (by omega)
  rw [e1, e2, hf]
 ·rw [look_termsFrom, if_pos (by omega)]
theorem addU_range (a b : Int) : 0 ≤ addU a b ∧ addU a b < 18446744073709551616 := by unfold addU; rw [u64_wrap]; omega
theorem subU_range (a b : Int) : 0 ≤ subU a b ∧ subU a b < 18446744073709551616 := by unfold subU; rw [u64_wrap]; omega
theorem mulU_range (a b : Int) : 0 ≤ mulU a b ∧ mulU a b < 18446744073709551616 := by unfold mulU; rw [u64_wrap]; omega
theorem addU_comm (a b : Int) : addU a b = addU b a := by unfold addU; rw [Int.add_comm]
theorem subU_self (a : Int) : subU a a = 0 := by unfold subU; simp [u64_wrap]
theorem mulU_add (a b n : Int) : mulU (addU a b) n = addU (mulU a n) (mulU b n) := by
 unfold addU mulU
 simp only [u64_wrap]
 rw [← Int.add_emod, ← Int.add_mul, Int.mul_emod, Int.emod_emod, ← Int.mul_emod]
theorem subU_addU {a b : Int} (ha : 0 ≤ a ∧ a < 18446744073709551616) : subU (addU a b) b = a := by
 unfold subU addU; rw [u64_wrap, u64_wrap]; omega
theorem mulU_one {a : Int} (ha : 0 ≤ a ∧ a < 18446744073709551616) : mulU a 1 = a := by unfold mulU; rw [u64_wrap]; omega
theorem mulU_zero (a : Int) : mulU a 0 = 0 := by unfold mulU; rw [u64_wrap]; omega
theorem mayL_rising {l : List (Int × Int)} (h : mayL 0 l = true) : Rising 0 l := rising_of_may h
theorem ring_laws {a b : List (Int × Int)} (ha : mayL 0 a = true) (hb : mayL 0 b = true) (na : Narrow a) (nb : Narrow b) (n : Int) :
  bothL addU a b = bothL addU b a ∧ bothL subU a a = [] ∧ bothL (fun x _ => mulU x n) (bothL addU a b) [] = bothL addU (bothL (fun x _ => mulU x n) a []) (bothL (fun x _ => mulU x n) b []) ∧
  bothL subU (bothL addU a b) b = a ∧ bothL (fun x _ => mulU x 1) a [] = a ∧ bothL (fun x _ => mulU x 0) a [] = [] := by
 have ra := mayL_rising ha
 have rb := mayL_rising hb
 have rn : Rising 0 [] := trivial
 have ln : ∀ j, look [] j = 0 := fun _ => rfl
 obtain ⟨s1, s2, s3, s4⟩ := both_facts (f := addU) rfl addU_range ra rb
 obtain ⟨t1, t2, t3, t4⟩ := both_facts (f := addU) rfl addU_range rb ra
 obtain ⟨m1, m2, m3, m4⟩ := both_facts (f := subU) rfl subU_range ra ra
 obtain ⟨x1, x2, x3, x4⟩ := both_facts (f := fun x _ => mulU x n) (by simp [mulU, u64_wrap]) (fun a _ => mulU_range a n) ra rn
 obtain ⟨y1, y2, y3, y4⟩ := both_facts (f := fun x _ => mulU x n) (by simp [mulU, u64_wrap]) (fun a _ => mulU_range a n) rb rn
 obtain ⟨z1, z2, z3, z4⟩ := both_facts (f := fun x _ => mulU x n) (by simp [mulU, u64_wrap]) (fun a _ => mulU_range a n) (mayL_rising s1) rn
 obtain ⟨w1, w2, w3, w4⟩ := both_facts (f := addU) rfl addU_range (mayL_rising x1) (mayL_rising y1)
 obtain ⟨d1, d2, d3, d4⟩ := both_facts (f := subU) rfl subU_range (mayL_rising s1) rb
 obtain ⟨o1, o2, o3, o4⟩ := both_facts (f := fun x _ => mulU x 1) rfl (fun a _ => mulU_range a 1) ra rn
 obtain ⟨p1, p2, p3, p4⟩ := both_facts (f := fun x _ => mulU x 0) rfl (fun a _ => mulU_range a 0) ra rn
 refine ⟨same_of_look (mayL_rising s1) (mayL_rising t1) fun j hj => ?_, same_of_look (mayL_rising m1) rn fun j hj => ?_, same_of_look (mayL_rising z1) (mayL_rising w1) fun j hj => ?_,
  same_of_look (mayL_rising d1) ra fun j hj => ?_, same_of_look (mayL_rising o1) ra fun j hj => ?_, same_of_look (mayL_rising p1) rn fun j hj => ?_⟩
 ·rw [s4 j hj, t4 j hj, addU_comm]
 ·rw [m4 j hj, subU_self]; rfl
 ·rw [z4 j hj, s4 j hj, w4 j hj, x4 j hj, y4 j hj, mulU_add]
 ·rw [d4 j hj, s4 j hj, subU_addU (look_narrow j na)]
 ·rw [o4 j hj, mulU_one (look_narrow j na)]
 ·rw [p4 j hj, mulU_zero]; rfl

end Go.Proofs.YtpbngohpklpalaaGreat

/- Lists: whether one of them is so. -/
namespace Go.Proofs.YtpbngohpklpalaaGreat
open Go.LS Go.IntWalk
theorem i64_succ {i : Nat} (h : i < 2 ^ 62) : IntKind.i64.wrap ((i : Int) + 1) = ((i + 1 : Nat) : Int) := by rw [i64_in _ (by omega)]; simp
theorem take_any_succ {α : Type} {xs : List α} {i : Nat} (h : i < xs.length) (p : α → Bool) : (xs.take (i + 1)).any p = ((xs.take i).any p || p xs[i]) := by
 rw [List.take_succ_eq_append_getElem h, List.any_append]; simp only [List.any_cons, List.any_nil, Bool.or_false]
theorem sub_all {l : List V} {n : Nat} (h : l.length = n) : sub l 0 n = some l := by
 simp [sub, h, List.take_of_length_le]
theorem any_of_get {α : Type} {xs : List α} {i : Nat} (h : i < xs.length) {p : α → Bool} (hp : p xs[i] = true) : xs.any p = true :=
 List.any_eq_true.2 ⟨xs[i], List.getElem_mem h, hp⟩
theorem Index_int {α : Type} (enc : α → List V) (xs : List α) (F : FuncId) (caps : List V) (p : α → Bool) (h : LS.Heap) (tg : Tag) (hlen : xs.length < 2 ^ 62) (hsz : ∀ x, (enc x).length = 1) (hre : V.retagLL (xs.map enc) = xs.map enc)
  (hcaps : caps.all V.leaf = true ) (hp : ∀ x ∈ xs, callD T F ((enc x).headD .undef :: caps) h = some (.bool (p x), h)) :
  ∃ n : Int, callD T 129 [.lst tg (xs.map enc), .fn F [] caps] h = some (.int .i64 n, h) ∧ decide (0 ≤ n) = xs.any p := by
 have key : ∃ n : Int, decide (0 ≤ n) = xs.any p ∧ W T c129 ⟨initT [.lst .ro (xs.map enc), .fn F [] caps], fun _ => none, h⟩ (fun e s => e = .ret ∧ s.t 4 = .int .i64 n ∧ s.h = h) := by
  suffices hw : W T c129 ⟨initT [.lst .ro (xs.map enc), .fn F [] caps], fun _ => none, h⟩ (fun e s => ∃ n : Int, decide (0 ≤ n) = xs.any p ∧ e = .ret ∧ s.t 4 = .int .i64 n ∧ s.h = h) by
   obtain ⟨e, s, h1, n, h2, h3⟩ := hw
   exact ⟨n, h2, e, s, h1, h3⟩
  unfold c129
  refine W_seq (W_ops (s1 := ?_) (by simp only [r129_0]; simp; exact rfl) ?_)
  refine W_seq (W_seq (W_ops (s1 := ?_) (by simp only [r129_1]; simp; exact rfl) ?_))
  refine W_block (W_for' l129_0.eq_1 (n := xs.length) (fun i s => s.t 0 = .lst .ro (xs.map enc) ∧ s.t 1 = .fn F [] caps ∧ s.t 7 = .int .i64 xs.length ∧ s.t 8 = .int .i64 i ∧ s.h = h ∧ (xs.take i).any p = false) ⟨by simp, by simp, by simp, by simp, rfl, by simp⟩ ?_ ?_)
  ·rintro i ⟨t, loc, h'⟩ hi ⟨t0, t1, t7, t8, rfl, ha⟩
   simp only at t0 t1 t7 t8
   have hl : ((i : Int) < xs.length) := by omega
   have hg : (xs.map enc)[i]? = some (enc xs[i]) := by simp [hi]
   have hg1 : i < (xs.map enc).length := by simp [hi]
   have hw := i64_succ (show i < 2 ^ 62 by omega)
   have hc := hp xs[i] (List.getElem_mem hi)
   have hz := hsz xs[i]
   have hsub := sub_all hz
   have hsucc := take_any_succ hi p
   obtain ⟨hd, tl, hE⟩ : ∃ hd tl, enc xs[i] = hd :: tl := by cases hcs : enc xs[i] with | nil => rw [hcs] at hz; simp at hz | cons a b => exact ⟨a, b, rfl⟩
   rw [hE] at hc hz hsub hg
   simp only [List.headD_cons] at hc
   by_cases hpx : p xs[i] = true
   ·rw [hpx] at hc
    have hall := any_of_get hi hpx
    have hwit : decide ((0 : Int) ≤ i) = xs.any p := by simp [hall]
    repeat' (first | refine W_seq ?_ | refine W_skip ?_ | refine W_block ?_ | refine W_ret ?_ | refine W_exit ?_ | refine W_ops (s1 := ?_) (by simp [-sub, t0, t1, t7, t8, hl, hi, hE, hz, hsub, hw, hc]; exact rfl) ?_ | refine W_tops (s1 := ?_) (by simp [-sub, t0, t1, t7, t8, hl, hi, hE, hz, hsub, hw, hc]; exact rfl) ?_ | refine W_cond_t (by first | (simp [-sub, t0, t1, t7, t8, hl, hi, hE, hz, hsub, hw, hc]; done) | fail) ?_ | refine W_cond_f (by first | (simp [-sub, t0, t1, t7, t8, hl, hi, hE, hz, hsub, hw, hc]; done) | fail) ?_ | fail)
    refine .inr ⟨by simp, i, hwit, by simp⟩
   ·have hpx : p xs[i] = false := by simpa using hpx
    rw [hpx] at hc
    repeat' (first | refine W_seq ?_ | refine W_skip ?_ | refine W_block ?_ | refine W_ret ?_ | refine W_exit ?_ | refine W_ops (s1 := ?_) (by simp [-sub, t0, t1, t7, t8, hl, hi, hE, hz, hsub, hw, hc]; exact rfl) ?_ | refine W_tops (s1 := ?_) (by simp [-sub, t0, t1, t7, t8, hl, hi, hE, hz, hsub, hw, hc]; exact rfl) ?_ | refine W_cond_t (by first | (simp [-sub, t0, t1, t7, t8, hl, hi, hE, hz, hsub, hw, hc]; done) | fail) ?_ | refine W_cond_f (by first | (simp [-sub, t0, t1, t7, t8, hl, hi, hE, hz, hsub, hw, hc]; done) | fail) ?_ | fail)
    refine .inl ⟨rfl, by simp [t0], by simp [t1], by simp [t7], by simp, rfl, by rw [hsucc, ha, hpx]; rfl⟩
  ·rintro ⟨t, loc, h'⟩ ⟨t0, t1, t7, t8, rfl, ha⟩
   simp only at t0 t1 t7 t8
   have hall : xs.any p = false := by rw [List.take_length] at ha; exact ha
   repeat' (first | refine W_seq ?_ | refine W_skip ?_ | refine W_block ?_ | refine W_ret ?_ | refine W_exit ?_ | refine W_ops (s1 := ?_) (by simp [t0, t1, t7, t8]; exact rfl) ?_ | refine W_tops (s1 := ?_) (by simp [t0, t1, t7, t8]; exact rfl) ?_ | refine W_cond_t (by first | (simp [t0, t1, t7, t8]; done) | fail) ?_ | refine W_cond_f (by first | (simp [t0, t1, t7, t8]; done) | fail) ?_ | fail)
   refine ⟨by simp, ?_⟩
   repeat' (first | refine W_seq ?_ | refine W_skip ?_ | refine W_block ?_ | refine W_ret ?_ | refine W_exit ?_ | refine W_ops (s1 := ?_) (by simp; exact rfl) ?_ | refine W_tops (s1 := ?_) (by simp; exact rfl) ?_ | refine W_cond_t (by first | (simp; done) | fail) ?_ | refine W_cond_f (by first | (simp; done) | fail) ?_ | fail)
   exact ⟨-1, by simp [hall], rfl, by simp⟩
 obtain ⟨n, h1, h2⟩ := key
 refine ⟨n, ?_, h1⟩
 refine W_call t129 rfl rfl (by simp) ?_
 have hi : (if a129.keepA = true then [.lst tg (xs.map enc), .fn F [] caps] else [.lst tg (xs.map enc), .fn F [] caps].map V.retag) = [.lst .ro (xs.map enc), .fn F [] caps] := by simp [a129, hre]
 rw [hi]
 refine h2.mono ?_
 rintro e s ⟨rfl, h3, rfl⟩
 exact ⟨.inr rfl, [.int .i64 n], by simp [a129, resV, resV1, h3], by simp [a129, packV], rfl, .refl _⟩
theorem Contains_int {α : Type} (enc : α → List V) (xs : List α) (F : FuncId) (caps : List V) (p : α → Bool) (h : LS.Heap) (tg : Tag) (hlen : xs.length < 2 ^ 62) (hsz : ∀ x, (enc x).length = 1) (hre : V.retagLL (xs.map enc) = xs.map enc)
  (hcaps : caps.all V.leaf = true ) (hp : ∀ x ∈ xs, callD T F ((enc x).headD .undef :: caps) h = some (.bool (p x), h)) :
  callD T 82 [.lst tg (xs.map enc), .fn F [] caps] h = some (.bool (xs.any p), h) := by
 obtain ⟨n, h1, h2⟩ := Index_int enc xs F caps p h .ro hlen hsz hre hcaps hp
 refine W_call t82 rfl rfl (by simp) ?_
 show W T c82 _ _
 unfold c82
 repeat' (first | refine W_seq ?_ | refine W_skip ?_ | refine W_block ?_ | refine W_ret ?_ | refine W_exit ?_ | refine W_ops (s1 := ?_) (by simp [a82, hre, h1, h2]; exact rfl) ?_ | refine W_tops (s1 := ?_) (by simp [a82, hre, h1, h2]; exact rfl) ?_ | refine W_cond_t (by first | (simp [a82, hre, h1, h2]; done) | fail) ?_ | refine W_cond_f (by first | (simp [a82, hre, h1, h2]; done) | fail) ?_ | fail)
 exact ⟨.inr rfl, [.bool (xs.any p)], by simp [a82, resV, resV1, h2], by simp [a82, packV], rfl, .refl _⟩
theorem Index_list {α : Type} (enc : α → List V) (xs : List α) (F : FuncId) (caps : List V) (p : α → Bool) (h : LS.Heap) (tg : Tag) (hlen : xs.length < 2 ^ 62) (hsz : ∀ x, (enc x).length = 1) (hre : V.retagLL (xs.map enc) = xs.map enc)
  (hcaps : caps.all V.leaf = true ) (hp : ∀ x ∈ xs, callD T F ((enc x).headD .undef :: caps) h = some (.bool (p x), h)) :
  ∃ n : Int, callD T 178 [.lst tg (xs.map enc), .fn F [] caps] h = some (.int .i64 n, h) ∧ decide (0 ≤ n) = xs.any p := by
 have key : ∃ n : Int, decide (0 ≤ n) = xs.any p ∧ W T c178 ⟨initT [.lst .ro (xs.map enc), .fn F [] caps], fun _ => none, h⟩ (fun e s => e = .ret ∧ s.t 4 = .int .i64 n ∧ s.h = h) := by
  suffices hw : W T c178 ⟨initT [.lst .ro (xs.map enc), .fn F [] caps], fun _ => none, h⟩ (fun e s => ∃ n : Int, decide (0 ≤ n) = xs.any p ∧ e = .ret ∧ s.t 4 = .int .i64 n ∧ s.h = h) by
   obtain ⟨e, s, h1, n, h2, h3⟩ := hw
   exact ⟨n, h2, e, s, h1, h3⟩
  unfold c178
  refine W_seq (W_ops (s1 := ?_) (by simp only [r178_0]; simp; exact rfl) ?_)
  refine W_seq (W_seq (W_ops (s1 := ?_) (by simp only [r178_1]; simp; exact rfl) ?_))
  refine W_block (W_for' l178_0.eq_1 (n := xs.length) (fun i s => s.t 0 = .lst .ro (xs.map enc) ∧ s.t 1 = .fn F [] caps ∧ s.t 7 = .int .i64 xs.length ∧ s.t 8 = .int .i64 i ∧ s.h = h ∧ (xs.take i).any p = false) ⟨by simp, by simp, by simp, by simp, rfl, by simp⟩ ?_ ?_)
  ·rintro i ⟨t, loc, h'⟩ hi ⟨t0, t1, t7, t8, rfl, ha⟩
   simp only at t0 t1 t7 t8
   have hl : ((i : Int) < xs.length) := by omega
   have hg : (xs.map enc)[i]? = some (enc xs[i]) := by simp [hi]
   have hg1 : i < (xs.map enc).length := by simp [hi]
   have hw := i64_succ (show i < 2 ^ 62 by omega)
   have hc := hp xs[i] (List.getElem_mem hi)
   have hz := hsz xs[i]
   have hsub := sub_all hz
   have hsucc := take_any_succ hi p
   obtain ⟨hd, tl, hE⟩ : ∃ hd tl, enc xs[i] = hd :: tl := by cases hcs : enc xs[i] with | nil => rw [hcs] at hz; simp at hz | cons a b => exact ⟨a, b, rfl⟩
   rw [hE] at hc hz hsub hg
   simp only [List.headD_cons] at hc
   by_cases hpx : p xs[i] = true
   ·rw [hpx] at hc
    have hall := any_of_get hi hpx
    have hwit : decide ((0 : Int) ≤ i) = xs.any p := by simp [hall]
    repeat' (first | refine W_seq ?_ | refine W_skip ?_ | refine W_block ?_ | refine W_ret ?_ | refine W_exit ?_ | refine W_ops (s1 := ?_) (by simp [-sub, t0, t1, t7, t8, hl, hi, hE, hz, hsub, hw, hc]; exact rfl) ?_ | refine W_tops (s1 := ?_) (by simp [-sub, t0, t1, t7, t8, hl, hi, hE, hz, hsub, hw, hc]; exact rfl) ?_ | refine W_cond_t (by first | (simp [-sub, t0, t1, t7, t8, hl, hi, hE, hz, hsub, hw, hc]; done) | fail) ?_ | refine W_cond_f (by first | (simp [-sub, t0, t1, t7, t8, hl, hi, hE, hz, hsub, hw, hc]; done) | fail) ?_ | fail)
    refine .inr ⟨by simp, i, hwit, by simp⟩
   ·have hpx : p xs[i] = false := by simpa using hpx
    rw [hpx] at hc
    repeat' (first | refine W_seq ?_ | refine W_skip ?_ | refine W_block ?_ | refine W_ret ?_ | refine W_exit ?_ | refine W_ops (s1 := ?_) (by simp [-sub, t0, t1, t7, t8, hl, hi, hE, hz, hsub, hw, hc]; exact rfl) ?_ | refine W_tops (s1 := ?_) (by simp [-sub, t0, t1, t7, t8, hl, hi, hE, hz, hsub, hw, hc]; exact rfl) ?_ | refine W_cond_t (by first | (simp [-sub, t0, t1, t7, t8, hl, hi, hE, hz, hsub, hw, hc]; done) | fail) ?_ | refine W_cond_f (by first | (simp [-sub, t0, t1, t7, t8, hl, hi, hE, hz, hsub, hw, hc]; done) | fail) ?_ | fail)
    refine .inl ⟨rfl, by simp [t0], by simp [t1], by simp [t7], by simp, rfl, by rw [hsucc, ha, hpx]; rfl⟩
  ·rintro ⟨t, loc, h'⟩ ⟨t0, t1, t7, t8, rfl, ha⟩
   simp only at t0 t1 t7 t8
   have hall : xs.any p = false := by rw [List.take_length] at ha; exact ha
   repeat' (first | refine W_seq ?_ | refine W_skip ?_ | refine W_block ?_ | refine W_ret ?_ | refine W_exit ?_ | refine W_ops (s1 := ?_) (by simp [t0, t1, t7, t8]; exact rfl) ?_ | refine W_tops (s1 := ?_) (by simp [t0, t1, t7, t8]; exact rfl) ?_ | refine W_cond_t (by first | (simp [t0, t1, t7, t8]; done) | fail) ?_ | refine W_cond_f (by first | (simp [t0, t1, t7, t8]; done) | fail) ?_ | fail)
   refine ⟨by simp, ?_⟩
   repeat' (first | refine W_seq ?_ | refine W_skip ?_ | refine W_block ?_ | refine W_ret ?_ | refine W_exit ?_ | refine W_ops (s1 := ?_) (by simp; exact rfl) ?_ | refine W_tops (s1 := ?_) (by simp; exact rfl) ?_ | refine W_cond_t (by first | (simp; done) | fail) ?_ | refine W_cond_f (by first | (simp; done) | fail) ?_ | fail)
   exact ⟨-1, by simp [hall], rfl, by simp⟩
 obtain ⟨n, h1, h2⟩ := key
 refine ⟨n, ?_, h1⟩
 refine W_call t178 rfl rfl (by simp) ?_
 have hi : (if a178.keepA = true then [.lst tg (xs.map enc), .fn F [] caps] else [.lst tg (xs.map enc), .fn F [] caps].map V.retag) = [.lst .ro (xs.map enc), .fn F [] caps] := by simp [a178, hre]
 rw [hi]
 refine h2.mono ?_
 rintro e s ⟨rfl, h3, rfl⟩
 exact ⟨.inr rfl, [.int .i64 n], by simp [a178, resV, resV1, h3], by simp [a178, packV], rfl, .refl _⟩
theorem Contains_list {α : Type} (enc : α → List V) (xs : List α) (F : FuncId) (caps : List V) (p : α → Bool) (h : LS.Heap) (tg : Tag) (hlen : xs.length < 2 ^ 62) (hsz : ∀ x, (enc x).length = 1) (hre : V.retagLL (xs.map enc) = xs.map enc)
  (hcaps : caps.all V.leaf = true ) (hp : ∀ x ∈ xs, callD T F ((enc x).headD .undef :: caps) h = some (.bool (p x), h)) :
  callD T 149 [.lst tg (xs.map enc), .fn F [] caps] h = some (.bool (xs.any p), h) := by
 obtain ⟨n, h1, h2⟩ := Index_list enc xs F caps p h .ro hlen hsz hre hcaps hp
 refine W_call t149 rfl rfl (by simp) ?_
 show W T c149 _ _
 unfold c149
 repeat' (first | refine W_seq ?_ | refine W_skip ?_ | refine W_block ?_ | refine W_ret ?_ | refine W_exit ?_ | refine W_ops (s1 := ?_) (by simp [a149, hre, h1, h2]; exact rfl) ?_ | refine W_tops (s1 := ?_) (by simp [a149, hre, h1, h2]; exact rfl) ?_ | refine W_cond_t (by first | (simp [a149, hre, h1, h2]; done) | fail) ?_ | refine W_cond_f (by first | (simp [a149, hre, h1, h2]; done) | fail) ?_ | fail)
 exact ⟨.inr rfl, [.bool (xs.any p)], by simp [a149, resV, resV1, h2], by simp [a149, packV], rfl, .refl _⟩
theorem Index_block {α : Type} (enc : α → List V) (xs : List α) (F : FuncId) (caps : List V) (p : α → Bool) (h : LS.Heap) (tg : Tag) (hlen : xs.length < 2 ^ 62) (hsz : ∀ x, (enc x).length = 5) (hre : V.retagLL (xs.map enc) = xs.map enc)
  (hcaps : caps.all V.leaf = true ) (hp : ∀ x ∈ xs, callD T F (.agg (enc x) :: caps) h = some (.bool (p x), h)) :
  ∃ n : Int, callD T 182 [.lst tg (xs.map enc), .fn F [] caps] h = some (.int .i64 n, h) ∧ decide (0 ≤ n) = xs.any p := by
 have key : ∃ n : Int, decide (0 ≤ n) = xs.any p ∧ W T c182 ⟨initT [.lst .ro (xs.map enc), .fn F [] caps], fun _ => none, h⟩ (fun e s => e = .ret ∧ s.t 4 = .int .i64 n ∧ s.h = h) := by
  suffices hw : W T c182 ⟨initT [.lst .ro (xs.map enc), .fn F [] caps], fun _ => none, h⟩ (fun e s => ∃ n : Int, decide (0 ≤ n) = xs.any p ∧ e = .ret ∧ s.t 4 = .int .i64 n ∧ s.h = h) by
   obtain ⟨e, s, h1, n, h2, h3⟩ := hw
   exact ⟨n, h2, e, s, h1, h3⟩
  unfold c182
  refine W_seq (W_ops (s1 := ?_) (by simp only [r182_0]; simp; exact rfl) ?_)
  refine W_seq (W_seq (W_ops (s1 := ?_) (by simp only [r182_1]; simp; exact rfl) ?_))
  refine W_block (W_for' l182_0.eq_1 (n := xs.length) (fun i s => s.t 0 = .lst .ro (xs.map enc) ∧ s.t 1 = .fn F [] caps ∧ s.t 7 = .int .i64 xs.length ∧ s.t 8 = .int .i64 i ∧ s.h = h ∧ (xs.take i).any p = false) ⟨by simp, by simp, by simp, by simp, rfl, by simp⟩ ?_ ?_)
  ·rintro i ⟨t, loc, h'⟩ hi ⟨t0, t1, t7, t8, rfl, ha⟩
   simp only at t0 t1 t7 t8
   have hl : ((i : Int) < xs.length) := by omega
   have hg : (xs.map enc)[i]? = some (enc xs[i]) := by simp [hi]
   have hg1 : i < (xs.map enc).length := by simp [hi]
   have hw := i64_succ (show i < 2 ^ 62 by omega)
   have hc := hp xs[i] (List.getElem_mem hi)
   have hz := hsz xs[i]
   have hsub := sub_all hz
   have hsucc := take_any_succ hi p
   obtain ⟨hd, tl, hE⟩ : ∃ hd tl, enc xs[i] = hd :: tl := by cases hcs : enc xs[i] with | nil => rw [hcs] at hz; simp at hz | cons a b => exact ⟨a, b, rfl⟩
   rw [hE] at hc hz hsub hg
   simp only [List.headD_cons] at hc
   by_cases hpx : p xs[i] = true
   ·rw [hpx] at hc
    have hall := any_of_get hi hpx
    have hwit : decide ((0 : Int) ≤ i) = xs.any p := by simp [hall]
    repeat' (first | refine W_seq ?_ | refine W_skip ?_ | refine W_block ?_ | refine W_ret ?_ | refine W_exit ?_ | refine W_ops (s1 := ?_) (by simp [-sub, t0, t1, t7, t8, hl, hi, hE, hz, hsub, hw, hc]; exact rfl) ?_ | refine W_tops (s1 := ?_) (by simp [-sub, t0, t1, t7, t8, hl, hi, hE, hz, hsub, hw, hc]; exact rfl) ?_ | refine W_cond_t (by first | (simp [-sub, t0, t1, t7, t8, hl, hi, hE, hz, hsub, hw, hc]; done) | fail) ?_ | refine W_cond_f (by first | (simp [-sub, t0, t1, t7, t8, hl, hi, hE, hz, hsub, hw, hc]; done) | fail) ?_ | fail)
    refine .inr ⟨by simp, i, hwit, by simp⟩
   ·have hpx : p xs[i] = false := by simpa using hpx
    rw [hpx] at hc
    repeat' (first | refine W_seq ?_ | refine W_skip ?_ | refine W_block ?_ | refine W_ret ?_ | refine W_exit ?_ | refine W_ops (s1 := ?_) (by simp [-sub, t0, t1, t7, t8, hl, hi, hE, hz, hsub, hw, hc]; exact rfl) ?_ | refine W_tops (s1 := ?_) (by simp [-sub, t0, t1, t7, t8, hl, hi, hE, hz, hsub, hw, hc]; exact rfl) ?_ | refine W_cond_t (by first | (simp [-sub, t0, t1, t7, t8, hl, hi, hE, hz, hsub, hw, hc]; done) | fail) ?_ | refine W_cond_f (by first | (simp [-sub, t0, t1, t7, t8, hl, hi, hE, hz, hsub, hw, hc]; done) | fail) ?_ | fail)
    refine .inl ⟨rfl, by simp [t0], by simp [t1], by simp [t7], by simp, rfl, by rw [hsucc, ha, hpx]; rfl⟩
  ·rintro ⟨t, loc, h'⟩ ⟨t0, t1, t7, t8, rfl, ha⟩
   simp only at t0 t1 t7 t8
   have hall : xs.any p = false := by rw [List.take_length] at ha; exact ha
   repeat' (first | refine W_seq ?_ | refine W_skip ?_ | refine W_block ?_ | refine W_ret ?_ | refine W_exit ?_ | refine W_ops (s1 := ?_) (by simp [t0, t1, t7, t8]; exact rfl) ?_ | refine W_tops (s1 := ?_) (by simp [t0, t1, t7, t8]; exact rfl) ?_ | refine W_cond_t (by first | (simp [t0, t1, t7, t8]; done) | fail) ?_ | refine W_cond_f (by first | (simp [t0, t1, t7, t8]; done) | fail) ?_ | fail)
   refine ⟨by simp, ?_⟩
   repeat' (first | refine W_seq ?_ | refine W_skip ?_ | refine W_block ?_ | refine W_ret ?_ | refine W_exit ?_ | refine W_ops (s1 := ?_) (by simp; exact rfl) ?_ | refine W_tops (s1 := ?_) (by simp; exact rfl) ?_ | refine W_cond_t (by first | (simp; done) | fail) ?_ | refine W_cond_f (by first | (simp; done) | fail) ?_ | fail)
   exact ⟨-1, by simp [hall], rfl, by simp⟩
 obtain ⟨n, h1, h2⟩ := key
 refine ⟨n, ?_, h1⟩
 refine W_call t182 rfl rfl (by simp) ?_
 have hi : (if a182.keepA = true then [.lst tg (xs.map enc), .fn F [] caps] else [.lst tg (xs.map enc), .fn F [] caps].map V.retag) = [.lst .ro (xs.map enc), .fn F [] caps] := by simp [a182, hre]
 rw [hi]
 refine h2.mono ?_
 rintro e s ⟨rfl, h3, rfl⟩
 exact ⟨.inr rfl, [.int .i64 n], by simp [a182, resV, resV1, h3], by simp [a182, packV], rfl, .refl _⟩
theorem Contains_block {α : Type} (enc : α → List V) (xs : List α) (F : FuncId) (caps : List V) (p : α → Bool) (h : LS.Heap) (tg : Tag) (hlen : xs.length < 2 ^ 62) (hsz : ∀ x, (enc x).length = 5) (hre : V.retagLL (xs.map enc) = xs.map enc)
  (hcaps : caps.all V.leaf = true ) (hp : ∀ x ∈ xs, callD T F (.agg (enc x) :: caps) h = some (.bool (p x), h)) :
  callD T 158 [.lst tg (xs.map enc), .fn F [] caps] h = some (.bool (xs.any p), h) := by
 obtain ⟨n, h1, h2⟩ := Index_block enc xs F caps p h .ro hlen hsz hre hcaps hp
 refine W_call t158 rfl rfl (by simp) ?_
 show W T c158 _ _
 unfold c158
 repeat' (first | refine W_seq ?_ | refine W_skip ?_ | refine W_block ?_ | refine W_ret ?_ | refine W_exit ?_ | refine W_ops (s1 := ?_) (by simp [a158, hre, h1, h2]; exact rfl) ?_ | refine W_tops (s1 := ?_) (by simp [a158, hre, h1, h2]; exact rfl) ?_ | refine W_cond_t (by first | (simp [a158, hre, h1, h2]; done) | fail) ?_ | refine W_cond_f (by first | (simp [a158, hre, h1, h2]; done) | fail) ?_ | fail)
 exact ⟨.inr rfl, [.bool (xs.any p)], by simp [a158, resV, resV1, h2], by simp [a158, packV], rfl, .refl _⟩
theorem Index_op {α : Type} (enc : α → List V) (xs : List α) (F : FuncId) (caps : List V) (p : α → Bool) (h : LS.Heap) (tg : Tag) (hlen : xs.length < 2 ^ 62) (hsz : ∀ x, (enc x).length = 6) (hre : V.retagLL (xs.map enc) = xs.map enc)
  (hcaps : caps.all V.leaf = true ) (hp : ∀ x ∈ xs, callD T F (.agg (enc x) :: caps) h = some (.bool (p x), h)) :
  ∃ n : Int, callD T 215 [.lst tg (xs.map enc), .fn F [] caps] h = some (.int .i64 n, h) ∧ decide (0 ≤ n) = xs.any p := by
 have key : ∃ n : Int, decide (0 ≤ n) = xs.any p ∧ W T c215 ⟨initT [.lst .ro (xs.map enc), .fn F [] caps], fun _ => none, h⟩ (fun e s => e = .ret ∧ s.t 4 = .int .i64 n ∧ s.h = h) := by
  suffices hw : W T c215 ⟨initT [.lst .ro (xs.map enc), .fn F [] caps], fun _ => none, h⟩ (fun e s => ∃ n : Int, decide (0 ≤ n) = xs.any p ∧ e = .ret ∧ s.t 4 = .int .i64 n ∧ s.h = h) by
   obtain ⟨e, s, h1, n, h2, h3⟩ := hw
   exact ⟨n, h2, e, s, h1, h3⟩
  unfold c215
  refine W_seq (W_ops (s1 := ?_) (by simp only [r215_0]; simp; exact rfl) ?_)
  refine W_seq (W_seq (W_ops (s1 := ?_) (by simp only [r215_1]; simp; exact rfl) ?_))
  refine W_block (W_for' l215_0.eq_1 (n := xs.length) (fun i s => s.t 0 = .lst .ro (xs.map enc) ∧ s.t 1 = .fn F [] caps ∧ s.t 7 = .int .i64 xs.length ∧ s.t 8 = .int .i64 i ∧ s.h = h ∧ (xs.take i).any p = false) ⟨by simp, by simp, by simp, by simp, rfl, by simp⟩ ?_ ?_)
  ·rintro i ⟨t, loc, h'⟩ hi ⟨t0, t1, t7, t8, rfl, ha⟩
   simp only at t0 t1 t7 t8
   have hl : ((i : Int) < xs.length) := by omega
   have hg : (xs.map enc)[i]? = some (enc xs[i]) := by simp [hi]
   have hg1 : i < (xs.map enc).length := by simp [hi]
   have hw := i64_succ (show i < 2 ^ 62 by omega)
   have hc := hp xs[i] (List.getElem_mem hi)
   have hz := hsz xs[i]
   have hsub := sub_all hz
   have hsucc := take_any_succ hi p
   obtain ⟨hd, tl, hE⟩ : ∃ hd tl, enc xs[i] = hd :: tl := by cases hcs : enc xs[i] with | nil => rw [hcs] at hz; simp at hz | cons a b => exact ⟨a, b, rfl⟩
   rw [hE] at hc hz hsub hg
   simp only [List.headD_cons] at hc
   by_cases hpx : p xs[i] = true
   ·rw [hpx] at hc
    have hall := any_of_get hi hpx
    have hwit : decide ((0 : Int) ≤ i) = xs.any p := by simp [hall]
    repeat' (first | refine W_seq ?_ | refine W_skip ?_ | refine W_block ?_ | refine W_ret ?_ | refine W_exit ?_ | refine W_ops (s1 := ?_) (by simp [-sub, t0, t1, t7, t8, hl, hi, hE, hz, hsub, hw, hc]; exact rfl) ?_ | refine W_tops (s1 := ?_) (by simp [-sub, t0, t1, t7, t8, hl, hi, hE, hz, hsub, hw, hc]; exact rfl) ?_ | refine W_cond_t (by first | (simp [-sub, t0, t1, t7, t8, hl, hi, hE, hz, hsub, hw, hc]; done) | fail) ?_ | refine W_cond_f (by first | (simp [-sub, t0, t1, t7, t8, hl, hi, hE, hz, hsub, hw, hc]; done) | fail) ?_ | fail)
    refine .inr ⟨by simp, i, hwit, by simp⟩
   ·have hpx : p xs[i] = false := by simpa using hpx
    rw [hpx] at hc
    repeat' (first | refine W_seq ?_ | refine W_skip ?_ | refine W_block ?_ | refine W_ret ?_ | refine W_exit ?_ | refine W_ops (s1 := ?_) (by simp [-sub, t0, t1, t7, t8, hl, hi, hE, hz, hsub, hw, hc]; exact rfl) ?_ | refine W_tops (s1 := ?_) (by simp [-sub, t0, t1, t7, t8, hl, hi, hE, hz, hsub, hw, hc]; exact rfl) ?_ | refine W_cond_t (by first | (simp [-sub, t0, t1, t7, t8, hl, hi, hE, hz, hsub, hw, hc]; done) | fail) ?_ | refine W_cond_f (by first | (simp [-sub, t0, t1, t7, t8, hl, hi, hE, hz, hsub, hw, hc]; done) | fail) ?_ | fail)
    refine .inl ⟨rfl, by simp [t0], by simp [t1], by simp [t7], by simp, rfl, by rw [hsucc, ha, hpx]; rfl⟩
  ·rintro ⟨t, loc, h'⟩ ⟨t0, t1, t7, t8, rfl, ha⟩
   simp only at t0 t1 t7 t8
   have hall : xs.any p = false := by rw [List.take_length] at ha; exact ha
   repeat' (first | refine W_seq ?_ | refine W_skip ?_ | refine W_block ?_ | refine W_ret ?_ | refine W_exit ?_ | refine W_ops (s1 := ?_) (by simp [t0, t1, t7, t8]; exact rfl) ?_ | refine W_tops (s1 := ?_) (by simp [t0, t1, t7, t8]; exact rfl) ?_ | refine W_cond_t (by first | (simp [t0, t1, t7, t8]; done) | fail) ?_ | refine W_cond_f (by first | (simp [t0, t1, t7, t8]; done) | fail) ?_ | fail)
   refine ⟨by simp, ?_⟩
   repeat' (first | refine W_seq ?_ | refine W_skip ?_ | refine W_block ?_ | refine W_ret ?_ | refine W_exit ?_ | refine W_ops (s1 := ?_) (by simp; exact rfl) ?_ | refine W_tops (s1 := ?_) (by simp; exact rfl) ?_ | refine W_cond_t (by first | (simp; done) | fail) ?_ | refine W_cond_f (by first | (simp; done) | fail) ?_ | fail)
   exact ⟨-1, by simp [hall], rfl, by simp⟩
 obtain ⟨n, h1, h2⟩ := key
 refine ⟨n, ?_, h1⟩
 refine W_call t215 rfl rfl (by simp) ?_
 have hi : (if a215.keepA = true then [.lst tg (xs.map enc), .fn F [] caps] else [.lst tg (xs.map enc), .fn F [] caps].map V.retag) = [.lst .ro (xs.map enc), .fn F [] caps] := by simp [a215, hre]
 rw [hi]
 refine h2.mono ?_
 rintro e s ⟨rfl, h3, rfl⟩
 exact ⟨.inr rfl, [.int .i64 n], by simp [a215, resV, resV1, h3], by simp [a215, packV], rfl, .refl _⟩
theorem Contains_op {α : Type} (enc : α → List V) (xs : List α) (F : FuncId) (caps : List V) (p : α → Bool) (h : LS.Heap) (tg : Tag) (hlen : xs.length < 2 ^ 62) (hsz : ∀ x, (enc x).length = 6) (hre : V.retagLL (xs.map enc) = xs.map enc)
  (hcaps : caps.all V.leaf = true ) (hp : ∀ x ∈ xs, callD T F (.agg (enc x) :: caps) h = some (.bool (p x), h)) :
  callD T 192 [.lst tg (xs.map enc), .fn F [] caps] h = some (.bool (xs.any p), h) := by
 obtain ⟨n, h1, h2⟩ := Index_op enc xs F caps p h .ro hlen hsz hre hcaps hp
 refine W_call t192 rfl rfl (by simp) ?_
 show W T c192 _ _
 unfold c192
 repeat' (first | refine W_seq ?_ | refine W_skip ?_ | refine W_block ?_ | refine W_ret ?_ | refine W_exit ?_ | refine W_ops (s1 := ?_) (by simp [a192, hre, h1, h2]; exact rfl) ?_ | refine W_tops (s1 := ?_) (by simp [a192, hre, h1, h2]; exact rfl) ?_ | refine W_cond_t (by first | (simp [a192, hre, h1, h2]; done) | fail) ?_ | refine W_cond_f (by first | (simp [a192, hre, h1, h2]; done) | fail) ?_ | fail)
 exact ⟨.inr rfl, [.bool (xs.any p)], by simp [a192, resV, resV1, h2], by simp [a192, packV], rfl, .refl _⟩
theorem Index_phi {α : Type} (enc : α → List V) (xs : List α) (F : FuncId) (caps : List V) (p : α → Bool) (h : LS.Heap) (tg : Tag) (hlen : xs.length < 2 ^ 62) (hsz : ∀ x, (enc x).length = 4) (hre : V.retagLL (xs.map enc) = xs.map enc)
  (hcaps : caps.all V.leaf = true ) (hp : ∀ x ∈ xs, callD T F (.agg (enc x) :: caps) h = some (.bool (p x), h)) :
  ∃ n : Int, callD T 214 [.lst tg (xs.map enc), .fn F [] caps] h = some (.int .i64 n, h) ∧ decide (0 ≤ n) = xs.any p := by
 have key : ∃ n : Int, decide (0 ≤ n) = xs.any p ∧ W T c214 ⟨initT [.lst .ro (xs.map enc), .fn F [] caps], fun _ => none, h⟩ (fun e s => e = .ret ∧ s.t 4 = .int .i64 n ∧ s.h = h) := by
  suffices hw : W T c214 ⟨initT [.lst .ro (xs.map enc), .fn F [] caps], fun _ => none, h⟩ (fun e s => ∃ n : Int, decide (0 ≤ n) = xs.any p ∧ e = .ret ∧ s.t 4 = .int .i64 n ∧ s.h = h) by
   obtain ⟨e, s, h1, n, h2, h3⟩ := hw
   exact ⟨n, h2, e, s, h1, h3⟩
  unfold c214
  refine W_seq (W_ops (s1 := ?_) (by simp only [r214_0]; simp; exact rfl) ?_)
  refine W_seq (W_seq (W_ops (s1 := ?_) (by simp only [r214_1]; simp; exact rfl) ?_))
  refine W_block (W_for' l214_0.eq_1 (n := xs.length) (fun i s => s.t 0 = .lst .ro (xs.map enc) ∧ s.t 1 = .fn F [] caps ∧ s.t 7 = .int .i64 xs.length ∧ s.t 8 = .int .i64 i ∧ s.h = h ∧ (xs.take i).any p = false) ⟨by simp, by simp, by simp, by simp, rfl, by simp⟩ ?_ ?_)
  ·rintro i ⟨t, loc, h'⟩ hi ⟨t0, t1, t7, t8, rfl, ha⟩
   simp only at t0 t1 t7 t8
   have hl : ((i : Int) < xs.length) := by omega
   have hg : (xs.map enc)[i]? = some (enc xs[i]) := by simp [hi]
   have hg1 : i < (xs.map enc).length := by simp [hi]
   have hw := i64_succ (show i < 2 ^ 62 by omega)
   have hc := hp xs[i] (List.getElem_mem hi)
   have hz := hsz xs[i]
   have hsub := sub_all hz
   have hsucc := take_any_succ hi p
   obtain ⟨hd, tl, hE⟩ : ∃ hd tl, enc xs[i] = hd :: tl := by cases hcs : enc xs[i] with | nil => rw [hcs] at hz; simp at hz | cons a b => exact ⟨a, b, rfl⟩
   rw [hE] at hc hz hsub hg
   simp only [List.headD_cons] at hc
   by_cases hpx : p xs[i] = true
   ·rw [hpx] at hc
    have hall := any_of_get hi hpx
    have hwit : decide ((0 : Int) ≤ i) = xs.any p := by simp [hall]
    repeat' (first | refine W_seq ?_ | refine W_skip ?_ | refine W_block ?_ | refine W_ret ?_ | refine W_exit ?_ | refine W_ops (s1 := ?_) (by simp [-sub, t0, t1, t7, t8, hl, hi, hE, hz, hsub, hw, hc]; exact rfl) ?_ | refine W_tops (s1 := ?_) (by simp [-sub, t0, t1, t7, t8, hl, hi, hE, hz, hsub, hw, hc]; exact rfl) ?_ | refine W_cond_t (by first | (simp [-sub, t0, t1, t7, t8, hl, hi, hE, hz, hsub, hw, hc]; done) | fail) ?_ | refine W_cond_f (by first | (simp [-sub, t0, t1, t7, t8, hl, hi, hE, hz, hsub, hw, hc]; done) | fail) ?_ | fail)
    refine .inr ⟨by simp, i, hwit, by simp⟩
   ·have hpx : p xs[i] = false := by simpa using hpx
    rw [hpx] at hc
    repeat' (first | refine W_seq ?_ | refine W_skip ?_ | refine W_block ?_ | refine W_ret ?_ | refine W_exit ?_ | refine W_ops (s1 := ?_) (by simp [-sub, t0, t1, t7, t8, hl, hi, hE, hz, hsub, hw, hc]; exact rfl) ?_ | refine W_tops (s1 := ?_) (by simp [-sub, t0, t1, t7, t8, hl, hi, hE, hz, hsub, hw, hc]; exact rfl) ?_ | refine W_cond_t (by first | (simp [-sub, t0, t1, t7, t8, hl, hi, hE, hz, hsub, hw, hc]; done) | fail) ?_ | refine W_cond_f (by first | (simp [-sub, t0, t1, t7, t8, hl, hi, hE, hz, hsub, hw, hc]; done) | fail) ?_ | fail)
    refine .inl ⟨rfl, by simp [t0], by simp [t1], by simp [t7], by simp, rfl, by rw [hsucc, ha, hpx]; rfl⟩
  ·rintro ⟨t, loc, h'⟩ ⟨t0, t1, t7, t8, rfl, ha⟩
   simp only at t0 t1 t7 t8
   have hall : xs.any p = false := by rw [List.take_length] at ha; exact ha
   repeat' (first | refine W_seq ?_ | refine W_skip ?_ | refine W_block ?_ | refine W_ret ?_ | refine W_exit ?_ | refine W_ops (s1 := ?_) (by simp [t0, t1, t7, t8]; exact rfl) ?_ | refine W_tops (s1 := ?_) (by simp [t0, t1, t7, t8]; exact rfl) ?_ | refine W_cond_t (by first | (simp [t0, t1, t7, t8]; done) | fail) ?_ | refine W_cond_f (by first | (simp [t0, t1, t7, t8]; done) | fail) ?_ | fail)
   refine ⟨by simp, ?_⟩
   repeat' (first | refine W_seq ?_ | refine W_skip ?_ | refine W_block ?_ | refine W_ret ?_ | refine W_exit ?_ | refine W_ops (s1 := ?_) (by simp; exact rfl) ?_ | refine W_tops (s1 := ?_) (by simp; exact rfl) ?_ | refine W_cond_t (by first | (simp; done) | fail) ?_ | refine W_cond_f (by first | (simp; done) | fail) ?_ | fail)
   exact ⟨-1, by simp [hall], rfl, by simp⟩
 obtain ⟨n, h1, h2⟩ := key
 refine ⟨n, ?_, h1⟩
 refine W_call t214 rfl rfl (by simp) ?_
 have hi : (if a214.keepA = true then [.lst tg (xs.map enc), .fn F [] caps] else [.lst tg (xs.map enc), .fn F [] caps].map V.retag) = [.lst .ro (xs.map enc), .fn F [] caps] := by simp [a214, hre]
 rw [hi]
 refine h2.mono ?_
 rintro e s ⟨rfl, h3, rfl⟩
 exact ⟨.inr rfl, [.int .i64 n], by simp [a214, resV, resV1, h3], by simp [a214, packV], rfl, .refl _⟩
theorem Contains_phi {α : Type} (enc : α → List V) (xs : List α) (F : FuncId) (caps : List V) (p : α → Bool) (h : LS.Heap) (tg : Tag) (hlen : xs.length < 2 ^ 62) (hsz : ∀ x, (enc x).length = 4) (hre : V.retagLL (xs.map enc) = xs.map enc)
  (hcaps : caps.all V.leaf = true ) (hp : ∀ x ∈ xs, callD T F (.agg (enc x) :: caps) h = some (.bool (p x), h)) :
  callD T 190 [.lst tg (xs.map enc), .fn F [] caps] h = some (.bool (xs.any p), h) := by
 obtain ⟨n, h1, h2⟩ := Index_phi enc xs F caps p h .ro hlen hsz hre hcaps hp
 refine W_call t190 rfl rfl (by simp) ?_
 show W T c190 _ _
 unfold c190
 repeat' (first | refine W_seq ?_ | refine W_skip ?_ | refine W_block ?_ | refine W_ret ?_ | refine W_exit ?_ | refine W_ops (s1 := ?_) (by simp [a190, hre, h1, h2]; exact rfl) ?_ | refine W_tops (s1 := ?_) (by simp [a190, hre, h1, h2]; exact rfl) ?_ | refine W_cond_t (by first | (simp [a190, hre, h1, h2]; done) | fail) ?_ | refine W_cond_f (by first | (simp [a190, hre, h1, h2]; done) | fail) ?_ | fail)
 exact ⟨.inr rfl, [.bool (xs.any p)], by simp [a190, resV, resV1, h2], by simp [a190, packV], rfl, .refl _⟩

end Go.Proofs.YtpbngohpklpalaaGreat

/- Functions as data; which may be told. -/
namespace Go.Proofs.YtpbngohpklpalaaGreat
open Go.LS Go.IntWalk
structure PhiD where
 bits : Int
 dst : Int
 frm : List Int
 args : List Int
structure OpD where
 kind : Int
 bits : Int
 lanes : Int
 dst : Int
 args : List Int
 imm : Int
structure BlockD where
 phis : List PhiD
 ops : List OpD
 ek : Int
 ea : Int
 to : List Int
structure FuncD where
 params : List Int
 ret : Int
 blocks : List BlockD
def intC (n : Int) : List V := [.int .i64 n]
def listC (l : List Int) : List V := [.lst .ro (l.map intC)]
def PhiD.c (p : PhiD) : List V := [.int .i64 p.bits, .int .i64 p.dst, .lst .ro (p.frm.map intC), .lst .ro (p.args.map intC)]
def OpD.c (o : OpD) : List V := [.int .i64 o.kind, .int .i64 o.bits, .int .i64 o.lanes, .int .i64 o.dst, .lst .ro (o.args.map intC), .int .u64 o.imm]
def BlockD.c (b : BlockD) : List V := [.lst .ro (b.phis.map PhiD.c), .lst .ro (b.ops.map OpD.c), .int .i64 b.ek, .int .i64 b.ea, .lst .ro (b.to.map intC)]
def FuncD.c (f : FuncD) : List V := [.lst .ro (f.params.map intC), .int .i64 f.ret, .lst .ro (f.blocks.map BlockD.c)]
theorem retagLL_enc {α : Type} (enc : α → List V) (h : ∀ x, V.retagL (enc x) = enc x) (l : List α) : V.retagLL (l.map enc) = l.map enc := by
 induction l with
 | nil => rfl
 | cons a l ih => simp [V.retagLL, h, ih]
theorem underLL_enc {α : Type} (n : Nat) (enc : α → List V) (h : ∀ x, V.underL n (enc x) = true) (l : List α) : V.underLL n (l.map enc) = true := by
 induction l with
 | nil => rfl
 | cons a l ih => simp [V.underLL, h, ih]
@[simp] theorem retag_int (l : List Int) : V.retagLL (l.map intC) = l.map intC := retagLL_enc _ (fun _ => rfl) _
@[simp] theorem retag_list (l : List (List Int)) : V.retagLL (l.map listC) = l.map listC := retagLL_enc _ (fun _ => by simp [listC, V.retagL, V.retag]) _
@[simp] theorem retag_phi (l : List PhiD) : V.retagLL (l.map PhiD.c) = l.map PhiD.c := retagLL_enc _ (fun _ => by simp [PhiD.c, V.retagL, V.retag]) _
@[simp] theorem retag_op (l : List OpD) : V.retagLL (l.map OpD.c) = l.map OpD.c := retagLL_enc _ (fun _ => by simp [OpD.c, V.retagL, V.retag]) _
@[simp] theorem retag_block (l : List BlockD) : V.retagLL (l.map BlockD.c) = l.map BlockD.c := retagLL_enc _ (fun _ => by simp [BlockD.c, V.retagL, V.retag]) _
@[simp] theorem under_int (n : Nat) (l : List Int) : V.underLL n (l.map intC) = true := underLL_enc _ _ (fun _ => rfl) _
@[simp] theorem under_list (n : Nat) (l : List (List Int)) : V.underLL n (l.map listC) = true := underLL_enc _ _ (fun _ => by simp [listC, V.underL, V.under]) _
@[simp] theorem under_phi (n : Nat) (l : List PhiD) : V.underLL n (l.map PhiD.c) = true := underLL_enc _ _ (fun _ => by simp [PhiD.c, V.underL, V.under]) _
@[simp] theorem under_op (n : Nat) (l : List OpD) : V.underLL n (l.map OpD.c) = true := underLL_enc _ _ (fun _ => by simp [OpD.c, V.underL, V.under]) _
@[simp] theorem under_block (n : Nat) (l : List BlockD) : V.underLL n (l.map BlockD.c) = true := underLL_enc _ _ (fun _ => by simp [BlockD.c, V.underL, V.under]) _
@[simp] theorem retag_opc (o : OpD) : V.retagL o.c = o.c := by simp [OpD.c]
@[simp] theorem retag_phic (o : PhiD) : V.retagL o.c = o.c := by simp [PhiD.c]
@[simp] theorem retag_blockc (o : BlockD) : V.retagL o.c = o.c := by simp [BlockD.c]
@[simp] theorem retag_funcc (o : FuncD) : V.retagL o.c = o.c := by simp [FuncD.c]
def badN (n : Int) : Bool := decide (n < 0) || decide (2147483647 < n)
def badL (l : List Int) : Bool := decide (64 < l.length) || l.any badN
theorem inP_run (n : Int) (h : LS.Heap) : callD T 181 [.int .i64 n] h = some (.bool (badN n), h) := by
 refine W_call t181 rfl rfl (by simp) ?_
 show W T c181 _ _
 unfold c181
 by_cases hn : n < 0
 ·skip
  repeat' (first | refine W_seq ?_ | refine W_skip ?_ | refine W_block ?_ | refine W_ret ?_ | refine W_exit ?_ | refine W_ops (s1 := ?_) (by simp [a181, hn]; exact rfl) ?_ | refine W_tops (s1 := ?_) (by simp [a181, hn]; exact rfl) ?_ | refine W_cond_t (by first | (simp [a181, hn]; done) | fail) ?_ | refine W_cond_f (by first | (simp [a181, hn]; done) | fail) ?_ | fail)
  exact ⟨.inr rfl, [.bool (badN n)], by simp [a181, resV, resV1, badN, hn], by simp [a181, packV], rfl, .refl _⟩
 ·skip
  repeat' (first | refine W_seq ?_ | refine W_skip ?_ | refine W_block ?_ | refine W_ret ?_ | refine W_exit ?_ | refine W_ops (s1 := ?_) (by simp [a181, hn]; exact rfl) ?_ | refine W_tops (s1 := ?_) (by simp [a181, hn]; exact rfl) ?_ | refine W_cond_t (by first | (simp [a181, hn]; done) | fail) ?_ | refine W_cond_f (by first | (simp [a181, hn]; done) | fail) ?_ | fail)
  exact ⟨.inr rfl, [.bool (badN n)], by simp [a181, resV, resV1, badN, hn], by simp [a181, packV], rfl, .refl _⟩
theorem in_run (tg : Tag) (l : List Int) (hl : l.length < 2 ^ 62) (h : LS.Heap) : callD T 157 [.lst tg (l.map intC)] h = some (.bool (!l.any badN), h) := by
 have hC := Contains_int intC l 181 [] badN h .ro hl (fun _ => rfl) (by simp) rfl (fun x _ => inP_run x h)
 refine W_call t157 rfl rfl (by simp) ?_
 show W T c157 _ _
 unfold c157
 repeat' (first | refine W_seq ?_ | refine W_skip ?_ | refine W_block ?_ | refine W_ret ?_ | refine W_exit ?_ | refine W_ops (s1 := ?_) (by simp [a157, hC]; exact rfl) ?_ | refine W_tops (s1 := ?_) (by simp [a157, hC]; exact rfl) ?_ | refine W_cond_t (by first | (simp [a157, hC]; done) | fail) ?_ | refine W_cond_f (by first | (simp [a157, hC]; done) | fail) ?_ | fail)
 exact ⟨.inr rfl, [.bool (!l.any badN)], by simp [a157, resV, resV1], by simp [a157, packV], rfl, .refl _⟩
theorem lists_run (tg : Tag) (ls : List (List Int)) (hl : ls.length < 2 ^ 62) (hll : ∀ l ∈ ls, l.length < 2 ^ 62) (h : LS.Heap) : callD T 183 [.lst tg (ls.map listC)] h = some (.bool (!ls.any badL), h) := by
 refine W_call t183 rfl rfl (by simp) ?_
 show W T c183 _ _
 unfold c183
 refine W_seq (W_ops (s1 := ?_) (by simp only [r183_0]; simp [a183]; exact rfl) ?_)
 refine W_seq (W_seq (W_ops (s1 := ?_) (by simp only [r183_1]; simp; exact rfl) ?_))
 refine W_block (W_for' l183_0.eq_1 (n := ls.length) (fun i s => s.t 5 = .lst .ro (ls.map listC) ∧ s.t 6 = .int .i64 ls.length ∧ s.t 7 = .int .i64 i ∧ s.h = h ∧ (ls.take i).any badL = false) ⟨by simp, by simp, by simp, rfl, by simp⟩ ?_ ?_)
 ·rintro i ⟨t, loc, h'⟩ hi ⟨t5, t6, t7, rfl, ha⟩
  simp only at t5 t6 t7
  have hl1 : ((i : Int) < ls.length) := by omega
  have hw := i64_succ (show i < 2 ^ 62 by omega)
  have hsucc := take_any_succ hi badL
  have hin := in_run .ro ls[i] (hll _ (List.getElem_mem hi)) h'
  have hE : listC ls[i] = [.lst .ro (ls[i].map intC)] := rfl
  by_cases h64 : 64 < ls[i].length
  ·have hb : badL ls[i] = true := by simp [badL, h64]
   have hall := any_of_get hi hb
   have h64' : (64 : Int) < ls[i].length := by omega
   repeat' (first | refine W_seq ?_ | refine W_skip ?_ | refine W_block ?_ | refine W_ret ?_ | refine W_exit ?_ | refine W_ops (s1 := ?_) (by simp [t5, t6, t7, hl1, hi, hE, hw, h64, h64']; exact rfl) ?_ | refine W_tops (s1 := ?_) (by simp [t5, t6, t7, hl1, hi, hE, hw, h64, h64']; exact rfl) ?_ | refine W_cond_t (by first | (simp [t5, t6, t7, hl1, hi, hE, hw, h64, h64']; done) | fail) ?_ | refine W_cond_f (by first | (simp [t5, t6, t7, hl1, hi, hE, hw, h64, h64']; done) | fail) ?_ | fail)
   exact .inr ⟨by simp, .inr rfl, [.bool (!ls.any badL)], by simp [a183, resV, resV1, hall], by simp [a183, packV], rfl, .refl _⟩
  ·have h64' : ¬ (64 : Int) < ls[i].length := by omega
   by_cases hbn : ls[i].any badN = true
   ·have hb : badL ls[i] = true := by simp only [badL, hbn, Bool.or_true]
    have hall := any_of_get hi hb
    rw [hbn] at hin
    repeat' (first | refine W_seq ?_ | refine W_skip ?_ | refine W_block ?_ | refine W_ret ?_ | refine W_exit ?_ | refine W_ops (s1 := ?_) (by simp [t5, t6, t7, hl1, hi, hE, hw, h64, h64', hin]; exact rfl) ?_ | refine W_tops (s1 := ?_) (by simp [t5, t6, t7, hl1, hi, hE, hw, h64, h64', hin]; exact rfl) ?_ | refine W_cond_t (by first | (simp [t5, t6, t7, hl1, hi, hE, hw, h64, h64', hin]; done) | fail) ?_ | refine W_cond_f (by first | (simp [t5, t6, t7, hl1, hi, hE, hw, h64, h64', hin]; done) | fail) ?_ | fail)
    exact .inr ⟨by simp, .inr rfl, [.bool (!ls.any badL)], by simp [a183, resV, resV1, hall], by simp [a183, packV], rfl, .refl _⟩
   ·have hbn : ls[i].any badN = false := by simpa using hbn
    have hb : badL ls[i] = false := by simp only [badL, hbn, h64]; simp
    rw [hbn] at hin
    repeat' (first | refine W_seq ?_ | refine W_skip ?_ | refine W_block ?_ | refine W_ret ?_ | refine W_exit ?_ | refine W_ops (s1 := ?_) (by simp [t5, t6, t7, hl1, hi, hE, hw, h64, h64', hin]; exact rfl) ?_ | refine W_tops (s1 := ?_) (by simp [t5, t6, t7, hl1, hi, hE, hw, h64, h64', hin]; exact rfl) ?_ | refine W_cond_t (by first | (simp [t5, t6, t7, hl1, hi, hE, hw, h64, h64', hin]; done) | fail) ?_ | refine W_cond_f (by first | (simp [t5, t6, t7, hl1, hi, hE, hw, h64, h64', hin]; done) | fail) ?_ | fail)
    exact .inl ⟨rfl, by simp [t5], by simp [t6], by simp, rfl, by rw [hsucc, ha, hb]; rfl⟩
 ·rintro ⟨t, loc, h'⟩ ⟨t5, t6, t7, rfl, ha⟩
  simp only at t5 t6 t7
  have hall : ls.any badL = false := by rw [List.take_length] at ha; exact ha
  repeat' (first | refine W_seq ?_ | refine W_skip ?_ | refine W_block ?_ | refine W_ret ?_ | refine W_exit ?_ | refine W_ops (s1 := ?_) (by simp [t5, t6, t7]; exact rfl) ?_ | refine W_tops (s1 := ?_) (by simp [t5, t6, t7]; exact rfl) ?_ | refine W_cond_t (by first | (simp [t5, t6, t7]; done) | fail) ?_ | refine W_cond_f (by first | (simp [t5, t6, t7]; done) | fail) ?_ | fail)
  refine ⟨by simp, ?_⟩
  repeat' (first | refine W_seq ?_ | refine W_skip ?_ | refine W_block ?_ | refine W_ret ?_ | refine W_exit ?_ | refine W_ops (s1 := ?_) (by simp; exact rfl) ?_ | refine W_tops (s1 := ?_) (by simp; exact rfl) ?_ | refine W_cond_t (by first | (simp; done) | fail) ?_ | refine W_cond_f (by first | (simp; done) | fail) ?_ | fail)
  exact ⟨.inr rfl, [.bool (!ls.any badL)], by simp [a183, resV, resV1, hall], by simp [a183, packV], rfl, .refl _⟩

end Go.Proofs.YtpbngohpklpalaaGreat

/- Which functions may be told. -/
namespace Go.Proofs.YtpbngohpklpalaaGreat
open Go.LS Go.IntWalk
def PhiD.Fit (p : PhiD) : Prop := p.frm.length < 2 ^ 40 ∧ p.args.length < 2 ^ 40
def OpD.Fit (o : OpD) : Prop := o.args.length < 2 ^ 40
def BlockD.Fit (b : BlockD) : Prop := b.phis.length < 2 ^ 40 ∧ b.ops.length < 2 ^ 40 ∧ b.to.length < 2 ^ 40 ∧ (∀ p ∈ b.phis, p.Fit) ∧ ∀ o ∈ b.ops, o.Fit
def FuncD.Fit (f : FuncD) : Prop := f.params.length < 2 ^ 40 ∧ f.blocks.length < 2 ^ 40 ∧ ∀ b ∈ f.blocks, b.Fit
def badPhi (p : PhiD) : Bool := [p.bits, p.dst].any badN || [p.frm, p.args].any badL
def badOp (o : OpD) : Bool := [o.kind, o.bits, o.lanes, o.dst].any badN || [o.args].any badL
def badBlock (b : BlockD) : Bool := b.phis.any badPhi || (b.ops.any badOp || ([b.ek, b.ea].any badN || [b.to].any badL))
theorem in_run' (tg : Tag) (l : List Int) (hl : l.length < 2 ^ 62) (h : LS.Heap) {b : Bool} (hb : l.any badN = b) : callD T 157 [.lst tg (l.map intC)] h = some (.bool (!b), h) := by
 rw [in_run tg l hl h, hb]
theorem lists_run' (tg : Tag) (ls : List (List Int)) (hl : ls.length < 2 ^ 62) (hll : ∀ l ∈ ls, l.length < 2 ^ 62) (h : LS.Heap) {b : Bool} (hb : ls.any badL = b) : callD T 183 [.lst tg (ls.map listC)] h = some (.bool (!b), h) := by
 rw [lists_run tg ls hl hll h, hb]
theorem mayBlock_run (b : BlockD) (hf : b.Fit) (h : LS.Heap) : callD T 160 [.agg b.c] h = some (.bool (!badBlock b), h) := by
 obtain ⟨f1, f2, f3, f4, f5⟩ := hf
 refine W_call t160 rfl rfl (by simp) ?_
 show W T c160 _ _
 unfold c160
 refine W_seq (W_ops (s1 := ?_) (by simp only [r160_0]; simp [a160, BlockD.c, nextVer]; exact rfl) ?_)
 refine W_seq (W_seq (W_ops (s1 := ?_) (by simp only [r160_1]; simp; exact rfl) ?_))
 have fin : ∀ (v : Bool) (s : St), s.t 2 = .bool v → s.h = h → badBlock b = !v → (AExit.ret = AExit.normal ∨ AExit.ret = AExit.ret) ∧ ∃ vs, resV s a160.res = some vs ∧ (if a160.keepR = true then packV vs else (packV vs).retag) = .bool (!badBlock b) ∧ V.under h.next (.bool (!badBlock b)) = true ∧ HExt h s.h := fun v s h2 hh hb =>
  ⟨.inr rfl, [.bool v], by simp [a160, resV, resV1, h2], by simp [a160, packV, hb], rfl, by rw [hh]; exact .refl _⟩
 refine W_block (W_for' l160_0.eq_1 (n := b.phis.length) (fun i s => s.t 1 = .loc 1 0 0 ∧ s.loc 1 = some (0, b.c) ∧ s.t 8 = .lst .ro (b.phis.map PhiD.c) ∧ s.t 9 = .int .i64 b.phis.length ∧ s.t 10 = .int .i64 i ∧ s.h = h ∧ (b.phis.take i).any badPhi = false) ⟨by simp, by simp [BlockD.c], by simp, by simp, by simp, rfl, by simp⟩ ?_ ?_)
 ·rintro i ⟨t, loc, h'⟩ hi ⟨t1, l1, t8, t9, t10, rfl, ha⟩
  simp only at t1 l1 t8 t9 t10
  have hl1 : ((i : Int) < b.phis.length) := by omega
  have hw := i64_succ (show i < 2 ^ 62 by omega)
  have hsucc := take_any_succ hi badPhi
  have hE : PhiD.c b.phis[i] = [.int .i64 b.phis[i].bits, .int .i64 b.phis[i].dst, .lst .ro (b.phis[i].frm.map intC), .lst .ro (b.phis[i].args.map intC)] := rfl
  obtain ⟨g1, g2⟩ := f4 _ (List.getElem_mem hi)
  cases c1 : [b.phis[i].bits, b.phis[i].dst].any badN with
  | true =>
   have e1 := in_run' .exact [b.phis[i].bits, b.phis[i].dst] (by simp) h' c1
   simp only [List.map, intC] at e1
   have hall := any_of_get hi (p := badPhi) (by simp only [badPhi, c1, Bool.true_or])
   repeat' (first | refine W_seq ?_ | refine W_skip ?_ | refine W_block ?_ | refine W_ret ?_ | refine W_exit ?_ | refine W_ops (s1 := ?_) (by simp [t1, l1, t8, t9, t10, hl1, hi, hE, hw, e1]; exact rfl) ?_ | refine W_tops (s1 := ?_) (by simp [t1, l1, t8, t9, t10, hl1, hi, hE, hw, e1]; exact rfl) ?_ | refine W_cond_t (by first | (simp [t1, l1, t8, t9, t10, hl1, hi, hE, hw, e1]; done) | fail) ?_ | refine W_cond_f (by first | (simp [t1, l1, t8, t9, t10, hl1, hi, hE, hw, e1]; done) | fail) ?_ | fail)
   exact .inr ⟨by simp, fin false _ (by simp) rfl (by simp [badBlock, hall])⟩
  | false =>
   have e1 := in_run' .exact [b.phis[i].bits, b.phis[i].dst] (by simp) h' c1
   simp only [List.map, intC] at e1
   cases c2 : [b.phis[i].frm, b.phis[i].args].any badL with
   | true =>
    have e2 := lists_run' .exact [b.phis[i].frm, b.phis[i].args] (by simp) (by simp; omega) h' c2
    simp only [List.map_cons, List.map_nil, listC] at e2
    have hall := any_of_get hi (p := badPhi) (by simp only [badPhi, c1, c2, Bool.or_true])
    repeat' (first | refine W_seq ?_ | refine W_skip ?_ | refine W_block ?_ | refine W_ret ?_ | refine W_exit ?_ | refine W_ops (s1 := ?_) (by simp [t1, l1, t8, t9, t10, hl1, hi, hE, hw, e1, e2]; exact rfl) ?_ | refine W_tops (s1 := ?_) (by simp [t1, l1, t8, t9, t10, hl1, hi, hE, hw, e1, e2]; exact rfl) ?_ | refine W_cond_t (by first | (simp [t1, l1, t8, t9, t10, hl1, hi, hE, hw, e1, e2]; done) | fail) ?_ | refine W_cond_f (by first | (simp [t1, l1, t8, t9, t10, hl1, hi, hE, hw, e1, e2]; done) | fail) ?_ | fail)
    exact .inr ⟨by simp, fin false _ (by simp) rfl (by simp [badBlock, hall])⟩
   | false =>
    have e2 := lists_run' .exact [b.phis[i].frm, b.phis[i].args] (by simp) (by simp; omega) h' c2
    simp only [List.map_cons, List.map_nil, listC] at e2
    have hb : badPhi b.phis[i] = false := by simp only [badPhi, c1, c2, Bool.or_false]
    repeat' (first | refine W_seq ?_ | refine W_skip ?_ | refine W_block ?_ | refine W_ret ?_ | refine W_exit ?_ | refine W_ops (s1 := ?_) (by simp [t1, l1, t8, t9, t10, hl1, hi, hE, hw, e1, e2]; exact rfl) ?_ | refine W_tops (s1 := ?_) (by simp [t1, l1, t8, t9, t10, hl1, hi, hE, hw, e1, e2]; exact rfl) ?_ | refine W_cond_t (by first | (simp [t1, l1, t8, t9, t10, hl1, hi, hE, hw, e1, e2]; done) | fail) ?_ | refine W_cond_f (by first | (simp [t1, l1, t8, t9, t10, hl1, hi, hE, hw, e1, e2]; done) | fail) ?_ | fail)
    exact .inl ⟨rfl, by simp [t1], by simp [l1], by simp [t8], by simp [t9], by simp, rfl, by rw [hsucc, ha, hb]; rfl⟩
 ·rintro ⟨t, loc, h'⟩ ⟨t1, l1, t8, t9, t10, rfl, ha⟩
  simp only at t1 l1 t8 t9 t10
  have hphi : b.phis.any badPhi = false := by rw [List.take_length] at ha; exact ha
  refine W_seq (W_ops (s1 := ?_) (by simp only [r160_2]; simp [t9, t10]; exact rfl) ?_)
  refine W_seq (W_cond_f (by simp) (W_exit ?_))
  refine ⟨by simp, ?_⟩
  have hbc : b.c = [.lst .ro (b.phis.map PhiD.c), .lst .ro (b.ops.map OpD.c), .int .i64 b.ek, .int .i64 b.ea, .lst .ro (b.to.map intC)] := rfl
  rw [hbc] at l1
  refine W_seq (W_seq (W_ops (s1 := ?_) (by simp only [r160_7]; simp [t1, l1]; exact rfl) ?_))
  refine W_block (W_for' l160_1.eq_1 (n := b.ops.length) (fun i s => s.t 1 = .loc 1 0 0 ∧ s.loc 1 = some (0, b.c) ∧ s.t 32 = .lst .ro (b.ops.map OpD.c) ∧ s.t 33 = .int .i64 b.ops.length ∧ s.t 34 = .int .i64 i ∧ s.h = h' ∧ (b.ops.take i).any badOp = false) ⟨by simp [t1], by simp [l1, hbc], by simp, by simp, by simp, rfl, by simp⟩ ?_ ?_)
  ·clear ha t1 l1 t8 t9 t10
   rintro i ⟨t, loc, h'⟩ hi ⟨t1, l1, t8, t9, t10, rfl, ha⟩
   simp only at t1 l1 t8 t9 t10
   have hl1 : ((i : Int) < b.ops.length) := by omega
   have hw := i64_succ (show i < 2 ^ 62 by omega)
   have hsucc := take_any_succ hi badOp
   have hE : OpD.c b.ops[i] = [.int .i64 b.ops[i].kind, .int .i64 b.ops[i].bits, .int .i64 b.ops[i].lanes, .int .i64 b.ops[i].dst, .lst .ro (b.ops[i].args.map intC), .int .u64 b.ops[i].imm] := rfl
   have g1 : b.ops[i].args.length < 2 ^ 40 := f5 _ (List.getElem_mem hi)
   cases c1 : [b.ops[i].kind, b.ops[i].bits, b.ops[i].lanes, b.ops[i].dst].any badN with
   | true =>
    have e1 := in_run' .exact [b.ops[i].kind, b.ops[i].bits, b.ops[i].lanes, b.ops[i].dst] (by simp) h' c1
    simp only [List.map, intC] at e1
    have hall := any_of_get hi (p := badOp) (by simp only [badOp, c1, Bool.true_or])
    repeat' (first | refine W_seq ?_ | refine W_skip ?_ | refine W_block ?_ | refine W_ret ?_ | refine W_exit ?_ | refine W_ops (s1 := ?_) (by simp [t1, l1, t8, t9, t10, hl1, hi, hE, hw, e1]; exact rfl) ?_ | refine W_tops (s1 := ?_) (by simp [t1, l1, t8, t9, t10, hl1, hi, hE, hw, e1]; exact rfl) ?_ | refine W_cond_t (by first | (simp [t1, l1, t8, t9, t10, hl1, hi, hE, hw, e1]; done) | fail) ?_ | refine W_cond_f (by first | (simp [t1, l1, t8, t9, t10, hl1, hi, hE, hw, e1]; done) | fail) ?_ | fail)
    exact .inr ⟨by simp, fin false _ (by simp) rfl (by simp [badBlock, hall])⟩
   | false =>
    have e1 := in_run' .exact [b.ops[i].kind, b.ops[i].bits, b.ops[i].lanes, b.ops[i].dst] (by simp) h' c1
    simp only [List.map, intC] at e1
    cases c2 : [b.ops[i].args].any badL with
    | true =>
     have e2 := lists_run' .exact [b.ops[i].args] (by simp) (by simp; omega) h' c2
     simp only [List.map_cons, List.map_nil, listC] at e2
     have hall := any_of_get hi (p := badOp) (by simp only [badOp, c1, c2, Bool.or_true])
     repeat' (first | refine W_seq ?_ | refine W_skip ?_ | refine W_block ?_ | refine W_ret ?_ | refine W_exit ?_ | refine W_ops (s1 := ?_) (by simp [t1, l1, t8, t9, t10, hl1, hi, hE, hw, e1, e2]; exact rfl) ?_ | refine W_tops (s1 := ?_) (by simp [t1, l1, t8, t9, t10, hl1, hi, hE, hw, e1, e2]; exact rfl) ?_ | refine W_cond_t (by first | (simp [t1, l1, t8, t9, t10, hl1, hi, hE, hw, e1, e2]; done) | fail) ?_ | refine W_cond_f (by first | (simp [t1, l1, t8, t9, t10, hl1, hi, hE, hw, e1, e2]; done) | fail) ?_ | fail)
     exact .inr ⟨by simp, fin false _ (by simp) rfl (by simp [badBlock, hall])⟩
    | false =>
     have e2 := lists_run' .exact [b.ops[i].args] (by simp) (by simp; omega) h' c2
     simp only [List.map_cons, List.map_nil, listC] at e2
     have hb : badOp b.ops[i] = false := by simp only [badOp, c1, c2, Bool.or_false]
     repeat' (first | refine W_seq ?_ | refine W_skip ?_ | refine W_block ?_ | refine W_ret ?_ | refine W_exit ?_ | refine W_ops (s1 := ?_) (by simp [t1, l1, t8, t9, t10, hl1, hi, hE, hw, e1, e2]; exact rfl) ?_ | refine W_tops (s1 := ?_) (by simp [t1, l1, t8, t9, t10, hl1, hi, hE, hw, e1, e2]; exact rfl) ?_ | refine W_cond_t (by first | (simp [t1, l1, t8, t9, t10, hl1, hi, hE, hw, e1, e2]; done) | fail) ?_ | refine W_cond_f (by first | (simp [t1, l1, t8, t9, t10, hl1, hi, hE, hw, e1, e2]; done) | fail) ?_ | fail)
     exact .inl ⟨rfl, by simp [t1], by simp [l1], by simp [t8], by simp [t9], by simp, rfl, by rw [hsucc, ha, hb]; rfl⟩
  ·clear ha t1 l1 t8 t9 t10
   rintro ⟨t, loc, h'⟩ ⟨t1, l1, t8, t9, t10, rfl, ha⟩
   simp only at t1 l1 t8 t9 t10
   have hop : b.ops.any badOp = false := by rw [List.take_length] at ha; exact ha
   refine W_seq (W_ops (s1 := ?_) (by simp only [r160_8]; simp [t9, t10]; exact rfl) ?_)
   refine W_seq (W_cond_f (by simp) (W_exit ?_))
   refine ⟨by simp, ?_⟩
   rw [hbc] at l1
   cases c1 : [b.ek, b.ea].any badN with
   | true =>
    have e1 := in_run' .exact [b.ek, b.ea] (by simp) h' c1
    simp only [List.map, intC] at e1
    repeat' (first | refine W_seq ?_ | refine W_skip ?_ | refine W_block ?_ | refine W_ret ?_ | refine W_exit ?_ | refine W_ops (s1 := ?_) (by simp [t1, l1, e1]; exact rfl) ?_ | refine W_tops (s1 := ?_) (by simp [t1, l1, e1]; exact rfl) ?_ | refine W_cond_t (by first | (simp [t1, l1, e1]; done) | fail) ?_ | refine W_cond_f (by first | (simp [t1, l1, e1]; done) | fail) ?_ | fail)
    exact fin false _ (by simp) rfl (by simp only [badBlock, hphi, hop, c1]; rfl)
   | false =>
    have e1 := in_run' .exact [b.ek, b.ea] (by simp) h' c1
    simp only [List.map, intC] at e1
    cases c2 : [b.to].any badL with
    | true =>
     have e2 := lists_run' .exact [b.to] (by simp) (by simp; omega) h' c2
     simp only [List.map_cons, List.map_nil, listC] at e2
     repeat' (first | refine W_seq ?_ | refine W_skip ?_ | refine W_block ?_ | refine W_ret ?_ | refine W_exit ?_ | refine W_ops (s1 := ?_) (by simp [t1, l1, e1, e2]; exact rfl) ?_ | refine W_tops (s1 := ?_) (by simp [t1, l1, e1, e2]; exact rfl) ?_ | refine W_cond_t (by first | (simp [t1, l1, e1, e2]; done) | fail) ?_ | refine W_cond_f (by first | (simp [t1, l1, e1, e2]; done) | fail) ?_ | fail)
     exact fin false _ (by simp) rfl (by simp only [badBlock, hphi, hop, c1, c2]; rfl)
    | false =>
     have e2 := lists_run' .exact [b.to] (by simp) (by simp; omega) h' c2
     simp only [List.map_cons, List.map_nil, listC] at e2
     repeat' (first | refine W_seq ?_ | refine W_skip ?_ | refine W_block ?_ | refine W_ret ?_ | refine W_exit ?_ | refine W_ops (s1 := ?_) (by simp [t1, l1, e1, e2]; exact rfl) ?_ | refine W_tops (s1 := ?_) (by simp [t1, l1, e1, e2]; exact rfl) ?_ | refine W_cond_t (by first | (simp [t1, l1, e1, e2]; done) | fail) ?_ | refine W_cond_f (by first | (simp [t1, l1, e1, e2]; done) | fail) ?_ | fail)
     exact fin true _ (by simp) rfl (by simp only [badBlock, hphi, hop, c1, c2]; rfl)

end Go.Proofs.YtpbngohpklpalaaGreat

/- Which functions may be told: the size, and all of it. -/
namespace Go.Proofs.YtpbngohpklpalaaGreat
open Go.LS Go.IntWalk
def szB (b : BlockD) : Nat := b.phis.length + b.ops.length
def szS : List BlockD → Nat
 | [] => 0
 | b :: l => szB b + szS l
def FuncD.size (f : FuncD) : Nat := f.blocks.length + szS f.blocks
theorem szS_append : ∀ (a b : List BlockD), szS (a ++ b) = szS a + szS b
 | [], b => by simp [szS]
 | x :: a, b => by simp only [List.cons_append, szS, szS_append a b]; omega
theorem szS_take {l : List BlockD} {i : Nat} (h : i < l.length) : szS (l.take (i + 1)) = szS (l.take i) + szB l[i] := by
 rw [List.take_succ_eq_append_getElem h, szS_append]; simp [szS]
theorem szS_le : ∀ (l : List BlockD), (∀ b ∈ l, b.Fit) → szS l ≤ l.length * 2 ^ 41
 | [], _ => by simp [szS]
 | b :: l, h => by
  have h1 := szS_le l (fun x hx => h x (List.mem_cons_of_mem _ hx))
  obtain ⟨f1, f2, _⟩ := h b (List.mem_cons_self ..)
  simp only [szS, szB, List.length_cons]
  omega
theorem Size_run (f : FuncD) (hf : f.Fit) (h64 : f.blocks.length ≤ 64) (h : LS.Heap) : callD T 156 [.agg f.c] h = some (.int .i64 f.size, h) := by
 obtain ⟨f1, f2, f3⟩ := hf
 have hsz := szS_le f.blocks f3
 refine W_call t156 rfl rfl (by simp) ?_
 show W T c156 _ _
 unfold c156
 have hfc : f.c = [.lst .ro (f.params.map intC), .int .i64 f.ret, .lst .ro (f.blocks.map BlockD.c)] := rfl
 refine W_seq (W_ops (s1 := ?_) (by simp only [r156_0]; simp [a156, hfc, nextVer]; exact rfl) ?_)
 refine W_seq (W_ops (s1 := ?_) (by simp only [r156_1]; simp; exact rfl) ?_)
 refine W_seq (W_seq (W_ops (s1 := ?_) (by simp only [r156_2]; simp; exact rfl) ?_))
 refine W_block (W_for' l156_0.eq_1 (n := f.blocks.length) (fun i s => s.t 10 = .lst .ro (f.blocks.map BlockD.c) ∧ s.t 11 = .int .i64 f.blocks.length ∧ s.t 12 = .int .i64 i ∧ s.h = h ∧ s.t 3 = .int .i64 ((f.blocks.length + szS (f.blocks.take i) : Nat) : Int)) ⟨by simp, by simp, by simp, rfl, by simp [szS]⟩ ?_ ?_)
 ·rintro i ⟨t, loc, h'⟩ hi ⟨t10, t11, t12, rfl, t3⟩
  simp only at t10 t11 t12 t3
  have hl1 : ((i : Int) < f.blocks.length) := by omega
  have hw := i64_succ (show i < 2 ^ 62 by omega)
  have hE : BlockD.c f.blocks[i] = [.lst .ro (f.blocks[i].phis.map PhiD.c), .lst .ro (f.blocks[i].ops.map OpD.c), .int .i64 f.blocks[i].ek, .int .i64 f.blocks[i].ea, .lst .ro (f.blocks[i].to.map intC)] := rfl
  obtain ⟨g1, g2, _⟩ := f3 _ (List.getElem_mem hi)
  have hs := szS_take hi
  have hle := szS_le (f.blocks.take (i + 1)) (fun b hb => f3 b (List.mem_of_mem_take hb))
  have hlen : (f.blocks.take (i + 1)).length ≤ 64 := by simp; omega
  rw [hs] at hle
  have w1 : IntKind.i64.wrap ((f.blocks[i].phis.length : Int) + f.blocks[i].ops.length) = ((szB f.blocks[i] : Nat) : Int) := by rw [i64_in _ (by omega)]; simp [szB]
  have w2 : IntKind.i64.wrap (((f.blocks.length + szS (f.blocks.take i) : Nat) : Int) + ((szB f.blocks[i] : Nat) : Int)) = ((f.blocks.length + szS (f.blocks.take (i + 1)) : Nat) : Int) := by
   rw [hs, i64_in _ (by omega)]; omega
  simp only [Int.natCast_add] at w2 t3
  repeat' (first | refine W_seq ?_ | refine W_skip ?_ | refine W_block ?_ | refine W_ret ?_ | refine W_exit ?_ | refine W_ops (s1 := ?_) (by simp [t10, t11, t12, t3, hl1, hi, hE, hw, w1, w2]; exact rfl) ?_ | refine W_tops (s1 := ?_) (by simp [t10, t11, t12, t3, hl1, hi, hE, hw, w1, w2]; exact rfl) ?_ | refine W_cond_t (by first | (simp [t10, t11, t12, t3, hl1, hi, hE, hw, w1, w2]; done) | fail) ?_ | refine W_cond_f (by first | (simp [t10, t11, t12, t3, hl1, hi, hE, hw, w1, w2]; done) | fail) ?_ | fail)
  exact .inl ⟨rfl, by simp [t10], by simp [t11], by simp, rfl, by simp⟩
 ·rintro ⟨t, loc, h'⟩ ⟨t10, t11, t12, rfl, t3⟩
  simp only at t10 t11 t12 t3
  rw [List.take_length] at t3
  repeat' (first | refine W_seq ?_ | refine W_skip ?_ | refine W_block ?_ | refine W_ret ?_ | refine W_exit ?_ | refine W_ops (s1 := ?_) (by simp [t10, t11, t12]; exact rfl) ?_ | refine W_tops (s1 := ?_) (by simp [t10, t11, t12]; exact rfl) ?_ | refine W_cond_t (by first | (simp [t10, t11, t12]; done) | fail) ?_ | refine W_cond_f (by first | (simp [t10, t11, t12]; done) | fail) ?_ | fail)
  refine ⟨by simp, ?_⟩
  repeat' (first | refine W_seq ?_ | refine W_skip ?_ | refine W_block ?_ | refine W_ret ?_ | refine W_exit ?_ | refine W_ops (s1 := ?_) (by simp [t3]; exact rfl) ?_ | refine W_tops (s1 := ?_) (by simp [t3]; exact rfl) ?_ | refine W_cond_t (by first | (simp [t3]; done) | fail) ?_ | refine W_cond_f (by first | (simp [t3]; done) | fail) ?_ | fail)
  exact ⟨.inr rfl, [.int .i64 f.size], by simp [a156, resV, resV1, FuncD.size], by simp [a156, packV], rfl, .refl _⟩
theorem mayBlockP_run (b : BlockD) (hf : b.Fit) (h : LS.Heap) : callD T 159 [.agg b.c] h = some (.bool (badBlock b), h) := by
 have e := mayBlock_run b hf h
 have hbc : b.c = [.lst .ro (b.phis.map PhiD.c), .lst .ro (b.ops.map OpD.c), .int .i64 b.ek, .int .i64 b.ea, .lst .ro (b.to.map intC)] := rfl
 refine W_call t159 rfl rfl (by simp) ?_
 show W T c159 _ _
 unfold c159
 rw [hbc] at e ⊢
 repeat' (first | refine W_seq ?_ | refine W_skip ?_ | refine W_block ?_ | refine W_ret ?_ | refine W_exit ?_ | refine W_ops (s1 := ?_) (by simp [a159, nextVer, e]; exact rfl) ?_ | refine W_tops (s1 := ?_) (by simp [a159, nextVer, e]; exact rfl) ?_ | refine W_cond_t (by first | (simp [a159, nextVer, e]; done) | fail) ?_ | refine W_cond_f (by first | (simp [a159, nextVer, e]; done) | fail) ?_ | fail)
 exact ⟨.inr rfl, [.bool (badBlock b)], by simp [a159, resV, resV1], by simp [a159, packV], rfl, .refl _⟩
def FuncD.tells (f : FuncD) : Bool := decide (1 ≤ f.blocks.length) && (decide (f.blocks.length ≤ 64) && (decide (f.params.length ≤ 16) && (decide (f.size ≤ 512) && (!badN f.ret && (!f.params.any badN && !f.blocks.any badBlock)))))
theorem codeMay_run (f : FuncD) (hf : f.Fit) (h : LS.Heap) : callD T 102 [.agg f.c] h = some (.bool f.tells, h) := by
 have hfc : f.c = [.lst .ro (f.params.map intC), .int .i64 f.ret, .lst .ro (f.blocks.map BlockD.c)] := rfl
 have hf' := hf
 obtain ⟨f1, f2, f3⟩ := hf
 have fin : ∀ (v : Bool) (s : St), s.t 2 = .bool v → s.h = h → f.tells = v → (AExit.ret = AExit.normal ∨ AExit.ret = AExit.ret) ∧ ∃ vs, resV s a102.res = some vs ∧ (if a102.keepR = true then packV vs else (packV vs).retag) = .bool f.tells ∧ V.under h.next (.bool f.tells) = true ∧ HExt h s.h := fun v s h2 hh hb =>
  ⟨.inr rfl, [.bool v], by simp [a102, resV, resV1, h2], by simp [a102, packV, hb], rfl, by rw [hh]; exact .refl _⟩
 refine W_call t102 rfl rfl (by simp) ?_
 show W T c102 _ _
 unfold c102
 have e3 : ∀ b, f.params.any badN = b → callD T 157 [.lst .ro (f.params.map intC)] h = some (.bool (!b), h) := fun b hb => in_run' .ro f.params (by omega) h hb
 have e2 := in_run' .exact [f.ret] (by simp) h rfl
 simp only [List.map, intC, List.any, Bool.or_false] at e2
 have e4 := Contains_block BlockD.c f.blocks 159 [] badBlock h .ro (by omega) (fun _ => rfl) (by simp) rfl (fun b hb => mayBlockP_run b (f3 b hb) h)
 have e1 : f.blocks.length ≤ 64 → callD T 156 [.agg f.c] h = some (.int .i64 f.size, h) := fun h64 => Size_run f hf' h64 h
 rw [hfc] at e1 ⊢
 by_cases c1 : 1 ≤ f.blocks.length
 case neg =>
  have c1' : (f.blocks.length : Int) < 1 := by omega
  have c1n : f.blocks.length < 1 := by omega
  repeat' (first | refine W_seq ?_ | refine W_skip ?_ | refine W_block ?_ | refine W_ret ?_ | refine W_exit ?_ | refine W_ops (s1 := ?_) (by simp [a102, nextVer, c1', c1n]; exact rfl) ?_ | refine W_tops (s1 := ?_) (by simp [a102, nextVer, c1', c1n]; exact rfl) ?_ | refine W_cond_t (by first | (simp [a102, nextVer, c1', c1n]; done) | fail) ?_ | refine W_cond_f (by first | (simp [a102, nextVer, c1', c1n]; done) | fail) ?_ | fail)
  exact fin false _ (by simp) rfl (by simp [FuncD.tells, c1])
 have c1' : ¬ (f.blocks.length : Int) < 1 := by omega
 have c1n : ¬ f.blocks.length < 1 := by omega
 by_cases c2 : f.blocks.length ≤ 64
 case neg =>
  have c2' : (64 : Int) < f.blocks.length := by omega
  have c2n : 64 < f.blocks.length := by omega
  repeat' (first | refine W_seq ?_ | refine W_skip ?_ | refine W_block ?_ | refine W_ret ?_ | refine W_exit ?_ | refine W_ops (s1 := ?_) (by simp [a102, nextVer, c1', c1n, c2', c2n]; exact rfl) ?_ | refine W_tops (s1 := ?_) (by simp [a102, nextVer, c1', c1n, c2', c2n]; exact rfl) ?_ | refine W_cond_t (by first | (simp [a102, nextVer, c1', c1n, c2', c2n]; done) | fail) ?_ | refine W_cond_f (by first | (simp [a102, nextVer, c1', c1n, c2', c2n]; done) | fail) ?_ | fail)
  exact fin false _ (by simp) rfl (by simp [FuncD.tells, c2])
 have c2' : ¬ (64 : Int) < f.blocks.length := by omega
 have c2n : ¬ 64 < f.blocks.length := by omega
 have e1 := e1 c2
 by_cases c3 : f.params.length ≤ 16
 case neg =>
  have c3' : (16 : Int) < f.params.length := by omega
  have c3n : 16 < f.params.length := by omega
  repeat' (first | refine W_seq ?_ | refine W_skip ?_ | refine W_block ?_ | refine W_ret ?_ | refine W_exit ?_ | refine W_ops (s1 := ?_) (by simp [a102, nextVer, c1', c1n, c2', c2n, c3', c3n]; exact rfl) ?_ | refine W_tops (s1 := ?_) (by simp [a102, nextVer, c1', c1n, c2', c2n, c3', c3n]; exact rfl) ?_ | refine W_cond_t (by first | (simp [a102, nextVer, c1', c1n, c2', c2n, c3', c3n]; done) | fail) ?_ | refine W_cond_f (by first | (simp [a102, nextVer, c1', c1n, c2', c2n, c3', c3n]; done) | fail) ?_ | fail)
  exact fin false _ (by simp) rfl (by simp [FuncD.tells, c3])
 have c3' : ¬ (16 : Int) < f.params.length := by omega
 have c3n : ¬ 16 < f.params.length := by omega
 by_cases c4 : f.size ≤ 512
 case neg =>
  have c4' : (512 : Int) < f.size := by omega
  have c4n : 512 < f.size := by omega
  repeat' (first | refine W_seq ?_ | refine W_skip ?_ | refine W_block ?_ | refine W_ret ?_ | refine W_exit ?_ | refine W_ops (s1 := ?_) (by simp [a102, nextVer, c1', c1n, c2', c2n, c3', c3n, e1, c4', c4n]; exact rfl) ?_ | refine W_tops (s1 := ?_) (by simp [a102, nextVer, c1', c1n, c2', c2n, c3', c3n, e1, c4', c4n]; exact rfl) ?_ | refine W_cond_t (by first | (simp [a102, nextVer, c1', c1n, c2', c2n, c3', c3n, e1, c4', c4n]; done) | fail) ?_ | refine W_cond_f (by first | (simp [a102, nextVer, c1', c1n, c2', c2n, c3', c3n, e1, c4', c4n]; done) | fail) ?_ | fail)
  exact fin false _ (by simp) rfl (by simp [FuncD.tells, c4])
 have c4' : ¬ (512 : Int) < f.size := by omega
 have c4n : ¬ 512 < f.size := by omega
 cases c5 : badN f.ret with
 | true =>
  rw [c5] at e2
  repeat' (first | refine W_seq ?_ | refine W_skip ?_ | refine W_block ?_ | refine W_ret ?_ | refine W_exit ?_ | refine W_ops (s1 := ?_) (by simp [a102, nextVer, c1', c1n, c2', c2n, c3', c3n, e1, c4', c4n, e2]; exact rfl) ?_ | refine W_tops (s1 := ?_) (by simp [a102, nextVer, c1', c1n, c2', c2n, c3', c3n, e1, c4', c4n, e2]; exact rfl) ?_ | refine W_cond_t (by first | (simp [a102, nextVer, c1', c1n, c2', c2n, c3', c3n, e1, c4', c4n, e2]; done) | fail) ?_ | refine W_cond_f (by first | (simp [a102, nextVer, c1', c1n, c2', c2n, c3', c3n, e1, c4', c4n, e2]; done) | fail) ?_ | fail)
  exact fin false _ (by simp) rfl (by simp [FuncD.tells, c5])
 | false =>
  rw [c5] at e2
  cases c6 : f.params.any badN with
  | true =>
   have e3 := e3 _ c6
   repeat' (first | refine W_seq ?_ | refine W_skip ?_ | refine W_block ?_ | refine W_ret ?_ | refine W_exit ?_ | refine W_ops (s1 := ?_) (by simp [a102, nextVer, c1', c1n, c2', c2n, c3', c3n, e1, c4', c4n, e2, e3]; exact rfl) ?_ | refine W_tops (s1 := ?_) (by simp [a102, nextVer, c1', c1n, c2', c2n, c3', c3n, e1, c4', c4n, e2, e3]; exact rfl) ?_ | refine W_cond_t (by first | (simp [a102, nextVer, c1', c1n, c2', c2n, c3', c3n, e1, c4', c4n, e2, e3]; done) | fail) ?_ | refine W_cond_f (by first | (simp [a102, nextVer, c1', c1n, c2', c2n, c3', c3n, e1, c4', c4n, e2, e3]; done) | fail) ?_ | fail)
   exact fin false _ (by simp) rfl (by simp only [FuncD.tells, c6]; simp)
  | false =>
   have e3 := e3 _ c6
   repeat' (first | refine W_seq ?_ | refine W_skip ?_ | refine W_block ?_ | refine W_ret ?_ | refine W_exit ?_ | refine W_ops (s1 := ?_) (by simp [a102, nextVer, c1', c1n, c2', c2n, c3', c3n, e1, c4', c4n, e2, e3, e4]; exact rfl) ?_ | refine W_tops (s1 := ?_) (by simp [a102, nextVer, c1', c1n, c2', c2n, c3', c3n, e1, c4', c4n, e2, e3, e4]; exact rfl) ?_ | refine W_cond_t (by first | (simp [a102, nextVer, c1', c1n, c2', c2n, c3', c3n, e1, c4', c4n, e2, e3, e4]; done) | fail) ?_ | refine W_cond_f (by first | (simp [a102, nextVer, c1', c1n, c2', c2n, c3', c3n, e1, c4', c4n, e2, e3, e4]; done) | fail) ?_ | fail)
   exact fin (!f.blocks.any badBlock) _ (by simp) rfl (by simp only [FuncD.tells, c1, c2, c3, c4, c5, c6]; simp)

end Go.Proofs.YtpbngohpklpalaaGreat

/- Widths, shapes, values; numbers that are cut. -/
namespace Go.Proofs.YtpbngohpklpalaaGreat
open Go.LS Go.IntWalk
def widthB (n : Int) : Bool := decide (n = 1) || (decide (n = 8) || (decide (n = 16) || (decide (n = 32) || decide (n = 64))))
theorem width_cases {n : Int} (h : widthB n = true) : n = 1 ∨ n = 8 ∨ n = 16 ∨ n = 32 ∨ n = 64 := by simpa [widthB] using h
theorem wordMay_run (n : Int) (h : LS.Heap) : callD T 127 [.int .i64 n] h = some (.bool (widthB n), h) := by
 have fin : ∀ (v : Bool) (s : St), s.t 2 = .bool v → s.h = h → widthB n = v → (AExit.ret = AExit.normal ∨ AExit.ret = AExit.ret) ∧ ∃ vs, resV s a127.res = some vs ∧ (if a127.keepR = true then packV vs else (packV vs).retag) = .bool (widthB n) ∧ V.under h.next (.bool (widthB n)) = true ∧ HExt h s.h := fun v s h2 hh hb =>
  ⟨.inr rfl, [.bool v], by simp [a127, resV, resV1, h2], by simp [a127, packV, hb], rfl, by rw [hh]; exact .refl _⟩
 refine W_call t127 rfl rfl (by simp) ?_
 show W T c127 _ _
 unfold c127
 by_cases c1 : n = 1
 ·subst c1
  repeat' (first | refine W_seq ?_ | refine W_skip ?_ | refine W_block ?_ | refine W_ret ?_ | refine W_exit ?_ | refine W_ops (s1 := ?_) (by simp [a127]; exact rfl) ?_ | refine W_tops (s1 := ?_) (by simp [a127]; exact rfl) ?_ | refine W_cond_t (by first | (simp [a127]; done) | fail) ?_ | refine W_cond_f (by first | (simp [a127]; done) | fail) ?_ | fail)
  exact fin true _ (by simp) rfl rfl

 by_cases c8 : n = 8
 ·subst c8
  repeat' (first | refine W_seq ?_ | refine W_skip ?_ | refine W_block ?_ | refine W_ret ?_ | refine W_exit ?_ | refine W_ops (s1 := ?_) (by simp [a127]; exact rfl) ?_ | refine W_tops (s1 := ?_) (by simp [a127]; exact rfl) ?_ | refine W_cond_t (by first | (simp [a127]; done) | fail) ?_ | refine W_cond_f (by first | (simp [a127]; done) | fail) ?_ | fail)
  exact fin true _ (by simp) rfl rfl

 by_cases c16 : n = 16
 ·subst c16
  repeat' (first | refine W_seq ?_ | refine W_skip ?_ | refine W_block ?_ | refine W_ret ?_ | refine W_exit ?_ | refine W_ops (s1 := ?_) (by simp [a127]; exact rfl) ?_ | refine W_tops (s1 := ?_) (by simp [a127]; exact rfl) ?_ | refine W_cond_t (by first | (simp [a127]; done) | fail) ?_ | refine W_cond_f (by first | (simp [a127]; done) | fail) ?_ | fail)
  exact fin true _ (by simp) rfl rfl

 by_cases c32 : n = 32
 ·subst c32
  repeat' (first | refine W_seq ?_ | refine W_skip ?_ | refine W_block ?_ | refine W_ret ?_ | refine W_exit ?_ | refine W_ops (s1 := ?_) (by simp [a127]; exact rfl) ?_ | refine W_tops (s1 := ?_) (by simp [a127]; exact rfl) ?_ | refine W_cond_t (by first | (simp [a127]; done) | fail) ?_ | refine W_cond_f (by first | (simp [a127]; done) | fail) ?_ | fail)
  exact fin true _ (by simp) rfl rfl

 by_cases c64 : n = 64
 ·subst c64
  repeat' (first | refine W_seq ?_ | refine W_skip ?_ | refine W_block ?_ | refine W_ret ?_ | refine W_exit ?_ | refine W_ops (s1 := ?_) (by simp [a127]; exact rfl) ?_ | refine W_tops (s1 := ?_) (by simp [a127]; exact rfl) ?_ | refine W_cond_t (by first | (simp [a127]; done) | fail) ?_ | refine W_cond_f (by first | (simp [a127]; done) | fail) ?_ | fail)
  exact fin true _ (by simp) rfl rfl
 repeat' (first | refine W_seq ?_ | refine W_skip ?_ | refine W_block ?_ | refine W_ret ?_ | refine W_exit ?_ | refine W_ops (s1 := ?_) (by simp [a127, c1, c8, c16, c32, c64]; exact rfl) ?_ | refine W_tops (s1 := ?_) (by simp [a127, c1, c8, c16, c32, c64]; exact rfl) ?_ | refine W_cond_t (by first | (simp [a127, c1, c8, c16, c32, c64]; done) | fail) ?_ | refine W_cond_f (by first | (simp [a127, c1, c8, c16, c32, c64]; done) | fail) ?_ | fail)
 exact fin false _ (by simp) rfl (by simp [widthB, c1, c8, c16, c32, c64])
def shapeB (bits lanes : Int) : Bool := widthB bits && (decide (lanes = 1) || ((decide (lanes = 2) || (decide (lanes = 4) || (decide (lanes = 8) || decide (lanes = 16)))) && (decide (8 ≤ bits) && decide (bits * lanes ≤ 128))))
theorem Shape_run (bits lanes : Int) (h : LS.Heap) : callD T 80 [.int .i64 bits, .int .i64 lanes] h = some (.bool (shapeB bits lanes), h) := by
 have fin : ∀ (v : Bool) (s : St), s.t 4 = .bool v → s.h = h → shapeB bits lanes = v → (AExit.ret = AExit.normal ∨ AExit.ret = AExit.ret) ∧ ∃ vs, resV s a80.res = some vs ∧ (if a80.keepR = true then packV vs else (packV vs).retag) = .bool (shapeB bits lanes) ∧ V.under h.next (.bool (shapeB bits lanes)) = true ∧ HExt h s.h := fun v s h2 hh hb =>
  ⟨.inr rfl, [.bool v], by simp [a80, resV, resV1, h2], by simp [a80, packV, hb], rfl, by rw [hh]; exact .refl _⟩
 have e := wordMay_run bits h
 refine W_call t80 rfl rfl (by simp) ?_
 show W T c80 _ _
 unfold c80
 cases cw : widthB bits with
 | false =>
  rw [cw] at e
  repeat' (first | refine W_seq ?_ | refine W_skip ?_ | refine W_block ?_ | refine W_ret ?_ | refine W_exit ?_ | refine W_ops (s1 := ?_) (by simp [a80, e]; exact rfl) ?_ | refine W_tops (s1 := ?_) (by simp [a80, e]; exact rfl) ?_ | refine W_cond_t (by first | (simp [a80, e]; done) | fail) ?_ | refine W_cond_f (by first | (simp [a80, e]; done) | fail) ?_ | fail)
  exact fin false _ (by simp) rfl (by simp [shapeB, cw])
 | true =>
  rw [cw] at e
  by_cases l1 : lanes = 1
  ·subst l1
   repeat' (first | refine W_seq ?_ | refine W_skip ?_ | refine W_block ?_ | refine W_ret ?_ | refine W_exit ?_ | refine W_ops (s1 := ?_) (by simp [a80, e]; exact rfl) ?_ | refine W_tops (s1 := ?_) (by simp [a80, e]; exact rfl) ?_ | refine W_cond_t (by first | (simp [a80, e]; done) | fail) ?_ | refine W_cond_f (by first | (simp [a80, e]; done) | fail) ?_ | fail)
   exact fin true _ (by simp) rfl (by simp [shapeB, cw])
  have hb := width_cases cw
  by_cases l2 : lanes = 2
  ·subst l2
   have w : IntKind.i64.wrap (bits * 2) = bits * 2 := i64_in _ (by omega)
   by_cases b8 : 8 ≤ bits
   ·skip
    repeat' (first | refine W_seq ?_ | refine W_skip ?_ | refine W_block ?_ | refine W_ret ?_ | refine W_exit ?_ | refine W_ops (s1 := ?_) (by simp [a80, e, b8, w]; exact rfl) ?_ | refine W_tops (s1 := ?_) (by simp [a80, e, b8, w]; exact rfl) ?_ | refine W_cond_t (by first | (simp [a80, e, b8, w]; done) | fail) ?_ | refine W_cond_f (by first | (simp [a80, e, b8, w]; done) | fail) ?_ | fail)
    exact fin (decide (bits * 2 ≤ 128)) _ (by simp) rfl (by simp [shapeB, cw, b8])
   ·skip
    repeat' (first | refine W_seq ?_ | refine W_skip ?_ | refine W_block ?_ | refine W_ret ?_ | refine W_exit ?_ | refine W_ops (s1 := ?_) (by simp [a80, e, b8, w]; exact rfl) ?_ | refine W_tops (s1 := ?_) (by simp [a80, e, b8, w]; exact rfl) ?_ | refine W_cond_t (by first | (simp [a80, e, b8, w]; done) | fail) ?_ | refine W_cond_f (by first | (simp [a80, e, b8, w]; done) | fail) ?_ | fail)
    exact fin false _ (by simp) rfl (by simp [shapeB, cw, b8])

  by_cases l4 : lanes = 4
  ·subst l4
   have w : IntKind.i64.wrap (bits * 4) = bits * 4 := i64_in _ (by omega)
   by_cases b8 : 8 ≤ bits
   ·skip
    repeat' (first | refine W_seq ?_ | refine W_skip ?_ | refine W_block ?_ | refine W_ret ?_ | refine W_exit ?_ | refine W_ops (s1 := ?_) (by simp [a80, e, b8, w]; exact rfl) ?_ | refine W_tops (s1 := ?_) (by simp [a80, e, b8, w]; exact rfl) ?_ | refine W_cond_t (by first | (simp [a80, e, b8, w]; done) | fail) ?_ | refine W_cond_f (by first | (simp [a80, e, b8, w]; done) | fail) ?_ | fail)
    exact fin (decide (bits * 4 ≤ 128)) _ (by simp) rfl (by simp [shapeB, cw, b8])
   ·skip
    repeat' (first | refine W_seq ?_ | refine W_skip ?_ | refine W_block ?_ | refine W_ret ?_ | refine W_exit ?_ | refine W_ops (s1 := ?_) (by simp [a80, e, b8, w]; exact rfl) ?_ | refine W_tops (s1 := ?_) (by simp [a80, e, b8, w]; exact rfl) ?_ | refine W_cond_t (by first | (simp [a80, e, b8, w]; done) | fail) ?_ | refine W_cond_f (by first | (simp [a80, e, b8, w]; done) | fail) ?_ | fail)
    exact fin false _ (by simp) rfl (by simp [shapeB, cw, b8])

  by_cases l8 : lanes = 8
  ·subst l8
   have w : IntKind.i64.wrap (bits * 8) = bits * 8 := i64_in _ (by omega)
   by_cases b8 : 8 ≤ bits
   ·skip
    repeat' (first | refine W_seq ?_ | refine W_skip ?_ | refine W_block ?_ | refine W_ret ?_ | refine W_exit ?_ | refine W_ops (s1 := ?_) (by simp [a80, e, b8, w]; exact rfl) ?_ | refine W_tops (s1 := ?_) (by simp [a80, e, b8, w]; exact rfl) ?_ | refine W_cond_t (by first | (simp [a80, e, b8, w]; done) | fail) ?_ | refine W_cond_f (by first | (simp [a80, e, b8, w]; done) | fail) ?_ | fail)
    exact fin (decide (bits * 8 ≤ 128)) _ (by simp) rfl (by simp [shapeB, cw, b8])
   ·skip
    repeat' (first | refine W_seq ?_ | refine W_skip ?_ | refine W_block ?_ | refine W_ret ?_ | refine W_exit ?_ | refine W_ops (s1 := ?_) (by simp [a80, e, b8, w]; exact rfl) ?_ | refine W_tops (s1 := ?_) (by simp [a80, e, b8, w]; exact rfl) ?_ | refine W_cond_t (by first | (simp [a80, e, b8, w]; done) | fail) ?_ | refine W_cond_f (by first | (simp [a80, e, b8, w]; done) | fail) ?_ | fail)
    exact fin false _ (by simp) rfl (by simp [shapeB, cw, b8])

  by_cases l16 : lanes = 16
  ·subst l16
   have w : IntKind.i64.wrap (bits * 16) = bits * 16 := i64_in _ (by omega)
   by_cases b8 : 8 ≤ bits
   ·skip
    repeat' (first | refine W_seq ?_ | refine W_skip ?_ | refine W_block ?_ | refine W_ret ?_ | refine W_exit ?_ | refine W_ops (s1 := ?_) (by simp [a80, e, b8, w]; exact rfl) ?_ | refine W_tops (s1 := ?_) (by simp [a80, e, b8, w]; exact rfl) ?_ | refine W_cond_t (by first | (simp [a80, e, b8, w]; done) | fail) ?_ | refine W_cond_f (by first | (simp [a80, e, b8, w]; done) | fail) ?_ | fail)
    exact fin (decide (bits * 16 ≤ 128)) _ (by simp) rfl (by simp [shapeB, cw, b8])
   ·skip
    repeat' (first | refine W_seq ?_ | refine W_skip ?_ | refine W_block ?_ | refine W_ret ?_ | refine W_exit ?_ | refine W_ops (s1 := ?_) (by simp [a80, e, b8, w]; exact rfl) ?_ | refine W_tops (s1 := ?_) (by simp [a80, e, b8, w]; exact rfl) ?_ | refine W_cond_t (by first | (simp [a80, e, b8, w]; done) | fail) ?_ | refine W_cond_f (by first | (simp [a80, e, b8, w]; done) | fail) ?_ | fail)
    exact fin false _ (by simp) rfl (by simp [shapeB, cw, b8])
  repeat' (first | refine W_seq ?_ | refine W_skip ?_ | refine W_block ?_ | refine W_ret ?_ | refine W_exit ?_ | refine W_ops (s1 := ?_) (by simp [a80, e, l1, l2, l4, l8, l16]; exact rfl) ?_ | refine W_tops (s1 := ?_) (by simp [a80, e, l1, l2, l4, l8, l16]; exact rfl) ?_ | refine W_cond_t (by first | (simp [a80, e, l1, l2, l4, l8, l16]; done) | fail) ?_ | refine W_cond_f (by first | (simp [a80, e, l1, l2, l4, l8, l16]; done) | fail) ?_ | fail)
  exact fin false _ (by simp) rfl (by simp [shapeB, cw, l1, l2, l4, l8, l16])
def valueB (v : Int) : Bool := decide (1 ≤ v) && decide (v ≤ 1023)
theorem value_run (v : Int) (h : LS.Heap) : callD T 232 [.int .i64 v] h = some (.bool (valueB v), h) := by
 refine W_call t232 rfl rfl (by simp) ?_
 show W T c232 _ _
 unfold c232
 by_cases c : 1 ≤ v
 ·skip
  repeat' (first | refine W_seq ?_ | refine W_skip ?_ | refine W_block ?_ | refine W_ret ?_ | refine W_exit ?_ | refine W_ops (s1 := ?_) (by simp [a232, c]; exact rfl) ?_ | refine W_tops (s1 := ?_) (by simp [a232, c]; exact rfl) ?_ | refine W_cond_t (by first | (simp [a232, c]; done) | fail) ?_ | refine W_cond_f (by first | (simp [a232, c]; done) | fail) ?_ | fail)
  exact ⟨.inr rfl, [.bool (valueB v)], by simp [a232, resV, resV1, valueB, c], by simp [a232, packV], rfl, .refl _⟩
 ·skip
  repeat' (first | refine W_seq ?_ | refine W_skip ?_ | refine W_block ?_ | refine W_ret ?_ | refine W_exit ?_ | refine W_ops (s1 := ?_) (by simp [a232, c]; exact rfl) ?_ | refine W_tops (s1 := ?_) (by simp [a232, c]; exact rfl) ?_ | refine W_cond_t (by first | (simp [a232, c]; done) | fail) ?_ | refine W_cond_f (by first | (simp [a232, c]; done) | fail) ?_ | fail)
  exact ⟨.inr rfl, [.bool (valueB v)], by simp [a232, resV, resV1, valueB, c], by simp [a232, packV], rfl, .refl _⟩
theorem valueP_run (v : Int) (h : LS.Heap) : callD T 233 [.int .i64 v] h = some (.bool (!valueB v), h) := by
 have e := value_run v h
 refine W_call t233 rfl rfl (by simp) ?_
 show W T c233 _ _
 unfold c233
 repeat' (first | refine W_seq ?_ | refine W_skip ?_ | refine W_block ?_ | refine W_ret ?_ | refine W_exit ?_ | refine W_ops (s1 := ?_) (by simp [a233, e]; exact rfl) ?_ | refine W_tops (s1 := ?_) (by simp [a233, e]; exact rfl) ?_ | refine W_cond_t (by first | (simp [a233, e]; done) | fail) ?_ | refine W_cond_f (by first | (simp [a233, e]; done) | fail) ?_ | fail)
 exact ⟨.inr rfl, [.bool (!valueB v)], by simp [a233, resV, resV1], by simp [a233, packV], rfl, .refl _⟩
def storesB (k : Int) : Bool := decide (k = 17) || decide (k = 19)
theorem stores_run (k : Int) (h : LS.Heap) : callD T 217 [.int .i64 k] h = some (.bool (storesB k), h) := by
 refine W_call t217 rfl rfl (by simp) ?_
 show W T c217 _ _
 unfold c217
 by_cases c : k = 17
 ·skip
  repeat' (first | refine W_seq ?_ | refine W_skip ?_ | refine W_block ?_ | refine W_ret ?_ | refine W_exit ?_ | refine W_ops (s1 := ?_) (by simp [a217, c]; exact rfl) ?_ | refine W_tops (s1 := ?_) (by simp [a217, c]; exact rfl) ?_ | refine W_cond_t (by first | (simp [a217, c]; done) | fail) ?_ | refine W_cond_f (by first | (simp [a217, c]; done) | fail) ?_ | fail)
  exact ⟨.inr rfl, [.bool (storesB k)], by simp [a217, resV, resV1, storesB, c], by simp [a217, packV], rfl, .refl _⟩
 ·skip
  repeat' (first | refine W_seq ?_ | refine W_skip ?_ | refine W_block ?_ | refine W_ret ?_ | refine W_exit ?_ | refine W_ops (s1 := ?_) (by simp [a217, c]; exact rfl) ?_ | refine W_tops (s1 := ?_) (by simp [a217, c]; exact rfl) ?_ | refine W_cond_t (by first | (simp [a217, c]; done) | fail) ?_ | refine W_cond_f (by first | (simp [a217, c]; done) | fail) ?_ | fail)
  exact ⟨.inr rfl, [.bool (storesB k)], by simp [a217, resV, resV1, storesB, c], by simp [a217, packV], rfl, .refl _⟩
def cutU (v bits : Int) : Int := if bits = 1 then v % 2 else if bits = 8 then v % 256 else if bits = 16 then v % 65536 else if bits = 32 then v % 4294967296 else if bits = 64 then v else 0
theorem u64_wrap' (n : Int) : IntKind.u64.wrap n = n % 18446744073709551616 := by simp [IntKind.wrap, IntKind.bits, IntKind.signed]
theorem Cut_run (v bits : Int) (hv : 0 ≤ v ∧ v < 18446744073709551616) (h : LS.Heap) : callD T 240 [.int .u64 v, .int .i64 bits] h = some (.int .u64 (cutU v bits), h) := by
 have e := wordMay_run bits h
 refine W_call t240 rfl rfl (by simp) ?_
 show W T c240 _ _
 unfold c240
 by_cases c1 : bits = 1
 ·subst c1
  have w : IntKind.i64.wrap 63 = 63 := i64_in _ (by omega)
  have w2 : widthB 1 = true := rfl
  rw [w2] at e
  repeat' (first | refine W_seq ?_ | refine W_skip ?_ | refine W_block ?_ | refine W_ret ?_ | refine W_exit ?_ | refine W_ops (s1 := ?_) (by simp [a240, e, w, IntKind.bits]; exact rfl) ?_ | refine W_tops (s1 := ?_) (by simp [a240, e, w, IntKind.bits]; exact rfl) ?_ | refine W_cond_t (by first | (simp [a240, e, w, IntKind.bits]; done) | fail) ?_ | refine W_cond_f (by first | (simp [a240, e, w, IntKind.bits]; done) | fail) ?_ | fail)
  refine ⟨.inr rfl, [.int .u64 (cutU v 1)], ?_, by simp [a240, packV], rfl, .refl _⟩
  simp [a240, resV, resV1, cutU, u64_wrap', Int.fdiv_eq_ediv_of_nonneg]
  try omega

 by_cases c8 : bits = 8
 ·subst c8
  have w : IntKind.i64.wrap 56 = 56 := i64_in _ (by omega)
  have w2 : widthB 8 = true := rfl
  rw [w2] at e
  repeat' (first | refine W_seq ?_ | refine W_skip ?_ | refine W_block ?_ | refine W_ret ?_ | refine W_exit ?_ | refine W_ops (s1 := ?_) (by simp [a240, e, w, IntKind.bits]; exact rfl) ?_ | refine W_tops (s1 := ?_) (by simp [a240, e, w, IntKind.bits]; exact rfl) ?_ | refine W_cond_t (by first | (simp [a240, e, w, IntKind.bits]; done) | fail) ?_ | refine W_cond_f (by first | (simp [a240, e, w, IntKind.bits]; done) | fail) ?_ | fail)
  refine ⟨.inr rfl, [.int .u64 (cutU v 8)], ?_, by simp [a240, packV], rfl, .refl _⟩
  simp [a240, resV, resV1, cutU, u64_wrap', Int.fdiv_eq_ediv_of_nonneg]
  try omega

 by_cases c16 : bits = 16
 ·subst c16
  have w : IntKind.i64.wrap 48 = 48 := i64_in _ (by omega)
  have w2 : widthB 16 = true := rfl
  rw [w2] at e
  repeat' (first | refine W_seq ?_ | refine W_skip ?_ | refine W_block ?_ | refine W_ret ?_ | refine W_exit ?_ | refine W_ops (s1 := ?_) (by simp [a240, e, w, IntKind.bits]; exact rfl) ?_ | refine W_tops (s1 := ?_) (by simp [a240, e, w, IntKind.bits]; exact rfl) ?_ | refine W_cond_t (by first | (simp [a240, e, w, IntKind.bits]; done) | fail) ?_ | refine W_cond_f (by first | (simp [a240, e, w, IntKind.bits]; done) | fail) ?_ | fail)
  refine ⟨.inr rfl, [.int .u64 (cutU v 16)], ?_, by simp [a240, packV], rfl, .refl _⟩
  simp [a240, resV, resV1, cutU, u64_wrap', Int.fdiv_eq_ediv_of_nonneg]
  try omega

 by_cases c32 : bits = 32
 ·subst c32
  have w : IntKind.i64.wrap 32 = 32 := i64_in _ (by omega)
  have w2 : widthB 32 = true := rfl
  rw [w2] at e
  repeat' (first | refine W_seq ?_ | refine W_skip ?_ | refine W_block ?_ | refine W_ret ?_ | refine W_exit ?_ | refine W_ops (s1 := ?_) (by simp [a240, e, w, IntKind.bits]; exact rfl) ?_ | refine W_tops (s1 := ?_) (by simp [a240, e, w, IntKind.bits]; exact rfl) ?_ | refine W_cond_t (by first | (simp [a240, e, w, IntKind.bits]; done) | fail) ?_ | refine W_cond_f (by first | (simp [a240, e, w, IntKind.bits]; done) | fail) ?_ | fail)
  refine ⟨.inr rfl, [.int .u64 (cutU v 32)], ?_, by simp [a240, packV], rfl, .refl _⟩
  simp [a240, resV, resV1, cutU, u64_wrap', Int.fdiv_eq_ediv_of_nonneg]
  try omega

 by_cases c64 : bits = 64
 ·subst c64
  have w : IntKind.i64.wrap 0 = 0 := i64_in _ (by omega)
  have w2 : widthB 64 = true := rfl
  rw [w2] at e
  repeat' (first | refine W_seq ?_ | refine W_skip ?_ | refine W_block ?_ | refine W_ret ?_ | refine W_exit ?_ | refine W_ops (s1 := ?_) (by simp [a240, e, w, IntKind.bits]; exact rfl) ?_ | refine W_tops (s1 := ?_) (by simp [a240, e, w, IntKind.bits]; exact rfl) ?_ | refine W_cond_t (by first | (simp [a240, e, w, IntKind.bits]; done) | fail) ?_ | refine W_cond_f (by first | (simp [a240, e, w, IntKind.bits]; done) | fail) ?_ | fail)
  refine ⟨.inr rfl, [.int .u64 (cutU v 64)], ?_, by simp [a240, packV], rfl, .refl _⟩
  simp [a240, resV, resV1, cutU, u64_wrap', Int.fdiv_eq_ediv_of_nonneg]
  try omega
 have w2 : widthB bits = false := by simp [widthB, c1, c8, c16, c32, c64]
 rw [w2] at e
 repeat' (first | refine W_seq ?_ | refine W_skip ?_ | refine W_block ?_ | refine W_ret ?_ | refine W_exit ?_ | refine W_ops (s1 := ?_) (by simp [a240, e]; exact rfl) ?_ | refine W_tops (s1 := ?_) (by simp [a240, e]; exact rfl) ?_ | refine W_cond_t (by first | (simp [a240, e]; done) | fail) ?_ | refine W_cond_f (by first | (simp [a240, e]; done) | fail) ?_ | fail)
 exact ⟨.inr rfl, [.int .u64 (cutU v bits)], by simp [a240, resV, resV1, cutU, c1, c8, c16, c32, c64], by simp [a240, packV], rfl, .refl _⟩

end Go.Proofs.YtpbngohpklpalaaGreat
