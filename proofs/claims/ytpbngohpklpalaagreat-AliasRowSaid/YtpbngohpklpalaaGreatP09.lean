/- A part of the proof: an abstract machine for the program's code and what each of its functions comes to there. No conditions. -/
import Derived.Test.YtpbngohpklpalaaGreatP08

set_option linter.unusedSimpArgs false
set_option linter.unusedVariables false

/- Forms: sums, differences and so many times, as the document mixes them, and their ring laws: plain Lean, no program. -/
namespace Go.Proofs.YtpbngohpklpalaaGreat
open Go.LS Go.IntWalk
theorem u64_wrap (n : Int) : IntKind.u64.wrap n = n % 18446744073709551616 := by simp [IntKind.wrap, IntKind.bits, IntKind.signed]
def Narrow (l : List (Int × Int)) : Prop := ∀ p ∈ l, 0 ≤ p.2 ∧ p.2 < 18446744073709551616
theorem look_narrow : ∀ {l : List (Int × Int)} (j : Nat), Narrow l → 0 ≤ look l j ∧ look l j < 18446744073709551616
 | [], _, _ => by simp [look]
 | (v, s) :: l, j, h => by
  simp only [look]
  split
  ·exact h _ (List.mem_cons_self ..)
  ·exact look_narrow j (fun p hp => h p (List.mem_cons_of_mem _ hp))
theorem inRange_of_rising : ∀ {l : List (Int × Int)} {last : Int}, 0 ≤ last → Rising last l → inRange l
 | [], _, _, _ => fun p hp => by cases hp
 | (v, s) :: l, last, h0, h => fun p hp => by
  rcases List.mem_cons.1 hp with rfl | hp
  ·exact ⟨by have := h.1; simp only; omega, h.2.1⟩
  ·exact inRange_of_rising (by have := h.1; omega) h.2.2.2 p hp
theorem rising_top {l : List (Int × Int)} (h : Rising 0 l) : Rising (((0 : Nat) : Int) - 1) l := h.mono (by omega)
theorem addU_mix {a b : Int} (ha : 0 ≤ a ∧ a < 18446744073709551616) (hb : 0 ≤ b ∧ b < 18446744073709551616) : addU a b = mixU a 1 b 1 := by
 unfold addU mixU addU mulU
 rw [u64_wrap, u64_wrap, u64_wrap, u64_wrap]; omega
theorem subU_mix {a b : Int} (ha : 0 ≤ a ∧ a < 18446744073709551616) (hb : 0 ≤ b ∧ b < 18446744073709551616) : subU a b = mixU a 1 b 18446744073709551615 := by
 unfold subU mixU addU mulU
 rw [u64_wrap, u64_wrap, u64_wrap, u64_wrap]; omega
theorem mulU_mix {a n : Int} : mulU a n = mixU a n 0 0 := by
 unfold mixU addU mulU
 rw [u64_wrap, u64_wrap, u64_wrap]; omega
theorem plus_mix {a b : List (Int × Int)} (ha : Rising 0 a) (hb : Rising 0 b) (na : Narrow a) (nb : Narrow b) : bothL addU a b = mixM a 1 b 1 := by
 rw [bothL_terms rfl 1024 0 rfl a b (rising_top ha) (rising_top hb)]
 unfold mixM
 refine termsFrom_congr _ _ (fun j _ _ => ?_)
 rw [scaleOf_zero ha, scaleOf_zero hb, addU_mix (look_narrow j na) (look_narrow j nb)]
theorem minus_mix {a b : List (Int × Int)} (ha : Rising 0 a) (hb : Rising 0 b) (na : Narrow a) (nb : Narrow b) : bothL subU a b = mixM a 1 b 18446744073709551615 := by
 rw [bothL_terms rfl 1024 0 rfl a b (rising_top ha) (rising_top hb)]
 unfold mixM
 refine termsFrom_congr _ _ (fun j _ _ => ?_)
 rw [scaleOf_zero ha, scaleOf_zero hb, subU_mix (look_narrow j na) (look_narrow j nb)]
theorem times_mix {a : List (Int × Int)} (n : Int) (ha : Rising 0 a) : bothL (fun x _ => mulU x n) a [] = mixM a n [] 0 := by
 rw [bothL_terms (by simp [mulU, u64_wrap]) 1024 0 rfl a [] (rising_top ha) trivial]
 unfold mixM
 refine termsFrom_congr _ _ (fun j _ _ => ?_)
 rw [scaleOf_zero ha, scaleOf_zero (l := []) trivial, mulU_mix]
 rfl

theorem mayL_termsFrom (g : Nat → Int) : ∀ (k v : Nat) (last : Int), v + k = 1024 → (last < v ∨ (g v = 0 ∧ last ≤ v)) → mayL last (termsFrom g v k) = true
 | 0, _, _, _, _ => rfl
 | k + 1, v, last, hv, hl => by
  simp only [termsFrom, keepT]
  split
  ·exact mayL_termsFrom g k (v + 1) last (by omega) (by omega)
  ·rename_i hz
   simp only [mayL]
   rw [if_neg (by omega)]
   exact mayL_termsFrom g k (v + 1) v (by omega) (by omega)
theorem termsFrom_zero : ∀ (k v : Nat), termsFrom (fun _ => 0) v k = []
 | 0, _ => rfl
 | k + 1, v => by simp [termsFrom, keepT, termsFrom_zero k (v + 1)]
theorem look_termsFrom (g : Nat → Int) : ∀ (k v j : Nat), look (termsFrom g v k) j = if v ≤ j ∧ j < v + k then g j else 0
 | 0, v, j => by simp [termsFrom, look]; omega
 | k + 1, v, j => by
  have ih := look_termsFrom g k (v + 1) j
  simp only [termsFrom, keepT]
  split
  ·rename_i hz
   rw [ih]
   by_cases hj : j = v
   ·subst hj; simp [hz]
   ·by_cases h1 : v ≤ j ∧ j < v + (k + 1)
    ·rw [if_pos h1, if_pos (by omega)]
    ·rw [if_neg h1, if_neg (by omega)]
  ·simp only [look]
   by_cases hj : j = v
   ·subst hj; simp
   ·rw [if_neg (by omega), ih]
    by_cases h1 : v ≤ j ∧ j < v + (k + 1)
    ·rw [if_pos h1, if_pos (by omega)]
    ·rw [if_neg h1, if_neg (by omega)]
theorem narrow_termsFrom {g : Nat → Int} (hg : ∀ j, 0 ≤ g j ∧ g j < 18446744073709551616) : ∀ (k v : Nat), Narrow (termsFrom g v k)
 | 0, _ => fun p hp => by cases hp
 | k + 1, v => fun p hp => by
  simp only [termsFrom, keepT] at hp
  split at hp
  ·exact narrow_termsFrom hg k (v + 1) p hp
  ·rcases List.mem_cons.1 hp with rfl | hp
   ·exact hg v
   ·exact narrow_termsFrom hg k (v + 1) p hp
theorem termsFrom_len (g : Nat → Int) : ∀ (k v : Nat), (termsFrom g v k).length ≤ k
 | 0, _ => by simp [termsFrom]
 | k + 1, v => by
  have := termsFrom_len g k (v + 1)
  simp only [termsFrom, keepT]
  split
  ·omega
  ·simp; omega
theorem terms_of_look : ∀ {l : List (Int × Int)}, Rising 0 l → l = termsFrom (look l) 0 1024 := by
 intro l h
 have h1 := bothL_terms (f := fun a _ => a) rfl 1024 0 rfl l [] (rising_top h) trivial
 have h2 : ∀ (l : List (Int × Int)) (last : Int), Rising last l → bothL (fun a _ => a) l [] = l := by
  intro l
  induction l with
  | nil => intro _ _; rw [bothL]
  | cons p l ih =>
   obtain ⟨v, s⟩ := p
   intro last h
   rw [bothL, ih _ h.2.2.2, keepT, if_neg h.2.2.1]
 rw [h2 l 0 h] at h1
 exact h1
theorem same_of_look {a b : List (Int × Int)} (ha : Rising 0 a) (hb : Rising 0 b) (h : ∀ j, j < 1024 → look a j = look b j) : a = b := by
 rw [terms_of_look ha, terms_of_look hb]
 exact termsFrom_congr _ _ (fun j _ hj => h j (by omega))
theorem both_facts {f : Int → Int → Int} (hf : f 0 0 = 0) (hfr : ∀ a b, 0 ≤ f a b ∧ f a b < 18446744073709551616) {a b : List (Int × Int)} (ha : Rising 0 a) (hb : Rising 0 b) :
  mayL 0 (bothL f a b) = true ∧ Narrow (bothL f a b) ∧ (bothL f a b).length ≤ 1024 ∧ ∀ j, j < 1024 → look (bothL f a b) j = f (look a j) (look b j) := by
 have h := bothL_terms hf 1024 0 rfl a b (rising_top ha) (rising_top hb)
 rw [h]
 refine ⟨mayL_termsFrom _ _ _ _ rfl (.inr ⟨?_, by omega⟩), narrow_termsFrom (fun j => hfr _ _) _ _, termsFrom_len _ _ _, fun j hj => ?_⟩
 ·have e1 := look_below (j := 0) ha (by omega)
  have e2 := look_below (j := 0) hb (by omega)
  rw [e1, e2, hf]
 ·rw [look_termsFrom, if_pos (by omega)]
theorem addU_range (a b : Int) : 0 ≤ addU a b ∧ addU a b < 18446744073709551616 := by unfold addU; rw [u64_wrap]; omega
theorem subU_range (a b : Int) : 0 ≤ subU a b ∧ subU a b < 18446744073709551616 := by unfold subU; rw [u64_wrap]; omega
theorem mulU_range (a b : Int) : 0 ≤ mulU a b ∧ mulU a b < 18446744073709551616 := by unfold mulU; rw [u64_wrap]; omega
theorem addU_comm (a b : Int) : addU a b = addU b a := by unfold addU; rw [Int.add_comm]
theorem subU_self (a : Int) : subU a a = 0 := by unfold subU; simp [u64_wrap]
theorem mulU_add (a b n : Int) : mulU (addU a b) n = addU (mulU a n) (mulU b n) := by
 unfold addU mulU
 simp only [u64_wrap]
 rw [← Int.add_emod, ← Int.add_mul, Int.mul_emod, Int.emod_emod, ← Int.mul_emod]
theorem subU_addU {a b : Int} (ha : 0 ≤ a ∧ a < 18446744073709551616) : subU (addU a b) b = a := by
 unfold subU addU; rw [u64_wrap, u64_wrap]; omega
theorem mulU_one {a : Int} (ha : 0 ≤ a ∧ a < 18446744073709551616) : mulU a 1 = a := by unfold mulU; rw [u64_wrap]; omega
theorem mulU_zero (a : Int) : mulU a 0 = 0 := by unfold mulU; rw [u64_wrap]; omega
theorem mayL_rising {l : List (Int × Int)} (h : mayL 0 l = true) : Rising 0 l := rising_of_may h
theorem ring_laws {a b : List (Int × Int)} (ha : mayL 0 a = true) (hb : mayL 0 b = true) (na : Narrow a) (nb : Narrow b) (n : Int) :
  bothL addU a b = bothL addU b a ∧ bothL subU a a = [] ∧ bothL (fun x _ => mulU x n) (bothL addU a b) [] = bothL addU (bothL (fun x _ => mulU x n) a []) (bothL (fun x _ => mulU x n) b []) ∧
  bothL subU (bothL addU a b) b = a ∧ bothL (fun x _ => mulU x 1) a [] = a ∧ bothL (fun x _ => mulU x 0) a [] = [] := by
 have ra := mayL_rising ha
 have rb := mayL_rising hb
 have rn : Rising 0 [] := trivial
 have ln : ∀ j, look [] j = 0 := fun _ => rfl
 obtain ⟨s1, s2, s3, s4⟩ := both_facts (f := addU) rfl addU_range ra rb
 obtain ⟨t1, t2, t3, t4⟩ := both_facts (f := addU) rfl addU_range rb ra
 obtain ⟨m1, m2, m3, m4⟩ := both_facts (f := subU) rfl subU_range ra ra
 obtain ⟨x1, x2, x3, x4⟩ := both_facts (f := fun x _ => mulU x n) (by simp [mulU, u64_wrap]) (fun a _ => mulU_range a n) ra rn
 obtain ⟨y1, y2, y3, y4⟩ := both_facts (f := fun x _ => mulU x n) (by simp [mulU, u64_wrap]) (fun a _ => mulU_range a n) rb rn
 obtain ⟨z1, z2, z3, z4⟩ := both_facts (f := fun x _ => mulU x n) (by simp [mulU, u64_wrap]) (fun a _ => mulU_range a n) (mayL_rising s1) rn
 obtain ⟨w1, w2, w3, w4⟩ := both_facts (f := addU) rfl addU_range (mayL_rising x1) (mayL_rising y1)
 obtain ⟨d1, d2, d3, d4⟩ := both_facts (f := subU) rfl subU_range (mayL_rising s1) rb
 obtain ⟨o1, o2, o3, o4⟩ := both_facts (f := fun x _ => mulU x 1) rfl (fun a _ => mulU_range a 1) ra rn
 obtain ⟨p1, p2, p3, p4⟩ := both_facts (f := fun x _ => mulU x 0) rfl (fun a _ => mulU_range a 0) ra rn
 refine ⟨same_of_look (mayL_rising s1) (mayL_rising t1) fun j hj => ?_, same_of_look (mayL_rising m1) rn fun j hj => ?_, same_of_look (mayL_rising z1) (mayL_rising w1) fun j hj => ?_,
  same_of_look (mayL_rising d1) ra fun j hj => ?_, same_of_look (mayL_rising o1) ra fun j hj => ?_, same_of_look (mayL_rising p1) rn fun j hj => ?_⟩
 ·rw [s4 j hj, t4 j hj, addU_comm]
 ·rw [m4 j hj, subU_self]; rfl
 ·rw [z4 j hj, s4 j hj, w4 j hj, x4 j hj, y4 j hj, mulU_add]
 ·rw [d4 j hj, s4 j hj, subU_addU (look_narrow j na)]
 ·rw [o4 j hj, mulU_one (look_narrow j na)]
 ·rw [p4 j hj, mulU_zero]; rfl

end Go.Proofs.YtpbngohpklpalaaGreat

/- Lists: whether one of them is so. -/
namespace Go.Proofs.YtpbngohpklpalaaGreat
open Go.LS Go.IntWalk
theorem i64_succ {i : Nat} (h : i < 2 ^ 62) : IntKind.i64.wrap ((i : Int) + 1) = ((i + 1 : Nat) : Int) := by rw [i64_in _ (by omega)]; simp
theorem take_any_succ {α : Type} {xs : List α} {i : Nat} (h : i < xs.length) (p : α → Bool) : (xs.take (i + 1)).any p = ((xs.take i).any p || p xs[i]) := by
 rw [List.take_succ_eq_append_getElem h, List.any_append]; simp only [List.any_cons, List.any_nil, Bool.or_false]
theorem sub_all {l : List V} {n : Nat} (h : l.length = n) : sub l 0 n = some l := by
 simp [sub, h, List.take_of_length_le]
theorem any_of_get {α : Type} {xs : List α} {i : Nat} (h : i < xs.length) {p : α → Bool} (hp : p xs[i] = true) : xs.any p = true :=
 List.any_eq_true.2 ⟨xs[i], List.getElem_mem h, hp⟩
theorem Index_int {α : Type} (enc : α → List V) (xs : List α) (F : FuncId) (caps : List V) (p : α → Bool) (h : LS.Heap) (tg : Tag) (hlen : xs.length < 2 ^ 62) (hsz : ∀ x, (enc x).length = 1) (hre : V.retagLL (xs.map enc) = xs.map enc)
  (hcaps : caps.all V.leaf = true ) (hp : ∀ x ∈ xs, callD T F ((enc x).headD .undef :: caps) h = some (.bool (p x), h)) :
  ∃ n : Int, callD T 129 [.lst tg (xs.map enc), .fn F [] caps] h = some (.int .i64 n, h) ∧ decide (0 ≤ n) = xs.any p := by
 have key : ∃ n : Int, decide (0 ≤ n) = xs.any p ∧ W T c129 ⟨initT [.lst .ro (xs.map enc), .fn F [] caps], fun _ => none, h⟩ (fun e s => e = .ret ∧ s.t 4 = .int .i64 n ∧ s.h = h) := by
  suffices hw : W T c129 ⟨initT [.lst .ro (xs.map enc), .fn F [] caps], fun _ => none, h⟩ (fun e s => ∃ n : Int, decide (0 ≤ n) = xs.any p ∧ e = .ret ∧ s.t 4 = .int .i64 n ∧ s.h = h) by
   obtain ⟨e, s, h1, n, h2, h3⟩ := hw
   exact ⟨n, h2, e, s, h1, h3⟩
  unfold c129
  refine W_seq (W_ops (s1 := ?_) (by simp only [r129_0]; simp; exact rfl) ?_)
  refine W_seq (W_seq (W_ops (s1 := ?_) (by simp only [r129_1]; simp; exact rfl) ?_))
  refine W_block (W_for' l129_0.eq_1 (n := xs.length) (fun i s => s.t 0 = .lst .ro (xs.map enc) ∧ s.t 1 = .fn F [] caps ∧ s.t 7 = .int .i64 xs.length ∧ s.t 8 = .int .i64 i ∧ s.h = h ∧ (xs.take i).any p = false) ⟨by simp, by simp, by simp, by simp, rfl, by simp⟩ ?_ ?_)
  ·rintro i ⟨t, loc, h'⟩ hi ⟨t0, t1, t7, t8, rfl, ha⟩
   simp only at t0 t1 t7 t8
   have hl : ((i : Int) < xs.length) := by omega
   have hg : (xs.map enc)[i]? = some (enc xs[i]) := by simp [hi]
   have hg1 : i < (xs.map enc).length := by simp [hi]
   have hw := i64_succ (show i < 2 ^ 62 by omega)
   have hc := hp xs[i] (List.getElem_mem hi)
   have hz := hsz xs[i]
   have hsub := sub_all hz
   have hsucc := take_any_succ hi p
   obtain ⟨hd, tl, hE⟩ : ∃ hd tl, enc xs[i] = hd :: tl := by cases hcs : enc xs[i] with | nil => rw [hcs] at hz; simp at hz | cons a b => exact ⟨a, b, rfl⟩
   rw [hE] at hc hz hsub hg
   simp only [List.headD_cons] at hc
   by_cases hpx : p xs[i] = true
   ·rw [hpx] at hc
    have hall := any_of_get hi hpx
    have hwit : decide ((0 : Int) ≤ i) = xs.any p := by simp [hall]
    repeat' (first | refine W_seq ?_ | refine W_skip ?_ | refine W_block ?_ | refine W_ret ?_ | refine W_exit ?_ | refine W_ops (s1 := ?_) (by simp [-sub, t0, t1, t7, t8, hl, hi, hE, hz, hsub, hw, hc]; exact rfl) ?_ | refine W_tops (s1 := ?_) (by simp [-sub, t0, t1, t7, t8, hl, hi, hE, hz, hsub, hw, hc]; exact rfl) ?_ | refine W_cond_t (by first | (simp [-sub, t0, t1, t7, t8, hl, hi, hE, hz, hsub, hw, hc]; done) | fail) ?_ | refine W_cond_f (by first | (simp [-sub, t0, t1, t7, t8, hl, hi, hE, hz, hsub, hw, hc]; done) | fail) ?_ | fail)
    refine .inr ⟨by simp, i, hwit, by simp⟩
   ·have hpx : p xs[i] = false := by simpa using hpx
    rw [hpx] at hc
    repeat' (first | refine W_seq ?_ | refine W_skip ?_ | refine W_block ?_ | refine W_ret ?_ | refine W_exit ?_ | refine W_ops (s1 := ?_) (by simp [-sub, t0, t1, t7, t8, hl, hi, hE, hz, hsub, hw, hc]; exact rfl) ?_ | refine W_tops (s1 := ?_) (by simp [-sub, t0, t1, t7, t8, hl, hi, hE, hz, hsub, hw, hc]; exact rfl) ?_ | refine W_cond_t (by first | (simp [-sub, t0, t1, t7, t8, hl, hi, hE, hz, hsub, hw, hc]; done) | fail) ?_ | refine W_cond_f (by first | (simp [-sub, t0, t1, t7, t8, hl, hi, hE, hz, hsub, hw, hc]; done) | fail) ?_ | fail)
    refine .inl ⟨rfl, by simp [t0], by simp [t1], by simp [t7], by simp, rfl, by rw [hsucc, ha, hpx]; rfl⟩
  ·rintro ⟨t, loc, h'⟩ ⟨t0, t1, t7, t8, rfl, ha⟩
   simp only at t0 t1 t7 t8
   have hall : xs.any p = false := by rw [List.take_length] at ha; exact ha
   repeat' (first | refine W_seq ?_ | refine W_skip ?_ | refine W_block ?_ | refine W_ret ?_ | refine W_exit ?_ | refine W_ops (s1 := ?_) (by simp [t0, t1, t7, t8]; exact rfl) ?_ | refine W_tops (s1 := ?_) (by simp [t0, t1, t7, t8]; exact rfl) ?_ | refine W_cond_t (by first | (simp [t0, t1, t7, t8]; done) | fail) ?_ | refine W_cond_f (by first | (simp [t0, t1, t7, t8]; done) | fail) ?_ | fail)
   refine ⟨by simp, ?_⟩
   repeat' (first | refine W_seq ?_ | refine W_skip ?_ | refine W_block ?_ | refine W_ret ?_ | refine W_exit ?_ | refine W_ops (s1 := ?_) (by simp; exact rfl) ?_ | refine W_tops (s1 := ?_) (by simp; exact rfl) ?_ | refine W_cond_t (by first | (simp; done) | fail) ?_ | refine W_cond_f (by first | (simp; done) | fail) ?_ | fail)
   exact ⟨-1, by simp [hall], rfl, by simp⟩
 obtain ⟨n, h1, h2⟩ := key
 refine ⟨n, ?_, h1⟩
 refine W_call t129 rfl rfl (by simp) ?_
 have hi : (if a129.keepA = true then [.lst tg (xs.map enc), .fn F [] caps] else [.lst tg (xs.map enc), .fn F [] caps].map V.retag) = [.lst .ro (xs.map enc), .fn F [] caps] := by simp [a129, hre]
 rw [hi]
 refine h2.mono ?_
 rintro e s ⟨rfl, h3, rfl⟩
 exact ⟨.inr rfl, [.int .i64 n], by simp [a129, resV, resV1, h3], by simp [a129, packV], rfl, .refl _⟩
theorem Contains_int {α : Type} (enc : α → List V) (xs : List α) (F : FuncId) (caps : List V) (p : α → Bool) (h : LS.Heap) (tg : Tag) (hlen : xs.length < 2 ^ 62) (hsz : ∀ x, (enc x).length = 1) (hre : V.retagLL (xs.map enc) = xs.map enc)
  (hcaps : caps.all V.leaf = true ) (hp : ∀ x ∈ xs, callD T F ((enc x).headD .undef :: caps) h = some (.bool (p x), h)) :
  callD T 82 [.lst tg (xs.map enc), .fn F [] caps] h = some (.bool (xs.any p), h) := by
 obtain ⟨n, h1, h2⟩ := Index_int enc xs F caps p h .ro hlen hsz hre hcaps hp
 refine W_call t82 rfl rfl (by simp) ?_
 show W T c82 _ _
 unfold c82
 repeat' (first | refine W_seq ?_ | refine W_skip ?_ | refine W_block ?_ | refine W_ret ?_ | refine W_exit ?_ | refine W_ops (s1 := ?_) (by simp [a82, hre, h1, h2]; exact rfl) ?_ | refine W_tops (s1 := ?_) (by simp [a82, hre, h1, h2]; exact rfl) ?_ | refine W_cond_t (by first | (simp [a82, hre, h1, h2]; done) | fail) ?_ | refine W_cond_f (by first | (simp [a82, hre, h1, h2]; done) | fail) ?_ | fail)
 exact ⟨.inr rfl, [.bool (xs.any p)], by simp [a82, resV, resV1, h2], by simp [a82, packV], rfl, .refl _⟩
theorem Index_list {α : Type} (enc : α → List V) (xs : List α) (F : FuncId) (caps : List V) (p : α → Bool) (h : LS.Heap) (tg : Tag) (hlen : xs.length < 2 ^ 62) (hsz : ∀ x, (enc x).length = 1) (hre : V.retagLL (xs.map enc) = xs.map enc)
  (hcaps : caps.all V.leaf = true ) (hp : ∀ x ∈ xs, callD T F ((enc x).headD .undef :: caps) h = some (.bool (p x), h)) :
  ∃ n : Int, callD T 178 [.lst tg (xs.map enc), .fn F [] caps] h = some (.int .i64 n, h) ∧ decide (0 ≤ n) = xs.any p := by
 have key : ∃ n : Int, decide (0 ≤ n) = xs.any p ∧ W T c178 ⟨initT [.lst .ro (xs.map enc), .fn F [] caps], fun _ => none, h⟩ (fun e s => e = .ret ∧ s.t 4 = .int .i64 n ∧ s.h = h) := by
  suffices hw : W T c178 ⟨initT [.lst .ro (xs.map enc), .fn F [] caps], fun _ => none, h⟩ (fun e s => ∃ n : Int, decide (0 ≤ n) = xs.any p ∧ e = .ret ∧ s.t 4 = .int .i64 n ∧ s.h = h) by
   obtain ⟨e, s, h1, n, h2, h3⟩ := hw
   exact ⟨n, h2, e, s, h1, h3⟩
  unfold c178
  refine W_seq (W_ops (s1 := ?_) (by simp only [r178_0]; simp; exact rfl) ?_)
  refine W_seq (W_seq (W_ops (s1 := ?_) (by simp only [r178_1]; simp; exact rfl) ?_))
  refine W_block (W_for' l178_0.eq_1 (n := xs.length) (fun i s => s.t 0 = .lst .ro (xs.map enc) ∧ s.t 1 = .fn F [] caps ∧ s.t 7 = .int .i64 xs.length ∧ s.t 8 = .int .i64 i ∧ s.h = h ∧ (xs.take i).any p = false) ⟨by simp, by simp, by simp, by simp, rfl, by simp⟩ ?_ ?_)
  ·rintro i ⟨t, loc, h'⟩ hi ⟨t0, t1, t7, t8, rfl, ha⟩
   simp only at t0 t1 t7 t8
   have hl : ((i : Int) < xs.length) := by omega
   have hg : (xs.map enc)[i]? = some (enc xs[i]) := by simp [hi]
   have hg1 : i < (xs.map enc).length := by simp [hi]
   have hw := i64_succ (show i < 2 ^ 62 by omega)
   have hc := hp xs[i] (List.getElem_mem hi)
   have hz := hsz xs[i]
   have hsub := sub_all hz
   have hsucc := take_any_succ hi p
   obtain ⟨hd, tl, hE⟩ : ∃ hd tl, enc xs[i] = hd :: tl := by cases hcs : enc xs[i] with | nil => rw [hcs] at hz; simp at hz | cons a b => exact ⟨a, b, rfl⟩
   rw [hE] at hc hz hsub hg
   simp only [List.headD_cons] at hc
   by_cases hpx : p xs[i] = true
   ·rw [hpx] at hc
    have hall := any_of_get hi hpx
    have hwit : decide ((0 : Int) ≤ i) = xs.any p := by simp [hall]
    repeat' (first | refine W_seq ?_ | refine W_skip ?_ | refine W_block ?_ | refine W_ret ?_ | refine W_exit ?_ | refine W_ops (s1 := ?_) (by simp [-sub, t0, t1, t7, t8, hl, hi, hE, hz, hsub, hw, hc]; exact rfl) ?_ | refine W_tops (s1 := ?_) (by simp [-sub, t0, t1, t7, t8, hl, hi, hE, hz, hsub, hw, hc]; exact rfl) ?_ | refine W_cond_t (by first | (simp [-sub, t0, t1, t7, t8, hl, hi, hE, hz, hsub, hw, hc]; done) | fail) ?_ | refine W_cond_f (by first | (simp [-sub, t0, t1, t7, t8, hl, hi, hE, hz, hsub, hw, hc]; done) | fail) ?_ | fail)
    refine .inr ⟨by simp, i, hwit, by simp⟩
   ·have hpx : p xs[i] = false := by simpa using hpx
    rw [hpx] at hc
    repeat' (first | refine W_seq ?_ | refine W_skip ?_ | refine W_block ?_ | refine W_ret ?_ | refine W_exit ?_ | refine W_ops (s1 := ?_) (by simp [-sub, t0, t1, t7, t8, hl, hi, hE, hz, hsub, hw, hc]; exact rfl) ?_ | refine W_tops (s1 := ?_) (by simp [-sub, t0, t1, t7, t8, hl, hi, hE, hz, hsub, hw, hc]; exact rfl) ?_ | refine W_cond_t (by first | (simp [-sub, t0, t1, t7, t8, hl, hi, hE, hz, hsub, hw, hc]; done) | fail) ?_ | refine W_cond_f (by first | (simp [-sub, t0, t1, t7, t8, hl, hi, hE, hz, hsub, hw, hc]; done) | fail) ?_ | fail)
    refine .inl ⟨rfl, by simp [t0], by simp [t1], by simp [t7], by simp, rfl, by rw [hsucc, ha, hpx]; rfl⟩
  ·rintro ⟨t, loc, h'⟩ ⟨t0, t1, t7, t8, rfl, ha⟩
   simp only at t0 t1 t7 t8
   have hall : xs.any p = false := by rw [List.take_length] at ha; exact ha
   repeat' (first | refine W_seq ?_ | refine W_skip ?_ | refine W_block ?_ | refine W_ret ?_ | refine W_exit ?_ | refine W_ops (s1 := ?_) (by simp [t0, t1, t7, t8]; exact rfl) ?_ | refine W_tops (s1 := ?_) (by simp [t0, t1, t7, t8]; exact rfl) ?_ | refine W_cond_t (by first | (simp [t0, t1, t7, t8]; done) | fail) ?_ | refine W_cond_f (by first | (simp [t0, t1, t7, t8]; done) | fail) ?_ | fail)
   refine ⟨by simp, ?_⟩
   repeat' (first | refine W_seq ?_ | refine W_skip ?_ | refine W_block ?_ | refine W_ret ?_ | refine W_exit ?_ | refine W_ops (s1 := ?_) (by simp; exact rfl) ?_ | refine W_tops (s1 := ?_) (by simp; exact rfl) ?_ | refine W_cond_t (by first | (simp; done) | fail) ?_ | refine W_cond_f (by first | (simp; done) | fail) ?_ | fail)
   exact ⟨-1, by simp [hall], rfl, by simp⟩
 obtain ⟨n, h1, h2⟩ := key
 refine ⟨n, ?_, h1⟩
 refine W_call t178 rfl rfl (by simp) ?_
 have hi : (if a178.keepA = true then [.lst tg (xs.map enc), .fn F [] caps] else [.lst tg (xs.map enc), .fn F [] caps].map V.retag) = [.lst .ro (xs.map enc), .fn F [] caps] := by simp [a178, hre]
 rw [hi]
 refine h2.mono ?_
 rintro e s ⟨rfl, h3, rfl⟩
 exact ⟨.inr rfl, [.int .i64 n], by simp [a178, resV, resV1, h3], by simp [a178, packV], rfl, .refl _⟩
theorem Contains_list {α : Type} (enc : α → List V) (xs : List α) (F : FuncId) (caps : List V) (p : α → Bool) (h : LS.Heap) (tg : Tag) (hlen : xs.length < 2 ^ 62) (hsz : ∀ x, (enc x).length = 1) (hre : V.retagLL (xs.map enc) = xs.map enc)
  (hcaps : caps.all V.leaf = true ) (hp : ∀ x ∈ xs, callD T F ((enc x).headD .undef :: caps) h = some (.bool (p x), h)) :
  callD T 149 [.lst tg (xs.map enc), .fn F [] caps] h = some (.bool (xs.any p), h) := by
 obtain ⟨n, h1, h2⟩ := Index_list enc xs F caps p h .ro hlen hsz hre hcaps hp
 refine W_call t149 rfl rfl (by simp) ?_
 show W T c149 _ _
 unfold c149
 repeat' (first | refine W_seq ?_ | refine W_skip ?_ | refine W_block ?_ | refine W_ret ?_ | refine W_exit ?_ | refine W_ops (s1 := ?_) (by simp [a149, hre, h1, h2]; exact rfl) ?_ | refine W_tops (s1 := ?_) (by simp [a149, hre, h1, h2]; exact rfl) ?_ | refine W_cond_t (by first | (simp [a149, hre, h1, h2]; done) | fail) ?_ | refine W_cond_f (by first | (simp [a149, hre, h1, h2]; done) | fail) ?_ | fail)
 exact ⟨.inr rfl, [.bool (xs.any p)], by simp [a149, resV, resV1, h2], by simp [a149, packV], rfl, .refl _⟩
theorem Index_block {α : Type} (enc : α → List V) (xs : List α) (F : FuncId) (caps : List V) (p : α → Bool) (h : LS.Heap) (tg : Tag) (hlen : xs.length < 2 ^ 62) (hsz : ∀ x, (enc x).length = 5) (hre : V.retagLL (xs.map enc) = xs.map enc)
  (hcaps : caps.all V.leaf = true ) (hp : ∀ x ∈ xs, callD T F (.agg (enc x) :: caps) h = some (.bool (p x), h)) :
  ∃ n : Int, callD T 182 [.lst tg (xs.map enc), .fn F [] caps] h = some (.int .i64 n, h) ∧ decide (0 ≤ n) = xs.any p := by
 have key : ∃ n : Int, decide (0 ≤ n) = xs.any p ∧ W T c182 ⟨initT [.lst .ro (xs.map enc), .fn F [] caps], fun _ => none, h⟩ (fun e s => e = .ret ∧ s.t 4 = .int .i64 n ∧ s.h = h) := by
  suffices hw : W T c182 ⟨initT [.lst .ro (xs.map enc), .fn F [] caps], fun _ => none, h⟩ (fun e s => ∃ n : Int, decide (0 ≤ n) = xs.any p ∧ e = .ret ∧ s.t 4 = .int .i64 n ∧ s.h = h) by
   obtain ⟨e, s, h1, n, h2, h3⟩ := hw
   exact ⟨n, h2, e, s, h1, h3⟩
  unfold c182
  refine W_seq (W_ops (s1 := ?_) (by simp only [r182_0]; simp; exact rfl) ?_)
  refine W_seq (W_seq (W_ops (s1 := ?_) (by simp only [r182_1]; simp; exact rfl) ?_))
  refine W_block (W_for' l182_0.eq_1 (n := xs.length) (fun i s => s.t 0 = .lst .ro (xs.map enc) ∧ s.t 1 = .fn F [] caps ∧ s.t 7 = .int .i64 xs.length ∧ s.t 8 = .int .i64 i ∧ s.h = h ∧ (xs.take i).any p = false) ⟨by simp, by simp, by simp, by simp, rfl, by simp⟩ ?_ ?_)
  ·rintro i ⟨t, loc, h'⟩ hi ⟨t0, t1, t7, t8, rfl, ha⟩
   simp only at t0 t1 t7 t8
   have hl : ((i : Int) < xs.length) := by omega
   have hg : (xs.map enc)[i]? = some (enc xs[i]) := by simp [hi]
   have hg1 : i < (xs.map enc).length := by simp [hi]
   have hw := i64_succ (show i < 2 ^ 62 by omega)
   have hc := hp xs[i] (List.getElem_mem hi)
   have hz := hsz xs[i]
   have hsub := sub_all hz
   have hsucc := take_any_succ hi p
   obtain ⟨hd, tl, hE⟩ : ∃ hd tl, enc xs[i] = hd :: tl := by cases hcs : enc xs[i] with | nil => rw [hcs] at hz; simp at hz | cons a b => exact ⟨a, b, rfl⟩
   rw [hE] at hc hz hsub hg
   simp only [List.headD_cons] at hc
   by_cases hpx : p xs[i] = true
   ·rw [hpx] at hc
    have hall := any_of_get hi hpx
    have hwit : decide ((0 : Int) ≤ i) = xs.any p := by simp [hall]
    repeat' (first | refine W_seq ?_ | refine W_skip ?_ | refine W_block ?_ | refine W_ret ?_ | refine W_exit ?_ | refine W_ops (s1 := ?_) (by simp [-sub, t0, t1, t7, t8, hl, hi, hE, hz, hsub, hw, hc]; exact rfl) ?_ | refine W_tops (s1 := ?_) (by simp [-sub, t0, t1, t7, t8, hl, hi, hE, hz, hsub, hw, hc]; exact rfl) ?_ | refine W_cond_t (by first | (simp [-sub, t0, t1, t7, t8, hl, hi, hE, hz, hsub, hw, hc]; done) | fail) ?_ | refine W_cond_f (by first | (simp [-sub, t0, t1, t7, t8, hl, hi, hE, hz, hsub, hw, hc]; done) | fail) ?_ | fail)
    refine .inr ⟨by simp, i, hwit, by simp⟩
   ·have hpx : p xs[i] = false := by simpa using hpx
    rw [hpx] at hc
    repeat' (first | refine W_seq ?_ | refine W_skip ?_ | refine W_block ?_ | refine W_ret ?_ | refine W_exit ?_ | refine W_ops (s1 := ?_) (by simp [-sub, t0, t1, t7, t8, hl, hi, hE, hz, hsub, hw, hc]; exact rfl) ?_ | refine W_tops (s1 := ?_) (by simp [-sub, t0, t1, t7, t8, hl, hi, hE, hz, hsub, hw, hc]; exact rfl) ?_ | refine W_cond_t (by first | (simp [-sub, t0, t1, t7, t8, hl, hi, hE, hz, hsub, hw, hc]; done) | fail) ?_ | refine W_cond_f (by first | (simp [-sub, t0, t1, t7, t8, hl, hi, hE, hz, hsub, hw, hc]; done) | fail) ?_ | fail)
    refine .inl ⟨rfl, by simp [t0], by simp [t1], by simp [t7], by simp, rfl, by rw [hsucc, ha, hpx]; rfl⟩
  ·rintro ⟨t, loc, h'⟩ ⟨t0, t1, t7, t8, rfl, ha⟩
   simp only at t0 t1 t7 t8
   have hall : xs.any p = false := by rw [List.take_length] at ha; exact ha
   repeat' (first | refine W_seq ?_ | refine W_skip ?_ | refine W_block ?_ | refine W_ret ?_ | refine W_exit ?_ | refine W_ops (s1 := ?_) (by simp [t0, t1, t7, t8]; exact rfl) ?_ | refine W_tops (s1 := ?_) (by simp [t0, t1, t7, t8]; exact rfl) ?_ | refine W_cond_t (by first | (simp [t0, t1, t7, t8]; done) | fail) ?_ | refine W_cond_f (by first | (simp [t0, t1, t7, t8]; done) | fail) ?_ | fail)
   refine ⟨by simp, ?_⟩
   repeat' (first | refine W_seq ?_ | refine W_skip ?_ | refine W_block ?_ | refine W_ret ?_ | refine W_exit ?_ | refine W_ops (s1 := ?_) (by simp; exact rfl) ?_ | refine W_tops (s1 := ?_) (by simp; exact rfl) ?_ | refine W_cond_t (by first | (simp; done) | fail) ?_ | refine W_cond_f (by first | (simp; done) | fail) ?_ | fail)
   exact ⟨-1, by simp [hall], rfl, by simp⟩
 obtain ⟨n, h1, h2⟩ := key
 refine ⟨n, ?_, h1⟩
 refine W_call t182 rfl rfl (by simp) ?_
 have hi : (if a182.keepA = true then [.lst tg (xs.map enc), .fn F [] caps] else [.lst tg (xs.map enc), .fn F [] caps].map V.retag) = [.lst .ro (xs.map enc), .fn F [] caps] := by simp [a182, hre]
 rw [hi]
 refine h2.mono ?_
 rintro e s ⟨rfl, h3, rfl⟩
 exact ⟨.inr rfl, [.int .i64 n], by simp [a182, resV, resV1, h3], by simp [a182, packV], rfl, .refl _⟩
theorem Contains_block {α : Type} (enc : α → List V) (xs : List α) (F : FuncId) (caps : List V) (p : α → Bool) (h : LS.Heap) (tg : Tag) (hlen : xs.length < 2 ^ 62) (hsz : ∀ x, (enc x).length = 5) (hre : V.retagLL (xs.map enc) = xs.map enc)
  (hcaps : caps.all V.leaf = true ) (hp : ∀ x ∈ xs, callD T F (.agg (enc x) :: caps) h = some (.bool (p x), h)) :
  callD T 158 [.lst tg (xs.map enc), .fn F [] caps] h = some (.bool (xs.any p), h) := by
 obtain ⟨n, h1, h2⟩ := Index_block enc xs F caps p h .ro hlen hsz hre hcaps hp
 refine W_call t158 rfl rfl (by simp) ?_
 show W T c158 _ _
 unfold c158
 repeat' (first | refine W_seq ?_ | refine W_skip ?_ | refine W_block ?_ | refine W_ret ?_ | refine W_exit ?_ | refine W_ops (s1 := ?_) (by simp [a158, hre, h1, h2]; exact rfl) ?_ | refine W_tops (s1 := ?_) (by simp [a158, hre, h1, h2]; exact rfl) ?_ | refine W_cond_t (by first | (simp [a158, hre, h1, h2]; done) | fail) ?_ | refine W_cond_f (by first | (simp [a158, hre, h1, h2]; done) | fail) ?_ | fail)
 exact ⟨.inr rfl, [.bool (xs.any p)], by simp [a158, resV, resV1, h2], by simp [a158, packV], rfl, .refl _⟩
theorem Index_op {α : Type} (enc : α → List V) (xs : List α) (F : FuncId) (caps : List V) (p : α → Bool) (h : LS.Heap) (tg : Tag) (hlen : xs.length < 2 ^ 62) (hsz : ∀ x, (enc x).length = 6) (hre : V.retagLL (xs.map enc) = xs.map enc)
  (hcaps : caps.all V.leaf = true ) (hp : ∀ x ∈ xs, callD T F (.agg (enc x) :: caps) h = some (.bool (p x), h)) :
  ∃ n : Int, callD T 215 [.lst tg (xs.map enc), .fn F [] caps] h = some (.int .i64 n, h) ∧ decide (0 ≤ n) = xs.any p := by
 have key : ∃ n : Int, decide (0 ≤ n) = xs.any p ∧ W T c215 ⟨initT [.lst .ro (xs.map enc), .fn F [] caps], fun _ => none, h⟩ (fun e s => e = .ret ∧ s.t 4 = .int .i64 n ∧ s.h = h) := by
  suffices hw : W T c215 ⟨initT [.lst .ro (xs.map enc), .fn F [] caps], fun _ => none, h⟩ (fun e s => ∃ n : Int, decide (0 ≤ n) = xs.any p ∧ e = .ret ∧ s.t 4 = .int .i64 n ∧ s.h = h) by
   obtain ⟨e, s, h1, n, h2, h3⟩ := hw
   exact ⟨n, h2, e, s, h1, h3⟩
  unfold c215
  refine W_seq (W_ops (s1 := ?_) (by simp only [r215_0]; simp; exact rfl) ?_)
  refine W_seq (W_seq (W_ops (s1 := ?_) (by simp only [r215_1]; simp; exact rfl) ?_))
  refine W_block (W_for' l215_0.eq_1 (n := xs.length) (fun i s => s.t 0 = .lst .ro (xs.map enc) ∧ s.t 1 = .fn F [] caps ∧ s.t 7 = .int .i64 xs.length ∧ s.t 8 = .int .i64 i ∧ s.h = h ∧ (xs.take i).any p = false) ⟨by simp, by simp, by simp, by simp, rfl, by simp⟩ ?_ ?_)
  ·rintro i ⟨t, loc, h'⟩ hi ⟨t0, t1, t7, t8, rfl, ha⟩
   simp only at t0 t1 t7 t8
   have hl : ((i : Int) < xs.length) := by omega
   have hg : (xs.map enc)[i]? = some (enc xs[i]) := by simp [hi]
   have hg1 : i < (xs.map enc).length := by simp [hi]
   have hw := i64_succ (show i < 2 ^ 62 by omega)
   have hc := hp xs[i] (List.getElem_mem hi)
   have hz := hsz xs[i]
   have hsub := sub_all hz
   have hsucc := take_any_succ hi p
   obtain ⟨hd, tl, hE⟩ : ∃ hd tl, enc xs[i] = hd :: tl := by cases hcs : enc xs[i] with | nil => rw [hcs] at hz; simp at hz | cons a b => exact ⟨a, b, rfl⟩
   rw [hE] at hc hz hsub hg
   simp only [List.headD_cons] at hc
   by_cases hpx : p xs[i] = true
   ·rw [hpx] at hc
    have hall := any_of_get hi hpx
    have hwit : decide ((0 : Int) ≤ i) = xs.any p := by simp [hall]
    repeat' (first | refine W_seq ?_ | refine W_skip ?_ | refine W_block ?_ | refine W_ret ?_ | refine W_exit ?_ | refine W_ops (s1 := ?_) (by simp [-sub, t0, t1, t7, t8, hl, hi, hE, hz, hsub, hw, hc]; exact rfl) ?_ | refine W_tops (s1 := ?_) (by simp [-sub, t0, t1, t7, t8, hl, hi, hE, hz, hsub, hw, hc]; exact rfl) ?_ | refine W_cond_t (by first | (simp [-sub, t0, t1, t7, t8, hl, hi, hE, hz, hsub, hw, hc]; done) | fail) ?_ | refine W_cond_f (by first | (simp [-sub, t0, t1, t7, t8, hl, hi, hE, hz, hsub, hw, hc]; done) | fail) ?_ | fail)
    refine .inr ⟨by simp, i, hwit, by simp⟩
   ·have hpx : p xs[i] = false := by simpa using hpx
    rw [hpx] at hc
    repeat' (first | refine W_seq ?_ | refine W_skip ?_ | refine W_block ?_ | refine W_ret ?_ | refine W_exit ?_ | refine W_ops (s1 := ?_) (by simp [-sub, t0, t1, t7, t8, hl, hi, hE, hz, hsub, hw, hc]; exact rfl) ?_ | refine W_tops (s1 := ?_) (by simp [-sub, t0, t1, t7, t8, hl, hi, hE, hz, hsub, hw, hc]; exact rfl) ?_ | refine W_cond_t (by first | (simp [-sub, t0, t1, t7, t8, hl, hi, hE, hz, hsub, hw, hc]; done) | fail) ?_ | refine W_cond_f (by first | (simp [-sub, t0, t1, t7, t8, hl, hi, hE, hz, hsub, hw, hc]; done) | fail) ?_ | fail)
    refine .inl ⟨rfl, by simp [t0], by simp [t1], by simp [t7], by simp, rfl, by rw [hsucc, ha, hpx]; rfl⟩
  ·rintro ⟨t, loc, h'⟩ ⟨t0, t1, t7, t8, rfl, ha⟩
   simp only at t0 t1 t7 t8
   have hall : xs.any p = false := by rw [List.take_length] at ha; exact ha
   repeat' (first | refine W_seq ?_ | refine W_skip ?_ | refine W_block ?_ | refine W_ret ?_ | refine W_exit ?_ | refine W_ops (s1 := ?_) (by simp [t0, t1, t7, t8]; exact rfl) ?_ | refine W_tops (s1 := ?_) (by simp [t0, t1, t7, t8]; exact rfl) ?_ | refine W_cond_t (by first | (simp [t0, t1, t7, t8]; done) | fail) ?_ | refine W_cond_f (by first | (simp [t0, t1, t7, t8]; done) | fail) ?_ | fail)
   refine ⟨by simp, ?_⟩
   repeat' (first | refine W_seq ?_ | refine W_skip ?_ | refine W_block ?_ | refine W_ret ?_ | refine W_exit ?_ | refine W_ops (s1 := ?_) (by simp; exact rfl) ?_ | refine W_tops (s1 := ?_) (by simp; exact rfl) ?_ | refine W_cond_t (by first | (simp; done) | fail) ?_ | refine W_cond_f (by first | (simp; done) | fail) ?_ | fail)
   exact ⟨-1, by simp [hall], rfl, by simp⟩
 obtain ⟨n, h1, h2⟩ := key
 refine ⟨n, ?_, h1⟩
 refine W_call t215 rfl rfl (by simp) ?_
 have hi : (if a215.keepA = true then [.lst tg (xs.map enc), .fn F [] caps] else [.lst tg (xs.map enc), .fn F [] caps].map V.retag) = [.lst .ro (xs.map enc), .fn F [] caps] := by simp [a215, hre]
 rw [hi]
 refine h2.mono ?_
 rintro e s ⟨rfl, h3, rfl⟩
 exact ⟨.inr rfl, [.int .i64 n], by simp [a215, resV, resV1, h3], by simp [a215, packV], rfl, .refl _⟩
theorem Contains_op {α : Type} (enc : α → List V) (xs : List α) (F : FuncId) (caps : List V) (p : α → Bool) (h : LS.Heap) (tg : Tag) (hlen : xs.length < 2 ^ 62) (hsz : ∀ x, (enc x).length = 6) (hre : V.retagLL (xs.map enc) = xs.map enc)
  (hcaps : caps.all V.leaf = true ) (hp : ∀ x ∈ xs, callD T F (.agg (enc x) :: caps) h = some (.bool (p x), h)) :
  callD T 192 [.lst tg (xs.map enc), .fn F [] caps] h = some (.bool (xs.any p), h) := by
 obtain ⟨n, h1, h2⟩ := Index_op enc xs F caps p h .ro hlen hsz hre hcaps hp
 refine W_call t192 rfl rfl (by simp) ?_
 show W T c192 _ _
 unfold c192
 repeat' (first | refine W_seq ?_ | refine W_skip ?_ | refine W_block ?_ | refine W_ret ?_ | refine W_exit ?_ | refine W_ops (s1 := ?_) (by simp [a192, hre, h1, h2]; exact rfl) ?_ | refine W_tops (s1 := ?_) (by simp [a192, hre, h1, h2]; exact rfl) ?_ | refine W_cond_t (by first | (simp [a192, hre, h1, h2]; done) | fail) ?_ | refine W_cond_f (by first | (simp [a192, hre, h1, h2]; done) | fail) ?_ | fail)
 exact ⟨.inr rfl, [.bool (xs.any p)], by simp [a192, resV, resV1, h2], by simp [a192, packV], rfl, .refl _⟩
theorem Index_phi {α : Type} (enc : α → List V) (xs : List α) (F : FuncId) (caps : List V) (p : α → Bool) (h : LS.Heap) (tg : Tag) (hlen : xs.length < 2 ^ 62) (hsz : ∀ x, (enc x).length = 4) (hre : V.retagLL (xs.map enc) = xs.map enc)
  (hcaps : caps.all V.leaf = true ) (hp : ∀ x ∈ xs, callD T F (.agg (enc x) :: caps) h = some (.bool (p x), h)) :
  ∃ n : Int, callD T 214 [.lst tg (xs.map enc), .fn F [] caps] h = some (.int .i64 n, h) ∧ decide (0 ≤ n) = xs.any p := by
 have key : ∃ n : Int, decide (0 ≤ n) = xs.any p ∧ W T c214 ⟨initT [.lst .ro (xs.map enc), .fn F [] caps], fun _ => none, h⟩ (fun e s => e = .ret ∧ s.t 4 = .int .i64 n ∧ s.h = h) := by
  suffices hw : W T c214 ⟨initT [.lst .ro (xs.map enc), .fn F [] caps], fun _ => none, h⟩ (fun e s => ∃ n : Int, decide (0 ≤ n) = xs.any p ∧ e = .ret ∧ s.t 4 = .int .i64 n ∧ s.h = h) by
   obtain ⟨e, s, h1, n, h2, h3⟩ := hw
   exact ⟨n, h2, e, s, h1, h3⟩
  unfold c214
  refine W_seq (W_ops (s1 := ?_) (by simp only [r214_0]; simp; exact rfl) ?_)
  refine W_seq (W_seq (W_ops (s1 := ?_) (by simp only [r214_1]; simp; exact rfl) ?_))
  refine W_block (W_for' l214_0.eq_1 (n := xs.length) (fun i s => s.t 0 = .lst .ro (xs.map enc) ∧ s.t 1 = .fn F [] caps ∧ s.t 7 = .int .i64 xs.length ∧ s.t 8 = .int .i64 i ∧ s.h = h ∧ (xs.take i).any p = false) ⟨by simp, by simp, by simp, by simp, rfl, by simp⟩ ?_ ?_)
  ·rintro i ⟨t, loc, h'⟩ hi ⟨t0, t1, t7, t8, rfl, ha⟩
   simp only at t0 t1 t7 t8
   have hl : ((i : Int) < xs.length) := by omega
   have hg : (xs.map enc)[i]? = some (enc xs[i]) := by simp [hi]
   have hg1 : i < (xs.map enc).length := by simp [hi]
   have hw := i64_succ (show i < 2 ^ 62 by omega)
   have hc := hp xs[i] (List.getElem_mem hi)
   have hz := hsz xs[i]
   have hsub := sub_all hz
   have hsucc := take_any_succ hi p
   obtain ⟨hd, tl, hE⟩ : ∃ hd tl, enc xs[i] = hd :: tl := by cases hcs : enc xs[i] with | nil => rw [hcs] at hz; simp at hz | cons a b => exact ⟨a, b, rfl⟩
   rw [hE] at hc hz hsub hg
   simp only [List.headD_cons] at hc
   by_cases hpx : p xs[i] = true
   ·rw [hpx] at hc
    have hall := any_of_get hi hpx
    have hwit : decide ((0 : Int) ≤ i) = xs.any p := by simp [hall]
    repeat' (first | refine W_seq ?_ | refine W_skip ?_ | refine W_block ?_ | refine W_ret ?_ | refine W_exit ?_ | refine W_ops (s1 := ?_) (by simp [-sub, t0, t1, t7, t8, hl, hi, hE, hz, hsub, hw, hc]; exact rfl) ?_ | refine W_tops (s1 := ?_) (by simp [-sub, t0, t1, t7, t8, hl, hi, hE, hz, hsub, hw, hc]; exact rfl) ?_ | refine W_cond_t (by first | (simp [-sub, t0, t1, t7, t8, hl, hi, hE, hz, hsub, hw, hc]; done) | fail) ?_ | refine W_cond_f (by first | (simp [-sub, t0, t1, t7, t8, hl, hi, hE, hz, hsub, hw, hc]; done) | fail) ?_ | fail)
    refine .inr ⟨by simp, i, hwit, by simp⟩
   ·have hpx : p xs[i] = false := by simpa using hpx
    rw [hpx] at hc
    repeat' (first | refine W_seq ?_ | refine W_skip ?_ | refine W_block ?_ | refine W_ret ?_ | refine W_exit ?_ | refine W_ops (s1 := ?_) (by simp [-sub, t0, t1, t7, t8, hl, hi, hE, hz, hsub, hw, hc]; exact rfl) ?_ | refine W_tops (s1 := ?_) (by simp [-sub, t0, t1, t7, t8, hl, hi, hE, hz, hsub, hw, hc]; exact rfl) ?_ | refine W_cond_t (by first | (simp [-sub, t0, t1, t7, t8, hl, hi, hE, hz, hsub, hw, hc]; done) | fail) ?_ | refine W_cond_f (by first | (simp [-sub, t0, t1, t7, t8, hl, hi, hE, hz, hsub, hw, hc]; done) | fail) ?_ | fail)
    refine .inl ⟨rfl, by simp [t0], by simp [t1], by simp [t7], by simp, rfl, by rw [hsucc, ha, hpx]; rfl⟩
  ·rintro ⟨t, loc, h'⟩ ⟨t0, t1, t7, t8, rfl, ha⟩
   simp only at t0 t1 t7 t8
   have hall : xs.any p = false := by rw [List.take_length] at ha; exact ha
   repeat' (first | refine W_seq ?_ | refine W_skip ?_ | refine W_block ?_ | refine W_ret ?_ | refine W_exit ?_ | refine W_ops (s1 := ?_) (by simp [t0, t1, t7, t8]; exact rfl) ?_ | refine W_tops (s1 := ?_) (by simp [t0, t1, t7, t8]; exact rfl) ?_ | refine W_cond_t (by first | (simp [t0, t1, t7, t8]; done) | fail) ?_ | refine W_cond_f (by first | (simp [t0, t1, t7, t8]; done) | fail) ?_ | fail)
   refine ⟨by simp, ?_⟩
   repeat' (first | refine W_seq ?_ | refine W_skip ?_ | refine W_block ?_ | refine W_ret ?_ | refine W_exit ?_ | refine W_ops (s1 := ?_) (by simp; exact rfl) ?_ | refine W_tops (s1 := ?_) (by simp; exact rfl) ?_ | refine W_cond_t (by first | (simp; done) | fail) ?_ | refine W_cond_f (by first | (simp; done) | fail) ?_ | fail)
   exact ⟨-1, by simp [hall], rfl, by simp⟩
 obtain ⟨n, h1, h2⟩ := key
 refine ⟨n, ?_, h1⟩
 refine W_call t214 rfl rfl (by simp) ?_
 have hi : (if a214.keepA = true then [.lst tg (xs.map enc), .fn F [] caps] else [.lst tg (xs.map enc), .fn F [] caps].map V.retag) = [.lst .ro (xs.map enc), .fn F [] caps] := by simp [a214, hre]
 rw [hi]
 refine h2.mono ?_
 rintro e s ⟨rfl, h3, rfl⟩
 exact ⟨.inr rfl, [.int .i64 n], by simp [a214, resV, resV1, h3], by simp [a214, packV], rfl, .refl _⟩
theorem Contains_phi {α : Type} (enc : α → List V) (xs : List α) (F : FuncId) (caps : List V) (p : α → Bool) (h : LS.Heap) (tg : Tag) (hlen : xs.length < 2 ^ 62) (hsz : ∀ x, (enc x).length = 4) (hre : V.retagLL (xs.map enc) = xs.map enc)
  (hcaps : caps.all V.leaf = true ) (hp : ∀ x ∈ xs, callD T F (.agg (enc x) :: caps) h = some (.bool (p x), h)) :
  callD T 190 [.lst tg (xs.map enc), .fn F [] caps] h = some (.bool (xs.any p), h) := by
 obtain ⟨n, h1, h2⟩ := Index_phi enc xs F caps p h .ro hlen hsz hre hcaps hp
 refine W_call t190 rfl rfl (by simp) ?_
 show W T c190 _ _
 unfold c190
 repeat' (first | refine W_seq ?_ | refine W_skip ?_ | refine W_block ?_ | refine W_ret ?_ | refine W_exit ?_ | refine W_ops (s1 := ?_) (by simp [a190, hre, h1, h2]; exact rfl) ?_ | refine W_tops (s1 := ?_) (by simp [a190, hre, h1, h2]; exact rfl) ?_ | refine W_cond_t (by first | (simp [a190, hre, h1, h2]; done) | fail) ?_ | refine W_cond_f (by first | (simp [a190, hre, h1, h2]; done) | fail) ?_ | fail)
 exact ⟨.inr rfl, [.bool (xs.any p)], by simp [a190, resV, resV1, h2], by simp [a190, packV], rfl, .refl _⟩

end Go.Proofs.YtpbngohpklpalaaGreat

/- Functions as data; which may be told. -/
namespace Go.Proofs.YtpbngohpklpalaaGreat
open Go.LS Go.IntWalk
structure PhiD where
 bits : Int
 dst : Int
 frm : List Int
 args : List Int
structure OpD where
 kind : Int
 bits : Int
 lanes : Int
 dst : Int
 args : List Int
 imm : Int
structure BlockD where
 phis : List PhiD
 ops : List OpD
 ek : Int
 ea : Int
 to : List Int
structure FuncD where
 params : List Int
 ret : Int
 blocks : List BlockD
def intC (n : Int) : List V := [.int .i64 n]
def listC (l : List Int) : List V := [.lst .ro (l.map intC)]
def PhiD.c (p : PhiD) : List V := [.int .i64 p.bits, .int .i64 p.dst, .lst .ro (p.frm.map intC), .lst .ro (p.args.map intC)]
def OpD.c (o : OpD) : List V := [.int .i64 o.kind, .int .i64 o.bits, .int .i64 o.lanes, .int .i64 o.dst, .lst .ro (o.args.map intC), .int .u64 o.imm]
def BlockD.c (b : BlockD) : List V := [.lst .ro (b.phis.map PhiD.c), .lst .ro (b.ops.map OpD.c), .int .i64 b.ek, .int .i64 b.ea, .lst .ro (b.to.map intC)]
def FuncD.c (f : FuncD) : List V := [.lst .ro (f.params.map intC), .int .i64 f.ret, .lst .ro (f.blocks.map BlockD.c)]
theorem retagLL_enc {α : Type} (enc : α → List V) (h : ∀ x, V.retagL (enc x) = enc x) (l : List α) : V.retagLL (l.map enc) = l.map enc := by
 induction l with
 | nil => rfl
 | cons a l ih => simp [V.retagLL, h, ih]
theorem underLL_enc {α : Type} (n : Nat) (enc : α → List V) (h : ∀ x, V.underL n (enc x) = true) (l : List α) : V.underLL n (l.map enc) = true := by
 induction l with
 | nil => rfl
 | cons a l ih => simp [V.underLL, h, ih]
@[simp] theorem retag_int (l : List Int) : V.retagLL (l.map intC) = l.map intC := retagLL_enc _ (fun _ => rfl) _
@[simp] theorem retag_list (l : List (List Int)) : V.retagLL (l.map listC) = l.map listC := retagLL_enc _ (fun _ => by simp [listC, V.retagL, V.retag]) _
@[simp] theorem retag_phi (l : List PhiD) : V.retagLL (l.map PhiD.c) = l.map PhiD.c := retagLL_enc _ (fun _ => by simp [PhiD.c, V.retagL, V.retag]) _
@[simp] theorem retag_op (l : List OpD) : V.retagLL (l.map OpD.c) = l.map OpD.c := retagLL_enc _ (fun _ => by simp [OpD.c, V.retagL, V.retag]) _
@[simp] theorem retag_block (l : List BlockD) : V.retagLL (l.map BlockD.c) = l.map BlockD.c := retagLL_enc _ (fun _ => by simp [BlockD.c, V.retagL, V.retag]) _
@[simp] theorem under_int (n : Nat) (l : List Int) : V.underLL n (l.map intC) = true := underLL_enc _ _ (fun _ => rfl) _
@[simp] theorem under_list (n : Nat) (l : List (List Int)) : V.underLL n (l.map listC) = true := underLL_enc _ _ (fun _ => by simp [listC, V.underL, V.under]) _
@[simp] theorem under_phi (n : Nat) (l : List PhiD) : V.underLL n (l.map PhiD.c) = true := underLL_enc _ _ (fun _ => by simp [PhiD.c, V.underL, V.under]) _
@[simp] theorem under_op (n : Nat) (l : List OpD) : V.underLL n (l.map OpD.c) = true := underLL_enc _ _ (fun _ => by simp [OpD.c, V.underL, V.under]) _
@[simp] theorem under_block (n : Nat) (l : List BlockD) : V.underLL n (l.map BlockD.c) = true := underLL_enc _ _ (fun _ => by simp [BlockD.c, V.underL, V.under]) _
@[simp] theorem retag_opc (o : OpD) : V.retagL o.c = o.c := by simp [OpD.c]
@[simp] theorem retag_phic (o : PhiD) : V.retagL o.c = o.c := by simp [PhiD.c]
@[simp] theorem retag_blockc (o : BlockD) : V.retagL o.c = o.c := by simp [BlockD.c]
@[simp] theorem retag_funcc (o : FuncD) : V.retagL o.c = o.c := by simp [FuncD.c]
def badN (n : Int) : Bool := decide (n < 0) || decide (2147483647 < n)
def badL (l : List Int) : Bool := decide (64 < l.length) || l.any badN
theorem inP_run (n : Int) (h : LS.Heap) : callD T 181 [.int .i64 n] h = some (.bool (badN n), h) := by
 refine W_call t181 rfl rfl (by simp) ?_
 show W T c181 _ _
 unfold c181
 by_cases hn : n < 0
 ·skip
  repeat' (first | refine W_seq ?_ | refine W_skip ?_ | refine W_block ?_ | refine W_ret ?_ | refine W_exit ?_ | refine W_ops (s1 := ?_) (by simp [a181, hn]; exact rfl) ?_ | refine W_tops (s1 := ?_) (by simp [a181, hn]; exact rfl) ?_ | refine W_cond_t (by first | (simp [a181, hn]; done) | fail) ?_ | refine W_cond_f (by first | (simp [a181, hn]; done) | fail) ?_ | fail)
  exact ⟨.inr rfl, [.bool (badN n)], by simp [a181, resV, resV1, badN, hn], by simp [a181, packV], rfl, .refl _⟩
 ·skip
  repeat' (first | refine W_seq ?_ | refine W_skip ?_ | refine W_block ?_ | refine W_ret ?_ | refine W_exit ?_ | refine W_ops (s1 := ?_) (by simp [a181, hn]; exact rfl) ?_ | refine W_tops (s1 := ?_) (by simp [a181, hn]; exact rfl) ?_ | refine W_cond_t (by first | (simp [a181, hn]; done) | fail) ?_ | refine W_cond_f (by first | (simp [a181, hn]; done) | fail) ?_ | fail)
  exact ⟨.inr rfl, [.bool (badN n)], by simp [a181, resV, resV1, badN, hn], by simp [a181, packV], rfl, .refl _⟩
theorem in_run (tg : Tag) (l : List Int) (hl : l.length < 2 ^ 62) (h : LS.Heap) : callD T 157 [.lst tg (l.map intC)] h = some (.bool (!l.any badN), h) := by
 have hC := Contains_int intC l 181 [] badN h .ro hl (fun _ => rfl) (by simp) rfl (fun x _ => inP_run x h)
 refine W_call t157 rfl rfl (by simp) ?_
 show W T c157 _ _
 unfold c157
 repeat' (first | refine W_seq ?_ | refine W_skip ?_ | refine W_block ?_ | refine W_ret ?_ | refine W_exit ?_ | refine W_ops (s1 := ?_) (by simp [a157, hC]; exact rfl) ?_ | refine W_tops (s1 := ?_) (by simp [a157, hC]; exact rfl) ?_ | refine W_cond_t (by first | (simp [a157, hC]; done) | fail) ?_ | refine W_cond_f (by first | (simp [a157, hC]; done) | fail) ?_ | fail)
 exact ⟨.inr rfl, [.bool (!l.any badN)], by simp [a157, resV, resV1], by simp [a157, packV], rfl, .refl _⟩
theorem lists_run (tg : Tag) (ls : List (List Int)) (hl : ls.length < 2 ^ 62) (hll : ∀ l ∈ ls, l.length < 2 ^ 62) (h : LS.Heap) : callD T 183 [.lst tg (ls.map listC)] h = some (.bool (!ls.any badL), h) := by
 refine W_call t183 rfl rfl (by simp) ?_
 show W T c183 _ _
 unfold c183
 refine W_seq (W_ops (s1 := ?_) (by simp only [r183_0]; simp [a183]; exact rfl) ?_)
 refine W_seq (W_seq (W_ops (s1 := ?_) (by simp only [r183_1]; simp; exact rfl) ?_))
 refine W_block (W_for' l183_0.eq_1 (n := ls.length) (fun i s => s.t 5 = .lst .ro (ls.map listC) ∧ s.t 6 = .int .i64 ls.length ∧ s.t 7 = .int .i64 i ∧ s.h = h ∧ (ls.take i).any badL = false) ⟨by simp, by simp, by simp, rfl, by simp⟩ ?_ ?_)
 ·rintro i ⟨t, loc, h'⟩ hi ⟨t5, t6, t7, rfl, ha⟩
  simp only at t5 t6 t7
  have hl1 : ((i : Int) < ls.length) := by omega
  have hw := i64_succ (show i < 2 ^ 62 by omega)
  have hsucc := take_any_succ hi badL
  have hin := in_run .ro ls[i] (hll _ (List.getElem_mem hi)) h'
  have hE : listC ls[i] = [.lst .ro (ls[i].map intC)] := rfl
  by_cases h64 : 64 < ls[i].length
  ·have hb : badL ls[i] = true := by simp [badL, h64]
   have hall := any_of_get hi hb
   have h64' : (64 : Int) < ls[i].length := by omega
   repeat' (first | refine W_seq ?_ | refine W_skip ?_ | refine W_block ?_ | refine W_ret ?_ | refine W_exit ?_ | refine W_ops (s1 := ?_) (by simp [t5, t6, t7, hl1, hi, hE, hw, h64, h64']; exact rfl) ?_ | refine W_tops (s1 := ?_) (by simp [t5, t6, t7, hl1, hi, hE, hw, h64, h64']; exact rfl) ?_ | refine W_cond_t (by first | (simp [t5, t6, t7, hl1, hi, hE, hw, h64, h64']; done) | fail) ?_ | refine W_cond_f (by first | (simp [t5, t6, t7, hl1, hi, hE, hw, h64, h64']; done) | fail) ?_ | fail)
   exact .inr ⟨by simp, .inr rfl, [.bool (!ls.any badL)], by simp [a183, resV, resV1, hall], by simp [a183, packV], rfl, .refl _⟩
  ·have h64' : ¬ (64 : Int) < ls[i].length := by omega
   by_cases hbn : ls[i].any badN = true
   ·have hb : badL ls[i] = true := by simp only [badL, hbn, Bool.or_true]
    have hall := any_of_get hi hb
    rw [hbn] at hin
    repeat' (first | refine W_seq ?_ | refine W_skip ?_ | refine W_block ?_ | refine W_ret ?_ | refine W_exit ?_ | refine W_ops (s1 := ?_) (by simp [t5, t6, t7, hl1, hi, hE, hw, h64, h64', hin]; exact rfl) ?_ | refine W_tops (s1 := ?_) (by simp [t5, t6, t7, hl1, hi, hE, hw, h64, h64', hin]; exact rfl) ?_ | refine W_cond_t (by first | (simp [t5, t6, t7, hl1, hi, hE, hw, h64, h64', hin]; done) | fail) ?_ | refine W_cond_f (by first | (simp [t5, t6, t7, hl1, hi, hE, hw, h64, h64', hin]; done) | fail) ?_ | fail)
    exact .inr ⟨by simp, .inr rfl, [.bool (!ls.any badL)], by simp [a183, resV, resV1, hall], by simp [a183, packV], rfl, .refl _⟩
   ·have hbn : ls[i].any badN = false := by simpa using hbn
    have hb : badL ls[i] = false := by simp only [badL, hbn, h64]; simp
    rw [hbn] at hin
    repeat' (first | refine W_seq ?_ | refine W_skip ?_ | refine W_block ?_ | refine W_ret ?_ | refine W_exit ?_ | refine W_ops (s1 := ?_) (by simp [t5, t6, t7, hl1, hi, hE, hw, h64, h64', hin]; exact rfl) ?_ | refine W_tops (s1 := ?_) (by simp [t5, t6, t7, hl1, hi, hE, hw, h64, h64', hin]; exact rfl) ?_ | refine W_cond_t (by first | (simp [t5, t6, t7, hl1, hi, hE, hw, h64, h64', hin]; done) | fail) ?_ | refine W_cond_f (by first | (simp [t5, t6, t7, hl1, hi, hE, hw, h64, h64', hin]; done) | fail) ?_ | fail)
    exact .inl ⟨rfl, by simp [t5], by simp [t6], by simp, rfl, by rw [hsucc, ha, hb]; rfl⟩
 ·rintro ⟨t, loc, h'⟩ ⟨t5, t6, t7, rfl, ha⟩
  simp only at t5 t6 t7
  have hall : ls.any badL = false := by rw [List.take_length] at ha; exact ha
  repeat' (first | refine W_seq ?_ | refine W_skip ?_ | refine W_block ?_ | refine W_ret ?_ | refine W_exit ?_ | refine W_ops (s1 := ?_) (by simp [t5, t6, t7]; exact rfl) ?_ | refine W_tops (s1 := ?_) (by simp [t5, t6, t7]; exact rfl) ?_ | refine W_cond_t (by first | (simp [t5, t6, t7]; done) | fail) ?_ | refine W_cond_f (by first | (simp [t5, t6, t7]; done) | fail) ?_ | fail)
  refine ⟨by simp, ?_⟩
  repeat' (first | refine W_seq ?_ | refine W_skip ?_ | refine W_block ?_ | refine W_ret ?_ | refine W_exit ?_ | refine W_ops (s1 := ?_) (by simp; exact rfl) ?_ | refine W_tops (s1 := ?_) (by simp; exact rfl) ?_ | refine W_cond_t (by first | (simp; done) | fail) ?_ | refine W_cond_f (by first | (simp; done) | fail) ?_ | fail)
  exact ⟨.inr rfl, [.bool (!ls.any badL)], by simp [a183, resV, resV1, hall], by simp [a183, packV], rfl, .refl _⟩

end Go.Proofs.YtpbngohpklpalaaGreat

/- Which functions may be told. -/
namespace Go.Proofs.YtpbngohpklpalaaGreat
open Go.LS Go.IntWalk
def PhiD.Fit (p : PhiD) : Prop := p.frm.length < 2 ^ 40 ∧ p.args.length < 2 ^ 40
def OpD.Fit (o : OpD) : Prop := o.args.length < 2 ^ 40
def BlockD.Fit (b : BlockD) : Prop := b.phis.length < 2 ^ 40 ∧ b.ops.length < 2 ^ 40 ∧ b.to.length < 2 ^ 40 ∧ (∀ p ∈ b.phis, p.Fit) ∧ ∀ o ∈ b.ops, o.Fit
def FuncD.Fit (f : FuncD) : Prop := f.params.length < 2 ^ 40 ∧ f.blocks.length < 2 ^ 40 ∧ ∀ b ∈ f.blocks, b.Fit
def badPhi (p : PhiD) : Bool := [p.bits, p.dst].any badN || [p.frm, p.args].any badL
def badOp (o : OpD) : Bool := [o.kind, o.bits, o.lanes, o.dst].any badN || [o.args].any badL
def badBlock (b : BlockD) : Bool := b.phis.any badPhi || (b.ops.any badOp || ([b.ek, b.ea].any badN || [b.to].any badL))
theorem in_run' (tg : Tag) (l : List Int) (hl : l.length < 2 ^ 62) (h : LS.Heap) {b : Bool} (hb : l.any badN = b) : callD T 157 [.lst tg (l.map intC)] h = some (.bool (!b), h) := by
 rw [in_run tg l hl h, hb]
theorem lists_run' (tg : Tag) (ls : List (List Int)) (hl : ls.length < 2 ^ 62) (hll : ∀ l ∈ ls, l.length < 2 ^ 62) (h : LS.Heap) {b : Bool} (hb : ls.any badL = b) : callD T 183 [.lst tg (ls.map listC)] h = some (.bool (!b), h) := by
 rw [lists_run tg ls hl hll h, hb]
theorem mayBlock_run (b : BlockD) (hf : b.Fit) (h : LS.Heap) : callD T 160 [.agg b.c] h = some (.bool (!badBlock b), h) := by
 obtain ⟨f1, f2, f3, f4, f5⟩ := hf
 refine W_call t160 rfl rfl (by simp) ?_
 show W T c160 _ _
 unfold c160
 refine W_seq (W_ops (s1 := ?_) (by simp only [r160_0]; simp [a160, BlockD.c, nextVer]; exact rfl) ?_)
 refine W_seq (W_seq (W_ops (s1 := ?_) (by simp only [r160_1]; simp; exact rfl) ?_))
 have fin : ∀ (v : Bool) (s : St), s.t 2 = .bool v → s.h = h → badBlock b = !v → (AExit.ret = AExit.normal ∨ AExit.ret = AExit.ret) ∧ ∃ vs, resV s a160.res = some vs ∧ (if a160.keepR = true then packV vs else (packV vs).retag) = .bool (!badBlock b) ∧ V.under h.next (.bool (!badBlock b)) = true ∧ HExt h s.h := fun v s h2 hh hb =>
  ⟨.inr rfl, [.bool v], by simp [a160, resV, resV1, h2], by simp [a160, packV, hb], rfl, by rw [hh]; exact .refl _⟩
 refine W_block (W_for' l160_0.eq_1 (n := b.phis.length) (fun i s => s.t 1 = .loc 1 0 0 ∧ s.loc 1 = some (0, b.c) ∧ s.t 8 = .lst .ro (b.phis.map PhiD.c) ∧ s.t 9 = .int .i64 b.phis.length ∧ s.t 10 = .int .i64 i ∧ s.h = h ∧ (b.phis.take i).any badPhi = false) ⟨by simp, by simp [BlockD.c], by simp, by simp, by simp, rfl, by simp⟩ ?_ ?_)
 ·rintro i ⟨t, loc, h'⟩ hi ⟨t1, l1, t8, t9, t10, rfl, ha⟩
  simp only at t1 l1 t8 t9 t10
  have hl1 : ((i : Int) < b.phis.length) := by omega
  have hw := i64_succ (show i < 2 ^ 62 by omega)
  have hsucc := take_any_succ hi badPhi
  have hE : PhiD.c b.phis[i] = [.int .i64 b.phis[i].bits, .int .i64 b.phis[i].dst, .lst .ro (b.phis[i].frm.map intC), .lst .ro (b.phis[i].args.map intC)] := rfl
  obtain ⟨g1, g2⟩ := f4 _ (List.getElem_mem hi)
  cases c1 : [b.phis[i].bits, b.phis[i].dst].any badN with
  | true =>
   have e1 := in_run' .exact [b.phis[i].bits, b.phis[i].dst] (by simp) h' c1
   simp only [List.map, intC] at e1
   have hall := any_of_get hi (p := badPhi) (by simp only [badPhi, c1, Bool.true_or])
   repeat' (first | refine W_seq ?_ | refine W_skip ?_ | refine W_block ?_ | refine W_ret ?_ | refine W_exit ?_ | refine W_ops (s1 := ?_) (by simp [t1, l1, t8, t9, t10, hl1, hi, hE, hw, e1]; exact rfl) ?_ | refine W_tops (s1 := ?_) (by simp [t1, l1, t8, t9, t10, hl1, hi, hE, hw, e1]; exact rfl) ?_ | refine W_cond_t (by first | (simp [t1, l1, t8, t9, t10, hl1, hi, hE, hw, e1]; done) | fail) ?_ | refine W_cond_f (by first | (simp [t1, l1, t8, t9, t10, hl1, hi, hE, hw, e1]; done) | fail) ?_ | fail)
   exact .inr ⟨by simp, fin false _ (by simp) rfl (by simp [badBlock, hall])⟩
  | false =>
   have e1 := in_run' .exact [b.phis[i].bits, b.phis[i].dst] (by simp) h' c1
   simp only [List.map, intC] at e1
   cases c2 : [b.phis[i].frm, b.phis[i].args].any badL with
   | true =>
    have e2 := lists_run' .exact [b.phis[i].frm, b.phis[i].args] (by simp) (by simp; omega) h' c2
    simp only [List.map_cons, List.map_nil, listC] at e2
    have hall := any_of_get hi (p := badPhi) (by simp only [badPhi, c1, c2, Bool.or_true])
    repeat' (first | refine W_seq ?_ | refine W_skip ?_ | refine W_block ?_ | refine W_ret ?_ | refine W_exit ?_ | refine W_ops (s1 := ?_) (by simp [t1, l1, t8, t9, t10, hl1, hi, hE, hw, e1, e2]; exact rfl) ?_ | refine W_tops (s1 := ?_) (by simp [t1, l1, t8, t9, t10, hl1, hi, hE, hw, e1, e2]; exact rfl) ?_ | refine W_cond_t (by first | (simp [t1, l1, t8, t9, t10, hl1, hi, hE, hw, e1, e2]; done) | fail) ?_ | refine W_cond_f (by first | (simp [t1, l1, t8, t9, t10, hl1, hi, hE, hw, e1, e2]; done) | fail) ?_ | fail)
    exact .inr ⟨by simp, fin false _ (by simp) rfl (by simp [badBlock, hall])⟩
   | false =>
    have e2 := lists_run' .exact [b.phis[i].frm, b.phis[i].args] (by simp) (by simp; omega) h' c2
    simp only [List.map_cons, List.map_nil, listC] at e2
    have hb : badPhi b.phis[i] = false := by simp only [badPhi, c1, c2, Bool.or_false]
    repeat' (first | refine W_seq ?_ | refine W_skip ?_ | refine W_block ?_ | refine W_ret ?_ | refine W_exit ?_ | refine W_ops (s1 := ?_) (by simp [t1, l1, t8, t9, t10, hl1, hi, hE, hw, e1, e2]; exact rfl) ?_ | refine W_tops (s1 := ?_) (by simp [t1, l1, t8, t9, t10, hl1, hi, hE, hw, e1, e2]; exact rfl) ?_ | refine W_cond_t (by first | (simp [t1, l1, t8, t9, t10, hl1, hi, hE, hw, e1, e2]; done) | fail) ?_ | refine W_cond_f (by first | (simp [t1, l1, t8, t9, t10, hl1, hi, hE, hw, e1, e2]; done) | fail) ?_ | fail)
    exact .inl ⟨rfl, by simp [t1], by simp [l1], by simp [t8], by simp [t9], by simp, rfl, by rw [hsucc, ha, hb]; rfl⟩
 ·rintro ⟨t, loc, h'⟩ ⟨t1, l1, t8, t9, t10, rfl, ha⟩
  simp only at t1 l1 t8 t9 t10
  have hphi : b.phis.any badPhi = false := by rw [List.take_length] at ha; exact ha
  refine W_seq (W_ops (s1 := ?_) (by simp only [r160_2]; simp [t9, t10]; exact rfl) ?_)
  refine W_seq (W_cond_f (by simp) (W_exit ?_))
  refine ⟨by simp, ?_⟩
  have hbc : b.c = [.lst .ro (b.phis.map PhiD.c), .lst .ro (b.ops.map OpD.c), .int .i64 b.ek, .int .i64 b.ea, .lst .ro (b.to.map intC)] := rfl
  rw [hbc] at l1
  refine W_seq (W_seq (W_ops (s1 := ?_) (by simp only [r160_7]; simp [t1, l1]; exact rfl) ?_))
  refine W_block (W_for' l160_1.eq_1 (n := b.ops.length) (fun i s => s.t 1 = .loc 1 0 0 ∧ s.loc 1 = some (0, b.c) ∧ s.t 32 = .lst .ro (b.ops.map OpD.c) ∧ s.t 33 = .int .i64 b.ops.length ∧ s.t 34 = .int .i64 i ∧ s.h = h' ∧ (b.ops.take i).any badOp = false) ⟨by simp [t1], by simp [l1, hbc], by simp, by simp, by simp, rfl, by simp⟩ ?_ ?_)
  ·clear ha t1 l1 t8 t9 t10
   rintro i ⟨t, loc, h'⟩ hi ⟨t1, l1, t8, t9, t10, rfl, ha⟩
   simp only at t1 l1 t8 t9 t10
   have hl1 : ((i : Int) < b.ops.length) := by omega
   have hw := i64_succ (show i < 2 ^ 62 by omega)
   have hsucc := take_any_succ hi badOp
   have hE : OpD.c b.ops[i] = [.int .i64 b.ops[i].kind, .int .i64 b.ops[i].bits, .int .i64 b.ops[i].lanes, .int .i64 b.ops[i].dst, .lst .ro (b.ops[i].args.map intC), .int .u64 b.ops[i].imm] := rfl
   have g1 : b.ops[i].args.length < 2 ^ 40 := f5 _ (List.getElem_mem hi)
   cases c1 : [b.ops[i].kind, b.ops[i].bits, b.ops[i].lanes, b.ops[i].dst].any badN with
   | true =>
    have e1 := in_run' .exact [b.ops[i].kind, b.ops[i].bits, b.ops[i].lanes, b.ops[i].dst] (by simp) h' c1
    simp only [List.map, intC] at e1
    have hall := any_of_get hi (p := badOp) (by simp only [badOp, c1, Bool.true_or])
    repeat' (first | refine W_seq ?_ | refine W_skip ?_ | refine W_block ?_ | refine W_ret ?_ | refine W_exit ?_ | refine W_ops (s1 := ?_) (by simp [t1, l1, t8, t9, t10, hl1, hi, hE, hw, e1]; exact rfl) ?_ | refine W_tops (s1 := ?_) (by simp [t1, l1, t8, t9, t10, hl1, hi, hE, hw, e1]; exact rfl) ?_ | refine W_cond_t (by first | (simp [t1, l1, t8, t9, t10, hl1, hi, hE, hw, e1]; done) | fail) ?_ | refine W_cond_f (by first | (simp [t1, l1, t8, t9, t10, hl1, hi, hE, hw, e1]; done) | fail) ?_ | fail)
    exact .inr ⟨by simp, fin false _ (by simp) rfl (by simp [badBlock, hall])⟩
   | false =>
    have e1 := in_run' .exact [b.ops[i].kind, b.ops[i].bits, b.ops[i].lanes, b.ops[i].dst] (by simp) h' c1
    simp only [List.map, intC] at e1
    cases c2 : [b.ops[i].args].any badL with
    | true =>
     have e2 := lists_run' .exact [b.ops[i].args] (by simp) (by simp; omega) h' c2
     simp only [List.map_cons, List.map_nil, listC] at e2
     have hall := any_of_get hi (p := badOp) (by simp only [badOp, c1, c2, Bool.or_true])
     repeat' (first | refine W_seq ?_ | refine W_skip ?_ | refine W_block ?_ | refine W_ret ?_ | refine W_exit ?_ | refine W_ops (s1 := ?_) (by simp [t1, l1, t8, t9, t10, hl1, hi, hE, hw, e1, e2]; exact rfl) ?_ | refine W_tops (s1 := ?_) (by simp [t1, l1, t8, t9, t10, hl1, hi, hE, hw, e1, e2]; exact rfl) ?_ | refine W_cond_t (by first | (simp [t1, l1, t8, t9, t10, hl1, hi, hE, hw, e1, e2]; done) | fail) ?_ | refine W_cond_f (by first | (simp [t1, l1, t8, t9, t10, hl1, hi, hE, hw, e1, e2]; done) | fail) ?_ | fail)
     exact .inr ⟨by simp, fin false _ (by simp) rfl (by simp [badBlock, hall])⟩
    | false =>
     have e2 := lists_run' .exact [b.ops[i].args] (by simp) (by simp; omega) h' c2
     simp only [List.map_cons, List.map_nil, listC] at e2
     have hb : badOp b.ops[i] = false := by simp only [badOp, c1, c2, Bool.or_false]
     repeat' (first | refine W_seq ?_ | refine W_skip ?_ | refine W_block ?_ | refine W_ret ?_ | refine W_exit ?_ | refine W_ops (s1 := ?_) (by simp [t1, l1, t8, t9, t10, hl1, hi, hE, hw, e1, e2]; exact rfl) ?_ | refine W_tops (s1 := ?_) (by simp [t1, l1, t8, t9, t10, hl1, hi, hE, hw, e1, e2]; exact rfl) ?_ | refine W_cond_t (by first | (simp [t1, l1, t8, t9, t10, hl1, hi, hE, hw, e1, e2]; done) | fail) ?_ | refine W_cond_f (by first | (simp [t1, l1, t8, t9, t10, hl1, hi, hE, hw, e1, e2]; done) | fail) ?_ | fail)
     exact .inl ⟨rfl, by simp [t1], by simp [l1], by simp [t8], by simp [t9], by simp, rfl, by rw [hsucc, ha, hb]; rfl⟩
  ·clear ha t1 l1 t8 t9 t10
   rintro ⟨t, loc, h'⟩ ⟨t1, l1, t8, t9, t10, rfl, ha⟩
   simp only at t1 l1 t8 t9 t10
   have hop : b.ops.any badOp = false := by rw [List.take_length] at ha; exact ha
   refine W_seq (W_ops (s1 := ?_) (by simp only [r160_8]; simp [t9, t10]; exact rfl) ?_)
   refine W_seq (W_cond_f (by simp) (W_exit ?_))
   refine ⟨by simp, ?_⟩
   rw [hbc] at l1
   cases c1 : [b.ek, b.ea].any badN with
   | true =>
    have e1 := in_run' .exact [b.ek, b.ea] (by simp) h' c1
    simp only [List.map, intC] at e1
    repeat' (first | refine W_seq ?_ | refine W_skip ?_ | refine W_block ?_ | refine W_ret ?_ | refine W_exit ?_ | refine W_ops (s1 := ?_) (by simp [t1, l1, e1]; exact rfl) ?_ | refine W_tops (s1 := ?_) (by simp [t1, l1, e1]; exact rfl) ?_ | refine W_cond_t (by first | (simp [t1, l1, e1]; done) | fail) ?_ | refine W_cond_f (by first | (simp [t1, l1, e1]; done) | fail) ?_ | fail)
    exact fin false _ (by simp) rfl (by simp only [badBlock, hphi, hop, c1]; rfl)
   | false =>
    have e1 := in_run' .exact [b.ek, b.ea] (by simp) h' c1
    simp only [List.map, intC] at e1
    cases c2 : [b.to].any badL with
    | true =>
     have e2 := lists_run' .exact [b.to] (by simp) (by simp; omega) h' c2
     simp only [List.map_cons, List.map_nil, listC] at e2
     repeat' (first | refine W_seq ?_ | refine W_skip ?_ | refine W_block ?_ | refine W_ret ?_ | refine W_exit ?_ | refine W_ops (s1 := ?_) (by simp [t1, l1, e1, e2]; exact rfl) ?_ | refine W_tops (s1 := ?_) (by simp [t1, l1, e1, e2]; exact rfl) ?_ | refine W_cond_t (by first | (simp [t1, l1, e1, e2]; done) | fail) ?_ | refine W_cond_f (by first | (simp [t1, l1, e1, e2]; done) | fail) ?_ | fail)
     exact fin false _ (by simp) rfl (by simp only [badBlock, hphi, hop, c1, c2]; rfl)
    | false =>
     have e2 := lists_run' .exact [b.to] (by simp) (by simp; omega) h' c2
     simp only [List.map_cons, List.map_nil, listC] at e2
     repeat' (first | refine W_seq ?_ | refine W_skip ?_ | refine W_block ?_ | refine W_ret ?_ | refine W_exit ?_ | refine W_ops (s1 := ?_) (by simp [t1, l1, e1, e2]; exact rfl) ?_ | refine W_tops (s1 := ?_) (by simp [t1, l1, e1, e2]; exact rfl) ?_ | refine W_cond_t (by first | (simp [t1, l1, e1, e2]; done) | fail) ?_ | refine W_cond_f (by first | (simp [t1, l1, e1, e2]; done) | fail) ?_ | fail)
     exact fin true _ (by simp) rfl (by simp only [badBlock, hphi, hop, c1, c2]; rfl)

end Go.Proofs.YtpbngohpklpalaaGreat

/- Which functions may be told: the size, and all of it. -/
namespace Go.Proofs.YtpbngohpklpalaaGreat
open Go.LS Go.IntWalk
def szB (b : BlockD) : Nat := b.phis.length + b.ops.length
def szS : List BlockD → Nat
 | [] => 0
 | b :: l => szB b + szS l
def FuncD.size (f : FuncD) : Nat := f.blocks.length + szS f.blocks
theorem szS_append : ∀ (a b : List BlockD), szS (a ++ b) = szS a + szS b
 | [], b => by simp [szS]
 | x :: a, b => by simp only [List.cons_append, szS, szS_append a b]; omega
theorem szS_take {l : List BlockD} {i : Nat} (h : i < l.length) : szS (l.take (i + 1)) = szS (l.take i) + szB l[i] := by
 rw [List.take_succ_eq_append_getElem h, szS_append]; simp [szS]
theorem szS_le : ∀ (l : List BlockD), (∀ b ∈ l, b.Fit) → szS l ≤ l.length * 2 ^ 41
 | [], _ => by simp [szS]
 | b :: l, h => by
  have h1 := szS_le l (fun x hx => h x (List.mem_cons_of_mem _ hx))
  obtain ⟨f1, f2, _⟩ := h b (List.mem_cons_self ..)
  simp only [szS, szB, List.length_cons]
  omega
theorem Size_run (f : FuncD) (hf : f.Fit) (h64 : f.blocks.length ≤ 64) (h : LS.Heap) : callD T 156 [.agg f.c] h = some (.int .i64 f.size, h) := by
 obtain ⟨f1, f2, f3⟩ := hf
 have hsz := szS_le f.blocks f3
 refine W_call t156 rfl rfl (by simp) ?_
 show W T c156 _ _
 unfold c156
 have hfc : f.c = [.lst .ro (f.params.map intC), .int .i64 f.ret, .lst .ro (f.blocks.map BlockD.c)] := rfl
 refine W_seq (W_ops (s1 := ?_) (by simp only [r156_0]; simp [a156, hfc, nextVer]; exact rfl) ?_)
 refine W_seq (W_ops (s1 := ?_) (by simp only [r156_1]; simp; exact rfl) ?_)
 refine W_seq (W_seq (W_ops (s1 := ?_) (by simp only [r156_2]; simp; exact rfl) ?_))
 refine W_block (W_for' l156_0.eq_1 (n := f.blocks.length) (fun i s => s.t 10 = .lst .ro (f.blocks.map BlockD.c) ∧ s.t 11 = .int .i64 f.blocks.length ∧ s.t 12 = .int .i64 i ∧ s.h = h ∧ s.t 3 = .int .i64 ((f.blocks.length + szS (f.blocks.take i) : Nat) : Int)) ⟨by simp, by simp, by simp, rfl, by simp [szS]⟩ ?_ ?_)
 ·rintro i ⟨t, loc, h'⟩ hi ⟨t10, t11, t12, rfl, t3⟩
  simp only at t10 t11 t12 t3
  have hl1 : ((i : Int) < f.blocks.length) := by omega
  have hw := i64_succ (show i < 2 ^ 62 by omega)
  have hE : BlockD.c f.blocks[i] = [.lst .ro (f.blocks[i].phis.map PhiD.c), .lst .ro (f.blocks[i].ops.map OpD.c), .int .i64 f.blocks[i].ek, .int .i64 f.blocks[i].ea, .lst .ro (f.blocks[i].to.map intC)] := rfl
  obtain ⟨g1, g2, _⟩ := f3 _ (List.getElem_mem hi)
  have hs := szS_take hi
  have hle := szS_le (f.blocks.take (i + 1)) (fun b hb => f3 b (List.mem_of_mem_take hb))
  have hlen : (f.blocks.take (i + 1)).length ≤ 64 := by simp; omega
  rw [hs] at hle
  have w1 : IntKind.i64.wrap ((f.blocks[i].phis.length : Int) + f.blocks[i].ops.length) = ((szB f.blocks[i] : Nat) : Int) := by rw [i64_in _ (by omega)]; simp [szB]
  have w2 : IntKind.i64.wrap (((f.blocks.length + szS (f.blocks.take i) : Nat) : Int) + ((szB f.blocks[i] : Nat) : Int)) = ((f.blocks.length + szS (f.blocks.take (i + 1)) : Nat) : Int) := by
   rw [hs, i64_in _ (by omega)]; omega
  simp only [Int.natCast_add] at w2 t3
  repeat' (first | refine W_seq ?_ | refine W_skip ?_ | refine W_block ?_ | refine W_ret ?_ | refine W_exit ?_ | refine W_ops (s1 := ?_) (by simp [t10, t11, t12, t3, hl1, hi, hE, hw, w1, w2]; exact rfl) ?_ | refine W_tops (s1 := ?_) (by simp [t10, t11, t12, t3, hl1, hi, hE, hw, w1, w2]; exact rfl) ?_ | refine W_cond_t (by first | (simp [t10, t11, t12, t3, hl1, hi, hE, hw, w1, w2]; done) | fail) ?_ | refine W_cond_f (by first | (simp [t10, t11, t12, t3, hl1, hi, hE, hw, w1, w2]; done) | fail) ?_ | fail)
  exact .inl ⟨rfl, by simp [t10], by simp [t11], by simp, rfl, by simp⟩
 ·rintro ⟨t, loc, h'⟩ ⟨t10, t11, t12, rfl, t3⟩
  simp only at t10 t11 t12 t3
  rw [List.take_length] at t3
  repeat' (first | refine W_seq ?_ | refine W_skip ?_ | refine W_block ?_ | refine W_ret ?_ | refine W_exit ?_ | refine W_ops (s1 := ?_) (by simp [t10, t11, t12]; exact rfl) ?_ | refine W_tops (s1 := ?_) (by simp [t10, t11, t12]; exact rfl) ?_ | refine W_cond_t (by first | (simp [t10, t11, t12]; done) | fail) ?_ | refine W_cond_f (by first | (simp [t10, t11, t12]; done) | fail) ?_ | fail)
  refine ⟨by simp, ?_⟩
  repeat' (first | refine W_seq ?_ | refine W_skip ?_ | refine W_block ?_ | refine W_ret ?_ | refine W_exit ?_ | refine W_ops (s1 := ?_) (by simp [t3]; exact rfl) ?_ | refine W_tops (s1 := ?_) (by simp [t3]; exact rfl) ?_ | refine W_cond_t (by first | (simp [t3]; done) | fail) ?_ | refine W_cond_f (by first | (simp [t3]; done) | fail) ?_ | fail)
  exact ⟨.inr rfl, [.int .i64 f.size], by simp [a156, resV, resV1, FuncD.size], by simp [a156, packV], rfl, .refl _⟩
theorem mayBlockP_run (b : BlockD) (hf : b.Fit) (h : LS.Heap) : callD T 159 [.agg b.c] h = some (.bool (badBlock b), h) := by
 have e := mayBlock_run b hf h
 have hbc : b.c = [.lst .ro (b.phis.map PhiD.c), .lst .ro (b.ops.map OpD.c), .int .i64 b.ek, .int .i64 b.ea, .lst .ro (b.to.map intC)] := rfl
 refine W_call t159 rfl rfl (by simp) ?_
 show W T c159 _ _
 unfold c159
 rw [hbc] at e ⊢
 repeat' (first | refine W_seq ?_ | refine W_skip ?_ | refine W_block ?_ | refine W_ret ?_ | refine W_exit ?_ | refine W_ops (s1 := ?_) (by simp [a159, nextVer, e]; exact rfl) ?_ | refine W_tops (s1 := ?_) (by simp [a159, nextVer, e]; exact rfl) ?_ | refine W_cond_t (by first | (simp [a159, nextVer, e]; done) | fail) ?_ | refine W_cond_f (by first | (simp [a159, nextVer, e]; done) | fail) ?_ | fail)
 exact ⟨.inr rfl, [.bool (badBlock b)], by simp [a159, resV, resV1], by simp [a159, packV], rfl, .refl _⟩
def FuncD.tells (f : FuncD) : Bool := decide (1 ≤ f.blocks.length) && (decide (f.blocks.length ≤ 64) && (decide (f.params.length ≤ 16) && (decide (f.size ≤ 512) && (!badN f.ret && (!f.params.any badN && !f.blocks.any badBlock)))))
theorem codeMay_run (f : FuncD) (hf : f.Fit) (h : LS.Heap) : callD T 102 [.agg f.c] h = some (.bool f.tells, h) := by
 have hfc : f.c = [.lst .ro (f.params.map intC), .int .i64 f.ret, .lst .ro (f.blocks.map BlockD.c)] := rfl
 have hf' := hf
 obtain ⟨f1, f2, f3⟩ := hf
 have fin : ∀ (v : Bool) (s : St), s.t 2 = .bool v → s.h = h → f.tells = v → (AExit.ret = AExit.normal ∨ AExit.ret = AExit.ret) ∧ ∃ vs, resV s a102.res = some vs ∧ (if a102.keepR = true then packV vs else (packV vs).retag) = .bool f.tells ∧ V.under h.next (.bool f.tells) = true ∧ HExt h s.h := fun v s h2 hh hb =>
  ⟨.inr rfl, [.bool v], by simp [a102, resV, resV1, h2], by simp [a102, packV, hb], rfl, by rw [hh]; exact .refl _⟩
 refine W_call t102 rfl rfl (by simp) ?_
 show W T c102 _ _
 unfold c102
 have e3 : ∀ b, f.params.any badN = b → callD T 157 [.lst .ro (f.params.map intC)] h = some (.bool (!b), h) := fun b hb => in_run' .ro f.params (by omega) h hb
 have e2 := in_run' .exact [f.ret] (by simp) h rfl
 simp only [List.map, intC, List.any, Bool.or_false] at e2
 have e4 := Contains_block BlockD.c f.blocks 159 [] badBlock h .ro (by omega) (fun _ => rfl) (by simp) rfl (fun b hb => mayBlockP_run b (f3 b hb) h)
 have e1 : f.blocks.length ≤ 64 → callD T 156 [.agg f.c] h = some (.int .i64 f.size, h) := fun h64 => Size_run f hf' h64 h
 rw [hfc] at e1 ⊢
 by_cases c1 : 1 ≤ f.blocks.length
 case neg =>
  have c1' : (f.blocks.length : Int) < 1 := by omega
  have c1n : f.blocks.length < 1 := by omega
  repeat' (first | refine W_seq ?_ | refine W_skip ?_ | refine W_block ?_ | refine W_ret ?_ | refine W_exit ?_ | refine W_ops (s1 := ?_) (by simp [a102, nextVer, c1', c1n]; exact rfl) ?_ | refine W_tops (s1 := ?_) (by simp [a102, nextVer, c1', c1n]; exact rfl) ?_ | refine W_cond_t (by first | (simp [a102, nextVer, c1', c1n]; done) | fail) ?_ | refine W_cond_f (by first | (simp [a102, nextVer, c1', c1n]; done) | fail) ?_ | fail)
  exact fin false _ (by simp) rfl (by simp [FuncD.tells, c1])
 have c1' : ¬ (f.blocks.length : Int) < 1 := by omega
 have c1n : ¬ f.blocks.length < 1 := by omega
 by_cases c2 : f.blocks.length ≤ 64
 case neg =>
  have c2' : (64 : Int) < f.blocks.length := by omega
  have c2n : 64 < f.blocks.length := by omega
  repeat' (first | refine W_seq ?_ | refine W_skip ?_ | refine W_block ?_ | refine W_ret ?_ | refine W_exit ?_ | refine W_ops (s1 := ?_) (by simp [a102, nextVer, c1', c1n, c2', c2n]; exact rfl) ?_ | refine W_tops (s1 := ?_) (by simp [a102, nextVer, c1', c1n, c2', c2n]; exact rfl) ?_ | refine W_cond_t (by first | (simp [a102, nextVer, c1', c1n, c2', c2n]; done) | fail) ?_ | refine W_cond_f (by first | (simp [a102, nextVer, c1', c1n, c2', c2n]; done) | fail) ?_ | fail)
  exact fin false _ (by simp) rfl (by simp [FuncD.tells, c2])
 have c2' : ¬ (64 : Int) < f.blocks.length := by omega
 have c2n : ¬ 64 < f.blocks.length := by omega
 have e1 := e1 c2
 by_cases c3 : f.params.length ≤ 16
 case neg =>
  have c3' : (16 : Int) < f.params.length := by omega
  have c3n : 16 < f.params.length := by omega
  repeat' (first | refine W_seq ?_ | refine W_skip ?_ | refine W_block ?_ | refine W_ret ?_ | refine W_exit ?_ | refine W_ops (s1 := ?_) (by simp [a102, nextVer, c1', c1n, c2', c2n, c3', c3n]; exact rfl) ?_ | refine W_tops (s1 := ?_) (by simp [a102, nextVer, c1', c1n, c2', c2n, c3', c3n]; exact rfl) ?_ | refine W_cond_t (by first | (simp [a102, nextVer, c1', c1n, c2', c2n, c3', c3n]; done) | fail) ?_ | refine W_cond_f (by first | (simp [a102, nextVer, c1', c1n, c2', c2n, c3', c3n]; done) | fail) ?_ | fail)
  exact fin false _ (by simp) rfl (by simp [FuncD.tells, c3])
 have c3' : ¬ (16 : Int) < f.params.length := by omega
 have c3n : ¬ 16 < f.params.length := by omega
 by_cases c4 : f.size ≤ 512
 case neg =>
  have c4' : (512 : Int) < f.size := by omega
  have c4n : 512 < f.size := by omega
  repeat' (first | refine W_seq ?_ | refine W_skip ?_ | refine W_block ?_ | refine W_ret ?_ | refine W_exit ?_ | refine W_ops (s1 := ?_) (by simp [a102, nextVer, c1', c1n, c2', c2n, c3', c3n, e1, c4', c4n]; exact rfl) ?_ | refine W_tops (s1 := ?_) (by simp [a102, nextVer, c1', c1n, c2', c2n, c3', c3n, e1, c4', c4n]; exact rfl) ?_ | refine W_cond_t (by first | (simp [a102, nextVer, c1', c1n, c2', c2n, c3', c3n, e1, c4', c4n]; done) | fail) ?_ | refine W_cond_f (by first | (simp [a102, nextVer, c1', c1n, c2', c2n, c3', c3n, e1, c4', c4n]; done) | fail) ?_ | fail)
  exact fin false _ (by simp) rfl (by simp [FuncD.tells, c4])
 have c4' : ¬ (512 : Int) < f.size := by omega
 have c4n : ¬ 512 < f.size := by omega
 cases c5 : badN f.ret with
 | true =>
  rw [c5] at e2
  repeat' (first | refine W_seq ?_ | refine W_skip ?_ | refine W_block ?_ | refine W_ret ?_ | refine W_exit ?_ | refine W_ops (s1 := ?_) (by simp [a102, nextVer, c1', c1n, c2', c2n, c3', c3n, e1, c4', c4n, e2]; exact rfl) ?_ | refine W_tops (s1 := ?_) (by simp [a102, nextVer, c1', c1n, c2', c2n, c3', c3n, e1, c4', c4n, e2]; exact rfl) ?_ | refine W_cond_t (by first | (simp [a102, nextVer, c1', c1n, c2', c2n, c3', c3n, e1, c4', c4n, e2]; done) | fail) ?_ | refine W_cond_f (by first | (simp [a102, nextVer, c1', c1n, c2', c2n, c3', c3n, e1, c4', c4n, e2]; done) | fail) ?_ | fail)
  exact fin false _ (by simp) rfl (by simp [FuncD.tells, c5])
 | false =>
  rw [c5] at e2
  cases c6 : f.params.any badN with
  | true =>
   have e3 := e3 _ c6
   repeat' (first | refine W_seq ?_ | refine W_skip ?_ | refine W_block ?_ | refine W_ret ?_ | refine W_exit ?_ | refine W_ops (s1 := ?_) (by simp [a102, nextVer, c1', c1n, c2', c2n, c3', c3n, e1, c4', c4n, e2, e3]; exact rfl) ?_ | refine W_tops (s1 := ?_) (by simp [a102, nextVer, c1', c1n, c2', c2n, c3', c3n, e1, c4', c4n, e2, e3]; exact rfl) ?_ | refine W_cond_t (by first | (simp [a102, nextVer, c1', c1n, c2', c2n, c3', c3n, e1, c4', c4n, e2, e3]; done) | fail) ?_ | refine W_cond_f (by first | (simp [a102, nextVer, c1', c1n, c2', c2n, c3', c3n, e1, c4', c4n, e2, e3]; done) | fail) ?_ | fail)
   exact fin false _ (by simp) rfl (by simp only [FuncD.tells, c6]; simp)
  | false =>
   have e3 := e3 _ c6
   repeat' (first | refine W_seq ?_ | refine W_skip ?_ | refine W_block ?_ | refine W_ret ?_ | refine W_exit ?_ | refine W_ops (s1 := ?_) (by simp [a102, nextVer, c1', c1n, c2', c2n, c3', c3n, e1, c4', c4n, e2, e3, e4]; exact rfl) ?_ | refine W_tops (s1 := ?_) (by simp [a102, nextVer, c1', c1n, c2', c2n, c3', c3n, e1, c4', c4n, e2, e3, e4]; exact rfl) ?_ | refine W_cond_t (by first | (simp [a102, nextVer, c1', c1n, c2', c2n, c3', c3n, e1, c4', c4n, e2, e3, e4]; done) | fail) ?_ | refine W_cond_f (by first | (simp [a102, nextVer, c1', c1n, c2', c2n, c3', c3n, e1, c4', c4n, e2, e3, e4]; done) | fail) ?_ | fail)
   exact fin (!f.blocks.any badBlock) _ (by simp) rfl (by simp only [FuncD.tells, c1, c2, c3, c4, c5, c6]; simp)

end Go.Proofs.YtpbngohpklpalaaGreat

/- Widths, shapes, values; numbers that are cut. -/
namespace Go.Proofs.YtpbngohpklpalaaGreat
open Go.LS Go.IntWalk
def widthB (n : Int) : Bool := decide (n = 1) || (decide (n = 8) || (decide (n = 16) || (decide (n = 32) || decide (n = 64))))
theorem width_cases {n : Int} (h : widthB n = true) : n = 1 ∨ n = 8 ∨ n = 16 ∨ n = 32 ∨ n = 64 := by simpa [widthB] using h
theorem wordMay_run (n : Int) (h : LS.Heap) : callD T 127 [.int .i64 n] h = some (.bool (widthB n), h) := by
 have fin : ∀ (v : Bool) (s : St), s.t 2 = .bool v → s.h = h → widthB n = v → (AExit.ret = AExit.normal ∨ AExit.ret = AExit.ret) ∧ ∃ vs, resV s a127.res = some vs ∧ (if a127.keepR = true then packV vs else (packV vs).retag) = .bool (widthB n) ∧ V.under h.next (.bool (widthB n)) = true ∧ HExt h s.h := fun v s h2 hh hb =>
  ⟨.inr rfl, [.bool v], by simp [a127, resV, resV1, h2], by simp [a127, packV, hb], rfl, by rw [hh]; exact .refl _⟩
 refine W_call t127 rfl rfl (by simp) ?_
 show W T c127 _ _
 unfold c127
 by_cases c1 : n = 1
 ·subst c1
  repeat' (first | refine W_seq ?_ | refine W_skip ?_ | refine W_block ?_ | refine W_ret ?_ | refine W_exit ?_ | refine W_ops (s1 := ?_) (by simp [a127]; exact rfl) ?_ | refine W_tops (s1 := ?_) (by simp [a127]; exact rfl) ?_ | refine W_cond_t (by first | (simp [a127]; done) | fail) ?_ | refine W_cond_f (by first | (simp [a127]; done) | fail) ?_ | fail)
  exact fin true _ (by simp) rfl rfl

 by_cases c8 : n = 8
 ·subst c8
  repeat' (first | refine W_seq ?_ | refine W_skip ?_ | refine W_block ?_ | refine W_ret ?_ | refine W_exit ?_ | refine W_ops (s1 := ?_) (by simp [a127]; exact rfl) ?_ | refine W_tops (s1 := ?_) (by simp [a127]; exact rfl) ?_ | refine W_cond_t (by first | (simp [a127]; done) | fail) ?_ | refine W_cond_f (by first | (simp [a127]; done) | fail) ?_ | fail)
  exact fin true _ (by simp) rfl rfl

 by_cases c16 : n = 16
 ·subst c16
  repeat' (first | refine W_seq ?_ | refine W_skip ?_ | refine W_block ?_ | refine W_ret ?_ | refine W_exit ?_ | refine W_ops (s1 := ?_) (by simp [a127]; exact rfl) ?_ | refine W_tops (s1 := ?_) (by simp [a127]; exact rfl) ?_ | refine W_cond_t (by first | (simp [a127]; done) | fail) ?_ | refine W_cond_f (by first | (simp [a127]; done) | fail) ?_ | fail)
  exact fin true _ (by simp) rfl rfl

 by_cases c32 : n = 32
 ·subst c32
  repeat' (first | refine W_seq ?_ | refine W_skip ?_ | refine W_block ?_ | refine W_ret ?_ | refine W_exit ?_ | refine W_ops (s1 := ?_) (by simp [a127]; exact rfl) ?_ | refine W_tops (s1 := ?_) (by simp [a127]; exact rfl) ?_ | refine W_cond_t (by first | (simp [a127]; done) | fail) ?_ | refine W_cond_f (by first | (simp [a127]; done) | fail) ?_ | fail)
  exact fin true _ (by simp) rfl rfl

 by_cases c64 : n = 64
 ·subst c64
  repeat' (first | refine W_seq ?_ | refine W_skip ?_ | refine W_block ?_ | refine W_ret ?_ | refine W_exit ?_ | refine W_ops (s1 := ?_) (by simp [a127]; exact rfl) ?_ | refine W_tops (s1 := ?_) (by simp [a127]; exact rfl) ?_ | refine W_cond_t (by first | (simp [a127]; done) | fail) ?_ | refine W_cond_f (by first | (simp [a127]; done) | fail) ?_ | fail)
  exact fin true _ (by simp) rfl rfl
 repeat' (first | refine W_seq ?_ | refine W_skip ?_ | refine W_block ?_ | refine W_ret ?_ | refine W_exit ?_ | refine W_ops (s1 := ?_) (by simp [a127, c1, c8, c16, c32, c64]; exact rfl) ?_ | refine W_tops (s1 := ?_) (by simp [a127, c1, c8, c16, c32, c64]; exact rfl) ?_ | refine W_cond_t (by first | (simp [a127, c1, c8, c16, c32, c64]; done) | fail) ?_ | refine W_cond_f (by first | (simp [a127, c1, c8, c16, c32, c64]; done) | fail) ?_ | fail)
 exact fin false _ (by simp) rfl (by simp [widthB, c1, c8, c16, c32, c64])
def shapeB (bits lanes : Int) : Bool := widthB bits && (decide (lanes = 1) || ((decide (lanes = 2) || (decide (lanes = 4) || (decide (lanes = 8) || decide (lanes = 16)))) && (decide (8 ≤ bits) && decide (bits * lanes ≤ 128))))
theorem Shape_run (bits lanes : Int) (h : LS.Heap) : callD T 80 [.int .i64 bits, .int .i64 lanes] h = some (.bool (shapeB bits lanes), h) := by
 have fin : ∀ (v : Bool) (s : St), s.t 4 = .bool v → s.h = h → shapeB bits lanes = v → (AExit.ret = AExit.normal ∨ AExit.ret = AExit.ret) ∧ ∃ vs, resV s a80.res = some vs ∧ (if a80.keepR = true then packV vs else (packV vs).retag) = .bool (shapeB bits lanes) ∧ V.under h.next (.bool (shapeB bits lanes)) = true ∧ HExt h s.h := fun v s h2 hh hb =>
  ⟨.inr rfl, [.bool v], by simp [a80, resV, resV1, h2], by simp [a80, packV, hb], rfl, by rw [hh]; exact .refl _⟩
 have e := wordMay_run bits h
 refine W_call t80 rfl rfl (by simp) ?_
 show W T c80 _ _
 unfold c80
 cases cw : widthB bits with
 | false =>
  rw [cw] at e
  repeat' (first | refine W_seq ?_ | refine W_skip ?_ | refine W_block ?_ | refine W_ret ?_ | refine W_exit ?_ | refine W_ops (s1 := ?_) (by simp [a80, e]; exact rfl) ?_ | refine W_tops (s1 := ?_) (by simp [a80, e]; exact rfl) ?_ | refine W_cond_t (by first | (simp [a80, e]; done) | fail) ?_ | refine W_cond_f (by first | (simp [a80, e]; done) | fail) ?_ | fail)
  exact fin false _ (by simp) rfl (by simp [shapeB, cw])
 | true =>
  rw [cw] at e
  by_cases l1 : lanes = 1
  ·subst l1
   repeat' (first | refine W_seq ?_ | refine W_skip ?_ | refine W_block ?_ | refine W_ret ?_ | refine W_exit ?_ | refine W_ops (s1 := ?_) (by simp [a80, e]; exact rfl) ?_ | refine W_tops (s1 := ?_) (by simp [a80, e]; exact rfl) ?_ | refine W_cond_t (by first | (simp [a80, e]; done) | fail) ?_ | refine W_cond_f (by first | (simp [a80, e]; done) | fail) ?_ | fail)
   exact fin true _ (by simp) rfl (by simp [shapeB, cw])
  have hb := width_cases cw
  by_cases l2 : lanes = 2
  ·subst l2
   have w : IntKind.i64.wrap (bits * 2) = bits * 2 := i64_in _ (by omega)
   by_cases b8 : 8 ≤ bits
   ·skip
    repeat' (first | refine W_seq ?_ | refine W_skip ?_ | refine W_block ?_ | refine W_ret ?_ | refine W_exit ?_ | refine W_ops (s1 := ?_) (by simp [a80, e, b8, w]; exact rfl) ?_ | refine W_tops (s1 := ?_) (by simp [a80, e, b8, w]; exact rfl) ?_ | refine W_cond_t (by first | (simp [a80, e, b8, w]; done) | fail) ?_ | refine W_cond_f (by first | (simp [a80, e, b8, w]; done) | fail) ?_ | fail)
    exact fin (decide (bits * 2 ≤ 128)) _ (by simp) rfl (by simp [shapeB, cw, b8])
   ·skip
    repeat' (first | refine W_seq ?_ | refine W_skip ?_ | refine W_block ?_ | refine W_ret ?_ | refine W_exit ?_ | refine W_ops (s1 := ?_) (by simp [a80, e, b8, w]; exact rfl) ?_ | refine W_tops (s1 := ?_) (by simp [a80, e, b8, w]; exact rfl) ?_ | refine W_cond_t (by first | (simp [a80, e, b8, w]; done) | fail) ?_ | refine W_cond_f (by first | (simp [a80, e, b8, w]; done) | fail) ?_ | fail)
    exact fin false _ (by simp) rfl (by simp [shapeB, cw, b8])

  by_cases l4 : lanes = 4
  ·subst l4
   have w : IntKind.i64.wrap (bits * 4) = bits * 4 := i64_in _ (by omega)
   by_cases b8 : 8 ≤ bits
   ·skip
    repeat' (first | refine W_seq ?_ | refine W_skip ?_ | refine W_block ?_ | refine W_ret ?_ | refine W_exit ?_ | refine W_ops (s1 := ?_) (by simp [a80, e, b8, w]; exact rfl) ?_ | refine W_tops (s1 := ?_) (by simp [a80, e, b8, w]; exact rfl) ?_ | refine W_cond_t (by first | (simp [a80, e, b8, w]; done) | fail) ?_ | refine W_cond_f (by first | (simp [a80, e, b8, w]; done) | fail) ?_ | fail)
    exact fin (decide (bits * 4 ≤ 128)) _ (by simp) rfl (by simp [shapeB, cw, b8])
   ·skip
    repeat' (first | refine W_seq ?_ | refine W_skip ?_ | refine W_block ?_ | refine W_ret ?_ | refine W_exit ?_ | refine W_ops (s1 := ?_) (by simp [a80, e, b8, w]; exact rfl) ?_ | refine W_tops (s1 := ?_) (by simp [a80, e, b8, w]; exact rfl) ?_ | refine W_cond_t (by first | (simp [a80, e, b8, w]; done) | fail) ?_ | refine W_cond_f (by first | (simp [a80, e, b8, w]; done) | fail) ?_ | fail)
    exact fin false _ (by simp) rfl (by simp [shapeB, cw, b8])

  by_cases l8 : lanes = 8
  ·subst l8
   have w : IntKind.i64.wrap (bits * 8) = bits * 8 := i64_in _ (by omega)
   by_cases b8 : 8 ≤ bits
   ·skip
    repeat' (first | refine W_seq ?_ | refine W_skip ?_ | refine W_block ?_ | refine W_ret ?_ | refine W_exit ?_ | refine W_ops (s1 := ?_) (by simp [a80, e, b8, w]; exact rfl) ?_ | refine W_tops (s1 := ?_) (by simp [a80, e, b8, w]; exact rfl) ?_ | refine W_cond_t (by first | (simp [a80, e, b8, w]; done) | fail) ?_ | refine W_cond_f (by first | (simp [a80, e, b8, w]; done) | fail) ?_ | fail)
    exact fin (decide (bits * 8 ≤ 128)) _ (by simp) rfl (by simp [shapeB, cw, b8])
   ·skip
    repeat' (first | refine W_seq ?_ | refine W_skip ?_ | refine W_block ?_ | refine W_ret ?_ | refine W_exit ?_ | refine W_ops (s1 := ?_) (by simp [a80, e, b8, w]; exact rfl) ?_ | refine W_tops (s1 := ?_) (by simp [a80, e, b8, w]; exact rfl) ?_ | refine W_cond_t (by first | (simp [a80, e, b8, w]; done) | fail) ?_ | refine W_cond_f (by first | (simp [a80, e, b8, w]; done) | fail) ?_ | fail)
    exact fin false _ (by simp) rfl (by simp [shapeB, cw, b8])

  by_cases l16 : lanes = 16
  ·subst l16
   have w : IntKind.i64.wrap (bits * 16) = bits * 16 := i64_in _ (by omega)
   by_cases b8 : 8 ≤ bits
   ·skip
    repeat' (first | refine W_seq ?_ | refine W_skip ?_ | refine W_block ?_ | refine W_ret ?_ | refine W_exit ?_ | refine W_ops (s1 := ?_) (by simp [a80, e, b8, w]; exact rfl) ?_ | refine W_tops (s1 := ?_) (by simp [a80, e, b8, w]; exact rfl) ?_ | refine W_cond_t (by first | (simp [a80, e, b8, w]; done) | fail) ?_ | refine W_cond_f (by first | (simp [a80, e, b8, w]; done) | fail) ?_ | fail)
    exact fin (decide (bits * 16 ≤ 128)) _ (by simp) rfl (by simp [shapeB, cw, b8])
   ·skip
    repeat' (first | refine W_seq ?_ | refine W_skip ?_ | refine W_block ?_ | refine W_ret ?_ | refine W_exit ?_ | refine W_ops (s1 := ?_) (by simp [a80, e, b8, w]; exact rfl) ?_ | refine W_tops (s1 := ?_) (by simp [a80, e, b8, w]; exact rfl) ?_ | refine W_cond_t (by first | (simp [a80, e, b8, w]; done) | fail) ?_ | refine W_cond_f (by first | (simp [a80, e, b8, w]; done) | fail) ?_ | fail)
    exact fin false _ (by simp) rfl (by simp [shapeB, cw, b8])
  repeat' (first | refine W_seq ?_ | refine W_skip ?_ | refine W_block ?_ | refine W_ret ?_ | refine W_exit ?_ | refine W_ops (s1 := ?_) (by simp [a80, e, l1, l2, l4, l8, l16]; exact rfl) ?_ | refine W_tops (s1 := ?_) (by simp [a80, e, l1, l2, l4, l8, l16]; exact rfl) ?_ | refine W_cond_t (by first | (simp [a80, e, l1, l2, l4, l8, l16]; done) | fail) ?_ | refine W_cond_f (by first | (simp [a80, e, l1, l2, l4, l8, l16]; done) | fail) ?_ | fail)
  exact fin false _ (by simp) rfl (by simp [shapeB, cw, l1, l2, l4, l8, l16])
def valueB (v : Int) : Bool := decide (1 ≤ v) && decide (v ≤ 1023)
theorem value_run (v : Int) (h : LS.Heap) : callD T 232 [.int .i64 v] h = some (.bool (valueB v), h) := by
 refine W_call t232 rfl rfl (by simp) ?_
 show W T c232 _ _
 unfold c232
 by_cases c : 1 ≤ v
 ·skip
  repeat' (first | refine W_seq ?_ | refine W_skip ?_ | refine W_block ?_ | refine W_ret ?_ | refine W_exit ?_ | refine W_ops (s1 := ?_) (by simp [a232, c]; exact rfl) ?_ | refine W_tops (s1 := ?_) (by simp [a232, c]; exact rfl) ?_ | refine W_cond_t (by first | (simp [a232, c]; done) | fail) ?_ | refine W_cond_f (by first | (simp [a232, c]; done) | fail) ?_ | fail)
  exact ⟨.inr rfl, [.bool (valueB v)], by simp [a232, resV, resV1, valueB, c], by simp [a232, packV], rfl, .refl _⟩
 ·skip
  repeat' (first | refine W_seq ?_ | refine W_skip ?_ | refine W_block ?_ | refine W_ret ?_ | refine W_exit ?_ | refine W_ops (s1 := ?_) (by simp [a232, c]; exact rfl) ?_ | refine W_tops (s1 := ?_) (by simp [a232, c]; exact rfl) ?_ | refine W_cond_t (by first | (simp [a232, c]; done) | fail) ?_ | refine W_cond_f (by first | (simp [a232, c]; done) | fail) ?_ | fail)
  exact ⟨.inr rfl, [.bool (valueB v)], by simp [a232, resV, resV1, valueB, c], by simp [a232, packV], rfl, .refl _⟩
theorem valueP_run (v : Int) (h : LS.Heap) : callD T 233 [.int .i64 v] h = some (.bool (!valueB v), h) := by
 have e := value_run v h
 refine W_call t233 rfl rfl (by simp) ?_
 show W T c233 _ _
 unfold c233
 repeat' (first | refine W_seq ?_ | refine W_skip ?_ | refine W_block ?_ | refine W_ret ?_ | refine W_exit ?_ | refine W_ops (s1 := ?_) (by simp [a233, e]; exact rfl) ?_ | refine W_tops (s1 := ?_) (by simp [a233, e]; exact rfl) ?_ | refine W_cond_t (by first | (simp [a233, e]; done) | fail) ?_ | refine W_cond_f (by first | (simp [a233, e]; done) | fail) ?_ | fail)
 exact ⟨.inr rfl, [.bool (!valueB v)], by simp [a233, resV, resV1], by simp [a233, packV], rfl, .refl _⟩
def storesB (k : Int) : Bool := decide (k = 17) || decide (k = 19)
theorem stores_run (k : Int) (h : LS.Heap) : callD T 217 [.int .i64 k] h = some (.bool (storesB k), h) := by
 refine W_call t217 rfl rfl (by simp) ?_
 show W T c217 _ _
 unfold c217
 by_cases c : k = 17
 ·skip
  repeat' (first | refine W_seq ?_ | refine W_skip ?_ | refine W_block ?_ | refine W_ret ?_ | refine W_exit ?_ | refine W_ops (s1 := ?_) (by simp [a217, c]; exact rfl) ?_ | refine W_tops (s1 := ?_) (by simp [a217, c]; exact rfl) ?_ | refine W_cond_t (by first | (simp [a217, c]; done) | fail) ?_ | refine W_cond_f (by first | (simp [a217, c]; done) | fail) ?_ | fail)
  exact ⟨.inr rfl, [.bool (storesB k)], by simp [a217, resV, resV1, storesB, c], by simp [a217, packV], rfl, .refl _⟩
 ·skip
  repeat' (first | refine W_seq ?_ | refine W_skip ?_ | refine W_block ?_ | refine W_ret ?_ | refine W_exit ?_ | refine W_ops (s1 := ?_) (by simp [a217, c]; exact rfl) ?_ | refine W_tops (s1 := ?_) (by simp [a217, c]; exact rfl) ?_ | refine W_cond_t (by first | (simp [a217, c]; done) | fail) ?_ | refine W_cond_f (by first | (simp [a217, c]; done) | fail) ?_ | fail)
  exact ⟨.inr rfl, [.bool (storesB k)], by simp [a217, resV, resV1, storesB, c], by simp [a217, packV], rfl, .refl _⟩
def cutU (v bits : Int) : Int := if bits = 1 then v % 2 else if bits = 8 then v % 256 else if bits = 16 then v % 65536 else if bits = 32 then v % 4294967296 else if bits = 64 then v else 0
theorem u64_wrap' (n : Int) : IntKind.u64.wrap n = n % 18446744073709551616 := by simp [IntKind.wrap, IntKind.bits, IntKind.signed]
theorem Cut_run (v bits : Int) (hv : 0 ≤ v ∧ v < 18446744073709551616) (h : LS.Heap) : callD T 240 [.int .u64 v, .int .i64 bits] h = some (.int .u64 (cutU v bits), h) := by
 have e := wordMay_run bits h
 refine W_call t240 rfl rfl (by simp) ?_
 show W T c240 _ _
 unfold c240
 by_cases c1 : bits = 1
 ·subst c1
  have w : IntKind.i64.wrap 63 = 63 := i64_in _ (by omega)
  have w2 : widthB 1 = true := rfl
  rw [w2] at e
  repeat' (first | refine W_seq ?_ | refine W_skip ?_ | refine W_block ?_ | refine W_ret ?_ | refine W_exit ?_ | refine W_ops (s1 := ?_) (by simp [a240, e, w, IntKind.bits]; exact rfl) ?_ | refine W_tops (s1 := ?_) (by simp [a240, e, w, IntKind.bits]; exact rfl) ?_ | refine W_cond_t (by first | (simp [a240, e, w, IntKind.bits]; done) | fail) ?_ | refine W_cond_f (by first | (simp [a240, e, w, IntKind.bits]; done) | fail) ?_ | fail)
  refine ⟨.inr rfl, [.int .u64 (cutU v 1)], ?_, by simp [a240, packV], rfl, .refl _⟩
  simp [a240, resV, resV1, cutU, u64_wrap', Int.fdiv_eq_ediv_of_nonneg]
  try omega

 by_cases c8 : bits = 8
 ·subst c8
  have w : IntKind.i64.wrap 56 = 56 := i64_in _ (by omega)
  have w2 : widthB 8 = true := rfl
  rw [w2] at e
  repeat' (first | refine W_seq ?_ | refine W_skip ?_ | refine W_block ?_ | refine W_ret ?_ | refine W_exit ?_ | refine W_ops (s1 := ?_) (by simp [a240, e, w, IntKind.bits]; exact rfl) ?_ | refine W_tops (s1 := ?_) (by simp [a240, e, w, IntKind.bits]; exact rfl) ?_ | refine W_cond_t (by first | (simp [a240, e, w, IntKind.bits]; done) | fail) ?_ | refine W_cond_f (by first | (simp [a240, e, w, IntKind.bits]; done) | fail) ?_ | fail)
  refine ⟨.inr rfl, [.int .u64 (cutU v 8)], ?_, by simp [a240, packV], rfl, .refl _⟩
  simp [a240, resV, resV1, cutU, u64_wrap', Int.fdiv_eq_ediv_of_nonneg]
  try omega

 by_cases c16 : bits = 16
 ·subst c16
  have w : IntKind.i64.wrap 48 = 48 := i64_in _ (by omega)
  have w2 : widthB 16 = true := rfl
  rw [w2] at e
  repeat' (first | refine W_seq ?_ | refine W_skip ?_ | refine W_block ?_ | refine W_ret ?_ | refine W_exit ?_ | refine W_ops (s1 := ?_) (by simp [a240, e, w, IntKind.bits]; exact rfl) ?_ | refine W_tops (s1 := ?_) (by simp [a240, e, w, IntKind.bits]; exact rfl) ?_ | refine W_cond_t (by first | (simp [a240, e, w, IntKind.bits]; done) | fail) ?_ | refine W_cond_f (by first | (simp [a240, e, w, IntKind.bits]; done) | fail) ?_ | fail)
  refine ⟨.inr rfl, [.int .u64 (cutU v 16)], ?_, by simp [a240, packV], rfl, .refl _⟩
  simp [a240, resV, resV1, cutU, u64_wrap', Int.fdiv_eq_ediv_of_nonneg]
  try omega

 by_cases c32 : bits = 32
 ·subst c32
  have w : IntKind.i64.wrap 32 = 32 := i64_in _ (by omega)
  have w2 : widthB 32 = true := rfl
  rw [w2] at e
  repeat' (first | refine W_seq ?_ | refine W_skip ?_ | refine W_block ?_ | refine W_ret ?_ | refine W_exit ?_ | refine W_ops (s1 := ?_) (by simp [a240, e, w, IntKind.bits]; exact rfl) ?_ | refine W_tops (s1 := ?_) (by simp [a240, e, w, IntKind.bits]; exact rfl) ?_ | refine W_cond_t (by first | (simp [a240, e, w, IntKind.bits]; done) | fail) ?_ | refine W_cond_f (by first | (simp [a240, e, w, IntKind.bits]; done) | fail) ?_ | fail)
  refine ⟨.inr rfl, [.int .u64 (cutU v 32)], ?_, by simp [a240, packV], rfl, .refl _⟩
  simp [a240, resV, resV1, cutU, u64_wrap', Int.fdiv_eq_ediv_of_nonneg]
  try omega

 by_cases c64 : bits = 64
 ·subst c64
  have w : IntKind.i64.wrap 0 = 0 := i64_in _ (by omega)
  have w2 : widthB 64 = true := rfl
  rw [w2] at e
  repeat' (first | refine W_seq ?_ | refine W_skip ?_ | refine W_block ?_ | refine W_ret ?_ | refine W_exit ?_ | refine W_ops (s1 := ?_) (by simp [a240, e, w, IntKind.bits]; exact rfl) ?_ | refine W_tops (s1 := ?_) (by simp [a240, e, w, IntKind.bits]; exact rfl) ?_ | refine W_cond_t (by first | (simp [a240, e, w, IntKind.bits]; done) | fail) ?_ | refine W_cond_f (by first | (simp [a240, e, w, IntKind.bits]; done) | fail) ?_ | fail)
  refine ⟨.inr rfl, [.int .u64 (cutU v 64)], ?_, by simp [a240, packV], rfl, .refl _⟩
  simp [a240, resV, resV1, cutU, u64_wrap', Int.fdiv_eq_ediv_of_nonneg]
  try omega
 have w2 : widthB bits = false := by simp [widthB, c1, c8, c16, c32, c64]
 rw [w2] at e
 repeat' (first | refine W_seq ?_ | refine W_skip ?_ | refine W_block ?_ | refine W_ret ?_ | refine W_exit ?_ | refine W_ops (s1 := ?_) (by simp [a240, e]; exact rfl) ?_ | refine W_tops (s1 := ?_) (by simp [a240, e]; exact rfl) ?_ | refine W_cond_t (by first | (simp [a240, e]; done) | fail) ?_ | refine W_cond_f (by first | (simp [a240, e]; done) | fail) ?_ | fail)
 exact ⟨.inr rfl, [.int .u64 (cutU v bits)], by simp [a240, resV, resV1, cutU, c1, c8, c16, c32, c64], by simp [a240, packV], rfl, .refl _⟩

end Go.Proofs.YtpbngohpklpalaaGreat

/- What operations take (but for those that pack). -/
namespace Go.Proofs.YtpbngohpklpalaaGreat
open Go.LS Go.IntWalk
def shapeC (p : Int × Int) : List V := [.int .i64 p.1, .int .i64 p.2]
@[simp] theorem retag_shape (l : List (Int × Int)) : V.retagLL (l.map shapeC) = l.map shapeC := retagLL_enc _ (fun _ => rfl) _
@[simp] theorem under_shape (n : Nat) (l : List (Int × Int)) : V.underLL n (l.map shapeC) = true := underLL_enc _ _ (fun _ => rfl) _
def OpD.one (o : OpD) : Bool := decide (o.lanes = 1)
def OpD.mem (o : OpD) : Bool := decide (8 ≤ o.bits)
def OpD.no (o : OpD) : Bool := decide (o.imm = 0)
def takesM (o : OpD) : List (Int × Int) × Bool :=
 if o.kind = 0 then ([], decide (cutU o.imm o.bits = o.imm))
 else if o.kind = 1 ∨ o.kind = 2 ∨ o.kind = 3 ∨ o.kind = 5 ∨ o.kind = 6 ∨ o.kind = 7 ∨ o.kind = 8 ∨ o.kind = 9 then ([(o.bits, o.lanes), (o.bits, o.lanes)], o.no)
 else if o.kind = 4 ∨ o.kind = 10 ∨ o.kind = 11 ∨ o.kind = 12 then ([(o.bits, o.lanes), (o.bits, o.lanes)], o.no && o.one)
 else if o.kind = 13 then ([(1, 1), (o.bits, o.lanes), (o.bits, o.lanes)], o.no)
 else if o.kind = 14 then ([(min o.imm 128, 1)], o.one && (decide (o.imm < IntKind.u64.wrap o.bits) && widthB (IntKind.i64.wrap o.imm)))
 else if o.kind = 15 then ([(min o.imm 128, 1)], o.one && (decide (IntKind.u64.wrap o.bits < o.imm) && (decide (o.imm ≤ 64) && widthB (IntKind.i64.wrap o.imm))))
 else if o.kind = 16 then ([(64, 1)], o.no && o.mem)
 else if o.kind = 17 then ([(64, 1), (o.bits, o.lanes)], o.no && o.mem)
 else if o.kind = 18 ∨ o.kind = 19 then ([(1, 1), (64, 1), (o.bits, o.lanes)], o.no && (o.one && o.mem))
 else if o.kind = 20 then ([(1, 1), (o.bits, o.lanes), (o.bits, o.lanes), (o.bits, o.lanes)], o.no && o.one)
 else if o.kind = 21 then (List.replicate o.lanes.toNat (o.bits, 1), o.no && !o.one)
 else if o.kind = 22 then ([(o.bits, o.lanes)], !o.one && decide (o.imm < IntKind.u64.wrap o.lanes))
 else ([], false)
theorem row_run (tg : Tag) (l : List (Int × Int)) (h : LS.Heap) : callD T 241 [.lst tg (l.map shapeC)] h = some (.lst .ro (l.map shapeC), h) := by
 refine W_call t241 rfl rfl (by simp) ?_
 show W T c241 _ _
 unfold c241
 repeat' (first | refine W_seq ?_ | refine W_skip ?_ | refine W_block ?_ | refine W_ret ?_ | refine W_exit ?_ | refine W_ops (s1 := ?_) (by simp [a241]; exact rfl) ?_ | refine W_tops (s1 := ?_) (by simp [a241]; exact rfl) ?_ | refine W_cond_t (by first | (simp [a241]; done) | fail) ?_ | refine W_cond_f (by first | (simp [a241]; done) | fail) ?_ | fail)
 exact ⟨.inr rfl, [.lst .ro (l.map shapeC)], by simp [a241, resV, resV1], by simp [a241, packV], by simp, .refl _⟩
theorem row_run' (tg : Tag) (l : List (Int × Int)) (h : LS.Heap) {r : List (List V)} (hr : r = l.map shapeC) : callD T 241 [.lst tg r] h = some (.lst .ro r, h) := by
 rw [hr]; exact row_run tg l h
def takesFin (o : OpD) (h : LS.Heap) (r : List (Int × Int) × Bool) : Prop := ∀ (s : St) (l : List (List V)) (v : Bool) (tg : Tag), s.t 2 = .lst tg l → s.t 3 = .bool v → s.h = h → l = r.1.map shapeC → v = r.2 →
 (AExit.ret = AExit.normal ∨ AExit.ret = AExit.ret) ∧ ∃ vs, resV s a231.res = some vs ∧ (if a231.keepR = true then packV vs else (packV vs).retag) = .tup [.lst .ro (r.1.map shapeC), .bool r.2] ∧ V.under h.next (.tup [.lst .ro (r.1.map shapeC), .bool r.2]) = true ∧ HExt h s.h
theorem takes_fin (o : OpD) (h : LS.Heap) (r : List (Int × Int) × Bool) : takesFin o h r := fun s l v tg h2 h3 hh hl hv => by
 subst hl hv
 exact ⟨.inr rfl, [.lst tg (r.1.map shapeC), .bool r.2], by simp [a231, resV, resV1, h2, h3], by simp [a231, packV], by simp, by rw [hh]; exact .refl _⟩
theorem min_u64 (a : Int) (h : 0 ≤ a ∧ a < 18446744073709551616) : IntKind.i64.wrap (min a 128) = min a 128 := i64_in _ (by omega)
def TakesOK (o : OpD) : Prop := ∀ h, callD T 231 [.agg o.c] h = some (.tup [.lst .ro ((takesM o).1.map shapeC), .bool (takesM o).2], h)
theorem takes_0 (bits lanes dst : Int) (args : List Int) (imm : Int) (hv : 0 ≤ imm ∧ imm < 18446744073709551616) : TakesOK ⟨0, bits, lanes, dst, args, imm⟩ := by
 intro h
 have fin := takes_fin ⟨0, bits, lanes, dst, args, imm⟩ h (takesM ⟨0, bits, lanes, dst, args, imm⟩)
 refine W_call t231 rfl rfl (by simp) ?_
 show W T c231 _ _
 unfold c231
 have hE : (OpD.mk 0 bits lanes dst args imm).c = [.int .i64 0, .int .i64 bits, .int .i64 lanes, .int .i64 dst, .lst .ro (args.map intC), .int .u64 imm] := rfl
 rw [hE]
 have eC := Cut_run imm bits hv h
 repeat' (first | refine W_seq ?_ | refine W_skip ?_ | refine W_block ?_ | refine W_ret ?_ | refine W_exit ?_ | refine W_ops (s1 := ?_) (by simp [a231, nextVer, eC]; exact rfl) ?_ | refine W_tops (s1 := ?_) (by simp [a231, nextVer, eC]; exact rfl) ?_ | refine W_cond_t (by first | (simp [a231, nextVer, eC]; done) | fail) ?_ | refine W_cond_f (by first | (simp [a231, nextVer, eC]; done) | fail) ?_ | fail)
 exact fin _ _ _ _ (by simp; exact ⟨rfl, rfl⟩) (by simp; exact rfl) rfl (by simp [takesM]) (by simp [takesM])
theorem takes_1 (bits lanes dst : Int) (args : List Int) (imm : Int) : TakesOK ⟨1, bits, lanes, dst, args, imm⟩ := by
 intro h
 have fin := takes_fin ⟨1, bits, lanes, dst, args, imm⟩ h (takesM ⟨1, bits, lanes, dst, args, imm⟩)
 refine W_call t231 rfl rfl (by simp) ?_
 show W T c231 _ _
 unfold c231
 have hE : (OpD.mk 1 bits lanes dst args imm).c = [.int .i64 1, .int .i64 bits, .int .i64 lanes, .int .i64 dst, .lst .ro (args.map intC), .int .u64 imm] := rfl
 rw [hE]
 have r2 := row_run' .exact [(bits, lanes), (bits, lanes)] h rfl
 simp only [List.map, shapeC] at r2
 repeat' (first | refine W_seq ?_ | refine W_skip ?_ | refine W_block ?_ | refine W_ret ?_ | refine W_exit ?_ | refine W_ops (s1 := ?_) (by simp [a231, nextVer, r2]; exact rfl) ?_ | refine W_tops (s1 := ?_) (by simp [a231, nextVer, r2]; exact rfl) ?_ | refine W_cond_t (by first | (simp [a231, nextVer, r2]; done) | fail) ?_ | refine W_cond_f (by first | (simp [a231, nextVer, r2]; done) | fail) ?_ | fail)
 exact fin _ _ _ _ (by simp; exact ⟨rfl, rfl⟩) (by simp; exact rfl) rfl (by simp [takesM, shapeC]) (by simp [takesM, OpD.no])

theorem takes_2 (bits lanes dst : Int) (args : List Int) (imm : Int) : TakesOK ⟨2, bits, lanes, dst, args, imm⟩ := by
 intro h
 have fin := takes_fin ⟨2, bits, lanes, dst, args, imm⟩ h (takesM ⟨2, bits, lanes, dst, args, imm⟩)
 refine W_call t231 rfl rfl (by simp) ?_
 show W T c231 _ _
 unfold c231
 have hE : (OpD.mk 2 bits lanes dst args imm).c = [.int .i64 2, .int .i64 bits, .int .i64 lanes, .int .i64 dst, .lst .ro (args.map intC), .int .u64 imm] := rfl
 rw [hE]
 have r2 := row_run' .exact [(bits, lanes), (bits, lanes)] h rfl
 simp only [List.map, shapeC] at r2
 repeat' (first | refine W_seq ?_ | refine W_skip ?_ | refine W_block ?_ | refine W_ret ?_ | refine W_exit ?_ | refine W_ops (s1 := ?_) (by simp [a231, nextVer, r2]; exact rfl) ?_ | refine W_tops (s1 := ?_) (by simp [a231, nextVer, r2]; exact rfl) ?_ | refine W_cond_t (by first | (simp [a231, nextVer, r2]; done) | fail) ?_ | refine W_cond_f (by first | (simp [a231, nextVer, r2]; done) | fail) ?_ | fail)
 exact fin _ _ _ _ (by simp; exact ⟨rfl, rfl⟩) (by simp; exact rfl) rfl (by simp [takesM, shapeC]) (by simp [takesM, OpD.no])

theorem takes_3 (bits lanes dst : Int) (args : List Int) (imm : Int) : TakesOK ⟨3, bits, lanes, dst, args, imm⟩ := by
 intro h
 have fin := takes_fin ⟨3, bits, lanes, dst, args, imm⟩ h (takesM ⟨3, bits, lanes, dst, args, imm⟩)
 refine W_call t231 rfl rfl (by simp) ?_
 show W T c231 _ _
 unfold c231
 have hE : (OpD.mk 3 bits lanes dst args imm).c = [.int .i64 3, .int .i64 bits, .int .i64 lanes, .int .i64 dst, .lst .ro (args.map intC), .int .u64 imm] := rfl
 rw [hE]
 have r2 := row_run' .exact [(bits, lanes), (bits, lanes)] h rfl
 simp only [List.map, shapeC] at r2
 repeat' (first | refine W_seq ?_ | refine W_skip ?_ | refine W_block ?_ | refine W_ret ?_ | refine W_exit ?_ | refine W_ops (s1 := ?_) (by simp [a231, nextVer, r2]; exact rfl) ?_ | refine W_tops (s1 := ?_) (by simp [a231, nextVer, r2]; exact rfl) ?_ | refine W_cond_t (by first | (simp [a231, nextVer, r2]; done) | fail) ?_ | refine W_cond_f (by first | (simp [a231, nextVer, r2]; done) | fail) ?_ | fail)
 exact fin _ _ _ _ (by simp; exact ⟨rfl, rfl⟩) (by simp; exact rfl) rfl (by simp [takesM, shapeC]) (by simp [takesM, OpD.no])

theorem takes_5 (bits lanes dst : Int) (args : List Int) (imm : Int) : TakesOK ⟨5, bits, lanes, dst, args, imm⟩ := by
 intro h
 have fin := takes_fin ⟨5, bits, lanes, dst, args, imm⟩ h (takesM ⟨5, bits, lanes, dst, args, imm⟩)
 refine W_call t231 rfl rfl (by simp) ?_
 show W T c231 _ _
 unfold c231
 have hE : (OpD.mk 5 bits lanes dst args imm).c = [.int .i64 5, .int .i64 bits, .int .i64 lanes, .int .i64 dst, .lst .ro (args.map intC), .int .u64 imm] := rfl
 rw [hE]
 have r2 := row_run' .exact [(bits, lanes), (bits, lanes)] h rfl
 simp only [List.map, shapeC] at r2
 repeat' (first | refine W_seq ?_ | refine W_skip ?_ | refine W_block ?_ | refine W_ret ?_ | refine W_exit ?_ | refine W_ops (s1 := ?_) (by simp [a231, nextVer, r2]; exact rfl) ?_ | refine W_tops (s1 := ?_) (by simp [a231, nextVer, r2]; exact rfl) ?_ | refine W_cond_t (by first | (simp [a231, nextVer, r2]; done) | fail) ?_ | refine W_cond_f (by first | (simp [a231, nextVer, r2]; done) | fail) ?_ | fail)
 exact fin _ _ _ _ (by simp; exact ⟨rfl, rfl⟩) (by simp; exact rfl) rfl (by simp [takesM, shapeC]) (by simp [takesM, OpD.no])

theorem takes_6 (bits lanes dst : Int) (args : List Int) (imm : Int) : TakesOK ⟨6, bits, lanes, dst, args, imm⟩ := by
 intro h
 have fin := takes_fin ⟨6, bits, lanes, dst, args, imm⟩ h (takesM ⟨6, bits, lanes, dst, args, imm⟩)
 refine W_call t231 rfl rfl (by simp) ?_
 show W T c231 _ _
 unfold c231
 have hE : (OpD.mk 6 bits lanes dst args imm).c = [.int .i64 6, .int .i64 bits, .int .i64 lanes, .int .i64 dst, .lst .ro (args.map intC), .int .u64 imm] := rfl
 rw [hE]
 have r2 := row_run' .exact [(bits, lanes), (bits, lanes)] h rfl
 simp only [List.map, shapeC] at r2
 repeat' (first | refine W_seq ?_ | refine W_skip ?_ | refine W_block ?_ | refine W_ret ?_ | refine W_exit ?_ | refine W_ops (s1 := ?_) (by simp [a231, nextVer, r2]; exact rfl) ?_ | refine W_tops (s1 := ?_) (by simp [a231, nextVer, r2]; exact rfl) ?_ | refine W_cond_t (by first | (simp [a231, nextVer, r2]; done) | fail) ?_ | refine W_cond_f (by first | (simp [a231, nextVer, r2]; done) | fail) ?_ | fail)
 exact fin _ _ _ _ (by simp; exact ⟨rfl, rfl⟩) (by simp; exact rfl) rfl (by simp [takesM, shapeC]) (by simp [takesM, OpD.no])

theorem takes_7 (bits lanes dst : Int) (args : List Int) (imm : Int) : TakesOK ⟨7, bits, lanes, dst, args, imm⟩ := by
 intro h
 have fin := takes_fin ⟨7, bits, lanes, dst, args, imm⟩ h (takesM ⟨7, bits, lanes, dst, args, imm⟩)
 refine W_call t231 rfl rfl (by simp) ?_
 show W T c231 _ _
 unfold c231
 have hE : (OpD.mk 7 bits lanes dst args imm).c = [.int .i64 7, .int .i64 bits, .int .i64 lanes, .int .i64 dst, .lst .ro (args.map intC), .int .u64 imm] := rfl
 rw [hE]
 have r2 := row_run' .exact [(bits, lanes), (bits, lanes)] h rfl
 simp only [List.map, shapeC] at r2
 repeat' (first | refine W_seq ?_ | refine W_skip ?_ | refine W_block ?_ | refine W_ret ?_ | refine W_exit ?_ | refine W_ops (s1 := ?_) (by simp [a231, nextVer, r2]; exact rfl) ?_ | refine W_tops (s1 := ?_) (by simp [a231, nextVer, r2]; exact rfl) ?_ | refine W_cond_t (by first | (simp [a231, nextVer, r2]; done) | fail) ?_ | refine W_cond_f (by first | (simp [a231, nextVer, r2]; done) | fail) ?_ | fail)
 exact fin _ _ _ _ (by simp; exact ⟨rfl, rfl⟩) (by simp; exact rfl) rfl (by simp [takesM, shapeC]) (by simp [takesM, OpD.no])

theorem takes_8 (bits lanes dst : Int) (args : List Int) (imm : Int) : TakesOK ⟨8, bits, lanes, dst, args, imm⟩ := by
 intro h
 have fin := takes_fin ⟨8, bits, lanes, dst, args, imm⟩ h (takesM ⟨8, bits, lanes, dst, args, imm⟩)
 refine W_call t231 rfl rfl (by simp) ?_
 show W T c231 _ _
 unfold c231
 have hE : (OpD.mk 8 bits lanes dst args imm).c = [.int .i64 8, .int .i64 bits, .int .i64 lanes, .int .i64 dst, .lst .ro (args.map intC), .int .u64 imm] := rfl
 rw [hE]
 have r2 := row_run' .exact [(bits, lanes), (bits, lanes)] h rfl
 simp only [List.map, shapeC] at r2
 repeat' (first | refine W_seq ?_ | refine W_skip ?_ | refine W_block ?_ | refine W_ret ?_ | refine W_exit ?_ | refine W_ops (s1 := ?_) (by simp [a231, nextVer, r2]; exact rfl) ?_ | refine W_tops (s1 := ?_) (by simp [a231, nextVer, r2]; exact rfl) ?_ | refine W_cond_t (by first | (simp [a231, nextVer, r2]; done) | fail) ?_ | refine W_cond_f (by first | (simp [a231, nextVer, r2]; done) | fail) ?_ | fail)
 exact fin _ _ _ _ (by simp; exact ⟨rfl, rfl⟩) (by simp; exact rfl) rfl (by simp [takesM, shapeC]) (by simp [takesM, OpD.no])

theorem takes_9 (bits lanes dst : Int) (args : List Int) (imm : Int) : TakesOK ⟨9, bits, lanes, dst, args, imm⟩ := by
 intro h
 have fin := takes_fin ⟨9, bits, lanes, dst, args, imm⟩ h (takesM ⟨9, bits, lanes, dst, args, imm⟩)
 refine W_call t231 rfl rfl (by simp) ?_
 show W T c231 _ _
 unfold c231
 have hE : (OpD.mk 9 bits lanes dst args imm).c = [.int .i64 9, .int .i64 bits, .int .i64 lanes, .int .i64 dst, .lst .ro (args.map intC), .int .u64 imm] := rfl
 rw [hE]
 have r2 := row_run' .exact [(bits, lanes), (bits, lanes)] h rfl
 simp only [List.map, shapeC] at r2
 repeat' (first | refine W_seq ?_ | refine W_skip ?_ | refine W_block ?_ | refine W_ret ?_ | refine W_exit ?_ | refine W_ops (s1 := ?_) (by simp [a231, nextVer, r2]; exact rfl) ?_ | refine W_tops (s1 := ?_) (by simp [a231, nextVer, r2]; exact rfl) ?_ | refine W_cond_t (by first | (simp [a231, nextVer, r2]; done) | fail) ?_ | refine W_cond_f (by first | (simp [a231, nextVer, r2]; done) | fail) ?_ | fail)
 exact fin _ _ _ _ (by simp; exact ⟨rfl, rfl⟩) (by simp; exact rfl) rfl (by simp [takesM, shapeC]) (by simp [takesM, OpD.no])

theorem takes_13 (bits lanes dst : Int) (args : List Int) (imm : Int) : TakesOK ⟨13, bits, lanes, dst, args, imm⟩ := by
 intro h
 have fin := takes_fin ⟨13, bits, lanes, dst, args, imm⟩ h (takesM ⟨13, bits, lanes, dst, args, imm⟩)
 refine W_call t231 rfl rfl (by simp) ?_
 show W T c231 _ _
 unfold c231
 have hE : (OpD.mk 13 bits lanes dst args imm).c = [.int .i64 13, .int .i64 bits, .int .i64 lanes, .int .i64 dst, .lst .ro (args.map intC), .int .u64 imm] := rfl
 rw [hE]
 have r2 := row_run' .exact [(1, 1), (bits, lanes), (bits, lanes)] h rfl
 simp only [List.map, shapeC] at r2
 repeat' (first | refine W_seq ?_ | refine W_skip ?_ | refine W_block ?_ | refine W_ret ?_ | refine W_exit ?_ | refine W_ops (s1 := ?_) (by simp [a231, nextVer, r2]; exact rfl) ?_ | refine W_tops (s1 := ?_) (by simp [a231, nextVer, r2]; exact rfl) ?_ | refine W_cond_t (by first | (simp [a231, nextVer, r2]; done) | fail) ?_ | refine W_cond_f (by first | (simp [a231, nextVer, r2]; done) | fail) ?_ | fail)
 exact fin _ _ _ _ (by simp; exact ⟨rfl, rfl⟩) (by simp; exact rfl) rfl (by simp [takesM, shapeC]) (by simp [takesM, OpD.no])
theorem takes_4 (bits lanes dst : Int) (args : List Int) (imm : Int) : TakesOK ⟨4, bits, lanes, dst, args, imm⟩ := by
 intro h
 have fin := takes_fin ⟨4, bits, lanes, dst, args, imm⟩ h (takesM ⟨4, bits, lanes, dst, args, imm⟩)
 refine W_call t231 rfl rfl (by simp) ?_
 show W T c231 _ _
 unfold c231
 have hE : (OpD.mk 4 bits lanes dst args imm).c = [.int .i64 4, .int .i64 bits, .int .i64 lanes, .int .i64 dst, .lst .ro (args.map intC), .int .u64 imm] := rfl
 rw [hE]
 have r2 := row_run' .exact [(bits, lanes), (bits, lanes)] h rfl
 simp only [List.map, shapeC] at r2
 by_cases i0 : imm = 0
 ·skip
  repeat' (first | refine W_seq ?_ | refine W_skip ?_ | refine W_block ?_ | refine W_ret ?_ | refine W_exit ?_ | refine W_ops (s1 := ?_) (by simp [a231, nextVer, r2, i0]; exact rfl) ?_ | refine W_tops (s1 := ?_) (by simp [a231, nextVer, r2, i0]; exact rfl) ?_ | refine W_cond_t (by first | (simp [a231, nextVer, r2, i0]; done) | fail) ?_ | refine W_cond_f (by first | (simp [a231, nextVer, r2, i0]; done) | fail) ?_ | fail)
  exact fin _ _ _ _ (by simp; exact ⟨rfl, rfl⟩) (by simp; exact rfl) rfl (by simp [takesM, shapeC]) (by simp [takesM, OpD.no, OpD.one, OpD.mem, i0])
 ·skip
  repeat' (first | refine W_seq ?_ | refine W_skip ?_ | refine W_block ?_ | refine W_ret ?_ | refine W_exit ?_ | refine W_ops (s1 := ?_) (by simp [a231, nextVer, r2, i0]; exact rfl) ?_ | refine W_tops (s1 := ?_) (by simp [a231, nextVer, r2, i0]; exact rfl) ?_ | refine W_cond_t (by first | (simp [a231, nextVer, r2, i0]; done) | fail) ?_ | refine W_cond_f (by first | (simp [a231, nextVer, r2, i0]; done) | fail) ?_ | fail)
  exact fin _ _ _ _ (by simp; exact ⟨rfl, rfl⟩) (by simp; exact rfl) rfl (by simp [takesM, shapeC]) (by simp [takesM, OpD.no, OpD.one, OpD.mem, i0])

theorem takes_10 (bits lanes dst : Int) (args : List Int) (imm : Int) : TakesOK ⟨10, bits, lanes, dst, args, imm⟩ := by
 intro h
 have fin := takes_fin ⟨10, bits, lanes, dst, args, imm⟩ h (takesM ⟨10, bits, lanes, dst, args, imm⟩)
 refine W_call t231 rfl rfl (by simp) ?_
 show W T c231 _ _
 unfold c231
 have hE : (OpD.mk 10 bits lanes dst args imm).c = [.int .i64 10, .int .i64 bits, .int .i64 lanes, .int .i64 dst, .lst .ro (args.map intC), .int .u64 imm] := rfl
 rw [hE]
 have r2 := row_run' .exact [(bits, lanes), (bits, lanes)] h rfl
 simp only [List.map, shapeC] at r2
 by_cases i0 : imm = 0
 ·skip
  repeat' (first | refine W_seq ?_ | refine W_skip ?_ | refine W_block ?_ | refine W_ret ?_ | refine W_exit ?_ | refine W_ops (s1 := ?_) (by simp [a231, nextVer, r2, i0]; exact rfl) ?_ | refine W_tops (s1 := ?_) (by simp [a231, nextVer, r2, i0]; exact rfl) ?_ | refine W_cond_t (by first | (simp [a231, nextVer, r2, i0]; done) | fail) ?_ | refine W_cond_f (by first | (simp [a231, nextVer, r2, i0]; done) | fail) ?_ | fail)
  exact fin _ _ _ _ (by simp; exact ⟨rfl, rfl⟩) (by simp; exact rfl) rfl (by simp [takesM, shapeC]) (by simp [takesM, OpD.no, OpD.one, OpD.mem, i0])
 ·skip
  repeat' (first | refine W_seq ?_ | refine W_skip ?_ | refine W_block ?_ | refine W_ret ?_ | refine W_exit ?_ | refine W_ops (s1 := ?_) (by simp [a231, nextVer, r2, i0]; exact rfl) ?_ | refine W_tops (s1 := ?_) (by simp [a231, nextVer, r2, i0]; exact rfl) ?_ | refine W_cond_t (by first | (simp [a231, nextVer, r2, i0]; done) | fail) ?_ | refine W_cond_f (by first | (simp [a231, nextVer, r2, i0]; done) | fail) ?_ | fail)
  exact fin _ _ _ _ (by simp; exact ⟨rfl, rfl⟩) (by simp; exact rfl) rfl (by simp [takesM, shapeC]) (by simp [takesM, OpD.no, OpD.one, OpD.mem, i0])

theorem takes_11 (bits lanes dst : Int) (args : List Int) (imm : Int) : TakesOK ⟨11, bits, lanes, dst, args, imm⟩ := by
 intro h
 have fin := takes_fin ⟨11, bits, lanes, dst, args, imm⟩ h (takesM ⟨11, bits, lanes, dst, args, imm⟩)
 refine W_call t231 rfl rfl (by simp) ?_
 show W T c231 _ _
 unfold c231
 have hE : (OpD.mk 11 bits lanes dst args imm).c = [.int .i64 11, .int .i64 bits, .int .i64 lanes, .int .i64 dst, .lst .ro (args.map intC), .int .u64 imm] := rfl
 rw [hE]
 have r2 := row_run' .exact [(bits, lanes), (bits, lanes)] h rfl
 simp only [List.map, shapeC] at r2
 by_cases i0 : imm = 0
 ·skip
  repeat' (first | refine W_seq ?_ | refine W_skip ?_ | refine W_block ?_ | refine W_ret ?_ | refine W_exit ?_ | refine W_ops (s1 := ?_) (by simp [a231, nextVer, r2, i0]; exact rfl) ?_ | refine W_tops (s1 := ?_) (by simp [a231, nextVer, r2, i0]; exact rfl) ?_ | refine W_cond_t (by first | (simp [a231, nextVer, r2, i0]; done) | fail) ?_ | refine W_cond_f (by first | (simp [a231, nextVer, r2, i0]; done) | fail) ?_ | fail)
  exact fin _ _ _ _ (by simp; exact ⟨rfl, rfl⟩) (by simp; exact rfl) rfl (by simp [takesM, shapeC]) (by simp [takesM, OpD.no, OpD.one, OpD.mem, i0])
 ·skip
  repeat' (first | refine W_seq ?_ | refine W_skip ?_ | refine W_block ?_ | refine W_ret ?_ | refine W_exit ?_ | refine W_ops (s1 := ?_) (by simp [a231, nextVer, r2, i0]; exact rfl) ?_ | refine W_tops (s1 := ?_) (by simp [a231, nextVer, r2, i0]; exact rfl) ?_ | refine W_cond_t (by first | (simp [a231, nextVer, r2, i0]; done) | fail) ?_ | refine W_cond_f (by first | (simp [a231, nextVer, r2, i0]; done) | fail) ?_ | fail)
  exact fin _ _ _ _ (by simp; exact ⟨rfl, rfl⟩) (by simp; exact rfl) rfl (by simp [takesM, shapeC]) (by simp [takesM, OpD.no, OpD.one, OpD.mem, i0])

theorem takes_12 (bits lanes dst : Int) (args : List Int) (imm : Int) : TakesOK ⟨12, bits, lanes, dst, args, imm⟩ := by
 intro h
 have fin := takes_fin ⟨12, bits, lanes, dst, args, imm⟩ h (takesM ⟨12, bits, lanes, dst, args, imm⟩)
 refine W_call t231 rfl rfl (by simp) ?_
 show W T c231 _ _
 unfold c231
 have hE : (OpD.mk 12 bits lanes dst args imm).c = [.int .i64 12, .int .i64 bits, .int .i64 lanes, .int .i64 dst, .lst .ro (args.map intC), .int .u64 imm] := rfl
 rw [hE]
 have r2 := row_run' .exact [(bits, lanes), (bits, lanes)] h rfl
 simp only [List.map, shapeC] at r2
 by_cases i0 : imm = 0
 ·skip
  repeat' (first | refine W_seq ?_ | refine W_skip ?_ | refine W_block ?_ | refine W_ret ?_ | refine W_exit ?_ | refine W_ops (s1 := ?_) (by simp [a231, nextVer, r2, i0]; exact rfl) ?_ | refine W_tops (s1 := ?_) (by simp [a231, nextVer, r2, i0]; exact rfl) ?_ | refine W_cond_t (by first | (simp [a231, nextVer, r2, i0]; done) | fail) ?_ | refine W_cond_f (by first | (simp [a231, nextVer, r2, i0]; done) | fail) ?_ | fail)
  exact fin _ _ _ _ (by simp; exact ⟨rfl, rfl⟩) (by simp; exact rfl) rfl (by simp [takesM, shapeC]) (by simp [takesM, OpD.no, OpD.one, OpD.mem, i0])
 ·skip
  repeat' (first | refine W_seq ?_ | refine W_skip ?_ | refine W_block ?_ | refine W_ret ?_ | refine W_exit ?_ | refine W_ops (s1 := ?_) (by simp [a231, nextVer, r2, i0]; exact rfl) ?_ | refine W_tops (s1 := ?_) (by simp [a231, nextVer, r2, i0]; exact rfl) ?_ | refine W_cond_t (by first | (simp [a231, nextVer, r2, i0]; done) | fail) ?_ | refine W_cond_f (by first | (simp [a231, nextVer, r2, i0]; done) | fail) ?_ | fail)
  exact fin _ _ _ _ (by simp; exact ⟨rfl, rfl⟩) (by simp; exact rfl) rfl (by simp [takesM, shapeC]) (by simp [takesM, OpD.no, OpD.one, OpD.mem, i0])

theorem takes_20 (bits lanes dst : Int) (args : List Int) (imm : Int) : TakesOK ⟨20, bits, lanes, dst, args, imm⟩ := by
 intro h
 have fin := takes_fin ⟨20, bits, lanes, dst, args, imm⟩ h (takesM ⟨20, bits, lanes, dst, args, imm⟩)
 refine W_call t231 rfl rfl (by simp) ?_
 show W T c231 _ _
 unfold c231
 have hE : (OpD.mk 20 bits lanes dst args imm).c = [.int .i64 20, .int .i64 bits, .int .i64 lanes, .int .i64 dst, .lst .ro (args.map intC), .int .u64 imm] := rfl
 rw [hE]
 have r2 := row_run' .exact [(1, 1), (bits, lanes), (bits, lanes), (bits, lanes)] h rfl
 simp only [List.map, shapeC] at r2
 by_cases i0 : imm = 0
 ·skip
  repeat' (first | refine W_seq ?_ | refine W_skip ?_ | refine W_block ?_ | refine W_ret ?_ | refine W_exit ?_ | refine W_ops (s1 := ?_) (by simp [a231, nextVer, r2, i0]; exact rfl) ?_ | refine W_tops (s1 := ?_) (by simp [a231, nextVer, r2, i0]; exact rfl) ?_ | refine W_cond_t (by first | (simp [a231, nextVer, r2, i0]; done) | fail) ?_ | refine W_cond_f (by first | (simp [a231, nextVer, r2, i0]; done) | fail) ?_ | fail)
  exact fin _ _ _ _ (by simp; exact ⟨rfl, rfl⟩) (by simp; exact rfl) rfl (by simp [takesM, shapeC]) (by simp [takesM, OpD.no, OpD.one, OpD.mem, i0])
 ·skip
  repeat' (first | refine W_seq ?_ | refine W_skip ?_ | refine W_block ?_ | refine W_ret ?_ | refine W_exit ?_ | refine W_ops (s1 := ?_) (by simp [a231, nextVer, r2, i0]; exact rfl) ?_ | refine W_tops (s1 := ?_) (by simp [a231, nextVer, r2, i0]; exact rfl) ?_ | refine W_cond_t (by first | (simp [a231, nextVer, r2, i0]; done) | fail) ?_ | refine W_cond_f (by first | (simp [a231, nextVer, r2, i0]; done) | fail) ?_ | fail)
  exact fin _ _ _ _ (by simp; exact ⟨rfl, rfl⟩) (by simp; exact rfl) rfl (by simp [takesM, shapeC]) (by simp [takesM, OpD.no, OpD.one, OpD.mem, i0])

theorem takes_16 (bits lanes dst : Int) (args : List Int) (imm : Int) : TakesOK ⟨16, bits, lanes, dst, args, imm⟩ := by
 intro h
 have fin := takes_fin ⟨16, bits, lanes, dst, args, imm⟩ h (takesM ⟨16, bits, lanes, dst, args, imm⟩)
 refine W_call t231 rfl rfl (by simp) ?_
 show W T c231 _ _
 unfold c231
 have hE : (OpD.mk 16 bits lanes dst args imm).c = [.int .i64 16, .int .i64 bits, .int .i64 lanes, .int .i64 dst, .lst .ro (args.map intC), .int .u64 imm] := rfl
 rw [hE]
 have r2 := row_run' .exact [(64, 1)] h rfl
 simp only [List.map, shapeC] at r2
 by_cases i0 : imm = 0
 ·skip
  repeat' (first | refine W_seq ?_ | refine W_skip ?_ | refine W_block ?_ | refine W_ret ?_ | refine W_exit ?_ | refine W_ops (s1 := ?_) (by simp [a231, nextVer, r2, i0]; exact rfl) ?_ | refine W_tops (s1 := ?_) (by simp [a231, nextVer, r2, i0]; exact rfl) ?_ | refine W_cond_t (by first | (simp [a231, nextVer, r2, i0]; done) | fail) ?_ | refine W_cond_f (by first | (simp [a231, nextVer, r2, i0]; done) | fail) ?_ | fail)
  exact fin _ _ _ _ (by simp; exact ⟨rfl, rfl⟩) (by simp; exact rfl) rfl (by simp [takesM, shapeC]) (by simp [takesM, OpD.no, OpD.one, OpD.mem, i0])
 ·skip
  repeat' (first | refine W_seq ?_ | refine W_skip ?_ | refine W_block ?_ | refine W_ret ?_ | refine W_exit ?_ | refine W_ops (s1 := ?_) (by simp [a231, nextVer, r2, i0]; exact rfl) ?_ | refine W_tops (s1 := ?_) (by simp [a231, nextVer, r2, i0]; exact rfl) ?_ | refine W_cond_t (by first | (simp [a231, nextVer, r2, i0]; done) | fail) ?_ | refine W_cond_f (by first | (simp [a231, nextVer, r2, i0]; done) | fail) ?_ | fail)
  exact fin _ _ _ _ (by simp; exact ⟨rfl, rfl⟩) (by simp; exact rfl) rfl (by simp [takesM, shapeC]) (by simp [takesM, OpD.no, OpD.one, OpD.mem, i0])

theorem takes_17 (bits lanes dst : Int) (args : List Int) (imm : Int) : TakesOK ⟨17, bits, lanes, dst, args, imm⟩ := by
 intro h
 have fin := takes_fin ⟨17, bits, lanes, dst, args, imm⟩ h (takesM ⟨17, bits, lanes, dst, args, imm⟩)
 refine W_call t231 rfl rfl (by simp) ?_
 show W T c231 _ _
 unfold c231
 have hE : (OpD.mk 17 bits lanes dst args imm).c = [.int .i64 17, .int .i64 bits, .int .i64 lanes, .int .i64 dst, .lst .ro (args.map intC), .int .u64 imm] := rfl
 rw [hE]
 have r2 := row_run' .exact [(64, 1), (bits, lanes)] h rfl
 simp only [List.map, shapeC] at r2
 by_cases i0 : imm = 0
 ·skip
  repeat' (first | refine W_seq ?_ | refine W_skip ?_ | refine W_block ?_ | refine W_ret ?_ | refine W_exit ?_ | refine W_ops (s1 := ?_) (by simp [a231, nextVer, r2, i0]; exact rfl) ?_ | refine W_tops (s1 := ?_) (by simp [a231, nextVer, r2, i0]; exact rfl) ?_ | refine W_cond_t (by first | (simp [a231, nextVer, r2, i0]; done) | fail) ?_ | refine W_cond_f (by first | (simp [a231, nextVer, r2, i0]; done) | fail) ?_ | fail)
  exact fin _ _ _ _ (by simp; exact ⟨rfl, rfl⟩) (by simp; exact rfl) rfl (by simp [takesM, shapeC]) (by simp [takesM, OpD.no, OpD.one, OpD.mem, i0])
 ·skip
  repeat' (first | refine W_seq ?_ | refine W_skip ?_ | refine W_block ?_ | refine W_ret ?_ | refine W_exit ?_ | refine W_ops (s1 := ?_) (by simp [a231, nextVer, r2, i0]; exact rfl) ?_ | refine W_tops (s1 := ?_) (by simp [a231, nextVer, r2, i0]; exact rfl) ?_ | refine W_cond_t (by first | (simp [a231, nextVer, r2, i0]; done) | fail) ?_ | refine W_cond_f (by first | (simp [a231, nextVer, r2, i0]; done) | fail) ?_ | fail)
  exact fin _ _ _ _ (by simp; exact ⟨rfl, rfl⟩) (by simp; exact rfl) rfl (by simp [takesM, shapeC]) (by simp [takesM, OpD.no, OpD.one, OpD.mem, i0])

end Go.Proofs.YtpbngohpklpalaaGreat

/- Which operations look right; what they take, and give. -/
namespace Go.Proofs.YtpbngohpklpalaaGreat
open Go.LS Go.IntWalk
def dstB (o : OpD) : Bool := if storesB o.kind = true then decide (o.dst = 0) else valueB o.dst
def mayOp (o : OpD) : Bool := shapeB o.bits o.lanes && ((takesM o).2 && (dstB o && (decide ((takesM o).1.length = o.args.length) && !o.args.any (fun v => !valueB v))))
theorem opc_eq (o : OpD) : o.c = [.int .i64 o.kind, .int .i64 o.bits, .int .i64 o.lanes, .int .i64 o.dst, .lst .ro (o.args.map intC), .int .u64 o.imm] := rfl
theorem kindMay_run (o : OpD) (ht : TakesOK o) (hl : o.args.length < 2 ^ 40) (h : LS.Heap) : callD T 216 [.agg o.c] h = some (.bool (mayOp o), h) := by
 have fin : ∀ (v : Bool) (s : St), s.t 2 = .bool v → s.h = h → mayOp o = v → (AExit.ret = AExit.normal ∨ AExit.ret = AExit.ret) ∧ ∃ vs, resV s a216.res = some vs ∧ (if a216.keepR = true then packV vs else (packV vs).retag) = .bool (mayOp o) ∧ V.under h.next (.bool (mayOp o)) = true ∧ HExt h s.h := fun v s h2 hh hb =>
  ⟨.inr rfl, [.bool v], by simp [a216, resV, resV1, h2], by simp [a216, packV, hb], rfl, by rw [hh]; exact .refl _⟩
 have e1 := Shape_run o.bits o.lanes h
 have e2 := ht h
 have e3 := value_run o.dst h
 have e4 := stores_run o.kind h
 have e5 := Contains_int intC o.args 233 [] (fun v => !valueB v) h .ro (by omega) (fun _ => rfl) (by simp) rfl (fun x _ => valueP_run x h)
 refine W_call t216 rfl rfl (by simp) ?_
 show W T c216 _ _
 unfold c216
 rw [opc_eq] at e2 ⊢
 cases c1 : shapeB o.bits o.lanes with
 | false =>
  rw [c1] at e1
  repeat' (first | refine W_seq ?_ | refine W_skip ?_ | refine W_block ?_ | refine W_ret ?_ | refine W_exit ?_ | refine W_ops (s1 := ?_) (by simp [a216, nextVer, e1]; exact rfl) ?_ | refine W_tops (s1 := ?_) (by simp [a216, nextVer, e1]; exact rfl) ?_ | refine W_cond_t (by first | (simp [a216, nextVer, e1]; done) | fail) ?_ | refine W_cond_f (by first | (simp [a216, nextVer, e1]; done) | fail) ?_ | fail)
  exact fin false _ (by simp) rfl (by simp [mayOp, c1])
 | true =>
  rw [c1] at e1
  have hdst : ∀ d, dstB o = d → callD T 217 [.int .i64 o.kind] h = some (.bool (storesB o.kind), h) := fun _ _ => e4
  cases c2 : (takesM o).2 with
  | false =>
   rw [c2] at e2
   cases c3 : storesB o.kind with
   | false =>
    rw [c3] at e4
    repeat' (first | refine W_seq ?_ | refine W_skip ?_ | refine W_block ?_ | refine W_ret ?_ | refine W_exit ?_ | refine W_ops (s1 := ?_) (by simp [a216, nextVer, e1, e2, e3, e4]; exact rfl) ?_ | refine W_tops (s1 := ?_) (by simp [a216, nextVer, e1, e2, e3, e4]; exact rfl) ?_ | refine W_cond_t (by first | (simp [a216, nextVer, e1, e2, e3, e4]; done) | fail) ?_ | refine W_cond_f (by first | (simp [a216, nextVer, e1, e2, e3, e4]; done) | fail) ?_ | fail)
    exact fin false _ (by simp) rfl (by simp [mayOp, c1, c2])
   | true =>
    rw [c3] at e4
    repeat' (first | refine W_seq ?_ | refine W_skip ?_ | refine W_block ?_ | refine W_ret ?_ | refine W_exit ?_ | refine W_ops (s1 := ?_) (by simp [a216, nextVer, e1, e2, e3, e4]; exact rfl) ?_ | refine W_tops (s1 := ?_) (by simp [a216, nextVer, e1, e2, e3, e4]; exact rfl) ?_ | refine W_cond_t (by first | (simp [a216, nextVer, e1, e2, e3, e4]; done) | fail) ?_ | refine W_cond_f (by first | (simp [a216, nextVer, e1, e2, e3, e4]; done) | fail) ?_ | fail)
    exact fin false _ (by simp) rfl (by simp [mayOp, c1, c2])
  | true =>
   rw [c2] at e2
   cases c3 : storesB o.kind with
   | false =>
    rw [c3] at e4
    cases c4 : valueB o.dst with
    | false =>
     rw [c4] at e3
     repeat' (first | refine W_seq ?_ | refine W_skip ?_ | refine W_block ?_ | refine W_ret ?_ | refine W_exit ?_ | refine W_ops (s1 := ?_) (by simp [a216, nextVer, e1, e2, e3, e4]; exact rfl) ?_ | refine W_tops (s1 := ?_) (by simp [a216, nextVer, e1, e2, e3, e4]; exact rfl) ?_ | refine W_cond_t (by first | (simp [a216, nextVer, e1, e2, e3, e4]; done) | fail) ?_ | refine W_cond_f (by first | (simp [a216, nextVer, e1, e2, e3, e4]; done) | fail) ?_ | fail)
     exact fin false _ (by simp) rfl (by simp [mayOp, c1, c2, dstB, c3, c4])
    | true =>
     rw [c4] at e3
     by_cases c5 : (takesM o).1.length = o.args.length
     ·have c5' : ((takesM o).1.length : Int) = o.args.length := by omega
      repeat' (first | refine W_seq ?_ | refine W_skip ?_ | refine W_block ?_ | refine W_ret ?_ | refine W_exit ?_ | refine W_ops (s1 := ?_) (by simp [a216, nextVer, e1, e2, e3, e4, c5, c5', e5]; exact rfl) ?_ | refine W_tops (s1 := ?_) (by simp [a216, nextVer, e1, e2, e3, e4, c5, c5', e5]; exact rfl) ?_ | refine W_cond_t (by first | (simp [a216, nextVer, e1, e2, e3, e4, c5, c5', e5]; done) | fail) ?_ | refine W_cond_f (by first | (simp [a216, nextVer, e1, e2, e3, e4, c5, c5', e5]; done) | fail) ?_ | fail)
      exact fin (!o.args.any (fun v => !valueB v)) _ (by simp) rfl (by simp only [mayOp, c1, c2, dstB, c3, c4, c5]; simp)
     ·have c5' : ¬ ((takesM o).1.length : Int) = o.args.length := by omega
      repeat' (first | refine W_seq ?_ | refine W_skip ?_ | refine W_block ?_ | refine W_ret ?_ | refine W_exit ?_ | refine W_ops (s1 := ?_) (by simp [a216, nextVer, e1, e2, e3, e4, c5, c5']; exact rfl) ?_ | refine W_tops (s1 := ?_) (by simp [a216, nextVer, e1, e2, e3, e4, c5, c5']; exact rfl) ?_ | refine W_cond_t (by first | (simp [a216, nextVer, e1, e2, e3, e4, c5, c5']; done) | fail) ?_ | refine W_cond_f (by first | (simp [a216, nextVer, e1, e2, e3, e4, c5, c5']; done) | fail) ?_ | fail)
      exact fin false _ (by simp) rfl (by simp [mayOp, c1, c2, dstB, c3, c4, c5])
   | true =>
    rw [c3] at e4
    by_cases c4 : o.dst = 0
    ·by_cases c5 : (takesM o).1.length = o.args.length
     ·have c5' : ((takesM o).1.length : Int) = o.args.length := by omega
      rw [c4] at e2 e3
      repeat' (first | refine W_seq ?_ | refine W_skip ?_ | refine W_block ?_ | refine W_ret ?_ | refine W_exit ?_ | refine W_ops (s1 := ?_) (by simp [a216, nextVer, e1, e2, e3, e4, c4, c5, c5', e5]; exact rfl) ?_ | refine W_tops (s1 := ?_) (by simp [a216, nextVer, e1, e2, e3, e4, c4, c5, c5', e5]; exact rfl) ?_ | refine W_cond_t (by first | (simp [a216, nextVer, e1, e2, e3, e4, c4, c5, c5', e5]; done) | fail) ?_ | refine W_cond_f (by first | (simp [a216, nextVer, e1, e2, e3, e4, c4, c5, c5', e5]; done) | fail) ?_ | fail)
      exact fin (!o.args.any (fun v => !valueB v)) _ (by simp) rfl (by simp only [mayOp, c1, c2, dstB, c3, c4, c5]; simp)
     ·have c5' : ¬ ((takesM o).1.length : Int) = o.args.length := by omega
      rw [c4] at e2 e3
      repeat' (first | refine W_seq ?_ | refine W_skip ?_ | refine W_block ?_ | refine W_ret ?_ | refine W_exit ?_ | refine W_ops (s1 := ?_) (by simp [a216, nextVer, e1, e2, e3, e4, c4, c5, c5']; exact rfl) ?_ | refine W_tops (s1 := ?_) (by simp [a216, nextVer, e1, e2, e3, e4, c4, c5, c5']; exact rfl) ?_ | refine W_cond_t (by first | (simp [a216, nextVer, e1, e2, e3, e4, c4, c5, c5']; done) | fail) ?_ | refine W_cond_f (by first | (simp [a216, nextVer, e1, e2, e3, e4, c4, c5, c5']; done) | fail) ?_ | fail)
      exact fin false _ (by simp) rfl (by simp [mayOp, c1, c2, dstB, c3, c4, c5])
    ·skip
     repeat' (first | refine W_seq ?_ | refine W_skip ?_ | refine W_block ?_ | refine W_ret ?_ | refine W_exit ?_ | refine W_ops (s1 := ?_) (by simp [a216, nextVer, e1, e2, e3, e4, c4]; exact rfl) ?_ | refine W_tops (s1 := ?_) (by simp [a216, nextVer, e1, e2, e3, e4, c4]; exact rfl) ?_ | refine W_cond_t (by first | (simp [a216, nextVer, e1, e2, e3, e4, c4]; done) | fail) ?_ | refine W_cond_f (by first | (simp [a216, nextVer, e1, e2, e3, e4, c4]; done) | fail) ?_ | fail)
     exact fin false _ (by simp) rfl (by simp [mayOp, c1, c2, dstB, c3, c4])
def takeL (o : OpD) : List (Int × Int) := if mayOp o = true then (takesM o).1 else []
theorem Takes_run (o : OpD) (ht : TakesOK o) (hl : o.args.length < 2 ^ 40) (h : LS.Heap) : callD T 218 [.agg o.c] h = some (.lst .ro ((takeL o).map shapeC), h) := by
 have e1 := kindMay_run o ht hl h
 have e2 := ht h
 refine W_call t218 rfl rfl (by simp) ?_
 show W T c218 _ _
 unfold c218
 rw [opc_eq] at e1 e2 ⊢
 cases c : mayOp o with
 | false =>
  rw [c] at e1
  repeat' (first | refine W_seq ?_ | refine W_skip ?_ | refine W_block ?_ | refine W_ret ?_ | refine W_exit ?_ | refine W_ops (s1 := ?_) (by simp [a218, nextVer, e1]; exact rfl) ?_ | refine W_tops (s1 := ?_) (by simp [a218, nextVer, e1]; exact rfl) ?_ | refine W_cond_t (by first | (simp [a218, nextVer, e1]; done) | fail) ?_ | refine W_cond_f (by first | (simp [a218, nextVer, e1]; done) | fail) ?_ | fail)
  exact ⟨.inr rfl, [.lst .nil []], by simp [a218, resV, resV1], by simp [a218, packV, takeL, c], by simp, .refl _⟩
 | true =>
  rw [c] at e1
  repeat' (first | refine W_seq ?_ | refine W_skip ?_ | refine W_block ?_ | refine W_ret ?_ | refine W_exit ?_ | refine W_ops (s1 := ?_) (by simp [a218, nextVer, e1, e2]; exact rfl) ?_ | refine W_tops (s1 := ?_) (by simp [a218, nextVer, e1, e2]; exact rfl) ?_ | refine W_cond_t (by first | (simp [a218, nextVer, e1, e2]; done) | fail) ?_ | refine W_cond_f (by first | (simp [a218, nextVer, e1, e2]; done) | fail) ?_ | fail)
  exact ⟨.inr rfl, [.lst .ro ((takesM o).1.map shapeC)], by simp [a218, resV, resV1], by simp [a218, packV, takeL, c], by simp, .refl _⟩
def giveM (o : OpD) : Int × Int := if mayOp o = false ∨ storesB o.kind = true then (0, 0) else if 10 ≤ o.kind ∧ o.kind ≤ 12 then (1, 1) else if o.kind = 22 then (o.bits, 1) else (o.bits, o.lanes)
theorem Gives_run (o : OpD) (ht : TakesOK o) (hl : o.args.length < 2 ^ 40) (h : LS.Heap) : callD T 197 [.agg o.c] h = some (.tup [.int .i64 (giveM o).1, .int .i64 (giveM o).2], h) := by
 have e1 := kindMay_run o ht hl h
 have e4 := stores_run o.kind h
 have fin : ∀ (a b : Int) (s : St), s.t 2 = .int .i64 a → s.t 3 = .int .i64 b → s.h = h → giveM o = (a, b) → (AExit.ret = AExit.normal ∨ AExit.ret = AExit.ret) ∧ ∃ vs, resV s a197.res = some vs ∧ (if a197.keepR = true then packV vs else (packV vs).retag) = .tup [.int .i64 (giveM o).1, .int .i64 (giveM o).2] ∧ V.under h.next (.tup [.int .i64 (giveM o).1, .int .i64 (giveM o).2]) = true ∧ HExt h s.h := fun a b s h2 h3 hh hg =>
  ⟨.inr rfl, [.int .i64 a, .int .i64 b], by simp [a197, resV, resV1, h2, h3], by simp [a197, packV, hg], by simp, by rw [hh]; exact .refl _⟩
 refine W_call t197 rfl rfl (by simp) ?_
 show W T c197 _ _
 unfold c197
 rw [opc_eq] at e1 ⊢
 cases c : mayOp o with
 | false =>
  rw [c] at e1
  repeat' (first | refine W_seq ?_ | refine W_skip ?_ | refine W_block ?_ | refine W_ret ?_ | refine W_exit ?_ | refine W_ops (s1 := ?_) (by simp [a197, nextVer, e1]; exact rfl) ?_ | refine W_tops (s1 := ?_) (by simp [a197, nextVer, e1]; exact rfl) ?_ | refine W_cond_t (by first | (simp [a197, nextVer, e1]; done) | fail) ?_ | refine W_cond_f (by first | (simp [a197, nextVer, e1]; done) | fail) ?_ | fail)
  exact fin 0 0 _ (by simp) (by simp) rfl (by simp [giveM, c])
 | true =>
  rw [c] at e1
  cases c3 : storesB o.kind with
  | true =>
   rw [c3] at e4
   repeat' (first | refine W_seq ?_ | refine W_skip ?_ | refine W_block ?_ | refine W_ret ?_ | refine W_exit ?_ | refine W_ops (s1 := ?_) (by simp [a197, nextVer, e1, e4]; exact rfl) ?_ | refine W_tops (s1 := ?_) (by simp [a197, nextVer, e1, e4]; exact rfl) ?_ | refine W_cond_t (by first | (simp [a197, nextVer, e1, e4]; done) | fail) ?_ | refine W_cond_f (by first | (simp [a197, nextVer, e1, e4]; done) | fail) ?_ | fail)
   exact fin 0 0 _ (by simp) (by simp) rfl (by simp [giveM, c, c3])
  | false =>
   rw [c3] at e4
   by_cases k1 : 10 ≤ o.kind
   ·by_cases k2 : o.kind ≤ 12
    ·skip
     repeat' (first | refine W_seq ?_ | refine W_skip ?_ | refine W_block ?_ | refine W_ret ?_ | refine W_exit ?_ | refine W_ops (s1 := ?_) (by simp [a197, nextVer, e1, e4, k1, k2]; exact rfl) ?_ | refine W_tops (s1 := ?_) (by simp [a197, nextVer, e1, e4, k1, k2]; exact rfl) ?_ | refine W_cond_t (by first | (simp [a197, nextVer, e1, e4, k1, k2]; done) | fail) ?_ | refine W_cond_f (by first | (simp [a197, nextVer, e1, e4, k1, k2]; done) | fail) ?_ | fail)
     exact fin 1 1 _ (by simp) (by simp) rfl (by simp [giveM, c, c3, k1, k2])
    ·by_cases k3 : o.kind = 22
     ·rw [k3] at e1 e4
      repeat' (first | refine W_seq ?_ | refine W_skip ?_ | refine W_block ?_ | refine W_ret ?_ | refine W_exit ?_ | refine W_ops (s1 := ?_) (by simp [a197, nextVer, e1, e4, k3]; exact rfl) ?_ | refine W_tops (s1 := ?_) (by simp [a197, nextVer, e1, e4, k3]; exact rfl) ?_ | refine W_cond_t (by first | (simp [a197, nextVer, e1, e4, k3]; done) | fail) ?_ | refine W_cond_f (by first | (simp [a197, nextVer, e1, e4, k3]; done) | fail) ?_ | fail)
      exact fin o.bits 1 _ (by simp) (by simp) rfl (by rw [k3] at c3; simp [giveM, c, c3, k3])
     ·skip
      repeat' (first | refine W_seq ?_ | refine W_skip ?_ | refine W_block ?_ | refine W_ret ?_ | refine W_exit ?_ | refine W_ops (s1 := ?_) (by simp [a197, nextVer, e1, e4, k1, k2, k3]; exact rfl) ?_ | refine W_tops (s1 := ?_) (by simp [a197, nextVer, e1, e4, k1, k2, k3]; exact rfl) ?_ | refine W_cond_t (by first | (simp [a197, nextVer, e1, e4, k1, k2, k3]; done) | fail) ?_ | refine W_cond_f (by first | (simp [a197, nextVer, e1, e4, k1, k2, k3]; done) | fail) ?_ | fail)
      exact fin o.bits o.lanes _ (by simp) (by simp) rfl (by simp [giveM, c, c3, k2, k3])
   ·have k3 : ¬ o.kind = 22 := by omega
    repeat' (first | refine W_seq ?_ | refine W_skip ?_ | refine W_block ?_ | refine W_ret ?_ | refine W_exit ?_ | refine W_ops (s1 := ?_) (by simp [a197, nextVer, e1, e4, k1, k3]; exact rfl) ?_ | refine W_tops (s1 := ?_) (by simp [a197, nextVer, e1, e4, k1, k3]; exact rfl) ?_ | refine W_cond_t (by first | (simp [a197, nextVer, e1, e4, k1, k3]; done) | fail) ?_ | refine W_cond_f (by first | (simp [a197, nextVer, e1, e4, k1, k3]; done) | fail) ?_ | fail)
    exact fin o.bits o.lanes _ (by simp) (by simp) rfl (by simp [giveM, c, c3, k1, k3])

end Go.Proofs.YtpbngohpklpalaaGreat

/- The checker: small parts; whether all looks right by itself. -/
namespace Go.Proofs.YtpbngohpklpalaaGreat
open Go.LS Go.IntWalk
structure Straight where
 ps : List Int
 ret : Int
 ops : List OpD
 arg : Int
def Straight.b (x : Straight) : BlockD := ⟨[], x.ops, 0, x.arg, []⟩
def Straight.f (x : Straight) : FuncD := ⟨x.ps, x.ret, [x.b]⟩
def chkC (f : FuncD) (succ pred tree : List (List V)) (ts tp tt : Tag) (m : Option Nat) : List V :=
 [.lst .ro (f.params.map intC), .int .i64 f.ret, .lst .ro (f.blocks.map BlockD.c), .int .i64 2, .lst ts succ, .lst tp pred, .lst tt tree, .map m]
theorem scalar_run (b : Int) (h : LS.Heap) : callD T 196 [.int .i64 b] h = some (.agg [.int .i64 b, .int .i64 1], h) := by
 refine W_call t196 rfl rfl (by simp) ?_
 show W T c196 _ _
 unfold c196
 repeat' (first | refine W_seq ?_ | refine W_skip ?_ | refine W_block ?_ | refine W_ret ?_ | refine W_exit ?_ | refine W_ops (s1 := ?_) (by simp [a196, nextVer]; exact rfl) ?_ | refine W_tops (s1 := ?_) (by simp [a196, nextVer]; exact rfl) ?_ | refine W_cond_t (by first | (simp [a196, nextVer]; done) | fail) ?_ | refine W_cond_f (by first | (simp [a196, nextVer]; done) | fail) ?_ | fail)
 exact ⟨.inr rfl, _, by simp [a196, resV, resV1]; exact rfl, by simp [a196, packV], by simp, .refl _⟩
def addM (g : Int → Option V) (v : Int) (d : V) : Int → Option V := fun j => if j = v then some d else g j
theorem put_run (c m : Nat) (v : Int) (d1 d2 d3 d4 : Int) (h : LS.Heap) {l1 l2 l3 l4 l5 l6 l7 : V} (hc : h.objs c = some (.var [l1, l2, l3, l4, l5, l6, l7, .map (some m)])) {g : Int → Option V} (hm : h.objs m = some (.map .i64 g)) (hcm : c ≠ m)
  (hg : g v = none) :
  callD T 195 [.obj c 0, .int .i64 v, .agg [.int .i64 d1, .int .i64 d2, .int .i64 d3, .int .i64 d4]] h = some (.bool true, h.set m (.map .i64 (addM g v (.agg [.int .i64 d1, .int .i64 d2, .int .i64 d3, .int .i64 d4])))) := by
 refine W_callH t195 rfl rfl (by simp) ?_
 show W T c195 _ _
 unfold c195
 repeat' (first | refine W_seq ?_ | refine W_skip ?_ | refine W_block ?_ | refine W_ret ?_ | refine W_exit ?_ | refine W_ops (s1 := ?_) (by simp [a195, nextVer, hc, hm, hg]; exact rfl) ?_ | refine W_tops (s1 := ?_) (by simp [a195, nextVer, hc, hm, hg]; exact rfl) ?_ | refine W_cond_t (by first | (simp [a195, nextVer, hc, hm, hg]; done) | fail) ?_ | refine W_cond_f (by first | (simp [a195, nextVer, hc, hm, hg]; done) | fail) ?_ | fail)
 exact ⟨.inr rfl, [.bool true], by simp [a195, resV, resV1], by simp [a195, packV], rfl⟩
theorem of_run (c : Nat) (o : OpD) (ht : TakesOK o) (hl : o.args.length < 2 ^ 40) (h : LS.Heap) {l1 l2 l3 l5 l6 l7 l8 : V} (hc : h.objs c = some (.var [l1, l2, l3, .int .i64 2, l5, l6, l7, l8])) :
  callD T 194 [.obj c 0, .agg o.c] h = some (.bool (mayOp o), h) := by
 have e := kindMay_run o ht hl h
 refine W_callH t194 rfl rfl (by simp) ?_
 show W T c194 _ _
 unfold c194
 rw [opc_eq] at e ⊢
 repeat' (first | refine W_seq ?_ | refine W_skip ?_ | refine W_block ?_ | refine W_ret ?_ | refine W_exit ?_ | refine W_ops (s1 := ?_) (by simp [a194, nextVer, hc, e]; exact rfl) ?_ | refine W_tops (s1 := ?_) (by simp [a194, nextVer, hc, e]; exact rfl) ?_ | refine W_cond_t (by first | (simp [a194, nextVer, hc, e]; done) | fail) ?_ | refine W_cond_f (by first | (simp [a194, nextVer, hc, e]; done) | fail) ?_ | fail)
 exact ⟨.inr rfl, [.bool (mayOp o)], by simp [a194, resV, resV1], by simp [a194, packV], rfl⟩
theorem typedP_run (n : Int) (h : LS.Heap) : callD T 189 [.int .i64 n] h = some (.bool (!widthB n), h) := by
 have e := wordMay_run n h
 refine W_call t189 rfl rfl (by simp) ?_
 show W T c189 _ _
 unfold c189
 repeat' (first | refine W_seq ?_ | refine W_skip ?_ | refine W_block ?_ | refine W_ret ?_ | refine W_exit ?_ | refine W_ops (s1 := ?_) (by simp [a189, e]; exact rfl) ?_ | refine W_tops (s1 := ?_) (by simp [a189, e]; exact rfl) ?_ | refine W_cond_t (by first | (simp [a189, e]; done) | fail) ?_ | refine W_cond_f (by first | (simp [a189, e]; done) | fail) ?_ | fail)
 exact ⟨.inr rfl, [.bool (!widthB n)], by simp [a189, resV, resV1], by simp [a189, packV], rfl, .refl _⟩
theorem typedO_run (c b : Nat) (o : OpD) (ht : TakesOK o) (hl : o.args.length < 2 ^ 40) (h : LS.Heap) (hb : h.objs b = some (.var [.obj c 0])) {l1 l2 l3 l5 l6 l7 l8 : V} (hc : h.objs c = some (.var [l1, l2, l3, .int .i64 2, l5, l6, l7, l8])) :
  callD T 193 [.agg o.c, .obj b 0] h = some (.bool (!mayOp o), h) := by
 have e := of_run c o ht hl h hc
 refine W_call t193 rfl rfl (by simp) ?_
 show W T c193 _ _
 unfold c193
 rw [opc_eq] at e ⊢
 repeat' (first | refine W_seq ?_ | refine W_skip ?_ | refine W_block ?_ | refine W_ret ?_ | refine W_exit ?_ | refine W_ops (s1 := ?_) (by simp [a193, nextVer, hb, e]; exact rfl) ?_ | refine W_tops (s1 := ?_) (by simp [a193, nextVer, hb, e]; exact rfl) ?_ | refine W_cond_t (by first | (simp [a193, nextVer, hb, e]; done) | fail) ?_ | refine W_cond_f (by first | (simp [a193, nextVer, hb, e]; done) | fail) ?_ | fail)
 exact ⟨.inr rfl, [.bool (!mayOp o)], by simp [a193, resV, resV1], by simp [a193, packV], rfl, .refl _⟩
theorem typedPhi_nil (h : LS.Heap) : callD T 190 [.lst .ro [], .fn 191 [] []] h = some (.bool false, h) :=
 Contains_phi PhiD.c ([] : List PhiD) 191 [] (fun _ => false) h .ro (by simp) (fun _ => rfl) rfl rfl (fun x hx => by cases hx)
theorem new_objs_old {h : LS.Heap} {o : AObj} {id : Nat} (hid : id < h.next) : (h.new o).objs id = h.objs id := by simp only [Heap.new, upd]; rw [if_neg (by omega)]
theorem new_objs_new (h : LS.Heap) (o : AObj) : (h.new o).objs h.next = some o := by simp [Heap.new, upd]
theorem typed_run (x : Straight) (c : Nat) (h : LS.Heap) (hcn : c < h.next) {succ pred tree : List (List V)} {ts tp tt : Tag} {m : Option Nat} (hc : h.objs c = some (.var (chkC x.f succ pred tree ts tp tt m)))
  (hfit : x.f.Fit) (hT : ∀ o ∈ x.ops, TakesOK o) (hret : widthB x.ret = true) (hps : ∀ p ∈ x.ps, widthB p = true) (hops : ∀ o ∈ x.ops, mayOp o = true) :
  callD T 168 [.obj c 0] h = some (.int .i64 0, h.new (.var [.obj c 0])) := by
 have hc' : (h.new (.var [.obj c 0])).objs c = some (.var (chkC x.f succ pred tree ts tp tt m)) := by rw [new_objs_old hcn]; exact hc
 have hb := new_objs_new h (.var [.obj c 0])
 have e1 := wordMay_run x.ret (h.new (.var [.obj c 0]))
 rw [hret] at e1
 obtain ⟨f1, f2, f3⟩ := hfit
 obtain ⟨g1, g2, g3, g4, g5⟩ := f3 x.b (by simp [Straight.f])
 have e2 := Contains_int intC x.ps 189 [] (fun n => !widthB n) (h.new (.var [.obj c 0])) .ro (by have : x.ps.length < 2 ^ 40 := f1; omega) (fun _ => rfl) (by simp) rfl (fun n _ => typedP_run n _)
 have a2 : x.ps.any (fun n => !widthB n) = false := by
  rw [List.any_eq_false]; intro p hp; simp [hps p hp]
 rw [a2] at e2
 have e3 := Contains_op OpD.c x.ops 193 [.obj h.next 0] (fun o => !mayOp o) (h.new (.var [.obj c 0])) .ro (by have : x.ops.length < 2 ^ 40 := g2; omega) (fun _ => rfl) (by simp) rfl
  (fun o ho => typedO_run c h.next o (hT o ho) (g5 o ho) _ hb hc')
 have a3 : x.ops.any (fun o => !mayOp o) = false := by
  rw [List.any_eq_false]; intro o ho; simp [hops o ho]
 rw [a3] at e3
 have e4 := typedPhi_nil (h.new (.var [.obj c 0]))
 unfold chkC at hc'
 have hbk : x.f.blocks.map BlockD.c = [[.lst .ro [], .lst .ro (x.ops.map OpD.c), .int .i64 0, .int .i64 x.arg, .lst .ro []]] := rfl
 have hr : x.f.ret = x.ret := rfl
 have hp : x.f.params = x.ps := rfl
 rw [hbk, hr, hp] at hc'
 have w1 : IntKind.i64.wrap 1 = 1 := i64_in _ (by omega)
 refine W_callH t168 rfl rfl (by simp) ?_
 show W T c168 _ _
 unfold c168
 refine W_seq (W_ops (s1 := ?_) (by simp only [r168_0]; simp [a168]; exact rfl) ?_)
 generalize hh : h.new (.var [.obj c 0]) = h1 at *
 refine W_seq (W_seq (W_ops (s1 := ?_) (by simp only [r168_1]; simp [hb, hc', e1, e2]; exact rfl) ?_))
 refine W_cond_f (by simp) (W_skip ?_)
 refine W_seq (W_seq (W_ops (s1 := ?_) (by simp only [r168_3]; simp [hb, hc']; exact rfl) ?_))
 refine W_block (W_loop' l168_0.eq_1 ?_)
 repeat' (first | refine W_seq ?_ | refine W_skip ?_ | refine W_block ?_ | refine W_ret ?_ | refine W_exit ?_ | refine W_ops (s1 := ?_) (by simp [hb, hc', e3, e4, w1]; exact rfl) ?_ | refine W_tops (s1 := ?_) (by simp [hb, hc', e3, e4, w1]; exact rfl) ?_ | refine W_cond_t (by first | (simp [hb, hc', e3, e4, w1]; done) | fail) ?_ | refine W_cond_f (by first | (simp [hb, hc', e3, e4, w1]; done) | fail) ?_ | fail)
 refine W_loop' l168_0.eq_1 ?_
 repeat' (first | refine W_seq ?_ | refine W_skip ?_ | refine W_block ?_ | refine W_ret ?_ | refine W_exit ?_ | refine W_ops (s1 := ?_) (by simp [hb, hc', e3, e4]; exact rfl) ?_ | refine W_tops (s1 := ?_) (by simp [hb, hc', e3, e4]; exact rfl) ?_ | refine W_cond_t (by first | (simp [hb, hc', e3, e4]; done) | fail) ?_ | refine W_cond_f (by first | (simp [hb, hc', e3, e4]; done) | fail) ?_ | fail)
 exact ⟨.inr rfl, [.int .i64 0], by simp [a168, resV, resV1], by simp [a168, packV], rfl⟩

end Go.Proofs.YtpbngohpklpalaaGreat
