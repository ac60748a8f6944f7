/- A part of the proof: an abstract machine for the program's code and what each of its functions comes to there. No conditions. -/
import Derived.Test.YtpbngohpklpalaaGreatP10

set_option linter.unusedSimpArgs false
set_option linter.unusedVariables false

/- Finding forms: the form of an operation of two; of any value. -/
namespace Go.Proofs.YtpbngohpklpalaaGreat
open Go.LS Go.IntWalk
def madeV : Option FormD → V
 | some F => .tup [formV F, .bool true]
 | none => .tup [formV ([], 0), .bool false]

section
variable {h : LS.Heap} {c m1 m2 : Nat} {O : Int → Option OpD} {Φ : Int → Option FormD} {v : Int}
theorem made_two {o : OpD} {x y : Int} {rest : List Int} {A1 B1 : List (Int × Int)} {A2 B2 : Int} {h1 h2 : LS.Heap} (k : Finds h c m1 m2 O Φ) (ho : O v = some o) (hb : o.bits = 64) (hl : o.lanes = 1) (hk1 : 1 ≤ o.kind) (hk2 : o.kind ≤ 8) (hargs : o.args = x :: y :: rest)
  (fa : callD T 58 [.obj c 0, .int .i64 x] h = some (formV (A1, A2), h1)) (fb : callD T 58 [.obj c 0, .int .i64 y] h1 = some (formV (B1, B2), h2)) (la : A1.length ≤ 16) (lb : B1.length ≤ 16) (hB : 0 ≤ B2) :
  callD T 119 [.obj c 0, .int .i64 v] h = some (madeV (twoF o.kind (A1, A2) (B1, B2)), h2) := by
 have e1 := k.obj
 have e2 := k.ops
 have e3 : opsV O v = some (.agg [.int .i64 o.kind, .int .i64 o.bits, .int .i64 o.lanes, .int .i64 o.dst, .lst .ro ([.int .i64 x] :: [.int .i64 y] :: rest.map intC), .int .u64 o.imm]) := by simp [opsV, ho, OpD.c, hargs, intC]
 have k0 : o.kind ≠ 0 := by omega
 have k1 : ¬ o.kind < 1 := by omega
 have k8 : ¬ 8 < o.kind := by omega
 unfold formV at fa fb
 simp only at fa fb
 have pl := Plus_run .ro .ro A1 B1 A2 B2 (by omega) (by omega) h2
 have mi := Minus_run .ro .ro A1 B1 A2 B2 (by omega) (by omega) h2
 have t1 := Times_run .ro A1 A2 B2 (by omega) h2
 have t2 := Times_run .ro B1 B2 A2 (by omega) h2
 have t3 := Times_run .ro A1 A2 (shlU B2) (by omega) h2
 simp only [formC] at pl mi t1 t2 t3
 have hretag : ∀ l : List Int, V.retagLL (l.map intC) = l.map intC := fun l => by simp
 refine W_callH t119 rfl rfl (by simp) ?_
 show W T c119 _ _
 unfold c119
 refine W_seq (W_ops (s1 := ?_) (by simp only [r119_0]; simp [a119, nextVer]; exact rfl) ?_)
 refine W_seq (W_ops (s1 := ?_) (by simp only [r119_1]; simp [nextVer, e1, e2, e3]; exact rfl) ?_)
 refine W_seq (W_seq (W_ops (s1 := ?_) (by simp only [r119_2]; simp [hb, hl]; exact rfl) ?_))
 refine W_cond_f (by simp) (W_skip ?_)
 refine W_seq (W_seq (W_ops (s1 := ?_) (by simp only [r119_4]; simp [k0]; exact rfl) ?_))
 refine W_cond_f (by simp) (W_skip ?_)
 refine W_seq (W_seq (W_ops (s1 := ?_) (by simp only [r119_6]; simp [k1, k8]; exact rfl) ?_))
 refine W_cond_f (by simp) (W_skip ?_)
 refine W_seq (W_tops (s1 := ?_) (by simp only [r119_8]; simp [fa, fb, nextVer]; exact rfl) ?_)
 have fin : ∀ (F : Option FormD) (s : St) (b : Bool) (l : List (List V)) (n : Int) (tg : Tag), s.t 4 = .loc 4 0 0 → s.loc 4 = some (0, [.lst tg l, .int .u64 n]) → s.t 5 = .bool b → s.h = h2 → madeV F = .tup [.agg [.lst .ro (V.retagLL l), .int .u64 n], .bool b] → twoF o.kind (A1, A2) (B1, B2) = F →
   (AExit.ret = AExit.normal ∨ AExit.ret = AExit.ret) ∧ ∃ vs, resV s a119.res = some vs ∧ (if a119.keepR = true then packV vs else (packV vs).retag) = madeV (twoF o.kind (A1, A2) (B1, B2)) ∧ s.h = h2 := fun F s b l n tg q1 q2 q3 q4 q5 q6 => by
  refine ⟨.inr rfl, [.agg [.lst tg l, .int .u64 n], .bool b], by simp [a119, resV, resV1, q1, q2, q3], ?_, q4⟩
  rw [q6, q5]
  simp [a119, packV]
 by_cases c1 : o.kind = 1
 ·skip
  repeat' (first | refine W_seq ?_ | refine W_skip ?_ | refine W_block ?_ | refine W_ret ?_ | refine W_exit ?_ | refine W_ops (s1 := ?_) (by simp [c1, pl]; exact rfl) ?_ | refine W_tops (s1 := ?_) (by simp [c1, pl]; exact rfl) ?_ | refine W_cond_t (by first | (simp [c1, pl]; done) | fail) ?_ | refine W_cond_f (by first | (simp [c1, pl]; done) | fail) ?_ | fail)
  exact fin (some (plusM A1 B1 A2 B2)) _ true _ _ _ (by simp) (by simp; exact ⟨⟨rfl, rfl⟩, rfl⟩) (by simp) rfl (by simp [madeV, formV]) (by simp [twoF, c1])
 by_cases c2 : o.kind = 2
 ·skip
  repeat' (first | refine W_seq ?_ | refine W_skip ?_ | refine W_block ?_ | refine W_ret ?_ | refine W_exit ?_ | refine W_ops (s1 := ?_) (by simp [c2, mi]; exact rfl) ?_ | refine W_tops (s1 := ?_) (by simp [c2, mi]; exact rfl) ?_ | refine W_cond_t (by first | (simp [c2, mi]; done) | fail) ?_ | refine W_cond_f (by first | (simp [c2, mi]; done) | fail) ?_ | fail)
  exact fin (some (minusM A1 B1 A2 B2)) _ true _ _ _ (by simp) (by simp; exact ⟨⟨rfl, rfl⟩, rfl⟩) (by simp) rfl (by simp [madeV, formV]) (by simp [twoF, c2])
 by_cases c3 : o.kind = 3
 ·by_cases hB1 : B1 = []
  ·subst hB1
   repeat' (first | refine W_seq ?_ | refine W_skip ?_ | refine W_block ?_ | refine W_ret ?_ | refine W_exit ?_ | refine W_ops (s1 := ?_) (by simp [c3, t1, terms_nil]; exact rfl) ?_ | refine W_tops (s1 := ?_) (by simp [c3, t1, terms_nil]; exact rfl) ?_ | refine W_cond_t (by first | (simp [c3, t1, terms_nil]; done) | fail) ?_ | refine W_cond_f (by first | (simp [c3, t1, terms_nil]; done) | fail) ?_ | fail)
   exact fin (some (timesM A1 A2 B2)) _ true _ _ _ (by simp) (by simp; exact ⟨⟨rfl, rfl⟩, rfl⟩) (by simp) rfl (by simp [madeV, formV]) (by simp [twoF, c3])
  ·have hBl : ¬ (B1.length : Int) = 0 := by
    intro e
    exact hB1 (List.length_eq_zero_iff.1 (by omega))
   by_cases hA1 : A1 = []
   ·subst hA1
    repeat' (first | refine W_seq ?_ | refine W_skip ?_ | refine W_block ?_ | refine W_ret ?_ | refine W_exit ?_ | refine W_ops (s1 := ?_) (by simp [c3, t2, terms_nil, terms_len, hBl, hB1]; exact rfl) ?_ | refine W_tops (s1 := ?_) (by simp [c3, t2, terms_nil, terms_len, hBl, hB1]; exact rfl) ?_ | refine W_cond_t (by first | (simp [c3, t2, terms_nil, terms_len, hBl, hB1]; done) | fail) ?_ | refine W_cond_f (by first | (simp [c3, t2, terms_nil, terms_len, hBl, hB1]; done) | fail) ?_ | fail)
    exact fin (some (timesM B1 B2 A2)) _ true _ _ _ (by simp) (by simp; exact ⟨⟨rfl, rfl⟩, rfl⟩) (by simp) rfl (by simp [madeV, formV]) (by simp [twoF, c3, hB1])
   ·have hAl : ¬ (A1.length : Int) = 0 := by
     intro e
     exact hA1 (List.length_eq_zero_iff.1 (by omega))
    repeat' (first | refine W_seq ?_ | refine W_skip ?_ | refine W_block ?_ | refine W_ret ?_ | refine W_exit ?_ | refine W_ops (s1 := ?_) (by simp [c3, terms_len, hBl, hAl, hB1, hA1]; exact rfl) ?_ | refine W_tops (s1 := ?_) (by simp [c3, terms_len, hBl, hAl, hB1, hA1]; exact rfl) ?_ | refine W_cond_t (by first | (simp [c3, terms_len, hBl, hAl, hB1, hA1]; done) | fail) ?_ | refine W_cond_f (by first | (simp [c3, terms_len, hBl, hAl, hB1, hA1]; done) | fail) ?_ | fail)
    exact fin none _ false _ _ _ (by simp) (by simp; exact ⟨⟨rfl, rfl⟩, rfl⟩) (by simp) rfl (by simp [madeV, formV, terms_nil]) (by simp [twoF, c3, hB1, hA1])
 by_cases c8 : o.kind = 8
 ·by_cases hB1 : B1 = []
  ·subst hB1
   by_cases h64 : B2 < 64
   ·have hneg : ¬ B2 < 0 := by omega
    unfold shlU at t3
    simp only [Int.one_mul] at t3
    repeat' (first | refine W_seq ?_ | refine W_skip ?_ | refine W_block ?_ | refine W_ret ?_ | refine W_exit ?_ | refine W_ops (s1 := ?_) (by simp [c8, t3, terms_nil, h64, hneg, hB, IntKind.bits]; exact rfl) ?_ | refine W_tops (s1 := ?_) (by simp [c8, t3, terms_nil, h64, hneg, hB, IntKind.bits]; exact rfl) ?_ | refine W_cond_t (by first | (simp [c8, t3, terms_nil, h64, hneg, hB, IntKind.bits]; done) | fail) ?_ | refine W_cond_f (by first | (simp [c8, t3, terms_nil, h64, hneg, hB, IntKind.bits]; done) | fail) ?_ | fail)
    exact fin (some (timesM A1 A2 (shlU B2))) _ true _ _ _ (by simp) (by simp; exact ⟨⟨rfl, rfl⟩, rfl⟩) (by simp) rfl (by simp [madeV, formV, shlU]) (by simp [twoF, c8, h64])
   ·skip
    repeat' (first | refine W_seq ?_ | refine W_skip ?_ | refine W_block ?_ | refine W_ret ?_ | refine W_exit ?_ | refine W_ops (s1 := ?_) (by simp [c8, terms_nil, h64]; exact rfl) ?_ | refine W_tops (s1 := ?_) (by simp [c8, terms_nil, h64]; exact rfl) ?_ | refine W_cond_t (by first | (simp [c8, terms_nil, h64]; done) | fail) ?_ | refine W_cond_f (by first | (simp [c8, terms_nil, h64]; done) | fail) ?_ | fail)
    exact fin none _ false _ _ _ (by simp) (by simp; exact ⟨⟨rfl, rfl⟩, rfl⟩) (by simp) rfl (by simp [madeV, formV, terms_nil]) (by simp [twoF, c8, h64])
  ·have hBl : ¬ (B1.length : Int) = 0 := by
    intro e
    exact hB1 (List.length_eq_zero_iff.1 (by omega))
   repeat' (first | refine W_seq ?_ | refine W_skip ?_ | refine W_block ?_ | refine W_ret ?_ | refine W_exit ?_ | refine W_ops (s1 := ?_) (by simp [c8, terms_len, hBl, hB1]; exact rfl) ?_ | refine W_tops (s1 := ?_) (by simp [c8, terms_len, hBl, hB1]; exact rfl) ?_ | refine W_cond_t (by first | (simp [c8, terms_len, hBl, hB1]; done) | fail) ?_ | refine W_cond_f (by first | (simp [c8, terms_len, hBl, hB1]; done) | fail) ?_ | fail)
   exact fin none _ false _ _ _ (by simp) (by simp; exact ⟨⟨rfl, rfl⟩, rfl⟩) (by simp) rfl (by simp [madeV, formV, terms_nil]) (by simp [twoF, c8, hB1])
 ·skip
  repeat' (first | refine W_seq ?_ | refine W_skip ?_ | refine W_block ?_ | refine W_ret ?_ | refine W_exit ?_ | refine W_ops (s1 := ?_) (by simp [c1, c2, c3, c8]; exact rfl) ?_ | refine W_tops (s1 := ?_) (by simp [c1, c2, c3, c8]; exact rfl) ?_ | refine W_cond_t (by first | (simp [c1, c2, c3, c8]; done) | fail) ?_ | refine W_cond_f (by first | (simp [c1, c2, c3, c8]; done) | fail) ?_ | fail)
  exact fin none _ false _ _ _ (by simp) (by simp; exact ⟨⟨rfl, rfl⟩, rfl⟩) (by simp) rfl (by simp [madeV, formV, terms_nil]) (by simp [twoF, c1, c2, c3, c8])

end

end Go.Proofs.YtpbngohpklpalaaGreat

/- Finding forms: the finder finds each value's form. -/
namespace Go.Proofs.YtpbngohpklpalaaGreat
open Go.LS Go.IntWalk
theorem plusM_off (a b : List (Int × Int)) (x y : Int) : 0 ≤ (plusM a b x y).2 := by
 unfold plusM; split
 ·exact (addU_range _ _).1
 ·simp
theorem minusM_off (a b : List (Int × Int)) (x y : Int) : 0 ≤ (minusM a b x y).2 := by
 unfold minusM; split
 ·exact (subU_range _ _).1
 ·simp
theorem timesM_off (a : List (Int × Int)) (x n : Int) : 0 ≤ (timesM a x n).2 := by
 unfold timesM; split
 ·exact (mulU_range _ _).1
 ·simp
theorem twoF_off {k : Int} {A B F : FormD} (h : twoF k A B = some F) : 0 ≤ F.2 := by
 unfold twoF at h
 split at h
 ·injection h with h; subst h; exact plusM_off _ _ _ _
 ·split at h
  ·injection h with h; subst h; exact minusM_off _ _ _ _
  ·split at h
   ·injection h with h; subst h; exact timesM_off _ _ _
   ·split at h
    ·injection h with h; subst h; exact timesM_off _ _ _
    ·split at h
     ·injection h with h; subst h; exact timesM_off _ _ _
     ·cases h
theorem FormOf.off {O : Int → Option OpD} (hO : ∀ v o, O v = some o → 0 ≤ o.imm) {v : Int} {F : FormD} (h : FormOf O v F) : 0 ≤ F.2 := by
 cases h with
 | const h _ _ _ => exact hO _ _ h
 | two h _ _ _ _ _ hA hB =>
  unfold capF
  split
  ·simp [ownF]
  ·rename_i G hG
   split
   ·simp [ownF]
   ·exact twoF_off hG
 | _ => simp [ownF]

section
variable {h h1 : LS.Heap} {c m1 m2 : Nat} {O : Int → Option OpD} {Φ Φ1 : Int → Option FormD} {v : Int}
theorem form_found (k : Finds h c m1 m2 O Φ) {G : FormD} (hv : Φ v = some G) : callD T 58 [.obj c 0, .int .i64 v] h = some (formV G, h) := by
 have e1 := k.obj
 have e2 := k.forms
 have e3 : formsV Φ v = some (.agg [.lst .ro (terms G.1), .int .u64 G.2]) := by simp [formsV, hv, formV]
 refine W_callH t58 rfl rfl (by simp) ?_
 show W T c58 _ _
 unfold c58
 repeat' (first | refine W_seq ?_ | refine W_skip ?_ | refine W_block ?_ | refine W_ret ?_ | refine W_exit ?_ | refine W_ops (s1 := ?_) (by simp [a58, nextVer, e1, e2, e3]; exact rfl) ?_ | refine W_tops (s1 := ?_) (by simp [a58, nextVer, e1, e2, e3]; exact rfl) ?_ | refine W_cond_t (by first | (simp [a58, nextVer, e1, e2, e3]; done) | fail) ?_ | refine W_cond_f (by first | (simp [a58, nextVer, e1, e2, e3]; done) | fail) ?_ | fail)
 exact ⟨.inr rfl, _, by simp [a58, resV, resV1]; exact rfl, by simp [a58, packV, formV], rfl⟩
theorem form_made (k : Finds h c m1 m2 O Φ) (hv : Φ v = none) {G : FormD} {ok : Bool} (hm : callD T 119 [.obj c 0, .int .i64 v] h = some (.tup [formV G, .bool ok], h1)) (k1 : Finds h1 c m1 m2 O Φ1) {F : FormD}
  (hF : F = if ok = true ∧ G.1.length ≤ 16 then G else ownF v) :
  callD T 58 [.obj c 0, .int .i64 v] h = some (formV F, h1.set m2 (.map .i64 (formsV (fun j => if j = v then some F else Φ1 j)))) := by
 have e1 := k.obj
 have e2 := k.forms
 have e3 : formsV Φ v = none := by simp [formsV, hv]
 have e4 := k1.obj
 have e5 := k1.forms
 have e6 : ∀ F : FormD, formsV (fun j => if j = v then some F else Φ1 j) = fun j => if j = v then some (.agg [.lst .ro (terms F.1), .int .u64 F.2]) else formsV Φ1 j := fun F => by
  funext j
  simp only [formsV]
  split <;> rfl
 have own1 : terms (ownF v).1 = [[.int .i64 v, .int .u64 1]] := rfl
 have own2 : (ownF v).2 = 0 := rfl
 rw [e6]
 unfold formV at hm ⊢
 refine W_callH t58 rfl rfl (by simp) ?_
 show W T c58 _ _
 unfold c58
 cases ok with
 | false =>
  have hF : F = ownF v := by rw [hF]; simp
  subst hF
  repeat' (first | refine W_seq ?_ | refine W_skip ?_ | refine W_block ?_ | refine W_ret ?_ | refine W_exit ?_ | refine W_ops (s1 := ?_) (by simp [a58, nextVer, e1, e2, e3, e4, e5, hm, own1, own2]; exact rfl) ?_ | refine W_tops (s1 := ?_) (by simp [a58, nextVer, e1, e2, e3, e4, e5, hm, own1, own2]; exact rfl) ?_ | refine W_cond_t (by first | (simp [a58, nextVer, e1, e2, e3, e4, e5, hm, own1, own2]; done) | fail) ?_ | refine W_cond_f (by first | (simp [a58, nextVer, e1, e2, e3, e4, e5, hm, own1, own2]; done) | fail) ?_ | fail)
  exact ⟨.inr rfl, _, by simp [a58, resV, resV1]; exact rfl, by simp [a58, packV, own1, own2], by simp [own1, own2]⟩
 | true =>
  by_cases hl : G.1.length ≤ 16
  ·have hF : F = G := by rw [hF]; simp [hl]
   subst hF
   have hl1 : ¬ (16 : Int) < F.1.length := by omega
   have hl2 : ¬ 16 < F.1.length := by omega
   repeat' (first | refine W_seq ?_ | refine W_skip ?_ | refine W_block ?_ | refine W_ret ?_ | refine W_exit ?_ | refine W_ops (s1 := ?_) (by simp [a58, nextVer, e1, e2, e3, e4, e5, hm, terms_len, hl1, hl2]; exact rfl) ?_ | refine W_tops (s1 := ?_) (by simp [a58, nextVer, e1, e2, e3, e4, e5, hm, terms_len, hl1, hl2]; exact rfl) ?_ | refine W_cond_t (by first | (simp [a58, nextVer, e1, e2, e3, e4, e5, hm, terms_len, hl1, hl2]; done) | fail) ?_ | refine W_cond_f (by first | (simp [a58, nextVer, e1, e2, e3, e4, e5, hm, terms_len, hl1, hl2]; done) | fail) ?_ | fail)
   exact ⟨.inr rfl, _, by simp [a58, resV, resV1]; exact rfl, by simp [a58, packV], by simp⟩
  ·have hF : F = ownF v := by rw [hF]; simp; intro h; omega
   subst hF
   have hl1 : (16 : Int) < G.1.length := by omega
   have hl2 : 16 < G.1.length := by omega
   repeat' (first | refine W_seq ?_ | refine W_skip ?_ | refine W_block ?_ | refine W_ret ?_ | refine W_exit ?_ | refine W_ops (s1 := ?_) (by simp [a58, nextVer, e1, e2, e3, e4, e5, hm, terms_len, hl1, hl2, own1, own2]; exact rfl) ?_ | refine W_tops (s1 := ?_) (by simp [a58, nextVer, e1, e2, e3, e4, e5, hm, terms_len, hl1, hl2, own1, own2]; exact rfl) ?_ | refine W_cond_t (by first | (simp [a58, nextVer, e1, e2, e3, e4, e5, hm, terms_len, hl1, hl2, own1, own2]; done) | fail) ?_ | refine W_cond_f (by first | (simp [a58, nextVer, e1, e2, e3, e4, e5, hm, terms_len, hl1, hl2, own1, own2]; done) | fail) ?_ | fail)
   exact ⟨.inr rfl, _, by simp [a58, resV, resV1]; exact rfl, by simp [a58, packV, own1, own2], by simp [own1, own2]⟩

end
theorem form_run {c m1 m2 : Nat} {O : Int → Option OpD} (hO : ∀ v o, O v = some o → 0 ≤ o.imm) {v : Int} {F : FormD} (hF : FormOf O v F) : ∀ (h : LS.Heap) (Φ : Int → Option FormD), Finds h c m1 m2 O Φ →
  ∃ Φ', callD T 58 [.obj c 0, .int .i64 v] h = some (formV F, h.set m2 (.map .i64 (formsV Φ'))) ∧ ∀ u G, Φ' u = some G → FormOf O u G := by
 have found : ∀ {v : Int} {F : FormD} (hF : FormOf O v F) (h : LS.Heap) (Φ : Int → Option FormD) (k : Finds h c m1 m2 O Φ) {G : FormD} (hv : Φ v = some G), ∃ Φ', callD T 58 [.obj c 0, .int .i64 v] h = some (formV F, h.set m2 (.map .i64 (formsV Φ'))) ∧ ∀ u G, Φ' u = some G → FormOf O u G := by
  intro v F hF h Φ k G hv
  have := hF.unique (k.sound v G hv)
  subst this
  exact ⟨Φ, by rw [set_same k.forms]; exact form_found k hv, k.sound⟩
 have step : ∀ {v : Int} {F : FormD} (hF : FormOf O v F) (h h1 : LS.Heap) (Φ Φ1 : Int → Option FormD) (k : Finds h c m1 m2 O Φ) (hv : Φ v = none) {G : FormD} {ok : Bool} (hm : callD T 119 [.obj c 0, .int .i64 v] h = some (.tup [formV G, .bool ok], h1)) (h1e : h1 = h.set m2 (.map .i64 (formsV Φ1)))
   (hs : ∀ u G, Φ1 u = some G → FormOf O u G) (hFe : F = if ok = true ∧ G.1.length ≤ 16 then G else ownF v), ∃ Φ', callD T 58 [.obj c 0, .int .i64 v] h = some (formV F, h.set m2 (.map .i64 (formsV Φ'))) ∧ ∀ u G, Φ' u = some G → FormOf O u G := by
  intro v F hF h h1 Φ Φ1 k hv G ok hm h1e hs hFe
  have k1 : Finds h1 c m1 m2 O Φ1 := by rw [h1e]; exact k.set hs
  refine ⟨fun j => if j = v then some F else Φ1 j, ?_, fun u G' hu => ?_⟩
  rotate_left
  ·simp only at hu
   split at hu
   ·rename_i e
    injection hu with hu
    subst e hu
    exact hF
   ·exact hs u G' hu
  ·rw [form_made k hv hm k1 hFe, h1e, set_set]
 induction hF with
 | @none v ho =>
  intro h Φ k
  cases hv : Φ v with
  | some G => exact found (.none ho) h Φ k hv
  | none => exact step (.none ho) h h Φ Φ k hv (made_none k ho) (set_same k.forms).symm k.sound (by simp)
 | @narrow v o ho hn =>
  intro h Φ k
  cases hv : Φ v with
  | some G => exact found (.narrow ho hn) h Φ k hv
  | none => exact step (.narrow ho hn) h h Φ Φ k hv (made_narrow k ho hn) (set_same k.forms).symm k.sound (by simp)
 | @const v o ho hb hl hk =>
  intro h Φ k
  cases hv : Φ v with
  | some G => exact found (.const ho hb hl hk) h Φ k hv
  | none => exact step (.const ho hb hl hk) h h Φ Φ k hv (made_const k ho hb hl hk) (set_same k.forms).symm k.sound (by simp)
 | @other v o ho hb hl h0 hk =>
  intro h Φ k
  cases hv : Φ v with
  | some G => exact found (.other ho hb hl h0 hk) h Φ k hv
  | none => exact step (.other ho hb hl h0 hk) h h Φ Φ k hv (made_other k ho hb hl h0 hk) (set_same k.forms).symm k.sound (by simp)
 | @two v o x y rest A B ho hb hl hk1 hk2 ha hA hB ihA ihB =>
  intro h Φ k
  cases hv : Φ v with
  | some G => exact found (.two ho hb hl hk1 hk2 ha hA hB) h Φ k hv
  | none =>
   obtain ⟨Φ1, q1, q2⟩ := ihA h Φ k
   obtain ⟨Φ2, q3, q4⟩ := ihB _ Φ1 (k.set q2)
   rw [set_set] at q3
   have hm := made_two (A1 := A.1) (A2 := A.2) (B1 := B.1) (B2 := B.2) k ho hb hl hk1 hk2 ha q1 q3 hA.short hB.short (hB.off hO)
   rcases ht : twoF o.kind A B with _ | G
   ·have ht' : twoF o.kind (A.1, A.2) (B.1, B.2) = none := ht
    rw [ht'] at hm
    have hF := FormOf.two ho hb hl hk1 hk2 ha hA hB
    rw [ht] at hF
    exact step hF h _ Φ Φ2 k hv hm rfl q4 (by simp [capF])
   ·have ht' : twoF o.kind (A.1, A.2) (B.1, B.2) = some G := ht
    rw [ht'] at hm
    have hF := FormOf.two ho hb hl hk1 hk2 ha hA hB
    rw [ht] at hF
    refine step hF h _ Φ Φ2 k hv hm rfl q4 ?_
    simp only [capF, true_and]
    by_cases hl16 : G.1.length ≤ 16
    ·rw [if_neg (by omega), if_pos hl16]
    ·rw [if_pos (by omega), if_neg hl16]

end Go.Proofs.YtpbngohpklpalaaGreat

/- The form of a value of a straight function. -/
namespace Go.Proofs.YtpbngohpklpalaaGreat
open Go.LS Go.IntWalk
def opM (l : List OpD) : Nat → Int → Option OpD
 | 0 => fun _ => none
 | k + 1 => match l[k]? with
  | some o => fun j => if j = o.dst then some o else opM l k j
  | none => opM l k
theorem opM_mem {l : List OpD} : ∀ {k : Nat} {j : Int} {o : OpD}, opM l k j = some o → o ∈ l
 | 0, _, _, h => by simp [opM] at h
 | k + 1, j, o, h => by
  cases hl : l[k]? with
  | none => simp only [opM, hl] at h; exact opM_mem h
  | some o' =>
   simp only [opM, hl] at h
   by_cases hj : j = o'.dst
   ·rw [if_pos hj] at h; injection h with h; subst h; exact List.mem_of_getElem? hl
   ·rw [if_neg hj] at h; exact opM_mem h
def Straight.O (x : Straight) : Int → Option OpD := opM x.ops x.ops.length
theorem Of_no (hTree : TreeOne) (x : Straight) (R : x.Right) (v : Int) (h : LS.Heap) (hv : ∀ d, x.D v = some d → d.bits ≠ 64 ∨ d.lanes ≠ 1) : callD T 17 [.agg x.f.c, .int .i64 v] h = some (.tup [formV ([], 0), .int .i64 10], h) := by
 have hfc : x.f.c = [.lst .ro (x.ps.map intC), .int .i64 x.ret, .lst .ro [[.lst .ro [], .lst .ro (x.ops.map OpD.c), .int .i64 0, .int .i64 x.arg, .lst .ro []]]] := rfl
 obtain ⟨h', m, e1, hx, g1, g2, m1⟩ := Shapes_run hTree x R h
 rw [hfc] at e1 ⊢
 refine W_call t17 rfl rfl (by simp) ?_
 show W T c17 _ _
 unfold c17
 refine W_seq (W_ops (s1 := ?_) (by simp only [r17_0]; simp [a17, nextVer]; exact rfl) ?_)
 cases hd : x.D v with
 | none =>
  have e2 : shapesV x.D v = none := by simp [shapesV, hd]
  repeat' (first | refine W_seq ?_ | refine W_skip ?_ | refine W_block ?_ | refine W_ret ?_ | refine W_exit ?_ | refine W_ops (s1 := ?_) (by simp [e1, m1, e2, nextVer]; exact rfl) ?_ | refine W_tops (s1 := ?_) (by simp [e1, m1, e2, nextVer]; exact rfl) ?_ | refine W_cond_t (by first | (simp [e1, m1, e2, nextVer]; done) | fail) ?_ | refine W_cond_f (by first | (simp [e1, m1, e2, nextVer]; done) | fail) ?_ | fail)
  exact ⟨.inr rfl, _, by simp [a17, resV, resV1]; exact rfl, by simp [a17, packV, formV, terms_nil], by simp [formV], hx⟩
 | some d =>
  have e2 : shapesV x.D v = some (.agg [.int .i64 d.bits, .int .i64 d.lanes]) := by simp [shapesV, hd, DefD.sh]
  by_cases hb : d.bits = 64
  ·have hl : d.lanes ≠ 1 := by have := hv d hd; omega
   repeat' (first | refine W_seq ?_ | refine W_skip ?_ | refine W_block ?_ | refine W_ret ?_ | refine W_exit ?_ | refine W_ops (s1 := ?_) (by simp [e1, m1, e2, nextVer, hb, hl]; exact rfl) ?_ | refine W_tops (s1 := ?_) (by simp [e1, m1, e2, nextVer, hb, hl]; exact rfl) ?_ | refine W_cond_t (by first | (simp [e1, m1, e2, nextVer, hb, hl]; done) | fail) ?_ | refine W_cond_f (by first | (simp [e1, m1, e2, nextVer, hb, hl]; done) | fail) ?_ | fail)
   exact ⟨.inr rfl, _, by simp [a17, resV, resV1]; exact rfl, by simp [a17, packV, formV, terms_nil], by simp [formV], hx⟩
  ·skip
   repeat' (first | refine W_seq ?_ | refine W_skip ?_ | refine W_block ?_ | refine W_ret ?_ | refine W_exit ?_ | refine W_ops (s1 := ?_) (by simp [e1, m1, e2, nextVer, hb]; exact rfl) ?_ | refine W_tops (s1 := ?_) (by simp [e1, m1, e2, nextVer, hb]; exact rfl) ?_ | refine W_cond_t (by first | (simp [e1, m1, e2, nextVer, hb]; done) | fail) ?_ | refine W_cond_f (by first | (simp [e1, m1, e2, nextVer, hb]; done) | fail) ?_ | fail)
   exact ⟨.inr rfl, _, by simp [a17, resV, resV1]; exact rfl, by simp [a17, packV, formV, terms_nil], by simp [formV], hx⟩
theorem Of_yes (hTree : TreeOne) (x : Straight) (R : x.Right) (v : Int) (h : LS.Heap) {d : DefD} (hv : x.D v = some d) (hb : d.bits = 64) (hl : d.lanes = 1) {F : FormD} (hF : FormOf x.O v F) (himm : ∀ o ∈ x.ops, 0 ≤ o.imm) : callD T 17 [.agg x.f.c, .int .i64 v] h = some (.tup [formV F, .int .i64 0], h) := by
 have hfc : x.f.c = [.lst .ro (x.ps.map intC), .int .i64 x.ret, .lst .ro [[.lst .ro [], .lst .ro (x.ops.map OpD.c), .int .i64 0, .int .i64 x.arg, .lst .ro []]]] := rfl
 obtain ⟨h', m, e1, hx, g1, g2, m1⟩ := Shapes_run hTree x R h
 obtain ⟨f1, f2, f3⟩ := R.fit
 obtain ⟨q1, q2, q3, q4, q5⟩ := f3 x.b (by simp [Straight.f])
 have q2 : x.ops.length < 2 ^ 40 := q2
 have w1 : IntKind.i64.wrap 1 = 1 := i64_in _ (by omega)
 rw [hfc] at e1 ⊢
 have e2 : shapesV x.D v = some (.agg [.int .i64 64, .int .i64 1]) := by simp [shapesV, hv, DefD.sh, hb, hl]
 refine W_call t17 rfl rfl (by simp) ?_
 show W T c17 _ _
 unfold c17
 refine W_seq (W_ops (s1 := ?_) (by simp only [r17_0]; simp [a17, nextVer]; exact rfl) ?_)
 refine W_seq (W_seq (W_ops (s1 := ?_) (by simp only [r17_1]; simp [e1, m1, e2, nextVer]; exact rfl) ?_))
 refine W_seq (W_ops (s1 := ?_) (by simp only [r17_2]; simp; exact rfl) ?_)
 refine W_cond_f (by simp) (W_skip ?_)
 refine W_seq (W_ops (s1 := ?_) (by simp only [r17_4]; simp [Heap.new]; exact rfl) ?_)
 refine W_seq (W_seq (W_ops (s1 := ?_) (by simp only [r17_5]; simp; exact rfl) ?_))
 generalize hH : LS.Heap.mk _ _ = h1
 have hn0 : h'.next ≠ h'.next + 2 := by omega
 have K0 : h1.next = h'.next + 3 ∧ (∀ id, id < h'.next → h1.objs id = h'.objs id) ∧ Finds h1 (h'.next + 2) h'.next (h'.next + 1) (opM x.ops 0) (fun _ => none) := by
  rw [← hH]
  refine ⟨rfl, fun id hid => ?_, ?_, ?_, ?_, by omega, by omega, fun u G hu => by cases hu⟩
  ·have a1 : id ≠ h'.next + 2 := by omega
   have a2 : id ≠ h'.next + 1 := by omega
   have a3 : id ≠ h'.next := by omega
   simp [upd, a1, a2, a3]
  ·simp [upd]
  ·have a1 : h'.next ≠ h'.next + 1 + 1 := by omega
   simp [upd, a1]; rfl
  ·simp [upd]; rfl
 clear hH
 refine W_block (W_loop' l17_0.eq_1 ?_)
 refine W_seq (W_ops (s1 := ?_) (by simp only [r17_6]; simp; exact rfl) ?_)
 refine W_seq (W_cond_t (by simp) (W_skip ?_))
 refine W_seq (W_block (W_seq (W_ops (s1 := ?_) (by simp only [r17_7]; simp; exact rfl) ?_)))
 refine W_seq (W_ops (s1 := ?_) (by simp only [r17_8]; simp; exact rfl) ?_)
 refine W_block (W_for' l17_1.eq_1 (n := x.ops.length) (fun i s => s.t 1 = .int .i64 v ∧ s.t 4 = .loc 4 0 0 ∧ s.t 8 = .obj (h'.next + 2) 0 ∧ s.t 34 = .int .i64 1 ∧ s.t 35 = .int .i64 0 ∧ s.t 40 = .lst .ro (x.ops.map OpD.c) ∧ s.t 41 = .int .i64 x.ops.length ∧ s.t 42 = .int .i64 i ∧
  s.loc 4 = some (0, [.lst .nil [], .int .u64 0]) ∧ s.h.next = h'.next + 3 ∧ (∀ id, id < h'.next → s.h.objs id = h'.objs id) ∧ Finds s.h (h'.next + 2) h'.next (h'.next + 1) (opM x.ops i) (fun _ => none)) ⟨by simp, by simp, by simp, by simp, by simp, by simp, by simp, by simp, by simp, K0.1, K0.2.1, K0.2.2⟩ ?_ ?_)
 ·clear K0
  rintro i ⟨t, loc, h2⟩ hi ⟨t1, t4, t8, t34, t35, t40, t41, t42, l4, hn, ho, k⟩
  simp only at t1 t4 t8 t34 t35 t40 t41 t42 l4 hn ho k
  have hl1 : ((i : Int) < x.ops.length) := by omega
  have hw := i64_succ (show i < 2 ^ 62 by omega)
  have hE : OpD.c x.ops[i] = [.int .i64 x.ops[i].kind, .int .i64 x.ops[i].bits, .int .i64 x.ops[i].lanes, .int .i64 x.ops[i].dst, .lst .ro (x.ops[i].args.map intC), .int .u64 x.ops[i].imm] := rfl
  obtain ⟨k1, k2, k3, k4, k5, k6⟩ := k
  refine W_seq (W_ops (s1 := ?_) (by simp only [r17_9]; simp [t41, t42, hl1]; exact rfl) ?_)
  refine W_seq (W_cond_t (by simp) (W_skip ?_))
  refine W_seq (W_block (W_seq (W_ops (s1 := ?_) (by simp only [r17_10]; simp [t40, t42, hi, hE]; exact rfl) ?_)))
  refine W_tops (s1 := ?_) (by simp only [r17_11]; simp [t8, k1, k2]; exact rfl) ?_
  repeat' (first | refine W_seq ?_ | refine W_skip ?_ | refine W_block ?_ | refine W_ret ?_ | refine W_exit ?_ | refine W_ops (s1 := ?_) (by simp [t42, hw]; exact rfl) ?_ | refine W_tops (s1 := ?_) (by simp [t42, hw]; exact rfl) ?_ | refine W_cond_t (by first | (simp [t42, hw]; done) | fail) ?_ | refine W_cond_f (by first | (simp [t42, hw]; done) | fail) ?_ | fail)
  refine .inl ⟨rfl, by simp [t1], by simp [t4], by simp [t8], by simp [t34], by simp [t35], by simp [t40], by simp [t41], by simp, by simp [l4], hn, fun id hid => ?_, ?_, ?_, ?_, k4, k5, fun u G hu => by cases hu⟩
  ·have a1 : id ≠ h'.next := by omega
   simp [Heap.set, upd, a1, ho id hid]
  ·simp [Heap.set, upd, k1]
  ·simp only [Heap.set, upd, if_true]
   congr 2
   funext j
   simp only [opsV, opM, List.getElem?_eq_getElem hi]
   split
   ·rename_i e
    subst e
    simp [hE]
   ·rename_i e
    simp [e]
  ·simp [Heap.set, upd, k3]
 ·rintro ⟨t, loc, h2⟩ ⟨t1, t4, t8, t34, t35, t40, t41, t42, l4, hn, ho, k⟩
  simp only at t1 t4 t8 t34 t35 t40 t41 t42 l4 hn ho k
  repeat' (first | refine W_seq ?_ | refine W_skip ?_ | refine W_block ?_ | refine W_ret ?_ | refine W_exit ?_ | refine W_ops (s1 := ?_) (by simp [t41, t42]; exact rfl) ?_ | refine W_tops (s1 := ?_) (by simp [t41, t42]; exact rfl) ?_ | refine W_cond_t (by first | (simp [t41, t42]; done) | fail) ?_ | refine W_cond_f (by first | (simp [t41, t42]; done) | fail) ?_ | fail)
  refine ⟨by simp, ?_⟩
  repeat' (first | refine W_seq ?_ | refine W_skip ?_ | refine W_block ?_ | refine W_ret ?_ | refine W_exit ?_ | refine W_ops (s1 := ?_) (by simp [t35, w1]; exact rfl) ?_ | refine W_tops (s1 := ?_) (by simp [t35, w1]; exact rfl) ?_ | refine W_cond_t (by first | (simp [t35, w1]; done) | fail) ?_ | refine W_cond_f (by first | (simp [t35, w1]; done) | fail) ?_ | fail)
  refine W_loop' l17_0.eq_1 ?_
  obtain ⟨Φ, q, _⟩ := form_run (fun u o ho => himm o (opM_mem ho)) hF h2 _ k
  have xh : HExt h (h2.set (h'.next + 1) (.map .i64 (formsV Φ))) := by
   refine ⟨?_, fun id hid => ?_⟩
   ·have := hx.1
    simp only [Heap.set]; omega
   ·have := hx.1
    have a1 : id ≠ h'.next + 1 := by omega
    simp only [Heap.set, upd, a1, if_false]
    rw [ho id (by omega), hx.2 id hid]
  unfold formV at q
  repeat' (first | refine W_seq ?_ | refine W_skip ?_ | refine W_block ?_ | refine W_ret ?_ | refine W_exit ?_ | refine W_ops (s1 := ?_) (by simp [t34, t35, t1, t4, t8, q, l4]; exact rfl) ?_ | refine W_tops (s1 := ?_) (by simp [t34, t35, t1, t4, t8, q, l4]; exact rfl) ?_ | refine W_cond_t (by first | (simp [t34, t35, t1, t4, t8, q, l4]; done) | fail) ?_ | refine W_cond_f (by first | (simp [t34, t35, t1, t4, t8, q, l4]; done) | fail) ?_ | fail)
  refine ⟨.inr rfl, _, by simp [a17, resV, resV1, t4]; exact rfl, ?_, by simp [formV], xh⟩
  simp [a17, packV, formV]

end Go.Proofs.YtpbngohpklpalaaGreat

/- The laws' own example. -/
namespace Go.Proofs.YtpbngohpklpalaaGreat
open Go.LS Go.IntWalk
theorem callD_retag {tab : FuncId → Option AFn} {f : FuncId} {af : AFn} {args args' : List V} {h : LS.Heap} (ht : tab f = some af) (he : af.ext = none) (hk : af.keepA = false) (h1 : args.all V.free = true) (h2 : args'.all V.free = true) (hr : args.map V.retag = args'.map V.retag) : callD tab f args h = callD tab f args' h := by
 unfold callD callF
 rw [ht]
 simp only [h1, h2, if_true, he, hk, hr]
 simp only [Bool.false_eq_true, if_false, hr]
def awF : Straight := ⟨[64], 64, [⟨0, 64, 1, 2, [], 8⟩, ⟨1, 64, 1, 3, [1, 2], 0⟩, ⟨3, 64, 1, 4, [2, 3], 0⟩], 4⟩
theorem aw_cases {P : OpD → Prop} (h0 : P ⟨0, 64, 1, 2, [], 8⟩) (h1 : P ⟨1, 64, 1, 3, [1, 2], 0⟩) (h2 : P ⟨3, 64, 1, 4, [2, 3], 0⟩) : ∀ o ∈ awF.ops, P o := by
 intro o ho
 simp only [awF, List.mem_cons, List.not_mem_nil, or_false] at ho
 rcases ho with rfl | rfl | rfl
 ·exact h0
 ·exact h1
 ·exact h2
theorem aw_D1 : awF.D 1 = some ⟨-1, 0, 64, 1⟩ := by rfl
theorem aw_D2 : awF.D 2 = some ⟨0, 0, 64, 1⟩ := by rfl
theorem aw_D3 : awF.D 3 = some ⟨0, 1, 64, 1⟩ := by rfl
theorem aw_D4 : awF.D 4 = some ⟨0, 2, 64, 1⟩ := by rfl
theorem aw_D5 : awF.D 5 = none := by rfl
theorem aw_right : awF.Right where
 fit := by
  refine ⟨by simp [awF, Straight.f], by simp [Straight.f], fun b hb => ?_⟩
  simp only [Straight.f, List.mem_cons, List.not_mem_nil, or_false] at hb
  subst hb
  exact ⟨by simp [Straight.b], by simp [Straight.b, awF], by simp [Straight.b], fun p hp => by simp [Straight.b] at hp, aw_cases (by simp [OpD.Fit]) (by simp [OpD.Fit]) (by simp [OpD.Fit])⟩
 tells := by rfl
 takes := aw_cases (takes_0 _ _ _ _ _ (by omega)) (takes_1 _ _ _ _ _) (takes_3 _ _ _ _ _)
 ret := by rfl
 ps := by intro p hp; simp only [awF, List.mem_cons, List.not_mem_nil, or_false] at hp; subst hp; rfl
 ops := aw_cases (by rfl) (by rfl) (by rfl)
 once := by
  intro k hk hg
  have : k < 3 := hk
  rcases k with _ | _ | _ | k
  ·rfl
  ·rfl
  ·rfl
  ·omega
 uses := by
  intro k hk j hj
  have : k < 3 := hk
  rcases k with _ | _ | _ | k
  ·exact absurd hj (Nat.not_lt_zero _)
  ·have : j < 2 := hj
   rcases j with _ | _ | j
   ·exact ⟨1, _, rfl, aw_D1, rfl, rfl, .inl (by decide)⟩
   ·exact ⟨2, _, rfl, aw_D2, rfl, rfl, .inr ⟨rfl, by decide⟩⟩
   ·omega
  ·have : j < 2 := hj
   rcases j with _ | _ | j
   ·exact ⟨2, _, rfl, aw_D2, rfl, rfl, .inr ⟨rfl, by decide⟩⟩
   ·exact ⟨3, _, rfl, aw_D3, rfl, rfl, .inr ⟨rfl, by decide⟩⟩
   ·omega
  ·omega
 last := ⟨_, aw_D4, rfl, rfl, .inr ⟨rfl, by decide⟩⟩
theorem wr (x y : Int) (h : IntKind.u64.wrap x = y) : IntKind.u64.wrap x = y := h
theorem both_nil (f : Int → Int → Int) : bothL f [] [] = [] := by rw [bothL]
theorem both_l (f : Int → Int → Int) (v s : Int) : bothL f [(v, s)] [] = keepT v (f s 0) [] := by rw [bothL, both_nil]
theorem both_2 (f : Int → Int → Int) (v s r : Int) : bothL f [(v, s)] [(v, r)] = keepT v (f s r) [] := by rw [bothL, if_neg (by omega), if_neg (by omega), both_nil]
theorem may_1 (v s : Int) (h : ¬ (v ≤ 0 ∨ 1023 < v ∨ s = 0)) : mayL 0 [(v, s)] = true := by simp only [mayL]; rw [if_neg h]
theorem v_p1 : plusM [(1, 1)] [] 0 8 = ([(1, 1)], 8) := by unfold plusM; rw [if_pos ⟨may_1 _ _ (by omega), rfl⟩, both_l]; rfl
theorem v_t1 : timesM [(1, 1)] 8 8 = ([(1, 8)], 64) := by unfold timesM; rw [if_pos (may_1 _ _ (by omega)), both_l]; rfl
theorem v_t2 : timesM [(1, 8)] 64 2 = ([(1, 16)], 128) := by unfold timesM; rw [if_pos (may_1 _ _ (by omega)), both_l]; rfl
theorem v_p2 : plusM [(1, 8)] [(1, 8)] 64 64 = ([(1, 16)], 128) := by unfold plusM; rw [if_pos ⟨may_1 _ _ (by omega), may_1 _ _ (by omega)⟩, both_2]; rfl
theorem v_m2 : minusM [(1, 8)] [(1, 8)] 64 64 = ([], 0) := by unfold minusM; rw [if_pos ⟨may_1 _ _ (by omega), may_1 _ _ (by omega)⟩, both_2]; rfl
theorem aw_form : FormOf awF.O 4 ([(1, 8)], 64) := by
 have f1 : FormOf awF.O 1 ([(1, 1)], 0) := .none rfl
 have f2 : FormOf awF.O 2 ([], 8) := .const (o := ⟨0, 64, 1, 2, [], 8⟩) rfl rfl rfl rfl
 have f3 := FormOf.two (O := awF.O) (v := 3) (o := ⟨1, 64, 1, 3, [1, 2], 0⟩) rfl rfl rfl (by decide) (by decide) rfl f1 f2
 have e3 : capF 3 (twoF 1 ([(1, 1)], 0) ([], 8)) = ([(1, 1)], 8) := by unfold twoF; rw [if_pos rfl, v_p1]; rfl
 simp only [e3] at f3
 have f4 := FormOf.two (O := awF.O) (v := 4) (o := ⟨3, 64, 1, 4, [2, 3], 0⟩) rfl rfl rfl (by decide) (by decide) rfl f2 f3
 have e4 : capF 4 (twoF 3 ([], 8) ([(1, 1)], 8)) = ([(1, 8)], 64) := by unfold twoF; rw [if_neg (by decide), if_neg (by decide), if_neg (by simp), if_pos ⟨rfl, rfl⟩, v_t1]; rfl
 simp only [e4] at f4
 exact f4
theorem awake_run (hTree : TreeOne) (h : LS.Heap) : callD T 15 [] h = some (.bool true, h) := by
 have e1 := Of_yes hTree awF aw_right 4 h aw_D4 rfl rfl aw_form (aw_cases (by decide) (by decide) (by decide))
 have e2 := Of_no hTree awF aw_right 5 h (fun d hd => by rw [aw_D5] at hd; cases hd)
 have p1 := Plus_run .exact .exact [(1, 8)] [(1, 8)] 64 64 (by simp) (by simp) h
 have p2 := Minus_run .exact .exact [(1, 8)] [(1, 8)] 64 64 (by simp) (by simp) h
 have p3 := Times_run .exact [(1, 8)] 64 2 (by simp) h
 have p4 := May_run .exact [(1, 8)] 64 (by simp) h
 have p5 := Same_run .ro .exact [(1, 8)] [(1, 8)] 64 64 (by simp) (by simp) h
 have p6 := Same_run .ro .nil [] [] 0 0 (by simp) (by simp) h
 rw [v_p2] at p1
 rw [v_m2] at p2
 rw [v_t2] at p3
 simp only [formC] at p1 p2 p3 p4 p5 p6
 have hf : awF.f.c = [.lst .ro [[.int .i64 64]], .int .i64 64, .lst .ro [[.lst .ro [], .lst .ro [[.int .i64 0, .int .i64 64, .int .i64 1, .int .i64 2, .lst .ro [], .int .u64 8], [.int .i64 1, .int .i64 64, .int .i64 1, .int .i64 3, .lst .ro [[.int .i64 1], [.int .i64 2]], .int .u64 0], [.int .i64 3, .int .i64 64, .int .i64 1, .int .i64 4, .lst .ro [[.int .i64 2], [.int .i64 3]], .int .u64 0]], .int .i64 0, .int .i64 4, .lst .ro []]]] := rfl
 rw [hf] at e1 e2
 simp only [formV] at e1 e2
 have t1 : terms [(1, 8)] = [[.int .i64 1, .int .u64 8]] := rfl
 have t2 : terms [(1, 16)] = [[.int .i64 1, .int .u64 16]] := rfl
 rw [t1] at e1 p1 p2 p3 p4 p5
 rw [t2] at p1 p3
 rw [terms_nil] at e2 p2 p6
 have m1 : mayL 0 [(1, 8)] = true := may_1 _ _ (by omega)
 rw [m1] at p4
 refine W_call t15 rfl rfl (by simp) ?_
 show W T c15 _ _
 unfold c15
 have hq : ∀ v, callD T 17 [.agg [.lst .exact [[.int .i64 64]], .int .i64 64, .lst .exact [[.lst .nil [], .lst .exact [[.int .i64 0, .int .i64 64, .int .i64 1, .int .i64 2, .lst .nil [], .int .u64 8], [.int .i64 1, .int .i64 64, .int .i64 1, .int .i64 3, .lst .exact [[.int .i64 1], [.int .i64 2]], .int .u64 0], [.int .i64 3, .int .i64 64, .int .i64 1, .int .i64 4, .lst .exact [[.int .i64 2], [.int .i64 3]], .int .u64 0]], .int .i64 0, .int .i64 4, .lst .nil []]]], .int .i64 v] h = _ :=
  fun v => callD_retag t17 rfl rfl (by simp) (args' := [.agg [.lst .ro [[.int .i64 64]], .int .i64 64, .lst .ro [[.lst .ro [], .lst .ro [[.int .i64 0, .int .i64 64, .int .i64 1, .int .i64 2, .lst .ro [], .int .u64 8], [.int .i64 1, .int .i64 64, .int .i64 1, .int .i64 3, .lst .ro [[.int .i64 1], [.int .i64 2]], .int .u64 0], [.int .i64 3, .int .i64 64, .int .i64 1, .int .i64 4, .lst .ro [[.int .i64 2], [.int .i64 3]], .int .u64 0]], .int .i64 0, .int .i64 4, .lst .ro []]]], .int .i64 v]) (by simp) (by simp)
 have g1 := (hq 4).trans e1
 have g2 := (hq 5).trans e2
 refine W_seq (W_ops (s1 := ?_) (by simp only [r15_0]; simp [a15]; exact rfl) ?_)
 refine W_seq (W_ops (s1 := ?_) (by simp only [r15_1]; simp [nextVer]; exact rfl) ?_)
 refine W_seq (W_ops (s1 := ?_) (by simp only [r15_2]; simp [nextVer, g1]; exact rfl) ?_)
 refine W_seq (W_ops (s1 := ?_) (by simp only [r15_3]; simp [nextVer, g2]; exact rfl) ?_)
 refine W_seq (W_ops (s1 := ?_) (by simp only [r15_4]; simp [nextVer]; exact rfl) ?_)
 refine W_seq (W_ops (s1 := ?_) (by simp only [r15_5]; simp [p1, p2, p3, p4, p5, p6]; exact rfl) (W_ret ?_))
 exact ⟨.inr rfl, [.bool true], by simp [a15, resV, resV1], by simp [a15, packV], rfl, .refl _⟩

end Go.Proofs.YtpbngohpklpalaaGreat

/- Which places are apart: small parts. -/
namespace Go.Proofs.YtpbngohpklpalaaGreat
open Go.LS Go.IntWalk
def touchM (k : Int) : Int := if k = 16 ∨ k = 17 then 0 else if k = 18 ∨ k = 19 then 1 else -1
theorem touch_run (k : Int) (h : LS.Heap) : callD T 72 [.int .i64 k] h = some (.int .i64 (touchM k), h) := by
 refine W_call t72 rfl rfl (by simp) ?_
 show W T c72 _ _
 unfold c72
 by_cases c1 : k = 16
 ·skip
  repeat' (first | refine W_seq ?_ | refine W_skip ?_ | refine W_block ?_ | refine W_ret ?_ | refine W_exit ?_ | refine W_ops (s1 := ?_) (by simp [a72, c1]; exact rfl) ?_ | refine W_tops (s1 := ?_) (by simp [a72, c1]; exact rfl) ?_ | refine W_cond_t (by first | (simp [a72, c1]; done) | fail) ?_ | refine W_cond_f (by first | (simp [a72, c1]; done) | fail) ?_ | fail)
  exact ⟨.inr rfl, [.int .i64 0], by simp [a72, resV, resV1, touchM, c1], by simp [a72, packV, touchM, c1], by simp [V.under, V.underL, V.underLL, touchM, c1], by first | exact .refl _ | (simp; exact .refl _) | (simp; assumption) | assumption⟩
 by_cases c2 : k = 17
 ·skip
  repeat' (first | refine W_seq ?_ | refine W_skip ?_ | refine W_block ?_ | refine W_ret ?_ | refine W_exit ?_ | refine W_ops (s1 := ?_) (by simp [a72, c1, c2]; exact rfl) ?_ | refine W_tops (s1 := ?_) (by simp [a72, c1, c2]; exact rfl) ?_ | refine W_cond_t (by first | (simp [a72, c1, c2]; done) | fail) ?_ | refine W_cond_f (by first | (simp [a72, c1, c2]; done) | fail) ?_ | fail)
  exact ⟨.inr rfl, [.int .i64 0], by simp [a72, resV, resV1, touchM, c2], by simp [a72, packV, touchM, c2], by simp [V.under, V.underL, V.underLL, touchM, c2], by first | exact .refl _ | (simp; exact .refl _) | (simp; assumption) | assumption⟩
 by_cases c3 : k = 18
 ·skip
  repeat' (first | refine W_seq ?_ | refine W_skip ?_ | refine W_block ?_ | refine W_ret ?_ | refine W_exit ?_ | refine W_ops (s1 := ?_) (by simp [a72, c1, c2, c3]; exact rfl) ?_ | refine W_tops (s1 := ?_) (by simp [a72, c1, c2, c3]; exact rfl) ?_ | refine W_cond_t (by first | (simp [a72, c1, c2, c3]; done) | fail) ?_ | refine W_cond_f (by first | (simp [a72, c1, c2, c3]; done) | fail) ?_ | fail)
  exact ⟨.inr rfl, [.int .i64 1], by simp [a72, resV, resV1, touchM, c3], by simp [a72, packV, touchM, c3], by simp [V.under, V.underL, V.underLL, touchM, c3], by first | exact .refl _ | (simp; exact .refl _) | (simp; assumption) | assumption⟩
 by_cases c4 : k = 19
 ·skip
  repeat' (first | refine W_seq ?_ | refine W_skip ?_ | refine W_block ?_ | refine W_ret ?_ | refine W_exit ?_ | refine W_ops (s1 := ?_) (by simp [a72, c1, c2, c3, c4]; exact rfl) ?_ | refine W_tops (s1 := ?_) (by simp [a72, c1, c2, c3, c4]; exact rfl) ?_ | refine W_cond_t (by first | (simp [a72, c1, c2, c3, c4]; done) | fail) ?_ | refine W_cond_f (by first | (simp [a72, c1, c2, c3, c4]; done) | fail) ?_ | fail)
  exact ⟨.inr rfl, [.int .i64 1], by simp [a72, resV, resV1, touchM, c4], by simp [a72, packV, touchM, c4], by simp [V.under, V.underL, V.underLL, touchM, c4], by first | exact .refl _ | (simp; exact .refl _) | (simp; assumption) | assumption⟩
 repeat' (first | refine W_seq ?_ | refine W_skip ?_ | refine W_block ?_ | refine W_ret ?_ | refine W_exit ?_ | refine W_ops (s1 := ?_) (by simp [a72, c1, c2, c3, c4]; exact rfl) ?_ | refine W_tops (s1 := ?_) (by simp [a72, c1, c2, c3, c4]; exact rfl) ?_ | refine W_cond_t (by first | (simp [a72, c1, c2, c3, c4]; done) | fail) ?_ | refine W_cond_f (by first | (simp [a72, c1, c2, c3, c4]; done) | fail) ?_ | fail)
 exact ⟨.inr rfl, [.int .i64 (-1)], by simp [a72, resV, resV1, touchM, c1, c2, c3, c4], by simp [a72, packV, touchM, c1, c2, c3, c4], by simp [V.under, V.underL, V.underLL, touchM, c1, c2, c3, c4], by first | exact .refl _ | (simp; exact .refl _) | (simp; assumption) | assumption⟩
structure Known (f : FuncD) (ok : Bool) (F : Int → FormD) : Prop where
 fit : f.Fit
 check : ∀ h, ∃ e, callD T 96 [.agg f.c, .int .i64 2] h = some (.int .i64 e, h) ∧ (e = 0 ↔ ok = true)
 form : ok = true → ∀ b ∈ f.blocks, ∀ o ∈ b.ops, 0 ≤ touchM o.kind → ∀ v, o.args[(touchM o.kind).toNat]? = some v → ∀ h, ∃ e, callD T 17 [.agg f.c, .int .i64 v] h = some (.tup [formV (F v), .int .i64 e], h)
 short : ∀ v, (F v).1.length < 2 ^ 40
 args : ok = true → ∀ b ∈ f.blocks, ∀ o ∈ b.ops, 0 ≤ touchM o.kind → (touchM o.kind).toNat < o.args.length
def blockIn (f : FuncD) (b : Int) : Bool := decide (0 ≤ b) && decide (b < f.blocks.length)
variable {f : FuncD} {ok : Bool} {F : Int → FormD}
theorem aright_run (K : Known f ok F) (b : Int) (h : LS.Heap) : callD T 63 [.agg f.c, .int .i64 b] h = some (.bool (blockIn f b && ok), h) := by
 obtain ⟨e, he, hz⟩ := K.check h
 have hfc : f.c = [.lst .ro (f.params.map intC), .int .i64 f.ret, .lst .ro (f.blocks.map BlockD.c)] := rfl
 rw [hfc] at he
 refine W_call t63 rfl rfl (by simp) ?_
 show W T c63 _ _
 unfold c63
 by_cases c1 : 0 ≤ b
 ·by_cases c2 : b < f.blocks.length
  ·skip
   repeat' (first | refine W_seq ?_ | refine W_skip ?_ | refine W_block ?_ | refine W_ret ?_ | refine W_exit ?_ | refine W_ops (s1 := ?_) (by simp [a63, nextVer, hfc, c1, c2, he]; exact rfl) ?_ | refine W_tops (s1 := ?_) (by simp [a63, nextVer, hfc, c1, c2, he]; exact rfl) ?_ | refine W_cond_t (by first | (simp [a63, nextVer, hfc, c1, c2, he]; done) | fail) ?_ | refine W_cond_f (by first | (simp [a63, nextVer, hfc, c1, c2, he]; done) | fail) ?_ | fail)
   exact ⟨.inr rfl, [.bool (decide (e = 0))], by simp [a63, resV, resV1, blockIn, c1, c2, hz], by simp [a63, packV, blockIn, c1, c2, hz], by simp [V.under, V.underL, V.underLL, blockIn, c1, c2, hz], by first | exact .refl _ | (simp; exact .refl _) | (simp; assumption) | assumption⟩
  ·skip
   repeat' (first | refine W_seq ?_ | refine W_skip ?_ | refine W_block ?_ | refine W_ret ?_ | refine W_exit ?_ | refine W_ops (s1 := ?_) (by simp [a63, nextVer, hfc, c1, c2]; exact rfl) ?_ | refine W_tops (s1 := ?_) (by simp [a63, nextVer, hfc, c1, c2]; exact rfl) ?_ | refine W_cond_t (by first | (simp [a63, nextVer, hfc, c1, c2]; done) | fail) ?_ | refine W_cond_f (by first | (simp [a63, nextVer, hfc, c1, c2]; done) | fail) ?_ | fail)
   exact ⟨.inr rfl, [.bool false], by simp [a63, resV, resV1, blockIn, c1, c2], by simp [a63, packV, blockIn, c1, c2], by simp [V.under, V.underL, V.underLL, blockIn, c1, c2], by first | exact .refl _ | (simp; exact .refl _) | (simp; assumption) | assumption⟩
 ·skip
  repeat' (first | refine W_seq ?_ | refine W_skip ?_ | refine W_block ?_ | refine W_ret ?_ | refine W_exit ?_ | refine W_ops (s1 := ?_) (by simp [a63, nextVer, hfc, c1]; exact rfl) ?_ | refine W_tops (s1 := ?_) (by simp [a63, nextVer, hfc, c1]; exact rfl) ?_ | refine W_cond_t (by first | (simp [a63, nextVer, hfc, c1]; done) | fail) ?_ | refine W_cond_f (by first | (simp [a63, nextVer, hfc, c1]; done) | fail) ?_ | fail)
  exact ⟨.inr rfl, [.bool false], by simp [a63, resV, resV1, blockIn, c1], by simp [a63, packV, blockIn, c1], by simp [V.under, V.underL, V.underLL, blockIn, c1], by first | exact .refl _ | (simp; exact .refl _) | (simp; assumption) | assumption⟩
def lenM (o : OpD) : Int := IntKind.i64.wrap ((IntKind.i64.wrap (o.lanes * o.bits)).tdiv 8)
def opAt (b : BlockD) (at_ : Int) : Option OpD := if 0 ≤ at_ then b.ops[at_.toNat]? else none
def addrO : Option OpD → Option (Int × Int)
 | some o => if 0 ≤ touchM o.kind then some (o.args.getD (touchM o.kind).toNat 0, lenM o) else none
 | none => none
def addrV : Option (Int × Int) → V
 | some (v, n) => .tup [.int .i64 v, .int .i64 n, .bool true]
 | none => .tup [.int .i64 0, .int .i64 0, .bool false]
theorem opAt_some {b : BlockD} {at_ : Int} {o : OpD} (h : opAt b at_ = some o) : 0 ≤ at_ ∧ b.ops[at_.toNat]? = some o := by
 unfold opAt at h
 split at h
 ·rename_i h0; exact ⟨h0, h⟩
 ·cases h
theorem address_run (b : BlockD) (hf : b.Fit) (at_ : Int) (ha : ∀ o ∈ b.ops, 0 ≤ touchM o.kind → (touchM o.kind).toNat < o.args.length) (h : LS.Heap) : callD T 64 [.agg b.c, .int .i64 at_] h = some (addrV (addrO (opAt b at_)), h) := by
 have hbc : b.c = [.lst .ro (b.phis.map PhiD.c), .lst .ro (b.ops.map OpD.c), .int .i64 b.ek, .int .i64 b.ea, .lst .ro (b.to.map intC)] := rfl
 have hlen := hf.2.1
 refine W_call t64 rfl rfl (by simp) ?_
 show W T c64 _ _
 unfold c64
 by_cases c1 : at_ < 0
 ·skip
  repeat' (first | refine W_seq ?_ | refine W_skip ?_ | refine W_block ?_ | refine W_ret ?_ | refine W_exit ?_ | refine W_ops (s1 := ?_) (by simp [a64, nextVer, hbc, c1]; exact rfl) ?_ | refine W_tops (s1 := ?_) (by simp [a64, nextVer, hbc, c1]; exact rfl) ?_ | refine W_cond_t (by first | (simp [a64, nextVer, hbc, c1]; done) | fail) ?_ | refine W_cond_f (by first | (simp [a64, nextVer, hbc, c1]; done) | fail) ?_ | fail)
  have : opAt b at_ = none := by simp only [opAt]; rw [if_neg (by omega)]
  exact ⟨.inr rfl, [.int .i64 0, .int .i64 0, .bool false], by simp [a64, resV, resV1, this, addrO, addrV], by simp [a64, packV, this, addrO, addrV], by simp [V.under, V.underL, V.underLL, this, addrO, addrV], by first | exact .refl _ | (simp; exact .refl _) | (simp; assumption) | assumption⟩
 by_cases c2 : (b.ops.length : Int) ≤ at_
 ·skip
  repeat' (first | refine W_seq ?_ | refine W_skip ?_ | refine W_block ?_ | refine W_ret ?_ | refine W_exit ?_ | refine W_ops (s1 := ?_) (by simp [a64, nextVer, hbc, c1, c2]; exact rfl) ?_ | refine W_tops (s1 := ?_) (by simp [a64, nextVer, hbc, c1, c2]; exact rfl) ?_ | refine W_cond_t (by first | (simp [a64, nextVer, hbc, c1, c2]; done) | fail) ?_ | refine W_cond_f (by first | (simp [a64, nextVer, hbc, c1, c2]; done) | fail) ?_ | fail)
  have : opAt b at_ = none := by simp only [opAt]; rw [if_pos (by omega), List.getElem?_eq_none (by omega)]
  exact ⟨.inr rfl, [.int .i64 0, .int .i64 0, .bool false], by simp [a64, resV, resV1, this, addrO, addrV], by simp [a64, packV, this, addrO, addrV], by simp [V.under, V.underL, V.underLL, this, addrO, addrV], by first | exact .refl _ | (simp; exact .refl _) | (simp; assumption) | assumption⟩
 obtain ⟨n, rfl⟩ : ∃ n : Nat, at_ = n := ⟨at_.toNat, by omega⟩
 have hn : n < b.ops.length := by omega
 obtain ⟨o, ho⟩ : ∃ o, b.ops[n]? = some o := ⟨b.ops[n], by simp [hn]⟩
 have hop : opAt b n = some o := by simp [opAt, ho]
 have hoc : o.c = [.int .i64 o.kind, .int .i64 o.bits, .int .i64 o.lanes, .int .i64 o.dst, .lst .ro (o.args.map intC), .int .u64 o.imm] := rfl
 have hha := ha _ (List.mem_of_getElem? ho)
 have e1 := touch_run o.kind h
 have c2' : ¬ b.ops.length ≤ n := by omega
 by_cases c3 : 0 ≤ touchM o.kind
 ·obtain ⟨m, hm⟩ : ∃ m : Nat, touchM o.kind = m := ⟨(touchM o.kind).toNat, by omega⟩
  have hml : m < o.args.length := by have := hha c3; omega
  rw [hm] at e1
  repeat' (first | refine W_seq ?_ | refine W_skip ?_ | refine W_block ?_ | refine W_ret ?_ | refine W_exit ?_ | refine W_ops (s1 := ?_) (by simp [a64, nextVer, hbc, c1, c2', ho, hoc, e1, hml, intC]; exact rfl) ?_ | refine W_tops (s1 := ?_) (by simp [a64, nextVer, hbc, c1, c2', ho, hoc, e1, hml, intC]; exact rfl) ?_ | refine W_cond_t (by first | (simp [a64, nextVer, hbc, c1, c2', ho, hoc, e1, hml, intC]; done) | fail) ?_ | refine W_cond_f (by first | (simp [a64, nextVer, hbc, c1, c2', ho, hoc, e1, hml, intC]; done) | fail) ?_ | fail)
  exact ⟨.inr rfl, [.int .i64 o.args[m], .int .i64 (lenM o), .bool true], by simp [a64, resV, resV1, hop, addrO, addrV, hm, hml, lenM], by simp [a64, packV, hop, addrO, addrV, hm, hml, lenM], by simp [V.under, V.underL, V.underLL, hop, addrO, addrV, hm, hml, lenM], by first | exact .refl _ | (simp; exact .refl _) | (simp; assumption) | assumption⟩
 ·skip
  repeat' (first | refine W_seq ?_ | refine W_skip ?_ | refine W_block ?_ | refine W_ret ?_ | refine W_exit ?_ | refine W_ops (s1 := ?_) (by simp [a64, nextVer, hbc, c1, c2', ho, hoc, e1, c3]; exact rfl) ?_ | refine W_tops (s1 := ?_) (by simp [a64, nextVer, hbc, c1, c2', ho, hoc, e1, c3]; exact rfl) ?_ | refine W_cond_t (by first | (simp [a64, nextVer, hbc, c1, c2', ho, hoc, e1, c3]; done) | fail) ?_ | refine W_cond_f (by first | (simp [a64, nextVer, hbc, c1, c2', ho, hoc, e1, c3]; done) | fail) ?_ | fail)
  exact ⟨.inr rfl, [.int .i64 0, .int .i64 0, .bool false], by simp [a64, resV, resV1, hop, addrO, addrV, c3], by simp [a64, packV, hop, addrO, addrV, c3], by simp [V.under, V.underL, V.underLL, hop, addrO, addrV, c3], by first | exact .refl _ | (simp; exact .refl _) | (simp; assumption) | assumption⟩
def blockAt (f : FuncD) (b : Int) : Option BlockD := if 0 ≤ b then f.blocks[b.toNat]? else none
def addrF (f : FuncD) (ok : Bool) (b at_ : Int) : Option (Int × Int) :=
 match blockAt f b with
 | some x => if ok = true then addrO (opAt x at_) else none
 | none => none
theorem blockIn_at {f : FuncD} {b : Int} : (∃ x, blockAt f b = some x ∧ x ∈ f.blocks ∧ blockIn f b = true ∧ 0 ≤ b ∧ f.blocks[b.toNat]? = some x) ∨ (blockAt f b = none ∧ blockIn f b = false) := by
 by_cases c1 : 0 ≤ b
 ·by_cases c2 : b < f.blocks.length
  ·have hn : b.toNat < f.blocks.length := by omega
   exact .inl ⟨f.blocks[b.toNat], by simp [blockAt, c1, hn], List.getElem_mem hn, by simp [blockIn, c1, c2], c1, by simp [hn]⟩
  ·exact .inr ⟨by simp only [blockAt]; rw [if_pos c1, List.getElem?_eq_none (by omega)], by simp [blockIn, c2]⟩
 ·exact .inr ⟨by simp [blockAt, c1], by simp [blockIn, c1]⟩
theorem Address_run (K : Known f ok F) (b at_ : Int) (h : LS.Heap) : callD T 22 [.agg f.c, .int .i64 b, .int .i64 at_] h = some (addrV (addrF f ok b at_), h) := by
 have e0 := aright_run K b h
 have hfc : f.c = [.lst .ro (f.params.map intC), .int .i64 f.ret, .lst .ro (f.blocks.map BlockD.c)] := rfl
 rw [hfc] at e0
 have no : (blockIn f b && ok) = false → addrF f ok b at_ = none := fun hn => by
  rcases blockIn_at (f := f) (b := b) with ⟨x, h1, _, h3, _⟩ | ⟨h1, _⟩
  ·rw [h3, Bool.true_and] at hn; simp [addrF, h1, hn]
  ·simp [addrF, h1]
 refine W_call t22 rfl rfl (by simp) ?_
 show W T c22 _ _
 unfold c22
 cases hr : blockIn f b && ok with
 | false =>
  rw [hr] at e0
  repeat' (first | refine W_seq ?_ | refine W_skip ?_ | refine W_block ?_ | refine W_ret ?_ | refine W_exit ?_ | refine W_ops (s1 := ?_) (by simp [a22, nextVer, hfc, e0]; exact rfl) ?_ | refine W_tops (s1 := ?_) (by simp [a22, nextVer, hfc, e0]; exact rfl) ?_ | refine W_cond_t (by first | (simp [a22, nextVer, hfc, e0]; done) | fail) ?_ | refine W_cond_f (by first | (simp [a22, nextVer, hfc, e0]; done) | fail) ?_ | fail)
  exact ⟨.inr rfl, [.int .i64 0, .int .i64 0, .bool false], by simp [a22, resV, resV1, no hr, addrV], by simp [a22, packV, no hr, addrV], by simp [V.under, V.underL, V.underLL, no hr, addrV], by first | exact .refl _ | (simp; exact .refl _) | (simp; assumption) | assumption⟩
 | true =>
  rw [hr] at e0
  rw [Bool.and_eq_true] at hr
  rcases blockIn_at (f := f) (b := b) with ⟨x, h1, h2, h3, h4, h5⟩ | ⟨_, h3⟩
  ·have hF : addrF f ok b at_ = addrO (opAt x at_) := by simp [addrF, h1, hr.2]
   obtain ⟨n, rfl⟩ : ∃ n : Nat, b = n := ⟨b.toNat, by omega⟩
   have h5' : f.blocks[n]? = some x := h5
   have e1 := address_run x (K.fit.2.2 x h2) at_ (K.args hr.2 x h2) h
   have hbc : x.c = [.lst .ro (x.phis.map PhiD.c), .lst .ro (x.ops.map OpD.c), .int .i64 x.ek, .int .i64 x.ea, .lst .ro (x.to.map intC)] := rfl
   rw [hF]
   cases ha : addrO (opAt x at_) with
   | none =>
    rw [ha] at e1
    simp only [hbc, addrV] at e1
    repeat' (first | refine W_seq ?_ | refine W_skip ?_ | refine W_block ?_ | refine W_ret ?_ | refine W_exit ?_ | refine W_ops (s1 := ?_) (by simp [a22, nextVer, hfc, e0, h5', hbc, e1]; exact rfl) ?_ | refine W_tops (s1 := ?_) (by simp [a22, nextVer, hfc, e0, h5', hbc, e1]; exact rfl) ?_ | refine W_cond_t (by first | (simp [a22, nextVer, hfc, e0, h5', hbc, e1]; done) | fail) ?_ | refine W_cond_f (by first | (simp [a22, nextVer, hfc, e0, h5', hbc, e1]; done) | fail) ?_ | fail)
    exact ⟨.inr rfl, [.int .i64 0, .int .i64 0, .bool false], by simp [a22, resV, resV1, addrV], by simp [a22, packV, addrV], by simp [V.under, V.underL, V.underLL, addrV], by first | exact .refl _ | (simp; exact .refl _) | (simp; assumption) | assumption⟩
   | some p =>
    rw [ha] at e1
    simp only [hbc, addrV] at e1
    repeat' (first | refine W_seq ?_ | refine W_skip ?_ | refine W_block ?_ | refine W_ret ?_ | refine W_exit ?_ | refine W_ops (s1 := ?_) (by simp [a22, nextVer, hfc, e0, h5', hbc, e1]; exact rfl) ?_ | refine W_tops (s1 := ?_) (by simp [a22, nextVer, hfc, e0, h5', hbc, e1]; exact rfl) ?_ | refine W_cond_t (by first | (simp [a22, nextVer, hfc, e0, h5', hbc, e1]; done) | fail) ?_ | refine W_cond_f (by first | (simp [a22, nextVer, hfc, e0, h5', hbc, e1]; done) | fail) ?_ | fail)
    exact ⟨.inr rfl, [.int .i64 p.1, .int .i64 p.2, .bool true], by simp [a22, resV, resV1, addrV], by simp [a22, packV, addrV], by simp [V.under, V.underL, V.underLL, addrV], by first | exact .refl _ | (simp; exact .refl _) | (simp; assumption) | assumption⟩
  ·rw [h3] at hr; exact absurd hr.1 (by simp)
theorem addrF_some (K : Known f ok F) {b at_ v m : Int} (h : addrF f ok b at_ = some (v, m)) : ok = true ∧ ∃ x ∈ f.blocks, ∃ o ∈ x.ops, 0 ≤ touchM o.kind ∧ o.args[(touchM o.kind).toNat]? = some v := by
 unfold addrF at h
 rcases blockIn_at (f := f) (b := b) with ⟨x, h1, h2, _⟩ | ⟨h1, _⟩
 ·rw [h1] at h
  simp only at h
  split at h
  ·rename_i hok
   cases ho : opAt x at_ with
   | none => rw [ho] at h; cases h
   | some o =>
    rw [ho] at h
    simp only [addrO] at h
    split at h
    ·rename_i ht
     have hom := List.mem_of_getElem? (opAt_some ho).2
     have hl := K.args hok x h2 o hom ht
     simp only [Option.some.injEq, Prod.mk.injEq] at h
     refine ⟨hok, x, h2, o, hom, ht, ?_⟩
     rw [List.getElem?_eq_getElem hl, ← h.1]
     simp [hl]
    ·cases h
  ·cases h
 ·rw [h1] at h; cases h
def distF (f : FuncD) (ok : Bool) (F : Int → FormD) (b x y : Int) : Option (Int × Int × Int) :=
 match addrF f ok b x, addrF f ok b y with
 | some (v, m), some (w, n) => if (F v).1 = (F w).1 then some (subU (F w).2 (F v).2, IntKind.u64.wrap m, IntKind.u64.wrap n) else none
 | _, _ => none
theorem with_run (K : Known f ok F) (b x y : Int) (h : LS.Heap) (g : FuncId) (caps : List V) (q : Int → Int → Int → Bool) (h' : Int → Int → Int → LS.Heap)
  (hg : ∀ d m n, callD T g (.int .u64 d :: .int .u64 m :: .int .u64 n :: caps) h = some (.bool (q d m n), h' d m n)) :
  callD T 66 [.agg f.c, .int .i64 b, .int .i64 x, .int .i64 y, .fn g [] caps] h = some (match distF f ok F b x y with | some (d, m, n) => (.bool (q d m n), h' d m n) | none => (.bool false, h)) := by
 have e1 := Address_run K b x h
 have e2 := Address_run K b y h
 have hfc : f.c = [.lst .ro (f.params.map intC), .int .i64 f.ret, .lst .ro (f.blocks.map BlockD.c)] := rfl
 rw [hfc] at e1 e2
 cases ha : addrF f ok b x with
 | none =>
  rw [ha] at e1
  have hd : distF f ok F b x y = none := by simp [distF, ha]
  simp only [addrV] at e1
  rw [hd]
  cases hb : addrF f ok b y with
  | none =>
   rw [hb] at e2
   simp only [addrV] at e2
   refine W_callH t66 rfl rfl (by simp) ?_
   show W T c66 _ _
   unfold c66
   repeat' (first | refine W_seq ?_ | refine W_skip ?_ | refine W_block ?_ | refine W_ret ?_ | refine W_exit ?_ | refine W_ops (s1 := ?_) (by simp [a66, nextVer, hfc, e1, e2]; exact rfl) ?_ | refine W_tops (s1 := ?_) (by simp [a66, nextVer, hfc, e1, e2]; exact rfl) ?_ | refine W_cond_t (by first | (simp [a66, nextVer, hfc, e1, e2]; done) | fail) ?_ | refine W_cond_f (by first | (simp [a66, nextVer, hfc, e1, e2]; done) | fail) ?_ | fail)
   exact ⟨.inr rfl, [.bool false], by simp [a66, resV, resV1], by simp [a66, packV], by simp⟩
  | some p =>
   rw [hb] at e2
   simp only [addrV] at e2
   refine W_callH t66 rfl rfl (by simp) ?_
   show W T c66 _ _
   unfold c66
   repeat' (first | refine W_seq ?_ | refine W_skip ?_ | refine W_block ?_ | refine W_ret ?_ | refine W_exit ?_ | refine W_ops (s1 := ?_) (by simp [a66, nextVer, hfc, e1, e2]; exact rfl) ?_ | refine W_tops (s1 := ?_) (by simp [a66, nextVer, hfc, e1, e2]; exact rfl) ?_ | refine W_cond_t (by first | (simp [a66, nextVer, hfc, e1, e2]; done) | fail) ?_ | refine W_cond_f (by first | (simp [a66, nextVer, hfc, e1, e2]; done) | fail) ?_ | fail)
   exact ⟨.inr rfl, [.bool false], by simp [a66, resV, resV1], by simp [a66, packV], by simp⟩
 | some p =>
  obtain ⟨v, m⟩ := p
  rw [ha] at e1
  simp only [addrV] at e1
  cases hb : addrF f ok b y with
  | none =>
   rw [hb] at e2
   have hd : distF f ok F b x y = none := by simp [distF, ha, hb]
   simp only [addrV] at e2
   rw [hd]
   refine W_callH t66 rfl rfl (by simp) ?_
   show W T c66 _ _
   unfold c66
   repeat' (first | refine W_seq ?_ | refine W_skip ?_ | refine W_block ?_ | refine W_ret ?_ | refine W_exit ?_ | refine W_ops (s1 := ?_) (by simp [a66, nextVer, hfc, e1, e2]; exact rfl) ?_ | refine W_tops (s1 := ?_) (by simp [a66, nextVer, hfc, e1, e2]; exact rfl) ?_ | refine W_cond_t (by first | (simp [a66, nextVer, hfc, e1, e2]; done) | fail) ?_ | refine W_cond_f (by first | (simp [a66, nextVer, hfc, e1, e2]; done) | fail) ?_ | fail)
   exact ⟨.inr rfl, [.bool false], by simp [a66, resV, resV1], by simp [a66, packV], by simp⟩
  | some p =>
   obtain ⟨w, n⟩ := p
   rw [hb] at e2
   simp only [addrV] at e2
   obtain ⟨k1, x1, k2, o1, k3, k4, k5⟩ := addrF_some K ha
   obtain ⟨_, x2, l2, o2, l3, l4, l5⟩ := addrF_some K hb
   obtain ⟨c1, e3⟩ := K.form k1 x1 k2 o1 k3 k4 v k5 h
   obtain ⟨c2, e4⟩ := K.form k1 x2 l2 o2 l3 l4 w l5 h
   rw [hfc] at e3 e4
   simp only [formV] at e3 e4
   have e5 := Equal_run .ro .ro (F v).1 (F w).1 (by have := K.short v; omega) (by have := K.short w; omega) h
   by_cases he : (F v).1 = (F w).1
   ·have hd : distF f ok F b x y = some (subU (F w).2 (F v).2, IntKind.u64.wrap m, IntKind.u64.wrap n) := by simp [distF, ha, hb, he]
    have e6 := hg (subU (F w).2 (F v).2) (IntKind.u64.wrap m) (IntKind.u64.wrap n)
    simp only [subU] at e6 hd
    rw [hd]
    simp only [he, decide_true] at e5
    rw [he] at e3
    refine W_callH t66 rfl rfl (by simp) ?_
    show W T c66 _ _
    unfold c66
    repeat' (first | refine W_seq ?_ | refine W_skip ?_ | refine W_block ?_ | refine W_ret ?_ | refine W_exit ?_ | refine W_ops (s1 := ?_) (by simp [a66, nextVer, hfc, e1, e2, e3, e4, e5, e6]; exact rfl) ?_ | refine W_tops (s1 := ?_) (by simp [a66, nextVer, hfc, e1, e2, e3, e4, e5, e6]; exact rfl) ?_ | refine W_cond_t (by first | (simp [a66, nextVer, hfc, e1, e2, e3, e4, e5, e6]; done) | fail) ?_ | refine W_cond_f (by first | (simp [a66, nextVer, hfc, e1, e2, e3, e4, e5, e6]; done) | fail) ?_ | fail)
    exact ⟨.inr rfl, [.bool (q (IntKind.u64.wrap ((F w).2 - (F v).2)) (IntKind.u64.wrap m) (IntKind.u64.wrap n))], by simp [a66, resV, resV1], by simp [a66, packV], by simp⟩
   ·have hd : distF f ok F b x y = none := by simp [distF, ha, hb, he]
    rw [hd]
    simp only [he, decide_false] at e5
    refine W_callH t66 rfl rfl (by simp) ?_
    show W T c66 _ _
    unfold c66
    repeat' (first | refine W_seq ?_ | refine W_skip ?_ | refine W_block ?_ | refine W_ret ?_ | refine W_exit ?_ | refine W_ops (s1 := ?_) (by simp [a66, nextVer, hfc, e1, e2, e3, e4, e5]; exact rfl) ?_ | refine W_tops (s1 := ?_) (by simp [a66, nextVer, hfc, e1, e2, e3, e4, e5]; exact rfl) ?_ | refine W_cond_t (by first | (simp [a66, nextVer, hfc, e1, e2, e3, e4, e5]; done) | fail) ?_ | refine W_cond_f (by first | (simp [a66, nextVer, hfc, e1, e2, e3, e4, e5]; done) | fail) ?_ | fail)
    exact ⟨.inr rfl, [.bool false], by simp [a66, resV, resV1], by simp [a66, packV], by simp⟩
theorem distQ_run (id : Nat) (d m n : Int) (h : LS.Heap) {u : Int} (hid : h.objs id = some (.var [.int .u64 u])) : callD T 67 [.int .u64 d, .int .u64 m, .int .u64 n, .obj id 0] h = some (.bool true, h.set id (.var [.int .u64 d])) := by
 refine W_callH t67 rfl rfl (by simp) ?_
 show W T c67 _ _
 unfold c67
 repeat' (first | refine W_seq ?_ | refine W_skip ?_ | refine W_block ?_ | refine W_ret ?_ | refine W_exit ?_ | refine W_ops (s1 := ?_) (by simp [a67, hid, patch]; exact rfl) ?_ | refine W_tops (s1 := ?_) (by simp [a67, hid, patch]; exact rfl) ?_ | refine W_cond_t (by first | (simp [a67, hid, patch]; done) | fail) ?_ | refine W_cond_f (by first | (simp [a67, hid, patch]; done) | fail) ?_ | fail)
 exact ⟨.inr rfl, [.bool true], by simp [a67, resV, resV1], by simp [a67, packV], by simp⟩
theorem Distance_run (K : Known f ok F) (b x y : Int) (h : LS.Heap) : callD T 24 [.agg f.c, .int .i64 b, .int .i64 x, .int .i64 y] h = some (match distF f ok F b x y with | some (d, _, _) => .tup [.int .u64 d, .bool true] | none => .tup [.int .u64 0, .bool false], h) := by
 have hfc : f.c = [.lst .ro (f.params.map intC), .int .i64 f.ret, .lst .ro (f.blocks.map BlockD.c)] := rfl
 have hid : (h.new (.var [.int .u64 0])).objs h.next = some (.var [.int .u64 0]) := new_objs_new _ _
 have e := with_run K b x y (h.new (.var [.int .u64 0])) 67 [.obj h.next 0] (fun _ _ _ => true) _ (fun d m n => distQ_run h.next d m n _ hid)
 rw [hfc] at e
 refine W_call t24 rfl rfl (by simp) ?_
 show W T c24 _ _
 unfold c24
 cases hd : distF f ok F b x y with
 | none =>
  rw [hd] at e
  simp only at e
  have hs : (h.new (.var [.int .u64 0])).set h.next (.var [.int .u64 0]) = h.new (.var [.int .u64 0]) := set_same hid
  repeat' (first | refine W_seq ?_ | refine W_skip ?_ | refine W_block ?_ | refine W_ret ?_ | refine W_exit ?_ | refine W_ops (s1 := ?_) (by simp [a24, nextVer, hfc, patch, hid, hs, e]; exact rfl) ?_ | refine W_tops (s1 := ?_) (by simp [a24, nextVer, hfc, patch, hid, hs, e]; exact rfl) ?_ | refine W_cond_t (by first | (simp [a24, nextVer, hfc, patch, hid, hs, e]; done) | fail) ?_ | refine W_cond_f (by first | (simp [a24, nextVer, hfc, patch, hid, hs, e]; done) | fail) ?_ | fail)
  exact ⟨.inr rfl, [.int .u64 0, .bool false], by simp [a24, resV, resV1], by simp [a24, packV], by simp [V.under, V.underL], by simp; exact .new _ _⟩
 | some p =>
  obtain ⟨d, m, n⟩ := p
  rw [hd] at e
  simp only at e
  have hs : (h.new (.var [.int .u64 0])).set h.next (.var [.int .u64 0]) = h.new (.var [.int .u64 0]) := set_same hid
  have hid2 : ((h.new (.var [.int .u64 0])).set h.next (.var [.int .u64 d])).objs h.next = some (.var [.int .u64 d]) := by simp [Heap.set, upd]
  repeat' (first | refine W_seq ?_ | refine W_skip ?_ | refine W_block ?_ | refine W_ret ?_ | refine W_exit ?_ | refine W_ops (s1 := ?_) (by simp [a24, nextVer, hfc, patch, hid, hs, e, hid2]; exact rfl) ?_ | refine W_tops (s1 := ?_) (by simp [a24, nextVer, hfc, patch, hid, hs, e, hid2]; exact rfl) ?_ | refine W_cond_t (by first | (simp [a24, nextVer, hfc, patch, hid, hs, e, hid2]; done) | fail) ?_ | refine W_cond_f (by first | (simp [a24, nextVer, hfc, patch, hid, hs, e, hid2]; done) | fail) ?_ | fail)
  exact ⟨.inr rfl, [.int .u64 d, .bool true], by simp [a24, resV, resV1], by simp [a24, packV], by simp [V.under, V.underL], by simp; exact (HExt.new _ _).set (Nat.le_refl _) _⟩
theorem apartQ_run (d m n : Int) (h : LS.Heap) : callD T 70 [.int .u64 d, .int .u64 m, .int .u64 n] h = some (.bool (decide (m ≤ d) && decide (n ≤ IntKind.u64.wrap (0 - d))), h) := by
 refine W_call t70 rfl rfl (by simp) ?_
 show W T c70 _ _
 unfold c70
 by_cases c : m ≤ d
 ·skip
  repeat' (first | refine W_seq ?_ | refine W_skip ?_ | refine W_block ?_ | refine W_ret ?_ | refine W_exit ?_ | refine W_ops (s1 := ?_) (by simp [a70, c]; exact rfl) ?_ | refine W_tops (s1 := ?_) (by simp [a70, c]; exact rfl) ?_ | refine W_cond_t (by first | (simp [a70, c]; done) | fail) ?_ | refine W_cond_f (by first | (simp [a70, c]; done) | fail) ?_ | fail)
  exact ⟨.inr rfl, [.bool (decide (n ≤ IntKind.u64.wrap (0 - d)))], by simp [a70, resV, resV1, c], by simp [a70, packV, c], by simp [V.under, V.underL, V.underLL, c], by first | exact .refl _ | (simp; exact .refl _) | (simp; assumption) | assumption⟩
 ·skip
  repeat' (first | refine W_seq ?_ | refine W_skip ?_ | refine W_block ?_ | refine W_ret ?_ | refine W_exit ?_ | refine W_ops (s1 := ?_) (by simp [a70, c]; exact rfl) ?_ | refine W_tops (s1 := ?_) (by simp [a70, c]; exact rfl) ?_ | refine W_cond_t (by first | (simp [a70, c]; done) | fail) ?_ | refine W_cond_f (by first | (simp [a70, c]; done) | fail) ?_ | fail)
  exact ⟨.inr rfl, [.bool false], by simp [a70, resV, resV1, c], by simp [a70, packV, c], by simp [V.under, V.underL, V.underLL, c], by first | exact .refl _ | (simp; exact .refl _) | (simp; assumption) | assumption⟩
def apartF (f : FuncD) (ok : Bool) (F : Int → FormD) (b x y : Int) : Bool := match distF f ok F b x y with
 | some (d, m, n) => decide (m ≤ d) && decide (n ≤ IntKind.u64.wrap (0 - d))
 | none => false
def followsF (f : FuncD) (ok : Bool) (F : Int → FormD) (b x y : Int) : Bool := match distF f ok F b x y with
 | some (d, m, _) => decide (d = m)
 | none => false
theorem Apart_run (K : Known f ok F) (b x y : Int) (h : LS.Heap) : callD T 26 [.agg f.c, .int .i64 b, .int .i64 x, .int .i64 y] h = some (.bool (apartF f ok F b x y), h) := by
 have hfc : f.c = [.lst .ro (f.params.map intC), .int .i64 f.ret, .lst .ro (f.blocks.map BlockD.c)] := rfl
 have e := with_run K b x y h 70 [] _ _ (fun d m n => apartQ_run d m n h)
 have e : callD T 66 [.agg f.c, .int .i64 b, .int .i64 x, .int .i64 y, .fn 70 [] []] h = some (.bool (apartF f ok F b x y), h) := by
  rw [e]; unfold apartF
  cases distF f ok F b x y <;> rfl
 rw [hfc] at e
 refine W_call t26 rfl rfl (by simp) ?_
 show W T c26 _ _
 unfold c26
 repeat' (first | refine W_seq ?_ | refine W_skip ?_ | refine W_block ?_ | refine W_ret ?_ | refine W_exit ?_ | refine W_ops (s1 := ?_) (by simp [a26, nextVer, hfc, e]; exact rfl) ?_ | refine W_tops (s1 := ?_) (by simp [a26, nextVer, hfc, e]; exact rfl) ?_ | refine W_cond_t (by first | (simp [a26, nextVer, hfc, e]; done) | fail) ?_ | refine W_cond_f (by first | (simp [a26, nextVer, hfc, e]; done) | fail) ?_ | fail)
 exact ⟨.inr rfl, [.bool (apartF f ok F b x y)], by simp [a26, resV, resV1], by simp [a26, packV], by simp [V.under, V.underL, V.underLL], by first | exact .refl _ | (simp; exact .refl _) | (simp; assumption) | assumption⟩
theorem followsQ_run (d m n : Int) (h : LS.Heap) : callD T 71 [.int .u64 d, .int .u64 m, .int .u64 n] h = some (.bool (decide (d = m)), h) := by
 refine W_call t71 rfl rfl (by simp) ?_
 show W T c71 _ _
 unfold c71
 repeat' (first | refine W_seq ?_ | refine W_skip ?_ | refine W_block ?_ | refine W_ret ?_ | refine W_exit ?_ | refine W_ops (s1 := ?_) (by simp [a71]; exact rfl) ?_ | refine W_tops (s1 := ?_) (by simp [a71]; exact rfl) ?_ | refine W_cond_t (by first | (simp [a71]; done) | fail) ?_ | refine W_cond_f (by first | (simp [a71]; done) | fail) ?_ | fail)
 exact ⟨.inr rfl, [.bool (decide (d = m))], by simp [a71, resV, resV1], by simp [a71, packV], by simp [V.under, V.underL, V.underLL], by first | exact .refl _ | (simp; exact .refl _) | (simp; assumption) | assumption⟩
theorem Follows_run (K : Known f ok F) (b x y : Int) (h : LS.Heap) : callD T 28 [.agg f.c, .int .i64 b, .int .i64 x, .int .i64 y] h = some (.bool (followsF f ok F b x y), h) := by
 have hfc : f.c = [.lst .ro (f.params.map intC), .int .i64 f.ret, .lst .ro (f.blocks.map BlockD.c)] := rfl
 have e := with_run K b x y h 71 [] _ _ (fun d m n => followsQ_run d m n h)
 have e : callD T 66 [.agg f.c, .int .i64 b, .int .i64 x, .int .i64 y, .fn 71 [] []] h = some (.bool (followsF f ok F b x y), h) := by
  rw [e]; unfold followsF
  cases distF f ok F b x y <;> rfl
 rw [hfc] at e
 refine W_call t28 rfl rfl (by simp) ?_
 show W T c28 _ _
 unfold c28
 repeat' (first | refine W_seq ?_ | refine W_skip ?_ | refine W_block ?_ | refine W_ret ?_ | refine W_exit ?_ | refine W_ops (s1 := ?_) (by simp [a28, nextVer, hfc, e]; exact rfl) ?_ | refine W_tops (s1 := ?_) (by simp [a28, nextVer, hfc, e]; exact rfl) ?_ | refine W_cond_t (by first | (simp [a28, nextVer, hfc, e]; done) | fail) ?_ | refine W_cond_f (by first | (simp [a28, nextVer, hfc, e]; done) | fail) ?_ | fail)
 exact ⟨.inr rfl, [.bool (followsF f ok F b x y)], by simp [a28, resV, resV1], by simp [a28, packV], by simp [V.under, V.underL, V.underLL], by first | exact .refl _ | (simp; exact .refl _) | (simp; assumption) | assumption⟩
def isTouch (ops : List OpD) (j : Nat) : Bool := match ops[j]? with
 | some o => decide (0 ≤ touchM o.kind)
 | none => false
def touchP (ops : List OpD) (i : Nat) : List Nat := (List.range i).filter (isTouch ops)
theorem touchP_succ (ops : List OpD) (i : Nat) : touchP ops (i + 1) = touchP ops i ++ (if isTouch ops i = true then [i] else []) := by
 unfold touchP
 rw [List.range_succ, List.filter_append]
 congr 1
 by_cases h : isTouch ops i = true <;> simp [h]
theorem touchP_len (ops : List OpD) (i : Nat) : (touchP ops i).length ≤ i := by
 unfold touchP
 refine Nat.le_trans (List.length_filter_le _ _) ?_
 simp
def touchesF (f : FuncD) (ok : Bool) (b : Int) : List Nat := match blockAt f b with
 | some x => if ok = true then touchP x.ops x.ops.length else []
 | none => []
def natC (n : Nat) : List V := [.int .i64 n]
@[simp] theorem retag_nat (l : List Nat) : V.retagLL (l.map natC) = l.map natC := retagLL_enc _ (fun _ => rfl) _
@[simp] theorem under_nat (n : Nat) (l : List Nat) : V.underLL n (l.map natC) = true := underLL_enc _ _ (fun _ => rfl) _
theorem okSize_nat (l : List Nat) : okSize 1 (l.map natC) = true := by cases l <;> rfl
theorem Acc.lst {n : Nat} {h0 h : LS.Heap} {v : V} {l : List (List V)} (ha : Acc n h0 h v l) : ∃ tg, v = .lst tg l := by
 rcases ha with ⟨rfl, rfl⟩ | ⟨tk, rfl, _⟩
 ·exact ⟨_, rfl⟩
 ·exact ⟨_, rfl⟩
theorem Touches_run (K : Known f ok F) (b : Int) (h : LS.Heap) : callD T 30 [.agg f.c, .int .i64 b] h = some (.lst .ro ((touchesF f ok b).map natC), h) := by
 have e0 := aright_run K b h
 have hfc : f.c = [.lst .ro (f.params.map intC), .int .i64 f.ret, .lst .ro (f.blocks.map BlockD.c)] := rfl
 rw [hfc] at e0
 have no : (blockIn f b && ok) = false → touchesF f ok b = [] := fun hn => by
  rcases blockIn_at (f := f) (b := b) with ⟨x, h1, _, h3, _⟩ | ⟨h1, _⟩
  ·rw [h3, Bool.true_and] at hn; simp [touchesF, h1, hn]
  ·simp [touchesF, h1]
 refine W_call t30 rfl rfl (by simp) ?_
 show W T c30 _ _
 unfold c30
 cases hr : blockIn f b && ok with
 | false =>
  rw [hr] at e0
  repeat' (first | refine W_seq ?_ | refine W_skip ?_ | refine W_block ?_ | refine W_ret ?_ | refine W_exit ?_ | refine W_ops (s1 := ?_) (by simp [a30, nextVer, hfc, e0]; exact rfl) ?_ | refine W_tops (s1 := ?_) (by simp [a30, nextVer, hfc, e0]; exact rfl) ?_ | refine W_cond_t (by first | (simp [a30, nextVer, hfc, e0]; done) | fail) ?_ | refine W_cond_f (by first | (simp [a30, nextVer, hfc, e0]; done) | fail) ?_ | fail)
  exact ⟨.inr rfl, [.lst .nil []], by simp [a30, resV, resV1, no hr, V.retag, V.retagLL], by simp [a30, packV, no hr, V.retag, V.retagLL], by simp [V.under, V.underL, V.underLL, no hr, V.retag, V.retagLL], by first | exact .refl _ | (simp; exact .refl _) | (simp; assumption) | assumption⟩
 | true =>
  rw [hr] at e0
  rw [Bool.and_eq_true] at hr
  rcases blockIn_at (f := f) (b := b) with ⟨x, h1, h2, h3, h4, h5⟩ | ⟨_, h3⟩
  rotate_left
  ·rw [h3] at hr; exact absurd hr.1 (by simp)
  have hF : touchesF f ok b = touchP x.ops x.ops.length := by simp [touchesF, h1, hr.2]
  obtain ⟨n, rfl⟩ : ∃ n : Nat, b = n := ⟨b.toNat, by omega⟩
  have h5' : f.blocks[n]? = some x := h5
  have hbc : x.c = [.lst .ro (x.phis.map PhiD.c), .lst .ro (x.ops.map OpD.c), .int .i64 x.ek, .int .i64 x.ea, .lst .ro (x.to.map intC)] := rfl
  have hxl := (K.fit.2.2 x h2).2.1
  repeat' (first | refine W_seq ?_ | refine W_skip ?_ | refine W_block ?_ | refine W_ret ?_ | refine W_exit ?_ | refine W_ops (s1 := ?_) (by simp [a30, nextVer, hfc, e0, h5', hbc]; exact rfl) ?_ | refine W_tops (s1 := ?_) (by simp [a30, nextVer, hfc, e0, h5', hbc]; exact rfl) ?_ | refine W_cond_t (by first | (simp [a30, nextVer, hfc, e0, h5', hbc]; done) | fail) ?_ | refine W_cond_f (by first | (simp [a30, nextVer, hfc, e0, h5', hbc]; done) | fail) ?_ | fail)
  refine W_for' l30_0.eq_1 (n := x.ops.length) (fun i s => s.t 17 = .lst .ro (x.ops.map OpD.c) ∧ s.t 18 = .int .i64 x.ops.length ∧ s.t 19 = .int .i64 i ∧ Acc 1 h s.h (s.t 5) ((touchP x.ops i).map natC) ∧ HExt h s.h) ⟨by simp, by simp, by simp, by simpa [touchP] using Acc.nil 1 h h, .refl _⟩ ?_ ?_
  ·rintro i ⟨t, loc, h'⟩ hi ⟨t17, t18, t19, ac, hx⟩
   simp only at t17 t18 t19 ac hx
   have hw := i64_succ (show i < 2 ^ 62 by omega)
   obtain ⟨o, ho⟩ : ∃ o, x.ops[i]? = some o := ⟨x.ops[i], by simp [hi]⟩
   have hoc : o.c = [.int .i64 o.kind, .int .i64 o.bits, .int .i64 o.lanes, .int .i64 o.dst, .lst .ro (o.args.map intC), .int .u64 o.imm] := rfl
   have e1 := touch_run o.kind h'
   have hl1 : ((i : Int) < x.ops.length) := by omega
   by_cases c : 0 ≤ touchM o.kind
   ·have hs := touchP_succ x.ops i
    rw [if_pos (by simp [isTouch, ho, c])] at hs
    obtain ⟨v', h2, e2, ac', x'⟩ := ac.append hx (m := [i].map natC) (tg := .exact) (by simp) (okSize_nat _) (okSize_nat _) (bytes := 8) (by have := touchP_len x.ops i; simp; omega)
    rw [← List.map_append, ← hs] at ac'
    simp only [List.map_cons, List.map_nil, natC] at e2
    repeat' (first | refine W_seq ?_ | refine W_skip ?_ | refine W_block ?_ | refine W_ret ?_ | refine W_exit ?_ | refine W_ops (s1 := ?_) (by simp [t17, t18, t19, hl1, ho, hoc, e1, c, hw, e2]; exact rfl) ?_ | refine W_tops (s1 := ?_) (by simp [t17, t18, t19, hl1, ho, hoc, e1, c, hw, e2]; exact rfl) ?_ | refine W_cond_t (by first | (simp [t17, t18, t19, hl1, ho, hoc, e1, c, hw, e2]; done) | fail) ?_ | refine W_cond_f (by first | (simp [t17, t18, t19, hl1, ho, hoc, e1, c, hw, e2]; done) | fail) ?_ | fail)
    exact .inl ⟨rfl, by simp [t17], by simp [t18], by simp, by simpa using ac', by simpa using x'⟩
   ·have hs := touchP_succ x.ops i
    rw [if_neg (by simp [isTouch, ho, c]), List.append_nil] at hs
    repeat' (first | refine W_seq ?_ | refine W_skip ?_ | refine W_block ?_ | refine W_ret ?_ | refine W_exit ?_ | refine W_ops (s1 := ?_) (by simp [t17, t18, t19, hl1, ho, hoc, e1, c, hw]; exact rfl) ?_ | refine W_tops (s1 := ?_) (by simp [t17, t18, t19, hl1, ho, hoc, e1, c, hw]; exact rfl) ?_ | refine W_cond_t (by first | (simp [t17, t18, t19, hl1, ho, hoc, e1, c, hw]; done) | fail) ?_ | refine W_cond_f (by first | (simp [t17, t18, t19, hl1, ho, hoc, e1, c, hw]; done) | fail) ?_ | fail)
    exact .inl ⟨rfl, by simp [t17], by simp [t18], by simp, by simpa [hs] using ac, by simpa using hx⟩
  ·rintro ⟨t, loc, h'⟩ ⟨t17, t18, t19, ac, hx⟩
   simp only at t17 t18 t19 ac hx
   obtain ⟨tg, hv⟩ := Acc.lst ac
   repeat' (first | refine W_seq ?_ | refine W_skip ?_ | refine W_block ?_ | refine W_ret ?_ | refine W_exit ?_ | refine W_ops (s1 := ?_) (by simp [t17, t18, t19, hv]; exact rfl) ?_ | refine W_tops (s1 := ?_) (by simp [t17, t18, t19, hv]; exact rfl) ?_ | refine W_cond_t (by first | (simp [t17, t18, t19, hv]; done) | fail) ?_ | refine W_cond_f (by first | (simp [t17, t18, t19, hv]; done) | fail) ?_ | fail)
   refine ⟨by simp, ?_⟩
   repeat' (first | refine W_seq ?_ | refine W_skip ?_ | refine W_block ?_ | refine W_ret ?_ | refine W_exit ?_ | refine W_ops (s1 := ?_) (by simp [t17, t18, t19, hv]; exact rfl) ?_ | refine W_tops (s1 := ?_) (by simp [t17, t18, t19, hv]; exact rfl) ?_ | refine W_cond_t (by first | (simp [t17, t18, t19, hv]; done) | fail) ?_ | refine W_cond_f (by first | (simp [t17, t18, t19, hv]; done) | fail) ?_ | fail)
   exact ⟨.inr rfl, [.lst tg ((touchP x.ops x.ops.length).map natC)], by simp [a30, resV, resV1, hv], by simp [a30, packV, V.retag, hF], by simp [V.under, hF, Tag.under], by simpa using hx⟩

end Go.Proofs.YtpbngohpklpalaaGreat

/- Straight functions that are right, by going through them. -/
namespace Go.Proofs.YtpbngohpklpalaaGreat
open Go.LS Go.IntWalk
def lookE : List (Int × DefD) → Int → Option DefD
 | [], _ => none
 | (u, d) :: r, v => if v = u then some d else lookE r v
def usesB (env : List (Int × DefD)) : List (Int × Int) → List Int → Bool
 | [], _ => true
 | s :: l, v :: r => (match lookE env v with
  | some d => decide (d.bits = s.1) && decide (d.lanes = s.2)
  | none => false) && usesB env l r
 | _ :: _, [] => false
def kindB (k : Int) : Bool := (decide (0 ≤ k) && decide (k ≤ 13)) || (decide (k = 16) || (decide (k = 17) || decide (k = 20)))
def stepsB : List OpD → Nat → List (Int × DefD) → Option (List (Int × DefD))
 | [], _, env => some env
 | o :: r, k, env => if (mayOp o && (kindB o.kind && (decide (o.args.length < 64) && (usesB env (takeL o) o.args && (decide ((giveM o).1 ≤ 0) || (lookE env o.dst).isNone))))) = true then
   stepsB r (k + 1) (if 0 < (giveM o).1 then (o.dst, ⟨0, k, (giveM o).1, (giveM o).2⟩) :: env else env) else none
def envP (ps : List Int) : Nat → List (Int × DefD)
 | 0 => []
 | i + 1 => ((i : Int) + 1, ⟨-1, 0, ps.getD i 0, 1⟩) :: envP ps i
def rightB (x : Straight) : Bool := decide (x.ops.length < 1048576) && (x.f.tells && (widthB x.ret && (x.ps.all widthB && (match stepsB x.ops 0 (envP x.ps x.ps.length) with
 | some env => (match lookE env x.arg with
  | some d => decide (d.bits = x.ret) && decide (d.lanes = 1)
  | none => false)
 | none => false))))
theorem lookE_envP (ps : List Int) : ∀ i v, lookE (envP ps i) v = Dp ps i v
 | 0, _ => rfl
 | i + 1, v => by simp only [envP, lookE, Dp]; rw [lookE_envP ps i v]
theorem takes_kind {o : OpD} (hk : kindB o.kind = true) (hi : 0 ≤ o.imm ∧ o.imm < 18446744073709551616) : TakesOK o := by
 obtain ⟨kind, bits, lanes, dst, args, imm⟩ := o
 simp only [kindB, Bool.or_eq_true, Bool.and_eq_true, decide_eq_true_eq] at hk
 have hk : kind = 0 ∨ kind = 1 ∨ kind = 2 ∨ kind = 3 ∨ kind = 4 ∨ kind = 5 ∨ kind = 6 ∨ kind = 7 ∨ kind = 8 ∨ kind = 9 ∨ kind = 10 ∨ kind = 11 ∨ kind = 12 ∨ kind = 13 ∨ kind = 16 ∨ kind = 17 ∨ kind = 20 := by omega
 rcases hk with rfl | rfl | rfl | rfl | rfl | rfl | rfl | rfl | rfl | rfl | rfl | rfl | rfl | rfl | rfl | rfl | rfl
 ·exact takes_0 _ _ _ _ _ hi
 ·exact takes_1 _ _ _ _ _
 ·exact takes_2 _ _ _ _ _
 ·exact takes_3 _ _ _ _ _
 ·exact takes_4 _ _ _ _ _
 ·exact takes_5 _ _ _ _ _
 ·exact takes_6 _ _ _ _ _
 ·exact takes_7 _ _ _ _ _
 ·exact takes_8 _ _ _ _ _
 ·exact takes_9 _ _ _ _ _
 ·exact takes_10 _ _ _ _ _
 ·exact takes_11 _ _ _ _ _
 ·exact takes_12 _ _ _ _ _
 ·exact takes_13 _ _ _ _ _
 ·exact takes_16 _ _ _ _ _
 ·exact takes_17 _ _ _ _ _
 ·exact takes_20 _ _ _ _ _
theorem usesB_at {env : List (Int × DefD)} : ∀ {l : List (Int × Int)} {r : List Int}, usesB env l r = true → ∀ j (hj : j < l.length), ∃ v d, r[j]? = some v ∧ lookE env v = some d ∧ d.bits = l[j].1 ∧ d.lanes = l[j].2
 | [], _, _, j, hj => by simp at hj
 | s :: l, [], h, _, _ => by simp [usesB] at h
 | s :: l, v :: r, h, j, hj => by
  simp only [usesB, Bool.and_eq_true] at h
  obtain ⟨h1, h2⟩ := h
  cases j with
  | zero =>
   cases hl : lookE env v with
   | none => rw [hl] at h1; simp at h1
   | some d =>
    rw [hl] at h1
    simp only [Bool.and_eq_true, decide_eq_true_eq] at h1
    exact ⟨v, d, rfl, hl, h1.1, h1.2⟩
  | succ j => exact usesB_at h2 j (by simpa using hj)
structure Gone (x : Straight) (k : Nat) (env : List (Int × DefD)) : Prop where
 look : ∀ v, lookE env v = Do x k v
 block : ∀ v d, Do x k v = some d → d.block < 0 ∨ (d.block = 0 ∧ d.at_ < k)
theorem do_succ {x : Straight} {k : Nat} (hk : k < x.ops.length) : Do x (k + 1) = if 0 < (giveM x.ops[k]).1 then fun j => if j = x.ops[k].dst then some ⟨0, k, (giveM x.ops[k]).1, (giveM x.ops[k]).2⟩ else Do x k j else Do x k := by
 simp only [Do, List.getElem?_eq_getElem hk]
theorem do_mono {x : Straight} (once : ∀ k (hk : k < x.ops.length), 0 < (giveM x.ops[k]).1 → Do x k x.ops[k].dst = none) {k : Nat} {v : Int} {d : DefD} (h : Do x k v = some d) : ∀ n, k + n ≤ x.ops.length → Do x (k + n) v = some d
 | 0, _ => h
 | n + 1, hn => by
  have hk : k + n < x.ops.length := by omega
  have ih := do_mono once h n (by omega)
  rw [← Nat.add_assoc, do_succ hk]
  split
  ·rename_i hg
   have := once (k + n) hk hg
   by_cases hv : v = x.ops[k + n].dst
   ·rw [← hv, ih] at this; cases this
   ·simp only [hv, if_false]; exact ih
  ·exact ih
theorem steps_gone {x : Straight} : ∀ (l : List OpD) (k : Nat) (env env' : List (Int × DefD)), x.ops.drop k = l → k ≤ x.ops.length → Gone x k env → stepsB l k env = some env' →
  Gone x x.ops.length env' ∧ (∀ o ∈ l, mayOp o = true ∧ kindB o.kind = true ∧ o.args.length < 64) ∧ (∀ i (hi : i < x.ops.length), k ≤ i → 0 < (giveM x.ops[i]).1 → Do x i x.ops[i].dst = none) ∧
  (∀ i (hi : i < x.ops.length), k ≤ i → ∀ j (hj : j < (takeL x.ops[i]).length), ∃ v d, x.ops[i].args[j]? = some v ∧ Do x i v = some d ∧ d.bits = (takeL x.ops[i])[j].1 ∧ d.lanes = (takeL x.ops[i])[j].2 ∧ (d.block < 0 ∨ (d.block = 0 ∧ d.at_ < i)))
 | [], k, env, env', hl, hk, g, h => by
  have : k = x.ops.length := by
   have := congrArg List.length hl
   simp at this
   omega
  subst this
  simp only [stepsB, Option.some.injEq] at h
  subst h
  exact ⟨g, by simp, fun i hi h => by omega, fun i hi h => by omega⟩
 | o :: l, k, env, env', hl, hk, g, h => by
  have hlt : k < x.ops.length := by
   have := congrArg List.length hl
   simp at this
   omega
  have ho : x.ops[k] = o ∧ x.ops.drop (k + 1) = l := by
   rw [List.drop_eq_getElem_cons hlt] at hl
   injection hl with h1 h2
   exact ⟨h1, h2⟩
  unfold stepsB at h
  split at h
  ·rename_i hc
   simp only [Bool.and_eq_true, decide_eq_true_eq, Bool.or_eq_true] at hc
   obtain ⟨c1, c2, c3, c4, c5⟩ := hc
   have once : 0 < (giveM o).1 → Do x k o.dst = none := fun hg => by
    rcases c5 with c5 | c5
    ·omega
    ·rw [g.look] at c5; simpa using c5
   have g' : Gone x (k + 1) (if 0 < (giveM o).1 then (o.dst, ⟨0, k, (giveM o).1, (giveM o).2⟩) :: env else env) := by
    constructor
    ·intro v
     rw [do_succ hlt, ho.1]
     split
     ·simp only [lookE]; rw [g.look]
     ·exact g.look v
    ·intro v d hd
     rw [do_succ hlt, ho.1] at hd
     split at hd
     ·simp only [] at hd
      split at hd
      ·injection hd with hd; subst hd; exact .inr ⟨rfl, by simp only []; omega⟩
      ·rcases g.block v d hd with h1 | ⟨h1, h2⟩
       ·exact .inl h1
       ·exact .inr ⟨h1, by omega⟩
     ·rcases g.block v d hd with h1 | ⟨h1, h2⟩
      ·exact .inl h1
      ·exact .inr ⟨h1, by omega⟩
   obtain ⟨r1, r2, r3, r4⟩ := steps_gone l (k + 1) _ env' ho.2 (by omega) g' h
   refine ⟨r1, ?_, ?_, ?_⟩
   ·intro o' ho'
    rcases List.mem_cons.1 ho' with rfl | ho'
    ·exact ⟨c1, c2, c3⟩
    ·exact r2 o' ho'
   ·intro i hi hki hg
    by_cases e : i = k
    ·subst e; rw [ho.1] at hg ⊢; exact once hg
    ·exact r3 i hi (by omega) hg
   ·intro i hi hki j hj
    by_cases e : i = k
    ·subst e
     have hj' : j < (takeL o).length := by rw [ho.1] at hj; exact hj
     obtain ⟨v, d, u1, u2, u3, u4⟩ := usesB_at c4 j hj'
     rw [g.look] at u2
     exact ⟨v, d, by rw [ho.1]; exact u1, u2, by rw [u3]; simp only [ho.1], by rw [u4]; simp only [ho.1], g.block v d u2⟩
    ·exact r4 i hi (by omega) j hj
  ·cases h
theorem right_of_B {x : Straight} (h : rightB x = true) (hi : ∀ o ∈ x.ops, 0 ≤ o.imm ∧ o.imm < 18446744073709551616) : x.Right := by
 simp only [rightB, Bool.and_eq_true, decide_eq_true_eq] at h
 obtain ⟨h1, h2, h3, h4, h5⟩ := h
 cases hs : stepsB x.ops 0 (envP x.ps x.ps.length) with
 | none => rw [hs] at h5; simp at h5
 | some env =>
  rw [hs] at h5
  simp only [] at h5
  have g0 : Gone x 0 (envP x.ps x.ps.length) := by
   refine ⟨fun v => lookE_envP _ _ _, fun v d hd => ?_⟩
   have : ∀ i, Dp x.ps i v = some d → d.block < 0 := by
    intro i
    induction i with
    | zero => intro h; simp [Dp] at h
    | succ i ih =>
     intro h
     simp only [Dp] at h
     split at h
     ·injection h with h; subst h; show (-1 : Int) < 0; omega
     ·exact ih h
   exact .inl (this _ hd)
  obtain ⟨g, r2, r3, r4⟩ := steps_gone x.ops 0 _ env (by simp) (by omega) g0 hs
  have once : ∀ k (hk : k < x.ops.length), 0 < (giveM x.ops[k]).1 → Do x k x.ops[k].dst = none := fun k hk hg => r3 k hk (by omega) hg
  have ht := h2
  simp only [FuncD.tells, Bool.and_eq_true, decide_eq_true_eq] at ht
  refine ⟨⟨by have : x.ps.length ≤ 16 := ht.2.2.1; show x.ps.length < 2 ^ 40; omega, by simp [Straight.f], fun b hb => ?_⟩, h2, fun o ho => takes_kind (r2 o ho).2.1 (hi o ho), h3, fun p hp => List.all_eq_true.1 h4 p hp, fun o ho => (r2 o ho).1, once, ?_, ?_⟩
  ·simp only [Straight.f, List.mem_cons, List.not_mem_nil, or_false] at hb
   subst hb
   exact ⟨by simp [Straight.b], by simp only [Straight.b]; omega, by simp [Straight.b], fun p hp => by simp [Straight.b] at hp, fun o ho => by have := (r2 o ho).2.2; simp only [OpD.Fit]; omega⟩
  ·intro k hk j hj
   obtain ⟨v, d, u1, u2, u3, u4, u5⟩ := r4 k hk (by omega) j hj
   refine ⟨v, d, u1, ?_, u3, u4, u5⟩
   have := do_mono once u2 (x.ops.length - k) (by omega)
   rw [show k + (x.ops.length - k) = x.ops.length by omega] at this
   exact this
  ·cases hl : lookE env x.arg with
   | none => rw [hl] at h5; simp at h5
   | some d =>
    rw [hl] at h5
    simp only [Bool.and_eq_true, decide_eq_true_eq] at h5
    rw [g.look] at hl
    refine ⟨d, hl, h5.1, h5.2, ?_⟩
    rcases g.block _ _ hl with h1 | ⟨h1, h2⟩
    ·exact .inl h1
    ·exact .inr ⟨h1, by omega⟩

def OpD.zero (o : OpD) : OpD := if o.kind = 0 then { o with imm := 0 } else o
def Straight.zero (x : Straight) : Straight := { x with ops := x.ops.map OpD.zero }
def OpD.cutB (o : OpD) : Prop := o.kind = 0 → cutU o.imm o.bits = o.imm
theorem takesM_zero {o : OpD} (h : o.cutB) (hb : widthB o.bits = true) : takesM o.zero = takesM o := by
 unfold OpD.zero
 split
 ·rename_i hk
  have hz : cutU 0 o.bits = 0 := by
   have := width_cases hb
   unfold cutU
   rcases this with h | h | h | h | h <;> rw [h] <;> rfl
  simp only [takesM, hk, if_true, h hk, hz]
 ·rfl
theorem mayOp_zero {o : OpD} (h : o.cutB) : mayOp o.zero = mayOp o := by
 have e1 : o.zero.bits = o.bits ∧ o.zero.lanes = o.lanes ∧ o.zero.dst = o.dst ∧ o.zero.args = o.args ∧ o.zero.kind = o.kind := by unfold OpD.zero; split <;> simp
 obtain ⟨a1, a2, a3, a4, a5⟩ := e1
 unfold mayOp dstB
 rw [a1, a2, a3, a4, a5]
 by_cases hs : shapeB o.bits o.lanes = true
 ·have hb : widthB o.bits = true := by
   simp only [shapeB, Bool.and_eq_true] at hs
   exact hs.1
  rw [takesM_zero h hb]
 ·simp only [Bool.not_eq_true] at hs
  rw [hs]; rfl
theorem zero_eqs (o : OpD) : o.zero.bits = o.bits ∧ o.zero.lanes = o.lanes ∧ o.zero.dst = o.dst ∧ o.zero.args = o.args ∧ o.zero.kind = o.kind := by unfold OpD.zero; split <;> simp
theorem takeL_zero {o : OpD} (h : o.cutB) : takeL o.zero = takeL o := by
 unfold takeL
 rw [mayOp_zero h]
 split
 ·rename_i hm
  have hb : widthB o.bits = true := by
   simp only [mayOp, shapeB, Bool.and_eq_true] at hm
   exact hm.1.1
  rw [takesM_zero h hb]
 ·rfl
theorem giveM_zero {o : OpD} (h : o.cutB) : giveM o.zero = giveM o := by
 obtain ⟨a1, a2, a3, a4, a5⟩ := zero_eqs o
 unfold giveM
 rw [mayOp_zero h, a1, a2, a5]
theorem stepsB_zero : ∀ (l : List OpD), (∀ o ∈ l, o.cutB) → ∀ k env, stepsB (l.map OpD.zero) k env = stepsB l k env
 | [], _, _, _ => rfl
 | o :: l, h, k, env => by
  have ho := h o (by simp)
  obtain ⟨a1, a2, a3, a4, a5⟩ := zero_eqs o
  simp only [List.map_cons, stepsB, mayOp_zero ho, takeL_zero ho, giveM_zero ho, a3, a4, a5]
  rw [stepsB_zero l (fun o h' => h o (by simp [h']))]
theorem any_zero (l : List OpD) : (l.map OpD.zero).any badOp = l.any badOp := by
 rw [List.any_map]
 congr 1
 funext o
 obtain ⟨a1, a2, a3, a4, a5⟩ := zero_eqs o
 simp only [Function.comp, badOp, a1, a2, a3, a4, a5]
theorem rightB_zero {x : Straight} (h : ∀ o ∈ x.ops, o.cutB) : rightB x.zero = rightB x := by
 have ht : x.zero.f.tells = x.f.tells := by
  simp only [FuncD.tells, Straight.f, Straight.b, Straight.zero, FuncD.size, szS, szB, List.length_map, List.any_cons, List.any_nil, badBlock, any_zero, List.length_cons, List.length_nil]
  rfl
 unfold rightB
 rw [ht]
 simp only [Straight.zero, List.length_map, stepsB_zero x.ops h]
 rfl
theorem right_of_zero {x : Straight} (h : rightB x.zero = true) (hc : ∀ o ∈ x.ops, o.cutB) (hi : ∀ o ∈ x.ops, 0 ≤ o.imm ∧ o.imm < 18446744073709551616) : x.Right :=
 right_of_B (by rw [← rightB_zero hc]; exact h) hi

end Go.Proofs.YtpbngohpklpalaaGreat

/- Which places are apart, of straight functions. -/
namespace Go.Proofs.YtpbngohpklpalaaGreat
open Go.LS Go.IntWalk
theorem checkS_run (x : Straight) (R : x.Right) (h : LS.Heap) : callD T 96 [.agg x.f.c, .int .i64 2] h = some (.int .i64 0, h) := by
 obtain ⟨h', m, e, hx, _⟩ := look_run tree_one x R h
 have hfc : x.f.c = [.lst .ro (x.f.params.map intC), .int .i64 x.f.ret, .lst .ro (x.f.blocks.map BlockD.c)] := rfl
 rw [hfc] at e ⊢
 refine W_call t96 rfl rfl (by simp) ?_
 show W T c96 _ _
 unfold c96
 repeat' (first | refine W_seq ?_ | refine W_skip ?_ | refine W_block ?_ | refine W_ret ?_ | refine W_exit ?_ | refine W_ops (s1 := ?_) (by simp [a96, nextVer, e]; exact rfl) ?_ | refine W_tops (s1 := ?_) (by simp [a96, nextVer, e]; exact rfl) ?_ | refine W_cond_t (by first | (simp [a96, nextVer, e]; done) | fail) ?_ | refine W_cond_f (by first | (simp [a96, nextVer, e]; done) | fail) ?_ | fail)
 exact ⟨.inr rfl, [.int .i64 0], by simp [a96, resV, resV1], by simp [a96, packV], rfl, by simpa using hx⟩
theorem touch_takes {o : OpD} (h : 0 ≤ touchM o.kind) (hm : mayOp o = true) : ∃ hl : (touchM o.kind).toNat < (takeL o).length, (takeL o)[(touchM o.kind).toNat] = (64, 1) := by
 have ht : takeL o = (takesM o).1 := by simp only [takeL]; rw [if_pos hm]
 have hk : o.kind = 16 ∨ o.kind = 17 ∨ o.kind = 18 ∨ o.kind = 19 := by
  unfold touchM at h
  split at h
  ·omega
  ·split at h
   ·omega
   ·omega
 rcases hk with e | e | e | e <;> simp [ht, takesM, touchM, e]
theorem knownS {x : Straight} (R : x.Right) (himm : ∀ o ∈ x.ops, 0 ≤ o.imm) {F : Int → FormD} (hs : ∀ v, (F v).1.length < 2 ^ 40)
  (hF : ∀ o ∈ x.ops, 0 ≤ touchM o.kind → ∀ v, o.args[(touchM o.kind).toNat]? = some v → FormOf x.O v (F v)) : Known x.f true F where
 fit := R.fit
 check := fun h => ⟨0, checkS_run x R h, by simp⟩
 short := hs
 form := by
  intro _ b hb o ho ht v hv h
  simp only [Straight.f, List.mem_cons, List.not_mem_nil, or_false] at hb
  subst hb
  have ho : o ∈ x.ops := ho
  obtain ⟨hl, he⟩ := touch_takes ht (R.ops o ho)
  obtain ⟨k, hk, rfl⟩ := List.getElem_of_mem ho
  obtain ⟨v', d, u1, u2, u3, u4, _⟩ := R.uses k hk _ hl
  rw [hv] at u1
  injection u1 with u1
  subst u1
  rw [he] at u3 u4
  exact ⟨0, Of_yes tree_one x R v h u2 u3 u4 (hF _ ho ht v hv) himm⟩
 args := by
  intro _ b hb o ho ht
  simp only [Straight.f, List.mem_cons, List.not_mem_nil, or_false] at hb
  subst hb
  have ho : o ∈ x.ops := ho
  obtain ⟨hl, _⟩ := touch_takes ht (R.ops o ho)
  obtain ⟨k, hk, rfl⟩ := List.getElem_of_mem ho
  obtain ⟨v', d, u1, _⟩ := R.uses k hk _ hl
  exact (List.getElem?_eq_some_iff.1 u1).1

end Go.Proofs.YtpbngohpklpalaaGreat

/- Lists of numbers that are the same; which places are apart: the laws' own example. -/
namespace Go.Proofs.YtpbngohpklpalaaGreat
open Go.LS Go.IntWalk
theorem Ints_run (ta tb : Tag) (a b : List Int) (ha : a.length < 2 ^ 62) (hb : b.length < 2 ^ 62) (h : LS.Heap) : callD T 29 [.lst ta (a.map intC), .lst tb (b.map intC)] h = some (.bool (decide (a = b)), h) := by
 have fin : ∀ (e : AExit) (v : Bool) (s : St), (e = .normal ∨ e = .ret) → s.t 4 = .bool v → s.h = h → decide (a = b) = v → (e = AExit.normal ∨ e = AExit.ret) ∧ ∃ vs, resV s a29.res = some vs ∧ (if a29.keepR = true then packV vs else (packV vs).retag) = .bool (decide (a = b)) ∧ V.under h.next (.bool (decide (a = b))) = true ∧ HExt h s.h := fun e v s he h2 hh hb =>
  ⟨he, [.bool v], by simp [a29, resV, resV1, h2], by simp [a29, packV, hb], rfl, by rw [hh]; exact .refl _⟩
 refine W_call t29 rfl rfl (by simp) ?_
 show W T c29 _ _
 unfold c29
 by_cases hl : a.length = b.length
 ·have hl' : (a.length : Int) = b.length := by omega
  repeat' (first | refine W_seq ?_ | refine W_skip ?_ | refine W_block ?_ | refine W_ret ?_ | refine W_exit ?_ | refine W_ops (s1 := ?_) (by simp [a29, hl', hl]; exact rfl) ?_ | refine W_tops (s1 := ?_) (by simp [a29, hl', hl]; exact rfl) ?_ | refine W_cond_t (by first | (simp [a29, hl', hl]; done) | fail) ?_ | refine W_cond_f (by first | (simp [a29, hl', hl]; done) | fail) ?_ | fail)
  refine W_for' l29_0.eq_1 (n := a.length) (fun i s => s.t 0 = .lst .ro (a.map intC) ∧ s.t 1 = .lst .ro (b.map intC) ∧ s.t 5 = .int .i64 i ∧ s.h = h ∧ a.take i = b.take i) ⟨by simp, by simp, by simp, rfl, by simp⟩ ?_ ?_
  ·rintro i ⟨t, loc, h'⟩ hi ⟨t0, t1, t5, rfl, ht⟩
   simp only at t0 t1 t5
   have hw := i64_succ (show i < 2 ^ 62 by omega)
   have hl1 : ((i : Int) < a.length) := by omega
   have hib : i < b.length := by omega
   have ga : (a.map intC)[i]? = some [.int .i64 a[i]] := by simp [intC, hi]
   have gb : (b.map intC)[i]? = some [.int .i64 b[i]] := by simp [intC, hib]
   generalize ha' : a.map intC = A at *
   generalize hb' : b.map intC = B at *
   have hAl : (A.length : Int) = a.length := by rw [← ha']; simp
   by_cases c : a[i] = b[i]
   ·skip
    repeat' (first | refine W_seq ?_ | refine W_skip ?_ | refine W_block ?_ | refine W_ret ?_ | refine W_exit ?_ | refine W_ops (s1 := ?_) (by simp [t0, t1, t5, hl1, hAl, ga, gb, c, hw]; exact rfl) ?_ | refine W_tops (s1 := ?_) (by simp [t0, t1, t5, hl1, hAl, ga, gb, c, hw]; exact rfl) ?_ | refine W_cond_t (by first | (simp [t0, t1, t5, hl1, hAl, ga, gb, c, hw]; done) | fail) ?_ | refine W_cond_f (by first | (simp [t0, t1, t5, hl1, hAl, ga, gb, c, hw]; done) | fail) ?_ | fail)
    refine .inl ⟨rfl, by simp [t0], by simp [t1], by simp, rfl, ?_⟩
    rw [List.take_succ_eq_append_getElem hi, List.take_succ_eq_append_getElem hib, ht, c]
   ·skip
    repeat' (first | refine W_seq ?_ | refine W_skip ?_ | refine W_block ?_ | refine W_ret ?_ | refine W_exit ?_ | refine W_ops (s1 := ?_) (by simp [t0, t1, t5, hl1, hAl, ga, gb, c, hw]; exact rfl) ?_ | refine W_tops (s1 := ?_) (by simp [t0, t1, t5, hl1, hAl, ga, gb, c, hw]; exact rfl) ?_ | refine W_cond_t (by first | (simp [t0, t1, t5, hl1, hAl, ga, gb, c, hw]; done) | fail) ?_ | refine W_cond_f (by first | (simp [t0, t1, t5, hl1, hAl, ga, gb, c, hw]; done) | fail) ?_ | fail)
    refine .inr ⟨by simp, fin _ false _ (.inr rfl) (by simp) rfl ?_⟩
    rw [decide_eq_false_iff_not]
    intro e
    subst e
    exact c rfl
  ·rintro ⟨t, loc, h'⟩ ⟨t0, t1, t5, rfl, ht⟩
   simp only at t0 t1 t5
   have he : a = b := by rw [List.take_length] at ht; rw [hl, List.take_length] at ht; exact ht
   repeat' (first | refine W_seq ?_ | refine W_skip ?_ | refine W_block ?_ | refine W_ret ?_ | refine W_exit ?_ | refine W_ops (s1 := ?_) (by simp [t0, t1, t5]; exact rfl) ?_ | refine W_tops (s1 := ?_) (by simp [t0, t1, t5]; exact rfl) ?_ | refine W_cond_t (by first | (simp [t0, t1, t5]; done) | fail) ?_ | refine W_cond_f (by first | (simp [t0, t1, t5]; done) | fail) ?_ | fail)
   refine ⟨by simp, ?_⟩
   repeat' (first | refine W_seq ?_ | refine W_skip ?_ | refine W_block ?_ | refine W_ret ?_ | refine W_exit ?_ | refine W_ops (s1 := ?_) (by simp; exact rfl) ?_ | refine W_tops (s1 := ?_) (by simp; exact rfl) ?_ | refine W_cond_t (by first | (simp; done) | fail) ?_ | refine W_cond_f (by first | (simp; done) | fail) ?_ | fail)
   exact fin _ true _ (.inr rfl) (by simp) rfl (by simp [he])
 ·have hl' : ¬ (a.length : Int) = b.length := by omega
  repeat' (first | refine W_seq ?_ | refine W_skip ?_ | refine W_block ?_ | refine W_ret ?_ | refine W_exit ?_ | refine W_ops (s1 := ?_) (by simp [a29, hl', hl]; exact rfl) ?_ | refine W_tops (s1 := ?_) (by simp [a29, hl', hl]; exact rfl) ?_ | refine W_cond_t (by first | (simp [a29, hl', hl]; done) | fail) ?_ | refine W_cond_f (by first | (simp [a29, hl', hl]; done) | fail) ?_ | fail)
  exact fin _ false _ (.inr rfl) (by simp) rfl (by rw [decide_eq_false_iff_not]; intro e; exact hl (by rw [e]))
theorem raw_call {G : FuncId} {af : AFn} (ht : T G = some af) (he : af.ext = none) (hk : af.keepA = false) {raw : List V} {f : FuncD} (hr : V.retagL raw = f.c) {rest : List V} (hfree : rest.all V.free = true) (h : LS.Heap) :
  callD T G (.agg raw :: rest) h = callD T G (.agg f.c :: rest) h :=
 callD_retag ht he hk (by simp [V.free, hfree]) (by simp [V.free, hfree]) (by simp [V.retag, hr])

def bwF : Straight := ⟨[64], 32, [⟨0, 64, 1, 2, [], 4⟩, ⟨1, 64, 1, 3, [1, 2], 0⟩, ⟨16, 32, 1, 4, [1], 0⟩, ⟨16, 32, 1, 5, [3], 0⟩], 5⟩
def bwG (v : Int) : FormD := if v = 3 then ([(1, 1)], 4) else ([(1, 1)], 0)
theorem bw_cases {P : OpD → Prop} (h : P ⟨0, 64, 1, 2, [], 4⟩ ∧ P ⟨1, 64, 1, 3, [1, 2], 0⟩ ∧ P ⟨16, 32, 1, 4, [1], 0⟩ ∧ P ⟨16, 32, 1, 5, [3], 0⟩) : ∀ o ∈ bwF.ops, P o := by
 intro o ho
 simp only [bwF, List.mem_cons, List.not_mem_nil, or_false] at ho
 rcases ho with rfl | rfl | rfl | rfl
 ·exact h.1
 ·exact h.2.1
 ·exact h.2.2.1
 ·exact h.2.2.2
theorem bw_right : bwF.Right := right_of_B (by kernel_rfl) (bw_cases (by simp))
theorem bw_known : Known bwF.f true bwG := by
 have f1 : FormOf bwF.O 1 ([(1, 1)], 0) := .none rfl
 have f2 : FormOf bwF.O 2 ([], 4) := .const (o := ⟨0, 64, 1, 2, [], 4⟩) rfl rfl rfl rfl
 have f3 : FormOf bwF.O 3 ([(1, 1)], 4) := by
  have f := FormOf.two (o := ⟨1, 64, 1, 3, [1, 2], 0⟩) (O := bwF.O) (v := 3) rfl rfl rfl (by simp) (by simp) rfl f1 f2
  have c : capF 3 (twoF 1 ([(1, 1)], 0) ([], 4)) = ([(1, 1)], 4) := by
   unfold twoF; rw [if_pos rfl]; unfold plusM
   rw [if_pos ⟨may_1 _ _ (by omega), rfl⟩, both_l]
   rfl
  rw [c] at f
  exact f
 refine knownS bw_right (bw_cases (by simp)) (fun v => by unfold bwG; split <;> simp) (bw_cases ⟨?_, ?_, ?_, ?_⟩)
 ·simp [touchM]
 ·simp [touchM]
 ·intro _ v hv
  have : v = 1 := by simpa [touchM] using hv.symm
  subst this
  exact f1
 ·intro _ v hv
  have : v = 3 := by simpa [touchM] using hv.symm
  subst this
  exact f3
def bwRaw : List V := [.lst .exact [[.int .i64 64]], .int .i64 32, .lst .exact [[.lst .nil [], .lst .exact [[.int .i64 0, .int .i64 64, .int .i64 1, .int .i64 2, .lst .nil [], .int .u64 4], [.int .i64 1, .int .i64 64, .int .i64 1, .int .i64 3, .lst .exact [[.int .i64 1], [.int .i64 2]], .int .u64 0],
 [.int .i64 16, .int .i64 32, .int .i64 1, .int .i64 4, .lst .exact [[.int .i64 1]], .int .u64 0], [.int .i64 16, .int .i64 32, .int .i64 1, .int .i64 5, .lst .exact [[.int .i64 3]], .int .u64 0]], .int .i64 0, .int .i64 5, .lst .nil []]]]
theorem awakeB_run (h : LS.Heap) : callD T 21 [] h = some (.bool true, h) := by
 have hr : V.retagL bwRaw = bwF.f.c := rfl
 have e1 := (raw_call t22 rfl rfl hr (rest := [.int .i64 0, .int .i64 3]) rfl h).trans (Address_run bw_known 0 3 h)
 have e2 := (raw_call t24 rfl rfl hr (rest := [.int .i64 0, .int .i64 3, .int .i64 2]) rfl h).trans (Distance_run bw_known 0 3 2 h)
 have e3 := (raw_call t28 rfl rfl hr (rest := [.int .i64 0, .int .i64 2, .int .i64 3]) rfl h).trans (Follows_run bw_known 0 2 3 h)
 have e4 := (raw_call t28 rfl rfl hr (rest := [.int .i64 0, .int .i64 3, .int .i64 2]) rfl h).trans (Follows_run bw_known 0 3 2 h)
 have e5 := (raw_call t26 rfl rfl hr (rest := [.int .i64 0, .int .i64 3, .int .i64 2]) rfl h).trans (Apart_run bw_known 0 3 2 h)
 have e6 := (raw_call t26 rfl rfl hr (rest := [.int .i64 0, .int .i64 2, .int .i64 2]) rfl h).trans (Apart_run bw_known 0 2 2 h)
 have e7 := (raw_call t30 rfl rfl hr (rest := [.int .i64 0]) rfl h).trans (Touches_run bw_known 0 h)
 rw [show addrF bwF.f true 0 3 = some (3, 4) by kernel_rfl] at e1
 rw [show distF bwF.f true bwG 0 3 2 = some (18446744073709551612, 4, 4) by kernel_rfl] at e2
 rw [show followsF bwF.f true bwG 0 2 3 = true by kernel_rfl] at e3
 rw [show followsF bwF.f true bwG 0 3 2 = false by kernel_rfl] at e4
 rw [show apartF bwF.f true bwG 0 3 2 = true by kernel_rfl] at e5
 rw [show apartF bwF.f true bwG 0 2 2 = false by kernel_rfl] at e6
 rw [show touchesF bwF.f true 0 = [2, 3] by kernel_rfl] at e7
 have e8 := Ints_run .ro .exact [2, 3] [2, 3] (by simp) (by simp) h
 simp only [addrV, bwRaw, List.map_cons, List.map_nil, natC, intC] at e1 e2 e3 e4 e5 e6 e7 e8
 refine W_call t21 rfl rfl (by simp) ?_
 show W T c21 _ _
 unfold c21
 repeat' (first | refine W_seq ?_ | refine W_skip ?_ | refine W_block ?_ | refine W_ret ?_ | refine W_exit ?_ | refine W_ops (s1 := ?_) (by simp [a21, nextVer, e1, e2, e3, e4, e5, e6, e7, e8]; exact rfl) ?_ | refine W_tops (s1 := ?_) (by simp [a21, nextVer, e1, e2, e3, e4, e5, e6, e7, e8]; exact rfl) ?_ | refine W_cond_t (by first | (simp [a21, nextVer, e1, e2, e3, e4, e5, e6, e7, e8]; done) | fail) ?_ | refine W_cond_f (by first | (simp [a21, nextVer, e1, e2, e3, e4, e5, e6, e7, e8]; done) | fail) ?_ | fail)
 exact ⟨.inr rfl, [.bool true], by simp [a21, resV, resV1], by simp [a21, packV], by simp [V.under, V.underL, V.underLL], by first | exact .refl _ | (simp; exact .refl _) | (simp; assumption) | assumption⟩

end Go.Proofs.YtpbngohpklpalaaGreat

/- Loads one behind the other: how far they are apart. -/
namespace Go.Proofs.YtpbngohpklpalaaGreat
open Go.LS Go.IntWalk
def rowI (w base : Int) (i : Nat) : Int := IntKind.u64.wrap (base + (i : Int) * w / 8)
def rowO (w base : Int) (n : Nat) : OpD :=
 if n % 3 = 0 then ⟨0, 64, 1, (n : Int) + 2, [], rowI w base (n / 3)⟩
 else if n % 3 = 1 then ⟨1, 64, 1, (n : Int) + 2, [1, (n : Int) + 1], 0⟩
 else ⟨16, w, 1, (n : Int) + 2, [(n : Int) + 1], 0⟩
def rowF (w base : Int) (k : Nat) : Straight := ⟨[64], w, (List.range (3 * k)).map (rowO w base), 3 * (k : Int) + 1⟩
def rowZ (w : Int) (n : Nat) : OpD :=
 if n % 3 = 0 then ⟨0, 64, 1, (n : Int) + 2, [], 0⟩
 else if n % 3 = 1 then ⟨1, 64, 1, (n : Int) + 2, [1, (n : Int) + 1], 0⟩
 else ⟨16, w, 1, (n : Int) + 2, [(n : Int) + 1], 0⟩
theorem rowO_zero (w base : Int) (n : Nat) : (rowO w base n).zero = rowZ w n := by
 unfold rowO rowZ
 split
 ·rfl
 ·split
  ·rfl
  ·rfl
theorem row_all : ((List.range 17).all fun k => [8, 16, 32, 64].all fun w => decide (k = 0) || rightB ⟨[64], w, (List.range (3 * k)).map (rowZ w), 3 * (k : Int) + 1⟩) = true := by kernel_rfl

section
variable {w base : Int} {k : Nat}
theorem row_right (hw : w = 8 ∨ w = 16 ∨ w = 32 ∨ w = 64) (hk : 1 ≤ k ∧ k ≤ 16) : (rowF w base k).Right := by
 have hcase : ∀ o ∈ (rowF w base k).ops, o.cutB ∧ 0 ≤ o.imm ∧ o.imm < 18446744073709551616 := by
  intro o ho
  simp only [rowF, List.mem_map, List.mem_range] at ho
  obtain ⟨n, hn, rfl⟩ := ho
  unfold rowO
  split
  ·have : 0 ≤ rowI w base (n / 3) ∧ rowI w base (n / 3) < 18446744073709551616 := by unfold rowI; rw [u64_wrap]; omega
   exact ⟨fun _ => by simp [cutU], this⟩
  ·split
   ·exact ⟨fun h => by simp at h, by simp⟩
   ·exact ⟨fun h => by simp at h, by simp⟩
 refine right_of_zero ?_ (fun o ho => (hcase o ho).1) (fun o ho => (hcase o ho).2)
 have := row_all
 rw [List.all_eq_true] at this
 have := this k (by simp; omega)
 rw [List.all_eq_true] at this
 have := this w (by simp; exact hw)
 rw [Bool.or_eq_true, decide_eq_true_eq] at this
 rcases this with h | h
 ·omega
 ·have e : (rowF w base k).zero = ⟨[64], w, (List.range (3 * k)).map (rowZ w), 3 * (k : Int) + 1⟩ := by
   simp only [Straight.zero, rowF, List.map_map]
   congr 2
   funext n
   exact rowO_zero w base n
  rw [e]; exact h
theorem rowO_dst (n : Nat) : (rowO w base n).dst = (n : Int) + 2 := by
 unfold rowO; split
 ·rfl
 ·split <;> rfl
theorem opM_places {l : List OpD} {c : Int} (hd : ∀ (m : Nat) (hm : m < l.length), l[m].dst = (m : Int) + c) : ∀ (m : Nat), m ≤ l.length → ∀ v : Int, opM l m v = if c ≤ v ∧ v < (m : Int) + c then l[(v - c).toNat]? else none
 | 0, _, v => by simp only [opM]; rw [if_neg (by omega)]
 | m + 1, hm, v => by
  have hm' : m < l.length := by omega
  simp only [opM, List.getElem?_eq_getElem hm', hd m hm']
  by_cases hv : v = (m : Int) + c
  ·subst hv
   rw [if_pos rfl, if_pos (by omega)]
   have : ((m : Int) + c - c).toNat = m := by omega
   rw [this, List.getElem?_eq_getElem hm']
  ·rw [if_neg hv, opM_places hd m (by omega)]
   by_cases hr : c ≤ v ∧ v < (m : Int) + c
   ·rw [if_pos hr, if_pos (by omega)]
   ·rw [if_neg hr, if_neg (by omega)]
theorem row_O (n : Nat) (hn : n < 3 * k) : (rowF w base k).O ((n : Int) + 2) = some (rowO w base n) := by
 have hlen : (rowF w base k).ops.length = 3 * k := by simp [rowF]
 show opM (rowF w base k).ops (rowF w base k).ops.length ((n : Int) + 2) = _
 rw [opM_places (c := 2) (fun m hm => by simp [rowF, rowO_dst]) _ (Nat.le_refl _)]
 rw [if_pos (by omega)]
 have : ((n : Int) + 2 - 2).toNat = n := by omega
 rw [this]
 simp [rowF, hn]
theorem row_O1 : (rowF w base k).O 1 = none := by
 show opM (rowF w base k).ops (rowF w base k).ops.length 1 = _
 rw [opM_places (c := 2) (fun m hm => by simp [rowF, rowO_dst]) _ (Nat.le_refl _)]
 rw [if_neg (by omega)]
def rowG (w base : Int) (v : Int) : FormD := ([(1, 1)], rowI w base ((v - 3) / 3).toNat)
theorem rowI_range (i : Nat) : 0 ≤ rowI w base i ∧ rowI w base i < 18446744073709551616 := by unfold rowI; rw [u64_wrap]; omega
theorem v_plus1 {n : Int} (hn : 0 ≤ n ∧ n < 18446744073709551616) : plusM [(1, 1)] [] 0 n = ([(1, 1)], n) := by
 unfold plusM
 rw [if_pos ⟨may_1 _ _ (by omega), rfl⟩, both_l]
 unfold addU
 rw [u64_wrap, u64_wrap]
 have : (0 + n) % 18446744073709551616 = n := by omega
 rw [this]
 rfl
theorem row_form (i : Nat) (hi : i < k) : FormOf (rowF w base k).O (3 * (i : Int) + 3) (rowG w base (3 * (i : Int) + 3)) := by
 have f1 : FormOf (rowF w base k).O 1 ([(1, 1)], 0) := .none row_O1
 have o2 := row_O (w := w) (base := base) (k := k) (3 * i) (by omega)
 have o3 := row_O (w := w) (base := base) (k := k) (3 * i + 1) (by omega)
 have r2 : rowO w base (3 * i) = ⟨0, 64, 1, ((3 * i : Nat) : Int) + 2, [], rowI w base i⟩ := by
  unfold rowO; rw [if_pos (by omega)]
  have : 3 * i / 3 = i := by omega
  rw [this]
 have r3 : rowO w base (3 * i + 1) = ⟨1, 64, 1, ((3 * i + 1 : Nat) : Int) + 2, [1, ((3 * i + 1 : Nat) : Int) + 1], 0⟩ := by
  unfold rowO; rw [if_neg (by omega), if_pos (by omega)]
 have f2 : FormOf (rowF w base k).O (((3 * i : Nat) : Int) + 2) ([], rowI w base i) := by
  have := FormOf.const o2 (by rw [r2]) (by rw [r2]) (by rw [r2])
  rw [r2] at this
  exact this
 have hv : ((3 * i + 1 : Nat) : Int) + 1 = ((3 * i : Nat) : Int) + 2 := by omega
 have f := FormOf.two (a := 1) (b := ((3 * i + 1 : Nat) : Int) + 1) (rest := []) o3 (by rw [r3]) (by rw [r3]) (by rw [r3]; simp) (by rw [r3]; simp) (by rw [r3]) f1 (by rw [hv]; exact f2)
 rw [r3] at f
 have c : ∀ v, capF v (twoF 1 ([(1, 1)], 0) ([], rowI w base i)) = ([(1, 1)], rowI w base i) := fun v => by
  unfold twoF; rw [if_pos rfl]
  simp only [v_plus1 (rowI_range (w := w) (base := base) i)]
  rfl
 rw [c] at f
 have e1 : ((3 * i + 1 : Nat) : Int) + 2 = 3 * (i : Int) + 3 := by omega
 rw [e1] at f
 have e2 : rowG w base (3 * (i : Int) + 3) = ([(1, 1)], rowI w base i) := by
  unfold rowG
  have : ((3 * (i : Int) + 3 - 3) / 3).toNat = i := by omega
  rw [this]
 rw [e2]
 exact f
theorem row_known (hw : w = 8 ∨ w = 16 ∨ w = 32 ∨ w = 64) (hk : 1 ≤ k ∧ k ≤ 16) : Known (rowF w base k).f true (rowG w base) := by
 refine knownS (row_right hw hk) ?_ (fun v => by simp [rowG]) ?_
 ·intro o ho
  simp only [rowF, List.mem_map, List.mem_range] at ho
  obtain ⟨n, hn, rfl⟩ := ho
  unfold rowO
  split
  ·exact (rowI_range _).1
  ·split <;> simp
 ·intro o ho ht v hv
  simp only [rowF, List.mem_map, List.mem_range] at ho
  obtain ⟨n, hn, rfl⟩ := ho
  unfold rowO at ht hv
  split at ht
  ·simp [touchM] at ht
  ·rename_i h0
   split at ht
   ·simp [touchM] at ht
   ·rename_i h1
    rw [if_neg h0, if_neg h1] at hv
    have hv : v = (n : Int) + 1 := by simpa [touchM] using hv.symm
    have f := row_form (w := w) (base := base) (k := k) (n / 3) (by omega)
    have e : 3 * ((n / 3 : Nat) : Int) + 3 = v := by omega
    rw [e] at f
    exact f
theorem row_addr (i : Nat) (hi : i < k) (hw : w = 8 ∨ w = 16 ∨ w = 32 ∨ w = 64) : addrF (rowF w base k).f true 0 (3 * (i : Int) + 2) = some (3 * (i : Int) + 3, w / 8) := by
 have hb : blockAt (rowF w base k).f 0 = some (rowF w base k).b := rfl
 have ho : opAt (rowF w base k).b (3 * (i : Int) + 2) = some (rowO w base (3 * i + 2)) := by
  unfold opAt
  rw [if_pos (by omega)]
  have : (3 * (i : Int) + 2).toNat = 3 * i + 2 := by omega
  rw [this]
  show (rowF w base k).ops[3 * i + 2]? = _
  have : 3 * i + 2 < 3 * k := by omega
  simp [rowF, this]
 have r : rowO w base (3 * i + 2) = ⟨16, w, 1, ((3 * i + 2 : Nat) : Int) + 2, [((3 * i + 2 : Nat) : Int) + 1], 0⟩ := by
  unfold rowO; rw [if_neg (by omega), if_neg (by omega)]
 simp only [addrF, hb, if_true, ho, r, addrO]
 rw [if_pos (by simp [touchM])]
 have hl : lenM ⟨16, w, 1, ((3 * i + 2 : Nat) : Int) + 2, [((3 * i + 2 : Nat) : Int) + 1], 0⟩ = w / 8 := by
  rcases hw with rfl | rfl | rfl | rfl <;> rfl
 rw [hl]
 simp [touchM]
 omega
theorem row_dist (i j : Nat) (hi : i < k) (hj : j < k) (hw : w = 8 ∨ w = 16 ∨ w = 32 ∨ w = 64) :
  distF (rowF w base k).f true (rowG w base) 0 (3 * (i : Int) + 2) (3 * (j : Int) + 2) = some (IntKind.u64.wrap (((j : Int) - i) * w / 8), w / 8, w / 8) := by
 have wb : IntKind.u64.wrap (w / 8) = w / 8 := by rw [u64_wrap]; omega
 simp only [distF, row_addr i hi hw, row_addr j hj hw, rowG, if_true, wb]
 have h1 : ((3 * (i : Int) + 3 - 3) / 3).toNat = i := by omega
 have h2 : ((3 * (j : Int) + 3 - 3) / 3).toNat = j := by omega
 rw [h1, h2]
 simp only [subU, rowI, u64_wrap]
 refine congrArg some (Prod.ext ?_ rfl)
 show _ = _
 rcases hw with rfl | rfl | rfl | rfl <;> (simp only []; omega)
end

end Go.Proofs.YtpbngohpklpalaaGreat

/- The law of a row of loads: it answers true. -/
namespace Go.Proofs.YtpbngohpklpalaaGreat
open Go.LS Go.IntWalk
theorem okSize_op (l : List OpD) : okSize 6 (l.map OpD.c) = true := by cases l <;> simp [okSize, OpD.c]
def rowC (w base : Int) (n : Nat) : List V :=
 if n % 3 = 0 then [.int .i64 0, .int .i64 64, .int .i64 1, .int .i64 ((n : Int) + 2), .lst .nil [], .int .u64 (rowI w base (n / 3))]
 else if n % 3 = 1 then [.int .i64 1, .int .i64 64, .int .i64 1, .int .i64 ((n : Int) + 2), .lst .exact [[.int .i64 1], [.int .i64 ((n : Int) + 1)]], .int .u64 0]
 else [.int .i64 16, .int .i64 w, .int .i64 1, .int .i64 ((n : Int) + 2), .lst .exact [[.int .i64 ((n : Int) + 1)]], .int .u64 0]
def rowL (w base : Int) (n : Nat) : List (List V) := (List.range n).map (rowC w base)
theorem rowL_succ (w base : Int) (n : Nat) : rowL w base (n + 1) = rowL w base n ++ [rowC w base n] := by simp [rowL, List.range_succ]
theorem rowC_len (w base : Int) (n : Nat) : (rowC w base n).length = 6 := by
 unfold rowC; split
 ·rfl
 ·split <;> rfl
theorem okSize_rowL (w base : Int) (n : Nat) : okSize 6 (rowL w base n) = true := by
 unfold rowL
 cases h : (List.range n).map (rowC w base) with
 | nil => rfl
 | cons a l =>
  have : a ∈ (List.range n).map (rowC w base) := by rw [h]; simp
  simp only [List.mem_map] at this
  obtain ⟨m, _, rfl⟩ := this
  simp [okSize, rowC_len]
theorem rowC_retag (w base : Int) (n : Nat) : V.retagL (rowC w base n) = (rowO w base n).c := by
 unfold rowC rowO
 split
 ·rfl
 ·split <;> rfl
theorem rowL_retag (w base : Int) (k : Nat) : V.retagLL (rowL w base (3 * k)) = (rowF w base k).ops.map OpD.c := by
 rw [V.retagLL_map]
 simp only [rowL, rowF, List.map_map]
 congr 1
 funext n
 have := rowC_retag w base n
 rw [V.retagL_map] at this
 exact this

section
variable {w base : Int}
theorem row_build (hw : w = 8 ∨ w = 16 ∨ w = 32 ∨ w = 64) (hb : 0 ≤ base ∧ base < 18446744073709551616) {h0 : LS.Heap} {k : Nat} (hk : k ≤ 16) (i : Nat) (hi : i < k) (s : St) (t2 : s.t 2 = .int .u64 base) (t7 : s.t 7 = .int .i64 k) (t8 : s.t 8 = .int .i64 w) (t11 : s.t 11 = .int .i64 i)
  (ac : Acc 6 h0 s.h (s.t 9) (rowL w base (3 * i))) (hx : HExt h0 s.h) {Q : AExit → St → Prop}
  (hQ : ∀ s' : St, s'.t 2 = .int .u64 base → s'.t 7 = .int .i64 k → s'.t 8 = .int .i64 w → s'.t 11 = .int .i64 ((i + 1 : Nat) : Int) → s'.t 10 = .int .i64 (3 * (i : Int) + 4) → Acc 6 h0 s'.h (s'.t 9) (rowL w base (3 * (i + 1))) → HExt h0 s'.h → s'.loc = s.loc → Q .normal s') :
  W T (.seq (.seq (.ops r5_8) (.cond (.t 32) (.skip) (.exit 0))) (.seq (.block 1 (.seq (.ops r5_10) (.seq (.ops r5_11) (.seq (.ops r5_12) (.ops r5_13))))) (.ops r5_9))) s Q := by
 obtain ⟨t, loc, h⟩ := s
 simp only at t2 t7 t8 t11 ac hx hQ
 have hl1 : ((i : Int) < k) := by omega
 have hw1 := i64_succ (show i < 2 ^ 62 by omega)
 have m3 : IntKind.i64.wrap (3 * (i : Int)) = 3 * (i : Int) := i64_in _ (by omega)
 have m32 : IntKind.i64.wrap (2 + 3 * (i : Int)) = 2 + 3 * (i : Int) := i64_in _ (by omega)
 have m33 : IntKind.i64.wrap (3 + 3 * (i : Int)) = 3 + 3 * (i : Int) := i64_in _ (by omega)
 have m34 : IntKind.i64.wrap (4 + 3 * (i : Int)) = 4 + 3 * (i : Int) := i64_in _ (by omega)
 have hiw : IntKind.i64.wrap ((i : Int) * w) = (i : Int) * w := i64_in _ (by rcases hw with rfl | rfl | rfl | rfl <;> omega)
 have htd : ((i : Int) * w).tdiv 8 = (i : Int) * w / 8 := Int.tdiv_eq_ediv_of_nonneg (by rcases hw with rfl | rfl | rfl | rfl <;> omega)
 have hq : IntKind.i64.wrap ((i : Int) * w / 8) = (i : Int) * w / 8 := i64_in _ (by rcases hw with rfl | rfl | rfl | rfl <;> omega)
 have hqu : IntKind.u64.wrap ((i : Int) * w / 8) = (i : Int) * w / 8 := by rw [u64_wrap]; rcases hw with rfl | rfl | rfl | rfl <;> omega
 have hlen : ∀ n, (rowL w base n).length = n := fun n => by simp [rowL]
 obtain ⟨v1, h1, e1, a1, x1⟩ := ac.append hx (m := [rowC w base (3 * i)]) (tg := .exact) (by simp) (by simp [okSize, rowC_len]) (okSize_rowL _ _ _) (bytes := 64) (by rw [hlen]; simp; omega)
 rw [← rowL_succ] at a1
 obtain ⟨v2, h2, e2, a2, x2⟩ := a1.append x1 (m := [rowC w base (3 * i + 1)]) (tg := .exact) (by simp) (by simp [okSize, rowC_len]) (okSize_rowL _ _ _) (bytes := 64) (by rw [hlen]; simp; omega)
 rw [← rowL_succ] at a2
 obtain ⟨v3, h3, e3, a3, x3⟩ := a2.append x2 (m := [rowC w base (3 * i + 2)]) (tg := .exact) (by simp) (by simp [okSize, rowC_len]) (okSize_rowL _ _ _) (bytes := 64) (by rw [hlen]; simp; omega)
 rw [← rowL_succ] at a3
 have c1 : rowC w base (3 * i) = [.int .i64 0, .int .i64 64, .int .i64 1, .int .i64 (2 + 3 * (i : Int)), .lst .nil [], .int .u64 (IntKind.u64.wrap (base + (i : Int) * w / 8))] := by
  unfold rowC; rw [if_pos (by omega)]
  have a : 3 * i / 3 = i := by omega
  have b : ((3 * i : Nat) : Int) + 2 = 2 + 3 * (i : Int) := by omega
  rw [a, b]; rfl
 have c2 : rowC w base (3 * i + 1) = [.int .i64 1, .int .i64 64, .int .i64 1, .int .i64 (3 + 3 * (i : Int)), .lst .exact [[.int .i64 1], [.int .i64 (2 + 3 * (i : Int))]], .int .u64 0] := by
  unfold rowC; rw [if_neg (by omega), if_pos (by omega)]
  have b : ((3 * i + 1 : Nat) : Int) + 2 = 3 + 3 * (i : Int) := by omega
  have b' : ((3 * i + 1 : Nat) : Int) + 1 = 2 + 3 * (i : Int) := by omega
  rw [b, b']
 have c3 : rowC w base (3 * i + 2) = [.int .i64 16, .int .i64 w, .int .i64 1, .int .i64 (4 + 3 * (i : Int)), .lst .exact [[.int .i64 (3 + 3 * (i : Int))]], .int .u64 0] := by
  unfold rowC; rw [if_neg (by omega), if_neg (by omega)]
  have b : ((3 * i + 2 : Nat) : Int) + 2 = 4 + 3 * (i : Int) := by omega
  have b' : ((3 * i + 2 : Nat) : Int) + 1 = 3 + 3 * (i : Int) := by omega
  rw [b, b']
 have h33 : 3 * i + 1 + 1 + 1 = 3 * (i + 1) := by omega
 rw [h33] at a3
 rw [c1] at e1
 rw [c2] at e2
 rw [c3] at e3
 repeat' (first | refine W_seq ?_ | refine W_skip ?_ | refine W_block ?_ | refine W_ret ?_ | refine W_exit ?_ | refine W_ops (s1 := ?_) (by simp [t2, t7, t8, t11, hl1, hw1, m3, m32, m33, m34, hiw, htd, hq, hqu, e1, e2, e3]; exact rfl) ?_ | refine W_tops (s1 := ?_) (by simp [t2, t7, t8, t11, hl1, hw1, m3, m32, m33, m34, hiw, htd, hq, hqu, e1, e2, e3]; exact rfl) ?_ | refine W_cond_t (by first | (simp [t2, t7, t8, t11, hl1, hw1, m3, m32, m33, m34, hiw, htd, hq, hqu, e1, e2, e3]; done) | fail) ?_ | refine W_cond_f (by first | (simp [t2, t7, t8, t11, hl1, hw1, m3, m32, m33, m34, hiw, htd, hq, hqu, e1, e2, e3]; done) | fail) ?_ | fail)
 exact hQ _ (by simp [t2]) (by simp [t7]) (by simp [t8]) (by simp) (by simp; omega) (by simpa using a3) (by simpa using x3) rfl
theorem row_isTouch {k n : Nat} (hn : n < 3 * k) : isTouch (rowF w base k).ops n = decide (n % 3 = 2) := by
 have : (rowF w base k).ops[n]? = some (rowO w base n) := by simp [rowF, hn]
 simp only [isTouch, this]
 unfold rowO
 split
 ·simp [touchM]; omega
 ·split
  ·simp [touchM]; omega
  ·simp [touchM]; omega
theorem row_touches {k : Nat} : ∀ m, m ≤ k → touchP (rowF w base k).ops (3 * m) = (List.range m).map (fun i => 3 * i + 2)
 | 0, _ => rfl
 | m + 1, hm => by
  have e : 3 * (m + 1) = 3 * m + 1 + 1 + 1 := by omega
  rw [e, touchP_succ, touchP_succ, touchP_succ, row_isTouch (by omega), row_isTouch (by omega), row_isTouch (by omega), row_touches m (by omega), List.range_succ, List.map_append]
  have a1 : ¬ (3 * m) % 3 = 2 := by omega
  have a2 : ¬ (3 * m + 1) % 3 = 2 := by omega
  have a3 : (3 * m + 1 + 1) % 3 = 2 := by omega
  simp [a1, a2, a3]
theorem row_apart (i j : Nat) {k : Nat} (hi : i < k) (hj : j < k) (hk : k ≤ 16) (hw : w = 8 ∨ w = 16 ∨ w = 32 ∨ w = 64) : apartF (rowF w base k).f true (rowG w base) 0 (3 * (i : Int) + 2) (3 * (j : Int) + 2) = decide (¬ i = j) := by
 simp only [apartF, row_dist i j hi hj hw, u64_wrap]
 rw [← Bool.decide_and, decide_eq_decide]
 rcases hw with rfl | rfl | rfl | rfl <;> omega
theorem row_follows (i j : Nat) {k : Nat} (hi : i < k) (hj : j < k) (hk : k ≤ 16) (hw : w = 8 ∨ w = 16 ∨ w = 32 ∨ w = 64) : followsF (rowF w base k).f true (rowG w base) 0 (3 * (i : Int) + 2) (3 * (j : Int) + 2) = decide ((j : Int) = (i : Int) + 1) := by
 simp only [followsF, row_dist i j hi hj hw, u64_wrap]
 rw [decide_eq_decide]
 rcases hw with rfl | rfl | rfl | rfl <;> omega
theorem row_inner (hw : w = 8 ∨ w = 16 ∨ w = 32 ∨ w = 64) {k : Nat} (hk : 1 ≤ k ∧ k ≤ 16) {r1 r2 r3 : V} (hr : V.retagL [r1, r2, r3] = (rowF w base k).f.c) (i j : Nat) (hi : i < k) (hj : j < k) (s : St) (t7 : s.t 7 = .int .i64 k) (t8 : s.t 8 = .int .i64 w) (t12 : s.t 12 = .loc 12 0 0)
  (l12 : s.loc 12 = some (0, [r1, r2, r3])) (t13 : s.t 13 = .lst .ro (((List.range k).map (fun i => 3 * i + 2)).map natC)) (t14 : s.t 14 = .int .i64 i) (t15 : s.t 15 = .int .i64 j) {Q : AExit → St → Prop}
  (hQ : ∀ s' : St, s'.t 7 = .int .i64 k → s'.t 8 = .int .i64 w → s'.t 12 = .loc 12 0 0 → s'.loc = s.loc → s'.t 13 = s.t 13 → s'.t 14 = .int .i64 i → s'.t 15 = .int .i64 ((j + 1 : Nat) : Int) → s'.h = s.h → Q .normal s') :
  W T (.seq (.seq (.ops r5_22) (.cond (.t 96) (.skip) (.exit 4))) (.seq (.block 5 (.seq (.tops r5_24 p5_24) (.seq (.tops r5_25 p5_25) (.cond (.t 157) (.seq (.ops r5_26) (.ret)) (.skip))))) (.ops r5_23))) s Q := by
 obtain ⟨t, loc, h⟩ := s
 simp only at t7 t8 t12 l12 t13 t14 t15 hQ
 have K := row_known (w := w) (base := base) hw hk
 have d1 := (raw_call t24 rfl rfl hr (rest := [.int .i64 0, .int .i64 (3 * (i : Int) + 2), .int .i64 (3 * (j : Int) + 2)]) rfl h).trans (Distance_run K 0 _ _ h)
 have d2 := (raw_call t28 rfl rfl hr (rest := [.int .i64 0, .int .i64 (3 * (i : Int) + 2), .int .i64 (3 * (j : Int) + 2)]) rfl h).trans (Follows_run K 0 _ _ h)
 have d3 := (raw_call t26 rfl rfl hr (rest := [.int .i64 0, .int .i64 (3 * (i : Int) + 2), .int .i64 (3 * (j : Int) + 2)]) rfl h).trans (Apart_run K 0 _ _ h)
 rw [row_dist i j hi hj hw] at d1
 rw [row_follows i j hi hj hk.2 hw] at d2
 rw [row_apart i j hi hj hk.2 hw] at d3
 simp only [] at d1
 have g1 : (((List.range k).map (fun i => 3 * i + 2)).map natC)[i]? = some [.int .i64 (3 * (i : Int) + 2)] := by simp [natC, hi]
 have g2 : (((List.range k).map (fun i => 3 * i + 2)).map natC)[j]? = some [.int .i64 (3 * (j : Int) + 2)] := by simp [natC, hj]
 generalize ((List.range k).map (fun i => 3 * i + 2)).map natC = L at g1 g2 t13 hQ
 have hl1 : ((j : Int) < k) := by omega
 have hw1 := i64_succ (show j < 2 ^ 62 by omega)
 have hw2 : IntKind.i64.wrap ((i : Int) + 1) = (i : Int) + 1 := i64_in _ (by omega)
 have s1 : IntKind.i64.wrap ((j : Int) - i) = (j : Int) - i := i64_in _ (by omega)
 have s2 : IntKind.i64.wrap (((j : Int) - i) * w) = ((j : Int) - i) * w := i64_in _ (by rcases hw with rfl | rfl | rfl | rfl <;> omega)
 have s3 : (((j : Int) - i) * w).tdiv 8 = ((j : Int) - i) * w / 8 := by rw [Int.tdiv_eq_ediv]; rcases hw with rfl | rfl | rfl | rfl <;> (split <;> omega)
 have s4 : IntKind.i64.wrap (((j : Int) - i) * w / 8) = ((j : Int) - i) * w / 8 := i64_in _ (by rcases hw with rfl | rfl | rfl | rfl <;> omega)
 by_cases c1 : i = j
 ·subst c1
  simp only [Int.sub_self, Int.zero_mul, Int.zero_ediv] at d1
  have e0 : ¬ (i : Int) = (i : Int) + 1 := by omega
  rw [decide_eq_false e0] at d2
  have e1 : decide (¬ i = i) = false := by simp
  rw [e1] at d3
  have z1 : IntKind.i64.wrap 0 = 0 := rfl
  have z2 : IntKind.u64.wrap 0 = 0 := rfl
  repeat' (first | refine W_seq ?_ | refine W_skip ?_ | refine W_block ?_ | refine W_ret ?_ | refine W_exit ?_ | refine W_ops (s1 := ?_) (by simp [t7, t8, t12, l12, t13, t14, t15, hl1, g1, d1, d2, d3, hw2, z1, z2, e0]; exact rfl) ?_ | refine W_tops (s1 := ?_) (by simp [t7, t8, t12, l12, t13, t14, t15, hl1, g1, d1, d2, d3, hw2, z1, z2, e0]; exact rfl) ?_ | refine W_cond_t (by first | (simp [t7, t8, t12, l12, t13, t14, t15, hl1, g1, d1, d2, d3, hw2, z1, z2, e0]; done) | fail) ?_ | refine W_cond_f (by first | (simp [t7, t8, t12, l12, t13, t14, t15, hl1, g1, d1, d2, d3, hw2, z1, z2, e0]; done) | fail) ?_ | fail)
  exact hQ _ (by simp [t7]) (by simp [t8]) (by simp [t12]) rfl (by simp [t13]) (by simp [t14]) (by simp) rfl
 ·have c1' : ¬ (i : Int) = j := by omega
  repeat' (first | refine W_seq ?_ | refine W_skip ?_ | refine W_block ?_ | refine W_ret ?_ | refine W_exit ?_ | refine W_ops (s1 := ?_) (by simp [t7, t8, t12, l12, t13, t14, t15, hl1, g1, g2, d1, d2, d3, hw1, hw2, s1, s2, s3, s4, c1, c1']; exact rfl) ?_ | refine W_tops (s1 := ?_) (by simp [t7, t8, t12, l12, t13, t14, t15, hl1, g1, g2, d1, d2, d3, hw1, hw2, s1, s2, s3, s4, c1, c1']; exact rfl) ?_ | refine W_cond_t (by first | (simp [t7, t8, t12, l12, t13, t14, t15, hl1, g1, g2, d1, d2, d3, hw1, hw2, s1, s2, s3, s4, c1, c1']; done) | fail) ?_ | refine W_cond_f (by first | (simp [t7, t8, t12, l12, t13, t14, t15, hl1, g1, g2, d1, d2, d3, hw1, hw2, s1, s2, s3, s4, c1, c1']; done) | fail) ?_ | fail)
  exact hQ _ (by simp [t7]) (by simp [t8]) (by simp [t12]) rfl (by simp [t13]) (by simp [t14]) (by simp) rfl
end

end Go.Proofs.YtpbngohpklpalaaGreat

/- The law of a row of loads: it answers true. -/
namespace Go.Proofs.YtpbngohpklpalaaGreat
open Go.LS Go.IntWalk

section
variable {w base : Int}
theorem row_tail (hw : w = 8 ∨ w = 16 ∨ w = 32 ∨ w = 64) (hb : 0 ≤ base ∧ base < 18446744073709551616) {k : Nat} (hk : 1 ≤ k ∧ k ≤ 16) {h0 : LS.Heap} {Q : AExit → St → Prop} (hQ : ∀ s : St, s.t 6 = .bool true → HExt h0 s.h → Q .ret s)
  (s : St) (t2 : s.t 2 = .int .u64 base) (t7 : s.t 7 = .int .i64 k) (t8 : s.t 8 = .int .i64 w) (hh : s.h = h0) (hl : s.loc = fun _ => none) :
  W T (.seq (.ops r5_5) (.seq (.ops r5_6) (.seq (.seq (.ops r5_7) (.block 0 (.loop l5_0))) (.seq (.ops r5_14) (.seq (.ops r5_15)
   (.seq (.seq (.ops r5_16) (.cond (.t 88) (.seq (.ops r5_17) (.ret)) (.skip))) (.seq (.seq (.ops r5_18) (.block 2 (.loop l5_1))) (.seq (.ops r5_27) .ret)))))))) s Q := by
 obtain ⟨t, loc, h⟩ := s
 simp only at t2 t7 t8 hh hl
 subst hh hl
 repeat' (first | refine W_seq ?_ | refine W_skip ?_ | refine W_block ?_ | refine W_ret ?_ | refine W_exit ?_ | refine W_ops (s1 := ?_) (by simp [t2, t7, t8]; exact rfl) ?_ | refine W_tops (s1 := ?_) (by simp [t2, t7, t8]; exact rfl) ?_ | refine W_cond_t (by first | (simp [t2, t7, t8]; done) | fail) ?_ | refine W_cond_f (by first | (simp [t2, t7, t8]; done) | fail) ?_ | fail)
 refine W_for' l5_0.eq_1 (n := k) (fun i s => s.t 2 = .int .u64 base ∧ s.t 7 = .int .i64 k ∧ s.t 8 = .int .i64 w ∧ s.t 11 = .int .i64 i ∧ (0 < i → s.t 10 = .int .i64 (3 * (i : Int) + 1)) ∧ s.loc = (fun _ => none) ∧ Acc 6 h s.h (s.t 9) (rowL w base (3 * i)) ∧ HExt h s.h)
  ⟨by simp [t2], by simp [t7], by simp [t8], by simp, fun h => absurd h (by omega), rfl, by simpa [rowL] using Acc.nil 6 h h, .refl _⟩ ?_ ?_
 ·rintro i s hi ⟨t2, t7, t8, t11, _, hl, ac, hx⟩
  refine row_build hw hb (h0 := h) (k := k) hk.2 i hi s t2 t7 t8 t11 ac hx (fun s' a1 a2 a3 a4 a5 a6 a7 a8 => .inl ⟨rfl, a1, a2, a3, a4, fun _ => a5.trans (by first | rfl | (congr 1; omega)), by rw [a8, hl], a6, a7⟩)
 ·clear t2 t7 t8
  rintro ⟨t, loc, h2⟩ ⟨t2, t7, t8, t11, t10, hl, ac, hx⟩
  simp only at t2 t7 t8 t11 t10 hl ac hx
  subst hl
  have t10 := t10 (by omega)
  obtain ⟨tg, hv⟩ := Acc.lst ac
  repeat' (first | refine W_seq ?_ | refine W_skip ?_ | refine W_block ?_ | refine W_ret ?_ | refine W_exit ?_ | refine W_ops (s1 := ?_) (by simp [t7, t11]; exact rfl) ?_ | refine W_tops (s1 := ?_) (by simp [t7, t11]; exact rfl) ?_ | refine W_cond_t (by first | (simp [t7, t11]; done) | fail) ?_ | refine W_cond_f (by first | (simp [t7, t11]; done) | fail) ?_ | fail)
  refine ⟨by simp, ?_⟩
  simp only [blockW, if_true, thenW]
  have hr : V.retagL [.lst .exact [[.int .i64 64]], .int .i64 w, .lst .exact [[.lst .nil [], .lst tg (rowL w base (3 * k)), .int .i64 0, .int .i64 (3 * (k : Int) + 1), .lst .nil []]]] = (rowF w base k).f.c := by
   simp only [V.retag, V.retagL, V.retagLL, rowL_retag]
   simp only [FuncD.c, Straight.f, Straight.b, BlockD.c, rowF, List.map_cons, List.map_nil, intC]
  have K := row_known (w := w) (base := base) hw hk
  have d1 := (raw_call t30 rfl rfl hr (rest := [.int .i64 0]) rfl h2).trans (Touches_run K 0 h2)
  have htl : touchesF (rowF w base k).f true 0 = (List.range k).map (fun i => 3 * i + 2) := by
   show touchP (rowF w base k).ops (rowF w base k).ops.length = _
   rw [show (rowF w base k).ops.length = 3 * k by simp [rowF]]
   exact row_touches k (Nat.le_refl _)
  rw [htl] at d1
  have hLl : ((((List.range k).map (fun i => 3 * i + 2)).map natC).length : Int) = k := by simp
  generalize hL : ((List.range k).map (fun i => 3 * i + 2)).map natC = L at d1 hLl
  repeat' (first | refine W_seq ?_ | refine W_skip ?_ | refine W_block ?_ | refine W_ret ?_ | refine W_exit ?_ | refine W_ops (s1 := ?_) (by simp [t2, t7, t8, hv, t10, nextVer, d1, hLl]; exact rfl) ?_ | refine W_tops (s1 := ?_) (by simp [t2, t7, t8, hv, t10, nextVer, d1, hLl]; exact rfl) ?_ | refine W_cond_t (by first | (simp [t2, t7, t8, hv, t10, nextVer, d1, hLl]; done) | fail) ?_ | refine W_cond_f (by first | (simp [t2, t7, t8, hv, t10, nextVer, d1, hLl]; done) | fail) ?_ | fail)
  refine W_for' l5_1.eq_1 (n := k) (fun i s => s.t 7 = .int .i64 k ∧ s.t 8 = .int .i64 w ∧ s.t 12 = .loc 12 0 0 ∧ s.loc 12 = some (0, [.lst .exact [[.int .i64 64]], .int .i64 w, .lst .exact [[.lst .nil [], .lst tg (rowL w base (3 * k)), .int .i64 0, .int .i64 (3 * (k : Int) + 1), .lst .nil []]]]) ∧ s.t 13 = .lst .ro L ∧ s.t 14 = .int .i64 i ∧ s.h = h2)
   ⟨by simp [t7], by simp [t8], by simp, by simp, by simp, by simp, rfl⟩ ?_ ?_
  ·rintro i ⟨t, loc, h'⟩ hi ⟨t7, t8, t12, l12, t13, t14, rfl⟩
   simp only at t7 t8 t12 l12 t13 t14
   have hl1 : ((i : Int) < k) := by omega
   have hw1 := i64_succ (show i < 2 ^ 62 by omega)
   repeat' (first | refine W_seq ?_ | refine W_skip ?_ | refine W_block ?_ | refine W_ret ?_ | refine W_exit ?_ | refine W_ops (s1 := ?_) (by simp [t7, t14, hl1]; exact rfl) ?_ | refine W_tops (s1 := ?_) (by simp [t7, t14, hl1]; exact rfl) ?_ | refine W_cond_t (by first | (simp [t7, t14, hl1]; done) | fail) ?_ | refine W_cond_f (by first | (simp [t7, t14, hl1]; done) | fail) ?_ | fail)
   refine W_for' l5_2.eq_1 (n := k) (fun j s => s.t 7 = .int .i64 k ∧ s.t 8 = .int .i64 w ∧ s.t 12 = .loc 12 0 0 ∧ s.loc = loc ∧ s.t 13 = .lst .ro L ∧ s.t 14 = .int .i64 i ∧ s.t 15 = .int .i64 j ∧ s.h = h')
    ⟨by simp [t7], by simp [t8], by simp [t12], rfl, by simp [t13], by simp [t14], by simp, rfl⟩ ?_ ?_
   ·rintro j s hj ⟨t7, t8, t12, hl, t13, t14, t15, hh⟩
    refine row_inner hw hk hr i j hi hj s t7 t8 t12 (by rw [hl]; exact l12) (by rw [t13, hL]) t14 t15 (fun s' a1 a2 a3 a4 a5 a6 a7 a8 => .inl ⟨rfl, a1, a2, a3, by rw [a4, hl], by rw [a5, t13], a6, a7, by rw [a8, hh]⟩)
   ·rintro ⟨t, loc', h''⟩ ⟨t7, t8, t12, rfl, t13, t14, t15, rfl⟩
    simp only at t7 t8 t12 t13 t14 t15
    repeat' (first | refine W_seq ?_ | refine W_skip ?_ | refine W_block ?_ | refine W_ret ?_ | refine W_exit ?_ | refine W_ops (s1 := ?_) (by simp [t7, t15]; exact rfl) ?_ | refine W_tops (s1 := ?_) (by simp [t7, t15]; exact rfl) ?_ | refine W_cond_t (by first | (simp [t7, t15]; done) | fail) ?_ | refine W_cond_f (by first | (simp [t7, t15]; done) | fail) ?_ | fail)
    refine ⟨by simp, ?_⟩
    simp only [blockW, if_true, thenW]
    repeat' (first | refine W_seq ?_ | refine W_skip ?_ | refine W_block ?_ | refine W_ret ?_ | refine W_exit ?_ | refine W_ops (s1 := ?_) (by simp [t14, hw1]; exact rfl) ?_ | refine W_tops (s1 := ?_) (by simp [t14, hw1]; exact rfl) ?_ | refine W_cond_t (by first | (simp [t14, hw1]; done) | fail) ?_ | refine W_cond_f (by first | (simp [t14, hw1]; done) | fail) ?_ | fail)
    exact .inl ⟨rfl, by simp [t7], by simp [t8], by simp [t12], l12, by simp [t13], by simp, rfl⟩
  ·rintro ⟨t, loc, h'⟩ ⟨t7, t8, t12, l12, t13, t14, rfl⟩
   simp only at t7 t8 t12 l12 t13 t14
   repeat' (first | refine W_seq ?_ | refine W_skip ?_ | refine W_block ?_ | refine W_ret ?_ | refine W_exit ?_ | refine W_ops (s1 := ?_) (by simp [t7, t14]; exact rfl) ?_ | refine W_tops (s1 := ?_) (by simp [t7, t14]; exact rfl) ?_ | refine W_cond_t (by first | (simp [t7, t14]; done) | fail) ?_ | refine W_cond_f (by first | (simp [t7, t14]; done) | fail) ?_ | fail)
   refine ⟨by simp, ?_⟩
   simp only [blockW, if_true, thenW]
   repeat' (first | refine W_seq ?_ | refine W_skip ?_ | refine W_block ?_ | refine W_ret ?_ | refine W_exit ?_ | refine W_ops (s1 := ?_) (by simp; exact rfl) ?_ | refine W_tops (s1 := ?_) (by simp; exact rfl) ?_ | refine W_cond_t (by first | (simp; done) | fail) ?_ | refine W_cond_f (by first | (simp; done) | fail) ?_ | fail)
   exact hQ _ (by simp) hx

end
theorem aliasRow_run (n bits base : Int) (hn : 0 ≤ n ∧ n < 256) (hbi : 0 ≤ bits ∧ bits < 256) (hb : 0 ≤ base ∧ base < 18446744073709551616) (h : LS.Heap) : callD T 5 [.int .u8 n, .int .u8 bits, .int .u64 base] h = some (.bool true, h) := by
 have e0 := awakeB_run h
 obtain ⟨k, hk⟩ : ∃ k : Nat, (k : Int) = 1 + n % 16 := ⟨(1 + n % 16).toNat, by omega⟩
 have hk16 : 1 ≤ k ∧ k ≤ 16 := by omega
 have hw : IntKind.i64.wrap n = n := i64_in _ (by omega)
 have hw2 : IntKind.i64.wrap bits = bits := i64_in _ (by omega)
 have hrem : n.tmod 16 = n % 16 := Int.tmod_eq_emod_of_nonneg hn.1
 have hrem2 : bits.tmod 4 = bits % 4 := Int.tmod_eq_emod_of_nonneg hbi.1
 have hwk : IntKind.i64.wrap (1 + n % 16) = k := by rw [hk]; exact i64_in _ (by omega)
 have hQ : ∀ s : St, s.t 6 = .bool true → HExt h s.h → (AExit.ret = .normal ∨ AExit.ret = .ret) ∧ ∃ vs, resV s a5.res = some vs ∧ (if a5.keepR = true then packV vs else (packV vs).retag) = .bool true ∧ (V.bool true).under h.next = true ∧ HExt h s.h :=
  fun s h6 hx => ⟨.inr rfl, [.bool true], by simp [a5, resV, resV1, h6], by simp [a5, packV], rfl, hx⟩
 have hb4 : bits % 4 = 0 ∨ bits % 4 = 1 ∨ bits % 4 = 2 ∨ bits % 4 = 3 := by omega
 refine W_call t5 rfl rfl (by simp) ?_
 show W T c5 _ _
 unfold c5
 refine W_seq (W_ops (s1 := ?_) (by simp only [r5_0]; simp [a5]; exact rfl) ?_)
 refine W_seq (W_seq (W_ops (s1 := ?_) (by simp only [r5_1]; simp [e0]; exact rfl) ?_))
 refine W_cond_f (by simp) (W_skip ?_)
 refine W_seq (W_ops (s1 := ?_) (by simp only [r5_3]; simp [hw, hrem, hwk]; exact rfl) ?_)
 rcases hb4 with hb4 | hb4 | hb4 | hb4
 ·refine W_seq (W_ops (s1 := ?_) (by simp only [r5_4]; simp [hw2, hrem2, hb4]; exact rfl) ?_)
  exact row_tail (w := 8) (base := base) (k := k) (by simp) hb hk16 hQ _ (by simp) (by simp) (by simp) rfl rfl
 ·refine W_seq (W_ops (s1 := ?_) (by simp only [r5_4]; simp [hw2, hrem2, hb4]; exact rfl) ?_)
  exact row_tail (w := 16) (base := base) (k := k) (by simp) hb hk16 hQ _ (by simp) (by simp) (by simp) rfl rfl
 ·refine W_seq (W_ops (s1 := ?_) (by simp only [r5_4]; simp [hw2, hrem2, hb4]; exact rfl) ?_)
  exact row_tail (w := 32) (base := base) (k := k) (by simp) hb hk16 hQ _ (by simp) (by simp) (by simp) rfl rfl
 ·refine W_seq (W_ops (s1 := ?_) (by simp only [r5_4]; simp [hw2, hrem2, hb4]; exact rfl) ?_)
  exact row_tail (w := 64) (base := base) (k := k) (by simp) hb hk16 hQ _ (by simp) (by simp) (by simp) rfl rfl

end Go.Proofs.YtpbngohpklpalaaGreat
