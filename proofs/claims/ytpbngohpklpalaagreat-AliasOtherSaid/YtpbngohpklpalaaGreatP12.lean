/- A part of the proof: an abstract machine for the program's code and what each of its functions comes to there. No conditions. -/
import Derived.Test.YtpbngohpklpalaaGreatP11

set_option linter.unusedSimpArgs false
set_option linter.unusedVariables false

/- Which places are apart: small parts. -/
namespace Go.Proofs.YtpbngohpklpalaaGreat
open Go.LS Go.IntWalk
def touchM (k : Int) : Int := if k = 16 ∨ k = 17 then 0 else if k = 18 ∨ k = 19 then 1 else -1
theorem touch_run (k : Int) (h : LS.Heap) : callD T 72 [.int .i64 k] h = some (.int .i64 (touchM k), h) := by
 refine W_call t72 rfl rfl (by simp) ?_
 show W T c72 _ _
 unfold c72
 by_cases c1 : k = 16
 ·skip
  repeat' (first | refine W_seq ?_ | refine W_skip ?_ | refine W_block ?_ | refine W_ret ?_ | refine W_exit ?_ | refine W_ops (s1 := ?_) (by simp [a72, c1]; exact rfl) ?_ | refine W_tops (s1 := ?_) (by simp [a72, c1]; exact rfl) ?_ | refine W_cond_t (by first | (simp [a72, c1]; done) | fail) ?_ | refine W_cond_f (by first | (simp [a72, c1]; done) | fail) ?_ | fail)
  exact ⟨.inr rfl, [.int .i64 0], by simp [a72, resV, resV1, touchM, c1], by simp [a72, packV, touchM, c1], by simp [V.under, V.underL, V.underLL, touchM, c1], by first | exact .refl _ | (simp; exact .refl _) | (simp; assumption) | assumption⟩
 by_cases c2 : k = 17
 ·skip
  repeat' (first | refine W_seq ?_ | refine W_skip ?_ | refine W_block ?_ | refine W_ret ?_ | refine W_exit ?_ | refine W_ops (s1 := ?_) (by simp [a72, c1, c2]; exact rfl) ?_ | refine W_tops (s1 := ?_) (by simp [a72, c1, c2]; exact rfl) ?_ | refine W_cond_t (by first | (simp [a72, c1, c2]; done) | fail) ?_ | refine W_cond_f (by first | (simp [a72, c1, c2]; done) | fail) ?_ | fail)
  exact ⟨.inr rfl, [.int .i64 0], by simp [a72, resV, resV1, touchM, c2], by simp [a72, packV, touchM, c2], by simp [V.under, V.underL, V.underLL, touchM, c2], by first | exact .refl _ | (simp; exact .refl _) | (simp; assumption) | assumption⟩
 by_cases c3 : k = 18
 ·skip
  repeat' (first | refine W_seq ?_ | refine W_skip ?_ | refine W_block ?_ | refine W_ret ?_ | refine W_exit ?_ | refine W_ops (s1 := ?_) (by simp [a72, c1, c2, c3]; exact rfl) ?_ | refine W_tops (s1 := ?_) (by simp [a72, c1, c2, c3]; exact rfl) ?_ | refine W_cond_t (by first | (simp [a72, c1, c2, c3]; done) | fail) ?_ | refine W_cond_f (by first | (simp [a72, c1, c2, c3]; done) | fail) ?_ | fail)
  exact ⟨.inr rfl, [.int .i64 1], by simp [a72, resV, resV1, touchM, c3], by simp [a72, packV, touchM, c3], by simp [V.under, V.underL, V.underLL, touchM, c3], by first | exact .refl _ | (simp; exact .refl _) | (simp; assumption) | assumption⟩
 by_cases c4 : k = 19
 ·skip
  repeat' (first | refine W_seq ?_ | refine W_skip ?_ | refine W_block ?_ | refine W_ret ?_ | refine W_exit ?_ | refine W_ops (s1 := ?_) (by simp [a72, c1, c2, c3, c4]; exact rfl) ?_ | refine W_tops (s1 := ?_) (by simp [a72, c1, c2, c3, c4]; exact rfl) ?_ | refine W_cond_t (by first | (simp [a72, c1, c2, c3, c4]; done) | fail) ?_ | refine W_cond_f (by first | (simp [a72, c1, c2, c3, c4]; done) | fail) ?_ | fail)
  exact ⟨.inr rfl, [.int .i64 1], by simp [a72, resV, resV1, touchM, c4], by simp [a72, packV, touchM, c4], by simp [V.under, V.underL, V.underLL, touchM, c4], by first | exact .refl _ | (simp; exact .refl _) | (simp; assumption) | assumption⟩
 repeat' (first | refine W_seq ?_ | refine W_skip ?_ | refine W_block ?_ | refine W_ret ?_ | refine W_exit ?_ | refine W_ops (s1 := ?_) (by simp [a72, c1, c2, c3, c4]; exact rfl) ?_ | refine W_tops (s1 := ?_) (by simp [a72, c1, c2, c3, c4]; exact rfl) ?_ | refine W_cond_t (by first | (simp [a72, c1, c2, c3, c4]; done) | fail) ?_ | refine W_cond_f (by first | (simp [a72, c1, c2, c3, c4]; done) | fail) ?_ | fail)
 exact ⟨.inr rfl, [.int .i64 (-1)], by simp [a72, resV, resV1, touchM, c1, c2, c3, c4], by simp [a72, packV, touchM, c1, c2, c3, c4], by simp [V.under, V.underL, V.underLL, touchM, c1, c2, c3, c4], by first | exact .refl _ | (simp; exact .refl _) | (simp; assumption) | assumption⟩
structure Known (f : FuncD) (ok : Bool) (F : Int → FormD) : Prop where
 fit : f.Fit
 check : ∀ h, ∃ e, callD T 96 [.agg f.c, .int .i64 2] h = some (.int .i64 e, h) ∧ (e = 0 ↔ ok = true)
 form : ok = true → ∀ b ∈ f.blocks, ∀ o ∈ b.ops, 0 ≤ touchM o.kind → ∀ v, o.args[(touchM o.kind).toNat]? = some v → ∀ h, ∃ e, callD T 17 [.agg f.c, .int .i64 v] h = some (.tup [formV (F v), .int .i64 e], h)
 short : ∀ v, (F v).1.length < 2 ^ 40
 args : ok = true → ∀ b ∈ f.blocks, ∀ o ∈ b.ops, 0 ≤ touchM o.kind → (touchM o.kind).toNat < o.args.length
def blockIn (f : FuncD) (b : Int) : Bool := decide (0 ≤ b) && decide (b < f.blocks.length)
variable {f : FuncD} {ok : Bool} {F : Int → FormD}
theorem aright_run (K : Known f ok F) (b : Int) (h : LS.Heap) : callD T 63 [.agg f.c, .int .i64 b] h = some (.bool (blockIn f b && ok), h) := by
 obtain ⟨e, he, hz⟩ := K.check h
 have hfc : f.c = [.lst .ro (f.params.map intC), .int .i64 f.ret, .lst .ro (f.blocks.map BlockD.c)] := rfl
 rw [hfc] at he
 refine W_call t63 rfl rfl (by simp) ?_
 show W T c63 _ _
 unfold c63
 by_cases c1 : 0 ≤ b
 ·by_cases c2 : b < f.blocks.length
  ·skip
   repeat' (first | refine W_seq ?_ | refine W_skip ?_ | refine W_block ?_ | refine W_ret ?_ | refine W_exit ?_ | refine W_ops (s1 := ?_) (by simp [a63, nextVer, hfc, c1, c2, he]; exact rfl) ?_ | refine W_tops (s1 := ?_) (by simp [a63, nextVer, hfc, c1, c2, he]; exact rfl) ?_ | refine W_cond_t (by first | (simp [a63, nextVer, hfc, c1, c2, he]; done) | fail) ?_ | refine W_cond_f (by first | (simp [a63, nextVer, hfc, c1, c2, he]; done) | fail) ?_ | fail)
   exact ⟨.inr rfl, [.bool (decide (e = 0))], by simp [a63, resV, resV1, blockIn, c1, c2, hz], by simp [a63, packV, blockIn, c1, c2, hz], by simp [V.under, V.underL, V.underLL, blockIn, c1, c2, hz], by first | exact .refl _ | (simp; exact .refl _) | (simp; assumption) | assumption⟩
  ·skip
   repeat' (first | refine W_seq ?_ | refine W_skip ?_ | refine W_block ?_ | refine W_ret ?_ | refine W_exit ?_ | refine W_ops (s1 := ?_) (by simp [a63, nextVer, hfc, c1, c2]; exact rfl) ?_ | refine W_tops (s1 := ?_) (by simp [a63, nextVer, hfc, c1, c2]; exact rfl) ?_ | refine W_cond_t (by first | (simp [a63, nextVer, hfc, c1, c2]; done) | fail) ?_ | refine W_cond_f (by first | (simp [a63, nextVer, hfc, c1, c2]; done) | fail) ?_ | fail)
   exact ⟨.inr rfl, [.bool false], by simp [a63, resV, resV1, blockIn, c1, c2], by simp [a63, packV, blockIn, c1, c2], by simp [V.under, V.underL, V.underLL, blockIn, c1, c2], by first | exact .refl _ | (simp; exact .refl _) | (simp; assumption) | assumption⟩
 ·skip
  repeat' (first | refine W_seq ?_ | refine W_skip ?_ | refine W_block ?_ | refine W_ret ?_ | refine W_exit ?_ | refine W_ops (s1 := ?_) (by simp [a63, nextVer, hfc, c1]; exact rfl) ?_ | refine W_tops (s1 := ?_) (by simp [a63, nextVer, hfc, c1]; exact rfl) ?_ | refine W_cond_t (by first | (simp [a63, nextVer, hfc, c1]; done) | fail) ?_ | refine W_cond_f (by first | (simp [a63, nextVer, hfc, c1]; done) | fail) ?_ | fail)
  exact ⟨.inr rfl, [.bool false], by simp [a63, resV, resV1, blockIn, c1], by simp [a63, packV, blockIn, c1], by simp [V.under, V.underL, V.underLL, blockIn, c1], by first | exact .refl _ | (simp; exact .refl _) | (simp; assumption) | assumption⟩
def lenM (o : OpD) : Int := IntKind.i64.wrap ((IntKind.i64.wrap (o.lanes * o.bits)).tdiv 8)
def opAt (b : BlockD) (at_ : Int) : Option OpD := if 0 ≤ at_ then b.ops[at_.toNat]? else none
def addrO : Option OpD → Option (Int × Int)
 | some o => if 0 ≤ touchM o.kind then some (o.args.getD (touchM o.kind).toNat 0, lenM o) else none
 | none => none
def addrV : Option (Int × Int) → V
 | some (v, n) => .tup [.int .i64 v, .int .i64 n, .bool true]
 | none => .tup [.int .i64 0, .int .i64 0, .bool false]
theorem opAt_some {b : BlockD} {at_ : Int} {o : OpD} (h : opAt b at_ = some o) : 0 ≤ at_ ∧ b.ops[at_.toNat]? = some o := by
 unfold opAt at h
 split at h
 ·rename_i h0; exact ⟨h0, h⟩
 ·cases h
theorem address_run (b : BlockD) (hf : b.Fit) (at_ : Int) (ha : ∀ o ∈ b.ops, 0 ≤ touchM o.kind → (touchM o.kind).toNat < o.args.length) (h : LS.Heap) : callD T 64 [.agg b.c, .int .i64 at_] h = some (addrV (addrO (opAt b at_)), h) := by
 have hbc : b.c = [.lst .ro (b.phis.map PhiD.c), .lst .ro (b.ops.map OpD.c), .int .i64 b.ek, .int .i64 b.ea, .lst .ro (b.to.map intC)] := rfl
 have hlen := hf.2.1
 refine W_call t64 rfl rfl (by simp) ?_
 show W T c64 _ _
 unfold c64
 by_cases c1 : at_ < 0
 ·skip
  repeat' (first | refine W_seq ?_ | refine W_skip ?_ | refine W_block ?_ | refine W_ret ?_ | refine W_exit ?_ | refine W_ops (s1 := ?_) (by simp [a64, nextVer, hbc, c1]; exact rfl) ?_ | refine W_tops (s1 := ?_) (by simp [a64, nextVer, hbc, c1]; exact rfl) ?_ | refine W_cond_t (by first | (simp [a64, nextVer, hbc, c1]; done) | fail) ?_ | refine W_cond_f (by first | (simp [a64, nextVer, hbc, c1]; done) | fail) ?_ | fail)
  have : opAt b at_ = none := by simp only [opAt]; rw [if_neg (by omega)]
  exact ⟨.inr rfl, [.int .i64 0, .int .i64 0, .bool false], by simp [a64, resV, resV1, this, addrO, addrV], by simp [a64, packV, this, addrO, addrV], by simp [V.under, V.underL, V.underLL, this, addrO, addrV], by first | exact .refl _ | (simp; exact .refl _) | (simp; assumption) | assumption⟩
 by_cases c2 : (b.ops.length : Int) ≤ at_
 ·skip
  repeat' (first | refine W_seq ?_ | refine W_skip ?_ | refine W_block ?_ | refine W_ret ?_ | refine W_exit ?_ | refine W_ops (s1 := ?_) (by simp [a64, nextVer, hbc, c1, c2]; exact rfl) ?_ | refine W_tops (s1 := ?_) (by simp [a64, nextVer, hbc, c1, c2]; exact rfl) ?_ | refine W_cond_t (by first | (simp [a64, nextVer, hbc, c1, c2]; done) | fail) ?_ | refine W_cond_f (by first | (simp [a64, nextVer, hbc, c1, c2]; done) | fail) ?_ | fail)
  have : opAt b at_ = none := by simp only [opAt]; rw [if_pos (by omega), List.getElem?_eq_none (by omega)]
  exact ⟨.inr rfl, [.int .i64 0, .int .i64 0, .bool false], by simp [a64, resV, resV1, this, addrO, addrV], by simp [a64, packV, this, addrO, addrV], by simp [V.under, V.underL, V.underLL, this, addrO, addrV], by first | exact .refl _ | (simp; exact .refl _) | (simp; assumption) | assumption⟩
 obtain ⟨n, rfl⟩ : ∃ n : Nat, at_ = n := ⟨at_.toNat, by omega⟩
 have hn : n < b.ops.length := by omega
 obtain ⟨o, ho⟩ : ∃ o, b.ops[n]? = some o := ⟨b.ops[n], by simp [hn]⟩
 have hop : opAt b n = some o := by simp [opAt, ho]
 have hoc : o.c = [.int .i64 o.kind, .int .i64 o.bits, .int .i64 o.lanes, .int .i64 o.dst, .lst .ro (o.args.map intC), .int .u64 o.imm] := rfl
 have hha := ha _ (List.mem_of_getElem? ho)
 have e1 := touch_run o.kind h
 have c2' : ¬ b.ops.length ≤ n := by omega
 by_cases c3 : 0 ≤ touchM o.kind
 ·obtain ⟨m, hm⟩ : ∃ m : Nat, touchM o.kind = m := ⟨(touchM o.kind).toNat, by omega⟩
  have hml : m < o.args.length := by have := hha c3; omega
  rw [hm] at e1
  repeat' (first | refine W_seq ?_ | refine W_skip ?_ | refine W_block ?_ | refine W_ret ?_ | refine W_exit ?_ | refine W_ops (s1 := ?_) (by simp [a64, nextVer, hbc, c1, c2', ho, hoc, e1, hml, intC]; exact rfl) ?_ | refine W_tops (s1 := ?_) (by simp [a64, nextVer, hbc, c1, c2', ho, hoc, e1, hml, intC]; exact rfl) ?_ | refine W_cond_t (by first | (simp [a64, nextVer, hbc, c1, c2', ho, hoc, e1, hml, intC]; done) | fail) ?_ | refine W_cond_f (by first | (simp [a64, nextVer, hbc, c1, c2', ho, hoc, e1, hml, intC]; done) | fail) ?_ | fail)
  exact ⟨.inr rfl, [.int .i64 o.args[m], .int .i64 (lenM o), .bool true], by simp [a64, resV, resV1, hop, addrO, addrV, hm, hml, lenM], by simp [a64, packV, hop, addrO, addrV, hm, hml, lenM], by simp [V.under, V.underL, V.underLL, hop, addrO, addrV, hm, hml, lenM], by first | exact .refl _ | (simp; exact .refl _) | (simp; assumption) | assumption⟩
 ·skip
  repeat' (first | refine W_seq ?_ | refine W_skip ?_ | refine W_block ?_ | refine W_ret ?_ | refine W_exit ?_ | refine W_ops (s1 := ?_) (by simp [a64, nextVer, hbc, c1, c2', ho, hoc, e1, c3]; exact rfl) ?_ | refine W_tops (s1 := ?_) (by simp [a64, nextVer, hbc, c1, c2', ho, hoc, e1, c3]; exact rfl) ?_ | refine W_cond_t (by first | (simp [a64, nextVer, hbc, c1, c2', ho, hoc, e1, c3]; done) | fail) ?_ | refine W_cond_f (by first | (simp [a64, nextVer, hbc, c1, c2', ho, hoc, e1, c3]; done) | fail) ?_ | fail)
  exact ⟨.inr rfl, [.int .i64 0, .int .i64 0, .bool false], by simp [a64, resV, resV1, hop, addrO, addrV, c3], by simp [a64, packV, hop, addrO, addrV, c3], by simp [V.under, V.underL, V.underLL, hop, addrO, addrV, c3], by first | exact .refl _ | (simp; exact .refl _) | (simp; assumption) | assumption⟩
def blockAt (f : FuncD) (b : Int) : Option BlockD := if 0 ≤ b then f.blocks[b.toNat]? else none
def addrF (f : FuncD) (ok : Bool) (b at_ : Int) : Option (Int × Int) :=
 match blockAt f b with
 | some x => if ok = true then addrO (opAt x at_) else none
 | none => none
theorem blockIn_at {f : FuncD} {b : Int} : (∃ x, blockAt f b = some x ∧ x ∈ f.blocks ∧ blockIn f b = true ∧ 0 ≤ b ∧ f.blocks[b.toNat]? = some x) ∨ (blockAt f b = none ∧ blockIn f b = false) := by
 by_cases c1 : 0 ≤ b
 ·by_cases c2 : b < f.blocks.length
  ·have hn : b.toNat < f.blocks.length := by omega
   exact .inl ⟨f.blocks[b.toNat], by simp [blockAt, c1, hn], List.getElem_mem hn, by simp [blockIn, c1, c2], c1, by simp [hn]⟩
  ·exact .inr ⟨by simp only [blockAt]; rw [if_pos c1, List.getElem?_eq_none (by omega)], by simp [blockIn, c2]⟩
 ·exact .inr ⟨by simp [blockAt, c1], by simp [blockIn, c1]⟩
theorem Address_run (K : Known f ok F) (b at_ : Int) (h : LS.Heap) : callD T 22 [.agg f.c, .int .i64 b, .int .i64 at_] h = some (addrV (addrF f ok b at_), h) := by
 have e0 := aright_run K b h
 have hfc : f.c = [.lst .ro (f.params.map intC), .int .i64 f.ret, .lst .ro (f.blocks.map BlockD.c)] := rfl
 rw [hfc] at e0
 have no : (blockIn f b && ok) = false → addrF f ok b at_ = none := fun hn => by
  rcases blockIn_at (f := f) (b := b) with ⟨x, h1, _, h3, _⟩ | ⟨h1, _⟩
  ·rw [h3, Bool.true_and] at hn; simp [addrF, h1, hn]
  ·simp [addrF, h1]
 refine W_call t22 rfl rfl (by simp) ?_
 show W T c22 _ _
 unfold c22
 cases hr : blockIn f b && ok with
 | false =>
  rw [hr] at e0
  repeat' (first | refine W_seq ?_ | refine W_skip ?_ | refine W_block ?_ | refine W_ret ?_ | refine W_exit ?_ | refine W_ops (s1 := ?_) (by simp [a22, nextVer, hfc, e0]; exact rfl) ?_ | refine W_tops (s1 := ?_) (by simp [a22, nextVer, hfc, e0]; exact rfl) ?_ | refine W_cond_t (by first | (simp [a22, nextVer, hfc, e0]; done) | fail) ?_ | refine W_cond_f (by first | (simp [a22, nextVer, hfc, e0]; done) | fail) ?_ | fail)
  exact ⟨.inr rfl, [.int .i64 0, .int .i64 0, .bool false], by simp [a22, resV, resV1, no hr, addrV], by simp [a22, packV, no hr, addrV], by simp [V.under, V.underL, V.underLL, no hr, addrV], by first | exact .refl _ | (simp; exact .refl _) | (simp; assumption) | assumption⟩
 | true =>
  rw [hr] at e0
  rw [Bool.and_eq_true] at hr
  rcases blockIn_at (f := f) (b := b) with ⟨x, h1, h2, h3, h4, h5⟩ | ⟨_, h3⟩
  ·have hF : addrF f ok b at_ = addrO (opAt x at_) := by simp [addrF, h1, hr.2]
   obtain ⟨n, rfl⟩ : ∃ n : Nat, b = n := ⟨b.toNat, by omega⟩
   have h5' : f.blocks[n]? = some x := h5
   have e1 := address_run x (K.fit.2.2 x h2) at_ (K.args hr.2 x h2) h
   have hbc : x.c = [.lst .ro (x.phis.map PhiD.c), .lst .ro (x.ops.map OpD.c), .int .i64 x.ek, .int .i64 x.ea, .lst .ro (x.to.map intC)] := rfl
   rw [hF]
   cases ha : addrO (opAt x at_) with
   | none =>
    rw [ha] at e1
    simp only [hbc, addrV] at e1
    repeat' (first | refine W_seq ?_ | refine W_skip ?_ | refine W_block ?_ | refine W_ret ?_ | refine W_exit ?_ | refine W_ops (s1 := ?_) (by simp [a22, nextVer, hfc, e0, h5', hbc, e1]; exact rfl) ?_ | refine W_tops (s1 := ?_) (by simp [a22, nextVer, hfc, e0, h5', hbc, e1]; exact rfl) ?_ | refine W_cond_t (by first | (simp [a22, nextVer, hfc, e0, h5', hbc, e1]; done) | fail) ?_ | refine W_cond_f (by first | (simp [a22, nextVer, hfc, e0, h5', hbc, e1]; done) | fail) ?_ | fail)
    exact ⟨.inr rfl, [.int .i64 0, .int .i64 0, .bool false], by simp [a22, resV, resV1, addrV], by simp [a22, packV, addrV], by simp [V.under, V.underL, V.underLL, addrV], by first | exact .refl _ | (simp; exact .refl _) | (simp; assumption) | assumption⟩
   | some p =>
    rw [ha] at e1
    simp only [hbc, addrV] at e1
    repeat' (first | refine W_seq ?_ | refine W_skip ?_ | refine W_block ?_ | refine W_ret ?_ | refine W_exit ?_ | refine W_ops (s1 := ?_) (by simp [a22, nextVer, hfc, e0, h5', hbc, e1]; exact rfl) ?_ | refine W_tops (s1 := ?_) (by simp [a22, nextVer, hfc, e0, h5', hbc, e1]; exact rfl) ?_ | refine W_cond_t (by first | (simp [a22, nextVer, hfc, e0, h5', hbc, e1]; done) | fail) ?_ | refine W_cond_f (by first | (simp [a22, nextVer, hfc, e0, h5', hbc, e1]; done) | fail) ?_ | fail)
    exact ⟨.inr rfl, [.int .i64 p.1, .int .i64 p.2, .bool true], by simp [a22, resV, resV1, addrV], by simp [a22, packV, addrV], by simp [V.under, V.underL, V.underLL, addrV], by first | exact .refl _ | (simp; exact .refl _) | (simp; assumption) | assumption⟩
  ·rw [h3] at hr; exact absurd hr.1 (by simp)
theorem addrF_some (K : Known f ok F) {b at_ v m : Int} (h : addrF f ok b at_ = some (v, m)) : ok = true ∧ ∃ x ∈ f.blocks, ∃ o ∈ x.ops, 0 ≤ touchM o.kind ∧ o.args[(touchM o.kind).toNat]? = some v := by
 unfold addrF at h
 rcases blockIn_at (f := f) (b := b) with ⟨x, h1, h2, _⟩ | ⟨h1, _⟩
 ·rw [h1] at h
  simp only at h
  split at h
  ·rename_i hok
   cases ho : opAt x at_ with
   | none => rw [ho] at h; cases h
   | some o =>
    rw [ho] at h
    simp only [addrO] at h
    split at h
    ·rename_i ht
     have hom := List.mem_of_getElem? (opAt_some ho).2
     have hl := K.args hok x h2 o hom ht
     simp only [Option.some.injEq, Prod.mk.injEq] at h
     refine ⟨hok, x, h2, o, hom, ht, ?_⟩
     rw [List.getElem?_eq_getElem hl, ← h.1]
     simp [hl]
    ·cases h
  ·cases h
 ·rw [h1] at h; cases h
def distF (f : FuncD) (ok : Bool) (F : Int → FormD) (b x y : Int) : Option (Int × Int × Int) :=
 match addrF f ok b x, addrF f ok b y with
 | some (v, m), some (w, n) => if (F v).1 = (F w).1 then some (subU (F w).2 (F v).2, IntKind.u64.wrap m, IntKind.u64.wrap n) else none
 | _, _ => none
theorem with_run (K : Known f ok F) (b x y : Int) (h : LS.Heap) (g : FuncId) (caps : List V) (q : Int → Int → Int → Bool) (h' : Int → Int → Int → LS.Heap)
  (hg : ∀ d m n, callD T g (.int .u64 d :: .int .u64 m :: .int .u64 n :: caps) h = some (.bool (q d m n), h' d m n)) :
  callD T 66 [.agg f.c, .int .i64 b, .int .i64 x, .int .i64 y, .fn g [] caps] h = some (match distF f ok F b x y with | some (d, m, n) => (.bool (q d m n), h' d m n) | none => (.bool false, h)) := by
 have e1 := Address_run K b x h
 have e2 := Address_run K b y h
 have hfc : f.c = [.lst .ro (f.params.map intC), .int .i64 f.ret, .lst .ro (f.blocks.map BlockD.c)] := rfl
 rw [hfc] at e1 e2
 cases ha : addrF f ok b x with
 | none =>
  rw [ha] at e1
  have hd : distF f ok F b x y = none := by simp [distF, ha]
  simp only [addrV] at e1
  rw [hd]
  cases hb : addrF f ok b y with
  | none =>
   rw [hb] at e2
   simp only [addrV] at e2
   refine W_callH t66 rfl rfl (by simp) ?_
   show W T c66 _ _
   unfold c66
   repeat' (first | refine W_seq ?_ | refine W_skip ?_ | refine W_block ?_ | refine W_ret ?_ | refine W_exit ?_ | refine W_ops (s1 := ?_) (by simp [a66, nextVer, hfc, e1, e2]; exact rfl) ?_ | refine W_tops (s1 := ?_) (by simp [a66, nextVer, hfc, e1, e2]; exact rfl) ?_ | refine W_cond_t (by first | (simp [a66, nextVer, hfc, e1, e2]; done) | fail) ?_ | refine W_cond_f (by first | (simp [a66, nextVer, hfc, e1, e2]; done) | fail) ?_ | fail)
   exact ⟨.inr rfl, [.bool false], by simp [a66, resV, resV1], by simp [a66, packV], by simp⟩
  | some p =>
   rw [hb] at e2
   simp only [addrV] at e2
   refine W_callH t66 rfl rfl (by simp) ?_
   show W T c66 _ _
   unfold c66
   repeat' (first | refine W_seq ?_ | refine W_skip ?_ | refine W_block ?_ | refine W_ret ?_ | refine W_exit ?_ | refine W_ops (s1 := ?_) (by simp [a66, nextVer, hfc, e1, e2]; exact rfl) ?_ | refine W_tops (s1 := ?_) (by simp [a66, nextVer, hfc, e1, e2]; exact rfl) ?_ | refine W_cond_t (by first | (simp [a66, nextVer, hfc, e1, e2]; done) | fail) ?_ | refine W_cond_f (by first | (simp [a66, nextVer, hfc, e1, e2]; done) | fail) ?_ | fail)
   exact ⟨.inr rfl, [.bool false], by simp [a66, resV, resV1], by simp [a66, packV], by simp⟩
 | some p =>
  obtain ⟨v, m⟩ := p
  rw [ha] at e1
  simp only [addrV] at e1
  cases hb : addrF f ok b y with
  | none =>
   rw [hb] at e2
   have hd : distF f ok F b x y = none := by simp [distF, ha, hb]
   simp only [addrV] at e2
   rw [hd]
   refine W_callH t66 rfl rfl (by simp) ?_
   show W T c66 _ _
   unfold c66
   repeat' (first | refine W_seq ?_ | refine W_skip ?_ | refine W_block ?_ | refine W_ret ?_ | refine W_exit ?_ | refine W_ops (s1 := ?_) (by simp [a66, nextVer, hfc, e1, e2]; exact rfl) ?_ | refine W_tops (s1 := ?_) (by simp [a66, nextVer, hfc, e1, e2]; exact rfl) ?_ | refine W_cond_t (by first | (simp [a66, nextVer, hfc, e1, e2]; done) | fail) ?_ | refine W_cond_f (by first | (simp [a66, nextVer, hfc, e1, e2]; done) | fail) ?_ | fail)
   exact ⟨.inr rfl, [.bool false], by simp [a66, resV, resV1], by simp [a66, packV], by simp⟩
  | some p =>
   obtain ⟨w, n⟩ := p
   rw [hb] at e2
   simp only [addrV] at e2
   obtain ⟨k1, x1, k2, o1, k3, k4, k5⟩ := addrF_some K ha
   obtain ⟨_, x2, l2, o2, l3, l4, l5⟩ := addrF_some K hb
   obtain ⟨c1, e3⟩ := K.form k1 x1 k2 o1 k3 k4 v k5 h
   obtain ⟨c2, e4⟩ := K.form k1 x2 l2 o2 l3 l4 w l5 h
   rw [hfc] at e3 e4
   simp only [formV] at e3 e4
   have e5 := Equal_run .ro .ro (F v).1 (F w).1 (by have := K.short v; omega) (by have := K.short w; omega) h
   by_cases he : (F v).1 = (F w).1
   ·have hd : distF f ok F b x y = some (subU (F w).2 (F v).2, IntKind.u64.wrap m, IntKind.u64.wrap n) := by simp [distF, ha, hb, he]
    have e6 := hg (subU (F w).2 (F v).2) (IntKind.u64.wrap m) (IntKind.u64.wrap n)
    simp only [subU] at e6 hd
    rw [hd]
    simp only [he, decide_true] at e5
    rw [he] at e3
    refine W_callH t66 rfl rfl (by simp) ?_
    show W T c66 _ _
    unfold c66
    repeat' (first | refine W_seq ?_ | refine W_skip ?_ | refine W_block ?_ | refine W_ret ?_ | refine W_exit ?_ | refine W_ops (s1 := ?_) (by simp [a66, nextVer, hfc, e1, e2, e3, e4, e5, e6]; exact rfl) ?_ | refine W_tops (s1 := ?_) (by simp [a66, nextVer, hfc, e1, e2, e3, e4, e5, e6]; exact rfl) ?_ | refine W_cond_t (by first | (simp [a66, nextVer, hfc, e1, e2, e3, e4, e5, e6]; done) | fail) ?_ | refine W_cond_f (by first | (simp [a66, nextVer, hfc, e1, e2, e3, e4, e5, e6]; done) | fail) ?_ | fail)
    exact ⟨.inr rfl, [.bool (q (IntKind.u64.wrap ((F w).2 - (F v).2)) (IntKind.u64.wrap m) (IntKind.u64.wrap n))], by simp [a66, resV, resV1], by simp [a66, packV], by simp⟩
   ·have hd : distF f ok F b x y = none := by simp [distF, ha, hb, he]
    rw [hd]
    simp only [he, decide_false] at e5
    refine W_callH t66 rfl rfl (by simp) ?_
    show W T c66 _ _
    unfold c66
    repeat' (first | refine W_seq ?_ | refine W_skip ?_ | refine W_block ?_ | refine W_ret ?_ | refine W_exit ?_ | refine W_ops (s1 := ?_) (by simp [a66, nextVer, hfc, e1, e2, e3, e4, e5]; exact rfl) ?_ | refine W_tops (s1 := ?_) (by simp [a66, nextVer, hfc, e1, e2, e3, e4, e5]; exact rfl) ?_ | refine W_cond_t (by first | (simp [a66, nextVer, hfc, e1, e2, e3, e4, e5]; done) | fail) ?_ | refine W_cond_f (by first | (simp [a66, nextVer, hfc, e1, e2, e3, e4, e5]; done) | fail) ?_ | fail)
    exact ⟨.inr rfl, [.bool false], by simp [a66, resV, resV1], by simp [a66, packV], by simp⟩
theorem distQ_run (id : Nat) (d m n : Int) (h : LS.Heap) {u : Int} (hid : h.objs id = some (.var [.int .u64 u])) : callD T 67 [.int .u64 d, .int .u64 m, .int .u64 n, .obj id 0] h = some (.bool true, h.set id (.var [.int .u64 d])) := by
 refine W_callH t67 rfl rfl (by simp) ?_
 show W T c67 _ _
 unfold c67
 repeat' (first | refine W_seq ?_ | refine W_skip ?_ | refine W_block ?_ | refine W_ret ?_ | refine W_exit ?_ | refine W_ops (s1 := ?_) (by simp [a67, hid, patch]; exact rfl) ?_ | refine W_tops (s1 := ?_) (by simp [a67, hid, patch]; exact rfl) ?_ | refine W_cond_t (by first | (simp [a67, hid, patch]; done) | fail) ?_ | refine W_cond_f (by first | (simp [a67, hid, patch]; done) | fail) ?_ | fail)
 exact ⟨.inr rfl, [.bool true], by simp [a67, resV, resV1], by simp [a67, packV], by simp⟩
theorem Distance_run (K : Known f ok F) (b x y : Int) (h : LS.Heap) : callD T 24 [.agg f.c, .int .i64 b, .int .i64 x, .int .i64 y] h = some (match distF f ok F b x y with | some (d, _, _) => .tup [.int .u64 d, .bool true] | none => .tup [.int .u64 0, .bool false], h) := by
 have hfc : f.c = [.lst .ro (f.params.map intC), .int .i64 f.ret, .lst .ro (f.blocks.map BlockD.c)] := rfl
 have hid : (h.new (.var [.int .u64 0])).objs h.next = some (.var [.int .u64 0]) := new_objs_new _ _
 have e := with_run K b x y (h.new (.var [.int .u64 0])) 67 [.obj h.next 0] (fun _ _ _ => true) _ (fun d m n => distQ_run h.next d m n _ hid)
 rw [hfc] at e
 refine W_call t24 rfl rfl (by simp) ?_
 show W T c24 _ _
 unfold c24
 cases hd : distF f ok F b x y with
 | none =>
  rw [hd] at e
  simp only at e
  have hs : (h.new (.var [.int .u64 0])).set h.next (.var [.int .u64 0]) = h.new (.var [.int .u64 0]) := set_same hid
  repeat' (first | refine W_seq ?_ | refine W_skip ?_ | refine W_block ?_ | refine W_ret ?_ | refine W_exit ?_ | refine W_ops (s1 := ?_) (by simp [a24, nextVer, hfc, patch, hid, hs, e]; exact rfl) ?_ | refine W_tops (s1 := ?_) (by simp [a24, nextVer, hfc, patch, hid, hs, e]; exact rfl) ?_ | refine W_cond_t (by first | (simp [a24, nextVer, hfc, patch, hid, hs, e]; done) | fail) ?_ | refine W_cond_f (by first | (simp [a24, nextVer, hfc, patch, hid, hs, e]; done) | fail) ?_ | fail)
  exact ⟨.inr rfl, [.int .u64 0, .bool false], by simp [a24, resV, resV1], by simp [a24, packV], by simp [V.under, V.underL], by simp; exact .new _ _⟩
 | some p =>
  obtain ⟨d, m, n⟩ := p
  rw [hd] at e
  simp only at e
  have hs : (h.new (.var [.int .u64 0])).set h.next (.var [.int .u64 0]) = h.new (.var [.int .u64 0]) := set_same hid
  have hid2 : ((h.new (.var [.int .u64 0])).set h.next (.var [.int .u64 d])).objs h.next = some (.var [.int .u64 d]) := by simp [Heap.set, upd]
  repeat' (first | refine W_seq ?_ | refine W_skip ?_ | refine W_block ?_ | refine W_ret ?_ | refine W_exit ?_ | refine W_ops (s1 := ?_) (by simp [a24, nextVer, hfc, patch, hid, hs, e, hid2]; exact rfl) ?_ | refine W_tops (s1 := ?_) (by simp [a24, nextVer, hfc, patch, hid, hs, e, hid2]; exact rfl) ?_ | refine W_cond_t (by first | (simp [a24, nextVer, hfc, patch, hid, hs, e, hid2]; done) | fail) ?_ | refine W_cond_f (by first | (simp [a24, nextVer, hfc, patch, hid, hs, e, hid2]; done) | fail) ?_ | fail)
  exact ⟨.inr rfl, [.int .u64 d, .bool true], by simp [a24, resV, resV1], by simp [a24, packV], by simp [V.under, V.underL], by simp; exact (HExt.new _ _).set (Nat.le_refl _) _⟩
theorem apartQ_run (d m n : Int) (h : LS.Heap) : callD T 70 [.int .u64 d, .int .u64 m, .int .u64 n] h = some (.bool (decide (m ≤ d) && decide (n ≤ IntKind.u64.wrap (0 - d))), h) := by
 refine W_call t70 rfl rfl (by simp) ?_
 show W T c70 _ _
 unfold c70
 by_cases c : m ≤ d
 ·skip
  repeat' (first | refine W_seq ?_ | refine W_skip ?_ | refine W_block ?_ | refine W_ret ?_ | refine W_exit ?_ | refine W_ops (s1 := ?_) (by simp [a70, c]; exact rfl) ?_ | refine W_tops (s1 := ?_) (by simp [a70, c]; exact rfl) ?_ | refine W_cond_t (by first | (simp [a70, c]; done) | fail) ?_ | refine W_cond_f (by first | (simp [a70, c]; done) | fail) ?_ | fail)
  exact ⟨.inr rfl, [.bool (decide (n ≤ IntKind.u64.wrap (0 - d)))], by simp [a70, resV, resV1, c], by simp [a70, packV, c], by simp [V.under, V.underL, V.underLL, c], by first | exact .refl _ | (simp; exact .refl _) | (simp; assumption) | assumption⟩
 ·skip
  repeat' (first | refine W_seq ?_ | refine W_skip ?_ | refine W_block ?_ | refine W_ret ?_ | refine W_exit ?_ | refine W_ops (s1 := ?_) (by simp [a70, c]; exact rfl) ?_ | refine W_tops (s1 := ?_) (by simp [a70, c]; exact rfl) ?_ | refine W_cond_t (by first | (simp [a70, c]; done) | fail) ?_ | refine W_cond_f (by first | (simp [a70, c]; done) | fail) ?_ | fail)
  exact ⟨.inr rfl, [.bool false], by simp [a70, resV, resV1, c], by simp [a70, packV, c], by simp [V.under, V.underL, V.underLL, c], by first | exact .refl _ | (simp; exact .refl _) | (simp; assumption) | assumption⟩
def apartF (f : FuncD) (ok : Bool) (F : Int → FormD) (b x y : Int) : Bool := match distF f ok F b x y with
 | some (d, m, n) => decide (m ≤ d) && decide (n ≤ IntKind.u64.wrap (0 - d))
 | none => false
def followsF (f : FuncD) (ok : Bool) (F : Int → FormD) (b x y : Int) : Bool := match distF f ok F b x y with
 | some (d, m, _) => decide (d = m)
 | none => false
theorem Apart_run (K : Known f ok F) (b x y : Int) (h : LS.Heap) : callD T 26 [.agg f.c, .int .i64 b, .int .i64 x, .int .i64 y] h = some (.bool (apartF f ok F b x y), h) := by
 have hfc : f.c = [.lst .ro (f.params.map intC), .int .i64 f.ret, .lst .ro (f.blocks.map BlockD.c)] := rfl
 have e := with_run K b x y h 70 [] _ _ (fun d m n => apartQ_run d m n h)
 have e : callD T 66 [.agg f.c, .int .i64 b, .int .i64 x, .int .i64 y, .fn 70 [] []] h = some (.bool (apartF f ok F b x y), h) := by
  rw [e]; unfold apartF
  cases distF f ok F b x y <;> rfl
 rw [hfc] at e
 refine W_call t26 rfl rfl (by simp) ?_
 show W T c26 _ _
 unfold c26
 repeat' (first | refine W_seq ?_ | refine W_skip ?_ | refine W_block ?_ | refine W_ret ?_ | refine W_exit ?_ | refine W_ops (s1 := ?_) (by simp [a26, nextVer, hfc, e]; exact rfl) ?_ | refine W_tops (s1 := ?_) (by simp [a26, nextVer, hfc, e]; exact rfl) ?_ | refine W_cond_t (by first | (simp [a26, nextVer, hfc, e]; done) | fail) ?_ | refine W_cond_f (by first | (simp [a26, nextVer, hfc, e]; done) | fail) ?_ | fail)
 exact ⟨.inr rfl, [.bool (apartF f ok F b x y)], by simp [a26, resV, resV1], by simp [a26, packV], by simp [V.under, V.underL, V.underLL], by first | exact .refl _ | (simp; exact .refl _) | (simp; assumption) | assumption⟩
theorem followsQ_run (d m n : Int) (h : LS.Heap) : callD T 71 [.int .u64 d, .int .u64 m, .int .u64 n] h = some (.bool (decide (d = m)), h) := by
 refine W_call t71 rfl rfl (by simp) ?_
 show W T c71 _ _
 unfold c71
 repeat' (first | refine W_seq ?_ | refine W_skip ?_ | refine W_block ?_ | refine W_ret ?_ | refine W_exit ?_ | refine W_ops (s1 := ?_) (by simp [a71]; exact rfl) ?_ | refine W_tops (s1 := ?_) (by simp [a71]; exact rfl) ?_ | refine W_cond_t (by first | (simp [a71]; done) | fail) ?_ | refine W_cond_f (by first | (simp [a71]; done) | fail) ?_ | fail)
 exact ⟨.inr rfl, [.bool (decide (d = m))], by simp [a71, resV, resV1], by simp [a71, packV], by simp [V.under, V.underL, V.underLL], by first | exact .refl _ | (simp; exact .refl _) | (simp; assumption) | assumption⟩
theorem Follows_run (K : Known f ok F) (b x y : Int) (h : LS.Heap) : callD T 28 [.agg f.c, .int .i64 b, .int .i64 x, .int .i64 y] h = some (.bool (followsF f ok F b x y), h) := by
 have hfc : f.c = [.lst .ro (f.params.map intC), .int .i64 f.ret, .lst .ro (f.blocks.map BlockD.c)] := rfl
 have e := with_run K b x y h 71 [] _ _ (fun d m n => followsQ_run d m n h)
 have e : callD T 66 [.agg f.c, .int .i64 b, .int .i64 x, .int .i64 y, .fn 71 [] []] h = some (.bool (followsF f ok F b x y), h) := by
  rw [e]; unfold followsF
  cases distF f ok F b x y <;> rfl
 rw [hfc] at e
 refine W_call t28 rfl rfl (by simp) ?_
 show W T c28 _ _
 unfold c28
 repeat' (first | refine W_seq ?_ | refine W_skip ?_ | refine W_block ?_ | refine W_ret ?_ | refine W_exit ?_ | refine W_ops (s1 := ?_) (by simp [a28, nextVer, hfc, e]; exact rfl) ?_ | refine W_tops (s1 := ?_) (by simp [a28, nextVer, hfc, e]; exact rfl) ?_ | refine W_cond_t (by first | (simp [a28, nextVer, hfc, e]; done) | fail) ?_ | refine W_cond_f (by first | (simp [a28, nextVer, hfc, e]; done) | fail) ?_ | fail)
 exact ⟨.inr rfl, [.bool (followsF f ok F b x y)], by simp [a28, resV, resV1], by simp [a28, packV], by simp [V.under, V.underL, V.underLL], by first | exact .refl _ | (simp; exact .refl _) | (simp; assumption) | assumption⟩
def isTouch (ops : List OpD) (j : Nat) : Bool := match ops[j]? with
 | some o => decide (0 ≤ touchM o.kind)
 | none => false
def touchP (ops : List OpD) (i : Nat) : List Nat := (List.range i).filter (isTouch ops)
theorem touchP_succ (ops : List OpD) (i : Nat) : touchP ops (i + 1) = touchP ops i ++ (if isTouch ops i = true then [i] else []) := by
 unfold touchP
 rw [List.range_succ, List.filter_append]
 congr 1
 by_cases h : isTouch ops i = true <;> simp [h]
theorem touchP_len (ops : List OpD) (i : Nat) : (touchP ops i).length ≤ i := by
 unfold touchP
 refine Nat.le_trans (List.length_filter_le _ _) ?_
 simp
def touchesF (f : FuncD) (ok : Bool) (b : Int) : List Nat := match blockAt f b with
 | some x => if ok = true then touchP x.ops x.ops.length else []
 | none => []
def natC (n : Nat) : List V := [.int .i64 n]
@[simp] theorem retag_nat (l : List Nat) : V.retagLL (l.map natC) = l.map natC := retagLL_enc _ (fun _ => rfl) _
@[simp] theorem under_nat (n : Nat) (l : List Nat) : V.underLL n (l.map natC) = true := underLL_enc _ _ (fun _ => rfl) _
theorem okSize_nat (l : List Nat) : okSize 1 (l.map natC) = true := by cases l <;> rfl
theorem Acc.lst {n : Nat} {h0 h : LS.Heap} {v : V} {l : List (List V)} (ha : Acc n h0 h v l) : ∃ tg, v = .lst tg l := by
 rcases ha with ⟨rfl, rfl⟩ | ⟨tk, rfl, _⟩
 ·exact ⟨_, rfl⟩
 ·exact ⟨_, rfl⟩
theorem Touches_run (K : Known f ok F) (b : Int) (h : LS.Heap) : callD T 30 [.agg f.c, .int .i64 b] h = some (.lst .ro ((touchesF f ok b).map natC), h) := by
 have e0 := aright_run K b h
 have hfc : f.c = [.lst .ro (f.params.map intC), .int .i64 f.ret, .lst .ro (f.blocks.map BlockD.c)] := rfl
 rw [hfc] at e0
 have no : (blockIn f b && ok) = false → touchesF f ok b = [] := fun hn => by
  rcases blockIn_at (f := f) (b := b) with ⟨x, h1, _, h3, _⟩ | ⟨h1, _⟩
  ·rw [h3, Bool.true_and] at hn; simp [touchesF, h1, hn]
  ·simp [touchesF, h1]
 refine W_call t30 rfl rfl (by simp) ?_
 show W T c30 _ _
 unfold c30
 cases hr : blockIn f b && ok with
 | false =>
  rw [hr] at e0
  repeat' (first | refine W_seq ?_ | refine W_skip ?_ | refine W_block ?_ | refine W_ret ?_ | refine W_exit ?_ | refine W_ops (s1 := ?_) (by simp [a30, nextVer, hfc, e0]; exact rfl) ?_ | refine W_tops (s1 := ?_) (by simp [a30, nextVer, hfc, e0]; exact rfl) ?_ | refine W_cond_t (by first | (simp [a30, nextVer, hfc, e0]; done) | fail) ?_ | refine W_cond_f (by first | (simp [a30, nextVer, hfc, e0]; done) | fail) ?_ | fail)
  exact ⟨.inr rfl, [.lst .nil []], by simp [a30, resV, resV1, no hr, V.retag, V.retagLL], by simp [a30, packV, no hr, V.retag, V.retagLL], by simp [V.under, V.underL, V.underLL, no hr, V.retag, V.retagLL], by first | exact .refl _ | (simp; exact .refl _) | (simp; assumption) | assumption⟩
 | true =>
  rw [hr] at e0
  rw [Bool.and_eq_true] at hr
  rcases blockIn_at (f := f) (b := b) with ⟨x, h1, h2, h3, h4, h5⟩ | ⟨_, h3⟩
  rotate_left
  ·rw [h3] at hr; exact absurd hr.1 (by simp)
  have hF : touchesF f ok b = touchP x.ops x.ops.length := by simp [touchesF, h1, hr.2]
  obtain ⟨n, rfl⟩ : ∃ n : Nat, b = n := ⟨b.toNat, by omega⟩
  have h5' : f.blocks[n]? = some x := h5
  have hbc : x.c = [.lst .ro (x.phis.map PhiD.c), .lst .ro (x.ops.map OpD.c), .int .i64 x.ek, .int .i64 x.ea, .lst .ro (x.to.map intC)] := rfl
  have hxl := (K.fit.2.2 x h2).2.1
  repeat' (first | refine W_seq ?_ | refine W_skip ?_ | refine W_block ?_ | refine W_ret ?_ | refine W_exit ?_ | refine W_ops (s1 := ?_) (by simp [a30, nextVer, hfc, e0, h5', hbc]; exact rfl) ?_ | refine W_tops (s1 := ?_) (by simp [a30, nextVer, hfc, e0, h5', hbc]; exact rfl) ?_ | refine W_cond_t (by first | (simp [a30, nextVer, hfc, e0, h5', hbc]; done) | fail) ?_ | refine W_cond_f (by first | (simp [a30, nextVer, hfc, e0, h5', hbc]; done) | fail) ?_ | fail)
  refine W_for' l30_0.eq_1 (n := x.ops.length) (fun i s => s.t 17 = .lst .ro (x.ops.map OpD.c) ∧ s.t 18 = .int .i64 x.ops.length ∧ s.t 19 = .int .i64 i ∧ Acc 1 h s.h (s.t 5) ((touchP x.ops i).map natC) ∧ HExt h s.h) ⟨by simp, by simp, by simp, by simpa [touchP] using Acc.nil 1 h h, .refl _⟩ ?_ ?_
  ·rintro i ⟨t, loc, h'⟩ hi ⟨t17, t18, t19, ac, hx⟩
   simp only at t17 t18 t19 ac hx
   have hw := i64_succ (show i < 2 ^ 62 by omega)
   obtain ⟨o, ho⟩ : ∃ o, x.ops[i]? = some o := ⟨x.ops[i], by simp [hi]⟩
   have hoc : o.c = [.int .i64 o.kind, .int .i64 o.bits, .int .i64 o.lanes, .int .i64 o.dst, .lst .ro (o.args.map intC), .int .u64 o.imm] := rfl
   have e1 := touch_run o.kind h'
   have hl1 : ((i : Int) < x.ops.length) := by omega
   by_cases c : 0 ≤ touchM o.kind
   ·have hs := touchP_succ x.ops i
    rw [if_pos (by simp [isTouch, ho, c])] at hs
    obtain ⟨v', h2, e2, ac', x'⟩ := ac.append hx (m := [i].map natC) (tg := .exact) (by simp) (okSize_nat _) (okSize_nat _) (bytes := 8) (by have := touchP_len x.ops i; simp; omega)
    rw [← List.map_append, ← hs] at ac'
    simp only [List.map_cons, List.map_nil, natC] at e2
    repeat' (first | refine W_seq ?_ | refine W_skip ?_ | refine W_block ?_ | refine W_ret ?_ | refine W_exit ?_ | refine W_ops (s1 := ?_) (by simp [t17, t18, t19, hl1, ho, hoc, e1, c, hw, e2]; exact rfl) ?_ | refine W_tops (s1 := ?_) (by simp [t17, t18, t19, hl1, ho, hoc, e1, c, hw, e2]; exact rfl) ?_ | refine W_cond_t (by first | (simp [t17, t18, t19, hl1, ho, hoc, e1, c, hw, e2]; done) | fail) ?_ | refine W_cond_f (by first | (simp [t17, t18, t19, hl1, ho, hoc, e1, c, hw, e2]; done) | fail) ?_ | fail)
    exact .inl ⟨rfl, by simp [t17], by simp [t18], by simp, by simpa using ac', by simpa using x'⟩
   ·have hs := touchP_succ x.ops i
    rw [if_neg (by simp [isTouch, ho, c]), List.append_nil] at hs
    repeat' (first | refine W_seq ?_ | refine W_skip ?_ | refine W_block ?_ | refine W_ret ?_ | refine W_exit ?_ | refine W_ops (s1 := ?_) (by simp [t17, t18, t19, hl1, ho, hoc, e1, c, hw]; exact rfl) ?_ | refine W_tops (s1 := ?_) (by simp [t17, t18, t19, hl1, ho, hoc, e1, c, hw]; exact rfl) ?_ | refine W_cond_t (by first | (simp [t17, t18, t19, hl1, ho, hoc, e1, c, hw]; done) | fail) ?_ | refine W_cond_f (by first | (simp [t17, t18, t19, hl1, ho, hoc, e1, c, hw]; done) | fail) ?_ | fail)
    exact .inl ⟨rfl, by simp [t17], by simp [t18], by simp, by simpa [hs] using ac, by simpa using hx⟩
  ·rintro ⟨t, loc, h'⟩ ⟨t17, t18, t19, ac, hx⟩
   simp only at t17 t18 t19 ac hx
   obtain ⟨tg, hv⟩ := Acc.lst ac
   repeat' (first | refine W_seq ?_ | refine W_skip ?_ | refine W_block ?_ | refine W_ret ?_ | refine W_exit ?_ | refine W_ops (s1 := ?_) (by simp [t17, t18, t19, hv]; exact rfl) ?_ | refine W_tops (s1 := ?_) (by simp [t17, t18, t19, hv]; exact rfl) ?_ | refine W_cond_t (by first | (simp [t17, t18, t19, hv]; done) | fail) ?_ | refine W_cond_f (by first | (simp [t17, t18, t19, hv]; done) | fail) ?_ | fail)
   refine ⟨by simp, ?_⟩
   repeat' (first | refine W_seq ?_ | refine W_skip ?_ | refine W_block ?_ | refine W_ret ?_ | refine W_exit ?_ | refine W_ops (s1 := ?_) (by simp [t17, t18, t19, hv]; exact rfl) ?_ | refine W_tops (s1 := ?_) (by simp [t17, t18, t19, hv]; exact rfl) ?_ | refine W_cond_t (by first | (simp [t17, t18, t19, hv]; done) | fail) ?_ | refine W_cond_f (by first | (simp [t17, t18, t19, hv]; done) | fail) ?_ | fail)
   exact ⟨.inr rfl, [.lst tg ((touchP x.ops x.ops.length).map natC)], by simp [a30, resV, resV1, hv], by simp [a30, packV, V.retag, hF], by simp [V.under, hF, Tag.under], by simpa using hx⟩

end Go.Proofs.YtpbngohpklpalaaGreat

/- Straight functions that are right, by going through them. -/
namespace Go.Proofs.YtpbngohpklpalaaGreat
open Go.LS Go.IntWalk
def lookE : List (Int × DefD) → Int → Option DefD
 | [], _ => none
 | (u, d) :: r, v => if v = u then some d else lookE r v
def usesB (env : List (Int × DefD)) : List (Int × Int) → List Int → Bool
 | [], _ => true
 | s :: l, v :: r => (match lookE env v with
  | some d => decide (d.bits = s.1) && decide (d.lanes = s.2)
  | none => false) && usesB env l r
 | _ :: _, [] => false
def kindB (k : Int) : Bool := (decide (0 ≤ k) && decide (k ≤ 13)) || (decide (k = 16) || (decide (k = 17) || decide (k = 20)))
def stepsB : List OpD → Nat → List (Int × DefD) → Option (List (Int × DefD))
 | [], _, env => some env
 | o :: r, k, env => if (mayOp o && (kindB o.kind && (decide (o.args.length < 64) && (usesB env (takeL o) o.args && (decide ((giveM o).1 ≤ 0) || (lookE env o.dst).isNone))))) = true then
   stepsB r (k + 1) (if 0 < (giveM o).1 then (o.dst, ⟨0, k, (giveM o).1, (giveM o).2⟩) :: env else env) else none
def envP (ps : List Int) : Nat → List (Int × DefD)
 | 0 => []
 | i + 1 => ((i : Int) + 1, ⟨-1, 0, ps.getD i 0, 1⟩) :: envP ps i
def rightB (x : Straight) : Bool := decide (x.ops.length < 1048576) && (x.f.tells && (widthB x.ret && (x.ps.all widthB && (match stepsB x.ops 0 (envP x.ps x.ps.length) with
 | some env => (match lookE env x.arg with
  | some d => decide (d.bits = x.ret) && decide (d.lanes = 1)
  | none => false)
 | none => false))))
theorem lookE_envP (ps : List Int) : ∀ i v, lookE (envP ps i) v = Dp ps i v
 | 0, _ => rfl
 | i + 1, v => by simp only [envP, lookE, Dp]; rw [lookE_envP ps i v]
theorem takes_kind {o : OpD} (hk : kindB o.kind = true) (hi : 0 ≤ o.imm ∧ o.imm < 18446744073709551616) : TakesOK o := by
 obtain ⟨kind, bits, lanes, dst, args, imm⟩ := o
 simp only [kindB, Bool.or_eq_true, Bool.and_eq_true, decide_eq_true_eq] at hk
 have hk : kind = 0 ∨ kind = 1 ∨ kind = 2 ∨ kind = 3 ∨ kind = 4 ∨ kind = 5 ∨ kind = 6 ∨ kind = 7 ∨ kind = 8 ∨ kind = 9 ∨ kind = 10 ∨ kind = 11 ∨ kind = 12 ∨ kind = 13 ∨ kind = 16 ∨ kind = 17 ∨ kind = 20 := by omega
 rcases hk with rfl | rfl | rfl | rfl | rfl | rfl | rfl | rfl | rfl | rfl | rfl | rfl | rfl | rfl | rfl | rfl | rfl
 ·exact takes_0 _ _ _ _ _ hi
 ·exact takes_1 _ _ _ _ _
 ·exact takes_2 _ _ _ _ _
 ·exact takes_3 _ _ _ _ _
 ·exact takes_4 _ _ _ _ _
 ·exact takes_5 _ _ _ _ _
 ·exact takes_6 _ _ _ _ _
 ·exact takes_7 _ _ _ _ _
 ·exact takes_8 _ _ _ _ _
 ·exact takes_9 _ _ _ _ _
 ·exact takes_10 _ _ _ _ _
 ·exact takes_11 _ _ _ _ _
 ·exact takes_12 _ _ _ _ _
 ·exact takes_13 _ _ _ _ _
 ·exact takes_16 _ _ _ _ _
 ·exact takes_17 _ _ _ _ _
 ·exact takes_20 _ _ _ _ _
theorem usesB_at {env : List (Int × DefD)} : ∀ {l : List (Int × Int)} {r : List Int}, usesB env l r = true → ∀ j (hj : j < l.length), ∃ v d, r[j]? = some v ∧ lookE env v = some d ∧ d.bits = l[j].1 ∧ d.lanes = l[j].2
 | [], _, _, j, hj => by simp at hj
 | s :: l, [], h, _, _ => by simp [usesB] at h
 | s :: l, v :: r, h, j, hj => by
  simp only [usesB, Bool.and_eq_true] at h
  obtain ⟨h1, h2⟩ := h
  cases j with
  | zero =>
   cases hl : lookE env v with
   | none => rw [hl] at h1; simp at h1
   | some d =>
    rw [hl] at h1
    simp only [Bool.and_eq_true, decide_eq_true_eq] at h1
    exact ⟨v, d, rfl, hl, h1.1, h1.2⟩
  | succ j => exact usesB_at h2 j (by simpa using hj)
structure Gone (x : Straight) (k : Nat) (env : List (Int × DefD)) : Prop where
 look : ∀ v, lookE env v = Do x k v
 block : ∀ v d, Do x k v = some d → d.block < 0 ∨ (d.block = 0 ∧ d.at_ < k)
theorem do_succ {x : Straight} {k : Nat} (hk : k < x.ops.length) : Do x (k + 1) = if 0 < (giveM x.ops[k]).1 then fun j => if j = x.ops[k].dst then some ⟨0, k, (giveM x.ops[k]).1, (giveM x.ops[k]).2⟩ else Do x k j else Do x k := by
 simp only [Do, List.getElem?_eq_getElem hk]
theorem do_mono {x : Straight} (once : ∀ k (hk : k < x.ops.length), 0 < (giveM x.ops[k]).1 → Do x k x.ops[k].dst = none) {k : Nat} {v : Int} {d : DefD} (h : Do x k v = some d) : ∀ n, k + n ≤ x.ops.length → Do x (k + n) v = some d
 | 0, _ => h
 | n + 1, hn => by
  have hk : k + n < x.ops.length := by omega
  have ih := do_mono once h n (by omega)
  rw [← Nat.add_assoc, do_succ hk]
  split
  ·rename_i hg
   have := once (k + n) hk hg
   by_cases hv : v = x.ops[k + n].dst
   ·rw [← hv, ih] at this; cases this
   ·simp only [hv, if_false]; exact ih
  ·exact ih
theorem steps_gone {x : Straight} : ∀ (l : List OpD) (k : Nat) (env env' : List (Int × DefD)), x.ops.drop k = l → k ≤ x.ops.length → Gone x k env → stepsB l k env = some env' →
  Gone x x.ops.length env' ∧ (∀ o ∈ l, mayOp o = true ∧ kindB o.kind = true ∧ o.args.length < 64) ∧ (∀ i (hi : i < x.ops.length), k ≤ i → 0 < (giveM x.ops[i]).1 → Do x i x.ops[i].dst = none) ∧
  (∀ i (hi : i < x.ops.length), k ≤ i → ∀ j (hj : j < (takeL x.ops[i]).length), ∃ v d, x.ops[i].args[j]? = some v ∧ Do x i v = some d ∧ d.bits = (takeL x.ops[i])[j].1 ∧ d.lanes = (takeL x.ops[i])[j].2 ∧ (d.block < 0 ∨ (d.block = 0 ∧ d.at_ < i)))
 | [], k, env, env', hl, hk, g, h => by
  have : k = x.ops.length := by
   have := congrArg List.length hl
   simp at this
   omega
  subst this
  simp only [stepsB, Option.some.injEq] at h
  subst h
  exact ⟨g, by simp, fun i hi h => by omega, fun i hi h => by omega⟩
 | o :: l, k, env, env', hl, hk, g, h => by
  have hlt : k < x.ops.length := by
   have := congrArg List.length hl
   simp at this
   omega
  have ho : x.ops[k] = o ∧ x.ops.drop (k + 1) = l := by
   rw [List.drop_eq_getElem_cons hlt] at hl
   injection hl with h1 h2
   exact ⟨h1, h2⟩
  unfold stepsB at h
  split at h
  ·rename_i hc
   simp only [Bool.and_eq_true, decide_eq_true_eq, Bool.or_eq_true] at hc
   obtain ⟨c1, c2, c3, c4, c5⟩ := hc
   have once : 0 < (giveM o).1 → Do x k o.dst = none := fun hg => by
    rcases c5 with c5 | c5
    ·omega
    ·rw [g.look] at c5; simpa using c5
   have g' : Gone x (k + 1) (if 0 < (giveM o).1 then (o.dst, ⟨0, k, (giveM o).1, (giveM o).2⟩) :: env else env) := by
    constructor
    ·intro v
     rw [do_succ hlt, ho.1]
     split
     ·simp only [lookE]; rw [g.look]
     ·exact g.look v
    ·intro v d hd
     rw [do_succ hlt, ho.1] at hd
     split at hd
     ·simp only [] at hd
      split at hd
      ·injection hd with hd; subst hd; exact .inr ⟨rfl, by simp only []; omega⟩
      ·rcases g.block v d hd with h1 | ⟨h1, h2⟩
       ·exact .inl h1
       ·exact .inr ⟨h1, by omega⟩
     ·rcases g.block v d hd with h1 | ⟨h1, h2⟩
      ·exact .inl h1
      ·exact .inr ⟨h1, by omega⟩
   obtain ⟨r1, r2, r3, r4⟩ := steps_gone l (k + 1) _ env' ho.2 (by omega) g' h
   refine ⟨r1, ?_, ?_, ?_⟩
   ·intro o' ho'
    rcases List.mem_cons.1 ho' with rfl | ho'
    ·exact ⟨c1, c2, c3⟩
    ·exact r2 o' ho'
   ·intro i hi hki hg
    by_cases e : i = k
    ·subst e; rw [ho.1] at hg ⊢; exact once hg
    ·exact r3 i hi (by omega) hg
   ·intro i hi hki j hj
    by_cases e : i = k
    ·subst e
     have hj' : j < (takeL o).length := by rw [ho.1] at hj; exact hj
     obtain ⟨v, d, u1, u2, u3, u4⟩ := usesB_at c4 j hj'
     rw [g.look] at u2
     exact ⟨v, d, by rw [ho.1]; exact u1, u2, by rw [u3]; simp only [ho.1], by rw [u4]; simp only [ho.1], g.block v d u2⟩
    ·exact r4 i hi (by omega) j hj
  ·cases h
theorem right_of_B {x : Straight} (h : rightB x = true) (hi : ∀ o ∈ x.ops, 0 ≤ o.imm ∧ o.imm < 18446744073709551616) : x.Right := by
 simp only [rightB, Bool.and_eq_true, decide_eq_true_eq] at h
 obtain ⟨h1, h2, h3, h4, h5⟩ := h
 cases hs : stepsB x.ops 0 (envP x.ps x.ps.length) with
 | none => rw [hs] at h5; simp at h5
 | some env =>
  rw [hs] at h5
  simp only [] at h5
  have g0 : Gone x 0 (envP x.ps x.ps.length) := by
   refine ⟨fun v => lookE_envP _ _ _, fun v d hd => ?_⟩
   have : ∀ i, Dp x.ps i v = some d → d.block < 0 := by
    intro i
    induction i with
    | zero => intro h; simp [Dp] at h
    | succ i ih =>
     intro h
     simp only [Dp] at h
     split at h
     ·injection h with h; subst h; show (-1 : Int) < 0; omega
     ·exact ih h
   exact .inl (this _ hd)
  obtain ⟨g, r2, r3, r4⟩ := steps_gone x.ops 0 _ env (by simp) (by omega) g0 hs
  have once : ∀ k (hk : k < x.ops.length), 0 < (giveM x.ops[k]).1 → Do x k x.ops[k].dst = none := fun k hk hg => r3 k hk (by omega) hg
  have ht := h2
  simp only [FuncD.tells, Bool.and_eq_true, decide_eq_true_eq] at ht
  refine ⟨⟨by have : x.ps.length ≤ 16 := ht.2.2.1; show x.ps.length < 2 ^ 40; omega, by simp [Straight.f], fun b hb => ?_⟩, h2, fun o ho => takes_kind (r2 o ho).2.1 (hi o ho), h3, fun p hp => List.all_eq_true.1 h4 p hp, fun o ho => (r2 o ho).1, once, ?_, ?_⟩
  ·simp only [Straight.f, List.mem_cons, List.not_mem_nil, or_false] at hb
   subst hb
   exact ⟨by simp [Straight.b], by simp only [Straight.b]; omega, by simp [Straight.b], fun p hp => by simp [Straight.b] at hp, fun o ho => by have := (r2 o ho).2.2; simp only [OpD.Fit]; omega⟩
  ·intro k hk j hj
   obtain ⟨v, d, u1, u2, u3, u4, u5⟩ := r4 k hk (by omega) j hj
   refine ⟨v, d, u1, ?_, u3, u4, u5⟩
   have := do_mono once u2 (x.ops.length - k) (by omega)
   rw [show k + (x.ops.length - k) = x.ops.length by omega] at this
   exact this
  ·cases hl : lookE env x.arg with
   | none => rw [hl] at h5; simp at h5
   | some d =>
    rw [hl] at h5
    simp only [Bool.and_eq_true, decide_eq_true_eq] at h5
    rw [g.look] at hl
    refine ⟨d, hl, h5.1, h5.2, ?_⟩
    rcases g.block _ _ hl with h1 | ⟨h1, h2⟩
    ·exact .inl h1
    ·exact .inr ⟨h1, by omega⟩

def OpD.zero (o : OpD) : OpD := if o.kind = 0 then { o with imm := 0 } else o
def Straight.zero (x : Straight) : Straight := { x with ops := x.ops.map OpD.zero }
def OpD.cutB (o : OpD) : Prop := o.kind = 0 → cutU o.imm o.bits = o.imm
theorem takesM_zero {o : OpD} (h : o.cutB) (hb : widthB o.bits = true) : takesM o.zero = takesM o := by
 unfold OpD.zero
 split
 ·rename_i hk
  have hz : cutU 0 o.bits = 0 := by
   have := width_cases hb
   unfold cutU
   rcases this with h | h | h | h | h <;> rw [h] <;> rfl
  simp only [takesM, hk, if_true, h hk, hz]
 ·rfl
theorem mayOp_zero {o : OpD} (h : o.cutB) : mayOp o.zero = mayOp o := by
 have e1 : o.zero.bits = o.bits ∧ o.zero.lanes = o.lanes ∧ o.zero.dst = o.dst ∧ o.zero.args = o.args ∧ o.zero.kind = o.kind := by unfold OpD.zero; split <;> simp
 obtain ⟨a1, a2, a3, a4, a5⟩ := e1
 unfold mayOp dstB
 rw [a1, a2, a3, a4, a5]
 by_cases hs : shapeB o.bits o.lanes = true
 ·have hb : widthB o.bits = true := by
   simp only [shapeB, Bool.and_eq_true] at hs
   exact hs.1
  rw [takesM_zero h hb]
 ·simp only [Bool.not_eq_true] at hs
  rw [hs]; rfl
theorem zero_eqs (o : OpD) : o.zero.bits = o.bits ∧ o.zero.lanes = o.lanes ∧ o.zero.dst = o.dst ∧ o.zero.args = o.args ∧ o.zero.kind = o.kind := by unfold OpD.zero; split <;> simp
theorem takeL_zero {o : OpD} (h : o.cutB) : takeL o.zero = takeL o := by
 unfold takeL
 rw [mayOp_zero h]
 split
 ·rename_i hm
  have hb : widthB o.bits = true := by
   simp only [mayOp, shapeB, Bool.and_eq_true] at hm
   exact hm.1.1
  rw [takesM_zero h hb]
 ·rfl
theorem giveM_zero {o : OpD} (h : o.cutB) : giveM o.zero = giveM o := by
 obtain ⟨a1, a2, a3, a4, a5⟩ := zero_eqs o
 unfold giveM
 rw [mayOp_zero h, a1, a2, a5]
theorem stepsB_zero : ∀ (l : List OpD), (∀ o ∈ l, o.cutB) → ∀ k env, stepsB (l.map OpD.zero) k env = stepsB l k env
 | [], _, _, _ => rfl
 | o :: l, h, k, env => by
  have ho := h o (by simp)
  obtain ⟨a1, a2, a3, a4, a5⟩ := zero_eqs o
  simp only [List.map_cons, stepsB, mayOp_zero ho, takeL_zero ho, giveM_zero ho, a3, a4, a5]
  rw [stepsB_zero l (fun o h' => h o (by simp [h']))]
theorem any_zero (l : List OpD) : (l.map OpD.zero).any badOp = l.any badOp := by
 rw [List.any_map]
 congr 1
 funext o
 obtain ⟨a1, a2, a3, a4, a5⟩ := zero_eqs o
 simp only [Function.comp, badOp, a1, a2, a3, a4, a5]
theorem rightB_zero {x : Straight} (h : ∀ o ∈ x.ops, o.cutB) : rightB x.zero = rightB x := by
 have ht : x.zero.f.tells = x.f.tells := by
  simp only [FuncD.tells, Straight.f, Straight.b, Straight.zero, FuncD.size, szS, szB, List.length_map, List.any_cons, List.any_nil, badBlock, any_zero, List.length_cons, List.length_nil]
  rfl
 unfold rightB
 rw [ht]
 simp only [Straight.zero, List.length_map, stepsB_zero x.ops h]
 rfl
theorem right_of_zero {x : Straight} (h : rightB x.zero = true) (hc : ∀ o ∈ x.ops, o.cutB) (hi : ∀ o ∈ x.ops, 0 ≤ o.imm ∧ o.imm < 18446744073709551616) : x.Right :=
 right_of_B (by rw [← rightB_zero hc]; exact h) hi

end Go.Proofs.YtpbngohpklpalaaGreat

/- Which places are apart, of straight functions. -/
namespace Go.Proofs.YtpbngohpklpalaaGreat
open Go.LS Go.IntWalk
theorem checkS_run (x : Straight) (R : x.Right) (h : LS.Heap) : callD T 96 [.agg x.f.c, .int .i64 2] h = some (.int .i64 0, h) := by
 obtain ⟨h', m, e, hx, _⟩ := look_run tree_one x R h
 have hfc : x.f.c = [.lst .ro (x.f.params.map intC), .int .i64 x.f.ret, .lst .ro (x.f.blocks.map BlockD.c)] := rfl
 rw [hfc] at e ⊢
 refine W_call t96 rfl rfl (by simp) ?_
 show W T c96 _ _
 unfold c96
 repeat' (first | refine W_seq ?_ | refine W_skip ?_ | refine W_block ?_ | refine W_ret ?_ | refine W_exit ?_ | refine W_ops (s1 := ?_) (by simp [a96, nextVer, e]; exact rfl) ?_ | refine W_tops (s1 := ?_) (by simp [a96, nextVer, e]; exact rfl) ?_ | refine W_cond_t (by first | (simp [a96, nextVer, e]; done) | fail) ?_ | refine W_cond_f (by first | (simp [a96, nextVer, e]; done) | fail) ?_ | fail)
 exact ⟨.inr rfl, [.int .i64 0], by simp [a96, resV, resV1], by simp [a96, packV], rfl, by simpa using hx⟩
theorem touch_takes {o : OpD} (h : 0 ≤ touchM o.kind) (hm : mayOp o = true) : ∃ hl : (touchM o.kind).toNat < (takeL o).length, (takeL o)[(touchM o.kind).toNat] = (64, 1) := by
 have ht : takeL o = (takesM o).1 := by simp only [takeL]; rw [if_pos hm]
 have hk : o.kind = 16 ∨ o.kind = 17 ∨ o.kind = 18 ∨ o.kind = 19 := by
  unfold touchM at h
  split at h
  ·omega
  ·split at h
   ·omega
   ·omega
 rcases hk with e | e | e | e <;> simp [ht, takesM, touchM, e]
theorem knownS {x : Straight} (R : x.Right) (himm : ∀ o ∈ x.ops, 0 ≤ o.imm) {F : Int → FormD} (hs : ∀ v, (F v).1.length < 2 ^ 40)
  (hF : ∀ o ∈ x.ops, 0 ≤ touchM o.kind → ∀ v, o.args[(touchM o.kind).toNat]? = some v → FormOf x.O v (F v)) : Known x.f true F where
 fit := R.fit
 check := fun h => ⟨0, checkS_run x R h, by simp⟩
 short := hs
 form := by
  intro _ b hb o ho ht v hv h
  simp only [Straight.f, List.mem_cons, List.not_mem_nil, or_false] at hb
  subst hb
  have ho : o ∈ x.ops := ho
  obtain ⟨hl, he⟩ := touch_takes ht (R.ops o ho)
  obtain ⟨k, hk, rfl⟩ := List.getElem_of_mem ho
  obtain ⟨v', d, u1, u2, u3, u4, _⟩ := R.uses k hk _ hl
  rw [hv] at u1
  injection u1 with u1
  subst u1
  rw [he] at u3 u4
  exact ⟨0, Of_yes tree_one x R v h u2 u3 u4 (hF _ ho ht v hv) himm⟩
 args := by
  intro _ b hb o ho ht
  simp only [Straight.f, List.mem_cons, List.not_mem_nil, or_false] at hb
  subst hb
  have ho : o ∈ x.ops := ho
  obtain ⟨hl, _⟩ := touch_takes ht (R.ops o ho)
  obtain ⟨k, hk, rfl⟩ := List.getElem_of_mem ho
  obtain ⟨v', d, u1, _⟩ := R.uses k hk _ hl
  exact (List.getElem?_eq_some_iff.1 u1).1

end Go.Proofs.YtpbngohpklpalaaGreat

/- Lists of numbers that are the same; which places are apart: the laws' own example. -/
namespace Go.Proofs.YtpbngohpklpalaaGreat
open Go.LS Go.IntWalk
theorem Ints_run (ta tb : Tag) (a b : List Int) (ha : a.length < 2 ^ 62) (hb : b.length < 2 ^ 62) (h : LS.Heap) : callD T 29 [.lst ta (a.map intC), .lst tb (b.map intC)] h = some (.bool (decide (a = b)), h) := by
 have fin : ∀ (e : AExit) (v : Bool) (s : St), (e = .normal ∨ e = .ret) → s.t 4 = .bool v → s.h = h → decide (a = b) = v → (e = AExit.normal ∨ e = AExit.ret) ∧ ∃ vs, resV s a29.res = some vs ∧ (if a29.keepR = true then packV vs else (packV vs).retag) = .bool (decide (a = b)) ∧ V.under h.next (.bool (decide (a = b))) = true ∧ HExt h s.h := fun e v s he h2 hh hb =>
  ⟨he, [.bool v], by simp [a29, resV, resV1, h2], by simp [a29, packV, hb], rfl, by rw [hh]; exact .refl _⟩
 refine W_call t29 rfl rfl (by simp) ?_
 show W T c29 _ _
 unfold c29
 by_cases hl : a.length = b.length
 ·have hl' : (a.length : Int) = b.length := by omega
  repeat' (first | refine W_seq ?_ | refine W_skip ?_ | refine W_block ?_ | refine W_ret ?_ | refine W_exit ?_ | refine W_ops (s1 := ?_) (by simp [a29, hl', hl]; exact rfl) ?_ | refine W_tops (s1 := ?_) (by simp [a29, hl', hl]; exact rfl) ?_ | refine W_cond_t (by first | (simp [a29, hl', hl]; done) | fail) ?_ | refine W_cond_f (by first | (simp [a29, hl', hl]; done) | fail) ?_ | fail)
  refine W_for' l29_0.eq_1 (n := a.length) (fun i s => s.t 0 = .lst .ro (a.map intC) ∧ s.t 1 = .lst .ro (b.map intC) ∧ s.t 5 = .int .i64 i ∧ s.h = h ∧ a.take i = b.take i) ⟨by simp, by simp, by simp, rfl, by simp⟩ ?_ ?_
  ·rintro i ⟨t, loc, h'⟩ hi ⟨t0, t1, t5, rfl, ht⟩
   simp only at t0 t1 t5
   have hw := i64_succ (show i < 2 ^ 62 by omega)
   have hl1 : ((i : Int) < a.length) := by omega
   have hib : i < b.length := by omega
   have ga : (a.map intC)[i]? = some [.int .i64 a[i]] := by simp [intC, hi]
   have gb : (b.map intC)[i]? = some [.int .i64 b[i]] := by simp [intC, hib]
   generalize ha' : a.map intC = A at *
   generalize hb' : b.map intC = B at *
   have hAl : (A.length : Int) = a.length := by rw [← ha']; simp
   by_cases c : a[i] = b[i]
   ·skip
    repeat' (first | refine W_seq ?_ | refine W_skip ?_ | refine W_block ?_ | refine W_ret ?_ | refine W_exit ?_ | refine W_ops (s1 := ?_) (by simp [t0, t1, t5, hl1, hAl, ga, gb, c, hw]; exact rfl) ?_ | refine W_tops (s1 := ?_) (by simp [t0, t1, t5, hl1, hAl, ga, gb, c, hw]; exact rfl) ?_ | refine W_cond_t (by first | (simp [t0, t1, t5, hl1, hAl, ga, gb, c, hw]; done) | fail) ?_ | refine W_cond_f (by first | (simp [t0, t1, t5, hl1, hAl, ga, gb, c, hw]; done) | fail) ?_ | fail)
    refine .inl ⟨rfl, by simp [t0], by simp [t1], by simp, rfl, ?_⟩
    rw [List.take_succ_eq_append_getElem hi, List.take_succ_eq_append_getElem hib, ht, c]
   ·skip
    repeat' (first | refine W_seq ?_ | refine W_skip ?_ | refine W_block ?_ | refine W_ret ?_ | refine W_exit ?_ | refine W_ops (s1 := ?_) (by simp [t0, t1, t5, hl1, hAl, ga, gb, c, hw]; exact rfl) ?_ | refine W_tops (s1 := ?_) (by simp [t0, t1, t5, hl1, hAl, ga, gb, c, hw]; exact rfl) ?_ | refine W_cond_t (by first | (simp [t0, t1, t5, hl1, hAl, ga, gb, c, hw]; done) | fail) ?_ | refine W_cond_f (by first | (simp [t0, t1, t5, hl1, hAl, ga, gb, c, hw]; done) | fail) ?_ | fail)
    refine .inr ⟨by simp, fin _ false _ (.inr rfl) (by simp) rfl ?_⟩
    rw [decide_eq_false_iff_not]
    intro e
    subst e
    exact c rfl
  ·rintro ⟨t, loc, h'⟩ ⟨t0, t1, t5, rfl, ht⟩
   simp only at t0 t1 t5
   have he : a = b := by rw [List.take_length] at ht; rw [hl, List.take_length] at ht; exact ht
   repeat' (first | refine W_seq ?_ | refine W_skip ?_ | refine W_block ?_ | refine W_ret ?_ | refine W_exit ?_ | refine W_ops (s1 := ?_) (by simp [t0, t1, t5]; exact rfl) ?_ | refine W_tops (s1 := ?_) (by simp [t0, t1, t5]; exact rfl) ?_ | refine W_cond_t (by first | (simp [t0, t1, t5]; done) | fail) ?_ | refine W_cond_f (by first | (simp [t0, t1, t5]; done) | fail) ?_ | fail)
   refine ⟨by simp, ?_⟩
   repeat' (first | refine W_seq ?_ | refine W_skip ?_ | refine W_block ?_ | refine W_ret ?_ | refine W_exit ?_ | refine W_ops (s1 := ?_) (by simp; exact rfl) ?_ | refine W_tops (s1 := ?_) (by simp; exact rfl) ?_ | refine W_cond_t (by first | (simp; done) | fail) ?_ | refine W_cond_f (by first | (simp; done) | fail) ?_ | fail)
   exact fin _ true _ (.inr rfl) (by simp) rfl (by simp [he])
 ·have hl' : ¬ (a.length : Int) = b.length := by omega
  repeat' (first | refine W_seq ?_ | refine W_skip ?_ | refine W_block ?_ | refine W_ret ?_ | refine W_exit ?_ | refine W_ops (s1 := ?_) (by simp [a29, hl', hl]; exact rfl) ?_ | refine W_tops (s1 := ?_) (by simp [a29, hl', hl]; exact rfl) ?_ | refine W_cond_t (by first | (simp [a29, hl', hl]; done) | fail) ?_ | refine W_cond_f (by first | (simp [a29, hl', hl]; done) | fail) ?_ | fail)
  exact fin _ false _ (.inr rfl) (by simp) rfl (by rw [decide_eq_false_iff_not]; intro e; exact hl (by rw [e]))
theorem raw_call {G : FuncId} {af : AFn} (ht : T G = some af) (he : af.ext = none) (hk : af.keepA = false) {raw : List V} {f : FuncD} (hr : V.retagL raw = f.c) {rest : List V} (hfree : rest.all V.free = true) (h : LS.Heap) :
  callD T G (.agg raw :: rest) h = callD T G (.agg f.c :: rest) h :=
 callD_retag ht he hk (by simp [V.free, hfree]) (by simp [V.free, hfree]) (by simp [V.retag, hr])

def bwF : Straight := ⟨[64], 32, [⟨0, 64, 1, 2, [], 4⟩, ⟨1, 64, 1, 3, [1, 2], 0⟩, ⟨16, 32, 1, 4, [1], 0⟩, ⟨16, 32, 1, 5, [3], 0⟩], 5⟩
def bwG (v : Int) : FormD := if v = 3 then ([(1, 1)], 4) else ([(1, 1)], 0)
theorem bw_cases {P : OpD → Prop} (h : P ⟨0, 64, 1, 2, [], 4⟩ ∧ P ⟨1, 64, 1, 3, [1, 2], 0⟩ ∧ P ⟨16, 32, 1, 4, [1], 0⟩ ∧ P ⟨16, 32, 1, 5, [3], 0⟩) : ∀ o ∈ bwF.ops, P o := by
 intro o ho
 simp only [bwF, List.mem_cons, List.not_mem_nil, or_false] at ho
 rcases ho with rfl | rfl | rfl | rfl
 ·exact h.1
 ·exact h.2.1
 ·exact h.2.2.1
 ·exact h.2.2.2
theorem bw_right : bwF.Right := right_of_B (by kernel_rfl) (bw_cases (by simp))
theorem bw_known : Known bwF.f true bwG := by
 have f1 : FormOf bwF.O 1 ([(1, 1)], 0) := .none rfl
 have f2 : FormOf bwF.O 2 ([], 4) := .const (o := ⟨0, 64, 1, 2, [], 4⟩) rfl rfl rfl rfl
 have f3 : FormOf bwF.O 3 ([(1, 1)], 4) := by
  have f := FormOf.two (o := ⟨1, 64, 1, 3, [1, 2], 0⟩) (O := bwF.O) (v := 3) rfl rfl rfl (by simp) (by simp) rfl f1 f2
  have c : capF 3 (twoF 1 ([(1, 1)], 0) ([], 4)) = ([(1, 1)], 4) := by
   unfold twoF; rw [if_pos rfl]; unfold plusM
   rw [if_pos ⟨may_1 _ _ (by omega), rfl⟩, both_l]
   rfl
  rw [c] at f
  exact f
 refine knownS bw_right (bw_cases (by simp)) (fun v => by unfold bwG; split <;> simp) (bw_cases ⟨?_, ?_, ?_, ?_⟩)
 ·simp [touchM]
 ·simp [touchM]
 ·intro _ v hv
  have : v = 1 := by simpa [touchM] using hv.symm
  subst this
  exact f1
 ·intro _ v hv
  have : v = 3 := by simpa [touchM] using hv.symm
  subst this
  exact f3
def bwRaw : List V := [.lst .exact [[.int .i64 64]], .int .i64 32, .lst .exact [[.lst .nil [], .lst .exact [[.int .i64 0, .int .i64 64, .int .i64 1, .int .i64 2, .lst .nil [], .int .u64 4], [.int .i64 1, .int .i64 64, .int .i64 1, .int .i64 3, .lst .exact [[.int .i64 1], [.int .i64 2]], .int .u64 0],
 [.int .i64 16, .int .i64 32, .int .i64 1, .int .i64 4, .lst .exact [[.int .i64 1]], .int .u64 0], [.int .i64 16, .int .i64 32, .int .i64 1, .int .i64 5, .lst .exact [[.int .i64 3]], .int .u64 0]], .int .i64 0, .int .i64 5, .lst .nil []]]]
theorem awakeB_run (h : LS.Heap) : callD T 21 [] h = some (.bool true, h) := by
 have hr : V.retagL bwRaw = bwF.f.c := rfl
 have e1 := (raw_call t22 rfl rfl hr (rest := [.int .i64 0, .int .i64 3]) rfl h).trans (Address_run bw_known 0 3 h)
 have e2 := (raw_call t24 rfl rfl hr (rest := [.int .i64 0, .int .i64 3, .int .i64 2]) rfl h).trans (Distance_run bw_known 0 3 2 h)
 have e3 := (raw_call t28 rfl rfl hr (rest := [.int .i64 0, .int .i64 2, .int .i64 3]) rfl h).trans (Follows_run bw_known 0 2 3 h)
 have e4 := (raw_call t28 rfl rfl hr (rest := [.int .i64 0, .int .i64 3, .int .i64 2]) rfl h).trans (Follows_run bw_known 0 3 2 h)
 have e5 := (raw_call t26 rfl rfl hr (rest := [.int .i64 0, .int .i64 3, .int .i64 2]) rfl h).trans (Apart_run bw_known 0 3 2 h)
 have e6 := (raw_call t26 rfl rfl hr (rest := [.int .i64 0, .int .i64 2, .int .i64 2]) rfl h).trans (Apart_run bw_known 0 2 2 h)
 have e7 := (raw_call t30 rfl rfl hr (rest := [.int .i64 0]) rfl h).trans (Touches_run bw_known 0 h)
 rw [show addrF bwF.f true 0 3 = some (3, 4) by kernel_rfl] at e1
 rw [show distF bwF.f true bwG 0 3 2 = some (18446744073709551612, 4, 4) by kernel_rfl] at e2
 rw [show followsF bwF.f true bwG 0 2 3 = true by kernel_rfl] at e3
 rw [show followsF bwF.f true bwG 0 3 2 = false by kernel_rfl] at e4
 rw [show apartF bwF.f true bwG 0 3 2 = true by kernel_rfl] at e5
 rw [show apartF bwF.f true bwG 0 2 2 = false by kernel_rfl] at e6
 rw [show touchesF bwF.f true 0 = [2, 3] by kernel_rfl] at e7
 have e8 := Ints_run .ro .exact [2, 3] [2, 3] (by simp) (by simp) h
 simp only [addrV, bwRaw, List.map_cons, List.map_nil, natC, intC] at e1 e2 e3 e4 e5 e6 e7 e8
 refine W_call t21 rfl rfl (by simp) ?_
 show W T c21 _ _
 unfold c21
 repeat' (first | refine W_seq ?_ | refine W_skip ?_ | refine W_block ?_ | refine W_ret ?_ | refine W_exit ?_ | refine W_ops (s1 := ?_) (by simp [a21, nextVer, e1, e2, e3, e4, e5, e6, e7, e8]; exact rfl) ?_ | refine W_tops (s1 := ?_) (by simp [a21, nextVer, e1, e2, e3, e4, e5, e6, e7, e8]; exact rfl) ?_ | refine W_cond_t (by first | (simp [a21, nextVer, e1, e2, e3, e4, e5, e6, e7, e8]; done) | fail) ?_ | refine W_cond_f (by first | (simp [a21, nextVer, e1, e2, e3, e4, e5, e6, e7, e8]; done) | fail) ?_ | fail)
 exact ⟨.inr rfl, [.bool true], by simp [a21, resV, resV1], by simp [a21, packV], by simp [V.under, V.underL, V.underLL], by first | exact .refl _ | (simp; exact .refl _) | (simp; assumption) | assumption⟩

end Go.Proofs.YtpbngohpklpalaaGreat

/- The law of places that hang on different values: it answers true. -/
namespace Go.Proofs.YtpbngohpklpalaaGreat
open Go.LS Go.IntWalk
def otF (k : Int) : Straight := ⟨[64, 64], 8, [⟨0, 64, 1, 3, [], k⟩, ⟨1, 64, 1, 4, [1, 3], 0⟩, ⟨1, 64, 1, 5, [4, 2], 0⟩, ⟨2, 64, 1, 6, [5, 2], 0⟩, ⟨16, 8, 1, 7, [4], 0⟩, ⟨16, 8, 1, 8, [6], 0⟩, ⟨16, 8, 1, 9, [5], 0⟩, ⟨16, 8, 1, 10, [1], 0⟩], 10⟩
def otG (k : Int) (v : Int) : FormD := if v = 1 then ([(1, 1)], 0) else if v = 5 then ([(1, 1), (2, 1)], k) else ([(1, 1)], k)

section
variable (k : Int)
theorem ot_cases {P : OpD → Prop} (h : P ⟨0, 64, 1, 3, [], k⟩ ∧ P ⟨1, 64, 1, 4, [1, 3], 0⟩ ∧ P ⟨1, 64, 1, 5, [4, 2], 0⟩ ∧ P ⟨2, 64, 1, 6, [5, 2], 0⟩ ∧ P ⟨16, 8, 1, 7, [4], 0⟩ ∧ P ⟨16, 8, 1, 8, [6], 0⟩ ∧ P ⟨16, 8, 1, 9, [5], 0⟩ ∧ P ⟨16, 8, 1, 10, [1], 0⟩) : ∀ o ∈ (otF k).ops, P o := by
 intro o ho
 simp only [otF, List.mem_cons, List.not_mem_nil, or_false] at ho
 obtain ⟨h0, h1, h2, h3, h4, h5, h6, h7⟩ := h
 rcases ho with rfl | rfl | rfl | rfl | rfl | rfl | rfl | rfl <;> assumption
theorem ot_right (hk : 0 ≤ k ∧ k < 65536) : (otF k).Right := by
 refine right_of_zero (by kernel_rfl) (ot_cases k ?_) (ot_cases k ?_)
 ·simp [OpD.cutB, cutU]
 ·simp; omega
theorem ot_forms (hk : 0 ≤ k ∧ k < 65536) : FormOf (otF k).O 1 (otG k 1) ∧ FormOf (otF k).O 4 (otG k 4) ∧ FormOf (otF k).O 5 (otG k 5) ∧ FormOf (otF k).O 6 (otG k 6) := by
 have wk : IntKind.u64.wrap k = k := by rw [u64_wrap]; omega
 have wk0 : ∀ n, 0 ≤ n ∧ n < 65536 → IntKind.u64.wrap n = n := fun n hn => by rw [u64_wrap]; omega
 have f1 : FormOf (otF k).O 1 ([(1, 1)], 0) := .none rfl
 have f2 : FormOf (otF k).O 2 ([(2, 1)], 0) := .none rfl
 have f3 : FormOf (otF k).O 3 ([], k) := .const (o := ⟨0, 64, 1, 3, [], k⟩) rfl rfl rfl rfl
 have f4 : FormOf (otF k).O 4 ([(1, 1)], k) := by
  have f := FormOf.two (o := ⟨1, 64, 1, 4, [1, 3], 0⟩) (O := (otF k).O) (v := 4) rfl rfl rfl (by simp) (by simp) rfl f1 f3
  have c : capF 4 (twoF 1 ([(1, 1)], 0) ([], k)) = ([(1, 1)], k) := by
   unfold twoF; rw [if_pos rfl]; unfold plusM
   rw [if_pos ⟨may_1 _ _ (by omega), rfl⟩, both_l]
   unfold addU
   rw [Int.zero_add, wk]
   rfl
  rw [c] at f
  exact f
 have m5 : mayL 0 [(1, 1), (2, 1)] = true := rfl
 have f5 : FormOf (otF k).O 5 ([(1, 1), (2, 1)], k) := by
  have f := FormOf.two (o := ⟨1, 64, 1, 5, [4, 2], 0⟩) (O := (otF k).O) (v := 5) rfl rfl rfl (by simp) (by simp) rfl f4 f2
  have c : capF 5 (twoF 1 ([(1, 1)], k) ([(2, 1)], 0)) = ([(1, 1), (2, 1)], k) := by
   unfold twoF; rw [if_pos rfl]; unfold plusM
   rw [if_pos ⟨may_1 _ _ (by omega), may_1 _ _ (by omega)⟩]
   rw [bothL, if_pos (by omega), bothL]
   simp only [addU, both_nil, Int.add_zero, wk]
   rfl
  rw [c] at f
  exact f
 have f6 : FormOf (otF k).O 6 ([(1, 1)], k) := by
  have f := FormOf.two (o := ⟨2, 64, 1, 6, [5, 2], 0⟩) (O := (otF k).O) (v := 6) rfl rfl rfl (by simp) (by simp) rfl f5 f2
  have c : capF 6 (twoF 2 ([(1, 1), (2, 1)], k) ([(2, 1)], 0)) = ([(1, 1)], k) := by
   unfold twoF; rw [if_neg (by decide), if_pos rfl]; unfold minusM
   rw [if_pos ⟨m5, may_1 _ _ (by omega)⟩]
   rw [bothL, if_pos (by omega), both_2]
   simp only [subU, Int.sub_zero, wk]
   rfl
  rw [c] at f
  exact f
 exact ⟨f1, f4, f5, f6⟩
theorem ot_known (hk : 0 ≤ k ∧ k < 65536) : Known (otF k).f true (otG k) := by
 obtain ⟨f1, f4, f5, f6⟩ := ot_forms k hk
 refine knownS (ot_right k hk) (ot_cases k (by simp; omega)) (fun v => by unfold otG; split <;> (try split) <;> simp) (ot_cases k ⟨?_, ?_, ?_, ?_, ?_, ?_, ?_, ?_⟩)
 ·simp [touchM]
 ·simp [touchM]
 ·simp [touchM]
 ·simp [touchM]
 ·intro _ v hv
  have : v = 4 := by simpa [touchM] using hv.symm
  subst this; exact f4
 ·intro _ v hv
  have : v = 6 := by simpa [touchM] using hv.symm
  subst this; exact f6
 ·intro _ v hv
  have : v = 5 := by simpa [touchM] using hv.symm
  subst this; exact f5
 ·intro _ v hv
  have : v = 1 := by simpa [touchM] using hv.symm
  subst this; exact f1
def otRaw (k : Int) : List V := [.lst .exact [[.int .i64 64], [.int .i64 64]], .int .i64 8, .lst .exact [[.lst .nil [], .lst .exact [[.int .i64 0, .int .i64 64, .int .i64 1, .int .i64 3, .lst .nil [], .int .u64 k], [.int .i64 1, .int .i64 64, .int .i64 1, .int .i64 4, .lst .exact [[.int .i64 1], [.int .i64 3]], .int .u64 0],
 [.int .i64 1, .int .i64 64, .int .i64 1, .int .i64 5, .lst .exact [[.int .i64 4], [.int .i64 2]], .int .u64 0], [.int .i64 2, .int .i64 64, .int .i64 1, .int .i64 6, .lst .exact [[.int .i64 5], [.int .i64 2]], .int .u64 0], [.int .i64 16, .int .i64 8, .int .i64 1, .int .i64 7, .lst .exact [[.int .i64 4]], .int .u64 0], [.int .i64 16, .int .i64 8, .int .i64 1, .int .i64 8, .lst .exact [[.int .i64 6]], .int .u64 0],
 [.int .i64 16, .int .i64 8, .int .i64 1, .int .i64 9, .lst .exact [[.int .i64 5]], .int .u64 0], [.int .i64 16, .int .i64 8, .int .i64 1, .int .i64 10, .lst .exact [[.int .i64 1]], .int .u64 0]], .int .i64 0, .int .i64 10, .lst .nil []]]]
end
theorem aliasOther_run (k : Int) (far : Bool) (hk : 0 ≤ k ∧ k < 65536) (h : LS.Heap) : callD T 7 [.int .u16 k, .bool far] h = some (.bool true, h) := by
 have e0 := awakeB_run h
 have K := ot_known k hk
 have hr : V.retagL (otRaw k) = (otF k).f.c := rfl
 have wk : IntKind.u64.wrap k = k := by rw [u64_wrap]; omega
 have e1 := (raw_call t24 rfl rfl hr (rest := [.int .i64 0, .int .i64 4, .int .i64 5]) rfl h).trans (Distance_run K 0 4 5 h)
 have e2 := (raw_call t24 rfl rfl hr (rest := [.int .i64 0, .int .i64 4, .int .i64 6]) rfl h).trans (Distance_run K 0 4 6 h)
 have e3 := (raw_call t24 rfl rfl hr (rest := [.int .i64 0, .int .i64 7, .int .i64 4]) rfl h).trans (Distance_run K 0 7 4 h)
 have e4 := (raw_call t26 rfl rfl hr (rest := [.int .i64 0, .int .i64 4, .int .i64 6]) rfl h).trans (Apart_run K 0 4 6 h)
 have e5 := (raw_call t26 rfl rfl hr (rest := [.int .i64 0, .int .i64 7, .int .i64 4]) rfl h).trans (Apart_run K 0 7 4 h)
 have e6 := (raw_call t28 rfl rfl hr (rest := [.int .i64 0, .int .i64 7, .int .i64 4]) rfl h).trans (Follows_run K 0 7 4 h)
 have a4 : addrF (otF k).f true 0 4 = some (4, 1) := rfl
 have a5 : addrF (otF k).f true 0 5 = some (6, 1) := rfl
 have a6 : addrF (otF k).f true 0 6 = some (5, 1) := rfl
 have a7 : addrF (otF k).f true 0 7 = some (1, 1) := rfl
 have d1 : distF (otF k).f true (otG k) 0 4 5 = some (0, 1, 1) := by simp [distF, a4, a5, otG, subU]; exact ⟨rfl, rfl⟩
 have d2 : distF (otF k).f true (otG k) 0 4 6 = none := by simp [distF, a4, a6, otG]
 have d3 : distF (otF k).f true (otG k) 0 7 4 = some (k, 1, 1) := by simp [distF, a4, a7, otG, subU, wk]; rfl
 have p1 : apartF (otF k).f true (otG k) 0 4 6 = false := by simp [apartF, d2]
 have p2 : apartF (otF k).f true (otG k) 0 7 4 = decide (0 < k) := by
  simp only [apartF, d3, u64_wrap]
  rw [← Bool.decide_and, decide_eq_decide]
  omega
 have p3 : followsF (otF k).f true (otG k) 0 7 4 = decide (k = 1) := by simp only [followsF, d3]
 rw [d1] at e1
 rw [d2] at e2
 rw [d3] at e3
 rw [p1] at e4
 rw [p2] at e5
 rw [p3] at e6
 simp only [otRaw] at e1 e2 e3 e4 e5 e6
 clear K hr d1 d2 d3 p1 p2 p3 a4 a5 a6 a7
 refine W_call t7 rfl rfl (by simp) ?_
 show W T c7 _ _
 unfold c7
 cases far with
 | true =>
  repeat' (first | refine W_seq ?_ | refine W_skip ?_ | refine W_block ?_ | refine W_ret ?_ | refine W_exit ?_ | refine W_ops (s1 := ?_) (by simp [a7, nextVer, e0, wk, e1, e2, e3, e4, e5, e6]; exact rfl) ?_ | refine W_tops (s1 := ?_) (by simp [a7, nextVer, e0, wk, e1, e2, e3, e4, e5, e6]; exact rfl) ?_ | refine W_cond_t (by first | (simp [a7, nextVer, e0, wk, e1, e2, e3, e4, e5, e6]; done) | fail) ?_ | refine W_cond_f (by first | (simp [a7, nextVer, e0, wk, e1, e2, e3, e4, e5, e6]; done) | fail) ?_ | fail)
  exact ⟨.inr rfl, [.bool true], by simp [a7, resV, resV1], by simp [a7, packV], by simp [V.under, V.underL, V.underLL], by first | exact .refl _ | (simp; exact .refl _) | (simp; assumption) | assumption⟩
 | false =>
  repeat' (first | refine W_seq ?_ | refine W_skip ?_ | refine W_block ?_ | refine W_ret ?_ | refine W_exit ?_ | refine W_ops (s1 := ?_) (by simp [a7, nextVer, e0, wk, e1, e2, e3, e4, e5, e6]; exact rfl) ?_ | refine W_tops (s1 := ?_) (by simp [a7, nextVer, e0, wk, e1, e2, e3, e4, e5, e6]; exact rfl) ?_ | refine W_cond_t (by first | (simp [a7, nextVer, e0, wk, e1, e2, e3, e4, e5, e6]; done) | fail) ?_ | refine W_cond_f (by first | (simp [a7, nextVer, e0, wk, e1, e2, e3, e4, e5, e6]; done) | fail) ?_ | fail)
  exact ⟨.inr rfl, [.bool true], by simp [a7, resV, resV1], by simp [a7, packV], by simp [V.under, V.underL, V.underLL], by first | exact .refl _ | (simp; exact .refl _) | (simp; assumption) | assumption⟩

end Go.Proofs.YtpbngohpklpalaaGreat
