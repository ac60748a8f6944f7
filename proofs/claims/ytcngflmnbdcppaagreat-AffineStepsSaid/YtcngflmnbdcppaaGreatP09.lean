/- A part of the proof: an abstract machine for the program's code and what each of its functions comes to there. No conditions. -/
import Derived.Test.YtcngflmnbdcppaaGreatP08

set_option linter.unusedSimpArgs false
set_option linter.unusedVariables false

/- Which functions may be told. -/
namespace Go.Proofs.YtcngflmnbdcppaaGreat
open Go.LS Go.IntWalk

def PhiD.Fit (p : PhiD) : Prop := p.frm.length < 2 ^ 40 ∧ p.args.length < 2 ^ 40
def OpD.Fit (o : OpD) : Prop := o.args.length < 2 ^ 40
def BlockD.Fit (b : BlockD) : Prop := b.phis.length < 2 ^ 40 ∧ b.ops.length < 2 ^ 40 ∧ b.to.length < 2 ^ 40 ∧ (∀ p ∈ b.phis, p.Fit) ∧ ∀ o ∈ b.ops, o.Fit
def FuncD.Fit (f : FuncD) : Prop := f.params.length < 2 ^ 40 ∧ f.blocks.length < 2 ^ 40 ∧ ∀ b ∈ f.blocks, b.Fit

def badPhi (p : PhiD) : Bool := [p.bits, p.dst].any badN || [p.frm, p.args].any badL
def badOp (o : OpD) : Bool := [o.kind, o.bits, o.lanes, o.dst].any badN || [o.args].any badL
def badBlock (b : BlockD) : Bool := b.phis.any badPhi || (b.ops.any badOp || ([b.ek, b.ea].any badN || [b.to].any badL))

theorem in_run' (tg : Tag) (l : List Int) (hl : l.length < 2 ^ 62) (h : LS.Heap) {b : Bool} (hb : l.any badN = b) : callD T 71 [.lst tg (l.map intC)] h = some (.bool (!b), h) := by
  rw [in_run tg l hl h, hb]
theorem lists_run' (tg : Tag) (ls : List (List Int)) (hl : ls.length < 2 ^ 62) (hll : ∀ l ∈ ls, l.length < 2 ^ 62) (h : LS.Heap) {b : Bool} (hb : ls.any badL = b) : callD T 100 [.lst tg (ls.map listC)] h = some (.bool (!b), h) := by
  rw [lists_run tg ls hl hll h, hb]

theorem mayBlock_run (b : BlockD) (hf : b.Fit) (h : LS.Heap) : callD T 74 [.agg b.c] h = some (.bool (!badBlock b), h) := by
  obtain ⟨f1, f2, f3, f4, f5⟩ := hf
  refine W_call t74 rfl rfl (by simp) ?_
  show W T c74 _ _
  unfold c74
  refine W_seq (W_ops (s1 := ?_) (by simp only [r74_0]; simp [a74, BlockD.c, nextVer]; exact rfl) ?_)
  refine W_seq (W_seq (W_ops (s1 := ?_) (by simp only [r74_1]; simp; exact rfl) ?_))
  have fin : ∀ (v : Bool) (s : St), s.t 2 = .bool v → s.h = h → badBlock b = !v → (AExit.ret = AExit.normal ∨ AExit.ret = AExit.ret) ∧ ∃ vs, resV s a74.res = some vs ∧ (if a74.keepR = true then packV vs else (packV vs).retag) = .bool (!badBlock b) ∧ V.under h.next (.bool (!badBlock b)) = true ∧ HExt h s.h := fun v s h2 hh hb =>
    ⟨.inr rfl, [.bool v], by simp [a74, resV, resV1, h2], by simp [a74, packV, hb], rfl, by rw [hh]; exact .refl _⟩
  refine W_block (W_for' l74_0.eq_1 (n := b.phis.length) (fun i s => s.t 1 = .loc 1 0 0 ∧ s.loc 1 = some (0, b.c) ∧ s.t 8 = .lst .ro (b.phis.map PhiD.c) ∧ s.t 9 = .int .i64 b.phis.length ∧ s.t 10 = .int .i64 i ∧ s.h = h ∧ (b.phis.take i).any badPhi = false) ⟨by simp, by simp [BlockD.c], by simp, by simp, by simp, rfl, by simp⟩ ?_ ?_)
  · rintro i ⟨t, loc, h'⟩ hi ⟨t1, l1, t8, t9, t10, rfl, ha⟩
    simp only at t1 l1 t8 t9 t10
    have hl1 : ((i : Int) < b.phis.length) := by omega
    have hw := i64_succ (show i < 2 ^ 62 by omega)
    have hsucc := take_any_succ hi badPhi
    have hE : PhiD.c b.phis[i] = [.int .i64 b.phis[i].bits, .int .i64 b.phis[i].dst, .lst .ro (b.phis[i].frm.map intC), .lst .ro (b.phis[i].args.map intC)] := rfl
    obtain ⟨g1, g2⟩ := f4 _ (List.getElem_mem hi)
    cases c1 : [b.phis[i].bits, b.phis[i].dst].any badN with
    | true =>
      have e1 := in_run' .exact [b.phis[i].bits, b.phis[i].dst] (by simp) h' c1
      simp only [List.map, intC] at e1
      have hall := any_of_get hi (p := badPhi) (by simp only [badPhi, c1, Bool.true_or])
      repeat' (first
        | refine W_seq ?_
        | refine W_skip ?_
        | refine W_block ?_
        | refine W_ret ?_
        | refine W_exit ?_
        | refine W_ops (s1 := ?_) (by simp only [r74_0, r74_1, r74_2, r74_3, r74_4, r74_5, r74_6, r74_7, r74_8, r74_9, r74_10, r74_11, r74_12, r74_13]; simp [t1, l1, t8, t9, t10, hl1, hi, hE, hw, e1]; exact rfl) ?_
        | refine W_tops (s1 := ?_) (by simp only [r74_0, r74_1, r74_2, r74_3, r74_4, r74_5, r74_6, r74_7, r74_8, r74_9, r74_10, r74_11, r74_12, r74_13]; simp [t1, l1, t8, t9, t10, hl1, hi, hE, hw, e1]; exact rfl) ?_
        | refine W_cond_t (by first | (simp [t1, l1, t8, t9, t10, hl1, hi, hE, hw, e1]; done) | fail) ?_
        | refine W_cond_f (by first | (simp [t1, l1, t8, t9, t10, hl1, hi, hE, hw, e1]; done) | fail) ?_
        | fail)
      exact .inr ⟨by simp, fin false _ (by simp) rfl (by simp [badBlock, hall])⟩
    | false =>
      have e1 := in_run' .exact [b.phis[i].bits, b.phis[i].dst] (by simp) h' c1
      simp only [List.map, intC] at e1
      cases c2 : [b.phis[i].frm, b.phis[i].args].any badL with
      | true =>
        have e2 := lists_run' .exact [b.phis[i].frm, b.phis[i].args] (by simp) (by simp; omega) h' c2
        simp only [List.map_cons, List.map_nil, listC] at e2
        have hall := any_of_get hi (p := badPhi) (by simp only [badPhi, c1, c2, Bool.or_true])
        repeat' (first
          | refine W_seq ?_
          | refine W_skip ?_
          | refine W_block ?_
          | refine W_ret ?_
          | refine W_exit ?_
          | refine W_ops (s1 := ?_) (by simp only [r74_0, r74_1, r74_2, r74_3, r74_4, r74_5, r74_6, r74_7, r74_8, r74_9, r74_10, r74_11, r74_12, r74_13]; simp [t1, l1, t8, t9, t10, hl1, hi, hE, hw, e1, e2]; exact rfl) ?_
          | refine W_tops (s1 := ?_) (by simp only [r74_0, r74_1, r74_2, r74_3, r74_4, r74_5, r74_6, r74_7, r74_8, r74_9, r74_10, r74_11, r74_12, r74_13]; simp [t1, l1, t8, t9, t10, hl1, hi, hE, hw, e1, e2]; exact rfl) ?_
          | refine W_cond_t (by first | (simp [t1, l1, t8, t9, t10, hl1, hi, hE, hw, e1, e2]; done) | fail) ?_
          | refine W_cond_f (by first | (simp [t1, l1, t8, t9, t10, hl1, hi, hE, hw, e1, e2]; done) | fail) ?_
          | fail)
        exact .inr ⟨by simp, fin false _ (by simp) rfl (by simp [badBlock, hall])⟩
      | false =>
        have e2 := lists_run' .exact [b.phis[i].frm, b.phis[i].args] (by simp) (by simp; omega) h' c2
        simp only [List.map_cons, List.map_nil, listC] at e2
        have hb : badPhi b.phis[i] = false := by simp only [badPhi, c1, c2, Bool.or_false]
        repeat' (first
          | refine W_seq ?_
          | refine W_skip ?_
          | refine W_block ?_
          | refine W_ret ?_
          | refine W_exit ?_
          | refine W_ops (s1 := ?_) (by simp only [r74_0, r74_1, r74_2, r74_3, r74_4, r74_5, r74_6, r74_7, r74_8, r74_9, r74_10, r74_11, r74_12, r74_13]; simp [t1, l1, t8, t9, t10, hl1, hi, hE, hw, e1, e2]; exact rfl) ?_
          | refine W_tops (s1 := ?_) (by simp only [r74_0, r74_1, r74_2, r74_3, r74_4, r74_5, r74_6, r74_7, r74_8, r74_9, r74_10, r74_11, r74_12, r74_13]; simp [t1, l1, t8, t9, t10, hl1, hi, hE, hw, e1, e2]; exact rfl) ?_
          | refine W_cond_t (by first | (simp [t1, l1, t8, t9, t10, hl1, hi, hE, hw, e1, e2]; done) | fail) ?_
          | refine W_cond_f (by first | (simp [t1, l1, t8, t9, t10, hl1, hi, hE, hw, e1, e2]; done) | fail) ?_
          | fail)
        exact .inl ⟨rfl, by simp [t1], by simp [l1], by simp [t8], by simp [t9], by simp, rfl, by rw [hsucc, ha, hb]; rfl⟩
  · rintro ⟨t, loc, h'⟩ ⟨t1, l1, t8, t9, t10, rfl, ha⟩
    simp only at t1 l1 t8 t9 t10
    have hphi : b.phis.any badPhi = false := by rw [List.take_length] at ha; exact ha
    refine W_seq (W_ops (s1 := ?_) (by simp only [r74_2]; simp [t9, t10]; exact rfl) ?_)
    refine W_seq (W_cond_f (by simp) (W_exit ?_))
    refine ⟨by simp, ?_⟩
    have hbc : b.c = [.lst .ro (b.phis.map PhiD.c), .lst .ro (b.ops.map OpD.c), .int .i64 b.ek, .int .i64 b.ea, .lst .ro (b.to.map intC)] := rfl
    rw [hbc] at l1
    refine W_seq (W_seq (W_ops (s1 := ?_) (by simp only [r74_7]; simp [t1, l1]; exact rfl) ?_))
    refine W_block (W_for' l74_1.eq_1 (n := b.ops.length) (fun i s => s.t 1 = .loc 1 0 0 ∧ s.loc 1 = some (0, b.c) ∧ s.t 32 = .lst .ro (b.ops.map OpD.c) ∧ s.t 33 = .int .i64 b.ops.length ∧ s.t 34 = .int .i64 i ∧ s.h = h' ∧ (b.ops.take i).any badOp = false) ⟨by simp [t1], by simp [l1, hbc], by simp, by simp, by simp, rfl, by simp⟩ ?_ ?_)
    · clear ha t1 l1 t8 t9 t10
      rintro i ⟨t, loc, h'⟩ hi ⟨t1, l1, t8, t9, t10, rfl, ha⟩
      simp only at t1 l1 t8 t9 t10
      have hl1 : ((i : Int) < b.ops.length) := by omega
      have hw := i64_succ (show i < 2 ^ 62 by omega)
      have hsucc := take_any_succ hi badOp
      have hE : OpD.c b.ops[i] = [.int .i64 b.ops[i].kind, .int .i64 b.ops[i].bits, .int .i64 b.ops[i].lanes, .int .i64 b.ops[i].dst, .lst .ro (b.ops[i].args.map intC), .int .u64 b.ops[i].imm] := rfl
      have g1 : b.ops[i].args.length < 2 ^ 40 := f5 _ (List.getElem_mem hi)
      cases c1 : [b.ops[i].kind, b.ops[i].bits, b.ops[i].lanes, b.ops[i].dst].any badN with
      | true =>
        have e1 := in_run' .exact [b.ops[i].kind, b.ops[i].bits, b.ops[i].lanes, b.ops[i].dst] (by simp) h' c1
        simp only [List.map, intC] at e1
        have hall := any_of_get hi (p := badOp) (by simp only [badOp, c1, Bool.true_or])
        repeat' (first
          | refine W_seq ?_
          | refine W_skip ?_
          | refine W_block ?_
          | refine W_ret ?_
          | refine W_exit ?_
          | refine W_ops (s1 := ?_) (by simp only [r74_0, r74_1, r74_2, r74_3, r74_4, r74_5, r74_6, r74_7, r74_8, r74_9, r74_10, r74_11, r74_12, r74_13]; simp [t1, l1, t8, t9, t10, hl1, hi, hE, hw, e1]; exact rfl) ?_
          | refine W_tops (s1 := ?_) (by simp only [r74_0, r74_1, r74_2, r74_3, r74_4, r74_5, r74_6, r74_7, r74_8, r74_9, r74_10, r74_11, r74_12, r74_13]; simp [t1, l1, t8, t9, t10, hl1, hi, hE, hw, e1]; exact rfl) ?_
          | refine W_cond_t (by first | (simp [t1, l1, t8, t9, t10, hl1, hi, hE, hw, e1]; done) | fail) ?_
          | refine W_cond_f (by first | (simp [t1, l1, t8, t9, t10, hl1, hi, hE, hw, e1]; done) | fail) ?_
          | fail)
        exact .inr ⟨by simp, fin false _ (by simp) rfl (by simp [badBlock, hall])⟩
      | false =>
        have e1 := in_run' .exact [b.ops[i].kind, b.ops[i].bits, b.ops[i].lanes, b.ops[i].dst] (by simp) h' c1
        simp only [List.map, intC] at e1
        cases c2 : [b.ops[i].args].any badL with
        | true =>
          have e2 := lists_run' .exact [b.ops[i].args] (by simp) (by simp; omega) h' c2
          simp only [List.map_cons, List.map_nil, listC] at e2
          have hall := any_of_get hi (p := badOp) (by simp only [badOp, c1, c2, Bool.or_true])
          repeat' (first
            | refine W_seq ?_
            | refine W_skip ?_
            | refine W_block ?_
            | refine W_ret ?_
            | refine W_exit ?_
            | refine W_ops (s1 := ?_) (by simp only [r74_0, r74_1, r74_2, r74_3, r74_4, r74_5, r74_6, r74_7, r74_8, r74_9, r74_10, r74_11, r74_12, r74_13]; simp [t1, l1, t8, t9, t10, hl1, hi, hE, hw, e1, e2]; exact rfl) ?_
            | refine W_tops (s1 := ?_) (by simp only [r74_0, r74_1, r74_2, r74_3, r74_4, r74_5, r74_6, r74_7, r74_8, r74_9, r74_10, r74_11, r74_12, r74_13]; simp [t1, l1, t8, t9, t10, hl1, hi, hE, hw, e1, e2]; exact rfl) ?_
            | refine W_cond_t (by first | (simp [t1, l1, t8, t9, t10, hl1, hi, hE, hw, e1, e2]; done) | fail) ?_
            | refine W_cond_f (by first | (simp [t1, l1, t8, t9, t10, hl1, hi, hE, hw, e1, e2]; done) | fail) ?_
            | fail)
          exact .inr ⟨by simp, fin false _ (by simp) rfl (by simp [badBlock, hall])⟩
        | false =>
          have e2 := lists_run' .exact [b.ops[i].args] (by simp) (by simp; omega) h' c2
          simp only [List.map_cons, List.map_nil, listC] at e2
          have hb : badOp b.ops[i] = false := by simp only [badOp, c1, c2, Bool.or_false]
          repeat' (first
            | refine W_seq ?_
            | refine W_skip ?_
            | refine W_block ?_
            | refine W_ret ?_
            | refine W_exit ?_
            | refine W_ops (s1 := ?_) (by simp only [r74_0, r74_1, r74_2, r74_3, r74_4, r74_5, r74_6, r74_7, r74_8, r74_9, r74_10, r74_11, r74_12, r74_13]; simp [t1, l1, t8, t9, t10, hl1, hi, hE, hw, e1, e2]; exact rfl) ?_
            | refine W_tops (s1 := ?_) (by simp only [r74_0, r74_1, r74_2, r74_3, r74_4, r74_5, r74_6, r74_7, r74_8, r74_9, r74_10, r74_11, r74_12, r74_13]; simp [t1, l1, t8, t9, t10, hl1, hi, hE, hw, e1, e2]; exact rfl) ?_
            | refine W_cond_t (by first | (simp [t1, l1, t8, t9, t10, hl1, hi, hE, hw, e1, e2]; done) | fail) ?_
            | refine W_cond_f (by first | (simp [t1, l1, t8, t9, t10, hl1, hi, hE, hw, e1, e2]; done) | fail) ?_
            | fail)
          exact .inl ⟨rfl, by simp [t1], by simp [l1], by simp [t8], by simp [t9], by simp, rfl, by rw [hsucc, ha, hb]; rfl⟩
    · clear ha t1 l1 t8 t9 t10
      rintro ⟨t, loc, h'⟩ ⟨t1, l1, t8, t9, t10, rfl, ha⟩
      simp only at t1 l1 t8 t9 t10
      have hop : b.ops.any badOp = false := by rw [List.take_length] at ha; exact ha
      refine W_seq (W_ops (s1 := ?_) (by simp only [r74_8]; simp [t9, t10]; exact rfl) ?_)
      refine W_seq (W_cond_f (by simp) (W_exit ?_))
      refine ⟨by simp, ?_⟩
      rw [hbc] at l1
      cases c1 : [b.ek, b.ea].any badN with
      | true =>
        have e1 := in_run' .exact [b.ek, b.ea] (by simp) h' c1
        simp only [List.map, intC] at e1
        repeat' (first
          | refine W_seq ?_
          | refine W_skip ?_
          | refine W_block ?_
          | refine W_ret ?_
          | refine W_exit ?_
          | refine W_ops (s1 := ?_) (by simp only [r74_0, r74_1, r74_2, r74_3, r74_4, r74_5, r74_6, r74_7, r74_8, r74_9, r74_10, r74_11, r74_12, r74_13]; simp [t1, l1, e1]; exact rfl) ?_
          | refine W_tops (s1 := ?_) (by simp only [r74_0, r74_1, r74_2, r74_3, r74_4, r74_5, r74_6, r74_7, r74_8, r74_9, r74_10, r74_11, r74_12, r74_13]; simp [t1, l1, e1]; exact rfl) ?_
          | refine W_cond_t (by first | (simp [t1, l1, e1]; done) | fail) ?_
          | refine W_cond_f (by first | (simp [t1, l1, e1]; done) | fail) ?_
          | fail)
        exact fin false _ (by simp) rfl (by simp only [badBlock, hphi, hop, c1]; rfl)
      | false =>
        have e1 := in_run' .exact [b.ek, b.ea] (by simp) h' c1
        simp only [List.map, intC] at e1
        cases c2 : [b.to].any badL with
        | true =>
          have e2 := lists_run' .exact [b.to] (by simp) (by simp; omega) h' c2
          simp only [List.map_cons, List.map_nil, listC] at e2
          repeat' (first
            | refine W_seq ?_
            | refine W_skip ?_
            | refine W_block ?_
            | refine W_ret ?_
            | refine W_exit ?_
            | refine W_ops (s1 := ?_) (by simp only [r74_0, r74_1, r74_2, r74_3, r74_4, r74_5, r74_6, r74_7, r74_8, r74_9, r74_10, r74_11, r74_12, r74_13]; simp [t1, l1, e1, e2]; exact rfl) ?_
            | refine W_tops (s1 := ?_) (by simp only [r74_0, r74_1, r74_2, r74_3, r74_4, r74_5, r74_6, r74_7, r74_8, r74_9, r74_10, r74_11, r74_12, r74_13]; simp [t1, l1, e1, e2]; exact rfl) ?_
            | refine W_cond_t (by first | (simp [t1, l1, e1, e2]; done) | fail) ?_
            | refine W_cond_f (by first | (simp [t1, l1, e1, e2]; done) | fail) ?_
            | fail)
          exact fin false _ (by simp) rfl (by simp only [badBlock, hphi, hop, c1, c2]; rfl)
        | false =>
          have e2 := lists_run' .exact [b.to] (by simp) (by simp; omega) h' c2
          simp only [List.map_cons, List.map_nil, listC] at e2
          repeat' (first
            | refine W_seq ?_
            | refine W_skip ?_
            | refine W_block ?_
            | refine W_ret ?_
            | refine W_exit ?_
            | refine W_ops (s1 := ?_) (by simp only [r74_0, r74_1, r74_2, r74_3, r74_4, r74_5, r74_6, r74_7, r74_8, r74_9, r74_10, r74_11, r74_12, r74_13]; simp [t1, l1, e1, e2]; exact rfl) ?_
            | refine W_tops (s1 := ?_) (by simp only [r74_0, r74_1, r74_2, r74_3, r74_4, r74_5, r74_6, r74_7, r74_8, r74_9, r74_10, r74_11, r74_12, r74_13]; simp [t1, l1, e1, e2]; exact rfl) ?_
            | refine W_cond_t (by first | (simp [t1, l1, e1, e2]; done) | fail) ?_
            | refine W_cond_f (by first | (simp [t1, l1, e1, e2]; done) | fail) ?_
            | fail)
          exact fin true _ (by simp) rfl (by simp only [badBlock, hphi, hop, c1, c2]; rfl)

end Go.Proofs.YtcngflmnbdcppaaGreat

/- Which functions may be told: the size, and all of it. -/
namespace Go.Proofs.YtcngflmnbdcppaaGreat
open Go.LS Go.IntWalk

def szB (b : BlockD) : Nat := b.phis.length + b.ops.length
def szS : List BlockD → Nat
  | [] => 0
  | b :: l => szB b + szS l
def FuncD.size (f : FuncD) : Nat := f.blocks.length + szS f.blocks

theorem szS_append : ∀ (a b : List BlockD), szS (a ++ b) = szS a + szS b
  | [], b => by simp [szS]
  | x :: a, b => by simp only [List.cons_append, szS, szS_append a b]; omega
theorem szS_take {l : List BlockD} {i : Nat} (h : i < l.length) : szS (l.take (i + 1)) = szS (l.take i) + szB l[i] := by
  rw [List.take_succ_eq_append_getElem h, szS_append]; simp [szS]
theorem szS_le : ∀ (l : List BlockD), (∀ b ∈ l, b.Fit) → szS l ≤ l.length * 2 ^ 41
  | [], _ => by simp [szS]
  | b :: l, h => by
    have h1 := szS_le l (fun x hx => h x (List.mem_cons_of_mem _ hx))
    obtain ⟨f1, f2, _⟩ := h b (List.mem_cons_self ..)
    simp only [szS, szB, List.length_cons]
    omega

theorem Size_run (f : FuncD) (hf : f.Fit) (h64 : f.blocks.length ≤ 64) (h : LS.Heap) : callD T 70 [.agg f.c] h = some (.int .i64 f.size, h) := by
  obtain ⟨f1, f2, f3⟩ := hf
  have hsz := szS_le f.blocks f3
  refine W_call t70 rfl rfl (by simp) ?_
  show W T c70 _ _
  unfold c70
  have hfc : f.c = [.lst .ro (f.params.map intC), .int .i64 f.ret, .lst .ro (f.blocks.map BlockD.c)] := rfl
  refine W_seq (W_ops (s1 := ?_) (by simp only [r70_0]; simp [a70, hfc, nextVer]; exact rfl) ?_)
  refine W_seq (W_ops (s1 := ?_) (by simp only [r70_1]; simp; exact rfl) ?_)
  refine W_seq (W_seq (W_ops (s1 := ?_) (by simp only [r70_2]; simp; exact rfl) ?_))
  refine W_block (W_for' l70_0.eq_1 (n := f.blocks.length) (fun i s => s.t 10 = .lst .ro (f.blocks.map BlockD.c) ∧ s.t 11 = .int .i64 f.blocks.length ∧ s.t 12 = .int .i64 i ∧ s.h = h ∧ s.t 3 = .int .i64 ((f.blocks.length + szS (f.blocks.take i) : Nat) : Int)) ⟨by simp, by simp, by simp, rfl, by simp [szS]⟩ ?_ ?_)
  · rintro i ⟨t, loc, h'⟩ hi ⟨t10, t11, t12, rfl, t3⟩
    simp only at t10 t11 t12 t3
    have hl1 : ((i : Int) < f.blocks.length) := by omega
    have hw := i64_succ (show i < 2 ^ 62 by omega)
    have hE : BlockD.c f.blocks[i] = [.lst .ro (f.blocks[i].phis.map PhiD.c), .lst .ro (f.blocks[i].ops.map OpD.c), .int .i64 f.blocks[i].ek, .int .i64 f.blocks[i].ea, .lst .ro (f.blocks[i].to.map intC)] := rfl
    obtain ⟨g1, g2, _⟩ := f3 _ (List.getElem_mem hi)
    have hs := szS_take hi
    have hle := szS_le (f.blocks.take (i + 1)) (fun b hb => f3 b (List.mem_of_mem_take hb))
    have hlen : (f.blocks.take (i + 1)).length ≤ 64 := by simp; omega
    rw [hs] at hle
    have w1 : IntKind.i64.wrap ((f.blocks[i].phis.length : Int) + f.blocks[i].ops.length) = ((szB f.blocks[i] : Nat) : Int) := by rw [i64_in _ (by omega)]; simp [szB]
    have w2 : IntKind.i64.wrap (((f.blocks.length + szS (f.blocks.take i) : Nat) : Int) + ((szB f.blocks[i] : Nat) : Int)) = ((f.blocks.length + szS (f.blocks.take (i + 1)) : Nat) : Int) := by
      rw [hs, i64_in _ (by omega)]; omega
    simp only [Int.natCast_add] at w2 t3
    repeat' (first
      | refine W_seq ?_
      | refine W_skip ?_
      | refine W_block ?_
      | refine W_ret ?_
      | refine W_exit ?_
      | refine W_ops (s1 := ?_) (by simp only [r70_0, r70_1, r70_2, r70_3, r70_4, r70_5, r70_6, r70_7]; simp [t10, t11, t12, t3, hl1, hi, hE, hw, w1, w2]; exact rfl) ?_
      | refine W_tops (s1 := ?_) (by simp only [r70_0, r70_1, r70_2, r70_3, r70_4, r70_5, r70_6, r70_7]; simp [t10, t11, t12, t3, hl1, hi, hE, hw, w1, w2]; exact rfl) ?_
      | refine W_cond_t (by first | (simp [t10, t11, t12, t3, hl1, hi, hE, hw, w1, w2]; done) | fail) ?_
      | refine W_cond_f (by first | (simp [t10, t11, t12, t3, hl1, hi, hE, hw, w1, w2]; done) | fail) ?_
      | fail)
    exact .inl ⟨rfl, by simp [t10], by simp [t11], by simp, rfl, by simp⟩
  · rintro ⟨t, loc, h'⟩ ⟨t10, t11, t12, rfl, t3⟩
    simp only at t10 t11 t12 t3
    rw [List.take_length] at t3
    repeat' (first
      | refine W_seq ?_
      | refine W_skip ?_
      | refine W_block ?_
      | refine W_ret ?_
      | refine W_exit ?_
      | refine W_ops (s1 := ?_) (by simp only [r70_0, r70_1, r70_2, r70_3, r70_4, r70_5, r70_6, r70_7]; simp [t10, t11, t12]; exact rfl) ?_
      | refine W_tops (s1 := ?_) (by simp only [r70_0, r70_1, r70_2, r70_3, r70_4, r70_5, r70_6, r70_7]; simp [t10, t11, t12]; exact rfl) ?_
      | refine W_cond_t (by first | (simp [t10, t11, t12]; done) | fail) ?_
      | refine W_cond_f (by first | (simp [t10, t11, t12]; done) | fail) ?_
      | fail)
    refine ⟨by simp, ?_⟩
    repeat' (first
      | refine W_seq ?_
      | refine W_skip ?_
      | refine W_block ?_
      | refine W_ret ?_
      | refine W_exit ?_
      | refine W_ops (s1 := ?_) (by simp only [r70_0, r70_1, r70_2, r70_3, r70_4, r70_5, r70_6, r70_7]; simp [t3]; exact rfl) ?_
      | refine W_tops (s1 := ?_) (by simp only [r70_0, r70_1, r70_2, r70_3, r70_4, r70_5, r70_6, r70_7]; simp [t3]; exact rfl) ?_
      | refine W_cond_t (by first | (simp [t3]; done) | fail) ?_
      | refine W_cond_f (by first | (simp [t3]; done) | fail) ?_
      | fail)
    exact ⟨.inr rfl, [.int .i64 f.size], by simp [a70, resV, resV1, FuncD.size], by simp [a70, packV], rfl, .refl _⟩

theorem mayBlockP_run (b : BlockD) (hf : b.Fit) (h : LS.Heap) : callD T 73 [.agg b.c] h = some (.bool (badBlock b), h) := by
  have e := mayBlock_run b hf h
  have hbc : b.c = [.lst .ro (b.phis.map PhiD.c), .lst .ro (b.ops.map OpD.c), .int .i64 b.ek, .int .i64 b.ea, .lst .ro (b.to.map intC)] := rfl
  refine W_call t73 rfl rfl (by simp) ?_
  show W T c73 _ _
  unfold c73
  rw [hbc] at e ⊢
  repeat' (first
    | refine W_seq ?_
    | refine W_skip ?_
    | refine W_block ?_
    | refine W_ret ?_
    | refine W_exit ?_
    | refine W_ops (s1 := ?_) (by simp only [r73_0, r73_1]; simp [a73, nextVer, e]; exact rfl) ?_
    | refine W_tops (s1 := ?_) (by simp only [r73_0, r73_1]; simp [a73, nextVer, e]; exact rfl) ?_
    | refine W_cond_t (by first | (simp [a73, nextVer, e]; done) | fail) ?_
    | refine W_cond_f (by first | (simp [a73, nextVer, e]; done) | fail) ?_
    | fail)
  exact ⟨.inr rfl, [.bool (badBlock b)], by simp [a73, resV, resV1], by simp [a73, packV], rfl, .refl _⟩

/-- May it be told? -/
def FuncD.tells (f : FuncD) : Bool := decide (1 ≤ f.blocks.length) && (decide (f.blocks.length ≤ 64) && (decide (f.params.length ≤ 16) && (decide (f.size ≤ 512) && (!badN f.ret && (!f.params.any badN && !f.blocks.any badBlock)))))

theorem codeMay_run (f : FuncD) (hf : f.Fit) (h : LS.Heap) : callD T 51 [.agg f.c] h = some (.bool f.tells, h) := by
  have hfc : f.c = [.lst .ro (f.params.map intC), .int .i64 f.ret, .lst .ro (f.blocks.map BlockD.c)] := rfl
  have hf' := hf
  obtain ⟨f1, f2, f3⟩ := hf
  have fin : ∀ (v : Bool) (s : St), s.t 2 = .bool v → s.h = h → f.tells = v → (AExit.ret = AExit.normal ∨ AExit.ret = AExit.ret) ∧ ∃ vs, resV s a51.res = some vs ∧ (if a51.keepR = true then packV vs else (packV vs).retag) = .bool f.tells ∧ V.under h.next (.bool f.tells) = true ∧ HExt h s.h := fun v s h2 hh hb =>
    ⟨.inr rfl, [.bool v], by simp [a51, resV, resV1, h2], by simp [a51, packV, hb], rfl, by rw [hh]; exact .refl _⟩
  refine W_call t51 rfl rfl (by simp) ?_
  show W T c51 _ _
  unfold c51
  have e3 : ∀ b, f.params.any badN = b → callD T 71 [.lst .ro (f.params.map intC)] h = some (.bool (!b), h) := fun b hb => in_run' .ro f.params (by omega) h hb
  have e2 := in_run' .exact [f.ret] (by simp) h rfl
  simp only [List.map, intC, List.any, Bool.or_false] at e2
  have e4 := Contains_block BlockD.c f.blocks 73 [] badBlock h .ro (by omega) (fun _ => rfl) (by simp) rfl (fun b hb => mayBlockP_run b (f3 b hb) h)
  have e1 : f.blocks.length ≤ 64 → callD T 70 [.agg f.c] h = some (.int .i64 f.size, h) := fun h64 => Size_run f hf' h64 h
  rw [hfc] at e1 ⊢
  by_cases c1 : 1 ≤ f.blocks.length
  case neg =>
    have c1' : (f.blocks.length : Int) < 1 := by omega
    have c1n : f.blocks.length < 1 := by omega
    repeat' (first
      | refine W_seq ?_
      | refine W_skip ?_
      | refine W_block ?_
      | refine W_ret ?_
      | refine W_exit ?_
      | refine W_ops (s1 := ?_) (by simp only [r51_0, r51_1, r51_2, r51_3]; simp [a51, nextVer, c1', c1n]; exact rfl) ?_
      | refine W_tops (s1 := ?_) (by simp only [r51_0, r51_1, r51_2, r51_3]; simp [a51, nextVer, c1', c1n]; exact rfl) ?_
      | refine W_cond_t (by first | (simp [a51, nextVer, c1', c1n]; done) | fail) ?_
      | refine W_cond_f (by first | (simp [a51, nextVer, c1', c1n]; done) | fail) ?_
      | fail)
    exact fin false _ (by simp) rfl (by simp [FuncD.tells, c1])
  have c1' : ¬ (f.blocks.length : Int) < 1 := by omega
  have c1n : ¬ f.blocks.length < 1 := by omega
  by_cases c2 : f.blocks.length ≤ 64
  case neg =>
    have c2' : (64 : Int) < f.blocks.length := by omega
    have c2n : 64 < f.blocks.length := by omega
    repeat' (first
      | refine W_seq ?_
      | refine W_skip ?_
      | refine W_block ?_
      | refine W_ret ?_
      | refine W_exit ?_
      | refine W_ops (s1 := ?_) (by simp only [r51_0, r51_1, r51_2, r51_3]; simp [a51, nextVer, c1', c1n, c2', c2n]; exact rfl) ?_
      | refine W_tops (s1 := ?_) (by simp only [r51_0, r51_1, r51_2, r51_3]; simp [a51, nextVer, c1', c1n, c2', c2n]; exact rfl) ?_
      | refine W_cond_t (by first | (simp [a51, nextVer, c1', c1n, c2', c2n]; done) | fail) ?_
      | refine W_cond_f (by first | (simp [a51, nextVer, c1', c1n, c2', c2n]; done) | fail) ?_
      | fail)
    exact fin false _ (by simp) rfl (by simp [FuncD.tells, c2])
  have c2' : ¬ (64 : Int) < f.blocks.length := by omega
  have c2n : ¬ 64 < f.blocks.length := by omega
  have e1 := e1 c2
  by_cases c3 : f.params.length ≤ 16
  case neg =>
    have c3' : (16 : Int) < f.params.length := by omega
    have c3n : 16 < f.params.length := by omega
    repeat' (first
      | refine W_seq ?_
      | refine W_skip ?_
      | refine W_block ?_
      | refine W_ret ?_
      | refine W_exit ?_
      | refine W_ops (s1 := ?_) (by simp only [r51_0, r51_1, r51_2, r51_3]; simp [a51, nextVer, c1', c1n, c2', c2n, c3', c3n]; exact rfl) ?_
      | refine W_tops (s1 := ?_) (by simp only [r51_0, r51_1, r51_2, r51_3]; simp [a51, nextVer, c1', c1n, c2', c2n, c3', c3n]; exact rfl) ?_
      | refine W_cond_t (by first | (simp [a51, nextVer, c1', c1n, c2', c2n, c3', c3n]; done) | fail) ?_
      | refine W_cond_f (by first | (simp [a51, nextVer, c1', c1n, c2', c2n, c3', c3n]; done) | fail) ?_
      | fail)
    exact fin false _ (by simp) rfl (by simp [FuncD.tells, c3])
  have c3' : ¬ (16 : Int) < f.params.length := by omega
  have c3n : ¬ 16 < f.params.length := by omega
  by_cases c4 : f.size ≤ 512
  case neg =>
    have c4' : (512 : Int) < f.size := by omega
    have c4n : 512 < f.size := by omega
    repeat' (first
      | refine W_seq ?_
      | refine W_skip ?_
      | refine W_block ?_
      | refine W_ret ?_
      | refine W_exit ?_
      | refine W_ops (s1 := ?_) (by simp only [r51_0, r51_1, r51_2, r51_3]; simp [a51, nextVer, c1', c1n, c2', c2n, c3', c3n, e1, c4', c4n]; exact rfl) ?_
      | refine W_tops (s1 := ?_) (by simp only [r51_0, r51_1, r51_2, r51_3]; simp [a51, nextVer, c1', c1n, c2', c2n, c3', c3n, e1, c4', c4n]; exact rfl) ?_
      | refine W_cond_t (by first | (simp [a51, nextVer, c1', c1n, c2', c2n, c3', c3n, e1, c4', c4n]; done) | fail) ?_
      | refine W_cond_f (by first | (simp [a51, nextVer, c1', c1n, c2', c2n, c3', c3n, e1, c4', c4n]; done) | fail) ?_
      | fail)
    exact fin false _ (by simp) rfl (by simp [FuncD.tells, c4])
  have c4' : ¬ (512 : Int) < f.size := by omega
  have c4n : ¬ 512 < f.size := by omega
  cases c5 : badN f.ret with
  | true =>
    rw [c5] at e2
    repeat' (first
      | refine W_seq ?_
      | refine W_skip ?_
      | refine W_block ?_
      | refine W_ret ?_
      | refine W_exit ?_
      | refine W_ops (s1 := ?_) (by simp only [r51_0, r51_1, r51_2, r51_3]; simp [a51, nextVer, c1', c1n, c2', c2n, c3', c3n, e1, c4', c4n, e2]; exact rfl) ?_
      | refine W_tops (s1 := ?_) (by simp only [r51_0, r51_1, r51_2, r51_3]; simp [a51, nextVer, c1', c1n, c2', c2n, c3', c3n, e1, c4', c4n, e2]; exact rfl) ?_
      | refine W_cond_t (by first | (simp [a51, nextVer, c1', c1n, c2', c2n, c3', c3n, e1, c4', c4n, e2]; done) | fail) ?_
      | refine W_cond_f (by first | (simp [a51, nextVer, c1', c1n, c2', c2n, c3', c3n, e1, c4', c4n, e2]; done) | fail) ?_
      | fail)
    exact fin false _ (by simp) rfl (by simp [FuncD.tells, c5])
  | false =>
    rw [c5] at e2
    cases c6 : f.params.any badN with
    | true =>
      have e3 := e3 _ c6
      repeat' (first
        | refine W_seq ?_
        | refine W_skip ?_
        | refine W_block ?_
        | refine W_ret ?_
        | refine W_exit ?_
        | refine W_ops (s1 := ?_) (by simp only [r51_0, r51_1, r51_2, r51_3]; simp [a51, nextVer, c1', c1n, c2', c2n, c3', c3n, e1, c4', c4n, e2, e3]; exact rfl) ?_
        | refine W_tops (s1 := ?_) (by simp only [r51_0, r51_1, r51_2, r51_3]; simp [a51, nextVer, c1', c1n, c2', c2n, c3', c3n, e1, c4', c4n, e2, e3]; exact rfl) ?_
        | refine W_cond_t (by first | (simp [a51, nextVer, c1', c1n, c2', c2n, c3', c3n, e1, c4', c4n, e2, e3]; done) | fail) ?_
        | refine W_cond_f (by first | (simp [a51, nextVer, c1', c1n, c2', c2n, c3', c3n, e1, c4', c4n, e2, e3]; done) | fail) ?_
        | fail)
      exact fin false _ (by simp) rfl (by simp only [FuncD.tells, c6]; simp)
    | false =>
      have e3 := e3 _ c6
      repeat' (first
        | refine W_seq ?_
        | refine W_skip ?_
        | refine W_block ?_
        | refine W_ret ?_
        | refine W_exit ?_
        | refine W_ops (s1 := ?_) (by simp only [r51_0, r51_1, r51_2, r51_3]; simp [a51, nextVer, c1', c1n, c2', c2n, c3', c3n, e1, c4', c4n, e2, e3, e4]; exact rfl) ?_
        | refine W_tops (s1 := ?_) (by simp only [r51_0, r51_1, r51_2, r51_3]; simp [a51, nextVer, c1', c1n, c2', c2n, c3', c3n, e1, c4', c4n, e2, e3, e4]; exact rfl) ?_
        | refine W_cond_t (by first | (simp [a51, nextVer, c1', c1n, c2', c2n, c3', c3n, e1, c4', c4n, e2, e3, e4]; done) | fail) ?_
        | refine W_cond_f (by first | (simp [a51, nextVer, c1', c1n, c2', c2n, c3', c3n, e1, c4', c4n, e2, e3, e4]; done) | fail) ?_
        | fail)
      exact fin (!f.blocks.any badBlock) _ (by simp) rfl (by simp only [FuncD.tells, c1, c2, c3, c4, c5, c6]; simp)

end Go.Proofs.YtcngflmnbdcppaaGreat

/- Widths, shapes, values; numbers that are cut. -/
namespace Go.Proofs.YtcngflmnbdcppaaGreat
open Go.LS Go.IntWalk

def widthB (n : Int) : Bool := decide (n = 1) || (decide (n = 8) || (decide (n = 16) || (decide (n = 32) || decide (n = 64))))

theorem width_cases {n : Int} (h : widthB n = true) : n = 1 ∨ n = 8 ∨ n = 16 ∨ n = 32 ∨ n = 64 := by simpa [widthB] using h

theorem wordMay_run (n : Int) (h : LS.Heap) : callD T 79 [.int .i64 n] h = some (.bool (widthB n), h) := by
  have fin : ∀ (v : Bool) (s : St), s.t 2 = .bool v → s.h = h → widthB n = v → (AExit.ret = AExit.normal ∨ AExit.ret = AExit.ret) ∧ ∃ vs, resV s a79.res = some vs ∧ (if a79.keepR = true then packV vs else (packV vs).retag) = .bool (widthB n) ∧ V.under h.next (.bool (widthB n)) = true ∧ HExt h s.h := fun v s h2 hh hb =>
    ⟨.inr rfl, [.bool v], by simp [a79, resV, resV1, h2], by simp [a79, packV, hb], rfl, by rw [hh]; exact .refl _⟩
  refine W_call t79 rfl rfl (by simp) ?_
  show W T c79 _ _
  unfold c79
  by_cases c1 : n = 1
  · subst c1
    repeat' (first
      | refine W_seq ?_
      | refine W_skip ?_
      | refine W_block ?_
      | refine W_ret ?_
      | refine W_exit ?_
      | refine W_ops (s1 := ?_) (by simp only [r79_0, r79_1, r79_2, r79_3, r79_4, r79_5, r79_6, r79_7, r79_8]; simp [a79]; exact rfl) ?_
      | refine W_tops (s1 := ?_) (by simp only [r79_0, r79_1, r79_2, r79_3, r79_4, r79_5, r79_6, r79_7, r79_8]; simp [a79]; exact rfl) ?_
      | refine W_cond_t (by first | (simp [a79]; done) | fail) ?_
      | refine W_cond_f (by first | (simp [a79]; done) | fail) ?_
      | fail)
    exact fin true _ (by simp) rfl rfl

  by_cases c8 : n = 8
  · subst c8
    repeat' (first
      | refine W_seq ?_
      | refine W_skip ?_
      | refine W_block ?_
      | refine W_ret ?_
      | refine W_exit ?_
      | refine W_ops (s1 := ?_) (by simp only [r79_0, r79_1, r79_2, r79_3, r79_4, r79_5, r79_6, r79_7, r79_8]; simp [a79]; exact rfl) ?_
      | refine W_tops (s1 := ?_) (by simp only [r79_0, r79_1, r79_2, r79_3, r79_4, r79_5, r79_6, r79_7, r79_8]; simp [a79]; exact rfl) ?_
      | refine W_cond_t (by first | (simp [a79]; done) | fail) ?_
      | refine W_cond_f (by first | (simp [a79]; done) | fail) ?_
      | fail)
    exact fin true _ (by simp) rfl rfl

  by_cases c16 : n = 16
  · subst c16
    repeat' (first
      | refine W_seq ?_
      | refine W_skip ?_
      | refine W_block ?_
      | refine W_ret ?_
      | refine W_exit ?_
      | refine W_ops (s1 := ?_) (by simp only [r79_0, r79_1, r79_2, r79_3, r79_4, r79_5, r79_6, r79_7, r79_8]; simp [a79]; exact rfl) ?_
      | refine W_tops (s1 := ?_) (by simp only [r79_0, r79_1, r79_2, r79_3, r79_4, r79_5, r79_6, r79_7, r79_8]; simp [a79]; exact rfl) ?_
      | refine W_cond_t (by first | (simp [a79]; done) | fail) ?_
      | refine W_cond_f (by first | (simp [a79]; done) | fail) ?_
      | fail)
    exact fin true _ (by simp) rfl rfl

  by_cases c32 : n = 32
  · subst c32
    repeat' (first
      | refine W_seq ?_
      | refine W_skip ?_
      | refine W_block ?_
      | refine W_ret ?_
      | refine W_exit ?_
      | refine W_ops (s1 := ?_) (by simp only [r79_0, r79_1, r79_2, r79_3, r79_4, r79_5, r79_6, r79_7, r79_8]; simp [a79]; exact rfl) ?_
      | refine W_tops (s1 := ?_) (by simp only [r79_0, r79_1, r79_2, r79_3, r79_4, r79_5, r79_6, r79_7, r79_8]; simp [a79]; exact rfl) ?_
      | refine W_cond_t (by first | (simp [a79]; done) | fail) ?_
      | refine W_cond_f (by first | (simp [a79]; done) | fail) ?_
      | fail)
    exact fin true _ (by simp) rfl rfl

  by_cases c64 : n = 64
  · subst c64
    repeat' (first
      | refine W_seq ?_
      | refine W_skip ?_
      | refine W_block ?_
      | refine W_ret ?_
      | refine W_exit ?_
      | refine W_ops (s1 := ?_) (by simp only [r79_0, r79_1, r79_2, r79_3, r79_4, r79_5, r79_6, r79_7, r79_8]; simp [a79]; exact rfl) ?_
      | refine W_tops (s1 := ?_) (by simp only [r79_0, r79_1, r79_2, r79_3, r79_4, r79_5, r79_6, r79_7, r79_8]; simp [a79]; exact rfl) ?_
      | refine W_cond_t (by first | (simp [a79]; done) | fail) ?_
      | refine W_cond_f (by first | (simp [a79]; done) | fail) ?_
      | fail)
    exact fin true _ (by simp) rfl rfl
  repeat' (first
    | refine W_seq ?_
    | refine W_skip ?_
    | refine W_block ?_
    | refine W_ret ?_
    | refine W_exit ?_
    | refine W_ops (s1 := ?_) (by simp only [r79_0, r79_1, r79_2, r79_3, r79_4, r79_5, r79_6, r79_7, r79_8]; simp [a79, c1, c8, c16, c32, c64]; exact rfl) ?_
    | refine W_tops (s1 := ?_) (by simp only [r79_0, r79_1, r79_2, r79_3, r79_4, r79_5, r79_6, r79_7, r79_8]; simp [a79, c1, c8, c16, c32, c64]; exact rfl) ?_
    | refine W_cond_t (by first | (simp [a79, c1, c8, c16, c32, c64]; done) | fail) ?_
    | refine W_cond_f (by first | (simp [a79, c1, c8, c16, c32, c64]; done) | fail) ?_
    | fail)
  exact fin false _ (by simp) rfl (by simp [widthB, c1, c8, c16, c32, c64])

def shapeB (bits lanes : Int) : Bool := widthB bits && (decide (lanes = 1) || ((decide (lanes = 2) || (decide (lanes = 4) || (decide (lanes = 8) || decide (lanes = 16)))) && (decide (8 ≤ bits) && decide (bits * lanes ≤ 128))))

theorem Shape_run (bits lanes : Int) (h : LS.Heap) : callD T 133 [.int .i64 bits, .int .i64 lanes] h = some (.bool (shapeB bits lanes), h) := by
  have fin : ∀ (v : Bool) (s : St), s.t 4 = .bool v → s.h = h → shapeB bits lanes = v → (AExit.ret = AExit.normal ∨ AExit.ret = AExit.ret) ∧ ∃ vs, resV s a133.res = some vs ∧ (if a133.keepR = true then packV vs else (packV vs).retag) = .bool (shapeB bits lanes) ∧ V.under h.next (.bool (shapeB bits lanes)) = true ∧ HExt h s.h := fun v s h2 hh hb =>
    ⟨.inr rfl, [.bool v], by simp [a133, resV, resV1, h2], by simp [a133, packV, hb], rfl, by rw [hh]; exact .refl _⟩
  have e := wordMay_run bits h
  refine W_call t133 rfl rfl (by simp) ?_
  show W T c133 _ _
  unfold c133
  cases cw : widthB bits with
  | false =>
    rw [cw] at e
    repeat' (first
      | refine W_seq ?_
      | refine W_skip ?_
      | refine W_block ?_
      | refine W_ret ?_
      | refine W_exit ?_
      | refine W_ops (s1 := ?_) (by simp only [r133_0, r133_1, r133_2, r133_3, r133_4, r133_5, r133_6, r133_7, r133_8, r133_9, r133_10, r133_11]; simp [a133, e]; exact rfl) ?_
      | refine W_tops (s1 := ?_) (by simp only [r133_0, r133_1, r133_2, r133_3, r133_4, r133_5, r133_6, r133_7, r133_8, r133_9, r133_10, r133_11]; simp [a133, e]; exact rfl) ?_
      | refine W_cond_t (by first | (simp [a133, e]; done) | fail) ?_
      | refine W_cond_f (by first | (simp [a133, e]; done) | fail) ?_
      | fail)
    exact fin false _ (by simp) rfl (by simp [shapeB, cw])
  | true =>
    rw [cw] at e
    by_cases l1 : lanes = 1
    · subst l1
      repeat' (first
        | refine W_seq ?_
        | refine W_skip ?_
        | refine W_block ?_
        | refine W_ret ?_
        | refine W_exit ?_
        | refine W_ops (s1 := ?_) (by simp only [r133_0, r133_1, r133_2, r133_3, r133_4, r133_5, r133_6, r133_7, r133_8, r133_9, r133_10, r133_11]; simp [a133, e]; exact rfl) ?_
        | refine W_tops (s1 := ?_) (by simp only [r133_0, r133_1, r133_2, r133_3, r133_4, r133_5, r133_6, r133_7, r133_8, r133_9, r133_10, r133_11]; simp [a133, e]; exact rfl) ?_
        | refine W_cond_t (by first | (simp [a133, e]; done) | fail) ?_
        | refine W_cond_f (by first | (simp [a133, e]; done) | fail) ?_
        | fail)
      exact fin true _ (by simp) rfl (by simp [shapeB, cw])
    have hb := width_cases cw
    by_cases l2 : lanes = 2
    · subst l2
      have w : IntKind.i64.wrap (bits * 2) = bits * 2 := i64_in _ (by omega)
      by_cases b8 : 8 ≤ bits
      · skip
        repeat' (first
          | refine W_seq ?_
          | refine W_skip ?_
          | refine W_block ?_
          | refine W_ret ?_
          | refine W_exit ?_
          | refine W_ops (s1 := ?_) (by simp only [r133_0, r133_1, r133_2, r133_3, r133_4, r133_5, r133_6, r133_7, r133_8, r133_9, r133_10, r133_11]; simp [a133, e, b8, w]; exact rfl) ?_
          | refine W_tops (s1 := ?_) (by simp only [r133_0, r133_1, r133_2, r133_3, r133_4, r133_5, r133_6, r133_7, r133_8, r133_9, r133_10, r133_11]; simp [a133, e, b8, w]; exact rfl) ?_
          | refine W_cond_t (by first | (simp [a133, e, b8, w]; done) | fail) ?_
          | refine W_cond_f (by first | (simp [a133, e, b8, w]; done) | fail) ?_
          | fail)
        exact fin (decide (bits * 2 ≤ 128)) _ (by simp) rfl (by simp [shapeB, cw, b8])
      · skip
        repeat' (first
          | refine W_seq ?_
          | refine W_skip ?_
          | refine W_block ?_
          | refine W_ret ?_
          | refine W_exit ?_
          | refine W_ops (s1 := ?_) (by simp only [r133_0, r133_1, r133_2, r133_3, r133_4, r133_5, r133_6, r133_7, r133_8, r133_9, r133_10, r133_11]; simp [a133, e, b8, w]; exact rfl) ?_
          | refine W_tops (s1 := ?_) (by simp only [r133_0, r133_1, r133_2, r133_3, r133_4, r133_5, r133_6, r133_7, r133_8, r133_9, r133_10, r133_11]; simp [a133, e, b8, w]; exact rfl) ?_
          | refine W_cond_t (by first | (simp [a133, e, b8, w]; done) | fail) ?_
          | refine W_cond_f (by first | (simp [a133, e, b8, w]; done) | fail) ?_
          | fail)
        exact fin false _ (by simp) rfl (by simp [shapeB, cw, b8])

    by_cases l4 : lanes = 4
    · subst l4
      have w : IntKind.i64.wrap (bits * 4) = bits * 4 := i64_in _ (by omega)
      by_cases b8 : 8 ≤ bits
      · skip
        repeat' (first
          | refine W_seq ?_
          | refine W_skip ?_
          | refine W_block ?_
          | refine W_ret ?_
          | refine W_exit ?_
          | refine W_ops (s1 := ?_) (by simp only [r133_0, r133_1, r133_2, r133_3, r133_4, r133_5, r133_6, r133_7, r133_8, r133_9, r133_10, r133_11]; simp [a133, e, b8, w]; exact rfl) ?_
          | refine W_tops (s1 := ?_) (by simp only [r133_0, r133_1, r133_2, r133_3, r133_4, r133_5, r133_6, r133_7, r133_8, r133_9, r133_10, r133_11]; simp [a133, e, b8, w]; exact rfl) ?_
          | refine W_cond_t (by first | (simp [a133, e, b8, w]; done) | fail) ?_
          | refine W_cond_f (by first | (simp [a133, e, b8, w]; done) | fail) ?_
          | fail)
        exact fin (decide (bits * 4 ≤ 128)) _ (by simp) rfl (by simp [shapeB, cw, b8])
      · skip
        repeat' (first
          | refine W_seq ?_
          | refine W_skip ?_
          | refine W_block ?_
          | refine W_ret ?_
          | refine W_exit ?_
          | refine W_ops (s1 := ?_) (by simp only [r133_0, r133_1, r133_2, r133_3, r133_4, r133_5, r133_6, r133_7, r133_8, r133_9, r133_10, r133_11]; simp [a133, e, b8, w]; exact rfl) ?_
          | refine W_tops (s1 := ?_) (by simp only [r133_0, r133_1, r133_2, r133_3, r133_4, r133_5, r133_6, r133_7, r133_8, r133_9, r133_10, r133_11]; simp [a133, e, b8, w]; exact rfl) ?_
          | refine W_cond_t (by first | (simp [a133, e, b8, w]; done) | fail) ?_
          | refine W_cond_f (by first | (simp [a133, e, b8, w]; done) | fail) ?_
          | fail)
        exact fin false _ (by simp) rfl (by simp [shapeB, cw, b8])

    by_cases l8 : lanes = 8
    · subst l8
      have w : IntKind.i64.wrap (bits * 8) = bits * 8 := i64_in _ (by omega)
      by_cases b8 : 8 ≤ bits
      · skip
        repeat' (first
          | refine W_seq ?_
          | refine W_skip ?_
          | refine W_block ?_
          | refine W_ret ?_
          | refine W_exit ?_
          | refine W_ops (s1 := ?_) (by simp only [r133_0, r133_1, r133_2, r133_3, r133_4, r133_5, r133_6, r133_7, r133_8, r133_9, r133_10, r133_11]; simp [a133, e, b8, w]; exact rfl) ?_
          | refine W_tops (s1 := ?_) (by simp only [r133_0, r133_1, r133_2, r133_3, r133_4, r133_5, r133_6, r133_7, r133_8, r133_9, r133_10, r133_11]; simp [a133, e, b8, w]; exact rfl) ?_
          | refine W_cond_t (by first | (simp [a133, e, b8, w]; done) | fail) ?_
          | refine W_cond_f (by first | (simp [a133, e, b8, w]; done) | fail) ?_
          | fail)
        exact fin (decide (bits * 8 ≤ 128)) _ (by simp) rfl (by simp [shapeB, cw, b8])
      · skip
        repeat' (first
          | refine W_seq ?_
          | refine W_skip ?_
          | refine W_block ?_
          | refine W_ret ?_
          | refine W_exit ?_
          | refine W_ops (s1 := ?_) (by simp only [r133_0, r133_1, r133_2, r133_3, r133_4, r133_5, r133_6, r133_7, r133_8, r133_9, r133_10, r133_11]; simp [a133, e, b8, w]; exact rfl) ?_
          | refine W_tops (s1 := ?_) (by simp only [r133_0, r133_1, r133_2, r133_3, r133_4, r133_5, r133_6, r133_7, r133_8, r133_9, r133_10, r133_11]; simp [a133, e, b8, w]; exact rfl) ?_
          | refine W_cond_t (by first | (simp [a133, e, b8, w]; done) | fail) ?_
          | refine W_cond_f (by first | (simp [a133, e, b8, w]; done) | fail) ?_
          | fail)
        exact fin false _ (by simp) rfl (by simp [shapeB, cw, b8])

    by_cases l16 : lanes = 16
    · subst l16
      have w : IntKind.i64.wrap (bits * 16) = bits * 16 := i64_in _ (by omega)
      by_cases b8 : 8 ≤ bits
      · skip
        repeat' (first
          | refine W_seq ?_
          | refine W_skip ?_
          | refine W_block ?_
          | refine W_ret ?_
          | refine W_exit ?_
          | refine W_ops (s1 := ?_) (by simp only [r133_0, r133_1, r133_2, r133_3, r133_4, r133_5, r133_6, r133_7, r133_8, r133_9, r133_10, r133_11]; simp [a133, e, b8, w]; exact rfl) ?_
          | refine W_tops (s1 := ?_) (by simp only [r133_0, r133_1, r133_2, r133_3, r133_4, r133_5, r133_6, r133_7, r133_8, r133_9, r133_10, r133_11]; simp [a133, e, b8, w]; exact rfl) ?_
          | refine W_cond_t (by first | (simp [a133, e, b8, w]; done) | fail) ?_
          | refine W_cond_f (by first | (simp [a133, e, b8, w]; done) | fail) ?_
          | fail)
        exact fin (decide (bits * 16 ≤ 128)) _ (by simp) rfl (by simp [shapeB, cw, b8])
      · skip
        repeat' (first
          | refine W_seq ?_
          | refine W_skip ?_
          | refine W_block ?_
          | refine W_ret ?_
          | refine W_exit ?_
          | refine W_ops (s1 := ?_) (by simp only [r133_0, r133_1, r133_2, r133_3, r133_4, r133_5, r133_6, r133_7, r133_8, r133_9, r133_10, r133_11]; simp [a133, e, b8, w]; exact rfl) ?_
          | refine W_tops (s1 := ?_) (by simp only [r133_0, r133_1, r133_2, r133_3, r133_4, r133_5, r133_6, r133_7, r133_8, r133_9, r133_10, r133_11]; simp [a133, e, b8, w]; exact rfl) ?_
          | refine W_cond_t (by first | (simp [a133, e, b8, w]; done) | fail) ?_
          | refine W_cond_f (by first | (simp [a133, e, b8, w]; done) | fail) ?_
          | fail)
        exact fin false _ (by simp) rfl (by simp [shapeB, cw, b8])
    repeat' (first
      | refine W_seq ?_
      | refine W_skip ?_
      | refine W_block ?_
      | refine W_ret ?_
      | refine W_exit ?_
      | refine W_ops (s1 := ?_) (by simp only [r133_0, r133_1, r133_2, r133_3, r133_4, r133_5, r133_6, r133_7, r133_8, r133_9, r133_10, r133_11]; simp [a133, e, l1, l2, l4, l8, l16]; exact rfl) ?_
      | refine W_tops (s1 := ?_) (by simp only [r133_0, r133_1, r133_2, r133_3, r133_4, r133_5, r133_6, r133_7, r133_8, r133_9, r133_10, r133_11]; simp [a133, e, l1, l2, l4, l8, l16]; exact rfl) ?_
      | refine W_cond_t (by first | (simp [a133, e, l1, l2, l4, l8, l16]; done) | fail) ?_
      | refine W_cond_f (by first | (simp [a133, e, l1, l2, l4, l8, l16]; done) | fail) ?_
      | fail)
    exact fin false _ (by simp) rfl (by simp [shapeB, cw, l1, l2, l4, l8, l16])

def valueB (v : Int) : Bool := decide (1 ≤ v) && decide (v ≤ 1023)
theorem value_run (v : Int) (h : LS.Heap) : callD T 135 [.int .i64 v] h = some (.bool (valueB v), h) := by
  refine W_call t135 rfl rfl (by simp) ?_
  show W T c135 _ _
  unfold c135
  by_cases c : 1 ≤ v
  · skip
    repeat' (first
      | refine W_seq ?_
      | refine W_skip ?_
      | refine W_block ?_
      | refine W_ret ?_
      | refine W_exit ?_
      | refine W_ops (s1 := ?_) (by simp only [r135_0, r135_1]; simp [a135, c]; exact rfl) ?_
      | refine W_tops (s1 := ?_) (by simp only [r135_0, r135_1]; simp [a135, c]; exact rfl) ?_
      | refine W_cond_t (by first | (simp [a135, c]; done) | fail) ?_
      | refine W_cond_f (by first | (simp [a135, c]; done) | fail) ?_
      | fail)
    exact ⟨.inr rfl, [.bool (valueB v)], by simp [a135, resV, resV1, valueB, c], by simp [a135, packV], rfl, .refl _⟩
  · skip
    repeat' (first
      | refine W_seq ?_
      | refine W_skip ?_
      | refine W_block ?_
      | refine W_ret ?_
      | refine W_exit ?_
      | refine W_ops (s1 := ?_) (by simp only [r135_0, r135_1]; simp [a135, c]; exact rfl) ?_
      | refine W_tops (s1 := ?_) (by simp only [r135_0, r135_1]; simp [a135, c]; exact rfl) ?_
      | refine W_cond_t (by first | (simp [a135, c]; done) | fail) ?_
      | refine W_cond_f (by first | (simp [a135, c]; done) | fail) ?_
      | fail)
    exact ⟨.inr rfl, [.bool (valueB v)], by simp [a135, resV, resV1, valueB, c], by simp [a135, packV], rfl, .refl _⟩

theorem valueP_run (v : Int) (h : LS.Heap) : callD T 136 [.int .i64 v] h = some (.bool (!valueB v), h) := by
  have e := value_run v h
  refine W_call t136 rfl rfl (by simp) ?_
  show W T c136 _ _
  unfold c136
  repeat' (first
    | refine W_seq ?_
    | refine W_skip ?_
    | refine W_block ?_
    | refine W_ret ?_
    | refine W_exit ?_
    | refine W_ops (s1 := ?_) (by simp only [r136_0, r136_1]; simp [a136, e]; exact rfl) ?_
    | refine W_tops (s1 := ?_) (by simp only [r136_0, r136_1]; simp [a136, e]; exact rfl) ?_
    | refine W_cond_t (by first | (simp [a136, e]; done) | fail) ?_
    | refine W_cond_f (by first | (simp [a136, e]; done) | fail) ?_
    | fail)
  exact ⟨.inr rfl, [.bool (!valueB v)], by simp [a136, resV, resV1], by simp [a136, packV], rfl, .refl _⟩

def storesB (k : Int) : Bool := decide (k = 17) || decide (k = 19)
theorem stores_run (k : Int) (h : LS.Heap) : callD T 116 [.int .i64 k] h = some (.bool (storesB k), h) := by
  refine W_call t116 rfl rfl (by simp) ?_
  show W T c116 _ _
  unfold c116
  by_cases c : k = 17
  · skip
    repeat' (first
      | refine W_seq ?_
      | refine W_skip ?_
      | refine W_block ?_
      | refine W_ret ?_
      | refine W_exit ?_
      | refine W_ops (s1 := ?_) (by simp only [r116_0, r116_1]; simp [a116, c]; exact rfl) ?_
      | refine W_tops (s1 := ?_) (by simp only [r116_0, r116_1]; simp [a116, c]; exact rfl) ?_
      | refine W_cond_t (by first | (simp [a116, c]; done) | fail) ?_
      | refine W_cond_f (by first | (simp [a116, c]; done) | fail) ?_
      | fail)
    exact ⟨.inr rfl, [.bool (storesB k)], by simp [a116, resV, resV1, storesB, c], by simp [a116, packV], rfl, .refl _⟩
  · skip
    repeat' (first
      | refine W_seq ?_
      | refine W_skip ?_
      | refine W_block ?_
      | refine W_ret ?_
      | refine W_exit ?_
      | refine W_ops (s1 := ?_) (by simp only [r116_0, r116_1]; simp [a116, c]; exact rfl) ?_
      | refine W_tops (s1 := ?_) (by simp only [r116_0, r116_1]; simp [a116, c]; exact rfl) ?_
      | refine W_cond_t (by first | (simp [a116, c]; done) | fail) ?_
      | refine W_cond_f (by first | (simp [a116, c]; done) | fail) ?_
      | fail)
    exact ⟨.inr rfl, [.bool (storesB k)], by simp [a116, resV, resV1, storesB, c], by simp [a116, packV], rfl, .refl _⟩

/-- A number modulo 2^width. -/
def cutU (v bits : Int) : Int := if bits = 1 then v % 2 else if bits = 8 then v % 256 else if bits = 16 then v % 65536 else if bits = 32 then v % 4294967296 else if bits = 64 then v else 0

theorem u64_wrap' (n : Int) : IntKind.u64.wrap n = n % 18446744073709551616 := by simp [IntKind.wrap, IntKind.bits, IntKind.signed]

theorem Cut_run (v bits : Int) (hv : 0 ≤ v ∧ v < 18446744073709551616) (h : LS.Heap) : callD T 144 [.int .u64 v, .int .i64 bits] h = some (.int .u64 (cutU v bits), h) := by
  have e := wordMay_run bits h
  refine W_call t144 rfl rfl (by simp) ?_
  show W T c144 _ _
  unfold c144
  by_cases c1 : bits = 1
  · subst c1
    have w : IntKind.i64.wrap 63 = 63 := i64_in _ (by omega)
    have w2 : widthB 1 = true := rfl
    rw [w2] at e
    repeat' (first
      | refine W_seq ?_
      | refine W_skip ?_
      | refine W_block ?_
      | refine W_ret ?_
      | refine W_exit ?_
      | refine W_ops (s1 := ?_) (by simp only [r144_0, r144_1, r144_2, r144_3]; simp [a144, e, w, IntKind.bits]; exact rfl) ?_
      | refine W_tops (s1 := ?_) (by simp only [r144_0, r144_1, r144_2, r144_3]; simp [a144, e, w, IntKind.bits]; exact rfl) ?_
      | refine W_cond_t (by first | (simp [a144, e, w, IntKind.bits]; done) | fail) ?_
      | refine W_cond_f (by first | (simp [a144, e, w, IntKind.bits]; done) | fail) ?_
      | fail)
    refine ⟨.inr rfl, [.int .u64 (cutU v 1)], ?_, by simp [a144, packV], rfl, .refl _⟩
    simp [a144, resV, resV1, cutU, u64_wrap', Int.fdiv_eq_ediv_of_nonneg]
    try omega

  by_cases c8 : bits = 8
  · subst c8
    have w : IntKind.i64.wrap 56 = 56 := i64_in _ (by omega)
    have w2 : widthB 8 = true := rfl
    rw [w2] at e
    repeat' (first
      | refine W_seq ?_
      | refine W_skip ?_
      | refine W_block ?_
      | refine W_ret ?_
      | refine W_exit ?_
      | refine W_ops (s1 := ?_) (by simp only [r144_0, r144_1, r144_2, r144_3]; simp [a144, e, w, IntKind.bits]; exact rfl) ?_
      | refine W_tops (s1 := ?_) (by simp only [r144_0, r144_1, r144_2, r144_3]; simp [a144, e, w, IntKind.bits]; exact rfl) ?_
      | refine W_cond_t (by first | (simp [a144, e, w, IntKind.bits]; done) | fail) ?_
      | refine W_cond_f (by first | (simp [a144, e, w, IntKind.bits]; done) | fail) ?_
      | fail)
    refine ⟨.inr rfl, [.int .u64 (cutU v 8)], ?_, by simp [a144, packV], rfl, .refl _⟩
    simp [a144, resV, resV1, cutU, u64_wrap', Int.fdiv_eq_ediv_of_nonneg]
    try omega

  by_cases c16 : bits = 16
  · subst c16
    have w : IntKind.i64.wrap 48 = 48 := i64_in _ (by omega)
    have w2 : widthB 16 = true := rfl
    rw [w2] at e
    repeat' (first
      | refine W_seq ?_
      | refine W_skip ?_
      | refine W_block ?_
      | refine W_ret ?_
      | refine W_exit ?_
      | refine W_ops (s1 := ?_) (by simp only [r144_0, r144_1, r144_2, r144_3]; simp [a144, e, w, IntKind.bits]; exact rfl) ?_
      | refine W_tops (s1 := ?_) (by simp only [r144_0, r144_1, r144_2, r144_3]; simp [a144, e, w, IntKind.bits]; exact rfl) ?_
      | refine W_cond_t (by first | (simp [a144, e, w, IntKind.bits]; done) | fail) ?_
      | refine W_cond_f (by first | (simp [a144, e, w, IntKind.bits]; done) | fail) ?_
      | fail)
    refine ⟨.inr rfl, [.int .u64 (cutU v 16)], ?_, by simp [a144, packV], rfl, .refl _⟩
    simp [a144, resV, resV1, cutU, u64_wrap', Int.fdiv_eq_ediv_of_nonneg]
    try omega

  by_cases c32 : bits = 32
  · subst c32
    have w : IntKind.i64.wrap 32 = 32 := i64_in _ (by omega)
    have w2 : widthB 32 = true := rfl
    rw [w2] at e
    repeat' (first
      | refine W_seq ?_
      | refine W_skip ?_
      | refine W_block ?_
      | refine W_ret ?_
      | refine W_exit ?_
      | refine W_ops (s1 := ?_) (by simp only [r144_0, r144_1, r144_2, r144_3]; simp [a144, e, w, IntKind.bits]; exact rfl) ?_
      | refine W_tops (s1 := ?_) (by simp only [r144_0, r144_1, r144_2, r144_3]; simp [a144, e, w, IntKind.bits]; exact rfl) ?_
      | refine W_cond_t (by first | (simp [a144, e, w, IntKind.bits]; done) | fail) ?_
      | refine W_cond_f (by first | (simp [a144, e, w, IntKind.bits]; done) | fail) ?_
      | fail)
    refine ⟨.inr rfl, [.int .u64 (cutU v 32)], ?_, by simp [a144, packV], rfl, .refl _⟩
    simp [a144, resV, resV1, cutU, u64_wrap', Int.fdiv_eq_ediv_of_nonneg]
    try omega

  by_cases c64 : bits = 64
  · subst c64
    have w : IntKind.i64.wrap 0 = 0 := i64_in _ (by omega)
    have w2 : widthB 64 = true := rfl
    rw [w2] at e
    repeat' (first
      | refine W_seq ?_
      | refine W_skip ?_
      | refine W_block ?_
      | refine W_ret ?_
      | refine W_exit ?_
      | refine W_ops (s1 := ?_) (by simp only [r144_0, r144_1, r144_2, r144_3]; simp [a144, e, w, IntKind.bits]; exact rfl) ?_
      | refine W_tops (s1 := ?_) (by simp only [r144_0, r144_1, r144_2, r144_3]; simp [a144, e, w, IntKind.bits]; exact rfl) ?_
      | refine W_cond_t (by first | (simp [a144, e, w, IntKind.bits]; done) | fail) ?_
      | refine W_cond_f (by first | (simp [a144, e, w, IntKind.bits]; done) | fail) ?_
      | fail)
    refine ⟨.inr rfl, [.int .u64 (cutU v 64)], ?_, by simp [a144, packV], rfl, .refl _⟩
    simp [a144, resV, resV1, cutU, u64_wrap', Int.fdiv_eq_ediv_of_nonneg]
    try omega
  have w2 : widthB bits = false := by simp [widthB, c1, c8, c16, c32, c64]
  rw [w2] at e
  repeat' (first
    | refine W_seq ?_
    | refine W_skip ?_
    | refine W_block ?_
    | refine W_ret ?_
    | refine W_exit ?_
    | refine W_ops (s1 := ?_) (by simp only [r144_0, r144_1, r144_2, r144_3]; simp [a144, e]; exact rfl) ?_
    | refine W_tops (s1 := ?_) (by simp only [r144_0, r144_1, r144_2, r144_3]; simp [a144, e]; exact rfl) ?_
    | refine W_cond_t (by first | (simp [a144, e]; done) | fail) ?_
    | refine W_cond_f (by first | (simp [a144, e]; done) | fail) ?_
    | fail)
  exact ⟨.inr rfl, [.int .u64 (cutU v bits)], by simp [a144, resV, resV1, cutU, c1, c8, c16, c32, c64], by simp [a144, packV], rfl, .refl _⟩

end Go.Proofs.YtcngflmnbdcppaaGreat

/- What operations take (but for those that pack). -/
namespace Go.Proofs.YtcngflmnbdcppaaGreat
open Go.LS Go.IntWalk

def shapeC (p : Int × Int) : List V := [.int .i64 p.1, .int .i64 p.2]
@[simp] theorem retag_shape (l : List (Int × Int)) : V.retagLL (l.map shapeC) = l.map shapeC := retagLL_enc _ (fun _ => rfl) _
@[simp] theorem under_shape (n : Nat) (l : List (Int × Int)) : V.underLL n (l.map shapeC) = true := underLL_enc _ _ (fun _ => rfl) _

def OpD.one (o : OpD) : Bool := decide (o.lanes = 1)
def OpD.mem (o : OpD) : Bool := decide (8 ≤ o.bits)
def OpD.no (o : OpD) : Bool := decide (o.imm = 0)

/-- What an operation takes; whether its kind, shape and number are right. -/
def takesM (o : OpD) : List (Int × Int) × Bool :=
  if o.kind = 0 then ([], decide (cutU o.imm o.bits = o.imm))
  else if o.kind = 1 ∨ o.kind = 2 ∨ o.kind = 3 ∨ o.kind = 5 ∨ o.kind = 6 ∨ o.kind = 7 ∨ o.kind = 8 ∨ o.kind = 9 then ([(o.bits, o.lanes), (o.bits, o.lanes)], o.no)
  else if o.kind = 4 ∨ o.kind = 10 ∨ o.kind = 11 ∨ o.kind = 12 then ([(o.bits, o.lanes), (o.bits, o.lanes)], o.no && o.one)
  else if o.kind = 13 then ([(1, 1), (o.bits, o.lanes), (o.bits, o.lanes)], o.no)
  else if o.kind = 14 then ([(min o.imm 128, 1)], o.one && (decide (o.imm < IntKind.u64.wrap o.bits) && widthB (IntKind.i64.wrap o.imm)))
  else if o.kind = 15 then ([(min o.imm 128, 1)], o.one && (decide (IntKind.u64.wrap o.bits < o.imm) && (decide (o.imm ≤ 64) && widthB (IntKind.i64.wrap o.imm))))
  else if o.kind = 16 then ([(64, 1)], o.no && o.mem)
  else if o.kind = 17 then ([(64, 1), (o.bits, o.lanes)], o.no && o.mem)
  else if o.kind = 18 ∨ o.kind = 19 then ([(1, 1), (64, 1), (o.bits, o.lanes)], o.no && (o.one && o.mem))
  else if o.kind = 20 then ([(1, 1), (o.bits, o.lanes), (o.bits, o.lanes), (o.bits, o.lanes)], o.no && o.one)
  else if o.kind = 21 then (List.replicate o.lanes.toNat (o.bits, 1), o.no && !o.one)
  else if o.kind = 22 then ([(o.bits, o.lanes)], !o.one && decide (o.imm < IntKind.u64.wrap o.lanes))
  else ([], false)

theorem row_run (tg : Tag) (l : List (Int × Int)) (h : LS.Heap) : callD T 145 [.lst tg (l.map shapeC)] h = some (.lst .ro (l.map shapeC), h) := by
  refine W_call t145 rfl rfl (by simp) ?_
  show W T c145 _ _
  unfold c145
  repeat' (first
    | refine W_seq ?_
    | refine W_skip ?_
    | refine W_block ?_
    | refine W_ret ?_
    | refine W_exit ?_
    | refine W_ops (s1 := ?_) (by simp only [r145_0, r145_1]; simp [a145]; exact rfl) ?_
    | refine W_tops (s1 := ?_) (by simp only [r145_0, r145_1]; simp [a145]; exact rfl) ?_
    | refine W_cond_t (by first | (simp [a145]; done) | fail) ?_
    | refine W_cond_f (by first | (simp [a145]; done) | fail) ?_
    | fail)
  exact ⟨.inr rfl, [.lst .ro (l.map shapeC)], by simp [a145, resV, resV1], by simp [a145, packV], by simp, .refl _⟩

theorem row_run' (tg : Tag) (l : List (Int × Int)) (h : LS.Heap) {r : List (List V)} (hr : r = l.map shapeC) : callD T 145 [.lst tg r] h = some (.lst .ro r, h) := by
  rw [hr]; exact row_run tg l h

def takesFin (o : OpD) (h : LS.Heap) (r : List (Int × Int) × Bool) : Prop := ∀ (s : St) (l : List (List V)) (v : Bool) (tg : Tag), s.t 2 = .lst tg l → s.t 3 = .bool v → s.h = h → l = r.1.map shapeC → v = r.2 →
  (AExit.ret = AExit.normal ∨ AExit.ret = AExit.ret) ∧ ∃ vs, resV s a134.res = some vs ∧ (if a134.keepR = true then packV vs else (packV vs).retag) = .tup [.lst .ro (r.1.map shapeC), .bool r.2] ∧ V.under h.next (.tup [.lst .ro (r.1.map shapeC), .bool r.2]) = true ∧ HExt h s.h

theorem takes_fin (o : OpD) (h : LS.Heap) (r : List (Int × Int) × Bool) : takesFin o h r := fun s l v tg h2 h3 hh hl hv => by
  subst hl hv
  exact ⟨.inr rfl, [.lst tg (r.1.map shapeC), .bool r.2], by simp [a134, resV, resV1, h2, h3], by simp [a134, packV], by simp, by rw [hh]; exact .refl _⟩

theorem min_u64 (a : Int) (h : 0 ≤ a ∧ a < 18446744073709551616) : IntKind.i64.wrap (min a 128) = min a 128 := i64_in _ (by omega)

/-- What 'takes' says of an operation is so. -/
def TakesOK (o : OpD) : Prop := ∀ h, callD T 134 [.agg o.c] h = some (.tup [.lst .ro ((takesM o).1.map shapeC), .bool (takesM o).2], h)

theorem takes_0 (bits lanes dst : Int) (args : List Int) (imm : Int) (hv : 0 ≤ imm ∧ imm < 18446744073709551616) : TakesOK ⟨0, bits, lanes, dst, args, imm⟩ := by
  intro h
  have fin := takes_fin ⟨0, bits, lanes, dst, args, imm⟩ h (takesM ⟨0, bits, lanes, dst, args, imm⟩)
  refine W_call t134 rfl rfl (by simp) ?_
  show W T c134 _ _
  unfold c134
  have hE : (OpD.mk 0 bits lanes dst args imm).c = [.int .i64 0, .int .i64 bits, .int .i64 lanes, .int .i64 dst, .lst .ro (args.map intC), .int .u64 imm] := rfl
  rw [hE]
  have eC := Cut_run imm bits hv h
  repeat' (first
    | refine W_seq ?_
    | refine W_skip ?_
    | refine W_block ?_
    | refine W_ret ?_
    | refine W_exit ?_
    | refine W_ops (s1 := ?_) (by simp only [r134_0, r134_1, r134_2, r134_3, r134_4, r134_5, r134_6, r134_7, r134_8, r134_9, r134_10, r134_11, r134_12, r134_13, r134_14, r134_15, r134_16, r134_17, r134_18, r134_19, r134_20, r134_21, r134_22, r134_23, r134_24, r134_25, r134_26, r134_27, r134_28, r134_29, r134_30, r134_31, r134_32, r134_33, r134_34, r134_35, r134_36, r134_37, r134_38, r134_39]; simp [a134, nextVer, eC]; exact rfl) ?_
    | refine W_tops (s1 := ?_) (by simp only [r134_0, r134_1, r134_2, r134_3, r134_4, r134_5, r134_6, r134_7, r134_8, r134_9, r134_10, r134_11, r134_12, r134_13, r134_14, r134_15, r134_16, r134_17, r134_18, r134_19, r134_20, r134_21, r134_22, r134_23, r134_24, r134_25, r134_26, r134_27, r134_28, r134_29, r134_30, r134_31, r134_32, r134_33, r134_34, r134_35, r134_36, r134_37, r134_38, r134_39]; simp [a134, nextVer, eC]; exact rfl) ?_
    | refine W_cond_t (by first | (simp [a134, nextVer, eC]; done) | fail) ?_
    | refine W_cond_f (by first | (simp [a134, nextVer, eC]; done) | fail) ?_
    | fail)
  exact fin _ _ _ _ (by simp; exact ⟨rfl, rfl⟩) (by simp; exact rfl) rfl (by simp [takesM]) (by simp [takesM])

theorem takes_1 (bits lanes dst : Int) (args : List Int) (imm : Int) : TakesOK ⟨1, bits, lanes, dst, args, imm⟩ := by
  intro h
  have fin := takes_fin ⟨1, bits, lanes, dst, args, imm⟩ h (takesM ⟨1, bits, lanes, dst, args, imm⟩)
  refine W_call t134 rfl rfl (by simp) ?_
  show W T c134 _ _
  unfold c134
  have hE : (OpD.mk 1 bits lanes dst args imm).c = [.int .i64 1, .int .i64 bits, .int .i64 lanes, .int .i64 dst, .lst .ro (args.map intC), .int .u64 imm] := rfl
  rw [hE]
  have r2 := row_run' .exact [(bits, lanes), (bits, lanes)] h rfl
  simp only [List.map, shapeC] at r2
  repeat' (first
    | refine W_seq ?_
    | refine W_skip ?_
    | refine W_block ?_
    | refine W_ret ?_
    | refine W_exit ?_
    | refine W_ops (s1 := ?_) (by simp only [r134_0, r134_1, r134_2, r134_3, r134_4, r134_5, r134_6, r134_7, r134_8, r134_9, r134_10, r134_11, r134_12, r134_13, r134_14, r134_15, r134_16, r134_17, r134_18, r134_19, r134_20, r134_21, r134_22, r134_23, r134_24, r134_25, r134_26, r134_27, r134_28, r134_29, r134_30, r134_31, r134_32, r134_33, r134_34, r134_35, r134_36, r134_37, r134_38, r134_39]; simp [a134, nextVer, r2]; exact rfl) ?_
    | refine W_tops (s1 := ?_) (by simp only [r134_0, r134_1, r134_2, r134_3, r134_4, r134_5, r134_6, r134_7, r134_8, r134_9, r134_10, r134_11, r134_12, r134_13, r134_14, r134_15, r134_16, r134_17, r134_18, r134_19, r134_20, r134_21, r134_22, r134_23, r134_24, r134_25, r134_26, r134_27, r134_28, r134_29, r134_30, r134_31, r134_32, r134_33, r134_34, r134_35, r134_36, r134_37, r134_38, r134_39]; simp [a134, nextVer, r2]; exact rfl) ?_
    | refine W_cond_t (by first | (simp [a134, nextVer, r2]; done) | fail) ?_
    | refine W_cond_f (by first | (simp [a134, nextVer, r2]; done) | fail) ?_
    | fail)
  exact fin _ _ _ _ (by simp; exact ⟨rfl, rfl⟩) (by simp; exact rfl) rfl (by simp [takesM, shapeC]) (by simp [takesM, OpD.no])

theorem takes_2 (bits lanes dst : Int) (args : List Int) (imm : Int) : TakesOK ⟨2, bits, lanes, dst, args, imm⟩ := by
  intro h
  have fin := takes_fin ⟨2, bits, lanes, dst, args, imm⟩ h (takesM ⟨2, bits, lanes, dst, args, imm⟩)
  refine W_call t134 rfl rfl (by simp) ?_
  show W T c134 _ _
  unfold c134
  have hE : (OpD.mk 2 bits lanes dst args imm).c = [.int .i64 2, .int .i64 bits, .int .i64 lanes, .int .i64 dst, .lst .ro (args.map intC), .int .u64 imm] := rfl
  rw [hE]
  have r2 := row_run' .exact [(bits, lanes), (bits, lanes)] h rfl
  simp only [List.map, shapeC] at r2
  repeat' (first
    | refine W_seq ?_
    | refine W_skip ?_
    | refine W_block ?_
    | refine W_ret ?_
    | refine W_exit ?_
    | refine W_ops (s1 := ?_) (by simp only [r134_0, r134_1, r134_2, r134_3, r134_4, r134_5, r134_6, r134_7, r134_8, r134_9, r134_10, r134_11, r134_12, r134_13, r134_14, r134_15, r134_16, r134_17, r134_18, r134_19, r134_20, r134_21, r134_22, r134_23, r134_24, r134_25, r134_26, r134_27, r134_28, r134_29, r134_30, r134_31, r134_32, r134_33, r134_34, r134_35, r134_36, r134_37, r134_38, r134_39]; simp [a134, nextVer, r2]; exact rfl) ?_
    | refine W_tops (s1 := ?_) (by simp only [r134_0, r134_1, r134_2, r134_3, r134_4, r134_5, r134_6, r134_7, r134_8, r134_9, r134_10, r134_11, r134_12, r134_13, r134_14, r134_15, r134_16, r134_17, r134_18, r134_19, r134_20, r134_21, r134_22, r134_23, r134_24, r134_25, r134_26, r134_27, r134_28, r134_29, r134_30, r134_31, r134_32, r134_33, r134_34, r134_35, r134_36, r134_37, r134_38, r134_39]; simp [a134, nextVer, r2]; exact rfl) ?_
    | refine W_cond_t (by first | (simp [a134, nextVer, r2]; done) | fail) ?_
    | refine W_cond_f (by first | (simp [a134, nextVer, r2]; done) | fail) ?_
    | fail)
  exact fin _ _ _ _ (by simp; exact ⟨rfl, rfl⟩) (by simp; exact rfl) rfl (by simp [takesM, shapeC]) (by simp [takesM, OpD.no])

theorem takes_3 (bits lanes dst : Int) (args : List Int) (imm : Int) : TakesOK ⟨3, bits, lanes, dst, args, imm⟩ := by
  intro h
  have fin := takes_fin ⟨3, bits, lanes, dst, args, imm⟩ h (takesM ⟨3, bits, lanes, dst, args, imm⟩)
  refine W_call t134 rfl rfl (by simp) ?_
  show W T c134 _ _
  unfold c134
  have hE : (OpD.mk 3 bits lanes dst args imm).c = [.int .i64 3, .int .i64 bits, .int .i64 lanes, .int .i64 dst, .lst .ro (args.map intC), .int .u64 imm] := rfl
  rw [hE]
  have r2 := row_run' .exact [(bits, lanes), (bits, lanes)] h rfl
  simp only [List.map, shapeC] at r2
  repeat' (first
    | refine W_seq ?_
    | refine W_skip ?_
    | refine W_block ?_
    | refine W_ret ?_
    | refine W_exit ?_
    | refine W_ops (s1 := ?_) (by simp only [r134_0, r134_1, r134_2, r134_3, r134_4, r134_5, r134_6, r134_7, r134_8, r134_9, r134_10, r134_11, r134_12, r134_13, r134_14, r134_15, r134_16, r134_17, r134_18, r134_19, r134_20, r134_21, r134_22, r134_23, r134_24, r134_25, r134_26, r134_27, r134_28, r134_29, r134_30, r134_31, r134_32, r134_33, r134_34, r134_35, r134_36, r134_37, r134_38, r134_39]; simp [a134, nextVer, r2]; exact rfl) ?_
    | refine W_tops (s1 := ?_) (by simp only [r134_0, r134_1, r134_2, r134_3, r134_4, r134_5, r134_6, r134_7, r134_8, r134_9, r134_10, r134_11, r134_12, r134_13, r134_14, r134_15, r134_16, r134_17, r134_18, r134_19, r134_20, r134_21, r134_22, r134_23, r134_24, r134_25, r134_26, r134_27, r134_28, r134_29, r134_30, r134_31, r134_32, r134_33, r134_34, r134_35, r134_36, r134_37, r134_38, r134_39]; simp [a134, nextVer, r2]; exact rfl) ?_
    | refine W_cond_t (by first | (simp [a134, nextVer, r2]; done) | fail) ?_
    | refine W_cond_f (by first | (simp [a134, nextVer, r2]; done) | fail) ?_
    | fail)
  exact fin _ _ _ _ (by simp; exact ⟨rfl, rfl⟩) (by simp; exact rfl) rfl (by simp [takesM, shapeC]) (by simp [takesM, OpD.no])

theorem takes_5 (bits lanes dst : Int) (args : List Int) (imm : Int) : TakesOK ⟨5, bits, lanes, dst, args, imm⟩ := by
  intro h
  have fin := takes_fin ⟨5, bits, lanes, dst, args, imm⟩ h (takesM ⟨5, bits, lanes, dst, args, imm⟩)
  refine W_call t134 rfl rfl (by simp) ?_
  show W T c134 _ _
  unfold c134
  have hE : (OpD.mk 5 bits lanes dst args imm).c = [.int .i64 5, .int .i64 bits, .int .i64 lanes, .int .i64 dst, .lst .ro (args.map intC), .int .u64 imm] := rfl
  rw [hE]
  have r2 := row_run' .exact [(bits, lanes), (bits, lanes)] h rfl
  simp only [List.map, shapeC] at r2
  repeat' (first
    | refine W_seq ?_
    | refine W_skip ?_
    | refine W_block ?_
    | refine W_ret ?_
    | refine W_exit ?_
    | refine W_ops (s1 := ?_) (by simp only [r134_0, r134_1, r134_2, r134_3, r134_4, r134_5, r134_6, r134_7, r134_8, r134_9, r134_10, r134_11, r134_12, r134_13, r134_14, r134_15, r134_16, r134_17, r134_18, r134_19, r134_20, r134_21, r134_22, r134_23, r134_24, r134_25, r134_26, r134_27, r134_28, r134_29, r134_30, r134_31, r134_32, r134_33, r134_34, r134_35, r134_36, r134_37, r134_38, r134_39]; simp [a134, nextVer, r2]; exact rfl) ?_
    | refine W_tops (s1 := ?_) (by simp only [r134_0, r134_1, r134_2, r134_3, r134_4, r134_5, r134_6, r134_7, r134_8, r134_9, r134_10, r134_11, r134_12, r134_13, r134_14, r134_15, r134_16, r134_17, r134_18, r134_19, r134_20, r134_21, r134_22, r134_23, r134_24, r134_25, r134_26, r134_27, r134_28, r134_29, r134_30, r134_31, r134_32, r134_33, r134_34, r134_35, r134_36, r134_37, r134_38, r134_39]; simp [a134, nextVer, r2]; exact rfl) ?_
    | refine W_cond_t (by first | (simp [a134, nextVer, r2]; done) | fail) ?_
    | refine W_cond_f (by first | (simp [a134, nextVer, r2]; done) | fail) ?_
    | fail)
  exact fin _ _ _ _ (by simp; exact ⟨rfl, rfl⟩) (by simp; exact rfl) rfl (by simp [takesM, shapeC]) (by simp [takesM, OpD.no])

theorem takes_6 (bits lanes dst : Int) (args : List Int) (imm : Int) : TakesOK ⟨6, bits, lanes, dst, args, imm⟩ := by
  intro h
  have fin := takes_fin ⟨6, bits, lanes, dst, args, imm⟩ h (takesM ⟨6, bits, lanes, dst, args, imm⟩)
  refine W_call t134 rfl rfl (by simp) ?_
  show W T c134 _ _
  unfold c134
  have hE : (OpD.mk 6 bits lanes dst args imm).c = [.int .i64 6, .int .i64 bits, .int .i64 lanes, .int .i64 dst, .lst .ro (args.map intC), .int .u64 imm] := rfl
  rw [hE]
  have r2 := row_run' .exact [(bits, lanes), (bits, lanes)] h rfl
  simp only [List.map, shapeC] at r2
  repeat' (first
    | refine W_seq ?_
    | refine W_skip ?_
    | refine W_block ?_
    | refine W_ret ?_
    | refine W_exit ?_
    | refine W_ops (s1 := ?_) (by simp only [r134_0, r134_1, r134_2, r134_3, r134_4, r134_5, r134_6, r134_7, r134_8, r134_9, r134_10, r134_11, r134_12, r134_13, r134_14, r134_15, r134_16, r134_17, r134_18, r134_19, r134_20, r134_21, r134_22, r134_23, r134_24, r134_25, r134_26, r134_27, r134_28, r134_29, r134_30, r134_31, r134_32, r134_33, r134_34, r134_35, r134_36, r134_37, r134_38, r134_39]; simp [a134, nextVer, r2]; exact rfl) ?_
    | refine W_tops (s1 := ?_) (by simp only [r134_0, r134_1, r134_2, r134_3, r134_4, r134_5, r134_6, r134_7, r134_8, r134_9, r134_10, r134_11, r134_12, r134_13, r134_14, r134_15, r134_16, r134_17, r134_18, r134_19, r134_20, r134_21, r134_22, r134_23, r134_24, r134_25, r134_26, r134_27, r134_28, r134_29, r134_30, r134_31, r134_32, r134_33, r134_34, r134_35, r134_36, r134_37, r134_38, r134_39]; simp [a134, nextVer, r2]; exact rfl) ?_
    | refine W_cond_t (by first | (simp [a134, nextVer, r2]; done) | fail) ?_
    | refine W_cond_f (by first | (simp [a134, nextVer, r2]; done) | fail) ?_
    | fail)
  exact fin _ _ _ _ (by simp; exact ⟨rfl, rfl⟩) (by simp; exact rfl) rfl (by simp [takesM, shapeC]) (by simp [takesM, OpD.no])

theorem takes_7 (bits lanes dst : Int) (args : List Int) (imm : Int) : TakesOK ⟨7, bits, lanes, dst, args, imm⟩ := by
  intro h
  have fin := takes_fin ⟨7, bits, lanes, dst, args, imm⟩ h (takesM ⟨7, bits, lanes, dst, args, imm⟩)
  refine W_call t134 rfl rfl (by simp) ?_
  show W T c134 _ _
  unfold c134
  have hE : (OpD.mk 7 bits lanes dst args imm).c = [.int .i64 7, .int .i64 bits, .int .i64 lanes, .int .i64 dst, .lst .ro (args.map intC), .int .u64 imm] := rfl
  rw [hE]
  have r2 := row_run' .exact [(bits, lanes), (bits, lanes)] h rfl
  simp only [List.map, shapeC] at r2
  repeat' (first
    | refine W_seq ?_
    | refine W_skip ?_
    | refine W_block ?_
    | refine W_ret ?_
    | refine W_exit ?_
    | refine W_ops (s1 := ?_) (by simp only [r134_0, r134_1, r134_2, r134_3, r134_4, r134_5, r134_6, r134_7, r134_8, r134_9, r134_10, r134_11, r134_12, r134_13, r134_14, r134_15, r134_16, r134_17, r134_18, r134_19, r134_20, r134_21, r134_22, r134_23, r134_24, r134_25, r134_26, r134_27, r134_28, r134_29, r134_30, r134_31, r134_32, r134_33, r134_34, r134_35, r134_36, r134_37, r134_38, r134_39]; simp [a134, nextVer, r2]; exact rfl) ?_
    | refine W_tops (s1 := ?_) (by simp only [r134_0, r134_1, r134_2, r134_3, r134_4, r134_5, r134_6, r134_7, r134_8, r134_9, r134_10, r134_11, r134_12, r134_13, r134_14, r134_15, r134_16, r134_17, r134_18, r134_19, r134_20, r134_21, r134_22, r134_23, r134_24, r134_25, r134_26, r134_27, r134_28, r134_29, r134_30, r134_31, r134_32, r134_33, r134_34, r134_35, r134_36, r134_37, r134_38, r134_39]; simp [a134, nextVer, r2]; exact rfl) ?_
    | refine W_cond_t (by first | (simp [a134, nextVer, r2]; done) | fail) ?_
    | refine W_cond_f (by first | (simp [a134, nextVer, r2]; done) | fail) ?_
    | fail)
  exact fin _ _ _ _ (by simp; exact ⟨rfl, rfl⟩) (by simp; exact rfl) rfl (by simp [takesM, shapeC]) (by simp [takesM, OpD.no])

theorem takes_8 (bits lanes dst : Int) (args : List Int) (imm : Int) : TakesOK ⟨8, bits, lanes, dst, args, imm⟩ := by
  intro h
  have fin := takes_fin ⟨8, bits, lanes, dst, args, imm⟩ h (takesM ⟨8, bits, lanes, dst, args, imm⟩)
  refine W_call t134 rfl rfl (by simp) ?_
  show W T c134 _ _
  unfold c134
  have hE : (OpD.mk 8 bits lanes dst args imm).c = [.int .i64 8, .int .i64 bits, .int .i64 lanes, .int .i64 dst, .lst .ro (args.map intC), .int .u64 imm] := rfl
  rw [hE]
  have r2 := row_run' .exact [(bits, lanes), (bits, lanes)] h rfl
  simp only [List.map, shapeC] at r2
  repeat' (first
    | refine W_seq ?_
    | refine W_skip ?_
    | refine W_block ?_
    | refine W_ret ?_
    | refine W_exit ?_
    | refine W_ops (s1 := ?_) (by simp only [r134_0, r134_1, r134_2, r134_3, r134_4, r134_5, r134_6, r134_7, r134_8, r134_9, r134_10, r134_11, r134_12, r134_13, r134_14, r134_15, r134_16, r134_17, r134_18, r134_19, r134_20, r134_21, r134_22, r134_23, r134_24, r134_25, r134_26, r134_27, r134_28, r134_29, r134_30, r134_31, r134_32, r134_33, r134_34, r134_35, r134_36, r134_37, r134_38, r134_39]; simp [a134, nextVer, r2]; exact rfl) ?_
    | refine W_tops (s1 := ?_) (by simp only [r134_0, r134_1, r134_2, r134_3, r134_4, r134_5, r134_6, r134_7, r134_8, r134_9, r134_10, r134_11, r134_12, r134_13, r134_14, r134_15, r134_16, r134_17, r134_18, r134_19, r134_20, r134_21, r134_22, r134_23, r134_24, r134_25, r134_26, r134_27, r134_28, r134_29, r134_30, r134_31, r134_32, r134_33, r134_34, r134_35, r134_36, r134_37, r134_38, r134_39]; simp [a134, nextVer, r2]; exact rfl) ?_
    | refine W_cond_t (by first | (simp [a134, nextVer, r2]; done) | fail) ?_
    | refine W_cond_f (by first | (simp [a134, nextVer, r2]; done) | fail) ?_
    | fail)
  exact fin _ _ _ _ (by simp; exact ⟨rfl, rfl⟩) (by simp; exact rfl) rfl (by simp [takesM, shapeC]) (by simp [takesM, OpD.no])

theorem takes_9 (bits lanes dst : Int) (args : List Int) (imm : Int) : TakesOK ⟨9, bits, lanes, dst, args, imm⟩ := by
  intro h
  have fin := takes_fin ⟨9, bits, lanes, dst, args, imm⟩ h (takesM ⟨9, bits, lanes, dst, args, imm⟩)
  refine W_call t134 rfl rfl (by simp) ?_
  show W T c134 _ _
  unfold c134
  have hE : (OpD.mk 9 bits lanes dst args imm).c = [.int .i64 9, .int .i64 bits, .int .i64 lanes, .int .i64 dst, .lst .ro (args.map intC), .int .u64 imm] := rfl
  rw [hE]
  have r2 := row_run' .exact [(bits, lanes), (bits, lanes)] h rfl
  simp only [List.map, shapeC] at r2
  repeat' (first
    | refine W_seq ?_
    | refine W_skip ?_
    | refine W_block ?_
    | refine W_ret ?_
    | refine W_exit ?_
    | refine W_ops (s1 := ?_) (by simp only [r134_0, r134_1, r134_2, r134_3, r134_4, r134_5, r134_6, r134_7, r134_8, r134_9, r134_10, r134_11, r134_12, r134_13, r134_14, r134_15, r134_16, r134_17, r134_18, r134_19, r134_20, r134_21, r134_22, r134_23, r134_24, r134_25, r134_26, r134_27, r134_28, r134_29, r134_30, r134_31, r134_32, r134_33, r134_34, r134_35, r134_36, r134_37, r134_38, r134_39]; simp [a134, nextVer, r2]; exact rfl) ?_
    | refine W_tops (s1 := ?_) (by simp only [r134_0, r134_1, r134_2, r134_3, r134_4, r134_5, r134_6, r134_7, r134_8, r134_9, r134_10, r134_11, r134_12, r134_13, r134_14, r134_15, r134_16, r134_17, r134_18, r134_19, r134_20, r134_21, r134_22, r134_23, r134_24, r134_25, r134_26, r134_27, r134_28, r134_29, r134_30, r134_31, r134_32, r134_33, r134_34, r134_35, r134_36, r134_37, r134_38, r134_39]; simp [a134, nextVer, r2]; exact rfl) ?_
    | refine W_cond_t (by first | (simp [a134, nextVer, r2]; done) | fail) ?_
    | refine W_cond_f (by first | (simp [a134, nextVer, r2]; done) | fail) ?_
    | fail)
  exact fin _ _ _ _ (by simp; exact ⟨rfl, rfl⟩) (by simp; exact rfl) rfl (by simp [takesM, shapeC]) (by simp [takesM, OpD.no])

theorem takes_13 (bits lanes dst : Int) (args : List Int) (imm : Int) : TakesOK ⟨13, bits, lanes, dst, args, imm⟩ := by
  intro h
  have fin := takes_fin ⟨13, bits, lanes, dst, args, imm⟩ h (takesM ⟨13, bits, lanes, dst, args, imm⟩)
  refine W_call t134 rfl rfl (by simp) ?_
  show W T c134 _ _
  unfold c134
  have hE : (OpD.mk 13 bits lanes dst args imm).c = [.int .i64 13, .int .i64 bits, .int .i64 lanes, .int .i64 dst, .lst .ro (args.map intC), .int .u64 imm] := rfl
  rw [hE]
  have r2 := row_run' .exact [(1, 1), (bits, lanes), (bits, lanes)] h rfl
  simp only [List.map, shapeC] at r2
  repeat' (first
    | refine W_seq ?_
    | refine W_skip ?_
    | refine W_block ?_
    | refine W_ret ?_
    | refine W_exit ?_
    | refine W_ops (s1 := ?_) (by simp only [r134_0, r134_1, r134_2, r134_3, r134_4, r134_5, r134_6, r134_7, r134_8, r134_9, r134_10, r134_11, r134_12, r134_13, r134_14, r134_15, r134_16, r134_17, r134_18, r134_19, r134_20, r134_21, r134_22, r134_23, r134_24, r134_25, r134_26, r134_27, r134_28, r134_29, r134_30, r134_31, r134_32, r134_33, r134_34, r134_35, r134_36, r134_37, r134_38, r134_39]; simp [a134, nextVer, r2]; exact rfl) ?_
    | refine W_tops (s1 := ?_) (by simp only [r134_0, r134_1, r134_2, r134_3, r134_4, r134_5, r134_6, r134_7, r134_8, r134_9, r134_10, r134_11, r134_12, r134_13, r134_14, r134_15, r134_16, r134_17, r134_18, r134_19, r134_20, r134_21, r134_22, r134_23, r134_24, r134_25, r134_26, r134_27, r134_28, r134_29, r134_30, r134_31, r134_32, r134_33, r134_34, r134_35, r134_36, r134_37, r134_38, r134_39]; simp [a134, nextVer, r2]; exact rfl) ?_
    | refine W_cond_t (by first | (simp [a134, nextVer, r2]; done) | fail) ?_
    | refine W_cond_f (by first | (simp [a134, nextVer, r2]; done) | fail) ?_
    | fail)
  exact fin _ _ _ _ (by simp; exact ⟨rfl, rfl⟩) (by simp; exact rfl) rfl (by simp [takesM, shapeC]) (by simp [takesM, OpD.no])

theorem takes_4 (bits lanes dst : Int) (args : List Int) (imm : Int) : TakesOK ⟨4, bits, lanes, dst, args, imm⟩ := by
  intro h
  have fin := takes_fin ⟨4, bits, lanes, dst, args, imm⟩ h (takesM ⟨4, bits, lanes, dst, args, imm⟩)
  refine W_call t134 rfl rfl (by simp) ?_
  show W T c134 _ _
  unfold c134
  have hE : (OpD.mk 4 bits lanes dst args imm).c = [.int .i64 4, .int .i64 bits, .int .i64 lanes, .int .i64 dst, .lst .ro (args.map intC), .int .u64 imm] := rfl
  rw [hE]
  have r2 := row_run' .exact [(bits, lanes), (bits, lanes)] h rfl
  simp only [List.map, shapeC] at r2
  by_cases i0 : imm = 0
  · skip
    repeat' (first
      | refine W_seq ?_
      | refine W_skip ?_
      | refine W_block ?_
      | refine W_ret ?_
      | refine W_exit ?_
      | refine W_ops (s1 := ?_) (by simp only [r134_0, r134_1, r134_2, r134_3, r134_4, r134_5, r134_6, r134_7, r134_8, r134_9, r134_10, r134_11, r134_12, r134_13, r134_14, r134_15, r134_16, r134_17, r134_18, r134_19, r134_20, r134_21, r134_22, r134_23, r134_24, r134_25, r134_26, r134_27, r134_28, r134_29, r134_30, r134_31, r134_32, r134_33, r134_34, r134_35, r134_36, r134_37, r134_38, r134_39]; simp [a134, nextVer, r2, i0]; exact rfl) ?_
      | refine W_tops (s1 := ?_) (by simp only [r134_0, r134_1, r134_2, r134_3, r134_4, r134_5, r134_6, r134_7, r134_8, r134_9, r134_10, r134_11, r134_12, r134_13, r134_14, r134_15, r134_16, r134_17, r134_18, r134_19, r134_20, r134_21, r134_22, r134_23, r134_24, r134_25, r134_26, r134_27, r134_28, r134_29, r134_30, r134_31, r134_32, r134_33, r134_34, r134_35, r134_36, r134_37, r134_38, r134_39]; simp [a134, nextVer, r2, i0]; exact rfl) ?_
      | refine W_cond_t (by first | (simp [a134, nextVer, r2, i0]; done) | fail) ?_
      | refine W_cond_f (by first | (simp [a134, nextVer, r2, i0]; done) | fail) ?_
      | fail)
    exact fin _ _ _ _ (by simp; exact ⟨rfl, rfl⟩) (by simp; exact rfl) rfl (by simp [takesM, shapeC]) (by simp [takesM, OpD.no, OpD.one, OpD.mem, i0])
  · skip
    repeat' (first
      | refine W_seq ?_
      | refine W_skip ?_
      | refine W_block ?_
      | refine W_ret ?_
      | refine W_exit ?_
      | refine W_ops (s1 := ?_) (by simp only [r134_0, r134_1, r134_2, r134_3, r134_4, r134_5, r134_6, r134_7, r134_8, r134_9, r134_10, r134_11, r134_12, r134_13, r134_14, r134_15, r134_16, r134_17, r134_18, r134_19, r134_20, r134_21, r134_22, r134_23, r134_24, r134_25, r134_26, r134_27, r134_28, r134_29, r134_30, r134_31, r134_32, r134_33, r134_34, r134_35, r134_36, r134_37, r134_38, r134_39]; simp [a134, nextVer, r2, i0]; exact rfl) ?_
      | refine W_tops (s1 := ?_) (by simp only [r134_0, r134_1, r134_2, r134_3, r134_4, r134_5, r134_6, r134_7, r134_8, r134_9, r134_10, r134_11, r134_12, r134_13, r134_14, r134_15, r134_16, r134_17, r134_18, r134_19, r134_20, r134_21, r134_22, r134_23, r134_24, r134_25, r134_26, r134_27, r134_28, r134_29, r134_30, r134_31, r134_32, r134_33, r134_34, r134_35, r134_36, r134_37, r134_38, r134_39]; simp [a134, nextVer, r2, i0]; exact rfl) ?_
      | refine W_cond_t (by first | (simp [a134, nextVer, r2, i0]; done) | fail) ?_
      | refine W_cond_f (by first | (simp [a134, nextVer, r2, i0]; done) | fail) ?_
      | fail)
    exact fin _ _ _ _ (by simp; exact ⟨rfl, rfl⟩) (by simp; exact rfl) rfl (by simp [takesM, shapeC]) (by simp [takesM, OpD.no, OpD.one, OpD.mem, i0])

theorem takes_10 (bits lanes dst : Int) (args : List Int) (imm : Int) : TakesOK ⟨10, bits, lanes, dst, args, imm⟩ := by
  intro h
  have fin := takes_fin ⟨10, bits, lanes, dst, args, imm⟩ h (takesM ⟨10, bits, lanes, dst, args, imm⟩)
  refine W_call t134 rfl rfl (by simp) ?_
  show W T c134 _ _
  unfold c134
  have hE : (OpD.mk 10 bits lanes dst args imm).c = [.int .i64 10, .int .i64 bits, .int .i64 lanes, .int .i64 dst, .lst .ro (args.map intC), .int .u64 imm] := rfl
  rw [hE]
  have r2 := row_run' .exact [(bits, lanes), (bits, lanes)] h rfl
  simp only [List.map, shapeC] at r2
  by_cases i0 : imm = 0
  · skip
    repeat' (first
      | refine W_seq ?_
      | refine W_skip ?_
      | refine W_block ?_
      | refine W_ret ?_
      | refine W_exit ?_
      | refine W_ops (s1 := ?_) (by simp only [r134_0, r134_1, r134_2, r134_3, r134_4, r134_5, r134_6, r134_7, r134_8, r134_9, r134_10, r134_11, r134_12, r134_13, r134_14, r134_15, r134_16, r134_17, r134_18, r134_19, r134_20, r134_21, r134_22, r134_23, r134_24, r134_25, r134_26, r134_27, r134_28, r134_29, r134_30, r134_31, r134_32, r134_33, r134_34, r134_35, r134_36, r134_37, r134_38, r134_39]; simp [a134, nextVer, r2, i0]; exact rfl) ?_
      | refine W_tops (s1 := ?_) (by simp only [r134_0, r134_1, r134_2, r134_3, r134_4, r134_5, r134_6, r134_7, r134_8, r134_9, r134_10, r134_11, r134_12, r134_13, r134_14, r134_15, r134_16, r134_17, r134_18, r134_19, r134_20, r134_21, r134_22, r134_23, r134_24, r134_25, r134_26, r134_27, r134_28, r134_29, r134_30, r134_31, r134_32, r134_33, r134_34, r134_35, r134_36, r134_37, r134_38, r134_39]; simp [a134, nextVer, r2, i0]; exact rfl) ?_
      | refine W_cond_t (by first | (simp [a134, nextVer, r2, i0]; done) | fail) ?_
      | refine W_cond_f (by first | (simp [a134, nextVer, r2, i0]; done) | fail) ?_
      | fail)
    exact fin _ _ _ _ (by simp; exact ⟨rfl, rfl⟩) (by simp; exact rfl) rfl (by simp [takesM, shapeC]) (by simp [takesM, OpD.no, OpD.one, OpD.mem, i0])
  · skip
    repeat' (first
      | refine W_seq ?_
      | refine W_skip ?_
      | refine W_block ?_
      | refine W_ret ?_
      | refine W_exit ?_
      | refine W_ops (s1 := ?_) (by simp only [r134_0, r134_1, r134_2, r134_3, r134_4, r134_5, r134_6, r134_7, r134_8, r134_9, r134_10, r134_11, r134_12, r134_13, r134_14, r134_15, r134_16, r134_17, r134_18, r134_19, r134_20, r134_21, r134_22, r134_23, r134_24, r134_25, r134_26, r134_27, r134_28, r134_29, r134_30, r134_31, r134_32, r134_33, r134_34, r134_35, r134_36, r134_37, r134_38, r134_39]; simp [a134, nextVer, r2, i0]; exact rfl) ?_
      | refine W_tops (s1 := ?_) (by simp only [r134_0, r134_1, r134_2, r134_3, r134_4, r134_5, r134_6, r134_7, r134_8, r134_9, r134_10, r134_11, r134_12, r134_13, r134_14, r134_15, r134_16, r134_17, r134_18, r134_19, r134_20, r134_21, r134_22, r134_23, r134_24, r134_25, r134_26, r134_27, r134_28, r134_29, r134_30, r134_31, r134_32, r134_33, r134_34, r134_35, r134_36, r134_37, r134_38, r134_39]; simp [a134, nextVer, r2, i0]; exact rfl) ?_
      | refine W_cond_t (by first | (simp [a134, nextVer, r2, i0]; done) | fail) ?_
      | refine W_cond_f (by first | (simp [a134, nextVer, r2, i0]; done) | fail) ?_
      | fail)
    exact fin _ _ _ _ (by simp; exact ⟨rfl, rfl⟩) (by simp; exact rfl) rfl (by simp [takesM, shapeC]) (by simp [takesM, OpD.no, OpD.one, OpD.mem, i0])

theorem takes_11 (bits lanes dst : Int) (args : List Int) (imm : Int) : TakesOK ⟨11, bits, lanes, dst, args, imm⟩ := by
  intro h
  have fin := takes_fin ⟨11, bits, lanes, dst, args, imm⟩ h (takesM ⟨11, bits, lanes, dst, args, imm⟩)
  refine W_call t134 rfl rfl (by simp) ?_
  show W T c134 _ _
  unfold c134
  have hE : (OpD.mk 11 bits lanes dst args imm).c = [.int .i64 11, .int .i64 bits, .int .i64 lanes, .int .i64 dst, .lst .ro (args.map intC), .int .u64 imm] := rfl
  rw [hE]
  have r2 := row_run' .exact [(bits, lanes), (bits, lanes)] h rfl
  simp only [List.map, shapeC] at r2
  by_cases i0 : imm = 0
  · skip
    repeat' (first
      | refine W_seq ?_
      | refine W_skip ?_
      | refine W_block ?_
      | refine W_ret ?_
      | refine W_exit ?_
      | refine W_ops (s1 := ?_) (by simp only [r134_0, r134_1, r134_2, r134_3, r134_4, r134_5, r134_6, r134_7, r134_8, r134_9, r134_10, r134_11, r134_12, r134_13, r134_14, r134_15, r134_16, r134_17, r134_18, r134_19, r134_20, r134_21, r134_22, r134_23, r134_24, r134_25, r134_26, r134_27, r134_28, r134_29, r134_30, r134_31, r134_32, r134_33, r134_34, r134_35, r134_36, r134_37, r134_38, r134_39]; simp [a134, nextVer, r2, i0]; exact rfl) ?_
      | refine W_tops (s1 := ?_) (by simp only [r134_0, r134_1, r134_2, r134_3, r134_4, r134_5, r134_6, r134_7, r134_8, r134_9, r134_10, r134_11, r134_12, r134_13, r134_14, r134_15, r134_16, r134_17, r134_18, r134_19, r134_20, r134_21, r134_22, r134_23, r134_24, r134_25, r134_26, r134_27, r134_28, r134_29, r134_30, r134_31, r134_32, r134_33, r134_34, r134_35, r134_36, r134_37, r134_38, r134_39]; simp [a134, nextVer, r2, i0]; exact rfl) ?_
      | refine W_cond_t (by first | (simp [a134, nextVer, r2, i0]; done) | fail) ?_
      | refine W_cond_f (by first | (simp [a134, nextVer, r2, i0]; done) | fail) ?_
      | fail)
    exact fin _ _ _ _ (by simp; exact ⟨rfl, rfl⟩) (by simp; exact rfl) rfl (by simp [takesM, shapeC]) (by simp [takesM, OpD.no, OpD.one, OpD.mem, i0])
  · skip
    repeat' (first
      | refine W_seq ?_
      | refine W_skip ?_
      | refine W_block ?_
      | refine W_ret ?_
      | refine W_exit ?_
      | refine W_ops (s1 := ?_) (by simp only [r134_0, r134_1, r134_2, r134_3, r134_4, r134_5, r134_6, r134_7, r134_8, r134_9, r134_10, r134_11, r134_12, r134_13, r134_14, r134_15, r134_16, r134_17, r134_18, r134_19, r134_20, r134_21, r134_22, r134_23, r134_24, r134_25, r134_26, r134_27, r134_28, r134_29, r134_30, r134_31, r134_32, r134_33, r134_34, r134_35, r134_36, r134_37, r134_38, r134_39]; simp [a134, nextVer, r2, i0]; exact rfl) ?_
      | refine W_tops (s1 := ?_) (by simp only [r134_0, r134_1, r134_2, r134_3, r134_4, r134_5, r134_6, r134_7, r134_8, r134_9, r134_10, r134_11, r134_12, r134_13, r134_14, r134_15, r134_16, r134_17, r134_18, r134_19, r134_20, r134_21, r134_22, r134_23, r134_24, r134_25, r134_26, r134_27, r134_28, r134_29, r134_30, r134_31, r134_32, r134_33, r134_34, r134_35, r134_36, r134_37, r134_38, r134_39]; simp [a134, nextVer, r2, i0]; exact rfl) ?_
      | refine W_cond_t (by first | (simp [a134, nextVer, r2, i0]; done) | fail) ?_
      | refine W_cond_f (by first | (simp [a134, nextVer, r2, i0]; done) | fail) ?_
      | fail)
    exact fin _ _ _ _ (by simp; exact ⟨rfl, rfl⟩) (by simp; exact rfl) rfl (by simp [takesM, shapeC]) (by simp [takesM, OpD.no, OpD.one, OpD.mem, i0])

theorem takes_12 (bits lanes dst : Int) (args : List Int) (imm : Int) : TakesOK ⟨12, bits, lanes, dst, args, imm⟩ := by
  intro h
  have fin := takes_fin ⟨12, bits, lanes, dst, args, imm⟩ h (takesM ⟨12, bits, lanes, dst, args, imm⟩)
  refine W_call t134 rfl rfl (by simp) ?_
  show W T c134 _ _
  unfold c134
  have hE : (OpD.mk 12 bits lanes dst args imm).c = [.int .i64 12, .int .i64 bits, .int .i64 lanes, .int .i64 dst, .lst .ro (args.map intC), .int .u64 imm] := rfl
  rw [hE]
  have r2 := row_run' .exact [(bits, lanes), (bits, lanes)] h rfl
  simp only [List.map, shapeC] at r2
  by_cases i0 : imm = 0
  · skip
    repeat' (first
      | refine W_seq ?_
      | refine W_skip ?_
      | refine W_block ?_
      | refine W_ret ?_
      | refine W_exit ?_
      | refine W_ops (s1 := ?_) (by simp only [r134_0, r134_1, r134_2, r134_3, r134_4, r134_5, r134_6, r134_7, r134_8, r134_9, r134_10, r134_11, r134_12, r134_13, r134_14, r134_15, r134_16, r134_17, r134_18, r134_19, r134_20, r134_21, r134_22, r134_23, r134_24, r134_25, r134_26, r134_27, r134_28, r134_29, r134_30, r134_31, r134_32, r134_33, r134_34, r134_35, r134_36, r134_37, r134_38, r134_39]; simp [a134, nextVer, r2, i0]; exact rfl) ?_
      | refine W_tops (s1 := ?_) (by simp only [r134_0, r134_1, r134_2, r134_3, r134_4, r134_5, r134_6, r134_7, r134_8, r134_9, r134_10, r134_11, r134_12, r134_13, r134_14, r134_15, r134_16, r134_17, r134_18, r134_19, r134_20, r134_21, r134_22, r134_23, r134_24, r134_25, r134_26, r134_27, r134_28, r134_29, r134_30, r134_31, r134_32, r134_33, r134_34, r134_35, r134_36, r134_37, r134_38, r134_39]; simp [a134, nextVer, r2, i0]; exact rfl) ?_
      | refine W_cond_t (by first | (simp [a134, nextVer, r2, i0]; done) | fail) ?_
      | refine W_cond_f (by first | (simp [a134, nextVer, r2, i0]; done) | fail) ?_
      | fail)
    exact fin _ _ _ _ (by simp; exact ⟨rfl, rfl⟩) (by simp; exact rfl) rfl (by simp [takesM, shapeC]) (by simp [takesM, OpD.no, OpD.one, OpD.mem, i0])
  · skip
    repeat' (first
      | refine W_seq ?_
      | refine W_skip ?_
      | refine W_block ?_
      | refine W_ret ?_
      | refine W_exit ?_
      | refine W_ops (s1 := ?_) (by simp only [r134_0, r134_1, r134_2, r134_3, r134_4, r134_5, r134_6, r134_7, r134_8, r134_9, r134_10, r134_11, r134_12, r134_13, r134_14, r134_15, r134_16, r134_17, r134_18, r134_19, r134_20, r134_21, r134_22, r134_23, r134_24, r134_25, r134_26, r134_27, r134_28, r134_29, r134_30, r134_31, r134_32, r134_33, r134_34, r134_35, r134_36, r134_37, r134_38, r134_39]; simp [a134, nextVer, r2, i0]; exact rfl) ?_
      | refine W_tops (s1 := ?_) (by simp only [r134_0, r134_1, r134_2, r134_3, r134_4, r134_5, r134_6, r134_7, r134_8, r134_9, r134_10, r134_11, r134_12, r134_13, r134_14, r134_15, r134_16, r134_17, r134_18, r134_19, r134_20, r134_21, r134_22, r134_23, r134_24, r134_25, r134_26, r134_27, r134_28, r134_29, r134_30, r134_31, r134_32, r134_33, r134_34, r134_35, r134_36, r134_37, r134_38, r134_39]; simp [a134, nextVer, r2, i0]; exact rfl) ?_
      | refine W_cond_t (by first | (simp [a134, nextVer, r2, i0]; done) | fail) ?_
      | refine W_cond_f (by first | (simp [a134, nextVer, r2, i0]; done) | fail) ?_
      | fail)
    exact fin _ _ _ _ (by simp; exact ⟨rfl, rfl⟩) (by simp; exact rfl) rfl (by simp [takesM, shapeC]) (by simp [takesM, OpD.no, OpD.one, OpD.mem, i0])

theorem takes_20 (bits lanes dst : Int) (args : List Int) (imm : Int) : TakesOK ⟨20, bits, lanes, dst, args, imm⟩ := by
  intro h
  have fin := takes_fin ⟨20, bits, lanes, dst, args, imm⟩ h (takesM ⟨20, bits, lanes, dst, args, imm⟩)
  refine W_call t134 rfl rfl (by simp) ?_
  show W T c134 _ _
  unfold c134
  have hE : (OpD.mk 20 bits lanes dst args imm).c = [.int .i64 20, .int .i64 bits, .int .i64 lanes, .int .i64 dst, .lst .ro (args.map intC), .int .u64 imm] := rfl
  rw [hE]
  have r2 := row_run' .exact [(1, 1), (bits, lanes), (bits, lanes), (bits, lanes)] h rfl
  simp only [List.map, shapeC] at r2
  by_cases i0 : imm = 0
  · skip
    repeat' (first
      | refine W_seq ?_
      | refine W_skip ?_
      | refine W_block ?_
      | refine W_ret ?_
      | refine W_exit ?_
      | refine W_ops (s1 := ?_) (by simp only [r134_0, r134_1, r134_2, r134_3, r134_4, r134_5, r134_6, r134_7, r134_8, r134_9, r134_10, r134_11, r134_12, r134_13, r134_14, r134_15, r134_16, r134_17, r134_18, r134_19, r134_20, r134_21, r134_22, r134_23, r134_24, r134_25, r134_26, r134_27, r134_28, r134_29, r134_30, r134_31, r134_32, r134_33, r134_34, r134_35, r134_36, r134_37, r134_38, r134_39]; simp [a134, nextVer, r2, i0]; exact rfl) ?_
      | refine W_tops (s1 := ?_) (by simp only [r134_0, r134_1, r134_2, r134_3, r134_4, r134_5, r134_6, r134_7, r134_8, r134_9, r134_10, r134_11, r134_12, r134_13, r134_14, r134_15, r134_16, r134_17, r134_18, r134_19, r134_20, r134_21, r134_22, r134_23, r134_24, r134_25, r134_26, r134_27, r134_28, r134_29, r134_30, r134_31, r134_32, r134_33, r134_34, r134_35, r134_36, r134_37, r134_38, r134_39]; simp [a134, nextVer, r2, i0]; exact rfl) ?_
      | refine W_cond_t (by first | (simp [a134, nextVer, r2, i0]; done) | fail) ?_
      | refine W_cond_f (by first | (simp [a134, nextVer, r2, i0]; done) | fail) ?_
      | fail)
    exact fin _ _ _ _ (by simp; exact ⟨rfl, rfl⟩) (by simp; exact rfl) rfl (by simp [takesM, shapeC]) (by simp [takesM, OpD.no, OpD.one, OpD.mem, i0])
  · skip
    repeat' (first
      | refine W_seq ?_
      | refine W_skip ?_
      | refine W_block ?_
      | refine W_ret ?_
      | refine W_exit ?_
      | refine W_ops (s1 := ?_) (by simp only [r134_0, r134_1, r134_2, r134_3, r134_4, r134_5, r134_6, r134_7, r134_8, r134_9, r134_10, r134_11, r134_12, r134_13, r134_14, r134_15, r134_16, r134_17, r134_18, r134_19, r134_20, r134_21, r134_22, r134_23, r134_24, r134_25, r134_26, r134_27, r134_28, r134_29, r134_30, r134_31, r134_32, r134_33, r134_34, r134_35, r134_36, r134_37, r134_38, r134_39]; simp [a134, nextVer, r2, i0]; exact rfl) ?_
      | refine W_tops (s1 := ?_) (by simp only [r134_0, r134_1, r134_2, r134_3, r134_4, r134_5, r134_6, r134_7, r134_8, r134_9, r134_10, r134_11, r134_12, r134_13, r134_14, r134_15, r134_16, r134_17, r134_18, r134_19, r134_20, r134_21, r134_22, r134_23, r134_24, r134_25, r134_26, r134_27, r134_28, r134_29, r134_30, r134_31, r134_32, r134_33, r134_34, r134_35, r134_36, r134_37, r134_38, r134_39]; simp [a134, nextVer, r2, i0]; exact rfl) ?_
      | refine W_cond_t (by first | (simp [a134, nextVer, r2, i0]; done) | fail) ?_
      | refine W_cond_f (by first | (simp [a134, nextVer, r2, i0]; done) | fail) ?_
      | fail)
    exact fin _ _ _ _ (by simp; exact ⟨rfl, rfl⟩) (by simp; exact rfl) rfl (by simp [takesM, shapeC]) (by simp [takesM, OpD.no, OpD.one, OpD.mem, i0])

theorem takes_16 (bits lanes dst : Int) (args : List Int) (imm : Int) : TakesOK ⟨16, bits, lanes, dst, args, imm⟩ := by
  intro h
  have fin := takes_fin ⟨16, bits, lanes, dst, args, imm⟩ h (takesM ⟨16, bits, lanes, dst, args, imm⟩)
  refine W_call t134 rfl rfl (by simp) ?_
  show W T c134 _ _
  unfold c134
  have hE : (OpD.mk 16 bits lanes dst args imm).c = [.int .i64 16, .int .i64 bits, .int .i64 lanes, .int .i64 dst, .lst .ro (args.map intC), .int .u64 imm] := rfl
  rw [hE]
  have r2 := row_run' .exact [(64, 1)] h rfl
  simp only [List.map, shapeC] at r2
  by_cases i0 : imm = 0
  · skip
    repeat' (first
      | refine W_seq ?_
      | refine W_skip ?_
      | refine W_block ?_
      | refine W_ret ?_
      | refine W_exit ?_
      | refine W_ops (s1 := ?_) (by simp only [r134_0, r134_1, r134_2, r134_3, r134_4, r134_5, r134_6, r134_7, r134_8, r134_9, r134_10, r134_11, r134_12, r134_13, r134_14, r134_15, r134_16, r134_17, r134_18, r134_19, r134_20, r134_21, r134_22, r134_23, r134_24, r134_25, r134_26, r134_27, r134_28, r134_29, r134_30, r134_31, r134_32, r134_33, r134_34, r134_35, r134_36, r134_37, r134_38, r134_39]; simp [a134, nextVer, r2, i0]; exact rfl) ?_
      | refine W_tops (s1 := ?_) (by simp only [r134_0, r134_1, r134_2, r134_3, r134_4, r134_5, r134_6, r134_7, r134_8, r134_9, r134_10, r134_11, r134_12, r134_13, r134_14, r134_15, r134_16, r134_17, r134_18, r134_19, r134_20, r134_21, r134_22, r134_23, r134_24, r134_25, r134_26, r134_27, r134_28, r134_29, r134_30, r134_31, r134_32, r134_33, r134_34, r134_35, r134_36, r134_37, r134_38, r134_39]; simp [a134, nextVer, r2, i0]; exact rfl) ?_
      | refine W_cond_t (by first | (simp [a134, nextVer, r2, i0]; done) | fail) ?_
      | refine W_cond_f (by first | (simp [a134, nextVer, r2, i0]; done) | fail) ?_
      | fail)
    exact fin _ _ _ _ (by simp; exact ⟨rfl, rfl⟩) (by simp; exact rfl) rfl (by simp [takesM, shapeC]) (by simp [takesM, OpD.no, OpD.one, OpD.mem, i0])
  · skip
    repeat' (first
      | refine W_seq ?_
      | refine W_skip ?_
      | refine W_block ?_
      | refine W_ret ?_
      | refine W_exit ?_
      | refine W_ops (s1 := ?_) (by simp only [r134_0, r134_1, r134_2, r134_3, r134_4, r134_5, r134_6, r134_7, r134_8, r134_9, r134_10, r134_11, r134_12, r134_13, r134_14, r134_15, r134_16, r134_17, r134_18, r134_19, r134_20, r134_21, r134_22, r134_23, r134_24, r134_25, r134_26, r134_27, r134_28, r134_29, r134_30, r134_31, r134_32, r134_33, r134_34, r134_35, r134_36, r134_37, r134_38, r134_39]; simp [a134, nextVer, r2, i0]; exact rfl) ?_
      | refine W_tops (s1 := ?_) (by simp only [r134_0, r134_1, r134_2, r134_3, r134_4, r134_5, r134_6, r134_7, r134_8, r134_9, r134_10, r134_11, r134_12, r134_13, r134_14, r134_15, r134_16, r134_17, r134_18, r134_19, r134_20, r134_21, r134_22, r134_23, r134_24, r134_25, r134_26, r134_27, r134_28, r134_29, r134_30, r134_31, r134_32, r134_33, r134_34, r134_35, r134_36, r134_37, r134_38, r134_39]; simp [a134, nextVer, r2, i0]; exact rfl) ?_
      | refine W_cond_t (by first | (simp [a134, nextVer, r2, i0]; done) | fail) ?_
      | refine W_cond_f (by first | (simp [a134, nextVer, r2, i0]; done) | fail) ?_
      | fail)
    exact fin _ _ _ _ (by simp; exact ⟨rfl, rfl⟩) (by simp; exact rfl) rfl (by simp [takesM, shapeC]) (by simp [takesM, OpD.no, OpD.one, OpD.mem, i0])

theorem takes_17 (bits lanes dst : Int) (args : List Int) (imm : Int) : TakesOK ⟨17, bits, lanes, dst, args, imm⟩ := by
  intro h
  have fin := takes_fin ⟨17, bits, lanes, dst, args, imm⟩ h (takesM ⟨17, bits, lanes, dst, args, imm⟩)
  refine W_call t134 rfl rfl (by simp) ?_
  show W T c134 _ _
  unfold c134
  have hE : (OpD.mk 17 bits lanes dst args imm).c = [.int .i64 17, .int .i64 bits, .int .i64 lanes, .int .i64 dst, .lst .ro (args.map intC), .int .u64 imm] := rfl
  rw [hE]
  have r2 := row_run' .exact [(64, 1), (bits, lanes)] h rfl
  simp only [List.map, shapeC] at r2
  by_cases i0 : imm = 0
  · skip
    repeat' (first
      | refine W_seq ?_
      | refine W_skip ?_
      | refine W_block ?_
      | refine W_ret ?_
      | refine W_exit ?_
      | refine W_ops (s1 := ?_) (by simp only [r134_0, r134_1, r134_2, r134_3, r134_4, r134_5, r134_6, r134_7, r134_8, r134_9, r134_10, r134_11, r134_12, r134_13, r134_14, r134_15, r134_16, r134_17, r134_18, r134_19, r134_20, r134_21, r134_22, r134_23, r134_24, r134_25, r134_26, r134_27, r134_28, r134_29, r134_30, r134_31, r134_32, r134_33, r134_34, r134_35, r134_36, r134_37, r134_38, r134_39]; simp [a134, nextVer, r2, i0]; exact rfl) ?_
      | refine W_tops (s1 := ?_) (by simp only [r134_0, r134_1, r134_2, r134_3, r134_4, r134_5, r134_6, r134_7, r134_8, r134_9, r134_10, r134_11, r134_12, r134_13, r134_14, r134_15, r134_16, r134_17, r134_18, r134_19, r134_20, r134_21, r134_22, r134_23, r134_24, r134_25, r134_26, r134_27, r134_28, r134_29, r134_30, r134_31, r134_32, r134_33, r134_34, r134_35, r134_36, r134_37, r134_38, r134_39]; simp [a134, nextVer, r2, i0]; exact rfl) ?_
      | refine W_cond_t (by first | (simp [a134, nextVer, r2, i0]; done) | fail) ?_
      | refine W_cond_f (by first | (simp [a134, nextVer, r2, i0]; done) | fail) ?_
      | fail)
    exact fin _ _ _ _ (by simp; exact ⟨rfl, rfl⟩) (by simp; exact rfl) rfl (by simp [takesM, shapeC]) (by simp [takesM, OpD.no, OpD.one, OpD.mem, i0])
  · skip
    repeat' (first
      | refine W_seq ?_
      | refine W_skip ?_
      | refine W_block ?_
      | refine W_ret ?_
      | refine W_exit ?_
      | refine W_ops (s1 := ?_) (by simp only [r134_0, r134_1, r134_2, r134_3, r134_4, r134_5, r134_6, r134_7, r134_8, r134_9, r134_10, r134_11, r134_12, r134_13, r134_14, r134_15, r134_16, r134_17, r134_18, r134_19, r134_20, r134_21, r134_22, r134_23, r134_24, r134_25, r134_26, r134_27, r134_28, r134_29, r134_30, r134_31, r134_32, r134_33, r134_34, r134_35, r134_36, r134_37, r134_38, r134_39]; simp [a134, nextVer, r2, i0]; exact rfl) ?_
      | refine W_tops (s1 := ?_) (by simp only [r134_0, r134_1, r134_2, r134_3, r134_4, r134_5, r134_6, r134_7, r134_8, r134_9, r134_10, r134_11, r134_12, r134_13, r134_14, r134_15, r134_16, r134_17, r134_18, r134_19, r134_20, r134_21, r134_22, r134_23, r134_24, r134_25, r134_26, r134_27, r134_28, r134_29, r134_30, r134_31, r134_32, r134_33, r134_34, r134_35, r134_36, r134_37, r134_38, r134_39]; simp [a134, nextVer, r2, i0]; exact rfl) ?_
      | refine W_cond_t (by first | (simp [a134, nextVer, r2, i0]; done) | fail) ?_
      | refine W_cond_f (by first | (simp [a134, nextVer, r2, i0]; done) | fail) ?_
      | fail)
    exact fin _ _ _ _ (by simp; exact ⟨rfl, rfl⟩) (by simp; exact rfl) rfl (by simp [takesM, shapeC]) (by simp [takesM, OpD.no, OpD.one, OpD.mem, i0])

end Go.Proofs.YtcngflmnbdcppaaGreat

/- Which operations look right; what they take, and give. -/
namespace Go.Proofs.YtcngflmnbdcppaaGreat
open Go.LS Go.IntWalk

def dstB (o : OpD) : Bool := if storesB o.kind = true then decide (o.dst = 0) else valueB o.dst
/-- Does it look right? -/
def mayOp (o : OpD) : Bool := shapeB o.bits o.lanes && ((takesM o).2 && (dstB o && (decide ((takesM o).1.length = o.args.length) && !o.args.any (fun v => !valueB v))))

theorem opc_eq (o : OpD) : o.c = [.int .i64 o.kind, .int .i64 o.bits, .int .i64 o.lanes, .int .i64 o.dst, .lst .ro (o.args.map intC), .int .u64 o.imm] := rfl

theorem kindMay_run (o : OpD) (ht : TakesOK o) (hl : o.args.length < 2 ^ 40) (h : LS.Heap) : callD T 115 [.agg o.c] h = some (.bool (mayOp o), h) := by
  have fin : ∀ (v : Bool) (s : St), s.t 2 = .bool v → s.h = h → mayOp o = v → (AExit.ret = AExit.normal ∨ AExit.ret = AExit.ret) ∧ ∃ vs, resV s a115.res = some vs ∧ (if a115.keepR = true then packV vs else (packV vs).retag) = .bool (mayOp o) ∧ V.under h.next (.bool (mayOp o)) = true ∧ HExt h s.h := fun v s h2 hh hb =>
    ⟨.inr rfl, [.bool v], by simp [a115, resV, resV1, h2], by simp [a115, packV, hb], rfl, by rw [hh]; exact .refl _⟩
  have e1 := Shape_run o.bits o.lanes h
  have e2 := ht h
  have e3 := value_run o.dst h
  have e4 := stores_run o.kind h
  have e5 := Contains_int intC o.args 136 [] (fun v => !valueB v) h .ro (by omega) (fun _ => rfl) (by simp) rfl (fun x _ => valueP_run x h)
  refine W_call t115 rfl rfl (by simp) ?_
  show W T c115 _ _
  unfold c115
  rw [opc_eq] at e2 ⊢
  cases c1 : shapeB o.bits o.lanes with
  | false =>
    rw [c1] at e1
    repeat' (first
      | refine W_seq ?_
      | refine W_skip ?_
      | refine W_block ?_
      | refine W_ret ?_
      | refine W_exit ?_
      | refine W_ops (s1 := ?_) (by simp only [r115_0, r115_1, r115_2, r115_3, r115_4, r115_5, r115_6, r115_7]; simp [a115, nextVer, e1]; exact rfl) ?_
      | refine W_tops (s1 := ?_) (by simp only [r115_0, r115_1, r115_2, r115_3, r115_4, r115_5, r115_6, r115_7]; simp [a115, nextVer, e1]; exact rfl) ?_
      | refine W_cond_t (by first | (simp [a115, nextVer, e1]; done) | fail) ?_
      | refine W_cond_f (by first | (simp [a115, nextVer, e1]; done) | fail) ?_
      | fail)
    exact fin false _ (by simp) rfl (by simp [mayOp, c1])
  | true =>
    rw [c1] at e1
    have hdst : ∀ d, dstB o = d → callD T 116 [.int .i64 o.kind] h = some (.bool (storesB o.kind), h) := fun _ _ => e4
    cases c2 : (takesM o).2 with
    | false =>
      rw [c2] at e2
      cases c3 : storesB o.kind with
      | false =>
        rw [c3] at e4
        repeat' (first
          | refine W_seq ?_
          | refine W_skip ?_
          | refine W_block ?_
          | refine W_ret ?_
          | refine W_exit ?_
          | refine W_ops (s1 := ?_) (by simp only [r115_0, r115_1, r115_2, r115_3, r115_4, r115_5, r115_6, r115_7]; simp [a115, nextVer, e1, e2, e3, e4]; exact rfl) ?_
          | refine W_tops (s1 := ?_) (by simp only [r115_0, r115_1, r115_2, r115_3, r115_4, r115_5, r115_6, r115_7]; simp [a115, nextVer, e1, e2, e3, e4]; exact rfl) ?_
          | refine W_cond_t (by first | (simp [a115, nextVer, e1, e2, e3, e4]; done) | fail) ?_
          | refine W_cond_f (by first | (simp [a115, nextVer, e1, e2, e3, e4]; done) | fail) ?_
          | fail)
        exact fin false _ (by simp) rfl (by simp [mayOp, c1, c2])
      | true =>
        rw [c3] at e4
        repeat' (first
          | refine W_seq ?_
          | refine W_skip ?_
          | refine W_block ?_
          | refine W_ret ?_
          | refine W_exit ?_
          | refine W_ops (s1 := ?_) (by simp only [r115_0, r115_1, r115_2, r115_3, r115_4, r115_5, r115_6, r115_7]; simp [a115, nextVer, e1, e2, e3, e4]; exact rfl) ?_
          | refine W_tops (s1 := ?_) (by simp only [r115_0, r115_1, r115_2, r115_3, r115_4, r115_5, r115_6, r115_7]; simp [a115, nextVer, e1, e2, e3, e4]; exact rfl) ?_
          | refine W_cond_t (by first | (simp [a115, nextVer, e1, e2, e3, e4]; done) | fail) ?_
          | refine W_cond_f (by first | (simp [a115, nextVer, e1, e2, e3, e4]; done) | fail) ?_
          | fail)
        exact fin false _ (by simp) rfl (by simp [mayOp, c1, c2])
    | true =>
      rw [c2] at e2
      cases c3 : storesB o.kind with
      | false =>
        rw [c3] at e4
        cases c4 : valueB o.dst with
        | false =>
          rw [c4] at e3
          repeat' (first
            | refine W_seq ?_
            | refine W_skip ?_
            | refine W_block ?_
            | refine W_ret ?_
            | refine W_exit ?_
            | refine W_ops (s1 := ?_) (by simp only [r115_0, r115_1, r115_2, r115_3, r115_4, r115_5, r115_6, r115_7]; simp [a115, nextVer, e1, e2, e3, e4]; exact rfl) ?_
            | refine W_tops (s1 := ?_) (by simp only [r115_0, r115_1, r115_2, r115_3, r115_4, r115_5, r115_6, r115_7]; simp [a115, nextVer, e1, e2, e3, e4]; exact rfl) ?_
            | refine W_cond_t (by first | (simp [a115, nextVer, e1, e2, e3, e4]; done) | fail) ?_
            | refine W_cond_f (by first | (simp [a115, nextVer, e1, e2, e3, e4]; done) | fail) ?_
            | fail)
          exact fin false _ (by simp) rfl (by simp [mayOp, c1, c2, dstB, c3, c4])
        | true =>
          rw [c4] at e3
          by_cases c5 : (takesM o).1.length = o.args.length
          · have c5' : ((takesM o).1.length : Int) = o.args.length := by omega
            repeat' (first
              | refine W_seq ?_
              | refine W_skip ?_
              | refine W_block ?_
              | refine W_ret ?_
              | refine W_exit ?_
              | refine W_ops (s1 := ?_) (by simp only [r115_0, r115_1, r115_2, r115_3, r115_4, r115_5, r115_6, r115_7]; simp [a115, nextVer, e1, e2, e3, e4, c5, c5', e5]; exact rfl) ?_
              | refine W_tops (s1 := ?_) (by simp only [r115_0, r115_1, r115_2, r115_3, r115_4, r115_5, r115_6, r115_7]; simp [a115, nextVer, e1, e2, e3, e4, c5, c5', e5]; exact rfl) ?_
              | refine W_cond_t (by first | (simp [a115, nextVer, e1, e2, e3, e4, c5, c5', e5]; done) | fail) ?_
              | refine W_cond_f (by first | (simp [a115, nextVer, e1, e2, e3, e4, c5, c5', e5]; done) | fail) ?_
              | fail)
            exact fin (!o.args.any (fun v => !valueB v)) _ (by simp) rfl (by simp only [mayOp, c1, c2, dstB, c3, c4, c5]; simp)
          · have c5' : ¬ ((takesM o).1.length : Int) = o.args.length := by omega
            repeat' (first
              | refine W_seq ?_
              | refine W_skip ?_
              | refine W_block ?_
              | refine W_ret ?_
              | refine W_exit ?_
              | refine W_ops (s1 := ?_) (by simp only [r115_0, r115_1, r115_2, r115_3, r115_4, r115_5, r115_6, r115_7]; simp [a115, nextVer, e1, e2, e3, e4, c5, c5']; exact rfl) ?_
              | refine W_tops (s1 := ?_) (by simp only [r115_0, r115_1, r115_2, r115_3, r115_4, r115_5, r115_6, r115_7]; simp [a115, nextVer, e1, e2, e3, e4, c5, c5']; exact rfl) ?_
              | refine W_cond_t (by first | (simp [a115, nextVer, e1, e2, e3, e4, c5, c5']; done) | fail) ?_
              | refine W_cond_f (by first | (simp [a115, nextVer, e1, e2, e3, e4, c5, c5']; done) | fail) ?_
              | fail)
            exact fin false _ (by simp) rfl (by simp [mayOp, c1, c2, dstB, c3, c4, c5])
      | true =>
        rw [c3] at e4
        by_cases c4 : o.dst = 0
        · by_cases c5 : (takesM o).1.length = o.args.length
          · have c5' : ((takesM o).1.length : Int) = o.args.length := by omega
            rw [c4] at e2 e3
            repeat' (first
              | refine W_seq ?_
              | refine W_skip ?_
              | refine W_block ?_
              | refine W_ret ?_
              | refine W_exit ?_
              | refine W_ops (s1 := ?_) (by simp only [r115_0, r115_1, r115_2, r115_3, r115_4, r115_5, r115_6, r115_7]; simp [a115, nextVer, e1, e2, e3, e4, c4, c5, c5', e5]; exact rfl) ?_
              | refine W_tops (s1 := ?_) (by simp only [r115_0, r115_1, r115_2, r115_3, r115_4, r115_5, r115_6, r115_7]; simp [a115, nextVer, e1, e2, e3, e4, c4, c5, c5', e5]; exact rfl) ?_
              | refine W_cond_t (by first | (simp [a115, nextVer, e1, e2, e3, e4, c4, c5, c5', e5]; done) | fail) ?_
              | refine W_cond_f (by first | (simp [a115, nextVer, e1, e2, e3, e4, c4, c5, c5', e5]; done) | fail) ?_
              | fail)
            exact fin (!o.args.any (fun v => !valueB v)) _ (by simp) rfl (by simp only [mayOp, c1, c2, dstB, c3, c4, c5]; simp)
          · have c5' : ¬ ((takesM o).1.length : Int) = o.args.length := by omega
            rw [c4] at e2 e3
            repeat' (first
              | refine W_seq ?_
              | refine W_skip ?_
              | refine W_block ?_
              | refine W_ret ?_
              | refine W_exit ?_
              | refine W_ops (s1 := ?_) (by simp only [r115_0, r115_1, r115_2, r115_3, r115_4, r115_5, r115_6, r115_7]; simp [a115, nextVer, e1, e2, e3, e4, c4, c5, c5']; exact rfl) ?_
              | refine W_tops (s1 := ?_) (by simp only [r115_0, r115_1, r115_2, r115_3, r115_4, r115_5, r115_6, r115_7]; simp [a115, nextVer, e1, e2, e3, e4, c4, c5, c5']; exact rfl) ?_
              | refine W_cond_t (by first | (simp [a115, nextVer, e1, e2, e3, e4, c4, c5, c5']; done) | fail) ?_
              | refine W_cond_f (by first | (simp [a115, nextVer, e1, e2, e3, e4, c4, c5, c5']; done) | fail) ?_
              | fail)
            exact fin false _ (by simp) rfl (by simp [mayOp, c1, c2, dstB, c3, c4, c5])
        · skip
          repeat' (first
            | refine W_seq ?_
            | refine W_skip ?_
            | refine W_block ?_
            | refine W_ret ?_
            | refine W_exit ?_
            | refine W_ops (s1 := ?_) (by simp only [r115_0, r115_1, r115_2, r115_3, r115_4, r115_5, r115_6, r115_7]; simp [a115, nextVer, e1, e2, e3, e4, c4]; exact rfl) ?_
            | refine W_tops (s1 := ?_) (by simp only [r115_0, r115_1, r115_2, r115_3, r115_4, r115_5, r115_6, r115_7]; simp [a115, nextVer, e1, e2, e3, e4, c4]; exact rfl) ?_
            | refine W_cond_t (by first | (simp [a115, nextVer, e1, e2, e3, e4, c4]; done) | fail) ?_
            | refine W_cond_f (by first | (simp [a115, nextVer, e1, e2, e3, e4, c4]; done) | fail) ?_
            | fail)
          exact fin false _ (by simp) rfl (by simp [mayOp, c1, c2, dstB, c3, c4])

/-- What it takes. -/
def takeL (o : OpD) : List (Int × Int) := if mayOp o = true then (takesM o).1 else []

theorem Takes_run (o : OpD) (ht : TakesOK o) (hl : o.args.length < 2 ^ 40) (h : LS.Heap) : callD T 117 [.agg o.c] h = some (.lst .ro ((takeL o).map shapeC), h) := by
  have e1 := kindMay_run o ht hl h
  have e2 := ht h
  refine W_call t117 rfl rfl (by simp) ?_
  show W T c117 _ _
  unfold c117
  rw [opc_eq] at e1 e2 ⊢
  cases c : mayOp o with
  | false =>
    rw [c] at e1
    repeat' (first
      | refine W_seq ?_
      | refine W_skip ?_
      | refine W_block ?_
      | refine W_ret ?_
      | refine W_exit ?_
      | refine W_ops (s1 := ?_) (by simp only [r117_0, r117_1, r117_2, r117_3, r117_4]; simp [a117, nextVer, e1]; exact rfl) ?_
      | refine W_tops (s1 := ?_) (by simp only [r117_0, r117_1, r117_2, r117_3, r117_4]; simp [a117, nextVer, e1]; exact rfl) ?_
      | refine W_cond_t (by first | (simp [a117, nextVer, e1]; done) | fail) ?_
      | refine W_cond_f (by first | (simp [a117, nextVer, e1]; done) | fail) ?_
      | fail)
    exact ⟨.inr rfl, [.lst .nil []], by simp [a117, resV, resV1], by simp [a117, packV, takeL, c], by simp, .refl _⟩
  | true =>
    rw [c] at e1
    repeat' (first
      | refine W_seq ?_
      | refine W_skip ?_
      | refine W_block ?_
      | refine W_ret ?_
      | refine W_exit ?_
      | refine W_ops (s1 := ?_) (by simp only [r117_0, r117_1, r117_2, r117_3, r117_4]; simp [a117, nextVer, e1, e2]; exact rfl) ?_
      | refine W_tops (s1 := ?_) (by simp only [r117_0, r117_1, r117_2, r117_3, r117_4]; simp [a117, nextVer, e1, e2]; exact rfl) ?_
      | refine W_cond_t (by first | (simp [a117, nextVer, e1, e2]; done) | fail) ?_
      | refine W_cond_f (by first | (simp [a117, nextVer, e1, e2]; done) | fail) ?_
      | fail)
    exact ⟨.inr rfl, [.lst .ro ((takesM o).1.map shapeC)], by simp [a117, resV, resV1], by simp [a117, packV, takeL, c], by simp, .refl _⟩

/-- The shape that it gives. -/
def giveM (o : OpD) : Int × Int := if mayOp o = false ∨ storesB o.kind = true then (0, 0) else if 10 ≤ o.kind ∧ o.kind ≤ 12 then (1, 1) else if o.kind = 22 then (o.bits, 1) else (o.bits, o.lanes)

theorem Gives_run (o : OpD) (ht : TakesOK o) (hl : o.args.length < 2 ^ 40) (h : LS.Heap) : callD T 89 [.agg o.c] h = some (.tup [.int .i64 (giveM o).1, .int .i64 (giveM o).2], h) := by
  have e1 := kindMay_run o ht hl h
  have e4 := stores_run o.kind h
  have fin : ∀ (a b : Int) (s : St), s.t 2 = .int .i64 a → s.t 3 = .int .i64 b → s.h = h → giveM o = (a, b) → (AExit.ret = AExit.normal ∨ AExit.ret = AExit.ret) ∧ ∃ vs, resV s a89.res = some vs ∧ (if a89.keepR = true then packV vs else (packV vs).retag) = .tup [.int .i64 (giveM o).1, .int .i64 (giveM o).2] ∧ V.under h.next (.tup [.int .i64 (giveM o).1, .int .i64 (giveM o).2]) = true ∧ HExt h s.h := fun a b s h2 h3 hh hg =>
    ⟨.inr rfl, [.int .i64 a, .int .i64 b], by simp [a89, resV, resV1, h2, h3], by simp [a89, packV, hg], by simp, by rw [hh]; exact .refl _⟩
  refine W_call t89 rfl rfl (by simp) ?_
  show W T c89 _ _
  unfold c89
  rw [opc_eq] at e1 ⊢
  cases c : mayOp o with
  | false =>
    rw [c] at e1
    repeat' (first
      | refine W_seq ?_
      | refine W_skip ?_
      | refine W_block ?_
      | refine W_ret ?_
      | refine W_exit ?_
      | refine W_ops (s1 := ?_) (by simp only [r89_0, r89_1, r89_2, r89_3, r89_4, r89_5, r89_6, r89_7]; simp [a89, nextVer, e1]; exact rfl) ?_
      | refine W_tops (s1 := ?_) (by simp only [r89_0, r89_1, r89_2, r89_3, r89_4, r89_5, r89_6, r89_7]; simp [a89, nextVer, e1]; exact rfl) ?_
      | refine W_cond_t (by first | (simp [a89, nextVer, e1]; done) | fail) ?_
      | refine W_cond_f (by first | (simp [a89, nextVer, e1]; done) | fail) ?_
      | fail)
    exact fin 0 0 _ (by simp) (by simp) rfl (by simp [giveM, c])
  | true =>
    rw [c] at e1
    cases c3 : storesB o.kind with
    | true =>
      rw [c3] at e4
      repeat' (first
        | refine W_seq ?_
        | refine W_skip ?_
        | refine W_block ?_
        | refine W_ret ?_
        | refine W_exit ?_
        | refine W_ops (s1 := ?_) (by simp only [r89_0, r89_1, r89_2, r89_3, r89_4, r89_5, r89_6, r89_7]; simp [a89, nextVer, e1, e4]; exact rfl) ?_
        | refine W_tops (s1 := ?_) (by simp only [r89_0, r89_1, r89_2, r89_3, r89_4, r89_5, r89_6, r89_7]; simp [a89, nextVer, e1, e4]; exact rfl) ?_
        | refine W_cond_t (by first | (simp [a89, nextVer, e1, e4]; done) | fail) ?_
        | refine W_cond_f (by first | (simp [a89, nextVer, e1, e4]; done) | fail) ?_
        | fail)
      exact fin 0 0 _ (by simp) (by simp) rfl (by simp [giveM, c, c3])
    | false =>
      rw [c3] at e4
      by_cases k1 : 10 ≤ o.kind
      · by_cases k2 : o.kind ≤ 12
        · skip
          repeat' (first
            | refine W_seq ?_
            | refine W_skip ?_
            | refine W_block ?_
            | refine W_ret ?_
            | refine W_exit ?_
            | refine W_ops (s1 := ?_) (by simp only [r89_0, r89_1, r89_2, r89_3, r89_4, r89_5, r89_6, r89_7]; simp [a89, nextVer, e1, e4, k1, k2]; exact rfl) ?_
            | refine W_tops (s1 := ?_) (by simp only [r89_0, r89_1, r89_2, r89_3, r89_4, r89_5, r89_6, r89_7]; simp [a89, nextVer, e1, e4, k1, k2]; exact rfl) ?_
            | refine W_cond_t (by first | (simp [a89, nextVer, e1, e4, k1, k2]; done) | fail) ?_
            | refine W_cond_f (by first | (simp [a89, nextVer, e1, e4, k1, k2]; done) | fail) ?_
            | fail)
          exact fin 1 1 _ (by simp) (by simp) rfl (by simp [giveM, c, c3, k1, k2])
        · by_cases k3 : o.kind = 22
          · rw [k3] at e1 e4
            repeat' (first
              | refine W_seq ?_
              | refine W_skip ?_
              | refine W_block ?_
              | refine W_ret ?_
              | refine W_exit ?_
              | refine W_ops (s1 := ?_) (by simp only [r89_0, r89_1, r89_2, r89_3, r89_4, r89_5, r89_6, r89_7]; simp [a89, nextVer, e1, e4, k3]; exact rfl) ?_
              | refine W_tops (s1 := ?_) (by simp only [r89_0, r89_1, r89_2, r89_3, r89_4, r89_5, r89_6, r89_7]; simp [a89, nextVer, e1, e4, k3]; exact rfl) ?_
              | refine W_cond_t (by first | (simp [a89, nextVer, e1, e4, k3]; done) | fail) ?_
              | refine W_cond_f (by first | (simp [a89, nextVer, e1, e4, k3]; done) | fail) ?_
              | fail)
            exact fin o.bits 1 _ (by simp) (by simp) rfl (by rw [k3] at c3; simp [giveM, c, c3, k3])
          · skip
            repeat' (first
              | refine W_seq ?_
              | refine W_skip ?_
              | refine W_block ?_
              | refine W_ret ?_
              | refine W_exit ?_
              | refine W_ops (s1 := ?_) (by simp only [r89_0, r89_1, r89_2, r89_3, r89_4, r89_5, r89_6, r89_7]; simp [a89, nextVer, e1, e4, k1, k2, k3]; exact rfl) ?_
              | refine W_tops (s1 := ?_) (by simp only [r89_0, r89_1, r89_2, r89_3, r89_4, r89_5, r89_6, r89_7]; simp [a89, nextVer, e1, e4, k1, k2, k3]; exact rfl) ?_
              | refine W_cond_t (by first | (simp [a89, nextVer, e1, e4, k1, k2, k3]; done) | fail) ?_
              | refine W_cond_f (by first | (simp [a89, nextVer, e1, e4, k1, k2, k3]; done) | fail) ?_
              | fail)
            exact fin o.bits o.lanes _ (by simp) (by simp) rfl (by simp [giveM, c, c3, k2, k3])
      · have k3 : ¬ o.kind = 22 := by omega
        repeat' (first
          | refine W_seq ?_
          | refine W_skip ?_
          | refine W_block ?_
          | refine W_ret ?_
          | refine W_exit ?_
          | refine W_ops (s1 := ?_) (by simp only [r89_0, r89_1, r89_2, r89_3, r89_4, r89_5, r89_6, r89_7]; simp [a89, nextVer, e1, e4, k1, k3]; exact rfl) ?_
          | refine W_tops (s1 := ?_) (by simp only [r89_0, r89_1, r89_2, r89_3, r89_4, r89_5, r89_6, r89_7]; simp [a89, nextVer, e1, e4, k1, k3]; exact rfl) ?_
          | refine W_cond_t (by first | (simp [a89, nextVer, e1, e4, k1, k3]; done) | fail) ?_
          | refine W_cond_f (by first | (simp [a89, nextVer, e1, e4, k1, k3]; done) | fail) ?_
          | fail)
        exact fin o.bits o.lanes _ (by simp) (by simp) rfl (by simp [giveM, c, c3, k1, k3])

end Go.Proofs.YtcngflmnbdcppaaGreat

/- The checker: small parts; whether all looks right by itself. -/
namespace Go.Proofs.YtcngflmnbdcppaaGreat
open Go.LS Go.IntWalk

/-- A function of one block, without phis, that returns a value. -/
structure Straight where
  ps : List Int
  ret : Int
  ops : List OpD
  arg : Int
def Straight.b (x : Straight) : BlockD := ⟨[], x.ops, 0, x.arg, []⟩
def Straight.f (x : Straight) : FuncD := ⟨x.ps, x.ret, [x.b]⟩

/-- The checker's cells. -/
def chkC (f : FuncD) (succ pred tree : List (List V)) (ts tp tt : Tag) (m : Option Nat) : List V :=
  [.lst .ro (f.params.map intC), .int .i64 f.ret, .lst .ro (f.blocks.map BlockD.c), .int .i64 2, .lst ts succ, .lst tp pred, .lst tt tree, .map m]

theorem scalar_run (b : Int) (h : LS.Heap) : callD T 88 [.int .i64 b] h = some (.agg [.int .i64 b, .int .i64 1], h) := by
  refine W_call t88 rfl rfl (by simp) ?_
  show W T c88 _ _
  unfold c88
  repeat' (first
    | refine W_seq ?_
    | refine W_skip ?_
    | refine W_block ?_
    | refine W_ret ?_
    | refine W_exit ?_
    | refine W_ops (s1 := ?_) (by simp only [r88_0, r88_1]; simp [a88, nextVer]; exact rfl) ?_
    | refine W_tops (s1 := ?_) (by simp only [r88_0, r88_1]; simp [a88, nextVer]; exact rfl) ?_
    | refine W_cond_t (by first | (simp [a88, nextVer]; done) | fail) ?_
    | refine W_cond_f (by first | (simp [a88, nextVer]; done) | fail) ?_
    | fail)
  exact ⟨.inr rfl, _, by simp [a88, resV, resV1]; exact rfl, by simp [a88, packV], by simp, .refl _⟩

def addM (g : Int → Option V) (v : Int) (d : V) : Int → Option V := fun j => if j = v then some d else g j

theorem put_run (c m : Nat) (v : Int) (d1 d2 d3 d4 : Int) (h : LS.Heap) {l1 l2 l3 l4 l5 l6 l7 : V} (hc : h.objs c = some (.var [l1, l2, l3, l4, l5, l6, l7, .map (some m)])) {g : Int → Option V} (hm : h.objs m = some (.map .i64 g)) (hcm : c ≠ m)
    (hg : g v = none) :
    callD T 87 [.obj c 0, .int .i64 v, .agg [.int .i64 d1, .int .i64 d2, .int .i64 d3, .int .i64 d4]] h = some (.bool true, h.set m (.map .i64 (addM g v (.agg [.int .i64 d1, .int .i64 d2, .int .i64 d3, .int .i64 d4])))) := by
  refine W_callH t87 rfl rfl (by simp) ?_
  show W T c87 _ _
  unfold c87
  repeat' (first
    | refine W_seq ?_
    | refine W_skip ?_
    | refine W_block ?_
    | refine W_ret ?_
    | refine W_exit ?_
    | refine W_ops (s1 := ?_) (by simp only [r87_0, r87_1, r87_2, r87_3]; simp [a87, nextVer, hc, hm, hg]; exact rfl) ?_
    | refine W_tops (s1 := ?_) (by simp only [r87_0, r87_1, r87_2, r87_3]; simp [a87, nextVer, hc, hm, hg]; exact rfl) ?_
    | refine W_cond_t (by first | (simp [a87, nextVer, hc, hm, hg]; done) | fail) ?_
    | refine W_cond_f (by first | (simp [a87, nextVer, hc, hm, hg]; done) | fail) ?_
    | fail)
  exact ⟨.inr rfl, [.bool true], by simp [a87, resV, resV1], by simp [a87, packV], rfl⟩

theorem of_run (c : Nat) (o : OpD) (ht : TakesOK o) (hl : o.args.length < 2 ^ 40) (h : LS.Heap) {l1 l2 l3 l5 l6 l7 l8 : V} (hc : h.objs c = some (.var [l1, l2, l3, .int .i64 2, l5, l6, l7, l8])) :
    callD T 86 [.obj c 0, .agg o.c] h = some (.bool (mayOp o), h) := by
  have e := kindMay_run o ht hl h
  refine W_callH t86 rfl rfl (by simp) ?_
  show W T c86 _ _
  unfold c86
  rw [opc_eq] at e ⊢
  repeat' (first
    | refine W_seq ?_
    | refine W_skip ?_
    | refine W_block ?_
    | refine W_ret ?_
    | refine W_exit ?_
    | refine W_ops (s1 := ?_) (by simp only [r86_0, r86_1, r86_2, r86_3, r86_4, r86_5]; simp [a86, nextVer, hc, e]; exact rfl) ?_
    | refine W_tops (s1 := ?_) (by simp only [r86_0, r86_1, r86_2, r86_3, r86_4, r86_5]; simp [a86, nextVer, hc, e]; exact rfl) ?_
    | refine W_cond_t (by first | (simp [a86, nextVer, hc, e]; done) | fail) ?_
    | refine W_cond_f (by first | (simp [a86, nextVer, hc, e]; done) | fail) ?_
    | fail)
  exact ⟨.inr rfl, [.bool (mayOp o)], by simp [a86, resV, resV1], by simp [a86, packV], rfl⟩

theorem typedP_run (n : Int) (h : LS.Heap) : callD T 81 [.int .i64 n] h = some (.bool (!widthB n), h) := by
  have e := wordMay_run n h
  refine W_call t81 rfl rfl (by simp) ?_
  show W T c81 _ _
  unfold c81
  repeat' (first
    | refine W_seq ?_
    | refine W_skip ?_
    | refine W_block ?_
    | refine W_ret ?_
    | refine W_exit ?_
    | refine W_ops (s1 := ?_) (by simp only [r81_0, r81_1]; simp [a81, e]; exact rfl) ?_
    | refine W_tops (s1 := ?_) (by simp only [r81_0, r81_1]; simp [a81, e]; exact rfl) ?_
    | refine W_cond_t (by first | (simp [a81, e]; done) | fail) ?_
    | refine W_cond_f (by first | (simp [a81, e]; done) | fail) ?_
    | fail)
  exact ⟨.inr rfl, [.bool (!widthB n)], by simp [a81, resV, resV1], by simp [a81, packV], rfl, .refl _⟩

theorem typedO_run (c b : Nat) (o : OpD) (ht : TakesOK o) (hl : o.args.length < 2 ^ 40) (h : LS.Heap) (hb : h.objs b = some (.var [.obj c 0])) {l1 l2 l3 l5 l6 l7 l8 : V} (hc : h.objs c = some (.var [l1, l2, l3, .int .i64 2, l5, l6, l7, l8])) :
    callD T 85 [.agg o.c, .obj b 0] h = some (.bool (!mayOp o), h) := by
  have e := of_run c o ht hl h hc
  refine W_call t85 rfl rfl (by simp) ?_
  show W T c85 _ _
  unfold c85
  rw [opc_eq] at e ⊢
  repeat' (first
    | refine W_seq ?_
    | refine W_skip ?_
    | refine W_block ?_
    | refine W_ret ?_
    | refine W_exit ?_
    | refine W_ops (s1 := ?_) (by simp only [r85_0, r85_1]; simp [a85, nextVer, hb, e]; exact rfl) ?_
    | refine W_tops (s1 := ?_) (by simp only [r85_0, r85_1]; simp [a85, nextVer, hb, e]; exact rfl) ?_
    | refine W_cond_t (by first | (simp [a85, nextVer, hb, e]; done) | fail) ?_
    | refine W_cond_f (by first | (simp [a85, nextVer, hb, e]; done) | fail) ?_
    | fail)
  exact ⟨.inr rfl, [.bool (!mayOp o)], by simp [a85, resV, resV1], by simp [a85, packV], rfl, .refl _⟩

theorem typedPhi_nil (h : LS.Heap) : callD T 82 [.lst .ro [], .fn 83 [] []] h = some (.bool false, h) :=
  Contains_phi PhiD.c ([] : List PhiD) 83 [] (fun _ => false) h .ro (by simp) (fun _ => rfl) rfl rfl (fun x hx => by cases hx)

theorem new_objs_old {h : LS.Heap} {o : AObj} {id : Nat} (hid : id < h.next) : (h.new o).objs id = h.objs id := by simp only [Heap.new, upd]; rw [if_neg (by omega)]
theorem new_objs_new (h : LS.Heap) (o : AObj) : (h.new o).objs h.next = some o := by simp [Heap.new, upd]

theorem typed_run (x : Straight) (c : Nat) (h : LS.Heap) (hcn : c < h.next) {succ pred tree : List (List V)} {ts tp tt : Tag} {m : Option Nat} (hc : h.objs c = some (.var (chkC x.f succ pred tree ts tp tt m)))
    (hfit : x.f.Fit) (hT : ∀ o ∈ x.ops, TakesOK o) (hret : widthB x.ret = true) (hps : ∀ p ∈ x.ps, widthB p = true) (hops : ∀ o ∈ x.ops, mayOp o = true) :
    callD T 53 [.obj c 0] h = some (.int .i64 0, h.new (.var [.obj c 0])) := by
  have hc' : (h.new (.var [.obj c 0])).objs c = some (.var (chkC x.f succ pred tree ts tp tt m)) := by rw [new_objs_old hcn]; exact hc
  have hb := new_objs_new h (.var [.obj c 0])
  have e1 := wordMay_run x.ret (h.new (.var [.obj c 0]))
  rw [hret] at e1
  obtain ⟨f1, f2, f3⟩ := hfit
  obtain ⟨g1, g2, g3, g4, g5⟩ := f3 x.b (by simp [Straight.f])
  have e2 := Contains_int intC x.ps 81 [] (fun n => !widthB n) (h.new (.var [.obj c 0])) .ro (by have : x.ps.length < 2 ^ 40 := f1; omega) (fun _ => rfl) (by simp) rfl (fun n _ => typedP_run n _)
  have a2 : x.ps.any (fun n => !widthB n) = false := by
    rw [List.any_eq_false]; intro p hp; simp [hps p hp]
  rw [a2] at e2
  have e3 := Contains_op OpD.c x.ops 85 [.obj h.next 0] (fun o => !mayOp o) (h.new (.var [.obj c 0])) .ro (by have : x.ops.length < 2 ^ 40 := g2; omega) (fun _ => rfl) (by simp) rfl
    (fun o ho => typedO_run c h.next o (hT o ho) (g5 o ho) _ hb hc')
  have a3 : x.ops.any (fun o => !mayOp o) = false := by
    rw [List.any_eq_false]; intro o ho; simp [hops o ho]
  rw [a3] at e3
  have e4 := typedPhi_nil (h.new (.var [.obj c 0]))
  unfold chkC at hc'
  have hbk : x.f.blocks.map BlockD.c = [[.lst .ro [], .lst .ro (x.ops.map OpD.c), .int .i64 0, .int .i64 x.arg, .lst .ro []]] := rfl
  have hr : x.f.ret = x.ret := rfl
  have hp : x.f.params = x.ps := rfl
  rw [hbk, hr, hp] at hc'
  have w1 : IntKind.i64.wrap 1 = 1 := i64_in _ (by omega)
  refine W_callH t53 rfl rfl (by simp) ?_
  show W T c53 _ _
  unfold c53
  refine W_seq (W_ops (s1 := ?_) (by simp only [r53_0]; simp [a53]; exact rfl) ?_)
  generalize hh : h.new (.var [.obj c 0]) = h1 at *
  refine W_seq (W_seq (W_ops (s1 := ?_) (by simp only [r53_1]; simp [hb, hc', e1, e2]; exact rfl) ?_))
  refine W_cond_f (by simp) (W_skip ?_)
  refine W_seq (W_seq (W_ops (s1 := ?_) (by simp only [r53_3]; simp [hb, hc']; exact rfl) ?_))
  refine W_block (W_loop' l53_0.eq_1 ?_)
  repeat' (first
    | refine W_seq ?_
    | refine W_skip ?_
    | refine W_block ?_
    | refine W_ret ?_
    | refine W_exit ?_
    | refine W_ops (s1 := ?_) (by simp only [r53_0, r53_1, r53_2, r53_3, r53_4, r53_5, r53_6, r53_7, r53_8, r53_9, r53_10]; simp [hb, hc', e3, e4, w1]; exact rfl) ?_
    | refine W_tops (s1 := ?_) (by simp only [r53_0, r53_1, r53_2, r53_3, r53_4, r53_5, r53_6, r53_7, r53_8, r53_9, r53_10]; simp [hb, hc', e3, e4, w1]; exact rfl) ?_
    | refine W_cond_t (by first | (simp [hb, hc', e3, e4, w1]; done) | fail) ?_
    | refine W_cond_f (by first | (simp [hb, hc', e3, e4, w1]; done) | fail) ?_
    | fail)
  refine W_loop' l53_0.eq_1 ?_
  repeat' (first
    | refine W_seq ?_
    | refine W_skip ?_
    | refine W_block ?_
    | refine W_ret ?_
    | refine W_exit ?_
    | refine W_ops (s1 := ?_) (by simp only [r53_0, r53_1, r53_2, r53_3, r53_4, r53_5, r53_6, r53_7, r53_8, r53_9, r53_10]; simp [hb, hc', e3, e4]; exact rfl) ?_
    | refine W_tops (s1 := ?_) (by simp only [r53_0, r53_1, r53_2, r53_3, r53_4, r53_5, r53_6, r53_7, r53_8, r53_9, r53_10]; simp [hb, hc', e3, e4]; exact rfl) ?_
    | refine W_cond_t (by first | (simp [hb, hc', e3, e4]; done) | fail) ?_
    | refine W_cond_f (by first | (simp [hb, hc', e3, e4]; done) | fail) ?_
    | fail)
  exact ⟨.inr rfl, [.int .i64 0], by simp [a53, resV, resV1], by simp [a53, packV], rfl⟩

end Go.Proofs.YtcngflmnbdcppaaGreat

/- The checker: what is asked of each argument. -/
namespace Go.Proofs.YtcngflmnbdcppaaGreat
open Go.LS Go.IntWalk

/-- Where a value is defined: a block, a place, bits, lanes. -/
structure DefD where
  block : Int
  at_ : Int
  bits : Int
  lanes : Int
def DefD.v (d : DefD) : V := .agg [.int .i64 d.block, .int .i64 d.at_, .int .i64 d.bits, .int .i64 d.lanes]
def defsV (D : Int → Option DefD) : Int → Option V := fun j => (D j).map DefD.v

/-- The checker c, its function's value in the box bx, its definitions. -/
structure Knows (h : LS.Heap) (c bx m : Nat) (D : Int → Option DefD) : Prop where
  box : h.objs bx = some (.var [.obj c 0])
  chk : ∃ l1 l2 l3 l4 l5 l6 l7, h.objs c = some (.var [l1, l2, l3, l4, l5, l6, l7, .map (some m)])
  defs : h.objs m = some (.map .i64 (defsV D))

theorem Knows.ext {h h' : LS.Heap} {c bx m : Nat} {D : Int → Option DefD} (k : Knows h c bx m D) (hx : HExt h h') (h1 : c < h.next) (h2 : bx < h.next) (h3 : m < h.next) : Knows h' c bx m D :=
  ⟨by rw [hx.2 _ h2]; exact k.box, by rw [hx.2 _ h1]; exact k.chk, by rw [hx.2 _ h3]; exact k.defs⟩

theorem definedQ_run {h : LS.Heap} {c bx m : Nat} {D : Int → Option DefD} (k : Knows h c bx m D) {v : Int} {d : DefD} (hd : D v = some d) (s : Int × Int) (b at_ : Int) :
    callD T 91 [.int .i64 v, .agg (shapeC s), .int .i64 b, .int .i64 at_, .obj bx 0] h = some (.int .i64 0, h) := by
  obtain ⟨hb, ⟨l1, l2, l3, l4, l5, l6, l7, hc⟩, hm⟩ := k
  have hg : defsV D v = some (.agg [.int .i64 d.block, .int .i64 d.at_, .int .i64 d.bits, .int .i64 d.lanes]) := by simp [defsV, hd, DefD.v]
  refine W_call t91 rfl rfl (by simp) ?_
  show W T c91 _ _
  unfold c91
  repeat' (first
    | refine W_seq ?_
    | refine W_skip ?_
    | refine W_block ?_
    | refine W_ret ?_
    | refine W_exit ?_
    | refine W_ops (s1 := ?_) (by simp only [r91_0, r91_1, r91_2, r91_3, r91_4]; simp [a91, nextVer, shapeC, hb, hc, hm, hg]; exact rfl) ?_
    | refine W_tops (s1 := ?_) (by simp only [r91_0, r91_1, r91_2, r91_3, r91_4]; simp [a91, nextVer, shapeC, hb, hc, hm, hg]; exact rfl) ?_
    | refine W_cond_t (by first | (simp [a91, nextVer, shapeC, hb, hc, hm, hg]; done) | fail) ?_
    | refine W_cond_f (by first | (simp [a91, nextVer, shapeC, hb, hc, hm, hg]; done) | fail) ?_
    | fail)
  exact ⟨.inr rfl, [.int .i64 0], by simp [a91, resV, resV1], by simp [a91, packV], rfl, .refl _⟩

theorem shapesQ_run {h : LS.Heap} {c bx m : Nat} {D : Int → Option DefD} (k : Knows h c bx m D) {v : Int} {d : DefD} (hd : D v = some d) (s : Int × Int) (hs : d.bits = s.1 ∧ d.lanes = s.2) (b at_ : Int) :
    callD T 92 [.int .i64 v, .agg (shapeC s), .int .i64 b, .int .i64 at_, .obj bx 0] h = some (.int .i64 0, h) := by
  obtain ⟨hb, ⟨l1, l2, l3, l4, l5, l6, l7, hc⟩, hm⟩ := k
  have hg : defsV D v = some (.agg [.int .i64 d.block, .int .i64 d.at_, .int .i64 d.bits, .int .i64 d.lanes]) := by simp [defsV, hd, DefD.v]
  obtain ⟨s1, s2⟩ := s
  obtain ⟨rfl, rfl⟩ := hs
  refine W_call t92 rfl rfl (by simp) ?_
  show W T c92 _ _
  unfold c92
  repeat' (first
    | refine W_seq ?_
    | refine W_skip ?_
    | refine W_block ?_
    | refine W_ret ?_
    | refine W_exit ?_
    | refine W_ops (s1 := ?_) (by simp only [r92_0, r92_1, r92_2, r92_3]; simp [a92, nextVer, shapeC, hb, hc, hm, hg]; exact rfl) ?_
    | refine W_tops (s1 := ?_) (by simp only [r92_0, r92_1, r92_2, r92_3]; simp [a92, nextVer, shapeC, hb, hc, hm, hg]; exact rfl) ?_
    | refine W_cond_t (by first | (simp [a92, nextVer, shapeC, hb, hc, hm, hg]; done) | fail) ?_
    | refine W_cond_f (by first | (simp [a92, nextVer, shapeC, hb, hc, hm, hg]; done) | fail) ?_
    | fail)
  exact ⟨.inr rfl, [.int .i64 0], by simp [a92, resV, resV1], by simp [a92, packV], rfl, .refl _⟩

theorem placesQ_run {h : LS.Heap} {c bx m : Nat} {D : Int → Option DefD} (k : Knows h c bx m D) {v : Int} {d : DefD} (hd : D v = some d) (s : Int × Int) (b at_ : Int) (hp : d.block < 0 ∨ (d.block = b ∧ d.at_ < at_)) :
    callD T 93 [.int .i64 v, .agg (shapeC s), .int .i64 b, .int .i64 at_, .obj bx 0] h = some (.int .i64 0, h) := by
  obtain ⟨hb, ⟨l1, l2, l3, l4, l5, l6, l7, hc⟩, hm⟩ := k
  have hg : defsV D v = some (.agg [.int .i64 d.block, .int .i64 d.at_, .int .i64 d.bits, .int .i64 d.lanes]) := by simp [defsV, hd, DefD.v]
  refine W_call t93 rfl rfl (by simp) ?_
  show W T c93 _ _
  unfold c93
  by_cases h1 : d.block < 0
  · skip
    repeat' (first
      | refine W_seq ?_
      | refine W_skip ?_
      | refine W_block ?_
      | refine W_ret ?_
      | refine W_exit ?_
      | refine W_ops (s1 := ?_) (by simp only [r93_0, r93_1, r93_2, r93_3, r93_4, r93_5, r93_6, r93_7]; simp [a93, nextVer, shapeC, hb, hc, hm, hg, h1]; exact rfl) ?_
      | refine W_tops (s1 := ?_) (by simp only [r93_0, r93_1, r93_2, r93_3, r93_4, r93_5, r93_6, r93_7]; simp [a93, nextVer, shapeC, hb, hc, hm, hg, h1]; exact rfl) ?_
      | refine W_cond_t (by first | (simp [a93, nextVer, shapeC, hb, hc, hm, hg, h1]; done) | fail) ?_
      | refine W_cond_f (by first | (simp [a93, nextVer, shapeC, hb, hc, hm, hg, h1]; done) | fail) ?_
      | fail)
    exact ⟨.inr rfl, [.int .i64 0], by simp [a93, resV, resV1], by simp [a93, packV], rfl, .refl _⟩
  · obtain ⟨h2, h3⟩ := hp.resolve_left h1
    subst h2
    repeat' (first
      | refine W_seq ?_
      | refine W_skip ?_
      | refine W_block ?_
      | refine W_ret ?_
      | refine W_exit ?_
      | refine W_ops (s1 := ?_) (by simp only [r93_0, r93_1, r93_2, r93_3, r93_4, r93_5, r93_6, r93_7]; simp [a93, nextVer, shapeC, hb, hc, hm, hg, h1, h3]; exact rfl) ?_
      | refine W_tops (s1 := ?_) (by simp only [r93_0, r93_1, r93_2, r93_3, r93_4, r93_5, r93_6, r93_7]; simp [a93, nextVer, shapeC, hb, hc, hm, hg, h1, h3]; exact rfl) ?_
      | refine W_cond_t (by first | (simp [a93, nextVer, shapeC, hb, hc, hm, hg, h1, h3]; done) | fail) ?_
      | refine W_cond_f (by first | (simp [a93, nextVer, shapeC, hb, hc, hm, hg, h1, h3]; done) | fail) ?_
      | fail)
    exact ⟨.inr rfl, [.int .i64 0], by simp [a93, resV, resV1], by simp [a93, packV], rfl, .refl _⟩

/-- It answers that nothing is wrong. -/
def Asks (A : FuncId) (bx : Nat) (h0 : LS.Heap) (v : Int) (s : Int × Int) (at_ : Int) : Prop := ∀ h', HExt h0 h' → callD T A [.int .i64 v, .agg (shapeC s), .int .i64 0, .int .i64 at_, .obj bx 0] h' = some (.int .i64 0, h')

theorem uses_swaps : ordBut r90_25 p90_25 [(0, 2), (0, 3), (0, 4), (0, 5), (2, 7), (3, 7), (4, 7), (5, 7), (6, 7)] = true := by kernel_rfl

theorem uses_swap (call : CallT) : ∀ a i x y, (a, i) ∈ [(0, 2), (0, 3), (0, 4), (0, 5), (2, 7), (3, 7), (4, 7), (5, 7), (6, 7)] → r90_25[a]? = some x → r90_25[i]? = some y → Swap call x y := by
  intro a i x y hm hx hy
  simp only [List.mem_cons, Prod.mk.injEq, List.not_mem_nil, or_false] at hm
  unfold r90_25 at hx hy
  rcases hm with ⟨rfl, rfl⟩ | ⟨rfl, rfl⟩ | ⟨rfl, rfl⟩ | ⟨rfl, rfl⟩ | ⟨rfl, rfl⟩ | ⟨rfl, rfl⟩ | ⟨rfl, rfl⟩ | ⟨rfl, rfl⟩ | ⟨rfl, rfl⟩ <;> (simp only [List.getElem?_cons_zero, List.getElem?_cons_succ, Option.some.injEq] at hx hy; subst hx hy)
  · exact swap_mkmap_read (.inl rfl) (by decide) (by decide)
  · exact swap_mkmap_read (.inr (.inl ⟨_, rfl⟩)) (by decide) (by decide)
  · exact swap_mkmap_read (.inr (.inl ⟨_, rfl⟩)) (by decide) (by decide)
  · exact swap_mkmap_read (.inr (.inr ⟨_, _, rfl⟩)) (by decide) (by decide)
  · exact swap_read_mapset (.inl rfl) (by decide) (fun _ _ => rfl)
  · exact swap_read_mapset (.inr (.inl ⟨_, rfl⟩)) (by decide) (fun _ _ => rfl)
  · exact swap_read_mapset (.inr (.inl ⟨_, rfl⟩)) (by decide) (fun _ _ => rfl)
  · exact swap_read_mapset (.inr (.inr ⟨_, _, rfl⟩)) (by decide) (fun _ _ => rfl)
  · exact swap_mapset_mapset (by decide) (fun _ _ => rfl) (fun _ _ => rfl)

end Go.Proofs.YtcngflmnbdcppaaGreat
