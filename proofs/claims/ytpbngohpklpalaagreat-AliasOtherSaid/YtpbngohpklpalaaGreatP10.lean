/- A part of the proof: an abstract machine for the program's code and what each of its functions comes to there. No conditions. -/
import Derived.Test.YtpbngohpklpalaaGreatP09

set_option linter.unusedSimpArgs false
set_option linter.unusedVariables false

/- What operations take (but for those that pack). -/
namespace Go.Proofs.YtpbngohpklpalaaGreat
open Go.LS Go.IntWalk
def shapeC (p : Int × Int) : List V := [.int .i64 p.1, .int .i64 p.2]
@[simp] theorem retag_shape (l : List (Int × Int)) : V.retagLL (l.map shapeC) = l.map shapeC := retagLL_enc _ (fun _ => rfl) _
@[simp] theorem under_shape (n : Nat) (l : List (Int × Int)) : V.underLL n (l.map shapeC) = true := underLL_enc _ _ (fun _ => rfl) _
def OpD.one (o : OpD) : Bool := decide (o.lanes = 1)
def OpD.mem (o : OpD) : Bool := decide (8 ≤ o.bits)
def OpD.no (o : OpD) : Bool := decide (o.imm = 0)
def takesM (o : OpD) : List (Int × Int) × Bool :=
 if o.kind = 0 then ([], decide (cutU o.imm o.bits = o.imm))
 else if o.kind = 1 ∨ o.kind = 2 ∨ o.kind = 3 ∨ o.kind = 5 ∨ o.kind = 6 ∨ o.kind = 7 ∨ o.kind = 8 ∨ o.kind = 9 then ([(o.bits, o.lanes), (o.bits, o.lanes)], o.no)
 else if o.kind = 4 ∨ o.kind = 10 ∨ o.kind = 11 ∨ o.kind = 12 then ([(o.bits, o.lanes), (o.bits, o.lanes)], o.no && o.one)
 else if o.kind = 13 then ([(1, 1), (o.bits, o.lanes), (o.bits, o.lanes)], o.no)
 else if o.kind = 14 then ([(min o.imm 128, 1)], o.one && (decide (o.imm < IntKind.u64.wrap o.bits) && widthB (IntKind.i64.wrap o.imm)))
 else if o.kind = 15 then ([(min o.imm 128, 1)], o.one && (decide (IntKind.u64.wrap o.bits < o.imm) && (decide (o.imm ≤ 64) && widthB (IntKind.i64.wrap o.imm))))
 else if o.kind = 16 then ([(64, 1)], o.no && o.mem)
 else if o.kind = 17 then ([(64, 1), (o.bits, o.lanes)], o.no && o.mem)
 else if o.kind = 18 ∨ o.kind = 19 then ([(1, 1), (64, 1), (o.bits, o.lanes)], o.no && (o.one && o.mem))
 else if o.kind = 20 then ([(1, 1), (o.bits, o.lanes), (o.bits, o.lanes), (o.bits, o.lanes)], o.no && o.one)
 else if o.kind = 21 then (List.replicate o.lanes.toNat (o.bits, 1), o.no && !o.one)
 else if o.kind = 22 then ([(o.bits, o.lanes)], !o.one && decide (o.imm < IntKind.u64.wrap o.lanes))
 else ([], false)
theorem row_run (tg : Tag) (l : List (Int × Int)) (h : LS.Heap) : callD T 241 [.lst tg (l.map shapeC)] h = some (.lst .ro (l.map shapeC), h) := by
 refine W_call t241 rfl rfl (by simp) ?_
 show W T c241 _ _
 unfold c241
 repeat' (first | refine W_seq ?_ | refine W_skip ?_ | refine W_block ?_ | refine W_ret ?_ | refine W_exit ?_ | refine W_ops (s1 := ?_) (by simp [a241]; exact rfl) ?_ | refine W_tops (s1 := ?_) (by simp [a241]; exact rfl) ?_ | refine W_cond_t (by first | (simp [a241]; done) | fail) ?_ | refine W_cond_f (by first | (simp [a241]; done) | fail) ?_ | fail)
 exact ⟨.inr rfl, [.lst .ro (l.map shapeC)], by simp [a241, resV, resV1], by simp [a241, packV], by simp, .refl _⟩
theorem row_run' (tg : Tag) (l : List (Int × Int)) (h : LS.Heap) {r : List (List V)} (hr : r = l.map shapeC) : callD T 241 [.lst tg r] h = some (.lst .ro r, h) := by
 rw [hr]; exact row_run tg l h
def takesFin (o : OpD) (h : LS.Heap) (r : List (Int × Int) × Bool) : Prop := ∀ (s : St) (l : List (List V)) (v : Bool) (tg : Tag), s.t 2 = .lst tg l → s.t 3 = .bool v → s.h = h → l = r.1.map shapeC → v = r.2 →
 (AExit.ret = AExit.normal ∨ AExit.ret = AExit.ret) ∧ ∃ vs, resV s a231.res = some vs ∧ (if a231.keepR = true then packV vs else (packV vs).retag) = .tup [.lst .ro (r.1.map shapeC), .bool r.2] ∧ V.under h.next (.tup [.lst .ro (r.1.map shapeC), .bool r.2]) = true ∧ HExt h s.h
theorem takes_fin (o : OpD) (h : LS.Heap) (r : List (Int × Int) × Bool) : takesFin o h r := fun s l v tg h2 h3 hh hl hv => by
 subst hl hv
 exact ⟨.inr rfl, [.lst tg (r.1.map shapeC), .bool r.2], by simp [a231, resV, resV1, h2, h3], by simp [a231, packV], by simp, by rw [hh]; exact .refl _⟩
theorem min_u64 (a : Int) (h : 0 ≤ a ∧ a < 18446744073709551616) : IntKind.i64.wrap (min a 128) = min a 128 := i64_in _ (by omega)
def TakesOK (o : OpD) : Prop := ∀ h, callD T 231 [.agg o.c] h = some (.tup [.lst .ro ((takesM o).1.map shapeC), .bool (takesM o).2], h)
theorem takes_0 (bits lanes dst : Int) (args : List Int) (imm : Int) (hv : 0 ≤ imm ∧ imm < 18446744073709551616) : TakesOK ⟨0, bits, lanes, dst, args, imm⟩ := by
 intro h
 have fin := takes_fin ⟨0, bits, lanes, dst, args, imm⟩ h (takesM ⟨0, bits, lanes, dst, args, imm⟩)
 refine W_call t231 rfl rfl (by simp) ?_
 show W T c231 _ _
 unfold c231
 have hE : (OpD.mk 0 bits lanes dst args imm).c = [.int .i64 0, .int .i64 bits, .int .i64 lanes, .int .i64 dst, .lst .ro (args.map intC), .int .u64 imm] := rfl
 rw [hE]
 have eC := Cut_run imm bits hv h
 repeat' (first | refine W_seq ?_ | refine W_skip ?_ | refine W_block ?_ | refine W_ret ?_ | refine W_exit ?_ | refine W_ops (s1 := ?_) (by simp [a231, nextVer, eC]; exact rfl) ?_ | refine W_tops (s1 := ?_) (by simp [a231, nextVer, eC]; exact rfl) ?_ | refine W_cond_t (by first | (simp [a231, nextVer, eC]; done) | fail) ?_ | refine W_cond_f (by first | (simp [a231, nextVer, eC]; done) | fail) ?_ | fail)
 exact fin _ _ _ _ (by simp; exact ⟨rfl, rfl⟩) (by simp; exact rfl) rfl (by simp [takesM]) (by simp [takesM])
theorem takes_1 (bits lanes dst : Int) (args : List Int) (imm : Int) : TakesOK ⟨1, bits, lanes, dst, args, imm⟩ := by
 intro h
 have fin := takes_fin ⟨1, bits, lanes, dst, args, imm⟩ h (takesM ⟨1, bits, lanes, dst, args, imm⟩)
 refine W_call t231 rfl rfl (by simp) ?_
 show W T c231 _ _
 unfold c231
 have hE : (OpD.mk 1 bits lanes dst args imm).c = [.int .i64 1, .int .i64 bits, .int .i64 lanes, .int .i64 dst, .lst .ro (args.map intC), .int .u64 imm] := rfl
 rw [hE]
 have r2 := row_run' .exact [(bits, lanes), (bits, lanes)] h rfl
 simp only [List.map, shapeC] at r2
 repeat' (first | refine W_seq ?_ | refine W_skip ?_ | refine W_block ?_ | refine W_ret ?_ | refine W_exit ?_ | refine W_ops (s1 := ?_) (by simp [a231, nextVer, r2]; exact rfl) ?_ | refine W_tops (s1 := ?_) (by simp [a231, nextVer, r2]; exact rfl) ?_ | refine W_cond_t (by first | (simp [a231, nextVer, r2]; done) | fail) ?_ | refine W_cond_f (by first | (simp [a231, nextVer, r2]; done) | fail) ?_ | fail)
 exact fin _ _ _ _ (by simp; exact ⟨rfl, rfl⟩) (by simp; exact rfl) rfl (by simp [takesM, shapeC]) (by simp [takesM, OpD.no])

theorem takes_2 (bits lanes dst : Int) (args : List Int) (imm : Int) : TakesOK ⟨2, bits, lanes, dst, args, imm⟩ := by
 intro h
 have fin := takes_fin ⟨2, bits, lanes, dst, args, imm⟩ h (takesM ⟨2, bits, lanes, dst, args, imm⟩)
 refine W_call t231 rfl rfl (by simp) ?_
 show W T c231 _ _
 unfold c231
 have hE : (OpD.mk 2 bits lanes dst args imm).c = [.int .i64 2, .int .i64 bits, .int .i64 lanes, .int .i64 dst, .lst .ro (args.map intC), .int .u64 imm] := rfl
 rw [hE]
 have r2 := row_run' .exact [(bits, lanes), (bits, lanes)] h rfl
 simp only [List.map, shapeC] at r2
 repeat' (first | refine W_seq ?_ | refine W_skip ?_ | refine W_block ?_ | refine W_ret ?_ | refine W_exit ?_ | refine W_ops (s1 := ?_) (by simp [a231, nextVer, r2]; exact rfl) ?_ | refine W_tops (s1 := ?_) (by simp [a231, nextVer, r2]; exact rfl) ?_ | refine W_cond_t (by first | (simp [a231, nextVer, r2]; done) | fail) ?_ | refine W_cond_f (by first | (simp [a231, nextVer, r2]; done) | fail) ?_ | fail)
 exact fin _ _ _ _ (by simp; exact ⟨rfl, rfl⟩) (by simp; exact rfl) rfl (by simp [takesM, shapeC]) (by simp [takesM, OpD.no])

theorem takes_3 (bits lanes dst : Int) (args : List Int) (imm : Int) : TakesOK ⟨3, bits, lanes, dst, args, imm⟩ := by
 intro h
 have fin := takes_fin ⟨3, bits, lanes, dst, args, imm⟩ h (takesM ⟨3, bits, lanes, dst, args, imm⟩)
 refine W_call t231 rfl rfl (by simp) ?_
 show W T c231 _ _
 unfold c231
 have hE : (OpD.mk 3 bits lanes dst args imm).c = [.int .i64 3, .int .i64 bits, .int .i64 lanes, .int .i64 dst, .lst .ro (args.map intC), .int .u64 imm] := rfl
 rw [hE]
 have r2 := row_run' .exact [(bits, lanes), (bits, lanes)] h rfl
 simp only [List.map, shapeC] at r2
 repeat' (first | refine W_seq ?_ | refine W_skip ?_ | refine W_block ?_ | refine W_ret ?_ | refine W_exit ?_ | refine W_ops (s1 := ?_) (by simp [a231, nextVer, r2]; exact rfl) ?_ | refine W_tops (s1 := ?_) (by simp [a231, nextVer, r2]; exact rfl) ?_ | refine W_cond_t (by first | (simp [a231, nextVer, r2]; done) | fail) ?_ | refine W_cond_f (by first | (simp [a231, nextVer, r2]; done) | fail) ?_ | fail)
 exact fin _ _ _ _ (by simp; exact ⟨rfl, rfl⟩) (by simp; exact rfl) rfl (by simp [takesM, shapeC]) (by simp [takesM, OpD.no])

theorem takes_5 (bits lanes dst : Int) (args : List Int) (imm : Int) : TakesOK ⟨5, bits, lanes, dst, args, imm⟩ := by
 intro h
 have fin := takes_fin ⟨5, bits, lanes, dst, args, imm⟩ h (takesM ⟨5, bits, lanes, dst, args, imm⟩)
 refine W_call t231 rfl rfl (by simp) ?_
 show W T c231 _ _
 unfold c231
 have hE : (OpD.mk 5 bits lanes dst args imm).c = [.int .i64 5, .int .i64 bits, .int .i64 lanes, .int .i64 dst, .lst .ro (args.map intC), .int .u64 imm] := rfl
 rw [hE]
 have r2 := row_run' .exact [(bits, lanes), (bits, lanes)] h rfl
 simp only [List.map, shapeC] at r2
 repeat' (first | refine W_seq ?_ | refine W_skip ?_ | refine W_block ?_ | refine W_ret ?_ | refine W_exit ?_ | refine W_ops (s1 := ?_) (by simp [a231, nextVer, r2]; exact rfl) ?_ | refine W_tops (s1 := ?_) (by simp [a231, nextVer, r2]; exact rfl) ?_ | refine W_cond_t (by first | (simp [a231, nextVer, r2]; done) | fail) ?_ | refine W_cond_f (by first | (simp [a231, nextVer, r2]; done) | fail) ?_ | fail)
 exact fin _ _ _ _ (by simp; exact ⟨rfl, rfl⟩) (by simp; exact rfl) rfl (by simp [takesM, shapeC]) (by simp [takesM, OpD.no])

theorem takes_6 (bits lanes dst : Int) (args : List Int) (imm : Int) : TakesOK ⟨6, bits, lanes, dst, args, imm⟩ := by
 intro h
 have fin := takes_fin ⟨6, bits, lanes, dst, args, imm⟩ h (takesM ⟨6, bits, lanes, dst, args, imm⟩)
 refine W_call t231 rfl rfl (by simp) ?_
 show W T c231 _ _
 unfold c231
 have hE : (OpD.mk 6 bits lanes dst args imm).c = [.int .i64 6, .int .i64 bits, .int .i64 lanes, .int .i64 dst, .lst .ro (args.map intC), .int .u64 imm] := rfl
 rw [hE]
 have r2 := row_run' .exact [(bits, lanes), (bits, lanes)] h rfl
 simp only [List.map, shapeC] at r2
 repeat' (first | refine W_seq ?_ | refine W_skip ?_ | refine W_block ?_ | refine W_ret ?_ | refine W_exit ?_ | refine W_ops (s1 := ?_) (by simp [a231, nextVer, r2]; exact rfl) ?_ | refine W_tops (s1 := ?_) (by simp [a231, nextVer, r2]; exact rfl) ?_ | refine W_cond_t (by first | (simp [a231, nextVer, r2]; done) | fail) ?_ | refine W_cond_f (by first | (simp [a231, nextVer, r2]; done) | fail) ?_ | fail)
 exact fin _ _ _ _ (by simp; exact ⟨rfl, rfl⟩) (by simp; exact rfl) rfl (by simp [takesM, shapeC]) (by simp [takesM, OpD.no])

theorem takes_7 (bits lanes dst : Int) (args : List Int) (imm : Int) : TakesOK ⟨7, bits, lanes, dst, args, imm⟩ := by
 intro h
 have fin := takes_fin ⟨7, bits, lanes, dst, args, imm⟩ h (takesM ⟨7, bits, lanes, dst, args, imm⟩)
 refine W_call t231 rfl rfl (by simp) ?_
 show W T c231 _ _
 unfold c231
 have hE : (OpD.mk 7 bits lanes dst args imm).c = [.int .i64 7, .int .i64 bits, .int .i64 lanes, .int .i64 dst, .lst .ro (args.map intC), .int .u64 imm] := rfl
 rw [hE]
 have r2 := row_run' .exact [(bits, lanes), (bits, lanes)] h rfl
 simp only [List.map, shapeC] at r2
 repeat' (first | refine W_seq ?_ | refine W_skip ?_ | refine W_block ?_ | refine W_ret ?_ | refine W_exit ?_ | refine W_ops (s1 := ?_) (by simp [a231, nextVer, r2]; exact rfl) ?_ | refine W_tops (s1 := ?_) (by simp [a231, nextVer, r2]; exact rfl) ?_ | refine W_cond_t (by first | (simp [a231, nextVer, r2]; done) | fail) ?_ | refine W_cond_f (by first | (simp [a231, nextVer, r2]; done) | fail) ?_ | fail)
 exact fin _ _ _ _ (by simp; exact ⟨rfl, rfl⟩) (by simp; exact rfl) rfl (by simp [takesM, shapeC]) (by simp [takesM, OpD.no])

theorem takes_8 (bits lanes dst : Int) (args : List Int) (imm : Int) : TakesOK ⟨8, bits, lanes, dst, args, imm⟩ := by
 intro h
 have fin := takes_fin ⟨8, bits, lanes, dst, args, imm⟩ h (takesM ⟨8, bits, lanes, dst, args, imm⟩)
 refine W_call t231 rfl rfl (by simp) ?_
 show W T c231 _ _
 unfold c231
 have hE : (OpD.mk 8 bits lanes dst args imm).c = [.int .i64 8, .int .i64 bits, .int .i64 lanes, .int .i64 dst, .lst .ro (args.map intC), .int .u64 imm] := rfl
 rw [hE]
 have r2 := row_run' .exact [(bits, lanes), (bits, lanes)] h rfl
 simp only [List.map, shapeC] at r2
 repeat' (first | refine W_seq ?_ | refine W_skip ?_ | refine W_block ?_ | refine W_ret ?_ | refine W_exit ?_ | refine W_ops (s1 := ?_) (by simp [a231, nextVer, r2]; exact rfl) ?_ | refine W_tops (s1 := ?_) (by simp [a231, nextVer, r2]; exact rfl) ?_ | refine W_cond_t (by first | (simp [a231, nextVer, r2]; done) | fail) ?_ | refine W_cond_f (by first | (simp [a231, nextVer, r2]; done) | fail) ?_ | fail)
 exact fin _ _ _ _ (by simp; exact ⟨rfl, rfl⟩) (by simp; exact rfl) rfl (by simp [takesM, shapeC]) (by simp [takesM, OpD.no])

theorem takes_9 (bits lanes dst : Int) (args : List Int) (imm : Int) : TakesOK ⟨9, bits, lanes, dst, args, imm⟩ := by
 intro h
 have fin := takes_fin ⟨9, bits, lanes, dst, args, imm⟩ h (takesM ⟨9, bits, lanes, dst, args, imm⟩)
 refine W_call t231 rfl rfl (by simp) ?_
 show W T c231 _ _
 unfold c231
 have hE : (OpD.mk 9 bits lanes dst args imm).c = [.int .i64 9, .int .i64 bits, .int .i64 lanes, .int .i64 dst, .lst .ro (args.map intC), .int .u64 imm] := rfl
 rw [hE]
 have r2 := row_run' .exact [(bits, lanes), (bits, lanes)] h rfl
 simp only [List.map, shapeC] at r2
 repeat' (first | refine W_seq ?_ | refine W_skip ?_ | refine W_block ?_ | refine W_ret ?_ | refine W_exit ?_ | refine W_ops (s1 := ?_) (by simp [a231, nextVer, r2]; exact rfl) ?_ | refine W_tops (s1 := ?_) (by simp [a231, nextVer, r2]; exact rfl) ?_ | refine W_cond_t (by first | (simp [a231, nextVer, r2]; done) | fail) ?_ | refine W_cond_f (by first | (simp [a231, nextVer, r2]; done) | fail) ?_ | fail)
 exact fin _ _ _ _ (by simp; exact ⟨rfl, rfl⟩) (by simp; exact rfl) rfl (by simp [takesM, shapeC]) (by simp [takesM, OpD.no])

theorem takes_13 (bits lanes dst : Int) (args : List Int) (imm : Int) : TakesOK ⟨13, bits, lanes, dst, args, imm⟩ := by
 intro h
 have fin := takes_fin ⟨13, bits, lanes, dst, args, imm⟩ h (takesM ⟨13, bits, lanes, dst, args, imm⟩)
 refine W_call t231 rfl rfl (by simp) ?_
 show W T c231 _ _
 unfold c231
 have hE : (OpD.mk 13 bits lanes dst args imm).c = [.int .i64 13, .int .i64 bits, .int .i64 lanes, .int .i64 dst, .lst .ro (args.map intC), .int .u64 imm] := rfl
 rw [hE]
 have r2 := row_run' .exact [(1, 1), (bits, lanes), (bits, lanes)] h rfl
 simp only [List.map, shapeC] at r2
 repeat' (first | refine W_seq ?_ | refine W_skip ?_ | refine W_block ?_ | refine W_ret ?_ | refine W_exit ?_ | refine W_ops (s1 := ?_) (by simp [a231, nextVer, r2]; exact rfl) ?_ | refine W_tops (s1 := ?_) (by simp [a231, nextVer, r2]; exact rfl) ?_ | refine W_cond_t (by first | (simp [a231, nextVer, r2]; done) | fail) ?_ | refine W_cond_f (by first | (simp [a231, nextVer, r2]; done) | fail) ?_ | fail)
 exact fin _ _ _ _ (by simp; exact ⟨rfl, rfl⟩) (by simp; exact rfl) rfl (by simp [takesM, shapeC]) (by simp [takesM, OpD.no])
theorem takes_4 (bits lanes dst : Int) (args : List Int) (imm : Int) : TakesOK ⟨4, bits, lanes, dst, args, imm⟩ := by
 intro h
 have fin := takes_fin ⟨4, bits, lanes, dst, args, imm⟩ h (takesM ⟨4, bits, lanes, dst, args, imm⟩)
 refine W_call t231 rfl rfl (by simp) ?_
 show W T c231 _ _
 unfold c231
 have hE : (OpD.mk 4 bits lanes dst args imm).c = [.int .i64 4, .int .i64 bits, .int .i64 lanes, .int .i64 dst, .lst .ro (args.map intC), .int .u64 imm] := rfl
 rw [hE]
 have r2 := row_run' .exact [(bits, lanes), (bits, lanes)] h rfl
 simp only [List.map, shapeC] at r2
 by_cases i0 : imm = 0
 ·skip
  repeat' (first | refine W_seq ?_ | refine W_skip ?_ | refine W_block ?_ | refine W_ret ?_ | refine W_exit ?_ | refine W_ops (s1 := ?_) (by simp [a231, nextVer, r2, i0]; exact rfl) ?_ | refine W_tops (s1 := ?_) (by simp [a231, nextVer, r2, i0]; exact rfl) ?_ | refine W_cond_t (by first | (simp [a231, nextVer, r2, i0]; done) | fail) ?_ | refine W_cond_f (by first | (simp [a231, nextVer, r2, i0]; done) | fail) ?_ | fail)
  exact fin _ _ _ _ (by simp; exact ⟨rfl, rfl⟩) (by simp; exact rfl) rfl (by simp [takesM, shapeC]) (by simp [takesM, OpD.no, OpD.one, OpD.mem, i0])
 ·skip
  repeat' (first | refine W_seq ?_ | refine W_skip ?_ | refine W_block ?_ | refine W_ret ?_ | refine W_exit ?_ | refine W_ops (s1 := ?_) (by simp [a231, nextVer, r2, i0]; exact rfl) ?_ | refine W_tops (s1 := ?_) (by simp [a231, nextVer, r2, i0]; exact rfl) ?_ | refine W_cond_t (by first | (simp [a231, nextVer, r2, i0]; done) | fail) ?_ | refine W_cond_f (by first | (simp [a231, nextVer, r2, i0]; done) | fail) ?_ | fail)
  exact fin _ _ _ _ (by simp; exact ⟨rfl, rfl⟩) (by simp; exact rfl) rfl (by simp [takesM, shapeC]) (by simp [takesM, OpD.no, OpD.one, OpD.mem, i0])

theorem takes_10 (bits lanes dst : Int) (args : List Int) (imm : Int) : TakesOK ⟨10, bits, lanes, dst, args, imm⟩ := by
 intro h
 have fin := takes_fin ⟨10, bits, lanes, dst, args, imm⟩ h (takesM ⟨10, bits, lanes, dst, args, imm⟩)
 refine W_call t231 rfl rfl (by simp) ?_
 show W T c231 _ _
 unfold c231
 have hE : (OpD.mk 10 bits lanes dst args imm).c = [.int .i64 10, .int .i64 bits, .int .i64 lanes, .int .i64 dst, .lst .ro (args.map intC), .int .u64 imm] := rfl
 rw [hE]
 have r2 := row_run' .exact [(bits, lanes), (bits, lanes)] h rfl
 simp only [List.map, shapeC] at r2
 by_cases i0 : imm = 0
 ·skip
  repeat' (first | refine W_seq ?_ | refine W_skip ?_ | refine W_block ?_ | refine W_ret ?_ | refine W_exit ?_ | refine W_ops (s1 := ?_) (by simp [a231, nextVer, r2, i0]; exact rfl) ?_ | refine W_tops (s1 := ?_) (by simp [a231, nextVer, r2, i0]; exact rfl) ?_ | refine W_cond_t (by first | (simp [a231, nextVer, r2, i0]; done) | fail) ?_ | refine W_cond_f (by first | (simp [a231, nextVer, r2, i0]; done) | fail) ?_ | fail)
  exact fin _ _ _ _ (by simp; exact ⟨rfl, rfl⟩) (by simp; exact rfl) rfl (by simp [takesM, shapeC]) (by simp [takesM, OpD.no, OpD.one, OpD.mem, i0])
 ·skip
  repeat' (first | refine W_seq ?_ | refine W_skip ?_ | refine W_block ?_ | refine W_ret ?_ | refine W_exit ?_ | refine W_ops (s1 := ?_) (by simp [a231, nextVer, r2, i0]; exact rfl) ?_ | refine W_tops (s1 := ?_) (by simp [a231, nextVer, r2, i0]; exact rfl) ?_ | refine W_cond_t (by first | (simp [a231, nextVer, r2, i0]; done) | fail) ?_ | refine W_cond_f (by first | (simp [a231, nextVer, r2, i0]; done) | fail) ?_ | fail)
  exact fin _ _ _ _ (by simp; exact ⟨rfl, rfl⟩) (by simp; exact rfl) rfl (by simp [takesM, shapeC]) (by simp [takesM, OpD.no, OpD.one, OpD.mem, i0])

theorem takes_11 (bits lanes dst : Int) (args : List Int) (imm : Int) : TakesOK ⟨11, bits, lanes, dst, args, imm⟩ := by
 intro h
 have fin := takes_fin ⟨11, bits, lanes, dst, args, imm⟩ h (takesM ⟨11, bits, lanes, dst, args, imm⟩)
 refine W_call t231 rfl rfl (by simp) ?_
 show W T c231 _ _
 unfold c231
 have hE : (OpD.mk 11 bits lanes dst args imm).c = [.int .i64 11, .int .i64 bits, .int .i64 lanes, .int .i64 dst, .lst .ro (args.map intC), .int .u64 imm] := rfl
 rw [hE]
 have r2 := row_run' .exact [(bits, lanes), (bits, lanes)] h rfl
 simp only [List.map, shapeC] at r2
 by_cases i0 : imm = 0
 ·skip
  repeat' (first | refine W_seq ?_ | refine W_skip ?_ | refine W_block ?_ | refine W_ret ?_ | refine W_exit ?_ | refine W_ops (s1 := ?_) (by simp [a231, nextVer, r2, i0]; exact rfl) ?_ | refine W_tops (s1 := ?_) (by simp [a231, nextVer, r2, i0]; exact rfl) ?_ | refine W_cond_t (by first | (simp [a231, nextVer, r2, i0]; done) | fail) ?_ | refine W_cond_f (by first | (simp [a231, nextVer, r2, i0]; done) | fail) ?_ | fail)
  exact fin _ _ _ _ (by simp; exact ⟨rfl, rfl⟩) (by simp; exact rfl) rfl (by simp [takesM, shapeC]) (by simp [takesM, OpD.no, OpD.one, OpD.mem, i0])
 ·skip
  repeat' (first | refine W_seq ?_ | refine W_skip ?_ | refine W_block ?_ | refine W_ret ?_ | refine W_exit ?_ | refine W_ops (s1 := ?_) (by simp [a231, nextVer, r2, i0]; exact rfl) ?_ | refine W_tops (s1 := ?_) (by simp [a231, nextVer, r2, i0]; exact rfl) ?_ | refine W_cond_t (by first | (simp [a231, nextVer, r2, i0]; done) | fail) ?_ | refine W_cond_f (by first | (simp [a231, nextVer, r2, i0]; done) | fail) ?_ | fail)
  exact fin _ _ _ _ (by simp; exact ⟨rfl, rfl⟩) (by simp; exact rfl) rfl (by simp [takesM, shapeC]) (by simp [takesM, OpD.no, OpD.one, OpD.mem, i0])

theorem takes_12 (bits lanes dst : Int) (args : List Int) (imm : Int) : TakesOK ⟨12, bits, lanes, dst, args, imm⟩ := by
 intro h
 have fin := takes_fin ⟨12, bits, lanes, dst, args, imm⟩ h (takesM ⟨12, bits, lanes, dst, args, imm⟩)
 refine W_call t231 rfl rfl (by simp) ?_
 show W T c231 _ _
 unfold c231
 have hE : (OpD.mk 12 bits lanes dst args imm).c = [.int .i64 12, .int .i64 bits, .int .i64 lanes, .int .i64 dst, .lst .ro (args.map intC), .int .u64 imm] := rfl
 rw [hE]
 have r2 := row_run' .exact [(bits, lanes), (bits, lanes)] h rfl
 simp only [List.map, shapeC] at r2
 by_cases i0 : imm = 0
 ·skip
  repeat' (first | refine W_seq ?_ | refine W_skip ?_ | refine W_block ?_ | refine W_ret ?_ | refine W_exit ?_ | refine W_ops (s1 := ?_) (by simp [a231, nextVer, r2, i0]; exact rfl) ?_ | refine W_tops (s1 := ?_) (by simp [a231, nextVer, r2, i0]; exact rfl) ?_ | refine W_cond_t (by first | (simp [a231, nextVer, r2, i0]; done) | fail) ?_ | refine W_cond_f (by first | (simp [a231, nextVer, r2, i0]; done) | fail) ?_ | fail)
  exact fin _ _ _ _ (by simp; exact ⟨rfl, rfl⟩) (by simp; exact rfl) rfl (by simp [takesM, shapeC]) (by simp [takesM, OpD.no, OpD.one, OpD.mem, i0])
 ·skip
  repeat' (first | refine W_seq ?_ | refine W_skip ?_ | refine W_block ?_ | refine W_ret ?_ | refine W_exit ?_ | refine W_ops (s1 := ?_) (by simp [a231, nextVer, r2, i0]; exact rfl) ?_ | refine W_tops (s1 := ?_) (by simp [a231, nextVer, r2, i0]; exact rfl) ?_ | refine W_cond_t (by first | (simp [a231, nextVer, r2, i0]; done) | fail) ?_ | refine W_cond_f (by first | (simp [a231, nextVer, r2, i0]; done) | fail) ?_ | fail)
  exact fin _ _ _ _ (by simp; exact ⟨rfl, rfl⟩) (by simp; exact rfl) rfl (by simp [takesM, shapeC]) (by simp [takesM, OpD.no, OpD.one, OpD.mem, i0])

theorem takes_20 (bits lanes dst : Int) (args : List Int) (imm : Int) : TakesOK ⟨20, bits, lanes, dst, args, imm⟩ := by
 intro h
 have fin := takes_fin ⟨20, bits, lanes, dst, args, imm⟩ h (takesM ⟨20, bits, lanes, dst, args, imm⟩)
 refine W_call t231 rfl rfl (by simp) ?_
 show W T c231 _ _
 unfold c231
 have hE : (OpD.mk 20 bits lanes dst args imm).c = [.int .i64 20, .int .i64 bits, .int .i64 lanes, .int .i64 dst, .lst .ro (args.map intC), .int .u64 imm] := rfl
 rw [hE]
 have r2 := row_run' .exact [(1, 1), (bits, lanes), (bits, lanes), (bits, lanes)] h rfl
 simp only [List.map, shapeC] at r2
 by_cases i0 : imm = 0
 ·skip
  repeat' (first | refine W_seq ?_ | refine W_skip ?_ | refine W_block ?_ | refine W_ret ?_ | refine W_exit ?_ | refine W_ops (s1 := ?_) (by simp [a231, nextVer, r2, i0]; exact rfl) ?_ | refine W_tops (s1 := ?_) (by simp [a231, nextVer, r2, i0]; exact rfl) ?_ | refine W_cond_t (by first | (simp [a231, nextVer, r2, i0]; done) | fail) ?_ | refine W_cond_f (by first | (simp [a231, nextVer, r2, i0]; done) | fail) ?_ | fail)
  exact fin _ _ _ _ (by simp; exact ⟨rfl, rfl⟩) (by simp; exact rfl) rfl (by simp [takesM, shapeC]) (by simp [takesM, OpD.no, OpD.one, OpD.mem, i0])
 ·skip
  repeat' (first | refine W_seq ?_ | refine W_skip ?_ | refine W_block ?_ | refine W_ret ?_ | refine W_exit ?_ | refine W_ops (s1 := ?_) (by simp [a231, nextVer, r2, i0]; exact rfl) ?_ | refine W_tops (s1 := ?_) (by simp [a231, nextVer, r2, i0]; exact rfl) ?_ | refine W_cond_t (by first | (simp [a231, nextVer, r2, i0]; done) | fail) ?_ | refine W_cond_f (by first | (simp [a231, nextVer, r2, i0]; done) | fail) ?_ | fail)
  exact fin _ _ _ _ (by simp; exact ⟨rfl, rfl⟩) (by simp; exact rfl) rfl (by simp [takesM, shapeC]) (by simp [takesM, OpD.no, OpD.one, OpD.mem, i0])

theorem takes_16 (bits lanes dst : Int) (args : List Int) (imm : Int) : TakesOK ⟨16, bits, lanes, dst, args, imm⟩ := by
 intro h
 have fin := takes_fin ⟨16, bits, lanes, dst, args, imm⟩ h (takesM ⟨16, bits, lanes, dst, args, imm⟩)
 refine W_call t231 rfl rfl (by simp) ?_
 show W T c231 _ _
 unfold c231
 have hE : (OpD.mk 16 bits lanes dst args imm).c = [.int .i64 16, .int .i64 bits, .int .i64 lanes, .int .i64 dst, .lst .ro (args.map intC), .int .u64 imm] := rfl
 rw [hE]
 have r2 := row_run' .exact [(64, 1)] h rfl
 simp only [List.map, shapeC] at r2
 by_cases i0 : imm = 0
 ·skip
  repeat' (first | refine W_seq ?_ | refine W_skip ?_ | refine W_block ?_ | refine W_ret ?_ | refine W_exit ?_ | refine W_ops (s1 := ?_) (by simp [a231, nextVer, r2, i0]; exact rfl) ?_ | refine W_tops (s1 := ?_) (by simp [a231, nextVer, r2, i0]; exact rfl) ?_ | refine W_cond_t (by first | (simp [a231, nextVer, r2, i0]; done) | fail) ?_ | refine W_cond_f (by first | (simp [a231, nextVer, r2, i0]; done) | fail) ?_ | fail)
  exact fin _ _ _ _ (by simp; exact ⟨rfl, rfl⟩) (by simp; exact rfl) rfl (by simp [takesM, shapeC]) (by simp [takesM, OpD.no, OpD.one, OpD.mem, i0])
 ·skip
  repeat' (first | refine W_seq ?_ | refine W_skip ?_ | refine W_block ?_ | refine W_ret ?_ | refine W_exit ?_ | refine W_ops (s1 := ?_) (by simp [a231, nextVer, r2, i0]; exact rfl) ?_ | refine W_tops (s1 := ?_) (by simp [a231, nextVer, r2, i0]; exact rfl) ?_ | refine W_cond_t (by first | (simp [a231, nextVer, r2, i0]; done) | fail) ?_ | refine W_cond_f (by first | (simp [a231, nextVer, r2, i0]; done) | fail) ?_ | fail)
  exact fin _ _ _ _ (by simp; exact ⟨rfl, rfl⟩) (by simp; exact rfl) rfl (by simp [takesM, shapeC]) (by simp [takesM, OpD.no, OpD.one, OpD.mem, i0])

theorem takes_17 (bits lanes dst : Int) (args : List Int) (imm : Int) : TakesOK ⟨17, bits, lanes, dst, args, imm⟩ := by
 intro h
 have fin := takes_fin ⟨17, bits, lanes, dst, args, imm⟩ h (takesM ⟨17, bits, lanes, dst, args, imm⟩)
 refine W_call t231 rfl rfl (by simp) ?_
 show W T c231 _ _
 unfold c231
 have hE : (OpD.mk 17 bits lanes dst args imm).c = [.int .i64 17, .int .i64 bits, .int .i64 lanes, .int .i64 dst, .lst .ro (args.map intC), .int .u64 imm] := rfl
 rw [hE]
 have r2 := row_run' .exact [(64, 1), (bits, lanes)] h rfl
 simp only [List.map, shapeC] at r2
 by_cases i0 : imm = 0
 ·skip
  repeat' (first | refine W_seq ?_ | refine W_skip ?_ | refine W_block ?_ | refine W_ret ?_ | refine W_exit ?_ | refine W_ops (s1 := ?_) (by simp [a231, nextVer, r2, i0]; exact rfl) ?_ | refine W_tops (s1 := ?_) (by simp [a231, nextVer, r2, i0]; exact rfl) ?_ | refine W_cond_t (by first | (simp [a231, nextVer, r2, i0]; done) | fail) ?_ | refine W_cond_f (by first | (simp [a231, nextVer, r2, i0]; done) | fail) ?_ | fail)
  exact fin _ _ _ _ (by simp; exact ⟨rfl, rfl⟩) (by simp; exact rfl) rfl (by simp [takesM, shapeC]) (by simp [takesM, OpD.no, OpD.one, OpD.mem, i0])
 ·skip
  repeat' (first | refine W_seq ?_ | refine W_skip ?_ | refine W_block ?_ | refine W_ret ?_ | refine W_exit ?_ | refine W_ops (s1 := ?_) (by simp [a231, nextVer, r2, i0]; exact rfl) ?_ | refine W_tops (s1 := ?_) (by simp [a231, nextVer, r2, i0]; exact rfl) ?_ | refine W_cond_t (by first | (simp [a231, nextVer, r2, i0]; done) | fail) ?_ | refine W_cond_f (by first | (simp [a231, nextVer, r2, i0]; done) | fail) ?_ | fail)
  exact fin _ _ _ _ (by simp; exact ⟨rfl, rfl⟩) (by simp; exact rfl) rfl (by simp [takesM, shapeC]) (by simp [takesM, OpD.no, OpD.one, OpD.mem, i0])

end Go.Proofs.YtpbngohpklpalaaGreat

/- Which operations look right; what they take, and give. -/
namespace Go.Proofs.YtpbngohpklpalaaGreat
open Go.LS Go.IntWalk
def dstB (o : OpD) : Bool := if storesB o.kind = true then decide (o.dst = 0) else valueB o.dst
def mayOp (o : OpD) : Bool := shapeB o.bits o.lanes && ((takesM o).2 && (dstB o && (decide ((takesM o).1.length = o.args.length) && !o.args.any (fun v => !valueB v))))
theorem opc_eq (o : OpD) : o.c = [.int .i64 o.kind, .int .i64 o.bits, .int .i64 o.lanes, .int .i64 o.dst, .lst .ro (o.args.map intC), .int .u64 o.imm] := rfl
theorem kindMay_run (o : OpD) (ht : TakesOK o) (hl : o.args.length < 2 ^ 40) (h : LS.Heap) : callD T 216 [.agg o.c] h = some (.bool (mayOp o), h) := by
 have fin : ∀ (v : Bool) (s : St), s.t 2 = .bool v → s.h = h → mayOp o = v → (AExit.ret = AExit.normal ∨ AExit.ret = AExit.ret) ∧ ∃ vs, resV s a216.res = some vs ∧ (if a216.keepR = true then packV vs else (packV vs).retag) = .bool (mayOp o) ∧ V.under h.next (.bool (mayOp o)) = true ∧ HExt h s.h := fun v s h2 hh hb =>
  ⟨.inr rfl, [.bool v], by simp [a216, resV, resV1, h2], by simp [a216, packV, hb], rfl, by rw [hh]; exact .refl _⟩
 have e1 := Shape_run o.bits o.lanes h
 have e2 := ht h
 have e3 := value_run o.dst h
 have e4 := stores_run o.kind h
 have e5 := Contains_int intC o.args 233 [] (fun v => !valueB v) h .ro (by omega) (fun _ => rfl) (by simp) rfl (fun x _ => valueP_run x h)
 refine W_call t216 rfl rfl (by simp) ?_
 show W T c216 _ _
 unfold c216
 rw [opc_eq] at e2 ⊢
 cases c1 : shapeB o.bits o.lanes with
 | false =>
  rw [c1] at e1
  repeat' (first | refine W_seq ?_ | refine W_skip ?_ | refine W_block ?_ | refine W_ret ?_ | refine W_exit ?_ | refine W_ops (s1 := ?_) (by simp [a216, nextVer, e1]; exact rfl) ?_ | refine W_tops (s1 := ?_) (by simp [a216, nextVer, e1]; exact rfl) ?_ | refine W_cond_t (by first | (simp [a216, nextVer, e1]; done) | fail) ?_ | refine W_cond_f (by first | (simp [a216, nextVer, e1]; done) | fail) ?_ | fail)
  exact fin false _ (by simp) rfl (by simp [mayOp, c1])
 | true =>
  rw [c1] at e1
  have hdst : ∀ d, dstB o = d → callD T 217 [.int .i64 o.kind] h = some (.bool (storesB o.kind), h) := fun _ _ => e4
  cases c2 : (takesM o).2 with
  | false =>
   rw [c2] at e2
   cases c3 : storesB o.kind with
   | false =>
    rw [c3] at e4
    repeat' (first | refine W_seq ?_ | refine W_skip ?_ | refine W_block ?_ | refine W_ret ?_ | refine W_exit ?_ | refine W_ops (s1 := ?_) (by simp [a216, nextVer, e1, e2, e3, e4]; exact rfl) ?_ | refine W_tops (s1 := ?_) (by simp [a216, nextVer, e1, e2, e3, e4]; exact rfl) ?_ | refine W_cond_t (by first | (simp [a216, nextVer, e1, e2, e3, e4]; done) | fail) ?_ | refine W_cond_f (by first | (simp [a216, nextVer, e1, e2, e3, e4]; done) | fail) ?_ | fail)
    exact fin false _ (by simp) rfl (by simp [mayOp, c1, c2])
   | true =>
    rw [c3] at e4
    repeat' (first | refine W_seq ?_ | refine W_skip ?_ | refine W_block ?_ | refine W_ret ?_ | refine W_exit ?_ | refine W_ops (s1 := ?_) (by simp [a216, nextVer, e1, e2, e3, e4]; exact rfl) ?_ | refine W_tops (s1 := ?_) (by simp [a216, nextVer, e1, e2, e3, e4]; exact rfl) ?_ | refine W_cond_t (by first | (simp [a216, nextVer, e1, e2, e3, e4]; done) | fail) ?_ | refine W_cond_f (by first | (simp [a216, nextVer, e1, e2, e3, e4]; done) | fail) ?_ | fail)
    exact fin false _ (by simp) rfl (by simp [mayOp, c1, c2])
  | true =>
   rw [c2] at e2
   cases c3 : storesB o.kind with
   | false =>
    rw [c3] at e4
    cases c4 : valueB o.dst with
    | false =>
     rw [c4] at e3
     repeat' (first | refine W_seq ?_ | refine W_skip ?_ | refine W_block ?_ | refine W_ret ?_ | refine W_exit ?_ | refine W_ops (s1 := ?_) (by simp [a216, nextVer, e1, e2, e3, e4]; exact rfl) ?_ | refine W_tops (s1 := ?_) (by simp [a216, nextVer, e1, e2, e3, e4]; exact rfl) ?_ | refine W_cond_t (by first | (simp [a216, nextVer, e1, e2, e3, e4]; done) | fail) ?_ | refine W_cond_f (by first | (simp [a216, nextVer, e1, e2, e3, e4]; done) | fail) ?_ | fail)
     exact fin false _ (by simp) rfl (by simp [mayOp, c1, c2, dstB, c3, c4])
    | true =>
     rw [c4] at e3
     by_cases c5 : (takesM o).1.length = o.args.length
     ·have c5' : ((takesM o).1.length : Int) = o.args.length := by omega
      repeat' (first | refine W_seq ?_ | refine W_skip ?_ | refine W_block ?_ | refine W_ret ?_ | refine W_exit ?_ | refine W_ops (s1 := ?_) (by simp [a216, nextVer, e1, e2, e3, e4, c5, c5', e5]; exact rfl) ?_ | refine W_tops (s1 := ?_) (by simp [a216, nextVer, e1, e2, e3, e4, c5, c5', e5]; exact rfl) ?_ | refine W_cond_t (by first | (simp [a216, nextVer, e1, e2, e3, e4, c5, c5', e5]; done) | fail) ?_ | refine W_cond_f (by first | (simp [a216, nextVer, e1, e2, e3, e4, c5, c5', e5]; done) | fail) ?_ | fail)
      exact fin (!o.args.any (fun v => !valueB v)) _ (by simp) rfl (by simp only [mayOp, c1, c2, dstB, c3, c4, c5]; simp)
     ·have c5' : ¬ ((takesM o).1.length : Int) = o.args.length := by omega
      repeat' (first | refine W_seq ?_ | refine W_skip ?_ | refine W_block ?_ | refine W_ret ?_ | refine W_exit ?_ | refine W_ops (s1 := ?_) (by simp [a216, nextVer, e1, e2, e3, e4, c5, c5']; exact rfl) ?_ | refine W_tops (s1 := ?_) (by simp [a216, nextVer, e1, e2, e3, e4, c5, c5']; exact rfl) ?_ | refine W_cond_t (by first | (simp [a216, nextVer, e1, e2, e3, e4, c5, c5']; done) | fail) ?_ | refine W_cond_f (by first | (simp [a216, nextVer, e1, e2, e3, e4, c5, c5']; done) | fail) ?_ | fail)
      exact fin false _ (by simp) rfl (by simp [mayOp, c1, c2, dstB, c3, c4, c5])
   | true =>
    rw [c3] at e4
    by_cases c4 : o.dst = 0
    ·by_cases c5 : (takesM o).1.length = o.args.length
     ·have c5' : ((takesM o).1.length : Int) = o.args.length := by omega
      rw [c4] at e2 e3
      repeat' (first | refine W_seq ?_ | refine W_skip ?_ | refine W_block ?_ | refine W_ret ?_ | refine W_exit ?_ | refine W_ops (s1 := ?_) (by simp [a216, nextVer, e1, e2, e3, e4, c4, c5, c5', e5]; exact rfl) ?_ | refine W_tops (s1 := ?_) (by simp [a216, nextVer, e1, e2, e3, e4, c4, c5, c5', e5]; exact rfl) ?_ | refine W_cond_t (by first | (simp [a216, nextVer, e1, e2, e3, e4, c4, c5, c5', e5]; done) | fail) ?_ | refine W_cond_f (by first | (simp [a216, nextVer, e1, e2, e3, e4, c4, c5, c5', e5]; done) | fail) ?_ | fail)
      exact fin (!o.args.any (fun v => !valueB v)) _ (by simp) rfl (by simp only [mayOp, c1, c2, dstB, c3, c4, c5]; simp)
     ·have c5' : ¬ ((takesM o).1.length : Int) = o.args.length := by omega
      rw [c4] at e2 e3
      repeat' (first | refine W_seq ?_ | refine W_skip ?_ | refine W_block ?_ | refine W_ret ?_ | refine W_exit ?_ | refine W_ops (s1 := ?_) (by simp [a216, nextVer, e1, e2, e3, e4, c4, c5, c5']; exact rfl) ?_ | refine W_tops (s1 := ?_) (by simp [a216, nextVer, e1, e2, e3, e4, c4, c5, c5']; exact rfl) ?_ | refine W_cond_t (by first | (simp [a216, nextVer, e1, e2, e3, e4, c4, c5, c5']; done) | fail) ?_ | refine W_cond_f (by first | (simp [a216, nextVer, e1, e2, e3, e4, c4, c5, c5']; done) | fail) ?_ | fail)
      exact fin false _ (by simp) rfl (by simp [mayOp, c1, c2, dstB, c3, c4, c5])
    ·skip
     repeat' (first | refine W_seq ?_ | refine W_skip ?_ | refine W_block ?_ | refine W_ret ?_ | refine W_exit ?_ | refine W_ops (s1 := ?_) (by simp [a216, nextVer, e1, e2, e3, e4, c4]; exact rfl) ?_ | refine W_tops (s1 := ?_) (by simp [a216, nextVer, e1, e2, e3, e4, c4]; exact rfl) ?_ | refine W_cond_t (by first | (simp [a216, nextVer, e1, e2, e3, e4, c4]; done) | fail) ?_ | refine W_cond_f (by first | (simp [a216, nextVer, e1, e2, e3, e4, c4]; done) | fail) ?_ | fail)
     exact fin false _ (by simp) rfl (by simp [mayOp, c1, c2, dstB, c3, c4])
def takeL (o : OpD) : List (Int × Int) := if mayOp o = true then (takesM o).1 else []
theorem Takes_run (o : OpD) (ht : TakesOK o) (hl : o.args.length < 2 ^ 40) (h : LS.Heap) : callD T 218 [.agg o.c] h = some (.lst .ro ((takeL o).map shapeC), h) := by
 have e1 := kindMay_run o ht hl h
 have e2 := ht h
 refine W_call t218 rfl rfl (by simp) ?_
 show W T c218 _ _
 unfold c218
 rw [opc_eq] at e1 e2 ⊢
 cases c : mayOp o with
 | false =>
  rw [c] at e1
  repeat' (first | refine W_seq ?_ | refine W_skip ?_ | refine W_block ?_ | refine W_ret ?_ | refine W_exit ?_ | refine W_ops (s1 := ?_) (by simp [a218, nextVer, e1]; exact rfl) ?_ | refine W_tops (s1 := ?_) (by simp [a218, nextVer, e1]; exact rfl) ?_ | refine W_cond_t (by first | (simp [a218, nextVer, e1]; done) | fail) ?_ | refine W_cond_f (by first | (simp [a218, nextVer, e1]; done) | fail) ?_ | fail)
  exact ⟨.inr rfl, [.lst .nil []], by simp [a218, resV, resV1], by simp [a218, packV, takeL, c], by simp, .refl _⟩
 | true =>
  rw [c] at e1
  repeat' (first | refine W_seq ?_ | refine W_skip ?_ | refine W_block ?_ | refine W_ret ?_ | refine W_exit ?_ | refine W_ops (s1 := ?_) (by simp [a218, nextVer, e1, e2]; exact rfl) ?_ | refine W_tops (s1 := ?_) (by simp [a218, nextVer, e1, e2]; exact rfl) ?_ | refine W_cond_t (by first | (simp [a218, nextVer, e1, e2]; done) | fail) ?_ | refine W_cond_f (by first | (simp [a218, nextVer, e1, e2]; done) | fail) ?_ | fail)
  exact ⟨.inr rfl, [.lst .ro ((takesM o).1.map shapeC)], by simp [a218, resV, resV1], by simp [a218, packV, takeL, c], by simp, .refl _⟩
def giveM (o : OpD) : Int × Int := if mayOp o = false ∨ storesB o.kind = true then (0, 0) else if 10 ≤ o.kind ∧ o.kind ≤ 12 then (1, 1) else if o.kind = 22 then (o.bits, 1) else (o.bits, o.lanes)
theorem Gives_run (o : OpD) (ht : TakesOK o) (hl : o.args.length < 2 ^ 40) (h : LS.Heap) : callD T 197 [.agg o.c] h = some (.tup [.int .i64 (giveM o).1, .int .i64 (giveM o).2], h) := by
 have e1 := kindMay_run o ht hl h
 have e4 := stores_run o.kind h
 have fin : ∀ (a b : Int) (s : St), s.t 2 = .int .i64 a → s.t 3 = .int .i64 b → s.h = h → giveM o = (a, b) → (AExit.ret = AExit.normal ∨ AExit.ret = AExit.ret) ∧ ∃ vs, resV s a197.res = some vs ∧ (if a197.keepR = true then packV vs else (packV vs).retag) = .tup [.int .i64 (giveM o).1, .int .i64 (giveM o).2] ∧ V.under h.next (.tup [.int .i64 (giveM o).1, .int .i64 (giveM o).2]) = true ∧ HExt h s.h := fun a b s h2 h3 hh hg =>
  ⟨.inr rfl, [.int .i64 a, .int .i64 b], by simp [a197, resV, resV1, h2, h3], by simp [a197, packV, hg], by simp, by rw [hh]; exact .refl _⟩
 refine W_call t197 rfl rfl (by simp) ?_
 show W T c197 _ _
 unfold c197
 rw [opc_eq] at e1 ⊢
 cases c : mayOp o with
 | false =>
  rw [c] at e1
  repeat' (first | refine W_seq ?_ | refine W_skip ?_ | refine W_block ?_ | refine W_ret ?_ | refine W_exit ?_ | refine W_ops (s1 := ?_) (by simp [a197, nextVer, e1]; exact rfl) ?_ | refine W_tops (s1 := ?_) (by simp [a197, nextVer, e1]; exact rfl) ?_ | refine W_cond_t (by first | (simp [a197, nextVer, e1]; done) | fail) ?_ | refine W_cond_f (by first | (simp [a197, nextVer, e1]; done) | fail) ?_ | fail)
  exact fin 0 0 _ (by simp) (by simp) rfl (by simp [giveM, c])
 | true =>
  rw [c] at e1
  cases c3 : storesB o.kind with
  | true =>
   rw [c3] at e4
   repeat' (first | refine W_seq ?_ | refine W_skip ?_ | refine W_block ?_ | refine W_ret ?_ | refine W_exit ?_ | refine W_ops (s1 := ?_) (by simp [a197, nextVer, e1, e4]; exact rfl) ?_ | refine W_tops (s1 := ?_) (by simp [a197, nextVer, e1, e4]; exact rfl) ?_ | refine W_cond_t (by first | (simp [a197, nextVer, e1, e4]; done) | fail) ?_ | refine W_cond_f (by first | (simp [a197, nextVer, e1, e4]; done) | fail) ?_ | fail)
   exact fin 0 0 _ (by simp) (by simp) rfl (by simp [giveM, c, c3])
  | false =>
   rw [c3] at e4
   by_cases k1 : 10 ≤ o.kind
   ·by_cases k2 : o.kind ≤ 12
    ·skip
     repeat' (first | refine W_seq ?_ | refine W_skip ?_ | refine W_block ?_ | refine W_ret ?_ | refine W_exit ?_ | refine W_ops (s1 := ?_) (by simp [a197, nextVer, e1, e4, k1, k2]; exact rfl) ?_ | refine W_tops (s1 := ?_) (by simp [a197, nextVer, e1, e4, k1, k2]; exact rfl) ?_ | refine W_cond_t (by first | (simp [a197, nextVer, e1, e4, k1, k2]; done) | fail) ?_ | refine W_cond_f (by first | (simp [a197, nextVer, e1, e4, k1, k2]; done) | fail) ?_ | fail)
     exact fin 1 1 _ (by simp) (by simp) rfl (by simp [giveM, c, c3, k1, k2])
    ·by_cases k3 : o.kind = 22
     ·rw [k3] at e1 e4
      repeat' (first | refine W_seq ?_ | refine W_skip ?_ | refine W_block ?_ | refine W_ret ?_ | refine W_exit ?_ | refine W_ops (s1 := ?_) (by simp [a197, nextVer, e1, e4, k3]; exact rfl) ?_ | refine W_tops (s1 := ?_) (by simp [a197, nextVer, e1, e4, k3]; exact rfl) ?_ | refine W_cond_t (by first | (simp [a197, nextVer, e1, e4, k3]; done) | fail) ?_ | refine W_cond_f (by first | (simp [a197, nextVer, e1, e4, k3]; done) | fail) ?_ | fail)
      exact fin o.bits 1 _ (by simp) (by simp) rfl (by rw [k3] at c3; simp [giveM, c, c3, k3])
     ·skip
      repeat' (first | refine W_seq ?_ | refine W_skip ?_ | refine W_block ?_ | refine W_ret ?_ | refine W_exit ?_ | refine W_ops (s1 := ?_) (by simp [a197, nextVer, e1, e4, k1, k2, k3]; exact rfl) ?_ | refine W_tops (s1 := ?_) (by simp [a197, nextVer, e1, e4, k1, k2, k3]; exact rfl) ?_ | refine W_cond_t (by first | (simp [a197, nextVer, e1, e4, k1, k2, k3]; done) | fail) ?_ | refine W_cond_f (by first | (simp [a197, nextVer, e1, e4, k1, k2, k3]; done) | fail) ?_ | fail)
      exact fin o.bits o.lanes _ (by simp) (by simp) rfl (by simp [giveM, c, c3, k2, k3])
   ·have k3 : ¬ o.kind = 22 := by omega
    repeat' (first | refine W_seq ?_ | refine W_skip ?_ | refine W_block ?_ | refine W_ret ?_ | refine W_exit ?_ | refine W_ops (s1 := ?_) (by simp [a197, nextVer, e1, e4, k1, k3]; exact rfl) ?_ | refine W_tops (s1 := ?_) (by simp [a197, nextVer, e1, e4, k1, k3]; exact rfl) ?_ | refine W_cond_t (by first | (simp [a197, nextVer, e1, e4, k1, k3]; done) | fail) ?_ | refine W_cond_f (by first | (simp [a197, nextVer, e1, e4, k1, k3]; done) | fail) ?_ | fail)
    exact fin o.bits o.lanes _ (by simp) (by simp) rfl (by simp [giveM, c, c3, k1, k3])

end Go.Proofs.YtpbngohpklpalaaGreat

/- The checker: small parts; whether all looks right by itself. -/
namespace Go.Proofs.YtpbngohpklpalaaGreat
open Go.LS Go.IntWalk
structure Straight where
 ps : List Int
 ret : Int
 ops : List OpD
 arg : Int
def Straight.b (x : Straight) : BlockD := ⟨[], x.ops, 0, x.arg, []⟩
def Straight.f (x : Straight) : FuncD := ⟨x.ps, x.ret, [x.b]⟩
def chkC (f : FuncD) (succ pred tree : List (List V)) (ts tp tt : Tag) (m : Option Nat) : List V :=
 [.lst .ro (f.params.map intC), .int .i64 f.ret, .lst .ro (f.blocks.map BlockD.c), .int .i64 2, .lst ts succ, .lst tp pred, .lst tt tree, .map m]
theorem scalar_run (b : Int) (h : LS.Heap) : callD T 196 [.int .i64 b] h = some (.agg [.int .i64 b, .int .i64 1], h) := by
 refine W_call t196 rfl rfl (by simp) ?_
 show W T c196 _ _
 unfold c196
 repeat' (first | refine W_seq ?_ | refine W_skip ?_ | refine W_block ?_ | refine W_ret ?_ | refine W_exit ?_ | refine W_ops (s1 := ?_) (by simp [a196, nextVer]; exact rfl) ?_ | refine W_tops (s1 := ?_) (by simp [a196, nextVer]; exact rfl) ?_ | refine W_cond_t (by first | (simp [a196, nextVer]; done) | fail) ?_ | refine W_cond_f (by first | (simp [a196, nextVer]; done) | fail) ?_ | fail)
 exact ⟨.inr rfl, _, by simp [a196, resV, resV1]; exact rfl, by simp [a196, packV], by simp, .refl _⟩
def addM (g : Int → Option V) (v : Int) (d : V) : Int → Option V := fun j => if j = v then some d else g j
theorem put_run (c m : Nat) (v : Int) (d1 d2 d3 d4 : Int) (h : LS.Heap) {l1 l2 l3 l4 l5 l6 l7 : V} (hc : h.objs c = some (.var [l1, l2, l3, l4, l5, l6, l7, .map (some m)])) {g : Int → Option V} (hm : h.objs m = some (.map .i64 g)) (hcm : c ≠ m)
  (hg : g v = none) :
  callD T 195 [.obj c 0, .int .i64 v, .agg [.int .i64 d1, .int .i64 d2, .int .i64 d3, .int .i64 d4]] h = some (.bool true, h.set m (.map .i64 (addM g v (.agg [.int .i64 d1, .int .i64 d2, .int .i64 d3, .int .i64 d4])))) := by
 refine W_callH t195 rfl rfl (by simp) ?_
 show W T c195 _ _
 unfold c195
 repeat' (first | refine W_seq ?_ | refine W_skip ?_ | refine W_block ?_ | refine W_ret ?_ | refine W_exit ?_ | refine W_ops (s1 := ?_) (by simp [a195, nextVer, hc, hm, hg]; exact rfl) ?_ | refine W_tops (s1 := ?_) (by simp [a195, nextVer, hc, hm, hg]; exact rfl) ?_ | refine W_cond_t (by first | (simp [a195, nextVer, hc, hm, hg]; done) | fail) ?_ | refine W_cond_f (by first | (simp [a195, nextVer, hc, hm, hg]; done) | fail) ?_ | fail)
 exact ⟨.inr rfl, [.bool true], by simp [a195, resV, resV1], by simp [a195, packV], rfl⟩
theorem of_run (c : Nat) (o : OpD) (ht : TakesOK o) (hl : o.args.length < 2 ^ 40) (h : LS.Heap) {l1 l2 l3 l5 l6 l7 l8 : V} (hc : h.objs c = some (.var [l1, l2, l3, .int .i64 2, l5, l6, l7, l8])) :
  callD T 194 [.obj c 0, .agg o.c] h = some (.bool (mayOp o), h) := by
 have e := kindMay_run o ht hl h
 refine W_callH t194 rfl rfl (by simp) ?_
 show W T c194 _ _
 unfold c194
 rw [opc_eq] at e ⊢
 repeat' (first | refine W_seq ?_ | refine W_skip ?_ | refine W_block ?_ | refine W_ret ?_ | refine W_exit ?_ | refine W_ops (s1 := ?_) (by simp [a194, nextVer, hc, e]; exact rfl) ?_ | refine W_tops (s1 := ?_) (by simp [a194, nextVer, hc, e]; exact rfl) ?_ | refine W_cond_t (by first | (simp [a194, nextVer, hc, e]; done) | fail) ?_ | refine W_cond_f (by first | (simp [a194, nextVer, hc, e]; done) | fail) ?_ | fail)
 exact ⟨.inr rfl, [.bool (mayOp o)], by simp [a194, resV, resV1], by simp [a194, packV], rfl⟩
theorem typedP_run (n : Int) (h : LS.Heap) : callD T 189 [.int .i64 n] h = some (.bool (!widthB n), h) := by
 have e := wordMay_run n h
 refine W_call t189 rfl rfl (by simp) ?_
 show W T c189 _ _
 unfold c189
 repeat' (first | refine W_seq ?_ | refine W_skip ?_ | refine W_block ?_ | refine W_ret ?_ | refine W_exit ?_ | refine W_ops (s1 := ?_) (by simp [a189, e]; exact rfl) ?_ | refine W_tops (s1 := ?_) (by simp [a189, e]; exact rfl) ?_ | refine W_cond_t (by first | (simp [a189, e]; done) | fail) ?_ | refine W_cond_f (by first | (simp [a189, e]; done) | fail) ?_ | fail)
 exact ⟨.inr rfl, [.bool (!widthB n)], by simp [a189, resV, resV1], by simp [a189, packV], rfl, .refl _⟩
theorem typedO_run (c b : Nat) (o : OpD) (ht : TakesOK o) (hl : o.args.length < 2 ^ 40) (h : LS.Heap) (hb : h.objs b = some (.var [.obj c 0])) {l1 l2 l3 l5 l6 l7 l8 : V} (hc : h.objs c = some (.var [l1, l2, l3, .int .i64 2, l5, l6, l7, l8])) :
  callD T 193 [.agg o.c, .obj b 0] h = some (.bool (!mayOp o), h) := by
 have e := of_run c o ht hl h hc
 refine W_call t193 rfl rfl (by simp) ?_
 show W T c193 _ _
 unfold c193
 rw [opc_eq] at e ⊢
 repeat' (first | refine W_seq ?_ | refine W_skip ?_ | refine W_block ?_ | refine W_ret ?_ | refine W_exit ?_ | refine W_ops (s1 := ?_) (by simp [a193, nextVer, hb, e]; exact rfl) ?_ | refine W_tops (s1 := ?_) (by simp [a193, nextVer, hb, e]; exact rfl) ?_ | refine W_cond_t (by first | (simp [a193, nextVer, hb, e]; done) | fail) ?_ | refine W_cond_f (by first | (simp [a193, nextVer, hb, e]; done) | fail) ?_ | fail)
 exact ⟨.inr rfl, [.bool (!mayOp o)], by simp [a193, resV, resV1], by simp [a193, packV], rfl, .refl _⟩
theorem typedPhi_nil (h : LS.Heap) : callD T 190 [.lst .ro [], .fn 191 [] []] h = some (.bool false, h) :=
 Contains_phi PhiD.c ([] : List PhiD) 191 [] (fun _ => false) h .ro (by simp) (fun _ => rfl) rfl rfl (fun x hx => by cases hx)
theorem new_objs_old {h : LS.Heap} {o : AObj} {id : Nat} (hid : id < h.next) : (h.new o).objs id = h.objs id := by simp only [Heap.new, upd]; rw [if_neg (by omega)]
theorem new_objs_new (h : LS.Heap) (o : AObj) : (h.new o).objs h.next = some o := by simp [Heap.new, upd]
theorem typed_run (x : Straight) (c : Nat) (h : LS.Heap) (hcn : c < h.next) {succ pred tree : List (List V)} {ts tp tt : Tag} {m : Option Nat} (hc : h.objs c = some (.var (chkC x.f succ pred tree ts tp tt m)))
  (hfit : x.f.Fit) (hT : ∀ o ∈ x.ops, TakesOK o) (hret : widthB x.ret = true) (hps : ∀ p ∈ x.ps, widthB p = true) (hops : ∀ o ∈ x.ops, mayOp o = true) :
  callD T 168 [.obj c 0] h = some (.int .i64 0, h.new (.var [.obj c 0])) := by
 have hc' : (h.new (.var [.obj c 0])).objs c = some (.var (chkC x.f succ pred tree ts tp tt m)) := by rw [new_objs_old hcn]; exact hc
 have hb := new_objs_new h (.var [.obj c 0])
 have e1 := wordMay_run x.ret (h.new (.var [.obj c 0]))
 rw [hret] at e1
 obtain ⟨f1, f2, f3⟩ := hfit
 obtain ⟨g1, g2, g3, g4, g5⟩ := f3 x.b (by simp [Straight.f])
 have e2 := Contains_int intC x.ps 189 [] (fun n => !widthB n) (h.new (.var [.obj c 0])) .ro (by have : x.ps.length < 2 ^ 40 := f1; omega) (fun _ => rfl) (by simp) rfl (fun n _ => typedP_run n _)
 have a2 : x.ps.any (fun n => !widthB n) = false := by
  rw [List.any_eq_false]; intro p hp; simp [hps p hp]
 rw [a2] at e2
 have e3 := Contains_op OpD.c x.ops 193 [.obj h.next 0] (fun o => !mayOp o) (h.new (.var [.obj c 0])) .ro (by have : x.ops.length < 2 ^ 40 := g2; omega) (fun _ => rfl) (by simp) rfl
  (fun o ho => typedO_run c h.next o (hT o ho) (g5 o ho) _ hb hc')
 have a3 : x.ops.any (fun o => !mayOp o) = false := by
  rw [List.any_eq_false]; intro o ho; simp [hops o ho]
 rw [a3] at e3
 have e4 := typedPhi_nil (h.new (.var [.obj c 0]))
 unfold chkC at hc'
 have hbk : x.f.blocks.map BlockD.c = [[.lst .ro [], .lst .ro (x.ops.map OpD.c), .int .i64 0, .int .i64 x.arg, .lst .ro []]] := rfl
 have hr : x.f.ret = x.ret := rfl
 have hp : x.f.params = x.ps := rfl
 rw [hbk, hr, hp] at hc'
 have w1 : IntKind.i64.wrap 1 = 1 := i64_in _ (by omega)
 refine W_callH t168 rfl rfl (by simp) ?_
 show W T c168 _ _
 unfold c168
 refine W_seq (W_ops (s1 := ?_) (by simp only [r168_0]; simp [a168]; exact rfl) ?_)
 generalize hh : h.new (.var [.obj c 0]) = h1 at *
 refine W_seq (W_seq (W_ops (s1 := ?_) (by simp only [r168_1]; simp [hb, hc', e1, e2]; exact rfl) ?_))
 refine W_cond_f (by simp) (W_skip ?_)
 refine W_seq (W_seq (W_ops (s1 := ?_) (by simp only [r168_3]; simp [hb, hc']; exact rfl) ?_))
 refine W_block (W_loop' l168_0.eq_1 ?_)
 repeat' (first | refine W_seq ?_ | refine W_skip ?_ | refine W_block ?_ | refine W_ret ?_ | refine W_exit ?_ | refine W_ops (s1 := ?_) (by simp [hb, hc', e3, e4, w1]; exact rfl) ?_ | refine W_tops (s1 := ?_) (by simp [hb, hc', e3, e4, w1]; exact rfl) ?_ | refine W_cond_t (by first | (simp [hb, hc', e3, e4, w1]; done) | fail) ?_ | refine W_cond_f (by first | (simp [hb, hc', e3, e4, w1]; done) | fail) ?_ | fail)
 refine W_loop' l168_0.eq_1 ?_
 repeat' (first | refine W_seq ?_ | refine W_skip ?_ | refine W_block ?_ | refine W_ret ?_ | refine W_exit ?_ | refine W_ops (s1 := ?_) (by simp [hb, hc', e3, e4]; exact rfl) ?_ | refine W_tops (s1 := ?_) (by simp [hb, hc', e3, e4]; exact rfl) ?_ | refine W_cond_t (by first | (simp [hb, hc', e3, e4]; done) | fail) ?_ | refine W_cond_f (by first | (simp [hb, hc', e3, e4]; done) | fail) ?_ | fail)
 exact ⟨.inr rfl, [.int .i64 0], by simp [a168, resV, resV1], by simp [a168, packV], rfl⟩

end Go.Proofs.YtpbngohpklpalaaGreat

/- The checker: what is asked of each argument. -/
namespace Go.Proofs.YtpbngohpklpalaaGreat
open Go.LS Go.IntWalk
structure DefD where
 block : Int
 at_ : Int
 bits : Int
 lanes : Int
def DefD.v (d : DefD) : V := .agg [.int .i64 d.block, .int .i64 d.at_, .int .i64 d.bits, .int .i64 d.lanes]
def defsV (D : Int → Option DefD) : Int → Option V := fun j => (D j).map DefD.v
structure Knows (h : LS.Heap) (c bx m : Nat) (D : Int → Option DefD) : Prop where
 box : h.objs bx = some (.var [.obj c 0])
 chk : ∃ l1 l2 l3 l4 l5 l6 l7, h.objs c = some (.var [l1, l2, l3, l4, l5, l6, l7, .map (some m)])
 defs : h.objs m = some (.map .i64 (defsV D))
theorem Knows.ext {h h' : LS.Heap} {c bx m : Nat} {D : Int → Option DefD} (k : Knows h c bx m D) (hx : HExt h h') (h1 : c < h.next) (h2 : bx < h.next) (h3 : m < h.next) : Knows h' c bx m D :=
 ⟨by rw [hx.2 _ h2]; exact k.box, by rw [hx.2 _ h1]; exact k.chk, by rw [hx.2 _ h3]; exact k.defs⟩
theorem definedQ_run {h : LS.Heap} {c bx m : Nat} {D : Int → Option DefD} (k : Knows h c bx m D) {v : Int} {d : DefD} (hd : D v = some d) (s : Int × Int) (b at_ : Int) :
  callD T 199 [.int .i64 v, .agg (shapeC s), .int .i64 b, .int .i64 at_, .obj bx 0] h = some (.int .i64 0, h) := by
 obtain ⟨hb, ⟨l1, l2, l3, l4, l5, l6, l7, hc⟩, hm⟩ := k
 have hg : defsV D v = some (.agg [.int .i64 d.block, .int .i64 d.at_, .int .i64 d.bits, .int .i64 d.lanes]) := by simp [defsV, hd, DefD.v]
 refine W_call t199 rfl rfl (by simp) ?_
 show W T c199 _ _
 unfold c199
 repeat' (first | refine W_seq ?_ | refine W_skip ?_ | refine W_block ?_ | refine W_ret ?_ | refine W_exit ?_ | refine W_ops (s1 := ?_) (by simp [a199, nextVer, shapeC, hb, hc, hm, hg]; exact rfl) ?_ | refine W_tops (s1 := ?_) (by simp [a199, nextVer, shapeC, hb, hc, hm, hg]; exact rfl) ?_ | refine W_cond_t (by first | (simp [a199, nextVer, shapeC, hb, hc, hm, hg]; done) | fail) ?_ | refine W_cond_f (by first | (simp [a199, nextVer, shapeC, hb, hc, hm, hg]; done) | fail) ?_ | fail)
 exact ⟨.inr rfl, [.int .i64 0], by simp [a199, resV, resV1], by simp [a199, packV], rfl, .refl _⟩
theorem shapesQ_run {h : LS.Heap} {c bx m : Nat} {D : Int → Option DefD} (k : Knows h c bx m D) {v : Int} {d : DefD} (hd : D v = some d) (s : Int × Int) (hs : d.bits = s.1 ∧ d.lanes = s.2) (b at_ : Int) :
  callD T 200 [.int .i64 v, .agg (shapeC s), .int .i64 b, .int .i64 at_, .obj bx 0] h = some (.int .i64 0, h) := by
 obtain ⟨hb, ⟨l1, l2, l3, l4, l5, l6, l7, hc⟩, hm⟩ := k
 have hg : defsV D v = some (.agg [.int .i64 d.block, .int .i64 d.at_, .int .i64 d.bits, .int .i64 d.lanes]) := by simp [defsV, hd, DefD.v]
 obtain ⟨s1, s2⟩ := s
 obtain ⟨rfl, rfl⟩ := hs
 refine W_call t200 rfl rfl (by simp) ?_
 show W T c200 _ _
 unfold c200
 repeat' (first | refine W_seq ?_ | refine W_skip ?_ | refine W_block ?_ | refine W_ret ?_ | refine W_exit ?_ | refine W_ops (s1 := ?_) (by simp [a200, nextVer, shapeC, hb, hc, hm, hg]; exact rfl) ?_ | refine W_tops (s1 := ?_) (by simp [a200, nextVer, shapeC, hb, hc, hm, hg]; exact rfl) ?_ | refine W_cond_t (by first | (simp [a200, nextVer, shapeC, hb, hc, hm, hg]; done) | fail) ?_ | refine W_cond_f (by first | (simp [a200, nextVer, shapeC, hb, hc, hm, hg]; done) | fail) ?_ | fail)
 exact ⟨.inr rfl, [.int .i64 0], by simp [a200, resV, resV1], by simp [a200, packV], rfl, .refl _⟩
theorem placesQ_run {h : LS.Heap} {c bx m : Nat} {D : Int → Option DefD} (k : Knows h c bx m D) {v : Int} {d : DefD} (hd : D v = some d) (s : Int × Int) (b at_ : Int) (hp : d.block < 0 ∨ (d.block = b ∧ d.at_ < at_)) :
  callD T 201 [.int .i64 v, .agg (shapeC s), .int .i64 b, .int .i64 at_, .obj bx 0] h = some (.int .i64 0, h) := by
 obtain ⟨hb, ⟨l1, l2, l3, l4, l5, l6, l7, hc⟩, hm⟩ := k
 have hg : defsV D v = some (.agg [.int .i64 d.block, .int .i64 d.at_, .int .i64 d.bits, .int .i64 d.lanes]) := by simp [defsV, hd, DefD.v]
 refine W_call t201 rfl rfl (by simp) ?_
 show W T c201 _ _
 unfold c201
 by_cases h1 : d.block < 0
 ·skip
  repeat' (first | refine W_seq ?_ | refine W_skip ?_ | refine W_block ?_ | refine W_ret ?_ | refine W_exit ?_ | refine W_ops (s1 := ?_) (by simp [a201, nextVer, shapeC, hb, hc, hm, hg, h1]; exact rfl) ?_ | refine W_tops (s1 := ?_) (by simp [a201, nextVer, shapeC, hb, hc, hm, hg, h1]; exact rfl) ?_ | refine W_cond_t (by first | (simp [a201, nextVer, shapeC, hb, hc, hm, hg, h1]; done) | fail) ?_ | refine W_cond_f (by first | (simp [a201, nextVer, shapeC, hb, hc, hm, hg, h1]; done) | fail) ?_ | fail)
  exact ⟨.inr rfl, [.int .i64 0], by simp [a201, resV, resV1], by simp [a201, packV], rfl, .refl _⟩
 ·obtain ⟨h2, h3⟩ := hp.resolve_left h1
  subst h2
  repeat' (first | refine W_seq ?_ | refine W_skip ?_ | refine W_block ?_ | refine W_ret ?_ | refine W_exit ?_ | refine W_ops (s1 := ?_) (by simp [a201, nextVer, shapeC, hb, hc, hm, hg, h1, h3]; exact rfl) ?_ | refine W_tops (s1 := ?_) (by simp [a201, nextVer, shapeC, hb, hc, hm, hg, h1, h3]; exact rfl) ?_ | refine W_cond_t (by first | (simp [a201, nextVer, shapeC, hb, hc, hm, hg, h1, h3]; done) | fail) ?_ | refine W_cond_f (by first | (simp [a201, nextVer, shapeC, hb, hc, hm, hg, h1, h3]; done) | fail) ?_ | fail)
  exact ⟨.inr rfl, [.int .i64 0], by simp [a201, resV, resV1], by simp [a201, packV], rfl, .refl _⟩
def Asks (A : FuncId) (bx : Nat) (h0 : LS.Heap) (v : Int) (s : Int × Int) (at_ : Int) : Prop := ∀ h', HExt h0 h' → callD T A [.int .i64 v, .agg (shapeC s), .int .i64 0, .int .i64 at_, .obj bx 0] h' = some (.int .i64 0, h')
theorem uses_swaps : ordBut r198_25 p198_25 [(0, 2), (0, 3), (0, 4), (0, 5), (2, 7), (3, 7), (4, 7), (5, 7), (6, 7)] = true := by kernel_rfl
theorem uses_swap (call : CallT) : ∀ a i x y, (a, i) ∈ [(0, 2), (0, 3), (0, 4), (0, 5), (2, 7), (3, 7), (4, 7), (5, 7), (6, 7)] → r198_25[a]? = some x → r198_25[i]? = some y → Swap call x y := by
 intro a i x y hm hx hy
 simp only [List.mem_cons, Prod.mk.injEq, List.not_mem_nil, or_false] at hm
 unfold r198_25 at hx hy
 rcases hm with ⟨rfl, rfl⟩ | ⟨rfl, rfl⟩ | ⟨rfl, rfl⟩ | ⟨rfl, rfl⟩ | ⟨rfl, rfl⟩ | ⟨rfl, rfl⟩ | ⟨rfl, rfl⟩ | ⟨rfl, rfl⟩ | ⟨rfl, rfl⟩ <;> (simp only [List.getElem?_cons_zero, List.getElem?_cons_succ, Option.some.injEq] at hx hy; subst hx hy)
 ·exact swap_mkmap_read (.inl rfl) (by decide) (by decide)
 ·exact swap_mkmap_read (.inr (.inl ⟨_, rfl⟩)) (by decide) (by decide)
 ·exact swap_mkmap_read (.inr (.inl ⟨_, rfl⟩)) (by decide) (by decide)
 ·exact swap_mkmap_read (.inr (.inr ⟨_, _, rfl⟩)) (by decide) (by decide)
 ·exact swap_read_mapset (.inl rfl) (by decide) (fun _ _ => rfl)
 ·exact swap_read_mapset (.inr (.inl ⟨_, rfl⟩)) (by decide) (fun _ _ => rfl)
 ·exact swap_read_mapset (.inr (.inl ⟨_, rfl⟩)) (by decide) (fun _ _ => rfl)
 ·exact swap_read_mapset (.inr (.inr ⟨_, _, rfl⟩)) (by decide) (fun _ _ => rfl)
 ·exact swap_mapset_mapset (by decide) (fun _ _ => rfl) (fun _ _ => rfl)

end Go.Proofs.YtpbngohpklpalaaGreat

/- The checker: something is asked of each argument of a straight function. -/
namespace Go.Proofs.YtpbngohpklpalaaGreat
open Go.LS Go.IntWalk
theorem shapes_getElem {l : List (Int × Int)} {j : Nat} (h : j < l.length) : (l.map shapeC)[j]? = some [.int .i64 l[j].1, .int .i64 l[j].2] := by simp [shapeC, h]
theorem uses_run (x : Straight) (c bx : Nat) (A : FuncId) (h : LS.Heap) (hcn : c < h.next) {succ pred tree : List (List V)} {ts tp tt : Tag} {m : Option Nat} (hc : h.objs c = some (.var (chkC x.f succ pred tree ts tp tt m)))
  (hfit : x.f.Fit) (hT : ∀ o ∈ x.ops, TakesOK o) (hret : x.ret ≠ 0)
  (ho : ∀ k (hk : k < x.ops.length) j (hj : j < (takeL x.ops[k]).length), ∃ v, x.ops[k].args[j]? = some v ∧ Asks A bx h v (takeL x.ops[k])[j] k)
  (he : Asks A bx h x.arg (x.ret, 1) 1048576) :
  ∃ h', callD T 198 [.obj c 0, .fn A [] [.obj bx 0]] h = some (.int .i64 0, h') ∧ HExt h h' := by
 obtain ⟨f1, f2, f3⟩ := hfit
 obtain ⟨g1, g2, g3, g4, g5⟩ := f3 x.b (by simp [Straight.f])
 have g2 : x.ops.length < 2 ^ 40 := g2
 unfold chkC at hc
 have hbk : x.f.blocks.map BlockD.c = [[.lst .ro [], .lst .ro (x.ops.map OpD.c), .int .i64 0, .int .i64 x.arg, .lst .ro []]] := rfl
 have hr : x.f.ret = x.ret := rfl
 have hp : x.f.params = x.ps := rfl
 rw [hbk, hr, hp] at hc
 have w1 : IntKind.i64.wrap 1 = 1 := i64_in _ (by omega)
 refine W_callE t198 rfl rfl (by simp) ?_
 show W T c198 _ _
 unfold c198
 refine W_seq (W_ops (s1 := ?_) (by simp only [r198_0]; simp [a198]; exact rfl) ?_)
 refine W_scope (W_seq (W_ops (s1 := ?_) (by simp only [r198_1]; simp; exact rfl) ?_))
 refine W_seq (W_seq (W_ops (s1 := ?_) (by simp only [r198_2]; simp [hc]; exact rfl) ?_))
 refine W_block (W_loop' l198_0.eq_1 ?_)
 refine W_seq (W_ops (s1 := ?_) (by simp only [r198_3]; simp; exact rfl) ?_)
 refine W_seq (W_cond_t (by simp) (W_skip ?_))
 refine W_seq (W_block (W_seq (W_ops (s1 := ?_) (by simp only [r198_4]; simp [nextVer]; exact rfl) ?_)))
 -- no phis
 refine W_seq (W_seq (W_ops (s1 := ?_) (by simp only [r198_5]; simp; exact rfl) ?_))
 refine W_block (W_loop' l198_1.eq_1 ?_)
 refine W_seq (W_ops (s1 := ?_) (by simp only [r198_6]; simp; exact rfl) ?_)
 refine W_seq (W_cond_f (by simp) (W_exit ?_))
 -- operations
 refine W_seq (W_seq (W_ops (s1 := ?_) (by simp only [r198_15]; simp; exact rfl) ?_))
 refine W_block (W_for' l198_3.eq_1 (n := x.ops.length) (fun i s => s.t 0 = .obj c 0 ∧ s.t 1 = .fn A [] [.obj bx 0] ∧ s.t 5 = .int .i64 0 ∧ s.t 6 = .int .i64 0 ∧ s.t 7 = .loc 7 0 0 ∧ s.loc 7 = some (0, [.lst .ro [], .lst .ro (x.ops.map OpD.c), .int .i64 0, .int .i64 x.arg, .lst .ro []]) ∧
  s.t 22 = .int .i64 1 ∧ s.t 23 = .int .i64 0 ∧ s.t 59 = .lst .ro (x.ops.map OpD.c) ∧ s.t 60 = .int .i64 x.ops.length ∧ s.t 61 = .int .i64 i ∧ s.h = h) ⟨by simp, by simp, by simp, by simp, by simp, by simp, by simp, by simp, by simp, by simp, by simp, rfl⟩ ?_ ?_)
 ·rintro i ⟨t, loc, h'⟩ hi ⟨t0, t1, t5, t6, t7, l7, t22, t23, t59, t60, t61, hh⟩
  simp only at t0 t1 t5 t6 t7 l7 t22 t23 t59 t60 t61 hh
  subst hh
  have hl1 : ((i : Int) < x.ops.length) := by omega
  have hw := i64_succ (show i < 2 ^ 62 by omega)
  have hE := opc_eq x.ops[i]
  have eT := Takes_run x.ops[i] (hT _ (List.getElem_mem hi)) (g5 _ (List.getElem_mem hi)) h'
  rw [hE] at eT
  have htl : (takeL x.ops[i]).length < 2 ^ 40 := by
   have h1 : x.ops[i].args.length < 2 ^ 40 := g5 _ (List.getElem_mem hi)
   rcases Nat.lt_or_ge (x.ops[i].args.length) (takeL x.ops[i]).length with h2 | h2
   ·obtain ⟨v, h3, _⟩ := ho i hi _ h2
    have := (List.getElem?_eq_some_iff.1 h3).1
    omega
   ·omega
  refine W_seq (W_ops (s1 := ?_) (by simp only [r198_16]; simp [t60, t61, hl1, hi]; exact rfl) ?_)
  refine W_seq (W_cond_t (by simp) (W_skip ?_))
  refine W_seq (W_block (W_seq (W_ops (s1 := ?_) (by simp only [r198_17]; simp [t59, t60, t61, hi, hE]; exact rfl) ?_)))
  refine W_seq (W_ops (s1 := ?_) (by simp only [r198_18]; simp [eT]; exact rfl) ?_)
  generalize hver : nextVer loc 13 = ver
  refine W_block (W_for' l198_4.eq_1 (n := (takeL x.ops[i]).length) (fun j s => s.t 0 = .obj c 0 ∧ s.t 1 = .fn A [] [.obj bx 0] ∧ s.t 5 = .int .i64 0 ∧ s.t 6 = .int .i64 0 ∧ s.t 7 = .loc 7 0 0 ∧ s.loc 7 = some (0, [.lst .ro [], .lst .ro (x.ops.map OpD.c), .int .i64 0, .int .i64 x.arg, .lst .ro []]) ∧
   s.t 22 = .int .i64 1 ∧ s.t 23 = .int .i64 0 ∧ s.t 59 = .lst .ro (x.ops.map OpD.c) ∧ s.t 60 = .int .i64 x.ops.length ∧ s.t 61 = .int .i64 i ∧ s.t 12 = .int .i64 i ∧ s.t 13 = .loc 13 ver 0 ∧ s.loc 13 = some (ver, [.int .i64 x.ops[i].kind, .int .i64 x.ops[i].bits, .int .i64 x.ops[i].lanes, .int .i64 x.ops[i].dst, .lst .ro (x.ops[i].args.map intC), .int .u64 x.ops[i].imm]) ∧
   s.t 67 = .lst .ro ((takeL x.ops[i]).map shapeC) ∧ s.t 68 = .int .i64 (takeL x.ops[i]).length ∧ s.t 69 = .int .i64 j ∧ s.h = h') ⟨by simp [t0], by simp [t1], by simp [t5], by simp [t6], by simp [t7], by simp [l7], by simp [t22], by simp [t23], by simp [t59], by simp [t60], by simp [t61], by simp, by simp, by simp, by simp, by simp, by simp, rfl⟩ ?_ ?_)
  ·clear t0 t1 t5 t6 t7 l7 t22 t23 t59 t60 t61 hver
   rintro j ⟨t, loc, h2⟩ hj ⟨t0, t1, t5, t6, t7, l7, t22, t23, t59, t60, t61, t12, t13, l13, t67, t68, t69, hh⟩
   simp only at t0 t1 t5 t6 t7 l7 t22 t23 t59 t60 t61 t12 t13 l13 t67 t68 t69 hh
   subst hh
   obtain ⟨v, ha, hq⟩ := ho i hi j hj
   have hq := hq h2 (.refl h2)
   have hl2 : ((j : Int) < (takeL x.ops[i]).length) := by omega
   have hw2 := i64_succ (show j < 2 ^ 62 by omega)
   obtain ⟨hjl, ha⟩ := List.getElem?_eq_some_iff.1 ha
   have hSh : shapeC (takeL x.ops[i])[j] = [.int .i64 (takeL x.ops[i])[j].1, .int .i64 (takeL x.ops[i])[j].2] := rfl
   rw [hSh] at hq
   have hIn : intC x.ops[i].args[j] = [.int .i64 v] := by rw [ha]; rfl
   repeat' (first | refine W_seq ?_ | refine W_skip ?_ | refine W_block ?_ | refine W_ret ?_ | refine W_exit ?_ | refine W_ops (s1 := ?_) (by simp [t0, t1, t5, t6, t7, l7, t12, t13, l13, t67, t68, t69, hl2, hj, hSh, hjl, hIn, hq, hw2]; exact rfl) ?_ | refine W_tops (s1 := ?_) (by simp [t0, t1, t5, t6, t7, l7, t12, t13, l13, t67, t68, t69, hl2, hj, hSh, hjl, hIn, hq, hw2]; exact rfl) ?_ | refine W_cond_t (by first | (simp [t0, t1, t5, t6, t7, l7, t12, t13, l13, t67, t68, t69, hl2, hj, hSh, hjl, hIn, hq, hw2]; done) | fail) ?_ | refine W_cond_f (by first | (simp [t0, t1, t5, t6, t7, l7, t12, t13, l13, t67, t68, t69, hl2, hj, hSh, hjl, hIn, hq, hw2]; done) | fail) ?_ | fail)
   exact .inl ⟨rfl, by simp [t0], by simp [t1], by simp, by simp [t6], by simp [t7], by simp [l7], by simp [t22], by simp [t23], by simp [t59], by simp [t60], by simp [t61], by simp [t12], by simp [t13], by simp [l13], by simp [t67], by simp [t68], by simp, rfl⟩
  ·clear t0 t1 t5 t6 t7 l7 t22 t23 t59 t60 t61 hver
   rintro ⟨t, loc, h2⟩ ⟨t0, t1, t5, t6, t7, l7, t22, t23, t59, t60, t61, t12, t13, l13, t67, t68, t69, hh⟩
   simp only at t0 t1 t5 t6 t7 l7 t22 t23 t59 t60 t61 t12 t13 l13 t67 t68 t69 hh
   subst hh
   repeat' (first | refine W_seq ?_ | refine W_skip ?_ | refine W_block ?_ | refine W_ret ?_ | refine W_exit ?_ | refine W_ops (s1 := ?_) (by simp [t68, t69]; exact rfl) ?_ | refine W_tops (s1 := ?_) (by simp [t68, t69]; exact rfl) ?_ | refine W_cond_t (by first | (simp [t68, t69]; done) | fail) ?_ | refine W_cond_f (by first | (simp [t68, t69]; done) | fail) ?_ | fail)
   refine ⟨by simp, ?_⟩
   repeat' (first | refine W_seq ?_ | refine W_skip ?_ | refine W_block ?_ | refine W_ret ?_ | refine W_exit ?_ | refine W_ops (s1 := ?_) (by simp [t61, hw]; exact rfl) ?_ | refine W_tops (s1 := ?_) (by simp [t61, hw]; exact rfl) ?_ | refine W_cond_t (by first | (simp [t61, hw]; done) | fail) ?_ | refine W_cond_f (by first | (simp [t61, hw]; done) | fail) ?_ | fail)
   exact .inl ⟨rfl, by simp [t0], by simp [t1], by simp [t5], by simp [t6], by simp [t7], by simp [l7], by simp [t22], by simp [t23], by simp [t59], by simp [t60], by simp, rfl⟩
 ·rintro ⟨t, loc, h'⟩ ⟨t0, t1, t5, t6, t7, l7, t22, t23, t59, t60, t61, hh⟩
  simp only at t0 t1 t5 t6 t7 l7 t22 t23 t59 t60 t61 hh
  subst hh
  refine W_seq (W_ops (s1 := ?_) (by simp only [r198_16]; simp [t60, t61]; exact rfl) ?_)
  refine W_seq (W_cond_f (by simp) (W_exit ?_))
  refine ⟨by simp, ?_⟩
  have hne : c ≠ h'.next := by omega
  refine W_seq (W_dops_swap uses_swaps (uses_swap _) (s1 := ?_) (by simp only [r198_25]; simp [t0, t7, l7, Heap.new, Heap.set, upd, hne, hc]; exact rfl) ?_)
  generalize hH : LS.Heap.mk _ _ = h2
  have hx : HExt h' h2 := by
   rw [← hH]
   refine ⟨by simp, fun id hid => ?_⟩
   have hid' : id ≠ h'.next := by omega
   simp [upd, hid']
  have he := he h2 hx
  simp only [shapeC] at he
  have es := scalar_run x.ret h2
  repeat' (first | refine W_seq ?_ | refine W_skip ?_ | refine W_block ?_ | refine W_ret ?_ | refine W_exit ?_ | refine W_ops (s1 := ?_) (by simp [t1, t6, t7, l7, t23, hret, es, he, w1]; exact rfl) ?_ | refine W_tops (s1 := ?_) (by simp [t1, t6, t7, l7, t23, hret, es, he, w1]; exact rfl) ?_ | refine W_cond_t (by first | (simp [t1, t6, t7, l7, t23, hret, es, he, w1]; done) | fail) ?_ | refine W_cond_f (by first | (simp [t1, t6, t7, l7, t23, hret, es, he, w1]; done) | fail) ?_ | fail)
  refine W_loop' l198_0.eq_1 ?_
  repeat' (first | refine W_seq ?_ | refine W_skip ?_ | refine W_block ?_ | refine W_ret ?_ | refine W_exit ?_ | refine W_ops (s1 := ?_) (by simp [t22, w1]; exact rfl) ?_ | refine W_tops (s1 := ?_) (by simp [t22, w1]; exact rfl) ?_ | refine W_cond_t (by first | (simp [t22, w1]; done) | fail) ?_ | refine W_cond_f (by first | (simp [t22, w1]; done) | fail) ?_ | fail)
  refine W_label ?_
  repeat' (first | refine W_seq ?_ | refine W_skip ?_ | refine W_block ?_ | refine W_ret ?_ | refine W_exit ?_ | refine W_ops (s1 := ?_) (by simp; exact rfl) ?_ | refine W_tops (s1 := ?_) (by simp; exact rfl) ?_ | refine W_cond_t (by first | (simp; done) | fail) ?_ | refine W_cond_f (by first | (simp; done) | fail) ?_ | fail)
  exact ⟨by simp, .inr rfl, [.int .i64 0], by simp [a198, resV, resV1], by simp [a198, packV], hx⟩

end Go.Proofs.YtpbngohpklpalaaGreat

/- The checker: each value of a straight function is defined once. -/
namespace Go.Proofs.YtpbngohpklpalaaGreat
open Go.LS Go.IntWalk
def Dp (ps : List Int) : Nat → Int → Option DefD
 | 0 => fun _ => none
 | i + 1 => fun j => if j = (i : Int) + 1 then some ⟨-1, 0, ps.getD i 0, 1⟩ else Dp ps i j
def Do (x : Straight) : Nat → Int → Option DefD
 | 0 => Dp x.ps x.ps.length
 | k + 1 => match x.ops[k]? with
  | some o => if 0 < (giveM o).1 then fun j => if j = o.dst then some ⟨0, k, (giveM o).1, (giveM o).2⟩ else Do x k j else Do x k
  | none => Do x k
def Straight.D (x : Straight) : Int → Option DefD := Do x x.ops.length
theorem Dp_none (ps : List Int) : ∀ (i : Nat) (j : Int), (i : Int) < j → Dp ps i j = none
 | 0, _, _ => rfl
 | i + 1, j, h => by
  simp only [Dp]
  rw [if_neg (by omega)]
  exact Dp_none ps i j (by omega)
theorem defsV_add (D : Int → Option DefD) (v : Int) (d : DefD) : defsV (fun j => if j = v then some d else D j) = addM (defsV D) v d.v := by
 funext j
 simp only [defsV, addM]
 split <;> rfl
theorem defined_swaps : ordBut r169_5 p169_5 [(0, 4)] = true := by kernel_rfl
theorem defined_swap : ∀ a i x y, (a, i) ∈ [(0, 4)] → r169_5[a]? = some x → r169_5[i]? = some y → Swap (callD T) x y := by
 intro a i x y hm hx hy
 simp only [List.mem_cons, Prod.mk.injEq, List.not_mem_nil, or_false] at hm
 unfold r169_5 at hx hy
 obtain ⟨rfl, rfl⟩ := hm
 simp only [List.getElem?_cons_zero, List.getElem?_cons_succ, Option.some.injEq] at hx hy
 subst hx hy
 exact swap_read_call (.inr (.inr ⟨_, _, rfl⟩)) t196 rfl rfl (by decide) (by decide) (fun _ _ => rfl)
structure Laying (x : Straight) (h0 h : LS.Heap) (c : Nat) (succ pred tree : List (List V)) (ts tp tt : Tag) (D : Int → Option DefD) : Prop where
 next : h.next = h0.next + 2
 box : h.objs h0.next = some (.var [.obj c 0])
 chk : h.objs c = some (.var (chkC x.f succ pred tree ts tp tt (some (h0.next + 1))))
 defs : h.objs (h0.next + 1) = some (.map .i64 (defsV D))
 old : ∀ id, id < h0.next → id ≠ c → h.objs id = h0.objs id
theorem Laying.put {x : Straight} {h0 h : LS.Heap} {c : Nat} {succ pred tree : List (List V)} {ts tp tt : Tag} {D : Int → Option DefD} (L : Laying x h0 h c succ pred tree ts tp tt D) (hcn : c < h0.next) (v : Int) (d : DefD) (hv : D v = none) :
  callD T 195 [.obj c 0, .int .i64 v, .agg [.int .i64 d.block, .int .i64 d.at_, .int .i64 d.bits, .int .i64 d.lanes]] h = some (.bool true, h.set (h0.next + 1) (.map .i64 (addM (defsV D) v d.v))) ∧
  Laying x h0 (h.set (h0.next + 1) (.map .i64 (addM (defsV D) v d.v))) c succ pred tree ts tp tt (fun j => if j = v then some d else D j) := by
 obtain ⟨l1, l2, l3, l4, l5⟩ := L
 refine ⟨put_run c (h0.next + 1) v d.block d.at_ d.bits d.lanes h l3 l4 (by omega) (by simp [defsV, hv]), l1, ?_, ?_, ?_, fun id h1 h2 => ?_⟩
 ·simp only [Heap.set, upd]; rw [if_neg (by omega)]; exact l2
 ·simp only [Heap.set, upd]; rw [if_neg (by omega)]; exact l3
 ·simp only [Heap.set, upd, if_true]; rw [defsV_add]
 ·simp only [Heap.set, upd]; rw [if_neg (by omega)]; exact l5 id h1 h2
theorem defined_run (x : Straight) (c : Nat) (h : LS.Heap) (hcn : c < h.next) {succ pred tree : List (List V)} {ts tp tt : Tag} {m : Option Nat} (hc : h.objs c = some (.var (chkC x.f succ pred tree ts tp tt m)))
  (hfit : x.f.Fit) (hT : ∀ o ∈ x.ops, TakesOK o) (hret : x.ret ≠ 0) (honce : ∀ k (hk : k < x.ops.length), 0 < (giveM x.ops[k]).1 → Do x k x.ops[k].dst = none)
  (ho : ∀ k (hk : k < x.ops.length) j (hj : j < (takeL x.ops[k]).length), ∃ v d, x.ops[k].args[j]? = some v ∧ x.D v = some d) (he : ∃ d, x.D x.arg = some d) :
  ∃ h', callD T 169 [.obj c 0] h = some (.int .i64 0, h') ∧ h.next + 2 ≤ h'.next ∧ h'.objs c = some (.var (chkC x.f succ pred tree ts tp tt (some (h.next + 1)))) ∧ h'.objs (h.next + 1) = some (.map .i64 (defsV x.D)) ∧
   ∀ id, id < h.next → id ≠ c → h'.objs id = h.objs id := by
 have hfit' := hfit
 obtain ⟨f1, f2, f3⟩ := hfit
 obtain ⟨g1, g2, g3, g4, g5⟩ := f3 x.b (by simp [Straight.f])
 have g2 : x.ops.length < 2 ^ 40 := g2
 have f1 : x.ps.length < 2 ^ 40 := f1
 have hbk : x.f.blocks.map BlockD.c = [[.lst .ro [], .lst .ro (x.ops.map OpD.c), .int .i64 0, .int .i64 x.arg, .lst .ro []]] := rfl
 have hr : x.f.ret = x.ret := rfl
 have hp : x.f.params = x.ps := rfl
 have hcC : ∀ m, chkC x.f succ pred tree ts tp tt m = [.lst .ro (x.ps.map intC), .int .i64 x.ret, .lst .ro [[.lst .ro [], .lst .ro (x.ops.map OpD.c), .int .i64 0, .int .i64 x.arg, .lst .ro []]], .int .i64 2, .lst ts succ, .lst tp pred, .lst tt tree, .map m] := fun m => rfl
 have w1 : IntKind.i64.wrap 1 = 1 := i64_in _ (by omega)
 have hne1 : c ≠ h.next := by omega
 have hne2 : c ≠ h.next + 1 := by omega
 rw [hcC] at hc
 refine W_callE t169 rfl rfl (by simp) ?_
 show W T c169 _ _
 unfold c169
 refine W_seq (W_ops (s1 := ?_) (by simp only [r169_0]; simp [a169, Heap.new]; exact rfl) ?_)
 refine W_seq (W_ops (s1 := ?_) (by simp only [r169_1]; simp [Heap.new, Heap.set, hne1, hne2, hc]; exact rfl) ?_)
 generalize hH : LS.Heap.mk _ _ = h1
 have L0 : Laying x h h1 c succ pred tree ts tp tt (Dp x.ps 0) := by
  rw [← hH]
  refine ⟨by simp, ?_, ?_, ?_, fun id h1 h2 => ?_⟩
  ·simp [upd, Ne.symm hne1]
  ·simp [upd, hcC]
  ·simp [upd, Ne.symm hne2]; rfl
  ·have q1 : id ≠ h.next := by omega
   have q2 : id ≠ h.next + 1 := by omega
   simp [upd, h2, q1, q2]
 clear hH hc
 -- parameters
 have hc0 := L0.chk
 rw [hcC] at hc0
 have hb0 := L0.box
 refine W_seq (W_seq (W_ops (s1 := ?_) (by simp only [r169_2]; simp [hb0, hc0]; exact rfl) ?_))
 refine W_block (W_for' l169_0.eq_1 (n := x.ps.length) (fun i s => s.t 1 = .obj h.next 0 ∧ s.t 21 = .lst .ro (x.ps.map intC) ∧ s.t 22 = .int .i64 x.ps.length ∧ s.t 23 = .int .i64 i ∧ Laying x h s.h c succ pred tree ts tp tt (Dp x.ps i)) ⟨by simp, by simp, by simp, by simp, L0⟩ ?_ ?_)
 ·rintro i ⟨t, loc, h2⟩ hi ⟨t1, t21, t22, t23, L⟩
  simp only at t1 t21 t22 t23 L
  have hl1 : ((i : Int) < x.ps.length) := by omega
  have hw := i64_succ (show i < 2 ^ 62 by omega)
  have hE : intC x.ps[i] = [.int .i64 x.ps[i]] := rfl
  have hb := L.box
  have es := scalar_run x.ps[i] h2
  obtain ⟨p1, p2⟩ := L.put hcn ((i : Int) + 1) ⟨-1, 0, x.ps[i], 1⟩ (Dp_none _ _ _ (by omega))
  simp only at p1
  have hD : Dp x.ps (i + 1) = fun j => if j = (i : Int) + 1 then some ⟨-1, 0, x.ps[i], 1⟩ else Dp x.ps i j := by
   funext j
   simp [Dp, hi]
  rw [← hD] at p2
  refine W_seq (W_ops (s1 := ?_) (by simp only [r169_3]; simp [t22, t23, hl1, hi]; exact rfl) ?_)
  refine W_seq (W_cond_t (by simp) (W_skip ?_))
  refine W_seq (W_block (W_seq (W_ops (s1 := ?_) (by simp only [r169_4]; simp [t21, t23, hi, hE]; exact rfl) ?_)))
  refine W_dops_swap defined_swaps defined_swap (s1 := ?_) (by simp only [r169_5]; simp [t1, hb, es, hw, p1]; exact rfl) ?_
  repeat' (first | refine W_seq ?_ | refine W_skip ?_ | refine W_block ?_ | refine W_ret ?_ | refine W_exit ?_ | refine W_ops (s1 := ?_) (by simp [t23, hw]; exact rfl) ?_ | refine W_tops (s1 := ?_) (by simp [t23, hw]; exact rfl) ?_ | refine W_cond_t (by first | (simp [t23, hw]; done) | fail) ?_ | refine W_cond_f (by first | (simp [t23, hw]; done) | fail) ?_ | fail)
  exact .inl ⟨rfl, by simp [t1], by simp [t21], by simp [t22], by simp, p2⟩
 ·rintro ⟨t, loc, h2⟩ ⟨t1, t21, t22, t23, L⟩
  simp only at t1 t21 t22 t23 L
  repeat' (first | refine W_seq ?_ | refine W_skip ?_ | refine W_block ?_ | refine W_ret ?_ | refine W_exit ?_ | refine W_ops (s1 := ?_) (by simp [t22, t23]; exact rfl) ?_ | refine W_tops (s1 := ?_) (by simp [t22, t23]; exact rfl) ?_ | refine W_cond_t (by first | (simp [t22, t23]; done) | fail) ?_ | refine W_cond_f (by first | (simp [t22, t23]; done) | fail) ?_ | fail)
  refine ⟨by simp, ?_⟩
  have hc1 := L.chk
  rw [hcC] at hc1
  have hb1 := L.box
  -- the block
  refine W_seq (W_seq (W_ops (s1 := ?_) (by simp only [r169_7]; simp [t1, hb1, hc1]; exact rfl) ?_))
  refine W_block (W_loop' l169_1.eq_1 ?_)
  refine W_seq (W_ops (s1 := ?_) (by simp only [r169_8]; simp; exact rfl) ?_)
  refine W_seq (W_cond_t (by simp) (W_skip ?_))
  refine W_seq (W_block (W_seq (W_ops (s1 := ?_) (by simp only [r169_9]; simp; exact rfl) ?_)))
  refine W_seq (W_seq (W_ops (s1 := ?_) (by simp only [r169_10]; simp; exact rfl) ?_))
  refine W_block (W_loop' l169_2.eq_1 ?_)
  refine W_seq (W_ops (s1 := ?_) (by simp only [r169_11]; simp; exact rfl) ?_)
  refine W_seq (W_cond_f (by simp) (W_exit ?_))
  refine W_seq (W_ops (s1 := ?_) (by simp only [r169_16]; simp; exact rfl) ?_)
  refine W_block (W_for' l169_3.eq_1 (n := x.ops.length) (fun i s => s.t 1 = .obj h.next 0 ∧ s.t 5 = .int .i64 0 ∧ s.t 41 = .int .i64 1 ∧ s.t 42 = .int .i64 0 ∧ s.t 76 = .lst .ro (x.ops.map OpD.c) ∧ s.t 77 = .int .i64 x.ops.length ∧ s.t 78 = .int .i64 i ∧ Laying x h s.h c succ pred tree ts tp tt (Do x i)) ⟨by simp [t1], by simp, by simp, by simp, by simp, by simp, by simp, L⟩ ?_ ?_)
  ·clear t1 t21 t22 t23 L hc1 hb1
   rintro i ⟨t, loc, h2⟩ hi ⟨t1, t5, t41, t42, t76, t77, t78, L⟩
   simp only at t1 t5 t41 t42 t76 t77 t78 L
   have hl1 : ((i : Int) < x.ops.length) := by omega
   have hw := i64_succ (show i < 2 ^ 62 by omega)
   have hE := opc_eq x.ops[i]
   have eG := Gives_run x.ops[i] (hT _ (List.getElem_mem hi)) (g5 _ (List.getElem_mem hi)) h2
   rw [hE] at eG
   have hb := L.box
   by_cases hg : 0 < (giveM x.ops[i]).1
   ·obtain ⟨p1, p2⟩ := L.put hcn x.ops[i].dst ⟨0, i, (giveM x.ops[i]).1, (giveM x.ops[i]).2⟩ (honce i hi hg)
    simp only at p1
    have hD : Do x (i + 1) = fun j => if j = x.ops[i].dst then some ⟨0, i, (giveM x.ops[i]).1, (giveM x.ops[i]).2⟩ else Do x i j := by
     simp [Do, hi, hg]
    rw [← hD] at p2
    repeat' (first | refine W_seq ?_ | refine W_skip ?_ | refine W_block ?_ | refine W_ret ?_ | refine W_exit ?_ | refine W_ops (s1 := ?_) (by simp [t1, t5, t76, t77, t78, hl1, hi, hE, eG, hg, hb, p1, hw]; exact rfl) ?_ | refine W_tops (s1 := ?_) (by simp [t1, t5, t76, t77, t78, hl1, hi, hE, eG, hg, hb, p1, hw]; exact rfl) ?_ | refine W_cond_t (by first | (simp [t1, t5, t76, t77, t78, hl1, hi, hE, eG, hg, hb, p1, hw]; done) | fail) ?_ | refine W_cond_f (by first | (simp [t1, t5, t76, t77, t78, hl1, hi, hE, eG, hg, hb, p1, hw]; done) | fail) ?_ | fail)
    exact .inl ⟨rfl, by simp [t1], by simp [t5], by simp [t41], by simp [t42], by simp [t76], by simp [t77], by simp, p2⟩
   ·have hD : Do x (i + 1) = Do x i := by simp [Do, hi, hg]
    repeat' (first | refine W_seq ?_ | refine W_skip ?_ | refine W_block ?_ | refine W_ret ?_ | refine W_exit ?_ | refine W_ops (s1 := ?_) (by simp [t1, t5, t76, t77, t78, hl1, hi, hE, eG, hg, hw]; exact rfl) ?_ | refine W_tops (s1 := ?_) (by simp [t1, t5, t76, t77, t78, hl1, hi, hE, eG, hg, hw]; exact rfl) ?_ | refine W_cond_t (by first | (simp [t1, t5, t76, t77, t78, hl1, hi, hE, eG, hg, hw]; done) | fail) ?_ | refine W_cond_f (by first | (simp [t1, t5, t76, t77, t78, hl1, hi, hE, eG, hg, hw]; done) | fail) ?_ | fail)
    exact .inl ⟨rfl, by simp [t1], by simp [t5], by simp [t41], by simp [t42], by simp [t76], by simp [t77], by simp, by rw [hD]; exact L⟩
  ·clear t1 t21 t22 t23 L hc1 hb1
   rintro ⟨t, loc, h2⟩ ⟨t1, t5, t41, t42, t76, t77, t78, L⟩
   simp only at t1 t5 t41 t42 t76 t77 t78 L
   repeat' (first | refine W_seq ?_ | refine W_skip ?_ | refine W_block ?_ | refine W_ret ?_ | refine W_exit ?_ | refine W_ops (s1 := ?_) (by simp [t77, t78]; exact rfl) ?_ | refine W_tops (s1 := ?_) (by simp [t77, t78]; exact rfl) ?_ | refine W_cond_t (by first | (simp [t77, t78]; done) | fail) ?_ | refine W_cond_f (by first | (simp [t77, t78]; done) | fail) ?_ | fail)
   refine ⟨by simp, ?_⟩
   repeat' (first | refine W_seq ?_ | refine W_skip ?_ | refine W_block ?_ | refine W_ret ?_ | refine W_exit ?_ | refine W_ops (s1 := ?_) (by simp [t42, w1]; exact rfl) ?_ | refine W_tops (s1 := ?_) (by simp [t42, w1]; exact rfl) ?_ | refine W_cond_t (by first | (simp [t42, w1]; done) | fail) ?_ | refine W_cond_f (by first | (simp [t42, w1]; done) | fail) ?_ | fail)
   refine W_loop' l169_1.eq_1 ?_
   repeat' (first | refine W_seq ?_ | refine W_skip ?_ | refine W_block ?_ | refine W_ret ?_ | refine W_exit ?_ | refine W_ops (s1 := ?_) (by simp [t41, w1]; exact rfl) ?_ | refine W_tops (s1 := ?_) (by simp [t41, w1]; exact rfl) ?_ | refine W_cond_t (by first | (simp [t41, w1]; done) | fail) ?_ | refine W_cond_f (by first | (simp [t41, w1]; done) | fail) ?_ | fail)
   have kn : Knows h2 c h.next (h.next + 1) x.D := ⟨L.box, ⟨_, _, _, _, _, _, _, L.chk⟩, L.defs⟩
   have hn := L.next
   obtain ⟨d, hd⟩ := he
   obtain ⟨h3, u1, u2⟩ := uses_run x c h.next 199 h2 (by omega) L.chk hfit' hT hret
    (fun k hk j hj => by
     obtain ⟨v, d, q1, q2⟩ := ho k hk j hj
     exact ⟨v, q1, fun h' hx => definedQ_run (kn.ext hx (by omega) (by omega) (by omega)) q2 _ _ _⟩)
    (fun h' hx => definedQ_run (kn.ext hx (by omega) (by omega) (by omega)) hd _ _ _)
   have hb := L.box
   repeat' (first | refine W_seq ?_ | refine W_skip ?_ | refine W_block ?_ | refine W_ret ?_ | refine W_exit ?_ | refine W_ops (s1 := ?_) (by simp [t1, hb, u1]; exact rfl) ?_ | refine W_tops (s1 := ?_) (by simp [t1, hb, u1]; exact rfl) ?_ | refine W_cond_t (by first | (simp [t1, hb, u1]; done) | fail) ?_ | refine W_cond_f (by first | (simp [t1, hb, u1]; done) | fail) ?_ | fail)
   refine ⟨.inr rfl, [.int .i64 0], by simp [a169, resV, resV1], by simp [a169, packV], ?_, ?_, ?_, fun id h4 h5 => ?_⟩
   ·have := u2.1; simp only; omega
   ·simp only; rw [u2.2 _ (by omega)]; exact L.chk
   ·simp only; rw [u2.2 _ (by omega)]; exact L.defs
   ·simp only; rw [u2.2 _ (by omega)]; exact L.old id h4 h5

end Go.Proofs.YtpbngohpklpalaaGreat

/- The checker: each argument of a straight function has the shape that is taken, and is defined where it is used. -/
namespace Go.Proofs.YtpbngohpklpalaaGreat
open Go.LS Go.IntWalk
theorem shapes_run (x : Straight) (c m : Nat) (h : LS.Heap) (hcn : c < h.next) (hmn : m < h.next) {succ pred tree : List (List V)} {ts tp tt : Tag} (hc : h.objs c = some (.var (chkC x.f succ pred tree ts tp tt (some m)))) (hm : h.objs m = some (.map .i64 (defsV x.D)))
  (hfit : x.f.Fit) (hT : ∀ o ∈ x.ops, TakesOK o) (hret : x.ret ≠ 0)
  (ho : ∀ k (hk : k < x.ops.length) j (hj : j < (takeL x.ops[k]).length), ∃ v d, x.ops[k].args[j]? = some v ∧ x.D v = some d ∧ (d.bits = (takeL x.ops[k])[j].1 ∧ d.lanes = (takeL x.ops[k])[j].2)) (he : ∃ d, x.D x.arg = some d ∧ (d.bits = x.ret ∧ d.lanes = 1)) :
  ∃ h', callD T 170 [.obj c 0] h = some (.int .i64 0, h') ∧ HExt h h' := by
 have hc1 : (h.new (.var [.obj c 0])).objs c = some (.var (chkC x.f succ pred tree ts tp tt (some m))) := by rw [new_objs_old hcn]; exact hc
 have kn : Knows (h.new (.var [.obj c 0])) c h.next m x.D := ⟨new_objs_new _ _, ⟨_, _, _, _, _, _, _, hc1⟩, by rw [new_objs_old hmn]; exact hm⟩
 have hn : (h.new (.var [.obj c 0])).next = h.next + 1 := rfl
 obtain ⟨d, hd, hd2⟩ := he
 obtain ⟨h3, u1, u2⟩ := uses_run x c h.next 200 (h.new (.var [.obj c 0])) (by omega) hc1 hfit hT hret
  (fun k hk j hj => by
   obtain ⟨v, d, q1, q2, q3⟩ := ho k hk j hj
   exact ⟨v, q1, fun h' hx => shapesQ_run (kn.ext hx (by omega) (by omega) (by omega)) q2 _ q3 _ _⟩)
  (fun h' hx => shapesQ_run (kn.ext hx (by omega) (by omega) (by omega)) hd _ hd2 _ _)
 have hb := new_objs_new h (.var [.obj c 0])
 refine W_callE t170 rfl rfl (by simp) ?_
 show W T c170 _ _
 unfold c170
 refine W_seq (W_ops (s1 := ?_) (by simp only [r170_0]; simp [a170]; exact rfl) ?_)
 repeat' (first | refine W_seq ?_ | refine W_skip ?_ | refine W_block ?_ | refine W_ret ?_ | refine W_exit ?_ | refine W_ops (s1 := ?_) (by simp [hb, u1]; exact rfl) ?_ | refine W_tops (s1 := ?_) (by simp [hb, u1]; exact rfl) ?_ | refine W_cond_t (by first | (simp [hb, u1]; done) | fail) ?_ | refine W_cond_f (by first | (simp [hb, u1]; done) | fail) ?_ | fail)
 exact ⟨.inr rfl, [.int .i64 0], by simp [a170, resV, resV1], by simp [a170, packV], (HExt.new h _).trans u2⟩
theorem places_run (x : Straight) (c m : Nat) (h : LS.Heap) (hcn : c < h.next) (hmn : m < h.next) {succ pred tree : List (List V)} {ts tp tt : Tag} (hc : h.objs c = some (.var (chkC x.f succ pred tree ts tp tt (some m)))) (hm : h.objs m = some (.map .i64 (defsV x.D)))
  (hfit : x.f.Fit) (hT : ∀ o ∈ x.ops, TakesOK o) (hret : x.ret ≠ 0)
  (ho : ∀ k (hk : k < x.ops.length) j (hj : j < (takeL x.ops[k]).length), ∃ v d, x.ops[k].args[j]? = some v ∧ x.D v = some d ∧ (d.block < 0 ∨ (d.block = 0 ∧ d.at_ < k))) (he : ∃ d, x.D x.arg = some d ∧ (d.block < 0 ∨ (d.block = 0 ∧ d.at_ < 1048576))) :
  ∃ h', callD T 171 [.obj c 0] h = some (.int .i64 0, h') ∧ HExt h h' := by
 have hc1 : (h.new (.var [.obj c 0])).objs c = some (.var (chkC x.f succ pred tree ts tp tt (some m))) := by rw [new_objs_old hcn]; exact hc
 have kn : Knows (h.new (.var [.obj c 0])) c h.next m x.D := ⟨new_objs_new _ _, ⟨_, _, _, _, _, _, _, hc1⟩, by rw [new_objs_old hmn]; exact hm⟩
 have hn : (h.new (.var [.obj c 0])).next = h.next + 1 := rfl
 obtain ⟨d, hd, hd2⟩ := he
 obtain ⟨h3, u1, u2⟩ := uses_run x c h.next 201 (h.new (.var [.obj c 0])) (by omega) hc1 hfit hT hret
  (fun k hk j hj => by
   obtain ⟨v, d, q1, q2, q3⟩ := ho k hk j hj
   exact ⟨v, q1, fun h' hx => placesQ_run (kn.ext hx (by omega) (by omega) (by omega)) q2 _ _ _ q3⟩)
  (fun h' hx => placesQ_run (kn.ext hx (by omega) (by omega) (by omega)) hd _ _ _ hd2)
 have hb := new_objs_new h (.var [.obj c 0])
 refine W_callE t171 rfl rfl (by simp) ?_
 show W T c171 _ _
 unfold c171
 refine W_seq (W_ops (s1 := ?_) (by simp only [r171_0]; simp [a171]; exact rfl) ?_)
 repeat' (first | refine W_seq ?_ | refine W_skip ?_ | refine W_block ?_ | refine W_ret ?_ | refine W_exit ?_ | refine W_ops (s1 := ?_) (by simp [hb, u1]; exact rfl) ?_ | refine W_tops (s1 := ?_) (by simp [hb, u1]; exact rfl) ?_ | refine W_cond_t (by first | (simp [hb, u1]; done) | fail) ?_ | refine W_cond_f (by first | (simp [hb, u1]; done) | fail) ?_ | fail)
 exact ⟨.inr rfl, [.int .i64 0], by simp [a171, resV, resV1], by simp [a171, packV], (HExt.new h _).trans u2⟩

end Go.Proofs.YtpbngohpklpalaaGreat

/- The graph of one block that goes nowhere. -/
namespace Go.Proofs.YtpbngohpklpalaaGreat
open Go.LS Go.IntWalk
theorem w1 : IntKind.i64.wrap 1 = 1 := i64_in _ (by omega)
theorem w0 : IntKind.i64.wrap 0 = 0 := i64_in _ (by omega)
theorem wu0 : IntKind.u64.wrap 0 = 0 := u64_in _ (by omega)
theorem w8 : IntKind.u8.wrap 0 = 0 := u8_in _ (by omega)

set_option maxRecDepth 100000 in
theorem len64_run (h : LS.Heap) : ∃ n, callD T 253 [.int .u64 0] h = some (.int .i64 n, h) := by
 have hw : W T c253 ⟨initT [.int .u64 0], fun _ => none, h⟩ (fun e s => e = .ret ∧ ∃ n, s.t 2 = .int .i64 n ∧ s.h = h) := by
  unfold c253
  repeat' (first | refine W_seq ?_ | refine W_skip ?_ | refine W_block ?_ | refine W_ret ?_ | refine W_exit ?_ | refine W_ops (s1 := ?_) (by simp [w0, w8]; exact rfl) ?_ | refine W_tops (s1 := ?_) (by simp [w0, w8]; exact rfl) ?_ | refine W_cond_t (by first | (simp [w0, w8]; done) | fail) ?_ | refine W_cond_f (by first | (simp [w0, w8]; done) | fail) ?_ | fail)
  exact ⟨rfl, _, by simp; exact rfl, rfl⟩
 obtain ⟨e, s, h1, h2, n, h3, h4⟩ := hw
 refine ⟨n, W_call t253 rfl rfl (by simp) ⟨e, s, by simpa [a253] using h1, .inr h2, [.int .i64 n], by simp [a253, resV, resV1, h3], by simp [a253, packV], rfl, by rw [h4]; exact .refl _⟩⟩
theorem len_run (h : LS.Heap) : ∃ n, callD T 236 [.int .u64 0] h = some (.int .i64 n, h) := by
 obtain ⟨n, e⟩ := len64_run h
 refine ⟨n, ?_⟩
 refine W_call t236 rfl rfl (by simp) ?_
 show W T c236 _ _
 unfold c236
 repeat' (first | refine W_seq ?_ | refine W_skip ?_ | refine W_block ?_ | refine W_ret ?_ | refine W_exit ?_ | refine W_ops (s1 := ?_) (by simp [a236, e]; exact rfl) ?_ | refine W_tops (s1 := ?_) (by simp [a236, e]; exact rfl) ?_ | refine W_cond_t (by first | (simp [a236, e]; done) | fail) ?_ | refine W_cond_f (by first | (simp [a236, e]; done) | fail) ?_ | fail)
 exact ⟨.inr rfl, [.int .i64 n], by simp [a236, resV, resV1], by simp [a236, packV], rfl, .refl _⟩
theorem insertion_run (tg : Tag) (h : LS.Heap) : callD T 243 [.lst tg [], .int .i64 0, .int .i64 0] h = some (.tup [], h) := by
 refine W_callH t243 rfl rfl (by simp) ?_
 show W T c243 _ _
 unfold c243
 repeat' (first | refine W_seq ?_ | refine W_skip ?_ | refine W_block ?_ | refine W_ret ?_ | refine W_exit ?_ | refine W_ops (s1 := ?_) (by simp [a243, w1]; exact rfl) ?_ | refine W_tops (s1 := ?_) (by simp [a243, w1]; exact rfl) ?_ | refine W_cond_t (by first | (simp [a243, w1]; done) | fail) ?_ | refine W_cond_f (by first | (simp [a243, w1]; done) | fail) ?_ | fail)
 refine W_loop' l243_0.eq_1 ?_
 repeat' (first | refine W_seq ?_ | refine W_skip ?_ | refine W_block ?_ | refine W_ret ?_ | refine W_exit ?_ | refine W_ops (s1 := ?_) (by simp; exact rfl) ?_ | refine W_tops (s1 := ?_) (by simp; exact rfl) ?_ | refine W_cond_t (by first | (simp; done) | fail) ?_ | refine W_cond_f (by first | (simp; done) | fail) ?_ | fail)
 exact ⟨.inl rfl, [], by simp [a243, resV], by simp [a243, packV], rfl⟩
theorem pdq_run (tg : Tag) (n : Int) (h : LS.Heap) : callD T 235 [.lst tg [], .int .i64 0, .int .i64 0, .int .i64 n] h = some (.tup [], h) := by
 have e := insertion_run .ro h
 refine W_callH t235 rfl rfl (by simp) ?_
 show W T c235 _ _
 unfold c235
 repeat' (first | refine W_seq ?_ | refine W_skip ?_ | refine W_block ?_ | refine W_ret ?_ | refine W_exit ?_ | refine W_ops (s1 := ?_) (by simp [a235]; exact rfl) ?_ | refine W_tops (s1 := ?_) (by simp [a235]; exact rfl) ?_ | refine W_cond_t (by first | (simp [a235]; done) | fail) ?_ | refine W_cond_f (by first | (simp [a235]; done) | fail) ?_ | fail)
 refine W_loop' l235_0.eq_1 ?_
 repeat' (first | refine W_seq ?_ | refine W_skip ?_ | refine W_block ?_ | refine W_ret ?_ | refine W_exit ?_ | refine W_ops (s1 := ?_) (by simp [w0, e]; exact rfl) ?_ | refine W_tops (s1 := ?_) (by simp [w0, e]; exact rfl) ?_ | refine W_cond_t (by first | (simp [w0, e]; done) | fail) ?_ | refine W_cond_f (by first | (simp [w0, e]; done) | fail) ?_ | fail)
 exact ⟨.inr rfl, [], by simp [a235, resV], by simp [a235, packV], rfl⟩
theorem sort_run (tg : Tag) (h : LS.Heap) : callD T 220 [.lst tg []] h = some (.tup [], h) := by
 obtain ⟨n, e1⟩ := len_run h
 have e2 := pdq_run .ro n h
 refine W_callH t220 rfl rfl (by simp) ?_
 show W T c220 _ _
 unfold c220
 repeat' (first | refine W_seq ?_ | refine W_skip ?_ | refine W_block ?_ | refine W_ret ?_ | refine W_exit ?_ | refine W_ops (s1 := ?_) (by simp [a220, wu0, e1, e2]; exact rfl) ?_ | refine W_tops (s1 := ?_) (by simp [a220, wu0, e1, e2]; exact rfl) ?_ | refine W_cond_t (by first | (simp [a220, wu0, e1, e2]; done) | fail) ?_ | refine W_cond_f (by first | (simp [a220, wu0, e1, e2]; done) | fail) ?_ | fail)
 exact ⟨.inl rfl, [], by simp [a220, resV], by simp [a220, packV], rfl⟩
theorem values_run (tg : Tag) (h : LS.Heap) : callD T 207 [.lst tg []] h = some (.fn 221 [] [.obj h.next 0], h.new (.var [.lst .ro []])) := by
 refine W_callH t207 rfl rfl (by simp) ?_
 show W T c207 _ _
 unfold c207
 repeat' (first | refine W_seq ?_ | refine W_skip ?_ | refine W_block ?_ | refine W_ret ?_ | refine W_exit ?_ | refine W_ops (s1 := ?_) (by simp [a207]; exact rfl) ?_ | refine W_tops (s1 := ?_) (by simp [a207]; exact rfl) ?_ | refine W_cond_t (by first | (simp [a207]; done) | fail) ?_ | refine W_cond_f (by first | (simp [a207]; done) | fail) ?_ | fail)
 exact ⟨.inr rfl, [.fn 221 [] [.obj h.next 0]], by simp [a207, resV, resV1], by simp [a207, packV], rfl⟩
theorem yields_none (id : Nat) (tg : Tag) (h : LS.Heap) (hid : h.objs id = some (.var [.lst tg []])) : callD T0 221 [.undef, .obj id 0] h = some (.tup [], h) := by
 refine W_call z221 rfl rfl (by simp) ?_
 show W T0 c221 _ _
 unfold c221
 repeat' (first | refine W_seq ?_ | refine W_skip ?_ | refine W_block ?_ | refine W_ret ?_ | refine W_exit ?_ | refine W_ops (s1 := ?_) (by simp [a221, hid]; exact rfl) ?_ | refine W_tops (s1 := ?_) (by simp [a221, hid]; exact rfl) ?_ | refine W_cond_t (by first | (simp [a221, hid]; done) | fail) ?_ | refine W_cond_f (by first | (simp [a221, hid]; done) | fail) ?_ | fail)
 refine W_loop' l221_0.eq_1 ?_
 repeat' (first | refine W_seq ?_ | refine W_skip ?_ | refine W_block ?_ | refine W_ret ?_ | refine W_exit ?_ | refine W_ops (s1 := ?_) (by simp; exact rfl) ?_ | refine W_tops (s1 := ?_) (by simp; exact rfl) ?_ | refine W_cond_t (by first | (simp; done) | fail) ?_ | refine W_cond_f (by first | (simp; done) | fail) ?_ | fail)
 exact ⟨.inl rfl, [], by simp [a221, resV], by simp [a221, packV], rfl, .refl _⟩
theorem appendSeq_run (id : Nat) (tg : Tag) (h : LS.Heap) (hid : h.objs id = some (.var [.lst tg []])) : callD T 234 [.lst .nil [], .fn 221 [] [.obj id 0]] h = some (.lst .nil [], h) := by
 have e := yields_none id tg h hid
 unfold callD callF
 simp only [T]
 simp [appendG, hid, appendE, e]
theorem collect_run (id : Nat) (tg : Tag) (h : LS.Heap) (hid : h.objs id = some (.var [.lst tg []])) : callD T 219 [.fn 221 [] [.obj id 0]] h = some (.lst .nil [], h) := by
 have e := appendSeq_run id tg h hid
 refine W_callH t219 rfl rfl (by simp) ?_
 show W T c219 _ _
 unfold c219
 repeat' (first | refine W_seq ?_ | refine W_skip ?_ | refine W_block ?_ | refine W_ret ?_ | refine W_exit ?_ | refine W_ops (s1 := ?_) (by simp [a219, e]; exact rfl) ?_ | refine W_tops (s1 := ?_) (by simp [a219, e]; exact rfl) ?_ | refine W_cond_t (by first | (simp [a219, e]; done) | fail) ?_ | refine W_cond_f (by first | (simp [a219, e]; done) | fail) ?_ | fail)
 exact ⟨.inr rfl, [.lst .nil []], by simp [a219, resV, resV1], by simp [a219, packV], rfl⟩
theorem sorted_run (id : Nat) (tg : Tag) (h : LS.Heap) (hid : h.objs id = some (.var [.lst tg []])) : callD T 206 [.fn 221 [] [.obj id 0]] h = some (.lst .nil [], h) := by
 have e := collect_run id tg h hid
 have e2 := sort_run .nil h
 refine W_callH t206 rfl rfl (by simp) ?_
 show W T c206 _ _
 unfold c206
 repeat' (first | refine W_seq ?_ | refine W_skip ?_ | refine W_block ?_ | refine W_ret ?_ | refine W_exit ?_ | refine W_ops (s1 := ?_) (by simp [a206, e, e2]; exact rfl) ?_ | refine W_tops (s1 := ?_) (by simp [a206, e, e2]; exact rfl) ?_ | refine W_cond_t (by first | (simp [a206, e, e2]; done) | fail) ?_ | refine W_cond_f (by first | (simp [a206, e, e2]; done) | fail) ?_ | fail)
 exact ⟨.inr rfl, [.lst .nil []], by simp [a206, resV, resV1], by simp [a206, packV], rfl⟩
theorem compact_run (h : LS.Heap) : callD T 205 [.lst .nil []] h = some (.lst .nil [], h) := by
 refine W_callH t205 rfl rfl (by simp) ?_
 show W T c205 _ _
 unfold c205
 repeat' (first | refine W_seq ?_ | refine W_skip ?_ | refine W_block ?_ | refine W_ret ?_ | refine W_exit ?_ | refine W_ops (s1 := ?_) (by simp [a205]; exact rfl) ?_ | refine W_tops (s1 := ?_) (by simp [a205]; exact rfl) ?_ | refine W_cond_t (by first | (simp [a205]; done) | fail) ?_ | refine W_cond_f (by first | (simp [a205]; done) | fail) ?_ | fail)
 exact ⟨.inr rfl, [.lst .nil []], by simp [a205, resV, resV1], by simp [a205, packV], rfl⟩
theorem goes_run (h : LS.Heap) : callD T 203 [.int .i64 0] h = some (.int .i64 0, h) := by
 refine W_call t203 rfl rfl (by simp) ?_
 show W T c203 _ _
 unfold c203
 repeat' (first | refine W_seq ?_ | refine W_skip ?_ | refine W_block ?_ | refine W_ret ?_ | refine W_exit ?_ | refine W_ops (s1 := ?_) (by simp [a203]; exact rfl) ?_ | refine W_tops (s1 := ?_) (by simp [a203]; exact rfl) ?_ | refine W_cond_t (by first | (simp [a203]; done) | fail) ?_ | refine W_cond_f (by first | (simp [a203]; done) | fail) ?_ | fail)
 exact ⟨.inr rfl, [.int .i64 0], by simp [a203, resV, resV1], by simp [a203, packV], rfl, .refl _⟩
theorem clone_run (h : LS.Heap) : callD T 85 [.lst .nil []] h = some (.lst .nil [], h) := by
 refine W_call t85 rfl rfl (by simp) ?_
 show W T c85 _ _
 unfold c85
 repeat' (first | refine W_seq ?_ | refine W_skip ?_ | refine W_block ?_ | refine W_ret ?_ | refine W_exit ?_ | refine W_ops (s1 := ?_) (by simp [a85]; exact rfl) ?_ | refine W_tops (s1 := ?_) (by simp [a85]; exact rfl) ?_ | refine W_cond_t (by first | (simp [a85]; done) | fail) ?_ | refine W_cond_f (by first | (simp [a85]; done) | fail) ?_ | fail)
 exact ⟨.inr rfl, [.lst .nil []], by simp [a85, resV, resV1], by simp [a85, packV], rfl, .refl _⟩

end Go.Proofs.YtpbngohpklpalaaGreat

/- The graph of one block that goes nowhere: made, and gone through. -/
namespace Go.Proofs.YtpbngohpklpalaaGreat
open Go.LS Go.IntWalk
theorem rising_run (tg : Tag) (n : Int) (h : LS.Heap) : callD T 223 [.lst tg [], .int .i64 n] h = some (.bool true, h) := by
 refine W_call t223 rfl rfl (by simp) ?_
 show W T c223 _ _
 unfold c223
 repeat' (first | refine W_seq ?_ | refine W_skip ?_ | refine W_block ?_ | refine W_ret ?_ | refine W_exit ?_ | refine W_ops (s1 := ?_) (by simp [a223]; exact rfl) ?_ | refine W_tops (s1 := ?_) (by simp [a223]; exact rfl) ?_ | refine W_cond_t (by first | (simp [a223]; done) | fail) ?_ | refine W_cond_f (by first | (simp [a223]; done) | fail) ?_ | fail)
 refine W_loop' l223_0.eq_1 ?_
 repeat' (first | refine W_seq ?_ | refine W_skip ?_ | refine W_block ?_ | refine W_ret ?_ | refine W_exit ?_ | refine W_ops (s1 := ?_) (by simp; exact rfl) ?_ | refine W_tops (s1 := ?_) (by simp; exact rfl) ?_ | refine W_cond_t (by first | (simp; done) | fail) ?_ | refine W_cond_f (by first | (simp; done) | fail) ?_ | fail)
 exact ⟨.inr rfl, [.bool true], by simp [a223, resV, resV1], by simp [a223, packV], rfl, .refl _⟩
theorem makeP_run (tg : Tag) (id : Nat) (n : Int) (h : LS.Heap) (hid : h.objs id = some (.var [.int .i64 n])) : callD T 222 [.lst tg [], .obj id 0] h = some (.bool false, h) := by
 have e := rising_run .ro n h
 refine W_call t222 rfl rfl (by simp) ?_
 show W T c222 _ _
 unfold c222
 repeat' (first | refine W_seq ?_ | refine W_skip ?_ | refine W_block ?_ | refine W_ret ?_ | refine W_exit ?_ | refine W_ops (s1 := ?_) (by simp [a222, hid, e]; exact rfl) ?_ | refine W_tops (s1 := ?_) (by simp [a222, hid, e]; exact rfl) ?_ | refine W_cond_t (by first | (simp [a222, hid, e]; done) | fail) ?_ | refine W_cond_f (by first | (simp [a222, hid, e]; done) | fail) ?_ | fail)
 exact ⟨.inr rfl, [.bool false], by simp [a222, resV, resV1], by simp [a222, packV], rfl, .refl _⟩
theorem preds_run (tg tg' : Tag) (h : LS.Heap) : callD T 224 [.lst tg [[.lst tg' []]]] h = some (.lst .ro [[.lst .ro []]], h) := by
 refine W_call t224 rfl rfl (by simp) ?_
 show W T c224 _ _
 unfold c224
 repeat' (first | refine W_seq ?_ | refine W_skip ?_ | refine W_block ?_ | refine W_ret ?_ | refine W_exit ?_ | refine W_ops (s1 := ?_) (by simp [a224]; exact rfl) ?_ | refine W_tops (s1 := ?_) (by simp [a224]; exact rfl) ?_ | refine W_cond_t (by first | (simp [a224]; done) | fail) ?_ | refine W_cond_f (by first | (simp [a224]; done) | fail) ?_ | fail)
 refine W_loop' l224_0.eq_1 ?_
 repeat' (first | refine W_seq ?_ | refine W_skip ?_ | refine W_block ?_ | refine W_ret ?_ | refine W_exit ?_ | refine W_ops (s1 := ?_) (by simp [w1]; exact rfl) ?_ | refine W_tops (s1 := ?_) (by simp [w1]; exact rfl) ?_ | refine W_cond_t (by first | (simp [w1]; done) | fail) ?_ | refine W_cond_f (by first | (simp [w1]; done) | fail) ?_ | fail)
 refine W_loop' l224_1.eq_1 ?_
 repeat' (first | refine W_seq ?_ | refine W_skip ?_ | refine W_block ?_ | refine W_ret ?_ | refine W_exit ?_ | refine W_ops (s1 := ?_) (by simp [w1]; exact rfl) ?_ | refine W_tops (s1 := ?_) (by simp [w1]; exact rfl) ?_ | refine W_cond_t (by first | (simp [w1]; done) | fail) ?_ | refine W_cond_f (by first | (simp [w1]; done) | fail) ?_ | fail)
 refine W_loop' l224_0.eq_1 ?_
 repeat' (first | refine W_seq ?_ | refine W_skip ?_ | refine W_block ?_ | refine W_ret ?_ | refine W_exit ?_ | refine W_ops (s1 := ?_) (by simp [w1, freezeV, Heap.new, Heap.kill]; exact rfl) ?_ | refine W_tops (s1 := ?_) (by simp [w1, freezeV, Heap.new, Heap.kill]; exact rfl) ?_ | refine W_cond_t (by first | (simp [w1, freezeV, Heap.new, Heap.kill]; done) | fail) ?_ | refine W_cond_f (by first | (simp [w1, freezeV, Heap.new, Heap.kill]; done) | fail) ?_ | fail)
 refine ⟨.inr rfl, [.lst .ro [[.lst .nil []]]], by simp [a224, resV, resV1], by simp [a224, packV], by simp, by simp, fun id hid => ?_⟩
 have q0 : id ≠ h.next := by omega
 simp [upd, q0]
theorem make_run (tg : Tag) (h : LS.Heap) : callD T 208 [.lst tg [[.lst .nil []]]] h = some (.tup [.agg [.lst .ro [[.lst .nil []]], .lst .ro [[.lst .ro []]]], .int .i64 0], h) := by
 have e1 : ∀ h1 : LS.Heap, h1.objs h.next = some (.var [.int .i64 1]) → callD T 149 [.lst tg [[.lst .nil []]], .fn 222 [] [.obj h.next 0]] h1 = some (.bool false, h1) := fun h1 h2 => by
  have hC := Contains_list (fun _ : Unit => [.lst .ro []]) [()] 222 [.obj h.next 0] (fun _ => false) h1 .ro (by simp) (fun _ => rfl) (by simp) (by simp) (fun x _ => makeP_run .ro h.next 1 h1 h2)
  have hW : callD T 149 [.lst tg [[.lst .nil []]], .fn 222 [] [.obj h.next 0]] h1 = callD T 149 [.lst .ro [[.lst .ro []]], .fn 222 [] [.obj h.next 0]] h1 := by
   unfold callD callF
   rw [t149]
   simp [a149]
  rw [hW]
  simpa using hC
 have e2 := fun h1 : LS.Heap => clone_run h1
 have e3 := fun (tg : Tag) (h1 : LS.Heap) => preds_run tg .nil h1
 refine W_call t208 rfl rfl (by simp) ?_
 show W T c208 _ _
 unfold c208
 repeat' (first | refine W_seq ?_ | refine W_skip ?_ | refine W_block ?_ | refine W_ret ?_ | refine W_exit ?_ | refine W_ops (s1 := ?_) (by simp [a208, nextVer, Heap.new, Heap.set, e1]; exact rfl) ?_ | refine W_tops (s1 := ?_) (by simp [a208, nextVer, Heap.new, Heap.set, e1]; exact rfl) ?_ | refine W_cond_t (by first | (simp [a208, nextVer, Heap.new, Heap.set, e1]; done) | fail) ?_ | refine W_cond_f (by first | (simp [a208, nextVer, Heap.new, Heap.set, e1]; done) | fail) ?_ | fail)
 refine W_loop' l208_0.eq_1 ?_
 repeat' (first | refine W_seq ?_ | refine W_skip ?_ | refine W_block ?_ | refine W_ret ?_ | refine W_exit ?_ | refine W_ops (s1 := ?_) (by simp [w1, e2, appendV, Heap.new, Heap.kill]; exact rfl) ?_ | refine W_tops (s1 := ?_) (by simp [w1, e2, appendV, Heap.new, Heap.kill]; exact rfl) ?_ | refine W_cond_t (by first | (simp [w1, e2, appendV, Heap.new, Heap.kill]; done) | fail) ?_ | refine W_cond_f (by first | (simp [w1, e2, appendV, Heap.new, Heap.kill]; done) | fail) ?_ | fail)
 refine W_loop' l208_0.eq_1 ?_
 repeat' (first | refine W_seq ?_ | refine W_skip ?_ | refine W_block ?_ | refine W_ret ?_ | refine W_exit ?_ | refine W_ops (s1 := ?_) (by simp [w1, e3, freezeV, Tag.settle]; exact rfl) ?_ | refine W_tops (s1 := ?_) (by simp [w1, e3, freezeV, Tag.settle]; exact rfl) ?_ | refine W_cond_t (by first | (simp [w1, e3, freezeV, Tag.settle]; done) | fail) ?_ | refine W_cond_f (by first | (simp [w1, e3, freezeV, Tag.settle]; done) | fail) ?_ | fail)
 refine ⟨.inr rfl, _, by simp [a208, resV, resV1]; exact rfl, by simp [a208, packV], by simp, by simp; omega, fun id hid => ?_⟩
 have q0 : id ≠ h.next := by omega
 have q1 : id ≠ h.next + 1 := by omega
 have q2 : id ≠ h.next + 1 + 1 := by omega
 simp [upd, q0, q1, q2]
theorem of_graph (x : List (List V)) (r : Int) (ops : List (List V)) (ea : Int) (hx : V.retagLL x = x) (ho : V.retagLL ops = ops) (h : LS.Heap) :
  callD T 186 [.agg [.lst .ro x, .int .i64 r, .lst .ro [[.lst .ro [], .lst .ro ops, .int .i64 0, .int .i64 ea, .lst .ro []]]]] h = some (.tup [.agg [.lst .ro [[.lst .nil []]], .lst .ro [[.lst .ro []]]], .int .i64 0], h) := by
 have e1 := fun h1 : LS.Heap => goes_run h1
 have e2 := fun (c : V) (hc : c.leaf = true) (h1 : LS.Heap) => Contains_int (fun n : Int => [.int .i64 n]) ([] : List Int) 204 [c] (fun _ => false) h1 .ro (by simp) (fun _ => rfl) rfl (by simp only [List.all_cons, hc]; rfl) (fun x hx => by cases hx)
 have e3 := fun (h1 : LS.Heap) => values_run .ro h1
 have e4 := fun (h1 : LS.Heap) => sorted_run h1.next .ro (h1.new (.var [.lst .ro []])) (by simp [Heap.new, upd])
 have e5 := fun h1 : LS.Heap => compact_run h1
 have e6 := fun (tg : Tag) (h1 : LS.Heap) => make_run tg h1
 refine W_call t186 rfl rfl (by simp) ?_
 show W T c186 _ _
 unfold c186
 refine W_seq (W_ops (s1 := ?_) (by simp only [r186_0]; simp [a186, nextVer, hx, ho]; exact rfl) ?_)
 refine W_seq (W_ops (s1 := ?_) (by simp only [r186_1]; simp [Heap.new, Heap.set]; exact rfl) ?_)
 generalize hH : LS.Heap.mk _ _ = h1
 have hx1 : HExt h h1 := by
  rw [← hH]
  refine ⟨by simp, fun id hid => ?_⟩
  have q0 : id ≠ h.next := by omega
  simp [upd, q0]
 have ho1 : h1.objs h.next = some (.var [.int .i64 1]) := by rw [← hH]; simp [upd]
 clear hH
 have e2' := e2 (.obj h.next 0) rfl
 simp only [List.map_nil, List.any_nil] at e2'
 repeat' (first | refine W_seq ?_ | refine W_skip ?_ | refine W_block ?_ | refine W_ret ?_ | refine W_exit ?_ | refine W_ops (s1 := ?_) (by simp [ho1]; exact rfl) ?_ | refine W_tops (s1 := ?_) (by simp [ho1]; exact rfl) ?_ | refine W_cond_t (by first | (simp [ho1]; done) | fail) ?_ | refine W_cond_f (by first | (simp [ho1]; done) | fail) ?_ | fail)
 refine W_loop' l186_0.eq_1 ?_
 repeat' (first | refine W_seq ?_ | refine W_skip ?_ | refine W_block ?_ | refine W_ret ?_ | refine W_exit ?_ | refine W_ops (s1 := ?_) (by simp [w1, e1, e2', e3, e4, e5, appendV]; exact rfl) ?_ | refine W_tops (s1 := ?_) (by simp [w1, e1, e2', e3, e4, e5, appendV]; exact rfl) ?_ | refine W_cond_t (by first | (simp [w1, e1, e2', e3, e4, e5, appendV]; done) | fail) ?_ | refine W_cond_f (by first | (simp [w1, e1, e2', e3, e4, e5, appendV]; done) | fail) ?_ | fail)
 refine W_loop' l186_0.eq_1 ?_
 repeat' (first | refine W_seq ?_ | refine W_skip ?_ | refine W_block ?_ | refine W_ret ?_ | refine W_exit ?_ | refine W_ops (s1 := ?_) (by simp [w1, e6]; exact rfl) ?_ | refine W_tops (s1 := ?_) (by simp [w1, e6]; exact rfl) ?_ | refine W_cond_t (by first | (simp [w1, e6]; done) | fail) ?_ | refine W_cond_f (by first | (simp [w1, e6]; done) | fail) ?_ | fail)
 exact ⟨.inr rfl, _, by simp [a186, resV, resV1]; exact rfl, by simp [a186, packV], by simp, (hx1.trans (.new _ _)).trans (.new _ _)⟩

end Go.Proofs.YtpbngohpklpalaaGreat

/- The graph of one block: the order; what dominates in a tree of one. -/
namespace Go.Proofs.YtpbngohpklpalaaGreat
open Go.LS Go.IntWalk
theorem new_objs_new' (h : LS.Heap) (o : AObj) : (h.new o).objs h.next = some o := by simp [Heap.new, upd]
theorem equal0_run (ta tb : Tag) (h : LS.Heap) : callD T 130 [.lst ta [], .lst tb []] h = some (.bool true, h) := by
 refine W_call t130 rfl rfl (by simp) ?_
 show W T c130 _ _
 unfold c130
 repeat' (first | refine W_seq ?_ | refine W_skip ?_ | refine W_block ?_ | refine W_ret ?_ | refine W_exit ?_ | refine W_ops (s1 := ?_) (by simp [a130]; exact rfl) ?_ | refine W_tops (s1 := ?_) (by simp [a130]; exact rfl) ?_ | refine W_cond_t (by first | (simp [a130]; done) | fail) ?_ | refine W_cond_f (by first | (simp [a130]; done) | fail) ?_ | fail)
 refine W_loop' l130_0.eq_1 ?_
 repeat' (first | refine W_seq ?_ | refine W_skip ?_ | refine W_block ?_ | refine W_ret ?_ | refine W_exit ?_ | refine W_ops (s1 := ?_) (by simp; exact rfl) ?_ | refine W_tops (s1 := ?_) (by simp; exact rfl) ?_ | refine W_cond_t (by first | (simp; done) | fail) ?_ | refine W_cond_f (by first | (simp; done) | fail) ?_ | fail)
 exact ⟨.inr rfl, [.bool true], by simp [a130, resV, resV1], by simp [a130, packV], rfl, .refl _⟩
theorem equalFunc_run (ta tb ta' tb' : Tag) (h : LS.Heap) : callD T 237 [.lst ta [[.lst ta' []]], .lst tb [[.lst tb' []]], .fn 130 [] []] h = some (.bool true, h) := by
 have e := equal0_run .ro .ro h
 refine W_call t237 rfl rfl (by simp) ?_
 show W T c237 _ _
 unfold c237
 repeat' (first | refine W_seq ?_ | refine W_skip ?_ | refine W_block ?_ | refine W_ret ?_ | refine W_exit ?_ | refine W_ops (s1 := ?_) (by simp [a237]; exact rfl) ?_ | refine W_tops (s1 := ?_) (by simp [a237]; exact rfl) ?_ | refine W_cond_t (by first | (simp [a237]; done) | fail) ?_ | refine W_cond_f (by first | (simp [a237]; done) | fail) ?_ | fail)
 refine W_loop' l237_0.eq_1 ?_
 repeat' (first | refine W_seq ?_ | refine W_skip ?_ | refine W_block ?_ | refine W_ret ?_ | refine W_exit ?_ | refine W_ops (s1 := ?_) (by simp [w1, e]; exact rfl) ?_ | refine W_tops (s1 := ?_) (by simp [w1, e]; exact rfl) ?_ | refine W_cond_t (by first | (simp [w1, e]; done) | fail) ?_ | refine W_cond_f (by first | (simp [w1, e]; done) | fail) ?_ | fail)
 refine W_loop' l237_0.eq_1 ?_
 repeat' (first | refine W_seq ?_ | refine W_skip ?_ | refine W_block ?_ | refine W_ret ?_ | refine W_exit ?_ | refine W_ops (s1 := ?_) (by simp; exact rfl) ?_ | refine W_tops (s1 := ?_) (by simp; exact rfl) ?_ | refine W_cond_t (by first | (simp; done) | fail) ?_ | refine W_cond_f (by first | (simp; done) | fail) ?_ | fail)
 exact ⟨.inr rfl, [.bool true], by simp [a237, resV, resV1], by simp [a237, packV], rfl, .refl _⟩
def oneG : List V := [.lst .ro [[.lst .nil []]], .lst .ro [[.lst .ro []]]]
theorem graphMay_run (h : LS.Heap) : callD T 225 [.agg oneG] h = some (.bool true, h) := by
 have e1 := make_run .ro h
 have e2 := equalFunc_run .ro .ro .ro .ro h
 refine W_call t225 rfl rfl (by simp) ?_
 show W T c225 _ _
 unfold c225
 unfold oneG
 repeat' (first | refine W_seq ?_ | refine W_skip ?_ | refine W_block ?_ | refine W_ret ?_ | refine W_exit ?_ | refine W_ops (s1 := ?_) (by simp [a225, nextVer, e1, e2]; exact rfl) ?_ | refine W_tops (s1 := ?_) (by simp [a225, nextVer, e1, e2]; exact rfl) ?_ | refine W_cond_t (by first | (simp [a225, nextVer, e1, e2]; done) | fail) ?_ | refine W_cond_f (by first | (simp [a225, nextVer, e1, e2]; done) | fail) ?_ | fail)
 exact ⟨.inr rfl, [.bool true], by simp [a225, resV, resV1], by simp [a225, packV], rfl, .refl _⟩
theorem reverse_run (tg : Tag) (x : V) (h : LS.Heap) (hx : x.retag = x) : callD T 226 [.lst tg [[x]]] h = some (.tup [], h) := by
 refine W_callH t226 rfl rfl (by simp) ?_
 show W T c226 _ _
 unfold c226
 repeat' (first | refine W_seq ?_ | refine W_skip ?_ | refine W_block ?_ | refine W_ret ?_ | refine W_exit ?_ | refine W_ops (s1 := ?_) (by simp [a226, hx, w0, w1]; exact rfl) ?_ | refine W_tops (s1 := ?_) (by simp [a226, hx, w0, w1]; exact rfl) ?_ | refine W_cond_t (by first | (simp [a226, hx, w0, w1]; done) | fail) ?_ | refine W_cond_f (by first | (simp [a226, hx, w0, w1]; done) | fail) ?_ | fail)
 refine W_loop' l226_0.eq_1 ?_
 repeat' (first | refine W_seq ?_ | refine W_skip ?_ | refine W_block ?_ | refine W_ret ?_ | refine W_exit ?_ | refine W_ops (s1 := ?_) (by simp [w0]; exact rfl) ?_ | refine W_tops (s1 := ?_) (by simp [w0]; exact rfl) ?_ | refine W_cond_t (by first | (simp [w0]; done) | fail) ?_ | refine W_cond_f (by first | (simp [w0]; done) | fail) ?_ | fail)
 exact ⟨.inl rfl, [], by simp [a226, resV], by simp [a226, packV], rfl⟩
theorem order_run (h : LS.Heap) : callD T 209 [.agg oneG, .int .i64 0] h = some (.lst .ro [[.int .i64 0]], h) := by
 have e1 := graphMay_run h
 have e2 := fun (tg : Tag) (h1 : LS.Heap) => reverse_run tg (.int .i64 0) h1 rfl
 unfold oneG at e1 ⊢
 refine W_call t209 rfl rfl (by simp) ?_
 show W T c209 _ _
 unfold c209
 refine W_seq (W_ops (s1 := ?_) (by simp only [r209_0]; simp [a209, nextVer]; exact rfl) ?_)
 refine W_scope ?_
 repeat' (first | refine W_seq ?_ | refine W_skip ?_ | refine W_block ?_ | refine W_ret ?_ | refine W_exit ?_ | refine W_ops (s1 := ?_) (by simp [nextVer, e1, w0, w1]; exact rfl) ?_ | refine W_tops (s1 := ?_) (by simp [nextVer, e1, w0, w1]; exact rfl) ?_ | refine W_cond_t (by first | (simp [nextVer, e1, w0, w1]; done) | fail) ?_ | refine W_cond_f (by first | (simp [nextVer, e1, w0, w1]; done) | fail) ?_ | fail)
 refine W_label ?_
 repeat' (first | refine W_seq ?_ | refine W_skip ?_ | refine W_block ?_ | refine W_ret ?_ | refine W_exit ?_ | refine W_ops (s1 := ?_) (by simp [w0]; exact rfl) ?_ | refine W_tops (s1 := ?_) (by simp [w0]; exact rfl) ?_ | refine W_cond_t (by first | (simp [w0]; done) | fail) ?_ | refine W_cond_f (by first | (simp [w0]; done) | fail) ?_ | fail)
 refine W_loop' l209_0.eq_1 ?_
 repeat' (first | refine W_seq ?_ | refine W_skip ?_ | refine W_block ?_ | refine W_ret ?_ | refine W_exit ?_ | refine W_ops (s1 := ?_) (by simp [w0, w1, appendV, e2]; exact rfl) ?_ | refine W_tops (s1 := ?_) (by simp [w0, w1, appendV, e2]; exact rfl) ?_ | refine W_cond_t (by first | (simp [w0, w1, appendV, e2]; done) | fail) ?_ | refine W_cond_f (by first | (simp [w0, w1, appendV, e2]; done) | fail) ?_ | fail)
 exact ⟨by simp, .inr rfl, [_], by simp [a209, resV, resV1]; exact rfl, by simp [a209, packV], by simp, .new _ _⟩
theorem depth_run (tg : Tag) (h : LS.Heap) : callD T 230 [.lst tg [[.int .i64 (-1)]], .int .i64 0] h = some (.int .i64 0, h) := by
 refine W_call t230 rfl rfl (by simp) ?_
 show W T c230 _ _
 unfold c230
 repeat' (first | refine W_seq ?_ | refine W_skip ?_ | refine W_block ?_ | refine W_ret ?_ | refine W_exit ?_ | refine W_ops (s1 := ?_) (by simp [a230]; exact rfl) ?_ | refine W_tops (s1 := ?_) (by simp [a230]; exact rfl) ?_ | refine W_cond_t (by first | (simp [a230]; done) | fail) ?_ | refine W_cond_f (by first | (simp [a230]; done) | fail) ?_ | fail)
 refine W_loop' l230_0.eq_1 ?_
 repeat' (first | refine W_seq ?_ | refine W_skip ?_ | refine W_block ?_ | refine W_ret ?_ | refine W_exit ?_ | refine W_ops (s1 := ?_) (by simp; exact rfl) ?_ | refine W_tops (s1 := ?_) (by simp; exact rfl) ?_ | refine W_cond_t (by first | (simp; done) | fail) ?_ | refine W_cond_f (by first | (simp; done) | fail) ?_ | fail)
 exact ⟨.inr rfl, [.int .i64 0], by simp [a230, resV, resV1], by simp [a230, packV], rfl, .refl _⟩
theorem right_run (tg : Tag) (h : LS.Heap) : callD T 228 [.lst tg [[.int .i64 (-1)]]] h = some (.bool true, h) := by
 have e := depth_run .ro h
 refine W_call t228 rfl rfl (by simp) ?_
 show W T c228 _ _
 unfold c228
 repeat' (first | refine W_seq ?_ | refine W_skip ?_ | refine W_block ?_ | refine W_ret ?_ | refine W_exit ?_ | refine W_ops (s1 := ?_) (by simp [a228]; exact rfl) ?_ | refine W_tops (s1 := ?_) (by simp [a228]; exact rfl) ?_ | refine W_cond_t (by first | (simp [a228]; done) | fail) ?_ | refine W_cond_f (by first | (simp [a228]; done) | fail) ?_ | fail)
 refine W_loop' l228_0.eq_1 ?_
 repeat' (first | refine W_seq ?_ | refine W_skip ?_ | refine W_block ?_ | refine W_ret ?_ | refine W_exit ?_ | refine W_ops (s1 := ?_) (by simp [w1, e]; exact rfl) ?_ | refine W_tops (s1 := ?_) (by simp [w1, e]; exact rfl) ?_ | refine W_cond_t (by first | (simp [w1, e]; done) | fail) ?_ | refine W_cond_f (by first | (simp [w1, e]; done) | fail) ?_ | fail)
 refine W_loop' l228_0.eq_1 ?_
 repeat' (first | refine W_seq ?_ | refine W_skip ?_ | refine W_block ?_ | refine W_ret ?_ | refine W_exit ?_ | refine W_ops (s1 := ?_) (by simp; exact rfl) ?_ | refine W_tops (s1 := ?_) (by simp; exact rfl) ?_ | refine W_cond_t (by first | (simp; done) | fail) ?_ | refine W_cond_f (by first | (simp; done) | fail) ?_ | fail)
 exact ⟨.inr rfl, [.bool true], by simp [a228, resV, resV1], by simp [a228, packV], rfl, .refl _⟩
theorem domInP_run (tg : Tag) (id : Nat) (h : LS.Heap) (hid : h.objs id = some (.var [.lst tg [[.int .i64 (-1)]]])) : callD T 229 [.int .i64 0, .obj id 0] h = some (.bool false, h) := by
 have e := depth_run tg h
 refine W_call t229 rfl rfl (by simp) ?_
 show W T c229 _ _
 unfold c229
 repeat' (first | refine W_seq ?_ | refine W_skip ?_ | refine W_block ?_ | refine W_ret ?_ | refine W_exit ?_ | refine W_ops (s1 := ?_) (by simp [a229, hid, e]; exact rfl) ?_ | refine W_tops (s1 := ?_) (by simp [a229, hid, e]; exact rfl) ?_ | refine W_cond_t (by first | (simp [a229, hid, e]; done) | fail) ?_ | refine W_cond_f (by first | (simp [a229, hid, e]; done) | fail) ?_ | fail)
 exact ⟨.inr rfl, [.bool false], by simp [a229, resV, resV1], by simp [a229, packV], rfl, .refl _⟩
theorem domIn_run (ta tb : Tag) (h : LS.Heap) : callD T 212 [.lst ta [[.int .i64 (-1)]], .lst tb [[.int .i64 0], [.int .i64 0]]] h = some (.bool true, h) := by
 have hn := new_objs_new' h (.var [.lst .ro [[.int .i64 (-1)]]])
 have e1 := right_run .ro (h.new (.var [.lst .ro [[.int .i64 (-1)]]]))
 have e2 := Contains_int (fun n : Int => [.int .i64 n]) [0, 0] 229 [.obj h.next 0] (fun _ => false) (h.new (.var [.lst .ro [[.int .i64 (-1)]]])) .ro (by simp) (fun _ => rfl) (by simp) rfl
  (fun x hx => by
   have : x = 0 := by simpa using hx
   subst this
   exact domInP_run .ro h.next _ hn)
 simp only [List.map_cons, List.map_nil, List.any_cons, List.any_nil, Bool.or_false] at e2
 refine W_call t212 rfl rfl (by simp) ?_
 show W T c212 _ _
 unfold c212
 repeat' (first | refine W_seq ?_ | refine W_skip ?_ | refine W_block ?_ | refine W_ret ?_ | refine W_exit ?_ | refine W_ops (s1 := ?_) (by simp [a212, hn, e1, e2]; exact rfl) ?_ | refine W_tops (s1 := ?_) (by simp [a212, hn, e1, e2]; exact rfl) ?_ | refine W_cond_t (by first | (simp [a212, hn, e1, e2]; done) | fail) ?_ | refine W_cond_f (by first | (simp [a212, hn, e1, e2]; done) | fail) ?_ | fail)
 exact ⟨.inr rfl, [.bool true], by simp [a212, resV, resV1], by simp [a212, packV], rfl, .new _ _⟩
theorem meet_run (ta : Tag) (h : LS.Heap) : callD T 213 [.lst ta [[.int .i64 (-1)]], .int .i64 0, .int .i64 0] h = some (.int .i64 0, h) := by
 have e := domIn_run .ro .exact h
 refine W_call t213 rfl rfl (by simp) ?_
 show W T c213 _ _
 unfold c213
 repeat' (first | refine W_seq ?_ | refine W_skip ?_ | refine W_block ?_ | refine W_ret ?_ | refine W_exit ?_ | refine W_ops (s1 := ?_) (by simp [a213, e]; exact rfl) ?_ | refine W_tops (s1 := ?_) (by simp [a213, e]; exact rfl) ?_ | refine W_cond_t (by first | (simp [a213, e]; done) | fail) ?_ | refine W_cond_f (by first | (simp [a213, e]; done) | fail) ?_ | fail)
 refine W_loop' l213_0.eq_1 ?_
 repeat' (first | refine W_seq ?_ | refine W_skip ?_ | refine W_block ?_ | refine W_ret ?_ | refine W_exit ?_ | refine W_ops (s1 := ?_) (by simp; exact rfl) ?_ | refine W_tops (s1 := ?_) (by simp; exact rfl) ?_ | refine W_cond_t (by first | (simp; done) | fail) ?_ | refine W_cond_f (by first | (simp; done) | fail) ?_ | fail)
 exact ⟨.inr rfl, [.int .i64 0], by simp [a213, resV, resV1], by simp [a213, packV], rfl, .refl _⟩
theorem over_run (ta : Tag) (h : LS.Heap) : callD T 188 [.lst ta [[.int .i64 (-1)]], .int .i64 0, .int .i64 0] h = some (.bool true, h) := by
 have e1 := domIn_run .ro .exact h
 have e2 := meet_run .ro h
 refine W_call t188 rfl rfl (by simp) ?_
 show W T c188 _ _
 unfold c188
 repeat' (first | refine W_seq ?_ | refine W_skip ?_ | refine W_block ?_ | refine W_ret ?_ | refine W_exit ?_ | refine W_ops (s1 := ?_) (by simp [a188, e1, e2]; exact rfl) ?_ | refine W_tops (s1 := ?_) (by simp [a188, e1, e2]; exact rfl) ?_ | refine W_cond_t (by first | (simp [a188, e1, e2]; done) | fail) ?_ | refine W_cond_f (by first | (simp [a188, e1, e2]; done) | fail) ?_ | fail)
 exact ⟨.inr rfl, [.bool true], by simp [a188, resV, resV1], by simp [a188, packV], rfl, .refl _⟩

end Go.Proofs.YtpbngohpklpalaaGreat

/- What dominates in the graph of one block. -/
namespace Go.Proofs.YtpbngohpklpalaaGreat
open Go.LS Go.IntWalk
theorem mul64_run (h : LS.Heap) : callD T 239 [.int .u64 1, .int .u64 1] h = some (.tup [.int .u64 0, .int .u64 1], h) := by
 refine W_call t239 rfl rfl (by simp) ?_
 show W T c239 _ _
 unfold c239
 repeat' (first | refine W_seq ?_ | refine W_skip ?_ | refine W_block ?_ | refine W_ret ?_ | refine W_exit ?_ | refine W_ops (s1 := ?_) (by simp [a239]; exact rfl) ?_ | refine W_tops (s1 := ?_) (by simp [a239]; exact rfl) ?_ | refine W_cond_t (by first | (simp [a239]; done) | fail) ?_ | refine W_cond_f (by first | (simp [a239]; done) | fail) ?_ | fail)
 exact ⟨.inr rfl, [.int .u64 0, .int .u64 1], by simp [a239, resV, resV1]; first | done | decide, by simp [a239, packV], rfl, .refl _⟩
theorem mul_run (h : LS.Heap) : callD T 227 [.int .u64 1, .int .u64 1] h = some (.tup [.int .u64 0, .int .u64 1], h) := by
 have e := mul64_run h
 refine W_call t227 rfl rfl (by simp) ?_
 show W T c227 _ _
 unfold c227
 repeat' (first | refine W_seq ?_ | refine W_skip ?_ | refine W_block ?_ | refine W_ret ?_ | refine W_exit ?_ | refine W_ops (s1 := ?_) (by simp [a227, e]; exact rfl) ?_ | refine W_tops (s1 := ?_) (by simp [a227, e]; exact rfl) ?_ | refine W_cond_t (by first | (simp [a227, e]; done) | fail) ?_ | refine W_cond_f (by first | (simp [a227, e]; done) | fail) ?_ | fail)
 exact ⟨.inr rfl, [.int .u64 0, .int .u64 1], by simp [a227, resV, resV1], by simp [a227, packV], rfl, .refl _⟩
theorem repeat1_run (tg : Tag) (n : Int) (h : LS.Heap) : callD T 210 [.lst tg [[.int .i64 n]], .int .i64 1] h = some (.row h.next 0 1 1, h.new (.row [[.int .i64 n]])) := by
 have e := fun h1 => mul_run h1
 have w1 : IntKind.u64.wrap 1 = 1 := rfl
 have w2 : IntKind.i64.wrap 1 = 1 := rfl
 refine W_callH t210 rfl rfl (by simp) ?_
 show W T c210 _ _
 unfold c210
 repeat' (first | refine W_seq ?_ | refine W_skip ?_ | refine W_block ?_ | refine W_ret ?_ | refine W_exit ?_ | refine W_ops (s1 := ?_) (by simp [a210, e, w1, w2]; exact rfl) ?_ | refine W_tops (s1 := ?_) (by simp [a210, e, w1, w2]; exact rfl) ?_ | refine W_cond_t (by first | (simp [a210, e, w1, w2]; done) | fail) ?_ | refine W_cond_f (by first | (simp [a210, e, w1, w2]; done) | fail) ?_ | fail)
 have en : ∀ o, (h.new o).objs h.next = some o := fun o => new_objs_new' h o
 have hs : ∀ o o', (h.new o).set h.next o' = h.new o' := fun o o' => by
  simp only [Heap.set, Heap.new]
  congr 1
  funext i
  simp only [upd]
  split <;> rfl
 refine (W_ops (s1 := ?_) (by simp only [r210_7]; simp [en, hs]; exact rfl) ?_)
 refine W_seq (W_block (W_loop' l210_0.eq_1 ?_))
 repeat' (first | refine W_seq ?_ | refine W_skip ?_ | refine W_block ?_ | refine W_ret ?_ | refine W_exit ?_ | refine W_ops (s1 := ?_) (by simp; exact rfl) ?_ | refine W_tops (s1 := ?_) (by simp; exact rfl) ?_ | refine W_cond_t (by first | (simp; done) | fail) ?_ | refine W_cond_f (by first | (simp; done) | fail) ?_ | fail)
 exact ⟨.inr rfl, [.row h.next 0 1 1], by simp [a210, resV, resV1], by simp [a210, packV], rfl⟩

end Go.Proofs.YtpbngohpklpalaaGreat
