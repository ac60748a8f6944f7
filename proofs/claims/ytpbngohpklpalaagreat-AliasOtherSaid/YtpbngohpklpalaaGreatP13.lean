/- A part of the proof: an abstract machine for the program's code and what each of its functions comes to there. No conditions. -/
import Derived.Test.YtpbngohpklpalaaGreatP12
import Derived.Test.YtpbngohpklpalaaGreatRows

set_option linter.unusedSimpArgs false
set_option linter.unusedVariables false

/- The law aliasOther: the given statement. No conditions. -/
namespace Go.Proofs.YtpbngohpklpalaaGreat
open Go.LS
open Go.ChangeShapes Go.WideShapes Go.ChangeAt Go.RowKit
theorem own : ownKnob Tryz.prog.godebug = none := by kernel_rfl
theorem laidOut : laidOutB Tryz.prog = true := by kernel_rfl
theorem read4 : Tryz.prog.readableRec 4 = true := by kernel_rfl
theorem row4 : 4 < Tryz.prog.types.size := of_decide_eq_true (by kernel_rfl)
theorem read57 : Tryz.prog.readableRec 57 = true := by kernel_rfl
theorem row57 : 57 < Tryz.prog.types.size := of_decide_eq_true (by kernel_rfl)
theorem wf_u16 {n : Int} (h : (Lit.int .u16 n).wf = true) : 0 ≤ n ∧ n < 65536 := by
 simp only [Lit.wf, Bool.and_eq_true, decide_eq_true_eq] at h
 have h1 : IntKind.u16.min = 0 := rfl
 have h2 : IntKind.u16.max = 65535 := rfl
 omega
set_option maxRecDepth 100000 in
theorem okWide_true (W : World) : Value.okWide Tryz.prog W .any 0 4 (.bool true) := okWide_bool_mk (t := 4) Tryz.underlying4 true
theorem told_bool {P : Program} {w : World} {t : TypeId} (ht : P.underlying t = some .bool) {H : Type} {eh : TypeId × Value → H} {r : Reach} {b0 base : Nat} {sp : Nat → Bool} {held : Bool} {v : Value} {d : DataW H} {ps : List MemPlace}
  (hval : Value.okWide P w r b0 t v) (hd : DataW.Trod eh P w base sp held t v d ps) : ∃ b : Bool, R (memG w) (.bool b) v := by
 obtain ⟨n, rfl⟩ := Go.WideShapes.okWide_bool ht hval
 exact ⟨n, .bool n⟩

set_option maxRecDepth 100000 in
theorem law_any {H : Type} {enc : TypeId × Value → H} {W : World} {base : Nat} {v0 v1 : Value} {d0 d1 : DataW H} {p0 p1 : List MemPlace} (o0 : Value.okWide Tryz.prog W .any base 57 v0) (o1 : Value.okWide Tryz.prog W .any base 4 v1)
  (h0 : DataW.Trod enc Tryz.prog W 0 (fun _ => true) true 57 v0 d0 p0) (h1 : DataW.Trod enc Tryz.prog W 0 (fun _ => true) true 4 v1 d1 p1) :
  Calls Tryz.prog 7 #[v0, v1] W fun e W' => e = .returned (.bool true) ∧ Below W.heap.size W W' := by
 obtain ⟨a0, r0, w0⟩ := LS.told_int Tryz.underlying57 o0 h0
 obtain ⟨a1, r1⟩ := told_bool Tryz.underlying4 o1 h1
 refine (call_reads T_ok (aliasOther_run a0 a1 (wf_u16 w0) _) (cargs := #[v0, v1]) rfl (fun j x hj => ?_)).mono ?_
 ·rcases j with _ | _ | j
  ·simp at hj; subst hj; exact r0
  ·simp at hj; subst hj; exact r1
  ·simp at hj
 ·rintro e W' ⟨cv, G', rfl, hv, hb⟩
  cases hv
  exact ⟨rfl, hb⟩

set_option maxRecDepth 100000 in
theorem aliasOther_lifted (os : Os) (started : os.Started) (H : Type) (enc : TypeId × Value → H) :
  ReturnsInHanded {} Tryz.checked os 7 .any (Rows.aliasOtherSpec.pre6 enc Tryz.prog Tryz.f7 Rows.aliasOtherRow.domain false) (Rows.aliasOtherSpec.post enc Tryz.prog Tryz.f7 false true false false) := by
 refine returnsInHanded_of_change (C := Tryz.checked) own started (by kernel_rfl) Tryz.func7
  (ChangeSpec.witness6 (enc := enc) (C := Tryz.checked) false ⟨#[], #[.int .u16 0, .bool false], []⟩ 8 (by kernel_rfl) (by kernel_rfl) (by kernel_rfl) (by kernel_rfl)) ?_
 intro W base args ds gs before hval0 hW hcnd _
 have hval : ∀ (j : Nat) t v, Tryz.f7.params[j]? = some t → args[j]? = some v → Value.okWide Tryz.prog W .any base t v := hval0
 have hW' := hW
 obtain ⟨p, q, hA0, hV, rfl, hfz, hnd⟩ := hW
 have hA : DataW.TrodAll enc Tryz.prog W 0 (fun _ => true) true Tryz.f7.params.toList args.toList ds p := hA0
 rw [Tryz.params7] at hA hval
 obtain ⟨v0, v1, d0, d1, p0, p1, rfl, rfl, rfl, h0, h1⟩ := trodAll_two hA
 obtain ⟨rfl, rfl⟩ := trodVars_none hV
 clear hA0 hval0
 simp only [List.append_nil] at hW'
 refine (law_any (hval 0 57 v0 rfl rfl) (hval 1 4 v1 rfl rfl) h0 h1).mono fun e W' ⟨he, hb⟩ => ?_
 subst he
 have same : ∀ x ∈ p0 ++ p1, W.sameAt W' x := fun x hx => hb.same (hW'.lt x hx)
 refine ⟨_, rfl, post_of_below (pa := p0 ++ (p1)) (pv := []) hW' (fun _ _ _ => trodAll_mk1 (shut_bool Tryz.underlying4 true)) (fun sp hsp => trodAll_mk2 ?_ ?_) (fun _ _ => rfl) (by simp) hb (ok_one (by kernel_rfl) rfl (okWide_true _))⟩
 ·exact WideElems.Trod_stays laidOut read57 row57 h0 (fun x hx => same x (by simp [hx])) (fun x hx => hsp x (by simp [hx]))
 ·exact WideElems.Trod_stays laidOut read4 row4 h1 (fun x hx => same x (by simp [hx])) (fun x hx => hsp x (by simp [hx]))
theorem aliasOther_holds : Rows.AliasOtherSaid :=
 OpenClaim.holds_of_wide 7 Tryz.f7 rfl rfl rfl rfl rfl rfl rfl ⟨rfl, rfl, rfl, rfl, rfl⟩ rfl rfl rfl rfl rfl (by kernel_rfl) Tryz.func7 (by kernel_rfl)
  (of_decide_eq_true (by kernel_rfl)) (by unfold Func.isWrapper; rw [if_neg (by decide +kernel)]; exact ⟨rfl, rfl⟩)
  (fun os started H enc _ => aliasOther_lifted os started H enc)

end Go.Proofs.YtpbngohpklpalaaGreat
