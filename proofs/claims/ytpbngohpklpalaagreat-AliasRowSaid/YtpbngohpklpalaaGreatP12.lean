/- A part of the proof: an abstract machine for the program's code and what each of its functions comes to there. No conditions. -/
import Derived.Test.YtpbngohpklpalaaGreatP11
import Derived.Test.YtpbngohpklpalaaGreatRows

set_option linter.unusedSimpArgs false
set_option linter.unusedVariables false

/- The law aliasRow: the given statement. No conditions. -/
namespace Go.Proofs.YtpbngohpklpalaaGreat
open Go.LS
open Go.ChangeShapes Go.WideShapes Go.ChangeAt Go.RowKit
theorem own : ownKnob Tryz.prog.godebug = none := by kernel_rfl
theorem laidOut : laidOutB Tryz.prog = true := by kernel_rfl
theorem read5 : Tryz.prog.readableRec 5 = true := by kernel_rfl
theorem row5 : 5 < Tryz.prog.types.size := of_decide_eq_true (by kernel_rfl)
theorem read29 : Tryz.prog.readableRec 29 = true := by kernel_rfl
theorem row29 : 29 < Tryz.prog.types.size := of_decide_eq_true (by kernel_rfl)
theorem wf_u64 {n : Int} (h : (Lit.int .u64 n).wf = true) : 0 ≤ n ∧ n < 18446744073709551616 := by
 simp only [Lit.wf, Bool.and_eq_true, decide_eq_true_eq] at h
 have h1 : IntKind.u64.min = 0 := rfl
 have h2 : IntKind.u64.max = 18446744073709551615 := rfl
 omega
theorem wf_u8 {n : Int} (h : (Lit.int .u8 n).wf = true) : 0 ≤ n ∧ n < 256 := by
 simp only [Lit.wf, Bool.and_eq_true, decide_eq_true_eq] at h
 have h1 : IntKind.u8.min = 0 := rfl
 have h2 : IntKind.u8.max = 255 := rfl
 omega
set_option maxRecDepth 100000 in
theorem okWide_true (W : World) : Value.okWide Tryz.prog W .any 0 4 (.bool true) := okWide_bool_mk (t := 4) Tryz.underlying4 true
theorem told_bool {P : Program} {w : World} {t : TypeId} (ht : P.underlying t = some .bool) {H : Type} {eh : TypeId × Value → H} {r : Reach} {b0 base : Nat} {sp : Nat → Bool} {held : Bool} {v : Value} {d : DataW H} {ps : List MemPlace}
  (hval : Value.okWide P w r b0 t v) (hd : DataW.Trod eh P w base sp held t v d ps) : ∃ b : Bool, R (memG w) (.bool b) v := by
 obtain ⟨n, rfl⟩ := Go.WideShapes.okWide_bool ht hval
 exact ⟨n, .bool n⟩

set_option maxRecDepth 100000 in
theorem law_any {H : Type} {enc : TypeId × Value → H} {W : World} {base : Nat} {v0 v1 v2 : Value} {d0 d1 d2 : DataW H} {p0 p1 p2 : List MemPlace} (o0 : Value.okWide Tryz.prog W .any base 5 v0) (o1 : Value.okWide Tryz.prog W .any base 5 v1) (o2 : Value.okWide Tryz.prog W .any base 29 v2)
  (h0 : DataW.Trod enc Tryz.prog W 0 (fun _ => true) true 5 v0 d0 p0) (h1 : DataW.Trod enc Tryz.prog W 0 (fun _ => true) true 5 v1 d1 p1) (h2 : DataW.Trod enc Tryz.prog W 0 (fun _ => true) true 29 v2 d2 p2) :
  Calls Tryz.prog 5 #[v0, v1, v2] W fun e W' => e = .returned (.bool true) ∧ Below W.heap.size W W' := by
 obtain ⟨a0, r0, w0⟩ := LS.told_int Tryz.underlying5 o0 h0
 obtain ⟨a1, r1, w1⟩ := LS.told_int Tryz.underlying5 o1 h1
 obtain ⟨a2, r2, w2⟩ := LS.told_int Tryz.underlying29 o2 h2
 refine (call_reads T_ok (aliasRow_run a0 a1 a2 (wf_u8 w0) (wf_u8 w1) (wf_u64 w2) _) (cargs := #[v0, v1, v2]) rfl (fun j x hj => ?_)).mono ?_
 ·rcases j with _ | _ | _ | j
  ·simp at hj; subst hj; exact r0
  ·simp at hj; subst hj; exact r1
  ·simp at hj; subst hj; exact r2
  ·simp at hj
 ·rintro e W' ⟨cv, G', rfl, hv, hb⟩
  cases hv
  exact ⟨rfl, hb⟩

set_option maxRecDepth 100000 in
theorem aliasRow_lifted (os : Os) (started : os.Started) (H : Type) (enc : TypeId × Value → H) :
  ReturnsInHanded {} Tryz.checked os 5 .any (Rows.aliasRowSpec.pre6 enc Tryz.prog Tryz.f5 Rows.aliasRowRow.domain false) (Rows.aliasRowSpec.post enc Tryz.prog Tryz.f5 false true false false) := by
 refine returnsInHanded_of_change (C := Tryz.checked) own started (by kernel_rfl) Tryz.func5
  (ChangeSpec.witness6 (enc := enc) (C := Tryz.checked) false ⟨#[], #[.int .u8 0, .int .u8 0, .int .u64 0], []⟩ 8 (by kernel_rfl) (by kernel_rfl) (by kernel_rfl) (by kernel_rfl)) ?_
 intro W base args ds gs before hval0 hW hcnd _
 have hval : ∀ (j : Nat) t v, Tryz.f5.params[j]? = some t → args[j]? = some v → Value.okWide Tryz.prog W .any base t v := hval0
 have hW' := hW
 obtain ⟨p, q, hA0, hV, rfl, hfz, hnd⟩ := hW
 have hA : DataW.TrodAll enc Tryz.prog W 0 (fun _ => true) true Tryz.f5.params.toList args.toList ds p := hA0
 rw [Tryz.params5] at hA hval
 obtain ⟨v0, v1, v2, d0, d1, d2, p0, p1, p2, rfl, rfl, rfl, h0, h1, h2⟩ := trodAll_three hA
 obtain ⟨rfl, rfl⟩ := trodVars_none hV
 clear hA0 hval0
 simp only [List.append_nil] at hW'
 refine (law_any (hval 0 5 v0 rfl rfl) (hval 1 5 v1 rfl rfl) (hval 2 29 v2 rfl rfl) h0 h1 h2).mono fun e W' ⟨he, hb⟩ => ?_
 subst he
 have same : ∀ x ∈ p0 ++ p1 ++ p2, W.sameAt W' x := fun x hx => hb.same (hW'.lt x hx)
 refine ⟨_, rfl, post_of_below (pa := p0 ++ (p1 ++ p2)) (pv := []) hW' (fun _ _ _ => trodAll_mk1 (shut_bool Tryz.underlying4 true)) (fun sp hsp => trodAll_mk3 ?_ ?_ ?_) (fun _ _ => rfl) (by simp) hb (ok_one (by kernel_rfl) rfl (okWide_true _))⟩
 ·exact WideElems.Trod_stays laidOut read5 row5 h0 (fun x hx => same x (by simp [hx])) (fun x hx => hsp x (by simp [hx]))
 ·exact WideElems.Trod_stays laidOut read5 row5 h1 (fun x hx => same x (by simp [hx])) (fun x hx => hsp x (by simp [hx]))
 ·exact WideElems.Trod_stays laidOut read29 row29 h2 (fun x hx => same x (by simp [hx])) (fun x hx => hsp x (by simp [hx]))
theorem aliasRow_holds : Rows.AliasRowSaid :=
 OpenClaim.holds_of_wide 5 Tryz.f5 rfl rfl rfl rfl rfl rfl rfl ⟨rfl, rfl, rfl, rfl, rfl⟩ rfl rfl rfl rfl rfl (by kernel_rfl) Tryz.func5 (by kernel_rfl)
  (of_decide_eq_true (by kernel_rfl)) (by unfold Func.isWrapper; rw [if_neg (by decide +kernel)]; exact ⟨rfl, rfl⟩)
  (fun os started H enc _ => aliasRow_lifted os started H enc)

end Go.Proofs.YtpbngohpklpalaaGreat
