/-
  No cell of these rows narrows 'for every input' (looked for: loops, veiled, ifaces, maps, wideKeys, modest, calm, conditions, laid).
  DERIVED. THE GIVEN ROWS OF THIS SEAT. 5 by the template 'for every input the law returns true; each argument reads behind the call as it read before'; 0 by the template 'total and deterministic' (their statements: YtcngflmnbdcppaaGreatTotals.lean).
  GIVEN WITH THE SEED: the statements are not yours to turn. If you find one false, say at which input.
  Laid BY PROGRAM, IN A SANDBOX (cutbox-rows.mjs): the forced cells as the released guide's own fill.sh prints them over the translation 6af2c4a9c289a0cd… (all of the seat's roots in one cut). By AI agents, Wed Nov 11 2026. No macro, syntax, notation, axiom, sorry.
-/
import Derived.Test.YtcngflmnbdcppaaGreatChecked
import GoSem.Claim
import GoSem.ClaimJoined
import GoSem.ClaimMapViews
import Derived.JoinedTies
import Derived.KernelRfl
namespace Go.Proofs.YtcngflmnbdcppaaGreat
/- THE CELL 'sum', in the pinned program and in every row, IS THE sha256 OF THE DUMP (.gsa) THAT YtcngflmnbdcppaaGreatProg.lean LOADS. Nothing in Lean hashes anything: it is a label: what it is worth is what the hold of that sum in a sandbox is worth. -/
noncomputable def Tryz.pinned : Pinned := { name := "ytcngflmnbdcppaagreat", sum := "6af2c4a9c289a0cd67978aa6119e935d414f651f9d0734767587322044a9667e", checked := Tryz.checked }
namespace Rows
def none {H : Type} : Left H := { results := [], args := [] }

/-- 'locksteplaw17.AffineSums': WHATEVER THE INPUT: true; the input reads as it did. -/
def affineSumsSpec : ChangeSpec := { name := "affineSums", fn := fun _ => fun
  | [d1, d2, d3] => { results := [.lit (.bool true)], args := [d1, d2, d3] }
  | _ => none }
def affineSumsRow : OpenClaim := { program := "ytcngflmnbdcppaagreat", sum := "6af2c4a9c289a0cd67978aa6119e935d414f651f9d0734767587322044a9667e", func := "lockstep/locksteplaw17.AffineSums", spec := "affineSums", unfollowed := true, recurses := true, apart := false }
def AffineSumsSaid : Prop := affineSumsRow.holds Tryz.pinned (OpenSpec.ofChange affineSumsSpec)

/-- ITS FALSE NEIGHBOUR: 'it returns false'. Refute it at one input. -/
def affineSumsWrong : ChangeSpec := { name := "affineSums", fn := fun _ => fun
  | [d1, d2, d3] => { results := [.lit (.bool false)], args := [d1, d2, d3] }
  | _ => none }
def AffineSumsWrongFalsely : Prop := affineSumsRow.holds Tryz.pinned (OpenSpec.ofChange affineSumsWrong)

/-- 'locksteplaw17.AffineFinds': WHATEVER THE INPUT: true; the input reads as it did. -/
def affineFindsSpec : ChangeSpec := { name := "affineFinds", fn := fun _ => fun
  | [d1, d2] => { results := [.lit (.bool true)], args := [d1, d2] }
  | _ => none }
def affineFindsRow : OpenClaim := { program := "ytcngflmnbdcppaagreat", sum := "6af2c4a9c289a0cd67978aa6119e935d414f651f9d0734767587322044a9667e", func := "lockstep/locksteplaw17.AffineFinds", spec := "affineFinds", unfollowed := true, recurses := true, apart := false }
def AffineFindsSaid : Prop := affineFindsRow.holds Tryz.pinned (OpenSpec.ofChange affineFindsSpec)

/-- ITS FALSE NEIGHBOUR: 'it returns false'. Refute it at one input. -/
def affineFindsWrong : ChangeSpec := { name := "affineFinds", fn := fun _ => fun
  | [d1, d2] => { results := [.lit (.bool false)], args := [d1, d2] }
  | _ => none }
def AffineFindsWrongFalsely : Prop := affineFindsRow.holds Tryz.pinned (OpenSpec.ofChange affineFindsWrong)

/-- 'locksteplaw17.AffineRing': WHATEVER THE INPUT: true; the input reads as it did. -/
def affineRingSpec : ChangeSpec := { name := "affineRing", fn := fun _ => fun
  | [d1, d2, d3] => { results := [.lit (.bool true)], args := [d1, d2, d3] }
  | _ => none }
def affineRingRow : OpenClaim := { program := "ytcngflmnbdcppaagreat", sum := "6af2c4a9c289a0cd67978aa6119e935d414f651f9d0734767587322044a9667e", func := "lockstep/locksteplaw17.AffineRing", spec := "affineRing", unfollowed := true, recurses := true, apart := false }
def AffineRingSaid : Prop := affineRingRow.holds Tryz.pinned (OpenSpec.ofChange affineRingSpec)

/-- ITS FALSE NEIGHBOUR: 'it returns false'. Refute it at one input. -/
def affineRingWrong : ChangeSpec := { name := "affineRing", fn := fun _ => fun
  | [d1, d2, d3] => { results := [.lit (.bool false)], args := [d1, d2, d3] }
  | _ => none }
def AffineRingWrongFalsely : Prop := affineRingRow.holds Tryz.pinned (OpenSpec.ofChange affineRingWrong)

/-- 'locksteplaw17.AffineSteps': WHATEVER THE INPUT: true; the input reads as it did. -/
def affineStepsSpec : ChangeSpec := { name := "affineSteps", fn := fun _ => fun
  | [d1, d2, d3] => { results := [.lit (.bool true)], args := [d1, d2, d3] }
  | _ => none }
def affineStepsRow : OpenClaim := { program := "ytcngflmnbdcppaagreat", sum := "6af2c4a9c289a0cd67978aa6119e935d414f651f9d0734767587322044a9667e", func := "lockstep/locksteplaw17.AffineSteps", spec := "affineSteps", unfollowed := true, recurses := true, apart := false }
def AffineStepsSaid : Prop := affineStepsRow.holds Tryz.pinned (OpenSpec.ofChange affineStepsSpec)

/-- ITS FALSE NEIGHBOUR: 'it returns false'. Refute it at one input. -/
def affineStepsWrong : ChangeSpec := { name := "affineSteps", fn := fun _ => fun
  | [d1, d2, d3] => { results := [.lit (.bool false)], args := [d1, d2, d3] }
  | _ => none }
def AffineStepsWrongFalsely : Prop := affineStepsRow.holds Tryz.pinned (OpenSpec.ofChange affineStepsWrong)

/-- 'locksteplaw17.AffineScales': WHATEVER THE INPUT: true; the input reads as it did. -/
def affineScalesSpec : ChangeSpec := { name := "affineScales", fn := fun _ => fun
  | [d1, d2] => { results := [.lit (.bool true)], args := [d1, d2] }
  | _ => none }
def affineScalesRow : OpenClaim := { program := "ytcngflmnbdcppaagreat", sum := "6af2c4a9c289a0cd67978aa6119e935d414f651f9d0734767587322044a9667e", func := "lockstep/locksteplaw17.AffineScales", spec := "affineScales", unfollowed := true, recurses := true, apart := false }
def AffineScalesSaid : Prop := affineScalesRow.holds Tryz.pinned (OpenSpec.ofChange affineScalesSpec)

/-- ITS FALSE NEIGHBOUR: 'it returns false'. Refute it at one input. -/
def affineScalesWrong : ChangeSpec := { name := "affineScales", fn := fun _ => fun
  | [d1, d2] => { results := [.lit (.bool false)], args := [d1, d2] }
  | _ => none }
def AffineScalesWrongFalsely : Prop := affineScalesRow.holds Tryz.pinned (OpenSpec.ofChange affineScalesWrong)

/- THE SECOND FORM. 'bulk': how many values and letters a reading holds, each counted each time it is reached (what is shared counts as often as it is met; a slice's spare places count too). A statement '..UptoSaid' is the law's where the arguments, and the package variables that the reading takes, are together of bulk at most 1048576: NARROWER than '..Said'. Prove '..Said' where nothing that the law and all that it calls make is longer than what came in: it says more and counts as full. Else prove '..UptoSaid'. A law counts once. -/
mutual
def uptoBulk {H : Type} : DataW H → Nat
  | .lit (.string bytes) => bytes.length + 1
  | .lit _ => 1
  | .nil => 1
  | .ptr d => uptoBulk d + 1
  | .slice elems spare => uptoBulkAll elems + uptoBulkAll spare + 1
  | .agg parts => uptoBulkAll parts + 1
  | .iface _ d => uptoBulk d + 1
  | .map entries => uptoBulkEntries entries + 1
  | .held _ => 1
def uptoBulkAll {H : Type} : List (DataW H) → Nat
  | [] => 0
  | d :: r => uptoBulk d + uptoBulkAll r
def uptoBulkEntries {H : Type} : List (Lit × DataW H) → Nat
  | [] => 0
  | x :: r => uptoBulkEntry x + uptoBulkEntries r
def uptoBulkEntry {H : Type} : Lit × DataW H → Nat
  | (.string bytes, d) => bytes.length + uptoBulk d + 1
  | (_, d) => uptoBulk d + 1
 end
def uptoSmall : (H : Type) → List (DataW H) → Bool := fun _ ds => decide (uptoBulkAll ds ≤ 1048576)
def OpenSpec.upto (s : _root_.Go.ChangeSpec) : _root_.Go.OpenSpec := { _root_.Go.OpenSpec.ofChange s with cond := some uptoSmall }

/-- 'locksteplaw17.AffineSums', WHERE WHAT IT READS IS OF BULK AT MOST 1048576: true; the input reads as it did. -/
def affineSumsUptoRow : OpenClaim := { program := "ytcngflmnbdcppaagreat", sum := "6af2c4a9c289a0cd67978aa6119e935d414f651f9d0734767587322044a9667e", func := "lockstep/locksteplaw17.AffineSums", spec := "affineSums", unfollowed := true, recurses := true, apart := false, narrowed := true }
def AffineSumsUptoSaid : Prop := affineSumsUptoRow.holds Tryz.pinned (OpenSpec.upto affineSumsSpec)

/-- 'locksteplaw17.AffineFinds', WHERE WHAT IT READS IS OF BULK AT MOST 1048576: true; the input reads as it did. -/
def affineFindsUptoRow : OpenClaim := { program := "ytcngflmnbdcppaagreat", sum := "6af2c4a9c289a0cd67978aa6119e935d414f651f9d0734767587322044a9667e", func := "lockstep/locksteplaw17.AffineFinds", spec := "affineFinds", unfollowed := true, recurses := true, apart := false, narrowed := true }
def AffineFindsUptoSaid : Prop := affineFindsUptoRow.holds Tryz.pinned (OpenSpec.upto affineFindsSpec)

/-- 'locksteplaw17.AffineRing', WHERE WHAT IT READS IS OF BULK AT MOST 1048576: true; the input reads as it did. -/
def affineRingUptoRow : OpenClaim := { program := "ytcngflmnbdcppaagreat", sum := "6af2c4a9c289a0cd67978aa6119e935d414f651f9d0734767587322044a9667e", func := "lockstep/locksteplaw17.AffineRing", spec := "affineRing", unfollowed := true, recurses := true, apart := false, narrowed := true }
def AffineRingUptoSaid : Prop := affineRingUptoRow.holds Tryz.pinned (OpenSpec.upto affineRingSpec)

/-- 'locksteplaw17.AffineSteps', WHERE WHAT IT READS IS OF BULK AT MOST 1048576: true; the input reads as it did. -/
def affineStepsUptoRow : OpenClaim := { program := "ytcngflmnbdcppaagreat", sum := "6af2c4a9c289a0cd67978aa6119e935d414f651f9d0734767587322044a9667e", func := "lockstep/locksteplaw17.AffineSteps", spec := "affineSteps", unfollowed := true, recurses := true, apart := false, narrowed := true }
def AffineStepsUptoSaid : Prop := affineStepsUptoRow.holds Tryz.pinned (OpenSpec.upto affineStepsSpec)

/-- 'locksteplaw17.AffineScales', WHERE WHAT IT READS IS OF BULK AT MOST 1048576: true; the input reads as it did. -/
def affineScalesUptoRow : OpenClaim := { program := "ytcngflmnbdcppaagreat", sum := "6af2c4a9c289a0cd67978aa6119e935d414f651f9d0734767587322044a9667e", func := "lockstep/locksteplaw17.AffineScales", spec := "affineScales", unfollowed := true, recurses := true, apart := false, narrowed := true }
def AffineScalesUptoSaid : Prop := affineScalesUptoRow.holds Tryz.pinned (OpenSpec.upto affineScalesSpec)

end Rows
end Go.Proofs.YtcngflmnbdcppaaGreat
