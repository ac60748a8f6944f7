/-
  No cell of these rows narrows 'for every input' (looked for: loops, veiled, ifaces, maps, wideKeys, modest, calm, conditions, laid).
  DERIVED. THE GIVEN ROWS OF THIS SEAT. 12 by the template 'for every input the law returns true; each argument reads behind the call as it read before'; 0 by the template 'total and deterministic' (their statements: YtpbngohpklpalaaGreatTotals.lean).
  GIVEN WITH THE SEED: the statements are not yours to turn. If you find one false, say at which input.
  Laid BY PROGRAM, IN A SANDBOX (cutbox-rows.mjs): the forced cells as the released guide's own fill.sh prints them over the translation 2a7e819eaab06cfc… (all of the seat's roots in one cut). By AI agents, Wed Nov 11 2026. No macro, syntax, notation, axiom, sorry.
-/
import Derived.Test.YtpbngohpklpalaaGreatChecked
import GoSem.Claim
import GoSem.ClaimJoined
import GoSem.ClaimMapViews
import Derived.JoinedTies
import Derived.KernelRfl
namespace Go.Proofs.YtpbngohpklpalaaGreat
/- THE CELL 'sum', in the pinned program and in every row, IS THE sha256 OF THE DUMP (.gsa) THAT YtpbngohpklpalaaGreatProg.lean LOADS. Nothing in Lean hashes anything: it is a label: what it is worth is what the hold of that sum in a sandbox is worth. -/
noncomputable def Tryz.pinned : Pinned := { name := "ytpbngohpklpalaagreat", sum := "2a7e819eaab06cfcc8e7870ba0a1ccf776fe7d2dcea257f581e13aaceb0fc9fa", checked := Tryz.checked }
namespace Rows
def none {H : Type} : Left H := { results := [], args := [] }

/-- 'locksteplaw17.AffineFinds': WHATEVER THE INPUT: true; the input reads as it did. -/
def affineFindsSpec : ChangeSpec := { name := "affineFinds", fn := fun _ => fun
  | [d1, d2] => { results := [.lit (.bool true)], args := [d1, d2] }
  | _ => none }
def affineFindsRow : OpenClaim := { program := "ytpbngohpklpalaagreat", sum := "2a7e819eaab06cfcc8e7870ba0a1ccf776fe7d2dcea257f581e13aaceb0fc9fa", func := "lockstep/locksteplaw17.AffineFinds", spec := "affineFinds", unfollowed := true, recurses := true, apart := false }
def AffineFindsSaid : Prop := affineFindsRow.holds Tryz.pinned (OpenSpec.ofChange affineFindsSpec)

/-- ITS FALSE NEIGHBOUR: 'it returns false'. Refute it at one input. -/
def affineFindsWrong : ChangeSpec := { name := "affineFinds", fn := fun _ => fun
  | [d1, d2] => { results := [.lit (.bool false)], args := [d1, d2] }
  | _ => none }
def AffineFindsWrongFalsely : Prop := affineFindsRow.holds Tryz.pinned (OpenSpec.ofChange affineFindsWrong)

/-- 'locksteplaw18.AliasTells': WHATEVER THE INPUT: true; the input reads as it did. -/
def aliasTellsSpec : ChangeSpec := { name := "aliasTells", fn := fun _ => fun
  | [d1, d2] => { results := [.lit (.bool true)], args := [d1, d2] }
  | _ => none }
def aliasTellsRow : OpenClaim := { program := "ytpbngohpklpalaagreat", sum := "2a7e819eaab06cfcc8e7870ba0a1ccf776fe7d2dcea257f581e13aaceb0fc9fa", func := "lockstep/locksteplaw18.AliasTells", spec := "aliasTells", unfollowed := true, recurses := true, apart := false }
def AliasTellsSaid : Prop := aliasTellsRow.holds Tryz.pinned (OpenSpec.ofChange aliasTellsSpec)

/-- ITS FALSE NEIGHBOUR: 'it returns false'. Refute it at one input. -/
def aliasTellsWrong : ChangeSpec := { name := "aliasTells", fn := fun _ => fun
  | [d1, d2] => { results := [.lit (.bool false)], args := [d1, d2] }
  | _ => none }
def AliasTellsWrongFalsely : Prop := aliasTellsRow.holds Tryz.pinned (OpenSpec.ofChange aliasTellsWrong)

/-- 'locksteplaw18.AliasRow': WHATEVER THE INPUT: true; the input reads as it did. -/
def aliasRowSpec : ChangeSpec := { name := "aliasRow", fn := fun _ => fun
  | [d1, d2, d3] => { results := [.lit (.bool true)], args := [d1, d2, d3] }
  | _ => none }
def aliasRowRow : OpenClaim := { program := "ytpbngohpklpalaagreat", sum := "2a7e819eaab06cfcc8e7870ba0a1ccf776fe7d2dcea257f581e13aaceb0fc9fa", func := "lockstep/locksteplaw18.AliasRow", spec := "aliasRow", unfollowed := true, recurses := true, apart := false }
def AliasRowSaid : Prop := aliasRowRow.holds Tryz.pinned (OpenSpec.ofChange aliasRowSpec)

/-- ITS FALSE NEIGHBOUR: 'it returns false'. Refute it at one input. -/
def aliasRowWrong : ChangeSpec := { name := "aliasRow", fn := fun _ => fun
  | [d1, d2, d3] => { results := [.lit (.bool false)], args := [d1, d2, d3] }
  | _ => none }
def AliasRowWrongFalsely : Prop := aliasRowRow.holds Tryz.pinned (OpenSpec.ofChange aliasRowWrong)

/-- 'locksteplaw18.AliasBoth': WHATEVER THE INPUT: true; the input reads as it did. -/
def aliasBothSpec : ChangeSpec := { name := "aliasBoth", fn := fun _ => fun
  | [d1, d2] => { results := [.lit (.bool true)], args := [d1, d2] }
  | _ => none }
def aliasBothRow : OpenClaim := { program := "ytpbngohpklpalaagreat", sum := "2a7e819eaab06cfcc8e7870ba0a1ccf776fe7d2dcea257f581e13aaceb0fc9fa", func := "lockstep/locksteplaw18.AliasBoth", spec := "aliasBoth", unfollowed := true, recurses := true, apart := false }
def AliasBothSaid : Prop := aliasBothRow.holds Tryz.pinned (OpenSpec.ofChange aliasBothSpec)

/-- ITS FALSE NEIGHBOUR: 'it returns false'. Refute it at one input. -/
def aliasBothWrong : ChangeSpec := { name := "aliasBoth", fn := fun _ => fun
  | [d1, d2] => { results := [.lit (.bool false)], args := [d1, d2] }
  | _ => none }
def AliasBothWrongFalsely : Prop := aliasBothRow.holds Tryz.pinned (OpenSpec.ofChange aliasBothWrong)

/-- 'locksteplaw18.AliasOther': WHATEVER THE INPUT: true; the input reads as it did. -/
def aliasOtherSpec : ChangeSpec := { name := "aliasOther", fn := fun _ => fun
  | [d1, d2] => { results := [.lit (.bool true)], args := [d1, d2] }
  | _ => none }
def aliasOtherRow : OpenClaim := { program := "ytpbngohpklpalaagreat", sum := "2a7e819eaab06cfcc8e7870ba0a1ccf776fe7d2dcea257f581e13aaceb0fc9fa", func := "lockstep/locksteplaw18.AliasOther", spec := "aliasOther", unfollowed := true, recurses := true, apart := false }
def AliasOtherSaid : Prop := aliasOtherRow.holds Tryz.pinned (OpenSpec.ofChange aliasOtherSpec)

/-- ITS FALSE NEIGHBOUR: 'it returns false'. Refute it at one input. -/
def aliasOtherWrong : ChangeSpec := { name := "aliasOther", fn := fun _ => fun
  | [d1, d2] => { results := [.lit (.bool false)], args := [d1, d2] }
  | _ => none }
def AliasOtherWrongFalsely : Prop := aliasOtherRow.holds Tryz.pinned (OpenSpec.ofChange aliasOtherWrong)

/-- 'locksteplaw20.PacksTell': WHATEVER THE INPUT: true; the input reads as it did. -/
def packsTellSpec : ChangeSpec := { name := "packsTell", fn := fun _ => fun
  | [d1, d2, d3] => { results := [.lit (.bool true)], args := [d1, d2, d3] }
  | _ => none }
def packsTellRow : OpenClaim := { program := "ytpbngohpklpalaagreat", sum := "2a7e819eaab06cfcc8e7870ba0a1ccf776fe7d2dcea257f581e13aaceb0fc9fa", func := "lockstep/locksteplaw20.PacksTell", spec := "packsTell", unfollowed := true, recurses := true, apart := false }
def PacksTellSaid : Prop := packsTellRow.holds Tryz.pinned (OpenSpec.ofChange packsTellSpec)

/-- ITS FALSE NEIGHBOUR: 'it returns false'. Refute it at one input. -/
def packsTellWrong : ChangeSpec := { name := "packsTell", fn := fun _ => fun
  | [d1, d2, d3] => { results := [.lit (.bool false)], args := [d1, d2, d3] }
  | _ => none }
def PacksTellWrongFalsely : Prop := packsTellRow.holds Tryz.pinned (OpenSpec.ofChange packsTellWrong)

/-- 'locksteplaw20.PacksFit': WHATEVER THE INPUT: true; the input reads as it did. -/
def packsFitSpec : ChangeSpec := { name := "packsFit", fn := fun _ => fun
  | [d1, d2] => { results := [.lit (.bool true)], args := [d1, d2] }
  | _ => none }
def packsFitRow : OpenClaim := { program := "ytpbngohpklpalaagreat", sum := "2a7e819eaab06cfcc8e7870ba0a1ccf776fe7d2dcea257f581e13aaceb0fc9fa", func := "lockstep/locksteplaw20.PacksFit", spec := "packsFit", unfollowed := true, recurses := true, apart := false }
def PacksFitSaid : Prop := packsFitRow.holds Tryz.pinned (OpenSpec.ofChange packsFitSpec)

/-- ITS FALSE NEIGHBOUR: 'it returns false'. Refute it at one input. -/
def packsFitWrong : ChangeSpec := { name := "packsFit", fn := fun _ => fun
  | [d1, d2] => { results := [.lit (.bool false)], args := [d1, d2] }
  | _ => none }
def PacksFitWrongFalsely : Prop := packsFitRow.holds Tryz.pinned (OpenSpec.ofChange packsFitWrong)

/-- 'locksteplaw20.PacksRow': WHATEVER THE INPUT: true; the input reads as it did. -/
def packsRowSpec : ChangeSpec := { name := "packsRow", fn := fun _ => fun
  | [d1, d2] => { results := [.lit (.bool true)], args := [d1, d2] }
  | _ => none }
def packsRowRow : OpenClaim := { program := "ytpbngohpklpalaagreat", sum := "2a7e819eaab06cfcc8e7870ba0a1ccf776fe7d2dcea257f581e13aaceb0fc9fa", func := "lockstep/locksteplaw20.PacksRow", spec := "packsRow", unfollowed := true, recurses := true, apart := false }
def PacksRowSaid : Prop := packsRowRow.holds Tryz.pinned (OpenSpec.ofChange packsRowSpec)

/-- ITS FALSE NEIGHBOUR: 'it returns false'. Refute it at one input. -/
def packsRowWrong : ChangeSpec := { name := "packsRow", fn := fun _ => fun
  | [d1, d2] => { results := [.lit (.bool false)], args := [d1, d2] }
  | _ => none }
def PacksRowWrongFalsely : Prop := packsRowRow.holds Tryz.pinned (OpenSpec.ofChange packsRowWrong)

/-- 'locksteplaw20.PacksPure': WHATEVER THE INPUT: true; the input reads as it did. -/
def packsPureSpec : ChangeSpec := { name := "packsPure", fn := fun _ => fun
  | [d1, d2] => { results := [.lit (.bool true)], args := [d1, d2] }
  | _ => none }
def packsPureRow : OpenClaim := { program := "ytpbngohpklpalaagreat", sum := "2a7e819eaab06cfcc8e7870ba0a1ccf776fe7d2dcea257f581e13aaceb0fc9fa", func := "lockstep/locksteplaw20.PacksPure", spec := "packsPure", unfollowed := true, recurses := true, apart := false }
def PacksPureSaid : Prop := packsPureRow.holds Tryz.pinned (OpenSpec.ofChange packsPureSpec)

/-- ITS FALSE NEIGHBOUR: 'it returns false'. Refute it at one input. -/
def packsPureWrong : ChangeSpec := { name := "packsPure", fn := fun _ => fun
  | [d1, d2] => { results := [.lit (.bool false)], args := [d1, d2] }
  | _ => none }
def PacksPureWrongFalsely : Prop := packsPureRow.holds Tryz.pinned (OpenSpec.ofChange packsPureWrong)

/-- 'locksteplaw20.PacksTwice': WHATEVER THE INPUT: true; the input reads as it did. -/
def packsTwiceSpec : ChangeSpec := { name := "packsTwice", fn := fun _ => fun
  | [d1, d2] => { results := [.lit (.bool true)], args := [d1, d2] }
  | _ => none }
def packsTwiceRow : OpenClaim := { program := "ytpbngohpklpalaagreat", sum := "2a7e819eaab06cfcc8e7870ba0a1ccf776fe7d2dcea257f581e13aaceb0fc9fa", func := "lockstep/locksteplaw20.PacksTwice", spec := "packsTwice", unfollowed := true, recurses := true, apart := false }
def PacksTwiceSaid : Prop := packsTwiceRow.holds Tryz.pinned (OpenSpec.ofChange packsTwiceSpec)

/-- ITS FALSE NEIGHBOUR: 'it returns false'. Refute it at one input. -/
def packsTwiceWrong : ChangeSpec := { name := "packsTwice", fn := fun _ => fun
  | [d1, d2] => { results := [.lit (.bool false)], args := [d1, d2] }
  | _ => none }
def PacksTwiceWrongFalsely : Prop := packsTwiceRow.holds Tryz.pinned (OpenSpec.ofChange packsTwiceWrong)

/-- 'locksteplaw22.SlpEmits': WHATEVER THE INPUT: true; the input reads as it did. -/
def slpEmitsSpec : ChangeSpec := { name := "slpEmits", fn := fun _ => fun
  | [d1, d2, d3] => { results := [.lit (.bool true)], args := [d1, d2, d3] }
  | _ => none }
def slpEmitsRow : OpenClaim := { program := "ytpbngohpklpalaagreat", sum := "2a7e819eaab06cfcc8e7870ba0a1ccf776fe7d2dcea257f581e13aaceb0fc9fa", func := "lockstep/locksteplaw22.SlpEmits", spec := "slpEmits", unfollowed := true, recurses := true, apart := false }
def SlpEmitsSaid : Prop := slpEmitsRow.holds Tryz.pinned (OpenSpec.ofChange slpEmitsSpec)

/-- ITS FALSE NEIGHBOUR: 'it returns false'. Refute it at one input. -/
def slpEmitsWrong : ChangeSpec := { name := "slpEmits", fn := fun _ => fun
  | [d1, d2, d3] => { results := [.lit (.bool false)], args := [d1, d2, d3] }
  | _ => none }
def SlpEmitsWrongFalsely : Prop := slpEmitsRow.holds Tryz.pinned (OpenSpec.ofChange slpEmitsWrong)

/-- 'locksteplaw22.SlpNone': WHATEVER THE INPUT: true; the input reads as it did. -/
def slpNoneSpec : ChangeSpec := { name := "slpNone", fn := fun _ => fun
  | [d1, d2] => { results := [.lit (.bool true)], args := [d1, d2] }
  | _ => none }
def slpNoneRow : OpenClaim := { program := "ytpbngohpklpalaagreat", sum := "2a7e819eaab06cfcc8e7870ba0a1ccf776fe7d2dcea257f581e13aaceb0fc9fa", func := "lockstep/locksteplaw22.SlpNone", spec := "slpNone", unfollowed := true, recurses := true, apart := false }
def SlpNoneSaid : Prop := slpNoneRow.holds Tryz.pinned (OpenSpec.ofChange slpNoneSpec)

/-- ITS FALSE NEIGHBOUR: 'it returns false'. Refute it at one input. -/
def slpNoneWrong : ChangeSpec := { name := "slpNone", fn := fun _ => fun
  | [d1, d2] => { results := [.lit (.bool false)], args := [d1, d2] }
  | _ => none }
def SlpNoneWrongFalsely : Prop := slpNoneRow.holds Tryz.pinned (OpenSpec.ofChange slpNoneWrong)

/- THE SECOND FORM. 'bulk': how many values and letters a reading holds, each counted each time it is reached (what is shared counts as often as it is met; a slice's spare places count too). A statement '..UptoSaid' is the law's where the arguments, and the package variables that the reading takes, are together of bulk at most 1048576: NARROWER than '..Said'. Prove '..Said' where nothing that the law and all that it calls make is longer than what came in: it says more and counts as full. Else prove '..UptoSaid'. A law counts once. -/
mutual
def uptoBulk {H : Type} : DataW H → Nat
  | .lit (.string bytes) => bytes.length + 1
  | .lit _ => 1
  | .nil => 1
  | .ptr d => uptoBulk d + 1
  | .slice elems spare => uptoBulkAll elems + uptoBulkAll spare + 1
  | .agg parts => uptoBulkAll parts + 1
  | .iface _ d => uptoBulk d + 1
  | .map entries => uptoBulkEntries entries + 1
  | .held _ => 1
def uptoBulkAll {H : Type} : List (DataW H) → Nat
  | [] => 0
  | d :: r => uptoBulk d + uptoBulkAll r
def uptoBulkEntries {H : Type} : List (Lit × DataW H) → Nat
  | [] => 0
  | x :: r => uptoBulkEntry x + uptoBulkEntries r
def uptoBulkEntry {H : Type} : Lit × DataW H → Nat
  | (.string bytes, d) => bytes.length + uptoBulk d + 1
  | (_, d) => uptoBulk d + 1
 end
def uptoSmall : (H : Type) → List (DataW H) → Bool := fun _ ds => decide (uptoBulkAll ds ≤ 1048576)
def OpenSpec.upto (s : _root_.Go.ChangeSpec) : _root_.Go.OpenSpec := { _root_.Go.OpenSpec.ofChange s with cond := some uptoSmall }

/-- 'locksteplaw17.AffineFinds', WHERE WHAT IT READS IS OF BULK AT MOST 1048576: true; the input reads as it did. -/
def affineFindsUptoRow : OpenClaim := { program := "ytpbngohpklpalaagreat", sum := "2a7e819eaab06cfcc8e7870ba0a1ccf776fe7d2dcea257f581e13aaceb0fc9fa", func := "lockstep/locksteplaw17.AffineFinds", spec := "affineFinds", unfollowed := true, recurses := true, apart := false, narrowed := true }
def AffineFindsUptoSaid : Prop := affineFindsUptoRow.holds Tryz.pinned (OpenSpec.upto affineFindsSpec)

/-- 'locksteplaw18.AliasTells', WHERE WHAT IT READS IS OF BULK AT MOST 1048576: true; the input reads as it did. -/
def aliasTellsUptoRow : OpenClaim := { program := "ytpbngohpklpalaagreat", sum := "2a7e819eaab06cfcc8e7870ba0a1ccf776fe7d2dcea257f581e13aaceb0fc9fa", func := "lockstep/locksteplaw18.AliasTells", spec := "aliasTells", unfollowed := true, recurses := true, apart := false, narrowed := true }
def AliasTellsUptoSaid : Prop := aliasTellsUptoRow.holds Tryz.pinned (OpenSpec.upto aliasTellsSpec)

/-- 'locksteplaw18.AliasRow', WHERE WHAT IT READS IS OF BULK AT MOST 1048576: true; the input reads as it did. -/
def aliasRowUptoRow : OpenClaim := { program := "ytpbngohpklpalaagreat", sum := "2a7e819eaab06cfcc8e7870ba0a1ccf776fe7d2dcea257f581e13aaceb0fc9fa", func := "lockstep/locksteplaw18.AliasRow", spec := "aliasRow", unfollowed := true, recurses := true, apart := false, narrowed := true }
def AliasRowUptoSaid : Prop := aliasRowUptoRow.holds Tryz.pinned (OpenSpec.upto aliasRowSpec)

/-- 'locksteplaw18.AliasBoth', WHERE WHAT IT READS IS OF BULK AT MOST 1048576: true; the input reads as it did. -/
def aliasBothUptoRow : OpenClaim := { program := "ytpbngohpklpalaagreat", sum := "2a7e819eaab06cfcc8e7870ba0a1ccf776fe7d2dcea257f581e13aaceb0fc9fa", func := "lockstep/locksteplaw18.AliasBoth", spec := "aliasBoth", unfollowed := true, recurses := true, apart := false, narrowed := true }
def AliasBothUptoSaid : Prop := aliasBothUptoRow.holds Tryz.pinned (OpenSpec.upto aliasBothSpec)

/-- 'locksteplaw18.AliasOther', WHERE WHAT IT READS IS OF BULK AT MOST 1048576: true; the input reads as it did. -/
def aliasOtherUptoRow : OpenClaim := { program := "ytpbngohpklpalaagreat", sum := "2a7e819eaab06cfcc8e7870ba0a1ccf776fe7d2dcea257f581e13aaceb0fc9fa", func := "lockstep/locksteplaw18.AliasOther", spec := "aliasOther", unfollowed := true, recurses := true, apart := false, narrowed := true }
def AliasOtherUptoSaid : Prop := aliasOtherUptoRow.holds Tryz.pinned (OpenSpec.upto aliasOtherSpec)

/-- 'locksteplaw20.PacksTell', WHERE WHAT IT READS IS OF BULK AT MOST 1048576: true; the input reads as it did. -/
def packsTellUptoRow : OpenClaim := { program := "ytpbngohpklpalaagreat", sum := "2a7e819eaab06cfcc8e7870ba0a1ccf776fe7d2dcea257f581e13aaceb0fc9fa", func := "lockstep/locksteplaw20.PacksTell", spec := "packsTell", unfollowed := true, recurses := true, apart := false, narrowed := true }
def PacksTellUptoSaid : Prop := packsTellUptoRow.holds Tryz.pinned (OpenSpec.upto packsTellSpec)

/-- 'locksteplaw20.PacksFit', WHERE WHAT IT READS IS OF BULK AT MOST 1048576: true; the input reads as it did. -/
def packsFitUptoRow : OpenClaim := { program := "ytpbngohpklpalaagreat", sum := "2a7e819eaab06cfcc8e7870ba0a1ccf776fe7d2dcea257f581e13aaceb0fc9fa", func := "lockstep/locksteplaw20.PacksFit", spec := "packsFit", unfollowed := true, recurses := true, apart := false, narrowed := true }
def PacksFitUptoSaid : Prop := packsFitUptoRow.holds Tryz.pinned (OpenSpec.upto packsFitSpec)

/-- 'locksteplaw20.PacksRow', WHERE WHAT IT READS IS OF BULK AT MOST 1048576: true; the input reads as it did. -/
def packsRowUptoRow : OpenClaim := { program := "ytpbngohpklpalaagreat", sum := "2a7e819eaab06cfcc8e7870ba0a1ccf776fe7d2dcea257f581e13aaceb0fc9fa", func := "lockstep/locksteplaw20.PacksRow", spec := "packsRow", unfollowed := true, recurses := true, apart := false, narrowed := true }
def PacksRowUptoSaid : Prop := packsRowUptoRow.holds Tryz.pinned (OpenSpec.upto packsRowSpec)

/-- 'locksteplaw20.PacksPure', WHERE WHAT IT READS IS OF BULK AT MOST 1048576: true; the input reads as it did. -/
def packsPureUptoRow : OpenClaim := { program := "ytpbngohpklpalaagreat", sum := "2a7e819eaab06cfcc8e7870ba0a1ccf776fe7d2dcea257f581e13aaceb0fc9fa", func := "lockstep/locksteplaw20.PacksPure", spec := "packsPure", unfollowed := true, recurses := true, apart := false, narrowed := true }
def PacksPureUptoSaid : Prop := packsPureUptoRow.holds Tryz.pinned (OpenSpec.upto packsPureSpec)

/-- 'locksteplaw20.PacksTwice', WHERE WHAT IT READS IS OF BULK AT MOST 1048576: true; the input reads as it did. -/
def packsTwiceUptoRow : OpenClaim := { program := "ytpbngohpklpalaagreat", sum := "2a7e819eaab06cfcc8e7870ba0a1ccf776fe7d2dcea257f581e13aaceb0fc9fa", func := "lockstep/locksteplaw20.PacksTwice", spec := "packsTwice", unfollowed := true, recurses := true, apart := false, narrowed := true }
def PacksTwiceUptoSaid : Prop := packsTwiceUptoRow.holds Tryz.pinned (OpenSpec.upto packsTwiceSpec)

/-- 'locksteplaw22.SlpEmits', WHERE WHAT IT READS IS OF BULK AT MOST 1048576: true; the input reads as it did. -/
def slpEmitsUptoRow : OpenClaim := { program := "ytpbngohpklpalaagreat", sum := "2a7e819eaab06cfcc8e7870ba0a1ccf776fe7d2dcea257f581e13aaceb0fc9fa", func := "lockstep/locksteplaw22.SlpEmits", spec := "slpEmits", unfollowed := true, recurses := true, apart := false, narrowed := true }
def SlpEmitsUptoSaid : Prop := slpEmitsUptoRow.holds Tryz.pinned (OpenSpec.upto slpEmitsSpec)

/-- 'locksteplaw22.SlpNone', WHERE WHAT IT READS IS OF BULK AT MOST 1048576: true; the input reads as it did. -/
def slpNoneUptoRow : OpenClaim := { program := "ytpbngohpklpalaagreat", sum := "2a7e819eaab06cfcc8e7870ba0a1ccf776fe7d2dcea257f581e13aaceb0fc9fa", func := "lockstep/locksteplaw22.SlpNone", spec := "slpNone", unfollowed := true, recurses := true, apart := false, narrowed := true }
def SlpNoneUptoSaid : Prop := slpNoneUptoRow.holds Tryz.pinned (OpenSpec.upto slpNoneSpec)

end Rows
end Go.Proofs.YtpbngohpklpalaaGreat
