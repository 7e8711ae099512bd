/-
  No cell of these rows narrows 'for every input' (looked for: loops, veiled, ifaces, maps, wideKeys, modest, calm, conditions, laid).
  DERIVED. THE GIVEN ROWS OF THIS SEAT. 9 by the template 'for every input the law returns true; each argument reads behind the call as it read before'; 0 by the template 'total and deterministic' (their statements: YtlmlkedcinobiaaTotals.lean).
  GIVEN WITH THE SEED: the statements are not yours to turn. If you find one false, say at which input.
  Laid BY PROGRAM, IN A SANDBOX (cutbox-rows.mjs): the forced cells as the released guide's own fill.sh prints them over the translation 587c7122f6e07dc7… (all of the seat's roots in one cut). By AI agents, Wed Nov 11 2026. No macro, syntax, notation, axiom, sorry.
-/
import Derived.Test.YtlmlkedcinobiaaChecked
import GoSem.Claim
import GoSem.ClaimJoined
import GoSem.ClaimMapViews
import Derived.JoinedTies
import Derived.KernelRfl
namespace Go.Proofs.Ytlmlkedcinobiaa
/- THE CELL 'sum', in the pinned program and in every row, IS THE sha256 OF THE DUMP (.gsa) THAT YtlmlkedcinobiaaProg.lean LOADS. Nothing in Lean hashes anything: it is a label: what it is worth is what the hold of that sum in a sandbox is worth. -/
noncomputable def Try.pinned : Pinned := { name := "ytlmlkedcinobiaa", sum := "587c7122f6e07dc7c97ebb62775271b163aaebcd7e22c3dabbafbb158c21eacd", checked := Try.checked }
namespace Rows
def none {H : Type} : Left H := { results := [], args := [] }

/-- 'railplanlaw18.ContradictionSubset': WHATEVER THE INPUT: true; the input reads as it did. -/
def contradictionSubsetSpec : ChangeSpec := { name := "contradictionSubset", fn := fun _ => fun
  | [d1, d2, d3] => { results := [.lit (.bool true)], args := [d1, d2, d3] }
  | _ => none }
def contradictionSubsetRow : OpenClaim := { program := "ytlmlkedcinobiaa", sum := "587c7122f6e07dc7c97ebb62775271b163aaebcd7e22c3dabbafbb158c21eacd", func := "railplan/railplanlaw18.ContradictionSubset", spec := "contradictionSubset", unfollowed := true, recurses := true, apart := false }
def ContradictionSubsetSaid : Prop := contradictionSubsetRow.holds Try.pinned (OpenSpec.ofChange contradictionSubsetSpec)

/-- ITS FALSE NEIGHBOUR: 'it returns false'. Refute it at one input. -/
def contradictionSubsetWrong : ChangeSpec := { name := "contradictionSubset", fn := fun _ => fun
  | [d1, d2, d3] => { results := [.lit (.bool false)], args := [d1, d2, d3] }
  | _ => none }
def ContradictionSubsetWrongFalsely : Prop := contradictionSubsetRow.holds Try.pinned (OpenSpec.ofChange contradictionSubsetWrong)

/-- 'railplanlaw18.ContradictionChecks': WHATEVER THE INPUT: true; the input reads as it did. -/
def contradictionChecksSpec : ChangeSpec := { name := "contradictionChecks", fn := fun _ => fun
  | [d1, d2, d3, d4, d5] => { results := [.lit (.bool true)], args := [d1, d2, d3, d4, d5] }
  | _ => none }
def contradictionChecksRow : OpenClaim := { program := "ytlmlkedcinobiaa", sum := "587c7122f6e07dc7c97ebb62775271b163aaebcd7e22c3dabbafbb158c21eacd", func := "railplan/railplanlaw18.ContradictionChecks", spec := "contradictionChecks", unfollowed := true, recurses := true, apart := false }
def ContradictionChecksSaid : Prop := contradictionChecksRow.holds Try.pinned (OpenSpec.ofChange contradictionChecksSpec)

/-- ITS FALSE NEIGHBOUR: 'it returns false'. Refute it at one input. -/
def contradictionChecksWrong : ChangeSpec := { name := "contradictionChecks", fn := fun _ => fun
  | [d1, d2, d3, d4, d5] => { results := [.lit (.bool false)], args := [d1, d2, d3, d4, d5] }
  | _ => none }
def ContradictionChecksWrongFalsely : Prop := contradictionChecksRow.holds Try.pinned (OpenSpec.ofChange contradictionChecksWrong)

/-- 'railplanlaw18.ContradictionFinds': WHATEVER THE INPUT: true; the input reads as it did. -/
def contradictionFindsSpec : ChangeSpec := { name := "contradictionFinds", fn := fun _ => fun
  | [d1, d2] => { results := [.lit (.bool true)], args := [d1, d2] }
  | _ => none }
def contradictionFindsRow : OpenClaim := { program := "ytlmlkedcinobiaa", sum := "587c7122f6e07dc7c97ebb62775271b163aaebcd7e22c3dabbafbb158c21eacd", func := "railplan/railplanlaw18.ContradictionFinds", spec := "contradictionFinds", unfollowed := true, recurses := true, apart := false }
def ContradictionFindsSaid : Prop := contradictionFindsRow.holds Try.pinned (OpenSpec.ofChange contradictionFindsSpec)

/-- ITS FALSE NEIGHBOUR: 'it returns false'. Refute it at one input. -/
def contradictionFindsWrong : ChangeSpec := { name := "contradictionFinds", fn := fun _ => fun
  | [d1, d2] => { results := [.lit (.bool false)], args := [d1, d2] }
  | _ => none }
def ContradictionFindsWrongFalsely : Prop := contradictionFindsRow.holds Try.pinned (OpenSpec.ofChange contradictionFindsWrong)

/-- 'railplanlaw18.ContradictionIsLeast': WHATEVER THE INPUT: true; the input reads as it did. -/
def contradictionIsLeastSpec : ChangeSpec := { name := "contradictionIsLeast", fn := fun _ => fun
  | [d1, d2, d3] => { results := [.lit (.bool true)], args := [d1, d2, d3] }
  | _ => none }
def contradictionIsLeastRow : OpenClaim := { program := "ytlmlkedcinobiaa", sum := "587c7122f6e07dc7c97ebb62775271b163aaebcd7e22c3dabbafbb158c21eacd", func := "railplan/railplanlaw18.ContradictionIsLeast", spec := "contradictionIsLeast", unfollowed := true, recurses := true, apart := false }
def ContradictionIsLeastSaid : Prop := contradictionIsLeastRow.holds Try.pinned (OpenSpec.ofChange contradictionIsLeastSpec)

/-- ITS FALSE NEIGHBOUR: 'it returns false'. Refute it at one input. -/
def contradictionIsLeastWrong : ChangeSpec := { name := "contradictionIsLeast", fn := fun _ => fun
  | [d1, d2, d3] => { results := [.lit (.bool false)], args := [d1, d2, d3] }
  | _ => none }
def ContradictionIsLeastWrongFalsely : Prop := contradictionIsLeastRow.holds Try.pinned (OpenSpec.ofChange contradictionIsLeastWrong)

/-- 'railplanlaw18.ContradictionNone': WHATEVER THE INPUT: true; the input reads as it did. -/
def contradictionNoneSpec : ChangeSpec := { name := "contradictionNone", fn := fun _ => fun
  | [d] => { results := [.lit (.bool true)], args := [d] }
  | _ => none }
def contradictionNoneRow : OpenClaim := { program := "ytlmlkedcinobiaa", sum := "587c7122f6e07dc7c97ebb62775271b163aaebcd7e22c3dabbafbb158c21eacd", func := "railplan/railplanlaw18.ContradictionNone", spec := "contradictionNone", unfollowed := true, recurses := true, apart := false }
def ContradictionNoneSaid : Prop := contradictionNoneRow.holds Try.pinned (OpenSpec.ofChange contradictionNoneSpec)

/-- ITS FALSE NEIGHBOUR: 'it returns false'. Refute it at one input. -/
def contradictionNoneWrong : ChangeSpec := { name := "contradictionNone", fn := fun _ => fun
  | [d] => { results := [.lit (.bool false)], args := [d] }
  | _ => none }
def ContradictionNoneWrongFalsely : Prop := contradictionNoneRow.holds Try.pinned (OpenSpec.ofChange contradictionNoneWrong)

/-- 'railplanlaw18.ContradictionOfACycle': WHATEVER THE INPUT: true; the input reads as it did. -/
def contradictionOfACycleSpec : ChangeSpec := { name := "contradictionOfACycle", fn := fun _ => fun
  | [d1, d2] => { results := [.lit (.bool true)], args := [d1, d2] }
  | _ => none }
def contradictionOfACycleRow : OpenClaim := { program := "ytlmlkedcinobiaa", sum := "587c7122f6e07dc7c97ebb62775271b163aaebcd7e22c3dabbafbb158c21eacd", func := "railplan/railplanlaw18.ContradictionOfACycle", spec := "contradictionOfACycle", unfollowed := true, recurses := true, apart := false }
def ContradictionOfACycleSaid : Prop := contradictionOfACycleRow.holds Try.pinned (OpenSpec.ofChange contradictionOfACycleSpec)

/-- ITS FALSE NEIGHBOUR: 'it returns false'. Refute it at one input. -/
def contradictionOfACycleWrong : ChangeSpec := { name := "contradictionOfACycle", fn := fun _ => fun
  | [d1, d2] => { results := [.lit (.bool false)], args := [d1, d2] }
  | _ => none }
def ContradictionOfACycleWrongFalsely : Prop := contradictionOfACycleRow.holds Try.pinned (OpenSpec.ofChange contradictionOfACycleWrong)

/-- 'railplanlaw18.ContradictionExamples': WHATEVER THE INPUT: true; the input reads as it did. -/
def contradictionExamplesSpec : ChangeSpec := { name := "contradictionExamples", fn := fun _ => fun
  | [] => { results := [.lit (.bool true)], args := [] }
  | _ => none }
def contradictionExamplesRow : OpenClaim := { program := "ytlmlkedcinobiaa", sum := "587c7122f6e07dc7c97ebb62775271b163aaebcd7e22c3dabbafbb158c21eacd", func := "railplan/railplanlaw18.ContradictionExamples", spec := "contradictionExamples", unfollowed := true, recurses := true, apart := false }
def ContradictionExamplesSaid : Prop := contradictionExamplesRow.holds Try.pinned (OpenSpec.ofChange contradictionExamplesSpec)

/-- ITS FALSE NEIGHBOUR: 'it returns false'. Refute it at one input. -/
def contradictionExamplesWrong : ChangeSpec := { name := "contradictionExamples", fn := fun _ => fun
  | [] => { results := [.lit (.bool false)], args := [] }
  | _ => none }
def ContradictionExamplesWrongFalsely : Prop := contradictionExamplesRow.holds Try.pinned (OpenSpec.ofChange contradictionExamplesWrong)

/-- 'railplanlaw18.ContradictionRaw': WHATEVER THE INPUT: true; the input reads as it did. -/
def contradictionRawSpec : ChangeSpec := { name := "contradictionRaw", fn := fun _ => fun
  | [d1, d2, d3] => { results := [.lit (.bool true)], args := [d1, d2, d3] }
  | _ => none }
def contradictionRawRow : OpenClaim := { program := "ytlmlkedcinobiaa", sum := "587c7122f6e07dc7c97ebb62775271b163aaebcd7e22c3dabbafbb158c21eacd", func := "railplan/railplanlaw18.ContradictionRaw", spec := "contradictionRaw", unfollowed := true, recurses := true, apart := false }
def ContradictionRawSaid : Prop := contradictionRawRow.holds Try.pinned (OpenSpec.ofChange contradictionRawSpec)

/-- ITS FALSE NEIGHBOUR: 'it returns false'. Refute it at one input. -/
def contradictionRawWrong : ChangeSpec := { name := "contradictionRaw", fn := fun _ => fun
  | [d1, d2, d3] => { results := [.lit (.bool false)], args := [d1, d2, d3] }
  | _ => none }
def ContradictionRawWrongFalsely : Prop := contradictionRawRow.holds Try.pinned (OpenSpec.ofChange contradictionRawWrong)

/-- 'railplanlaw18.ContradictionIsChecked': WHATEVER THE INPUT: true; the input reads as it did. -/
def contradictionIsCheckedSpec : ChangeSpec := { name := "contradictionIsChecked", fn := fun _ => fun
  | [d] => { results := [.lit (.bool true)], args := [d] }
  | _ => none }
def contradictionIsCheckedRow : OpenClaim := { program := "ytlmlkedcinobiaa", sum := "587c7122f6e07dc7c97ebb62775271b163aaebcd7e22c3dabbafbb158c21eacd", func := "railplan/railplanlaw18.ContradictionIsChecked", spec := "contradictionIsChecked", unfollowed := true, recurses := true, apart := false }
def ContradictionIsCheckedSaid : Prop := contradictionIsCheckedRow.holds Try.pinned (OpenSpec.ofChange contradictionIsCheckedSpec)

/-- ITS FALSE NEIGHBOUR: 'it returns false'. Refute it at one input. -/
def contradictionIsCheckedWrong : ChangeSpec := { name := "contradictionIsChecked", fn := fun _ => fun
  | [d] => { results := [.lit (.bool false)], args := [d] }
  | _ => none }
def ContradictionIsCheckedWrongFalsely : Prop := contradictionIsCheckedRow.holds Try.pinned (OpenSpec.ofChange contradictionIsCheckedWrong)

/- THE SECOND FORM. 'bulk': how many values and letters a reading holds, each counted each time it is reached (what is shared counts as often as it is met; a slice's spare places count too). A statement '..UptoSaid' is the law's where the arguments, and the package variables that the reading takes, are together of bulk at most 1048576: NARROWER than '..Said'. Prove '..Said' where nothing that the law and all that it calls make is longer than what came in: it says more and counts as full. Else prove '..UptoSaid'. A law counts once. -/
mutual
def uptoBulk {H : Type} : DataW H → Nat
  | .lit (.string bytes) => bytes.length + 1
  | .lit _ => 1
  | .nil => 1
  | .ptr d => uptoBulk d + 1
  | .slice elems spare => uptoBulkAll elems + uptoBulkAll spare + 1
  | .agg parts => uptoBulkAll parts + 1
  | .iface _ d => uptoBulk d + 1
  | .map entries => uptoBulkEntries entries + 1
  | .held _ => 1
def uptoBulkAll {H : Type} : List (DataW H) → Nat
  | [] => 0
  | d :: r => uptoBulk d + uptoBulkAll r
def uptoBulkEntries {H : Type} : List (Lit × DataW H) → Nat
  | [] => 0
  | x :: r => uptoBulkEntry x + uptoBulkEntries r
def uptoBulkEntry {H : Type} : Lit × DataW H → Nat
  | (.string bytes, d) => bytes.length + uptoBulk d + 1
  | (_, d) => uptoBulk d + 1
 end
def uptoSmall : (H : Type) → List (DataW H) → Bool := fun _ ds => decide (uptoBulkAll ds ≤ 1048576)
def OpenSpec.upto (s : _root_.Go.ChangeSpec) : _root_.Go.OpenSpec := { _root_.Go.OpenSpec.ofChange s with cond := some uptoSmall }

/-- 'railplanlaw18.ContradictionSubset', WHERE WHAT IT READS IS OF BULK AT MOST 1048576: true; the input reads as it did. -/
def contradictionSubsetUptoRow : OpenClaim := { program := "ytlmlkedcinobiaa", sum := "587c7122f6e07dc7c97ebb62775271b163aaebcd7e22c3dabbafbb158c21eacd", func := "railplan/railplanlaw18.ContradictionSubset", spec := "contradictionSubset", unfollowed := true, recurses := true, apart := false, narrowed := true }
def ContradictionSubsetUptoSaid : Prop := contradictionSubsetUptoRow.holds Try.pinned (OpenSpec.upto contradictionSubsetSpec)

/-- 'railplanlaw18.ContradictionChecks', WHERE WHAT IT READS IS OF BULK AT MOST 1048576: true; the input reads as it did. -/
def contradictionChecksUptoRow : OpenClaim := { program := "ytlmlkedcinobiaa", sum := "587c7122f6e07dc7c97ebb62775271b163aaebcd7e22c3dabbafbb158c21eacd", func := "railplan/railplanlaw18.ContradictionChecks", spec := "contradictionChecks", unfollowed := true, recurses := true, apart := false, narrowed := true }
def ContradictionChecksUptoSaid : Prop := contradictionChecksUptoRow.holds Try.pinned (OpenSpec.upto contradictionChecksSpec)

/-- 'railplanlaw18.ContradictionFinds', WHERE WHAT IT READS IS OF BULK AT MOST 1048576: true; the input reads as it did. -/
def contradictionFindsUptoRow : OpenClaim := { program := "ytlmlkedcinobiaa", sum := "587c7122f6e07dc7c97ebb62775271b163aaebcd7e22c3dabbafbb158c21eacd", func := "railplan/railplanlaw18.ContradictionFinds", spec := "contradictionFinds", unfollowed := true, recurses := true, apart := false, narrowed := true }
def ContradictionFindsUptoSaid : Prop := contradictionFindsUptoRow.holds Try.pinned (OpenSpec.upto contradictionFindsSpec)

/-- 'railplanlaw18.ContradictionIsLeast', WHERE WHAT IT READS IS OF BULK AT MOST 1048576: true; the input reads as it did. -/
def contradictionIsLeastUptoRow : OpenClaim := { program := "ytlmlkedcinobiaa", sum := "587c7122f6e07dc7c97ebb62775271b163aaebcd7e22c3dabbafbb158c21eacd", func := "railplan/railplanlaw18.ContradictionIsLeast", spec := "contradictionIsLeast", unfollowed := true, recurses := true, apart := false, narrowed := true }
def ContradictionIsLeastUptoSaid : Prop := contradictionIsLeastUptoRow.holds Try.pinned (OpenSpec.upto contradictionIsLeastSpec)

/-- 'railplanlaw18.ContradictionNone', WHERE WHAT IT READS IS OF BULK AT MOST 1048576: true; the input reads as it did. -/
def contradictionNoneUptoRow : OpenClaim := { program := "ytlmlkedcinobiaa", sum := "587c7122f6e07dc7c97ebb62775271b163aaebcd7e22c3dabbafbb158c21eacd", func := "railplan/railplanlaw18.ContradictionNone", spec := "contradictionNone", unfollowed := true, recurses := true, apart := false, narrowed := true }
def ContradictionNoneUptoSaid : Prop := contradictionNoneUptoRow.holds Try.pinned (OpenSpec.upto contradictionNoneSpec)

/-- 'railplanlaw18.ContradictionOfACycle', WHERE WHAT IT READS IS OF BULK AT MOST 1048576: true; the input reads as it did. -/
def contradictionOfACycleUptoRow : OpenClaim := { program := "ytlmlkedcinobiaa", sum := "587c7122f6e07dc7c97ebb62775271b163aaebcd7e22c3dabbafbb158c21eacd", func := "railplan/railplanlaw18.ContradictionOfACycle", spec := "contradictionOfACycle", unfollowed := true, recurses := true, apart := false, narrowed := true }
def ContradictionOfACycleUptoSaid : Prop := contradictionOfACycleUptoRow.holds Try.pinned (OpenSpec.upto contradictionOfACycleSpec)

/-- 'railplanlaw18.ContradictionExamples', WHERE WHAT IT READS IS OF BULK AT MOST 1048576: true; the input reads as it did. -/
def contradictionExamplesUptoRow : OpenClaim := { program := "ytlmlkedcinobiaa", sum := "587c7122f6e07dc7c97ebb62775271b163aaebcd7e22c3dabbafbb158c21eacd", func := "railplan/railplanlaw18.ContradictionExamples", spec := "contradictionExamples", unfollowed := true, recurses := true, apart := false, narrowed := true }
def ContradictionExamplesUptoSaid : Prop := contradictionExamplesUptoRow.holds Try.pinned (OpenSpec.upto contradictionExamplesSpec)

/-- 'railplanlaw18.ContradictionRaw', WHERE WHAT IT READS IS OF BULK AT MOST 1048576: true; the input reads as it did. -/
def contradictionRawUptoRow : OpenClaim := { program := "ytlmlkedcinobiaa", sum := "587c7122f6e07dc7c97ebb62775271b163aaebcd7e22c3dabbafbb158c21eacd", func := "railplan/railplanlaw18.ContradictionRaw", spec := "contradictionRaw", unfollowed := true, recurses := true, apart := false, narrowed := true }
def ContradictionRawUptoSaid : Prop := contradictionRawUptoRow.holds Try.pinned (OpenSpec.upto contradictionRawSpec)

/-- 'railplanlaw18.ContradictionIsChecked', WHERE WHAT IT READS IS OF BULK AT MOST 1048576: true; the input reads as it did. -/
def contradictionIsCheckedUptoRow : OpenClaim := { program := "ytlmlkedcinobiaa", sum := "587c7122f6e07dc7c97ebb62775271b163aaebcd7e22c3dabbafbb158c21eacd", func := "railplan/railplanlaw18.ContradictionIsChecked", spec := "contradictionIsChecked", unfollowed := true, recurses := true, apart := false, narrowed := true }
def ContradictionIsCheckedUptoSaid : Prop := contradictionIsCheckedUptoRow.holds Try.pinned (OpenSpec.upto contradictionIsCheckedSpec)

end Rows
end Go.Proofs.Ytlmlkedcinobiaa
