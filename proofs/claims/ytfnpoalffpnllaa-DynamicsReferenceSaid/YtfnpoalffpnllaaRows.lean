/-
  No cell of these rows narrows 'for every input' (looked for: loops, veiled, ifaces, maps, wideKeys, modest, calm, conditions, laid).
  DERIVED. THE GIVEN ROWS OF THIS SEAT. 10 by the template 'for every input the law returns true; each argument reads behind the call as it read before'; 0 by the template 'total and deterministic' (their statements: YtfnpoalffpnllaaTotals.lean).
  GIVEN WITH THE SEED: the statements are not yours to turn. If you find one false, say at which input.
  Laid BY PROGRAM, IN A SANDBOX (cutbox-rows.mjs): the forced cells as the released guide's own fill.sh prints them over the translation fc56836b66d80fc1… (all of the seat's roots in one cut). By AI agents, Wed Nov 11 2026. No macro, syntax, notation, axiom, sorry.
-/
import Derived.Test.YtfnpoalffpnllaaChecked
import GoSem.Claim
import GoSem.ClaimJoined
import GoSem.ClaimMapViews
import Derived.JoinedTies
import Derived.KernelRfl
namespace Go.Proofs.Ytfnpoalffpnllaa
/- THE CELL 'sum', in the pinned program and in every row, IS THE sha256 OF THE DUMP (.gsa) THAT YtfnpoalffpnllaaProg.lean LOADS. Nothing in Lean hashes anything: it is a label: what it is worth is what the hold of that sum in a sandbox is worth. -/
noncomputable def Try.pinned : Pinned := { name := "ytfnpoalffpnllaa", sum := "fc56836b66d80fc18539c6953dc53654efd7b7501761f39bdb6c27404467050e", checked := Try.checked }
namespace Rows
def none {H : Type} : Left H := { results := [], args := [] }

/-- 'railplanlaw6.DynamicsSpeedsArePermitted': WHATEVER THE INPUT: true; the input reads as it did. -/
def dynamicsSpeedsArePermittedSpec : ChangeSpec := { name := "dynamicsSpeedsArePermitted", fn := fun _ => fun
  | [d1, d2, d3] => { results := [.lit (.bool true)], args := [d1, d2, d3] }
  | _ => none }
def dynamicsSpeedsArePermittedRow : OpenClaim := { program := "ytfnpoalffpnllaa", sum := "fc56836b66d80fc18539c6953dc53654efd7b7501761f39bdb6c27404467050e", func := "railplan/railplanlaw6.DynamicsSpeedsArePermitted", spec := "dynamicsSpeedsArePermitted", apart := false }
def DynamicsSpeedsArePermittedSaid : Prop := dynamicsSpeedsArePermittedRow.holds Try.pinned (OpenSpec.ofChange dynamicsSpeedsArePermittedSpec)

/-- ITS FALSE NEIGHBOUR: 'it returns false'. Refute it at one input. -/
def dynamicsSpeedsArePermittedWrong : ChangeSpec := { name := "dynamicsSpeedsArePermitted", fn := fun _ => fun
  | [d1, d2, d3] => { results := [.lit (.bool false)], args := [d1, d2, d3] }
  | _ => none }
def DynamicsSpeedsArePermittedWrongFalsely : Prop := dynamicsSpeedsArePermittedRow.holds Try.pinned (OpenSpec.ofChange dynamicsSpeedsArePermittedWrong)

/-- 'railplanlaw6.DynamicsLevelIsSymmetric': WHATEVER THE INPUT: true; the input reads as it did. -/
def dynamicsLevelIsSymmetricSpec : ChangeSpec := { name := "dynamicsLevelIsSymmetric", fn := fun _ => fun
  | [d1, d2] => { results := [.lit (.bool true)], args := [d1, d2] }
  | _ => none }
def dynamicsLevelIsSymmetricRow : OpenClaim := { program := "ytfnpoalffpnllaa", sum := "fc56836b66d80fc18539c6953dc53654efd7b7501761f39bdb6c27404467050e", func := "railplan/railplanlaw6.DynamicsLevelIsSymmetric", spec := "dynamicsLevelIsSymmetric", apart := false }
def DynamicsLevelIsSymmetricSaid : Prop := dynamicsLevelIsSymmetricRow.holds Try.pinned (OpenSpec.ofChange dynamicsLevelIsSymmetricSpec)

/-- ITS FALSE NEIGHBOUR: 'it returns false'. Refute it at one input. -/
def dynamicsLevelIsSymmetricWrong : ChangeSpec := { name := "dynamicsLevelIsSymmetric", fn := fun _ => fun
  | [d1, d2] => { results := [.lit (.bool false)], args := [d1, d2] }
  | _ => none }
def DynamicsLevelIsSymmetricWrongFalsely : Prop := dynamicsLevelIsSymmetricRow.holds Try.pinned (OpenSpec.ofChange dynamicsLevelIsSymmetricWrong)

/-- 'railplanlaw6.DynamicsFasterIsNotLater': WHATEVER THE INPUT: true; the input reads as it did. -/
def dynamicsFasterIsNotLaterSpec : ChangeSpec := { name := "dynamicsFasterIsNotLater", fn := fun _ => fun
  | [d1, d2, d3, d4, d5] => { results := [.lit (.bool true)], args := [d1, d2, d3, d4, d5] }
  | _ => none }
def dynamicsFasterIsNotLaterRow : OpenClaim := { program := "ytfnpoalffpnllaa", sum := "fc56836b66d80fc18539c6953dc53654efd7b7501761f39bdb6c27404467050e", func := "railplan/railplanlaw6.DynamicsFasterIsNotLater", spec := "dynamicsFasterIsNotLater", apart := false }
def DynamicsFasterIsNotLaterSaid : Prop := dynamicsFasterIsNotLaterRow.holds Try.pinned (OpenSpec.ofChange dynamicsFasterIsNotLaterSpec)

/-- ITS FALSE NEIGHBOUR: 'it returns false'. Refute it at one input. -/
def dynamicsFasterIsNotLaterWrong : ChangeSpec := { name := "dynamicsFasterIsNotLater", fn := fun _ => fun
  | [d1, d2, d3, d4, d5] => { results := [.lit (.bool false)], args := [d1, d2, d3, d4, d5] }
  | _ => none }
def DynamicsFasterIsNotLaterWrongFalsely : Prop := dynamicsFasterIsNotLaterRow.holds Try.pinned (OpenSpec.ofChange dynamicsFasterIsNotLaterWrong)

/-- 'railplanlaw6.DynamicsLongerIsNotEarlier': WHATEVER THE INPUT: true; the input reads as it did. -/
def dynamicsLongerIsNotEarlierSpec : ChangeSpec := { name := "dynamicsLongerIsNotEarlier", fn := fun _ => fun
  | [d1, d2, d3, d4, d5, d6] => { results := [.lit (.bool true)], args := [d1, d2, d3, d4, d5, d6] }
  | _ => none }
def dynamicsLongerIsNotEarlierRow : OpenClaim := { program := "ytfnpoalffpnllaa", sum := "fc56836b66d80fc18539c6953dc53654efd7b7501761f39bdb6c27404467050e", func := "railplan/railplanlaw6.DynamicsLongerIsNotEarlier", spec := "dynamicsLongerIsNotEarlier", apart := false }
def DynamicsLongerIsNotEarlierSaid : Prop := dynamicsLongerIsNotEarlierRow.holds Try.pinned (OpenSpec.ofChange dynamicsLongerIsNotEarlierSpec)

/-- ITS FALSE NEIGHBOUR: 'it returns false'. Refute it at one input. -/
def dynamicsLongerIsNotEarlierWrong : ChangeSpec := { name := "dynamicsLongerIsNotEarlier", fn := fun _ => fun
  | [d1, d2, d3, d4, d5, d6] => { results := [.lit (.bool false)], args := [d1, d2, d3, d4, d5, d6] }
  | _ => none }
def DynamicsLongerIsNotEarlierWrongFalsely : Prop := dynamicsLongerIsNotEarlierRow.holds Try.pinned (OpenSpec.ofChange dynamicsLongerIsNotEarlierWrong)

/-- 'railplanlaw6.DynamicsShorterRunIsAPart': WHATEVER THE INPUT: true; the input reads as it did. -/
def dynamicsShorterRunIsAPartSpec : ChangeSpec := { name := "dynamicsShorterRunIsAPart", fn := fun _ => fun
  | [d1, d2, d3, d4] => { results := [.lit (.bool true)], args := [d1, d2, d3, d4] }
  | _ => none }
def dynamicsShorterRunIsAPartRow : OpenClaim := { program := "ytfnpoalffpnllaa", sum := "fc56836b66d80fc18539c6953dc53654efd7b7501761f39bdb6c27404467050e", func := "railplan/railplanlaw6.DynamicsShorterRunIsAPart", spec := "dynamicsShorterRunIsAPart", apart := false }
def DynamicsShorterRunIsAPartSaid : Prop := dynamicsShorterRunIsAPartRow.holds Try.pinned (OpenSpec.ofChange dynamicsShorterRunIsAPartSpec)

/-- ITS FALSE NEIGHBOUR: 'it returns false'. Refute it at one input. -/
def dynamicsShorterRunIsAPartWrong : ChangeSpec := { name := "dynamicsShorterRunIsAPart", fn := fun _ => fun
  | [d1, d2, d3, d4] => { results := [.lit (.bool false)], args := [d1, d2, d3, d4] }
  | _ => none }
def DynamicsShorterRunIsAPartWrongFalsely : Prop := dynamicsShorterRunIsAPartRow.holds Try.pinned (OpenSpec.ofChange dynamicsShorterRunIsAPartWrong)

/-- 'railplanlaw6.DynamicsExamples': WHATEVER THE INPUT: true; the input reads as it did. -/
def dynamicsExamplesSpec : ChangeSpec := { name := "dynamicsExamples", fn := fun _ => fun
  | [] => { results := [.lit (.bool true)], args := [] }
  | _ => none }
def dynamicsExamplesRow : OpenClaim := { program := "ytfnpoalffpnllaa", sum := "fc56836b66d80fc18539c6953dc53654efd7b7501761f39bdb6c27404467050e", func := "railplan/railplanlaw6.DynamicsExamples", spec := "dynamicsExamples", apart := false }
def DynamicsExamplesSaid : Prop := dynamicsExamplesRow.holds Try.pinned (OpenSpec.ofChange dynamicsExamplesSpec)

/-- ITS FALSE NEIGHBOUR: 'it returns false'. Refute it at one input. -/
def dynamicsExamplesWrong : ChangeSpec := { name := "dynamicsExamples", fn := fun _ => fun
  | [] => { results := [.lit (.bool false)], args := [] }
  | _ => none }
def DynamicsExamplesWrongFalsely : Prop := dynamicsExamplesRow.holds Try.pinned (OpenSpec.ofChange dynamicsExamplesWrong)

/-- 'railplanlaw6.DynamicsReference': WHATEVER THE INPUT: true; the input reads as it did. -/
def dynamicsReferenceSpec : ChangeSpec := { name := "dynamicsReference", fn := fun _ => fun
  | [d1, d2, d3] => { results := [.lit (.bool true)], args := [d1, d2, d3] }
  | _ => none }
def dynamicsReferenceRow : OpenClaim := { program := "ytfnpoalffpnllaa", sum := "fc56836b66d80fc18539c6953dc53654efd7b7501761f39bdb6c27404467050e", func := "railplan/railplanlaw6.DynamicsReference", spec := "dynamicsReference", apart := false }
def DynamicsReferenceSaid : Prop := dynamicsReferenceRow.holds Try.pinned (OpenSpec.ofChange dynamicsReferenceSpec)

/-- ITS FALSE NEIGHBOUR: 'it returns false'. Refute it at one input. -/
def dynamicsReferenceWrong : ChangeSpec := { name := "dynamicsReference", fn := fun _ => fun
  | [d1, d2, d3] => { results := [.lit (.bool false)], args := [d1, d2, d3] }
  | _ => none }
def DynamicsReferenceWrongFalsely : Prop := dynamicsReferenceRow.holds Try.pinned (OpenSpec.ofChange dynamicsReferenceWrong)

/-- 'railplanlaw6.DynamicsGenerated': WHATEVER THE INPUT: true; the input reads as it did. -/
def dynamicsGeneratedSpec : ChangeSpec := { name := "dynamicsGenerated", fn := fun _ => fun
  | [d1, d2, d3] => { results := [.lit (.bool true)], args := [d1, d2, d3] }
  | _ => none }
def dynamicsGeneratedRow : OpenClaim := { program := "ytfnpoalffpnllaa", sum := "fc56836b66d80fc18539c6953dc53654efd7b7501761f39bdb6c27404467050e", func := "railplan/railplanlaw6.DynamicsGenerated", spec := "dynamicsGenerated", apart := false }
def DynamicsGeneratedSaid : Prop := dynamicsGeneratedRow.holds Try.pinned (OpenSpec.ofChange dynamicsGeneratedSpec)

/-- ITS FALSE NEIGHBOUR: 'it returns false'. Refute it at one input. -/
def dynamicsGeneratedWrong : ChangeSpec := { name := "dynamicsGenerated", fn := fun _ => fun
  | [d1, d2, d3] => { results := [.lit (.bool false)], args := [d1, d2, d3] }
  | _ => none }
def DynamicsGeneratedWrongFalsely : Prop := dynamicsGeneratedRow.holds Try.pinned (OpenSpec.ofChange dynamicsGeneratedWrong)

/-- 'railplanlaw6.DynamicsLimits': WHATEVER THE INPUT: true; the input reads as it did. -/
def dynamicsLimitsSpec : ChangeSpec := { name := "dynamicsLimits", fn := fun _ => fun
  | [d1, d2] => { results := [.lit (.bool true)], args := [d1, d2] }
  | _ => none }
def dynamicsLimitsRow : OpenClaim := { program := "ytfnpoalffpnllaa", sum := "fc56836b66d80fc18539c6953dc53654efd7b7501761f39bdb6c27404467050e", func := "railplan/railplanlaw6.DynamicsLimits", spec := "dynamicsLimits", apart := false }
def DynamicsLimitsSaid : Prop := dynamicsLimitsRow.holds Try.pinned (OpenSpec.ofChange dynamicsLimitsSpec)

/-- ITS FALSE NEIGHBOUR: 'it returns false'. Refute it at one input. -/
def dynamicsLimitsWrong : ChangeSpec := { name := "dynamicsLimits", fn := fun _ => fun
  | [d1, d2] => { results := [.lit (.bool false)], args := [d1, d2] }
  | _ => none }
def DynamicsLimitsWrongFalsely : Prop := dynamicsLimitsRow.holds Try.pinned (OpenSpec.ofChange dynamicsLimitsWrong)

/-- 'railplanlaw6.DynamicsTimesAscend': WHATEVER THE INPUT: true; the input reads as it did. -/
def dynamicsTimesAscendSpec : ChangeSpec := { name := "dynamicsTimesAscend", fn := fun _ => fun
  | [d1, d2, d3] => { results := [.lit (.bool true)], args := [d1, d2, d3] }
  | _ => none }
def dynamicsTimesAscendRow : OpenClaim := { program := "ytfnpoalffpnllaa", sum := "fc56836b66d80fc18539c6953dc53654efd7b7501761f39bdb6c27404467050e", func := "railplan/railplanlaw6.DynamicsTimesAscend", spec := "dynamicsTimesAscend", apart := false }
def DynamicsTimesAscendSaid : Prop := dynamicsTimesAscendRow.holds Try.pinned (OpenSpec.ofChange dynamicsTimesAscendSpec)

/-- ITS FALSE NEIGHBOUR: 'it returns false'. Refute it at one input. -/
def dynamicsTimesAscendWrong : ChangeSpec := { name := "dynamicsTimesAscend", fn := fun _ => fun
  | [d1, d2, d3] => { results := [.lit (.bool false)], args := [d1, d2, d3] }
  | _ => none }
def DynamicsTimesAscendWrongFalsely : Prop := dynamicsTimesAscendRow.holds Try.pinned (OpenSpec.ofChange dynamicsTimesAscendWrong)

/- THE SECOND FORM. 'bulk': how many values and letters a reading holds, each counted each time it is reached (what is shared counts as often as it is met; a slice's spare places count too). A statement '..UptoSaid' is the law's where the arguments, and the package variables that the reading takes, are together of bulk at most 1048576: NARROWER than '..Said'. Prove '..Said' where nothing that the law and all that it calls make is longer than what came in: it says more and counts as full. Else prove '..UptoSaid'. A law counts once. -/
mutual
def uptoBulk {H : Type} : DataW H → Nat
  | .lit (.string bytes) => bytes.length + 1
  | .lit _ => 1
  | .nil => 1
  | .ptr d => uptoBulk d + 1
  | .slice elems spare => uptoBulkAll elems + uptoBulkAll spare + 1
  | .agg parts => uptoBulkAll parts + 1
  | .iface _ d => uptoBulk d + 1
  | .map entries => uptoBulkEntries entries + 1
  | .held _ => 1
def uptoBulkAll {H : Type} : List (DataW H) → Nat
  | [] => 0
  | d :: r => uptoBulk d + uptoBulkAll r
def uptoBulkEntries {H : Type} : List (Lit × DataW H) → Nat
  | [] => 0
  | x :: r => uptoBulkEntry x + uptoBulkEntries r
def uptoBulkEntry {H : Type} : Lit × DataW H → Nat
  | (.string bytes, d) => bytes.length + uptoBulk d + 1
  | (_, d) => uptoBulk d + 1
 end
def uptoSmall : (H : Type) → List (DataW H) → Bool := fun _ ds => decide (uptoBulkAll ds ≤ 1048576)
def OpenSpec.upto (s : _root_.Go.ChangeSpec) : _root_.Go.OpenSpec := { _root_.Go.OpenSpec.ofChange s with cond := some uptoSmall }

/-- 'railplanlaw6.DynamicsSpeedsArePermitted', WHERE WHAT IT READS IS OF BULK AT MOST 1048576: true; the input reads as it did. -/
def dynamicsSpeedsArePermittedUptoRow : OpenClaim := { program := "ytfnpoalffpnllaa", sum := "fc56836b66d80fc18539c6953dc53654efd7b7501761f39bdb6c27404467050e", func := "railplan/railplanlaw6.DynamicsSpeedsArePermitted", spec := "dynamicsSpeedsArePermitted", apart := false, narrowed := true }
def DynamicsSpeedsArePermittedUptoSaid : Prop := dynamicsSpeedsArePermittedUptoRow.holds Try.pinned (OpenSpec.upto dynamicsSpeedsArePermittedSpec)

/-- 'railplanlaw6.DynamicsLevelIsSymmetric', WHERE WHAT IT READS IS OF BULK AT MOST 1048576: true; the input reads as it did. -/
def dynamicsLevelIsSymmetricUptoRow : OpenClaim := { program := "ytfnpoalffpnllaa", sum := "fc56836b66d80fc18539c6953dc53654efd7b7501761f39bdb6c27404467050e", func := "railplan/railplanlaw6.DynamicsLevelIsSymmetric", spec := "dynamicsLevelIsSymmetric", apart := false, narrowed := true }
def DynamicsLevelIsSymmetricUptoSaid : Prop := dynamicsLevelIsSymmetricUptoRow.holds Try.pinned (OpenSpec.upto dynamicsLevelIsSymmetricSpec)

/-- 'railplanlaw6.DynamicsFasterIsNotLater', WHERE WHAT IT READS IS OF BULK AT MOST 1048576: true; the input reads as it did. -/
def dynamicsFasterIsNotLaterUptoRow : OpenClaim := { program := "ytfnpoalffpnllaa", sum := "fc56836b66d80fc18539c6953dc53654efd7b7501761f39bdb6c27404467050e", func := "railplan/railplanlaw6.DynamicsFasterIsNotLater", spec := "dynamicsFasterIsNotLater", apart := false, narrowed := true }
def DynamicsFasterIsNotLaterUptoSaid : Prop := dynamicsFasterIsNotLaterUptoRow.holds Try.pinned (OpenSpec.upto dynamicsFasterIsNotLaterSpec)

/-- 'railplanlaw6.DynamicsLongerIsNotEarlier', WHERE WHAT IT READS IS OF BULK AT MOST 1048576: true; the input reads as it did. -/
def dynamicsLongerIsNotEarlierUptoRow : OpenClaim := { program := "ytfnpoalffpnllaa", sum := "fc56836b66d80fc18539c6953dc53654efd7b7501761f39bdb6c27404467050e", func := "railplan/railplanlaw6.DynamicsLongerIsNotEarlier", spec := "dynamicsLongerIsNotEarlier", apart := false, narrowed := true }
def DynamicsLongerIsNotEarlierUptoSaid : Prop := dynamicsLongerIsNotEarlierUptoRow.holds Try.pinned (OpenSpec.upto dynamicsLongerIsNotEarlierSpec)

/-- 'railplanlaw6.DynamicsShorterRunIsAPart', WHERE WHAT IT READS IS OF BULK AT MOST 1048576: true; the input reads as it did. -/
def dynamicsShorterRunIsAPartUptoRow : OpenClaim := { program := "ytfnpoalffpnllaa", sum := "fc56836b66d80fc18539c6953dc53654efd7b7501761f39bdb6c27404467050e", func := "railplan/railplanlaw6.DynamicsShorterRunIsAPart", spec := "dynamicsShorterRunIsAPart", apart := false, narrowed := true }
def DynamicsShorterRunIsAPartUptoSaid : Prop := dynamicsShorterRunIsAPartUptoRow.holds Try.pinned (OpenSpec.upto dynamicsShorterRunIsAPartSpec)

/-- 'railplanlaw6.DynamicsExamples', WHERE WHAT IT READS IS OF BULK AT MOST 1048576: true; the input reads as it did. -/
def dynamicsExamplesUptoRow : OpenClaim := { program := "ytfnpoalffpnllaa", sum := "fc56836b66d80fc18539c6953dc53654efd7b7501761f39bdb6c27404467050e", func := "railplan/railplanlaw6.DynamicsExamples", spec := "dynamicsExamples", apart := false, narrowed := true }
def DynamicsExamplesUptoSaid : Prop := dynamicsExamplesUptoRow.holds Try.pinned (OpenSpec.upto dynamicsExamplesSpec)

/-- 'railplanlaw6.DynamicsReference', WHERE WHAT IT READS IS OF BULK AT MOST 1048576: true; the input reads as it did. -/
def dynamicsReferenceUptoRow : OpenClaim := { program := "ytfnpoalffpnllaa", sum := "fc56836b66d80fc18539c6953dc53654efd7b7501761f39bdb6c27404467050e", func := "railplan/railplanlaw6.DynamicsReference", spec := "dynamicsReference", apart := false, narrowed := true }
def DynamicsReferenceUptoSaid : Prop := dynamicsReferenceUptoRow.holds Try.pinned (OpenSpec.upto dynamicsReferenceSpec)

/-- 'railplanlaw6.DynamicsGenerated', WHERE WHAT IT READS IS OF BULK AT MOST 1048576: true; the input reads as it did. -/
def dynamicsGeneratedUptoRow : OpenClaim := { program := "ytfnpoalffpnllaa", sum := "fc56836b66d80fc18539c6953dc53654efd7b7501761f39bdb6c27404467050e", func := "railplan/railplanlaw6.DynamicsGenerated", spec := "dynamicsGenerated", apart := false, narrowed := true }
def DynamicsGeneratedUptoSaid : Prop := dynamicsGeneratedUptoRow.holds Try.pinned (OpenSpec.upto dynamicsGeneratedSpec)

/-- 'railplanlaw6.DynamicsLimits', WHERE WHAT IT READS IS OF BULK AT MOST 1048576: true; the input reads as it did. -/
def dynamicsLimitsUptoRow : OpenClaim := { program := "ytfnpoalffpnllaa", sum := "fc56836b66d80fc18539c6953dc53654efd7b7501761f39bdb6c27404467050e", func := "railplan/railplanlaw6.DynamicsLimits", spec := "dynamicsLimits", apart := false, narrowed := true }
def DynamicsLimitsUptoSaid : Prop := dynamicsLimitsUptoRow.holds Try.pinned (OpenSpec.upto dynamicsLimitsSpec)

/-- 'railplanlaw6.DynamicsTimesAscend', WHERE WHAT IT READS IS OF BULK AT MOST 1048576: true; the input reads as it did. -/
def dynamicsTimesAscendUptoRow : OpenClaim := { program := "ytfnpoalffpnllaa", sum := "fc56836b66d80fc18539c6953dc53654efd7b7501761f39bdb6c27404467050e", func := "railplan/railplanlaw6.DynamicsTimesAscend", spec := "dynamicsTimesAscend", apart := false, narrowed := true }
def DynamicsTimesAscendUptoSaid : Prop := dynamicsTimesAscendUptoRow.holds Try.pinned (OpenSpec.upto dynamicsTimesAscendSpec)

end Rows
end Go.Proofs.Ytfnpoalffpnllaa
