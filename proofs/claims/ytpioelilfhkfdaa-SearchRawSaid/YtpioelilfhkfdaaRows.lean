/-
  No cell of these rows narrows 'for every input' (looked for: loops, veiled, ifaces, maps, wideKeys, modest, calm, conditions, laid).
  DERIVED. THE GIVEN ROWS OF THIS SEAT. 9 by the template 'for every input the law returns true; each argument reads behind the call as it read before'; 0 by the template 'total and deterministic' (their statements: YtpioelilfhkfdaaTotals.lean).
  GIVEN WITH THE SEED: the statements are not yours to turn. If you find one false, say at which input.
  Laid BY PROGRAM, IN A SANDBOX (cutbox-rows.mjs): the forced cells as the released guide's own fill.sh prints them over the translation cb8d15ccf6ca8ed4… (all of the seat's roots in one cut). By AI agents, Wed Nov 11 2026. No macro, syntax, notation, axiom, sorry.
-/
import Derived.Test.YtpioelilfhkfdaaChecked
import GoSem.Claim
import GoSem.ClaimJoined
import GoSem.ClaimMapViews
import Derived.JoinedTies
import Derived.KernelRfl
namespace Go.Proofs.Ytpioelilfhkfdaa
/- THE CELL 'sum', in the pinned program and in every row, IS THE sha256 OF THE DUMP (.gsa) THAT YtpioelilfhkfdaaProg.lean LOADS. Nothing in Lean hashes anything: it is a label: what it is worth is what the hold of that sum in a sandbox is worth. -/
noncomputable def Try.pinned : Pinned := { name := "ytpioelilfhkfdaa", sum := "cb8d15ccf6ca8ed41a7a099465f66d229fb44dd5ce2d43b55d7bd8c1f364158b", checked := Try.checked }
namespace Rows
def none {H : Type} : Left H := { results := [], args := [] }

/-- 'railplanlaw17.SearchAgreesWithPropagation': WHATEVER THE INPUT: true; the input reads as it did. -/
def searchAgreesWithPropagationSpec : ChangeSpec := { name := "searchAgreesWithPropagation", fn := fun _ => fun
  | [d] => { results := [.lit (.bool true)], args := [d] }
  | _ => none }
def searchAgreesWithPropagationRow : OpenClaim := { program := "ytpioelilfhkfdaa", sum := "cb8d15ccf6ca8ed41a7a099465f66d229fb44dd5ce2d43b55d7bd8c1f364158b", func := "railplan/railplanlaw17.SearchAgreesWithPropagation", spec := "searchAgreesWithPropagation", unfollowed := true, recurses := true, apart := false }
def SearchAgreesWithPropagationSaid : Prop := searchAgreesWithPropagationRow.holds Try.pinned (OpenSpec.ofChange searchAgreesWithPropagationSpec)

/-- ITS FALSE NEIGHBOUR: 'it returns false'. Refute it at one input. -/
def searchAgreesWithPropagationWrong : ChangeSpec := { name := "searchAgreesWithPropagation", fn := fun _ => fun
  | [d] => { results := [.lit (.bool false)], args := [d] }
  | _ => none }
def SearchAgreesWithPropagationWrongFalsely : Prop := searchAgreesWithPropagationRow.holds Try.pinned (OpenSpec.ofChange searchAgreesWithPropagationWrong)

/-- 'railplanlaw17.SearchExamples': WHATEVER THE INPUT: true; the input reads as it did. -/
def searchExamplesSpec : ChangeSpec := { name := "searchExamples", fn := fun _ => fun
  | [] => { results := [.lit (.bool true)], args := [] }
  | _ => none }
def searchExamplesRow : OpenClaim := { program := "ytpioelilfhkfdaa", sum := "cb8d15ccf6ca8ed41a7a099465f66d229fb44dd5ce2d43b55d7bd8c1f364158b", func := "railplan/railplanlaw17.SearchExamples", spec := "searchExamples", unfollowed := true, recurses := true, apart := false }
def SearchExamplesSaid : Prop := searchExamplesRow.holds Try.pinned (OpenSpec.ofChange searchExamplesSpec)

/-- ITS FALSE NEIGHBOUR: 'it returns false'. Refute it at one input. -/
def searchExamplesWrong : ChangeSpec := { name := "searchExamples", fn := fun _ => fun
  | [] => { results := [.lit (.bool false)], args := [] }
  | _ => none }
def SearchExamplesWrongFalsely : Prop := searchExamplesRow.holds Try.pinned (OpenSpec.ofChange searchExamplesWrong)

/-- 'railplanlaw17.SearchRaw': WHATEVER THE INPUT: true; the input reads as it did. -/
def searchRawSpec : ChangeSpec := { name := "searchRaw", fn := fun _ => fun
  | [d1, d2] => { results := [.lit (.bool true)], args := [d1, d2] }
  | _ => none }
def searchRawRow : OpenClaim := { program := "ytpioelilfhkfdaa", sum := "cb8d15ccf6ca8ed41a7a099465f66d229fb44dd5ce2d43b55d7bd8c1f364158b", func := "railplan/railplanlaw17.SearchRaw", spec := "searchRaw", unfollowed := true, recurses := true, apart := false }
def SearchRawSaid : Prop := searchRawRow.holds Try.pinned (OpenSpec.ofChange searchRawSpec)

/-- ITS FALSE NEIGHBOUR: 'it returns false'. Refute it at one input. -/
def searchRawWrong : ChangeSpec := { name := "searchRaw", fn := fun _ => fun
  | [d1, d2] => { results := [.lit (.bool false)], args := [d1, d2] }
  | _ => none }
def SearchRawWrongFalsely : Prop := searchRawRow.holds Try.pinned (OpenSpec.ofChange searchRawWrong)

/-- 'railplanlaw17.SearchGenerated': WHATEVER THE INPUT: true; the input reads as it did. -/
def searchGeneratedSpec : ChangeSpec := { name := "searchGenerated", fn := fun _ => fun
  | [d1, d2] => { results := [.lit (.bool true)], args := [d1, d2] }
  | _ => none }
def searchGeneratedRow : OpenClaim := { program := "ytpioelilfhkfdaa", sum := "cb8d15ccf6ca8ed41a7a099465f66d229fb44dd5ce2d43b55d7bd8c1f364158b", func := "railplan/railplanlaw17.SearchGenerated", spec := "searchGenerated", unfollowed := true, recurses := true, apart := false }
def SearchGeneratedSaid : Prop := searchGeneratedRow.holds Try.pinned (OpenSpec.ofChange searchGeneratedSpec)

/-- ITS FALSE NEIGHBOUR: 'it returns false'. Refute it at one input. -/
def searchGeneratedWrong : ChangeSpec := { name := "searchGenerated", fn := fun _ => fun
  | [d1, d2] => { results := [.lit (.bool false)], args := [d1, d2] }
  | _ => none }
def SearchGeneratedWrongFalsely : Prop := searchGeneratedRow.holds Try.pinned (OpenSpec.ofChange searchGeneratedWrong)

/-- 'railplanlaw17.SearchIsOptimal': WHATEVER THE INPUT: true; the input reads as it did. -/
def searchIsOptimalSpec : ChangeSpec := { name := "searchIsOptimal", fn := fun _ => fun
  | [d1, d2] => { results := [.lit (.bool true)], args := [d1, d2] }
  | _ => none }
def searchIsOptimalRow : OpenClaim := { program := "ytpioelilfhkfdaa", sum := "cb8d15ccf6ca8ed41a7a099465f66d229fb44dd5ce2d43b55d7bd8c1f364158b", func := "railplan/railplanlaw17.SearchIsOptimal", spec := "searchIsOptimal", unfollowed := true, recurses := true, apart := false }
def SearchIsOptimalSaid : Prop := searchIsOptimalRow.holds Try.pinned (OpenSpec.ofChange searchIsOptimalSpec)

/-- ITS FALSE NEIGHBOUR: 'it returns false'. Refute it at one input. -/
def searchIsOptimalWrong : ChangeSpec := { name := "searchIsOptimal", fn := fun _ => fun
  | [d1, d2] => { results := [.lit (.bool false)], args := [d1, d2] }
  | _ => none }
def SearchIsOptimalWrongFalsely : Prop := searchIsOptimalRow.holds Try.pinned (OpenSpec.ofChange searchIsOptimalWrong)

/-- 'railplanlaw17.SearchIsFirst': WHATEVER THE INPUT: true; the input reads as it did. -/
def searchIsFirstSpec : ChangeSpec := { name := "searchIsFirst", fn := fun _ => fun
  | [d1, d2] => { results := [.lit (.bool true)], args := [d1, d2] }
  | _ => none }
def searchIsFirstRow : OpenClaim := { program := "ytpioelilfhkfdaa", sum := "cb8d15ccf6ca8ed41a7a099465f66d229fb44dd5ce2d43b55d7bd8c1f364158b", func := "railplan/railplanlaw17.SearchIsFirst", spec := "searchIsFirst", unfollowed := true, recurses := true, apart := false }
def SearchIsFirstSaid : Prop := searchIsFirstRow.holds Try.pinned (OpenSpec.ofChange searchIsFirstSpec)

/-- ITS FALSE NEIGHBOUR: 'it returns false'. Refute it at one input. -/
def searchIsFirstWrong : ChangeSpec := { name := "searchIsFirst", fn := fun _ => fun
  | [d1, d2] => { results := [.lit (.bool false)], args := [d1, d2] }
  | _ => none }
def SearchIsFirstWrongFalsely : Prop := searchIsFirstRow.holds Try.pinned (OpenSpec.ofChange searchIsFirstWrong)

/-- 'railplanlaw17.SearchBudget': WHATEVER THE INPUT: true; the input reads as it did. -/
def searchBudgetSpec : ChangeSpec := { name := "searchBudget", fn := fun _ => fun
  | [d] => { results := [.lit (.bool true)], args := [d] }
  | _ => none }
def searchBudgetRow : OpenClaim := { program := "ytpioelilfhkfdaa", sum := "cb8d15ccf6ca8ed41a7a099465f66d229fb44dd5ce2d43b55d7bd8c1f364158b", func := "railplan/railplanlaw17.SearchBudget", spec := "searchBudget", unfollowed := true, recurses := true, apart := false }
def SearchBudgetSaid : Prop := searchBudgetRow.holds Try.pinned (OpenSpec.ofChange searchBudgetSpec)

/-- ITS FALSE NEIGHBOUR: 'it returns false'. Refute it at one input. -/
def searchBudgetWrong : ChangeSpec := { name := "searchBudget", fn := fun _ => fun
  | [d] => { results := [.lit (.bool false)], args := [d] }
  | _ => none }
def SearchBudgetWrongFalsely : Prop := searchBudgetRow.holds Try.pinned (OpenSpec.ofChange searchBudgetWrong)

/-- 'railplanlaw17.SearchBeatsTheBound': WHATEVER THE INPUT: true; the input reads as it did. -/
def searchBeatsTheBoundSpec : ChangeSpec := { name := "searchBeatsTheBound", fn := fun _ => fun
  | [d] => { results := [.lit (.bool true)], args := [d] }
  | _ => none }
def searchBeatsTheBoundRow : OpenClaim := { program := "ytpioelilfhkfdaa", sum := "cb8d15ccf6ca8ed41a7a099465f66d229fb44dd5ce2d43b55d7bd8c1f364158b", func := "railplan/railplanlaw17.SearchBeatsTheBound", spec := "searchBeatsTheBound", unfollowed := true, recurses := true, apart := false }
def SearchBeatsTheBoundSaid : Prop := searchBeatsTheBoundRow.holds Try.pinned (OpenSpec.ofChange searchBeatsTheBoundSpec)

/-- ITS FALSE NEIGHBOUR: 'it returns false'. Refute it at one input. -/
def searchBeatsTheBoundWrong : ChangeSpec := { name := "searchBeatsTheBound", fn := fun _ => fun
  | [d] => { results := [.lit (.bool false)], args := [d] }
  | _ => none }
def SearchBeatsTheBoundWrongFalsely : Prop := searchBeatsTheBoundRow.holds Try.pinned (OpenSpec.ofChange searchBeatsTheBoundWrong)

/-- 'railplanlaw17.SearchBeatsSimplex': WHATEVER THE INPUT: true; the input reads as it did. -/
def searchBeatsSimplexSpec : ChangeSpec := { name := "searchBeatsSimplex", fn := fun _ => fun
  | [d] => { results := [.lit (.bool true)], args := [d] }
  | _ => none }
def searchBeatsSimplexRow : OpenClaim := { program := "ytpioelilfhkfdaa", sum := "cb8d15ccf6ca8ed41a7a099465f66d229fb44dd5ce2d43b55d7bd8c1f364158b", func := "railplan/railplanlaw17.SearchBeatsSimplex", spec := "searchBeatsSimplex", unfollowed := true, recurses := true, apart := false }
def SearchBeatsSimplexSaid : Prop := searchBeatsSimplexRow.holds Try.pinned (OpenSpec.ofChange searchBeatsSimplexSpec)

/-- ITS FALSE NEIGHBOUR: 'it returns false'. Refute it at one input. -/
def searchBeatsSimplexWrong : ChangeSpec := { name := "searchBeatsSimplex", fn := fun _ => fun
  | [d] => { results := [.lit (.bool false)], args := [d] }
  | _ => none }
def SearchBeatsSimplexWrongFalsely : Prop := searchBeatsSimplexRow.holds Try.pinned (OpenSpec.ofChange searchBeatsSimplexWrong)

/- THE SECOND FORM. 'bulk': how many values and letters a reading holds, each counted each time it is reached (what is shared counts as often as it is met; a slice's spare places count too). A statement '..UptoSaid' is the law's where the arguments, and the package variables that the reading takes, are together of bulk at most 1048576: NARROWER than '..Said'. Prove '..Said' where nothing that the law and all that it calls make is longer than what came in: it says more and counts as full. Else prove '..UptoSaid'. A law counts once. -/
mutual
def uptoBulk {H : Type} : DataW H → Nat
  | .lit (.string bytes) => bytes.length + 1
  | .lit _ => 1
  | .nil => 1
  | .ptr d => uptoBulk d + 1
  | .slice elems spare => uptoBulkAll elems + uptoBulkAll spare + 1
  | .agg parts => uptoBulkAll parts + 1
  | .iface _ d => uptoBulk d + 1
  | .map entries => uptoBulkEntries entries + 1
  | .held _ => 1
def uptoBulkAll {H : Type} : List (DataW H) → Nat
  | [] => 0
  | d :: r => uptoBulk d + uptoBulkAll r
def uptoBulkEntries {H : Type} : List (Lit × DataW H) → Nat
  | [] => 0
  | x :: r => uptoBulkEntry x + uptoBulkEntries r
def uptoBulkEntry {H : Type} : Lit × DataW H → Nat
  | (.string bytes, d) => bytes.length + uptoBulk d + 1
  | (_, d) => uptoBulk d + 1
 end
def uptoSmall : (H : Type) → List (DataW H) → Bool := fun _ ds => decide (uptoBulkAll ds ≤ 1048576)
def OpenSpec.upto (s : _root_.Go.ChangeSpec) : _root_.Go.OpenSpec := { _root_.Go.OpenSpec.ofChange s with cond := some uptoSmall }

/-- 'railplanlaw17.SearchAgreesWithPropagation', WHERE WHAT IT READS IS OF BULK AT MOST 1048576: true; the input reads as it did. -/
def searchAgreesWithPropagationUptoRow : OpenClaim := { program := "ytpioelilfhkfdaa", sum := "cb8d15ccf6ca8ed41a7a099465f66d229fb44dd5ce2d43b55d7bd8c1f364158b", func := "railplan/railplanlaw17.SearchAgreesWithPropagation", spec := "searchAgreesWithPropagation", unfollowed := true, recurses := true, apart := false, narrowed := true }
def SearchAgreesWithPropagationUptoSaid : Prop := searchAgreesWithPropagationUptoRow.holds Try.pinned (OpenSpec.upto searchAgreesWithPropagationSpec)

/-- 'railplanlaw17.SearchExamples', WHERE WHAT IT READS IS OF BULK AT MOST 1048576: true; the input reads as it did. -/
def searchExamplesUptoRow : OpenClaim := { program := "ytpioelilfhkfdaa", sum := "cb8d15ccf6ca8ed41a7a099465f66d229fb44dd5ce2d43b55d7bd8c1f364158b", func := "railplan/railplanlaw17.SearchExamples", spec := "searchExamples", unfollowed := true, recurses := true, apart := false, narrowed := true }
def SearchExamplesUptoSaid : Prop := searchExamplesUptoRow.holds Try.pinned (OpenSpec.upto searchExamplesSpec)

/-- 'railplanlaw17.SearchRaw', WHERE WHAT IT READS IS OF BULK AT MOST 1048576: true; the input reads as it did. -/
def searchRawUptoRow : OpenClaim := { program := "ytpioelilfhkfdaa", sum := "cb8d15ccf6ca8ed41a7a099465f66d229fb44dd5ce2d43b55d7bd8c1f364158b", func := "railplan/railplanlaw17.SearchRaw", spec := "searchRaw", unfollowed := true, recurses := true, apart := false, narrowed := true }
def SearchRawUptoSaid : Prop := searchRawUptoRow.holds Try.pinned (OpenSpec.upto searchRawSpec)

/-- 'railplanlaw17.SearchGenerated', WHERE WHAT IT READS IS OF BULK AT MOST 1048576: true; the input reads as it did. -/
def searchGeneratedUptoRow : OpenClaim := { program := "ytpioelilfhkfdaa", sum := "cb8d15ccf6ca8ed41a7a099465f66d229fb44dd5ce2d43b55d7bd8c1f364158b", func := "railplan/railplanlaw17.SearchGenerated", spec := "searchGenerated", unfollowed := true, recurses := true, apart := false, narrowed := true }
def SearchGeneratedUptoSaid : Prop := searchGeneratedUptoRow.holds Try.pinned (OpenSpec.upto searchGeneratedSpec)

/-- 'railplanlaw17.SearchIsOptimal', WHERE WHAT IT READS IS OF BULK AT MOST 1048576: true; the input reads as it did. -/
def searchIsOptimalUptoRow : OpenClaim := { program := "ytpioelilfhkfdaa", sum := "cb8d15ccf6ca8ed41a7a099465f66d229fb44dd5ce2d43b55d7bd8c1f364158b", func := "railplan/railplanlaw17.SearchIsOptimal", spec := "searchIsOptimal", unfollowed := true, recurses := true, apart := false, narrowed := true }
def SearchIsOptimalUptoSaid : Prop := searchIsOptimalUptoRow.holds Try.pinned (OpenSpec.upto searchIsOptimalSpec)

/-- 'railplanlaw17.SearchIsFirst', WHERE WHAT IT READS IS OF BULK AT MOST 1048576: true; the input reads as it did. -/
def searchIsFirstUptoRow : OpenClaim := { program := "ytpioelilfhkfdaa", sum := "cb8d15ccf6ca8ed41a7a099465f66d229fb44dd5ce2d43b55d7bd8c1f364158b", func := "railplan/railplanlaw17.SearchIsFirst", spec := "searchIsFirst", unfollowed := true, recurses := true, apart := false, narrowed := true }
def SearchIsFirstUptoSaid : Prop := searchIsFirstUptoRow.holds Try.pinned (OpenSpec.upto searchIsFirstSpec)

/-- 'railplanlaw17.SearchBudget', WHERE WHAT IT READS IS OF BULK AT MOST 1048576: true; the input reads as it did. -/
def searchBudgetUptoRow : OpenClaim := { program := "ytpioelilfhkfdaa", sum := "cb8d15ccf6ca8ed41a7a099465f66d229fb44dd5ce2d43b55d7bd8c1f364158b", func := "railplan/railplanlaw17.SearchBudget", spec := "searchBudget", unfollowed := true, recurses := true, apart := false, narrowed := true }
def SearchBudgetUptoSaid : Prop := searchBudgetUptoRow.holds Try.pinned (OpenSpec.upto searchBudgetSpec)

/-- 'railplanlaw17.SearchBeatsTheBound', WHERE WHAT IT READS IS OF BULK AT MOST 1048576: true; the input reads as it did. -/
def searchBeatsTheBoundUptoRow : OpenClaim := { program := "ytpioelilfhkfdaa", sum := "cb8d15ccf6ca8ed41a7a099465f66d229fb44dd5ce2d43b55d7bd8c1f364158b", func := "railplan/railplanlaw17.SearchBeatsTheBound", spec := "searchBeatsTheBound", unfollowed := true, recurses := true, apart := false, narrowed := true }
def SearchBeatsTheBoundUptoSaid : Prop := searchBeatsTheBoundUptoRow.holds Try.pinned (OpenSpec.upto searchBeatsTheBoundSpec)

/-- 'railplanlaw17.SearchBeatsSimplex', WHERE WHAT IT READS IS OF BULK AT MOST 1048576: true; the input reads as it did. -/
def searchBeatsSimplexUptoRow : OpenClaim := { program := "ytpioelilfhkfdaa", sum := "cb8d15ccf6ca8ed41a7a099465f66d229fb44dd5ce2d43b55d7bd8c1f364158b", func := "railplan/railplanlaw17.SearchBeatsSimplex", spec := "searchBeatsSimplex", unfollowed := true, recurses := true, apart := false, narrowed := true }
def SearchBeatsSimplexUptoSaid : Prop := searchBeatsSimplexUptoRow.holds Try.pinned (OpenSpec.upto searchBeatsSimplexSpec)

end Rows
end Go.Proofs.Ytpioelilfhkfdaa
