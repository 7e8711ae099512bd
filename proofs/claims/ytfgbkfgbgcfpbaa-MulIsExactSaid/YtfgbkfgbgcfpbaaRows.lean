/-
  No cell of these rows narrows 'for every input' (looked for: loops, veiled, ifaces, maps, wideKeys, modest, calm, conditions, laid).
  DERIVED. THE GIVEN ROWS OF THIS SEAT. 9 by the template 'for every input the law returns true; each argument reads behind the call as it read before'; 0 by the template 'total and deterministic' (their statements: YtfgbkfgbgcfpbaaTotals.lean).
  GIVEN WITH THE SEED: the statements are not yours to turn. If you find one false, say at which input.
  Laid BY PROGRAM, IN A SANDBOX (cutbox-rows.mjs): the forced cells as the released guide's own fill.sh prints them over the translation 719ba14df1951e67… (all of the seat's roots in one cut). By AI agents, Wed Nov 11 2026. No macro, syntax, notation, axiom, sorry.
-/
import Derived.Test.YtfgbkfgbgcfpbaaChecked
import GoSem.Claim
import GoSem.ClaimJoined
import GoSem.ClaimMapViews
import Derived.JoinedTies
import Derived.KernelRfl
namespace Go.Proofs.Ytfgbkfgbgcfpbaa
/- THE CELL 'sum', in the pinned program and in every row, IS THE sha256 OF THE DUMP (.gsa) THAT YtfgbkfgbgcfpbaaProg.lean LOADS. Nothing in Lean hashes anything: it is a label: what it is worth is what the hold of that sum in a sandbox is worth. -/
noncomputable def Try.pinned : Pinned := { name := "ytfgbkfgbgcfpbaa", sum := "719ba14df1951e67d5f2439422597ca281620886645458f38cf20b8fd036bd2b", checked := Try.checked }
namespace Rows
def none {H : Type} : Left H := { results := [], args := [] }

/-- 'railplanlaw1.AddIsExact': WHATEVER THE INPUT: true; the input reads as it did. -/
def addIsExactSpec : ChangeSpec := { name := "addIsExact", fn := fun _ => fun
  | [d1, d2] => { results := [.lit (.bool true)], args := [d1, d2] }
  | _ => none }
def addIsExactRow : OpenClaim := { program := "ytfgbkfgbgcfpbaa", sum := "719ba14df1951e67d5f2439422597ca281620886645458f38cf20b8fd036bd2b", func := "railplan/railplanlaw1.AddIsExact", spec := "addIsExact", apart := false }
def AddIsExactSaid : Prop := addIsExactRow.holds Try.pinned (OpenSpec.ofChange addIsExactSpec)

/-- ITS FALSE NEIGHBOUR: 'it returns false'. Refute it at one input. -/
def addIsExactWrong : ChangeSpec := { name := "addIsExact", fn := fun _ => fun
  | [d1, d2] => { results := [.lit (.bool false)], args := [d1, d2] }
  | _ => none }
def AddIsExactWrongFalsely : Prop := addIsExactRow.holds Try.pinned (OpenSpec.ofChange addIsExactWrong)

/-- 'railplanlaw1.GcdDivides': WHATEVER THE INPUT: true; the input reads as it did. -/
def gcdDividesSpec : ChangeSpec := { name := "gcdDivides", fn := fun _ => fun
  | [d1, d2, d3] => { results := [.lit (.bool true)], args := [d1, d2, d3] }
  | _ => none }
def gcdDividesRow : OpenClaim := { program := "ytfgbkfgbgcfpbaa", sum := "719ba14df1951e67d5f2439422597ca281620886645458f38cf20b8fd036bd2b", func := "railplan/railplanlaw1.GcdDivides", spec := "gcdDivides", apart := false }
def GcdDividesSaid : Prop := gcdDividesRow.holds Try.pinned (OpenSpec.ofChange gcdDividesSpec)

/-- ITS FALSE NEIGHBOUR: 'it returns false'. Refute it at one input. -/
def gcdDividesWrong : ChangeSpec := { name := "gcdDivides", fn := fun _ => fun
  | [d1, d2, d3] => { results := [.lit (.bool false)], args := [d1, d2, d3] }
  | _ => none }
def GcdDividesWrongFalsely : Prop := gcdDividesRow.holds Try.pinned (OpenSpec.ofChange gcdDividesWrong)

/-- 'railplanlaw1.ModIsResidue': WHATEVER THE INPUT: true; the input reads as it did. -/
def modIsResidueSpec : ChangeSpec := { name := "modIsResidue", fn := fun _ => fun
  | [d1, d2, d3] => { results := [.lit (.bool true)], args := [d1, d2, d3] }
  | _ => none }
def modIsResidueRow : OpenClaim := { program := "ytfgbkfgbgcfpbaa", sum := "719ba14df1951e67d5f2439422597ca281620886645458f38cf20b8fd036bd2b", func := "railplan/railplanlaw1.ModIsResidue", spec := "modIsResidue", apart := false }
def ModIsResidueSaid : Prop := modIsResidueRow.holds Try.pinned (OpenSpec.ofChange modIsResidueSpec)

/-- ITS FALSE NEIGHBOUR: 'it returns false'. Refute it at one input. -/
def modIsResidueWrong : ChangeSpec := { name := "modIsResidue", fn := fun _ => fun
  | [d1, d2, d3] => { results := [.lit (.bool false)], args := [d1, d2, d3] }
  | _ => none }
def ModIsResidueWrongFalsely : Prop := modIsResidueRow.holds Try.pinned (OpenSpec.ofChange modIsResidueWrong)

/-- 'railplanlaw1.SqrtIsFloor': WHATEVER THE INPUT: true; the input reads as it did. -/
def sqrtIsFloorSpec : ChangeSpec := { name := "sqrtIsFloor", fn := fun _ => fun
  | [d1, d2] => { results := [.lit (.bool true)], args := [d1, d2] }
  | _ => none }
def sqrtIsFloorRow : OpenClaim := { program := "ytfgbkfgbgcfpbaa", sum := "719ba14df1951e67d5f2439422597ca281620886645458f38cf20b8fd036bd2b", func := "railplan/railplanlaw1.SqrtIsFloor", spec := "sqrtIsFloor", apart := false }
def SqrtIsFloorSaid : Prop := sqrtIsFloorRow.holds Try.pinned (OpenSpec.ofChange sqrtIsFloorSpec)

/-- ITS FALSE NEIGHBOUR: 'it returns false'. Refute it at one input. -/
def sqrtIsFloorWrong : ChangeSpec := { name := "sqrtIsFloor", fn := fun _ => fun
  | [d1, d2] => { results := [.lit (.bool false)], args := [d1, d2] }
  | _ => none }
def SqrtIsFloorWrongFalsely : Prop := sqrtIsFloorRow.holds Try.pinned (OpenSpec.ofChange sqrtIsFloorWrong)

/-- 'railplanlaw1.DivisionsBracket': WHATEVER THE INPUT: true; the input reads as it did. -/
def divisionsBracketSpec : ChangeSpec := { name := "divisionsBracket", fn := fun _ => fun
  | [d1, d2] => { results := [.lit (.bool true)], args := [d1, d2] }
  | _ => none }
def divisionsBracketRow : OpenClaim := { program := "ytfgbkfgbgcfpbaa", sum := "719ba14df1951e67d5f2439422597ca281620886645458f38cf20b8fd036bd2b", func := "railplan/railplanlaw1.DivisionsBracket", spec := "divisionsBracket", apart := false }
def DivisionsBracketSaid : Prop := divisionsBracketRow.holds Try.pinned (OpenSpec.ofChange divisionsBracketSpec)

/-- ITS FALSE NEIGHBOUR: 'it returns false'. Refute it at one input. -/
def divisionsBracketWrong : ChangeSpec := { name := "divisionsBracket", fn := fun _ => fun
  | [d1, d2] => { results := [.lit (.bool false)], args := [d1, d2] }
  | _ => none }
def DivisionsBracketWrongFalsely : Prop := divisionsBracketRow.holds Try.pinned (OpenSpec.ofChange divisionsBracketWrong)

/-- 'railplanlaw1.DivisionWithRemainder': WHATEVER THE INPUT: true; the input reads as it did. -/
def divisionWithRemainderSpec : ChangeSpec := { name := "divisionWithRemainder", fn := fun _ => fun
  | [d1, d2] => { results := [.lit (.bool true)], args := [d1, d2] }
  | _ => none }
def divisionWithRemainderRow : OpenClaim := { program := "ytfgbkfgbgcfpbaa", sum := "719ba14df1951e67d5f2439422597ca281620886645458f38cf20b8fd036bd2b", func := "railplan/railplanlaw1.DivisionWithRemainder", spec := "divisionWithRemainder", apart := false }
def DivisionWithRemainderSaid : Prop := divisionWithRemainderRow.holds Try.pinned (OpenSpec.ofChange divisionWithRemainderSpec)

/-- ITS FALSE NEIGHBOUR: 'it returns false'. Refute it at one input. -/
def divisionWithRemainderWrong : ChangeSpec := { name := "divisionWithRemainder", fn := fun _ => fun
  | [d1, d2] => { results := [.lit (.bool false)], args := [d1, d2] }
  | _ => none }
def DivisionWithRemainderWrongFalsely : Prop := divisionWithRemainderRow.holds Try.pinned (OpenSpec.ofChange divisionWithRemainderWrong)

/-- 'railplanlaw1.CeilIsNegatedFloor': WHATEVER THE INPUT: true; the input reads as it did. -/
def ceilIsNegatedFloorSpec : ChangeSpec := { name := "ceilIsNegatedFloor", fn := fun _ => fun
  | [d1, d2] => { results := [.lit (.bool true)], args := [d1, d2] }
  | _ => none }
def ceilIsNegatedFloorRow : OpenClaim := { program := "ytfgbkfgbgcfpbaa", sum := "719ba14df1951e67d5f2439422597ca281620886645458f38cf20b8fd036bd2b", func := "railplan/railplanlaw1.CeilIsNegatedFloor", spec := "ceilIsNegatedFloor", apart := false }
def CeilIsNegatedFloorSaid : Prop := ceilIsNegatedFloorRow.holds Try.pinned (OpenSpec.ofChange ceilIsNegatedFloorSpec)

/-- ITS FALSE NEIGHBOUR: 'it returns false'. Refute it at one input. -/
def ceilIsNegatedFloorWrong : ChangeSpec := { name := "ceilIsNegatedFloor", fn := fun _ => fun
  | [d1, d2] => { results := [.lit (.bool false)], args := [d1, d2] }
  | _ => none }
def CeilIsNegatedFloorWrongFalsely : Prop := ceilIsNegatedFloorRow.holds Try.pinned (OpenSpec.ofChange ceilIsNegatedFloorWrong)

/-- 'railplanlaw1.MulIsExact': WHATEVER THE INPUT: true; the input reads as it did. -/
def mulIsExactSpec : ChangeSpec := { name := "mulIsExact", fn := fun _ => fun
  | [d1, d2, d3] => { results := [.lit (.bool true)], args := [d1, d2, d3] }
  | _ => none }
def mulIsExactRow : OpenClaim := { program := "ytfgbkfgbgcfpbaa", sum := "719ba14df1951e67d5f2439422597ca281620886645458f38cf20b8fd036bd2b", func := "railplan/railplanlaw1.MulIsExact", spec := "mulIsExact", apart := false }
def MulIsExactSaid : Prop := mulIsExactRow.holds Try.pinned (OpenSpec.ofChange mulIsExactSpec)

/-- ITS FALSE NEIGHBOUR: 'it returns false'. Refute it at one input. -/
def mulIsExactWrong : ChangeSpec := { name := "mulIsExact", fn := fun _ => fun
  | [d1, d2, d3] => { results := [.lit (.bool false)], args := [d1, d2, d3] }
  | _ => none }
def MulIsExactWrongFalsely : Prop := mulIsExactRow.holds Try.pinned (OpenSpec.ofChange mulIsExactWrong)

/-- 'railplanlaw1.ArithExamples': WHATEVER THE INPUT: true; the input reads as it did. -/
def arithExamplesSpec : ChangeSpec := { name := "arithExamples", fn := fun _ => fun
  | [] => { results := [.lit (.bool true)], args := [] }
  | _ => none }
def arithExamplesRow : OpenClaim := { program := "ytfgbkfgbgcfpbaa", sum := "719ba14df1951e67d5f2439422597ca281620886645458f38cf20b8fd036bd2b", func := "railplan/railplanlaw1.ArithExamples", spec := "arithExamples", apart := false }
def ArithExamplesSaid : Prop := arithExamplesRow.holds Try.pinned (OpenSpec.ofChange arithExamplesSpec)

/-- ITS FALSE NEIGHBOUR: 'it returns false'. Refute it at one input. -/
def arithExamplesWrong : ChangeSpec := { name := "arithExamples", fn := fun _ => fun
  | [] => { results := [.lit (.bool false)], args := [] }
  | _ => none }
def ArithExamplesWrongFalsely : Prop := arithExamplesRow.holds Try.pinned (OpenSpec.ofChange arithExamplesWrong)

/- THE SECOND FORM. 'bulk': how many values and letters a reading holds, each counted each time it is reached (what is shared counts as often as it is met; a slice's spare places count too). A statement '..UptoSaid' is the law's where the arguments, and the package variables that the reading takes, are together of bulk at most 1048576: NARROWER than '..Said'. Prove '..Said' where nothing that the law and all that it calls make is longer than what came in: it says more and counts as full. Else prove '..UptoSaid'. A law counts once. -/
mutual
def uptoBulk {H : Type} : DataW H → Nat
  | .lit (.string bytes) => bytes.length + 1
  | .lit _ => 1
  | .nil => 1
  | .ptr d => uptoBulk d + 1
  | .slice elems spare => uptoBulkAll elems + uptoBulkAll spare + 1
  | .agg parts => uptoBulkAll parts + 1
  | .iface _ d => uptoBulk d + 1
  | .map entries => uptoBulkEntries entries + 1
  | .held _ => 1
def uptoBulkAll {H : Type} : List (DataW H) → Nat
  | [] => 0
  | d :: r => uptoBulk d + uptoBulkAll r
def uptoBulkEntries {H : Type} : List (Lit × DataW H) → Nat
  | [] => 0
  | x :: r => uptoBulkEntry x + uptoBulkEntries r
def uptoBulkEntry {H : Type} : Lit × DataW H → Nat
  | (.string bytes, d) => bytes.length + uptoBulk d + 1
  | (_, d) => uptoBulk d + 1
 end
def uptoSmall : (H : Type) → List (DataW H) → Bool := fun _ ds => decide (uptoBulkAll ds ≤ 1048576)
def OpenSpec.upto (s : _root_.Go.ChangeSpec) : _root_.Go.OpenSpec := { _root_.Go.OpenSpec.ofChange s with cond := some uptoSmall }

/-- 'railplanlaw1.AddIsExact', WHERE WHAT IT READS IS OF BULK AT MOST 1048576: true; the input reads as it did. -/
def addIsExactUptoRow : OpenClaim := { program := "ytfgbkfgbgcfpbaa", sum := "719ba14df1951e67d5f2439422597ca281620886645458f38cf20b8fd036bd2b", func := "railplan/railplanlaw1.AddIsExact", spec := "addIsExact", apart := false, narrowed := true }
def AddIsExactUptoSaid : Prop := addIsExactUptoRow.holds Try.pinned (OpenSpec.upto addIsExactSpec)

/-- 'railplanlaw1.GcdDivides', WHERE WHAT IT READS IS OF BULK AT MOST 1048576: true; the input reads as it did. -/
def gcdDividesUptoRow : OpenClaim := { program := "ytfgbkfgbgcfpbaa", sum := "719ba14df1951e67d5f2439422597ca281620886645458f38cf20b8fd036bd2b", func := "railplan/railplanlaw1.GcdDivides", spec := "gcdDivides", apart := false, narrowed := true }
def GcdDividesUptoSaid : Prop := gcdDividesUptoRow.holds Try.pinned (OpenSpec.upto gcdDividesSpec)

/-- 'railplanlaw1.ModIsResidue', WHERE WHAT IT READS IS OF BULK AT MOST 1048576: true; the input reads as it did. -/
def modIsResidueUptoRow : OpenClaim := { program := "ytfgbkfgbgcfpbaa", sum := "719ba14df1951e67d5f2439422597ca281620886645458f38cf20b8fd036bd2b", func := "railplan/railplanlaw1.ModIsResidue", spec := "modIsResidue", apart := false, narrowed := true }
def ModIsResidueUptoSaid : Prop := modIsResidueUptoRow.holds Try.pinned (OpenSpec.upto modIsResidueSpec)

/-- 'railplanlaw1.SqrtIsFloor', WHERE WHAT IT READS IS OF BULK AT MOST 1048576: true; the input reads as it did. -/
def sqrtIsFloorUptoRow : OpenClaim := { program := "ytfgbkfgbgcfpbaa", sum := "719ba14df1951e67d5f2439422597ca281620886645458f38cf20b8fd036bd2b", func := "railplan/railplanlaw1.SqrtIsFloor", spec := "sqrtIsFloor", apart := false, narrowed := true }
def SqrtIsFloorUptoSaid : Prop := sqrtIsFloorUptoRow.holds Try.pinned (OpenSpec.upto sqrtIsFloorSpec)

/-- 'railplanlaw1.DivisionsBracket', WHERE WHAT IT READS IS OF BULK AT MOST 1048576: true; the input reads as it did. -/
def divisionsBracketUptoRow : OpenClaim := { program := "ytfgbkfgbgcfpbaa", sum := "719ba14df1951e67d5f2439422597ca281620886645458f38cf20b8fd036bd2b", func := "railplan/railplanlaw1.DivisionsBracket", spec := "divisionsBracket", apart := false, narrowed := true }
def DivisionsBracketUptoSaid : Prop := divisionsBracketUptoRow.holds Try.pinned (OpenSpec.upto divisionsBracketSpec)

/-- 'railplanlaw1.DivisionWithRemainder', WHERE WHAT IT READS IS OF BULK AT MOST 1048576: true; the input reads as it did. -/
def divisionWithRemainderUptoRow : OpenClaim := { program := "ytfgbkfgbgcfpbaa", sum := "719ba14df1951e67d5f2439422597ca281620886645458f38cf20b8fd036bd2b", func := "railplan/railplanlaw1.DivisionWithRemainder", spec := "divisionWithRemainder", apart := false, narrowed := true }
def DivisionWithRemainderUptoSaid : Prop := divisionWithRemainderUptoRow.holds Try.pinned (OpenSpec.upto divisionWithRemainderSpec)

/-- 'railplanlaw1.CeilIsNegatedFloor', WHERE WHAT IT READS IS OF BULK AT MOST 1048576: true; the input reads as it did. -/
def ceilIsNegatedFloorUptoRow : OpenClaim := { program := "ytfgbkfgbgcfpbaa", sum := "719ba14df1951e67d5f2439422597ca281620886645458f38cf20b8fd036bd2b", func := "railplan/railplanlaw1.CeilIsNegatedFloor", spec := "ceilIsNegatedFloor", apart := false, narrowed := true }
def CeilIsNegatedFloorUptoSaid : Prop := ceilIsNegatedFloorUptoRow.holds Try.pinned (OpenSpec.upto ceilIsNegatedFloorSpec)

/-- 'railplanlaw1.MulIsExact', WHERE WHAT IT READS IS OF BULK AT MOST 1048576: true; the input reads as it did. -/
def mulIsExactUptoRow : OpenClaim := { program := "ytfgbkfgbgcfpbaa", sum := "719ba14df1951e67d5f2439422597ca281620886645458f38cf20b8fd036bd2b", func := "railplan/railplanlaw1.MulIsExact", spec := "mulIsExact", apart := false, narrowed := true }
def MulIsExactUptoSaid : Prop := mulIsExactUptoRow.holds Try.pinned (OpenSpec.upto mulIsExactSpec)

/-- 'railplanlaw1.ArithExamples', WHERE WHAT IT READS IS OF BULK AT MOST 1048576: true; the input reads as it did. -/
def arithExamplesUptoRow : OpenClaim := { program := "ytfgbkfgbgcfpbaa", sum := "719ba14df1951e67d5f2439422597ca281620886645458f38cf20b8fd036bd2b", func := "railplan/railplanlaw1.ArithExamples", spec := "arithExamples", apart := false, narrowed := true }
def ArithExamplesUptoSaid : Prop := arithExamplesUptoRow.holds Try.pinned (OpenSpec.upto arithExamplesSpec)

end Rows
end Go.Proofs.Ytfgbkfgbgcfpbaa
