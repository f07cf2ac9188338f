/-
  No cell of these rows narrows 'for every input' (looked for: loops, veiled, ifaces, maps, wideKeys, modest, calm, conditions, laid).
  DERIVED. THE GIVEN ROWS OF THIS SEAT. 11 by the template 'for every input the law returns true; each argument reads behind the call as it read before'; 0 by the template 'total and deterministic' (their statements: YtigpmhicdmjbeaaTotals.lean).
  GIVEN WITH THE SEED: the statements are not yours to turn. If you find one false, say at which input.
  Laid BY PROGRAM, IN A SANDBOX (cutbox-rows.mjs): the forced cells as the released guide's own fill.sh prints them over the translation bc152232d62c25da… (all of the seat's roots in one cut). By AI agents, Wed Nov 11 2026. No macro, syntax, notation, axiom, sorry.
-/
import Derived.Test.YtigpmhicdmjbeaaChecked
import GoSem.Claim
import GoSem.ClaimJoined
import GoSem.ClaimMapViews
import Derived.JoinedTies
import Derived.KernelRfl
namespace Go.Proofs.Ytigpmhicdmjbeaa
/- THE CELL 'sum', in the pinned program and in every row, IS THE sha256 OF THE DUMP (.gsa) THAT YtigpmhicdmjbeaaProg.lean LOADS. Nothing in Lean hashes anything: it is a label: what it is worth is what the hold of that sum in a sandbox is worth. -/
noncomputable def Try.pinned : Pinned := { name := "ytigpmhicdmjbeaa", sum := "bc152232d62c25daf2fac2beac94c518a2f1ec4c3f1e2407bc49c32f5dab79d9", checked := Try.checked }
namespace Rows
def none {H : Type} : Left H := { results := [], args := [] }

/-- 'marblerunlaw11.MatrixZeros': WHATEVER THE INPUT: true; the input reads as it did. -/
def matrixZerosSpec : ChangeSpec := { name := "matrixZeros", fn := fun _ => fun
  | [d1, d2] => { results := [.lit (.bool true)], args := [d1, d2] }
  | _ => none }
def matrixZerosRow : OpenClaim := { program := "ytigpmhicdmjbeaa", sum := "bc152232d62c25daf2fac2beac94c518a2f1ec4c3f1e2407bc49c32f5dab79d9", func := "marblerun/marblerunlaw11.MatrixZeros", spec := "matrixZeros", apart := false }
def MatrixZerosSaid : Prop := matrixZerosRow.holds Try.pinned (OpenSpec.ofChange matrixZerosSpec)

/-- ITS FALSE NEIGHBOUR: 'it returns false'. Refute it at one input. -/
def matrixZerosWrong : ChangeSpec := { name := "matrixZeros", fn := fun _ => fun
  | [d1, d2] => { results := [.lit (.bool false)], args := [d1, d2] }
  | _ => none }
def MatrixZerosWrongFalsely : Prop := matrixZerosRow.holds Try.pinned (OpenSpec.ofChange matrixZerosWrong)

/-- 'marblerunlaw11.MatrixOf': WHATEVER THE INPUT: true; the input reads as it did. -/
def matrixOfSpec : ChangeSpec := { name := "matrixOf", fn := fun _ => fun
  | [d] => { results := [.lit (.bool true)], args := [d] }
  | _ => none }
def matrixOfRow : OpenClaim := { program := "ytigpmhicdmjbeaa", sum := "bc152232d62c25daf2fac2beac94c518a2f1ec4c3f1e2407bc49c32f5dab79d9", func := "marblerun/marblerunlaw11.MatrixOf", spec := "matrixOf", apart := false }
def MatrixOfSaid : Prop := matrixOfRow.holds Try.pinned (OpenSpec.ofChange matrixOfSpec)

/-- ITS FALSE NEIGHBOUR: 'it returns false'. Refute it at one input. -/
def matrixOfWrong : ChangeSpec := { name := "matrixOf", fn := fun _ => fun
  | [d] => { results := [.lit (.bool false)], args := [d] }
  | _ => none }
def MatrixOfWrongFalsely : Prop := matrixOfRow.holds Try.pinned (OpenSpec.ofChange matrixOfWrong)

/-- 'marblerunlaw11.MatrixRuns': WHATEVER THE INPUT: true; the input reads as it did. -/
def matrixRunsSpec : ChangeSpec := { name := "matrixRuns", fn := fun _ => fun
  | [d1, d2] => { results := [.lit (.bool true)], args := [d1, d2] }
  | _ => none }
def matrixRunsRow : OpenClaim := { program := "ytigpmhicdmjbeaa", sum := "bc152232d62c25daf2fac2beac94c518a2f1ec4c3f1e2407bc49c32f5dab79d9", func := "marblerun/marblerunlaw11.MatrixRuns", spec := "matrixRuns", apart := false }
def MatrixRunsSaid : Prop := matrixRunsRow.holds Try.pinned (OpenSpec.ofChange matrixRunsSpec)

/-- ITS FALSE NEIGHBOUR: 'it returns false'. Refute it at one input. -/
def matrixRunsWrong : ChangeSpec := { name := "matrixRuns", fn := fun _ => fun
  | [d1, d2] => { results := [.lit (.bool false)], args := [d1, d2] }
  | _ => none }
def MatrixRunsWrongFalsely : Prop := matrixRunsRow.holds Try.pinned (OpenSpec.ofChange matrixRunsWrong)

/-- 'marblerunlaw13.WeighSums': WHATEVER THE INPUT: true; the input reads as it did. -/
def weighSumsSpec : ChangeSpec := { name := "weighSums", fn := fun _ => fun
  | [d1, d2, d3] => { results := [.lit (.bool true)], args := [d1, d2, d3] }
  | _ => none }
def weighSumsRow : OpenClaim := { program := "ytigpmhicdmjbeaa", sum := "bc152232d62c25daf2fac2beac94c518a2f1ec4c3f1e2407bc49c32f5dab79d9", func := "marblerun/marblerunlaw13.WeighSums", spec := "weighSums", apart := false }
def WeighSumsSaid : Prop := weighSumsRow.holds Try.pinned (OpenSpec.ofChange weighSumsSpec)

/-- ITS FALSE NEIGHBOUR: 'it returns false'. Refute it at one input. -/
def weighSumsWrong : ChangeSpec := { name := "weighSums", fn := fun _ => fun
  | [d1, d2, d3] => { results := [.lit (.bool false)], args := [d1, d2, d3] }
  | _ => none }
def WeighSumsWrongFalsely : Prop := weighSumsRow.holds Try.pinned (OpenSpec.ofChange weighSumsWrong)

/-- 'marblerunlaw13.WeighRuns': WHATEVER THE INPUT: true; the input reads as it did. -/
def weighRunsSpec : ChangeSpec := { name := "weighRuns", fn := fun _ => fun
  | [d1, d2, d3] => { results := [.lit (.bool true)], args := [d1, d2, d3] }
  | _ => none }
def weighRunsRow : OpenClaim := { program := "ytigpmhicdmjbeaa", sum := "bc152232d62c25daf2fac2beac94c518a2f1ec4c3f1e2407bc49c32f5dab79d9", func := "marblerun/marblerunlaw13.WeighRuns", spec := "weighRuns", apart := false }
def WeighRunsSaid : Prop := weighRunsRow.holds Try.pinned (OpenSpec.ofChange weighRunsSpec)

/-- ITS FALSE NEIGHBOUR: 'it returns false'. Refute it at one input. -/
def weighRunsWrong : ChangeSpec := { name := "weighRuns", fn := fun _ => fun
  | [d1, d2, d3] => { results := [.lit (.bool false)], args := [d1, d2, d3] }
  | _ => none }
def WeighRunsWrongFalsely : Prop := weighRunsRow.holds Try.pinned (OpenSpec.ofChange weighRunsWrong)

/-- 'marblerunlaw13.WeighErrs': WHATEVER THE INPUT: true; the input reads as it did. -/
def weighErrsSpec : ChangeSpec := { name := "weighErrs", fn := fun _ => fun
  | [d1, d2, d3] => { results := [.lit (.bool true)], args := [d1, d2, d3] }
  | _ => none }
def weighErrsRow : OpenClaim := { program := "ytigpmhicdmjbeaa", sum := "bc152232d62c25daf2fac2beac94c518a2f1ec4c3f1e2407bc49c32f5dab79d9", func := "marblerun/marblerunlaw13.WeighErrs", spec := "weighErrs", apart := false }
def WeighErrsSaid : Prop := weighErrsRow.holds Try.pinned (OpenSpec.ofChange weighErrsSpec)

/-- ITS FALSE NEIGHBOUR: 'it returns false'. Refute it at one input. -/
def weighErrsWrong : ChangeSpec := { name := "weighErrs", fn := fun _ => fun
  | [d1, d2, d3] => { results := [.lit (.bool false)], args := [d1, d2, d3] }
  | _ => none }
def WeighErrsWrongFalsely : Prop := weighErrsRow.holds Try.pinned (OpenSpec.ofChange weighErrsWrong)

/-- 'marblerunlaw13.WeighBack': WHATEVER THE INPUT: true; the input reads as it did. -/
def weighBackSpec : ChangeSpec := { name := "weighBack", fn := fun _ => fun
  | [d1, d2] => { results := [.lit (.bool true)], args := [d1, d2] }
  | _ => none }
def weighBackRow : OpenClaim := { program := "ytigpmhicdmjbeaa", sum := "bc152232d62c25daf2fac2beac94c518a2f1ec4c3f1e2407bc49c32f5dab79d9", func := "marblerun/marblerunlaw13.WeighBack", spec := "weighBack", apart := false }
def WeighBackSaid : Prop := weighBackRow.holds Try.pinned (OpenSpec.ofChange weighBackSpec)

/-- ITS FALSE NEIGHBOUR: 'it returns false'. Refute it at one input. -/
def weighBackWrong : ChangeSpec := { name := "weighBack", fn := fun _ => fun
  | [d1, d2] => { results := [.lit (.bool false)], args := [d1, d2] }
  | _ => none }
def WeighBackWrongFalsely : Prop := weighBackRow.holds Try.pinned (OpenSpec.ofChange weighBackWrong)

/-- 'marblerunlaw11.MatrixTimes': WHATEVER THE INPUT: true; the input reads as it did. -/
def matrixTimesSpec : ChangeSpec := { name := "matrixTimes", fn := fun _ => fun
  | [d1, d2, d3, d4] => { results := [.lit (.bool true)], args := [d1, d2, d3, d4] }
  | _ => none }
def matrixTimesRow : OpenClaim := { program := "ytigpmhicdmjbeaa", sum := "bc152232d62c25daf2fac2beac94c518a2f1ec4c3f1e2407bc49c32f5dab79d9", func := "marblerun/marblerunlaw11.MatrixTimes", spec := "matrixTimes", apart := false }
def MatrixTimesSaid : Prop := matrixTimesRow.holds Try.pinned (OpenSpec.ofChange matrixTimesSpec)

/-- ITS FALSE NEIGHBOUR: 'it returns false'. Refute it at one input. -/
def matrixTimesWrong : ChangeSpec := { name := "matrixTimes", fn := fun _ => fun
  | [d1, d2, d3, d4] => { results := [.lit (.bool false)], args := [d1, d2, d3, d4] }
  | _ => none }
def MatrixTimesWrongFalsely : Prop := matrixTimesRow.holds Try.pinned (OpenSpec.ofChange matrixTimesWrong)

/-- 'marblerunlaw11.MatrixSides': WHATEVER THE INPUT: true; the input reads as it did. -/
def matrixSidesSpec : ChangeSpec := { name := "matrixSides", fn := fun _ => fun
  | [d1, d2, d3, d4] => { results := [.lit (.bool true)], args := [d1, d2, d3, d4] }
  | _ => none }
def matrixSidesRow : OpenClaim := { program := "ytigpmhicdmjbeaa", sum := "bc152232d62c25daf2fac2beac94c518a2f1ec4c3f1e2407bc49c32f5dab79d9", func := "marblerun/marblerunlaw11.MatrixSides", spec := "matrixSides", apart := false }
def MatrixSidesSaid : Prop := matrixSidesRow.holds Try.pinned (OpenSpec.ofChange matrixSidesSpec)

/-- ITS FALSE NEIGHBOUR: 'it returns false'. Refute it at one input. -/
def matrixSidesWrong : ChangeSpec := { name := "matrixSides", fn := fun _ => fun
  | [d1, d2, d3, d4] => { results := [.lit (.bool false)], args := [d1, d2, d3, d4] }
  | _ => none }
def MatrixSidesWrongFalsely : Prop := matrixSidesRow.holds Try.pinned (OpenSpec.ofChange matrixSidesWrong)

/-- 'marblerunlaw13.WeighStays': WHATEVER THE INPUT: true; the input reads as it did. -/
def weighStaysSpec : ChangeSpec := { name := "weighStays", fn := fun _ => fun
  | [d1, d2, d3] => { results := [.lit (.bool true)], args := [d1, d2, d3] }
  | _ => none }
def weighStaysRow : OpenClaim := { program := "ytigpmhicdmjbeaa", sum := "bc152232d62c25daf2fac2beac94c518a2f1ec4c3f1e2407bc49c32f5dab79d9", func := "marblerun/marblerunlaw13.WeighStays", spec := "weighStays", apart := false }
def WeighStaysSaid : Prop := weighStaysRow.holds Try.pinned (OpenSpec.ofChange weighStaysSpec)

/-- ITS FALSE NEIGHBOUR: 'it returns false'. Refute it at one input. -/
def weighStaysWrong : ChangeSpec := { name := "weighStays", fn := fun _ => fun
  | [d1, d2, d3] => { results := [.lit (.bool false)], args := [d1, d2, d3] }
  | _ => none }
def WeighStaysWrongFalsely : Prop := weighStaysRow.holds Try.pinned (OpenSpec.ofChange weighStaysWrong)

/-- 'marblerunlaw13.WeighNone': WHATEVER THE INPUT: true; the input reads as it did. -/
def weighNoneSpec : ChangeSpec := { name := "weighNone", fn := fun _ => fun
  | [d1, d2] => { results := [.lit (.bool true)], args := [d1, d2] }
  | _ => none }
def weighNoneRow : OpenClaim := { program := "ytigpmhicdmjbeaa", sum := "bc152232d62c25daf2fac2beac94c518a2f1ec4c3f1e2407bc49c32f5dab79d9", func := "marblerun/marblerunlaw13.WeighNone", spec := "weighNone", apart := false }
def WeighNoneSaid : Prop := weighNoneRow.holds Try.pinned (OpenSpec.ofChange weighNoneSpec)

/-- ITS FALSE NEIGHBOUR: 'it returns false'. Refute it at one input. -/
def weighNoneWrong : ChangeSpec := { name := "weighNone", fn := fun _ => fun
  | [d1, d2] => { results := [.lit (.bool false)], args := [d1, d2] }
  | _ => none }
def WeighNoneWrongFalsely : Prop := weighNoneRow.holds Try.pinned (OpenSpec.ofChange weighNoneWrong)

/- THE SECOND FORM. 'bulk': how many values and letters a reading holds, each counted each time it is reached (what is shared counts as often as it is met; a slice's spare places count too). A statement '..UptoSaid' is the law's where the arguments, and the package variables that the reading takes, are together of bulk at most 1048576: NARROWER than '..Said'. Prove '..Said' where nothing that the law and all that it calls make is longer than what came in: it says more and counts as full. Else prove '..UptoSaid'. A law counts once. -/
mutual
def uptoBulk {H : Type} : DataW H → Nat
  | .lit (.string bytes) => bytes.length + 1
  | .lit _ => 1
  | .nil => 1
  | .ptr d => uptoBulk d + 1
  | .slice elems spare => uptoBulkAll elems + uptoBulkAll spare + 1
  | .agg parts => uptoBulkAll parts + 1
  | .iface _ d => uptoBulk d + 1
  | .map entries => uptoBulkEntries entries + 1
  | .held _ => 1
def uptoBulkAll {H : Type} : List (DataW H) → Nat
  | [] => 0
  | d :: r => uptoBulk d + uptoBulkAll r
def uptoBulkEntries {H : Type} : List (Lit × DataW H) → Nat
  | [] => 0
  | x :: r => uptoBulkEntry x + uptoBulkEntries r
def uptoBulkEntry {H : Type} : Lit × DataW H → Nat
  | (.string bytes, d) => bytes.length + uptoBulk d + 1
  | (_, d) => uptoBulk d + 1
 end
def uptoSmall : (H : Type) → List (DataW H) → Bool := fun _ ds => decide (uptoBulkAll ds ≤ 1048576)
def OpenSpec.upto (s : _root_.Go.ChangeSpec) : _root_.Go.OpenSpec := { _root_.Go.OpenSpec.ofChange s with cond := some uptoSmall }

/-- 'marblerunlaw11.MatrixZeros', WHERE WHAT IT READS IS OF BULK AT MOST 1048576: true; the input reads as it did. -/
def matrixZerosUptoRow : OpenClaim := { program := "ytigpmhicdmjbeaa", sum := "bc152232d62c25daf2fac2beac94c518a2f1ec4c3f1e2407bc49c32f5dab79d9", func := "marblerun/marblerunlaw11.MatrixZeros", spec := "matrixZeros", apart := false, narrowed := true }
def MatrixZerosUptoSaid : Prop := matrixZerosUptoRow.holds Try.pinned (OpenSpec.upto matrixZerosSpec)

/-- 'marblerunlaw11.MatrixOf', WHERE WHAT IT READS IS OF BULK AT MOST 1048576: true; the input reads as it did. -/
def matrixOfUptoRow : OpenClaim := { program := "ytigpmhicdmjbeaa", sum := "bc152232d62c25daf2fac2beac94c518a2f1ec4c3f1e2407bc49c32f5dab79d9", func := "marblerun/marblerunlaw11.MatrixOf", spec := "matrixOf", apart := false, narrowed := true }
def MatrixOfUptoSaid : Prop := matrixOfUptoRow.holds Try.pinned (OpenSpec.upto matrixOfSpec)

/-- 'marblerunlaw11.MatrixRuns', WHERE WHAT IT READS IS OF BULK AT MOST 1048576: true; the input reads as it did. -/
def matrixRunsUptoRow : OpenClaim := { program := "ytigpmhicdmjbeaa", sum := "bc152232d62c25daf2fac2beac94c518a2f1ec4c3f1e2407bc49c32f5dab79d9", func := "marblerun/marblerunlaw11.MatrixRuns", spec := "matrixRuns", apart := false, narrowed := true }
def MatrixRunsUptoSaid : Prop := matrixRunsUptoRow.holds Try.pinned (OpenSpec.upto matrixRunsSpec)

/-- 'marblerunlaw13.WeighSums', WHERE WHAT IT READS IS OF BULK AT MOST 1048576: true; the input reads as it did. -/
def weighSumsUptoRow : OpenClaim := { program := "ytigpmhicdmjbeaa", sum := "bc152232d62c25daf2fac2beac94c518a2f1ec4c3f1e2407bc49c32f5dab79d9", func := "marblerun/marblerunlaw13.WeighSums", spec := "weighSums", apart := false, narrowed := true }
def WeighSumsUptoSaid : Prop := weighSumsUptoRow.holds Try.pinned (OpenSpec.upto weighSumsSpec)

/-- 'marblerunlaw13.WeighRuns', WHERE WHAT IT READS IS OF BULK AT MOST 1048576: true; the input reads as it did. -/
def weighRunsUptoRow : OpenClaim := { program := "ytigpmhicdmjbeaa", sum := "bc152232d62c25daf2fac2beac94c518a2f1ec4c3f1e2407bc49c32f5dab79d9", func := "marblerun/marblerunlaw13.WeighRuns", spec := "weighRuns", apart := false, narrowed := true }
def WeighRunsUptoSaid : Prop := weighRunsUptoRow.holds Try.pinned (OpenSpec.upto weighRunsSpec)

/-- 'marblerunlaw13.WeighErrs', WHERE WHAT IT READS IS OF BULK AT MOST 1048576: true; the input reads as it did. -/
def weighErrsUptoRow : OpenClaim := { program := "ytigpmhicdmjbeaa", sum := "bc152232d62c25daf2fac2beac94c518a2f1ec4c3f1e2407bc49c32f5dab79d9", func := "marblerun/marblerunlaw13.WeighErrs", spec := "weighErrs", apart := false, narrowed := true }
def WeighErrsUptoSaid : Prop := weighErrsUptoRow.holds Try.pinned (OpenSpec.upto weighErrsSpec)

/-- 'marblerunlaw13.WeighBack', WHERE WHAT IT READS IS OF BULK AT MOST 1048576: true; the input reads as it did. -/
def weighBackUptoRow : OpenClaim := { program := "ytigpmhicdmjbeaa", sum := "bc152232d62c25daf2fac2beac94c518a2f1ec4c3f1e2407bc49c32f5dab79d9", func := "marblerun/marblerunlaw13.WeighBack", spec := "weighBack", apart := false, narrowed := true }
def WeighBackUptoSaid : Prop := weighBackUptoRow.holds Try.pinned (OpenSpec.upto weighBackSpec)

/-- 'marblerunlaw11.MatrixTimes', WHERE WHAT IT READS IS OF BULK AT MOST 1048576: true; the input reads as it did. -/
def matrixTimesUptoRow : OpenClaim := { program := "ytigpmhicdmjbeaa", sum := "bc152232d62c25daf2fac2beac94c518a2f1ec4c3f1e2407bc49c32f5dab79d9", func := "marblerun/marblerunlaw11.MatrixTimes", spec := "matrixTimes", apart := false, narrowed := true }
def MatrixTimesUptoSaid : Prop := matrixTimesUptoRow.holds Try.pinned (OpenSpec.upto matrixTimesSpec)

/-- 'marblerunlaw11.MatrixSides', WHERE WHAT IT READS IS OF BULK AT MOST 1048576: true; the input reads as it did. -/
def matrixSidesUptoRow : OpenClaim := { program := "ytigpmhicdmjbeaa", sum := "bc152232d62c25daf2fac2beac94c518a2f1ec4c3f1e2407bc49c32f5dab79d9", func := "marblerun/marblerunlaw11.MatrixSides", spec := "matrixSides", apart := false, narrowed := true }
def MatrixSidesUptoSaid : Prop := matrixSidesUptoRow.holds Try.pinned (OpenSpec.upto matrixSidesSpec)

/-- 'marblerunlaw13.WeighStays', WHERE WHAT IT READS IS OF BULK AT MOST 1048576: true; the input reads as it did. -/
def weighStaysUptoRow : OpenClaim := { program := "ytigpmhicdmjbeaa", sum := "bc152232d62c25daf2fac2beac94c518a2f1ec4c3f1e2407bc49c32f5dab79d9", func := "marblerun/marblerunlaw13.WeighStays", spec := "weighStays", apart := false, narrowed := true }
def WeighStaysUptoSaid : Prop := weighStaysUptoRow.holds Try.pinned (OpenSpec.upto weighStaysSpec)

/-- 'marblerunlaw13.WeighNone', WHERE WHAT IT READS IS OF BULK AT MOST 1048576: true; the input reads as it did. -/
def weighNoneUptoRow : OpenClaim := { program := "ytigpmhicdmjbeaa", sum := "bc152232d62c25daf2fac2beac94c518a2f1ec4c3f1e2407bc49c32f5dab79d9", func := "marblerun/marblerunlaw13.WeighNone", spec := "weighNone", apart := false, narrowed := true }
def WeighNoneUptoSaid : Prop := weighNoneUptoRow.holds Try.pinned (OpenSpec.upto weighNoneSpec)

end Rows
end Go.Proofs.Ytigpmhicdmjbeaa
