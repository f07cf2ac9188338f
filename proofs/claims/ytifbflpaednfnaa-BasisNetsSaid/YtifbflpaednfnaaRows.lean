/-
  No cell of these rows narrows 'for every input' (looked for: loops, veiled, ifaces, maps, wideKeys, modest, calm, conditions, laid).
  DERIVED. THE GIVEN ROWS OF THIS SEAT. 7 by the template 'for every input the law returns true; each argument reads behind the call as it read before'; 0 by the template 'total and deterministic' (their statements: YtifbflpaednfnaaTotals.lean).
  GIVEN WITH THE SEED: the statements are not yours to turn. If you find one false, say at which input.
  Laid BY PROGRAM, IN A SANDBOX (cutbox-rows.mjs): the forced cells as the released guide's own fill.sh prints them over the translation e2a484477254a4d6… (all of the seat's roots in one cut). By AI agents, Wed Nov 11 2026. No macro, syntax, notation, axiom, sorry.
-/
import Derived.Test.YtifbflpaednfnaaChecked
import GoSem.Claim
import GoSem.ClaimJoined
import GoSem.ClaimMapViews
import Derived.JoinedTies
import Derived.KernelRfl
namespace Go.Proofs.Ytifbflpaednfnaa
/- THE CELL 'sum', in the pinned program and in every row, IS THE sha256 OF THE DUMP (.gsa) THAT YtifbflpaednfnaaProg.lean LOADS. Nothing in Lean hashes anything: it is a label: what it is worth is what the hold of that sum in a sandbox is worth. -/
noncomputable def Try.pinned : Pinned := { name := "ytifbflpaednfnaa", sum := "e2a484477254a4d608c972d323687c0ec827ab6bbbf943a9ac8000e0ff9c231b", checked := Try.checked }
namespace Rows
def none {H : Type} : Left H := { results := [], args := [] }

/-- 'marblerunlaw12.BasisApart': WHATEVER THE INPUT: true; the input reads as it did. -/
def basisApartSpec : ChangeSpec := { name := "basisApart", fn := fun _ => fun
  | [d] => { results := [.lit (.bool true)], args := [d] }
  | _ => none }
def basisApartRow : OpenClaim := { program := "ytifbflpaednfnaa", sum := "e2a484477254a4d608c972d323687c0ec827ab6bbbf943a9ac8000e0ff9c231b", func := "marblerun/marblerunlaw12.BasisApart", spec := "basisApart", apart := false }
def BasisApartSaid : Prop := basisApartRow.holds Try.pinned (OpenSpec.ofChange basisApartSpec)

/-- ITS FALSE NEIGHBOUR: 'it returns false'. Refute it at one input. -/
def basisApartWrong : ChangeSpec := { name := "basisApart", fn := fun _ => fun
  | [d] => { results := [.lit (.bool false)], args := [d] }
  | _ => none }
def BasisApartWrongFalsely : Prop := basisApartRow.holds Try.pinned (OpenSpec.ofChange basisApartWrong)

/-- 'marblerunlaw12.BasisNone': WHATEVER THE INPUT: true; the input reads as it did. -/
def basisNoneSpec : ChangeSpec := { name := "basisNone", fn := fun _ => fun
  | [d1, d2, d3] => { results := [.lit (.bool true)], args := [d1, d2, d3] }
  | _ => none }
def basisNoneRow : OpenClaim := { program := "ytifbflpaednfnaa", sum := "e2a484477254a4d608c972d323687c0ec827ab6bbbf943a9ac8000e0ff9c231b", func := "marblerun/marblerunlaw12.BasisNone", spec := "basisNone", apart := false }
def BasisNoneSaid : Prop := basisNoneRow.holds Try.pinned (OpenSpec.ofChange basisNoneSpec)

/-- ITS FALSE NEIGHBOUR: 'it returns false'. Refute it at one input. -/
def basisNoneWrong : ChangeSpec := { name := "basisNone", fn := fun _ => fun
  | [d1, d2, d3] => { results := [.lit (.bool false)], args := [d1, d2, d3] }
  | _ => none }
def BasisNoneWrongFalsely : Prop := basisNoneRow.holds Try.pinned (OpenSpec.ofChange basisNoneWrong)

/-- 'marblerunlaw12.BasisTwo': WHATEVER THE INPUT: true; the input reads as it did. -/
def basisTwoSpec : ChangeSpec := { name := "basisTwo", fn := fun _ => fun
  | [d1, d2] => { results := [.lit (.bool true)], args := [d1, d2] }
  | _ => none }
def basisTwoRow : OpenClaim := { program := "ytifbflpaednfnaa", sum := "e2a484477254a4d608c972d323687c0ec827ab6bbbf943a9ac8000e0ff9c231b", func := "marblerun/marblerunlaw12.BasisTwo", spec := "basisTwo", apart := false }
def BasisTwoSaid : Prop := basisTwoRow.holds Try.pinned (OpenSpec.ofChange basisTwoSpec)

/-- ITS FALSE NEIGHBOUR: 'it returns false'. Refute it at one input. -/
def basisTwoWrong : ChangeSpec := { name := "basisTwo", fn := fun _ => fun
  | [d1, d2] => { results := [.lit (.bool false)], args := [d1, d2] }
  | _ => none }
def BasisTwoWrongFalsely : Prop := basisTwoRow.holds Try.pinned (OpenSpec.ofChange basisTwoWrong)

/-- 'marblerunlaw12.BasisMore': WHATEVER THE INPUT: true; the input reads as it did. -/
def basisMoreSpec : ChangeSpec := { name := "basisMore", fn := fun _ => fun
  | [d] => { results := [.lit (.bool true)], args := [d] }
  | _ => none }
def basisMoreRow : OpenClaim := { program := "ytifbflpaednfnaa", sum := "e2a484477254a4d608c972d323687c0ec827ab6bbbf943a9ac8000e0ff9c231b", func := "marblerun/marblerunlaw12.BasisMore", spec := "basisMore", apart := false }
def BasisMoreSaid : Prop := basisMoreRow.holds Try.pinned (OpenSpec.ofChange basisMoreSpec)

/-- ITS FALSE NEIGHBOUR: 'it returns false'. Refute it at one input. -/
def basisMoreWrong : ChangeSpec := { name := "basisMore", fn := fun _ => fun
  | [d] => { results := [.lit (.bool false)], args := [d] }
  | _ => none }
def BasisMoreWrongFalsely : Prop := basisMoreRow.holds Try.pinned (OpenSpec.ofChange basisMoreWrong)

/-- 'marblerunlaw12.BasisRaw': WHATEVER THE INPUT: true; the input reads as it did. -/
def basisRawSpec : ChangeSpec := { name := "basisRaw", fn := fun _ => fun
  | [d1, d2, d3, d4] => { results := [.lit (.bool true)], args := [d1, d2, d3, d4] }
  | _ => none }
def basisRawRow : OpenClaim := { program := "ytifbflpaednfnaa", sum := "e2a484477254a4d608c972d323687c0ec827ab6bbbf943a9ac8000e0ff9c231b", func := "marblerun/marblerunlaw12.BasisRaw", spec := "basisRaw", apart := false }
def BasisRawSaid : Prop := basisRawRow.holds Try.pinned (OpenSpec.ofChange basisRawSpec)

/-- ITS FALSE NEIGHBOUR: 'it returns false'. Refute it at one input. -/
def basisRawWrong : ChangeSpec := { name := "basisRaw", fn := fun _ => fun
  | [d1, d2, d3, d4] => { results := [.lit (.bool false)], args := [d1, d2, d3, d4] }
  | _ => none }
def BasisRawWrongFalsely : Prop := basisRawRow.holds Try.pinned (OpenSpec.ofChange basisRawWrong)

/-- 'marblerunlaw12.BasisRing': WHATEVER THE INPUT: true; the input reads as it did. -/
def basisRingSpec : ChangeSpec := { name := "basisRing", fn := fun _ => fun
  | [d] => { results := [.lit (.bool true)], args := [d] }
  | _ => none }
def basisRingRow : OpenClaim := { program := "ytifbflpaednfnaa", sum := "e2a484477254a4d608c972d323687c0ec827ab6bbbf943a9ac8000e0ff9c231b", func := "marblerun/marblerunlaw12.BasisRing", spec := "basisRing", apart := false }
def BasisRingSaid : Prop := basisRingRow.holds Try.pinned (OpenSpec.ofChange basisRingSpec)

/-- ITS FALSE NEIGHBOUR: 'it returns false'. Refute it at one input. -/
def basisRingWrong : ChangeSpec := { name := "basisRing", fn := fun _ => fun
  | [d] => { results := [.lit (.bool false)], args := [d] }
  | _ => none }
def BasisRingWrongFalsely : Prop := basisRingRow.holds Try.pinned (OpenSpec.ofChange basisRingWrong)

/-- 'marblerunlaw12.BasisNets': WHATEVER THE INPUT: true; the input reads as it did. -/
def basisNetsSpec : ChangeSpec := { name := "basisNets", fn := fun _ => fun
  | [d] => { results := [.lit (.bool true)], args := [d] }
  | _ => none }
def basisNetsRow : OpenClaim := { program := "ytifbflpaednfnaa", sum := "e2a484477254a4d608c972d323687c0ec827ab6bbbf943a9ac8000e0ff9c231b", func := "marblerun/marblerunlaw12.BasisNets", spec := "basisNets", apart := false }
def BasisNetsSaid : Prop := basisNetsRow.holds Try.pinned (OpenSpec.ofChange basisNetsSpec)

/-- ITS FALSE NEIGHBOUR: 'it returns false'. Refute it at one input. -/
def basisNetsWrong : ChangeSpec := { name := "basisNets", fn := fun _ => fun
  | [d] => { results := [.lit (.bool false)], args := [d] }
  | _ => none }
def BasisNetsWrongFalsely : Prop := basisNetsRow.holds Try.pinned (OpenSpec.ofChange basisNetsWrong)

/- THE SECOND FORM. 'bulk': how many values and letters a reading holds, each counted each time it is reached (what is shared counts as often as it is met; a slice's spare places count too). A statement '..UptoSaid' is the law's where the arguments, and the package variables that the reading takes, are together of bulk at most 1048576: NARROWER than '..Said'. Prove '..Said' where nothing that the law and all that it calls make is longer than what came in: it says more and counts as full. Else prove '..UptoSaid'. A law counts once. -/
mutual
def uptoBulk {H : Type} : DataW H → Nat
  | .lit (.string bytes) => bytes.length + 1
  | .lit _ => 1
  | .nil => 1
  | .ptr d => uptoBulk d + 1
  | .slice elems spare => uptoBulkAll elems + uptoBulkAll spare + 1
  | .agg parts => uptoBulkAll parts + 1
  | .iface _ d => uptoBulk d + 1
  | .map entries => uptoBulkEntries entries + 1
  | .held _ => 1
def uptoBulkAll {H : Type} : List (DataW H) → Nat
  | [] => 0
  | d :: r => uptoBulk d + uptoBulkAll r
def uptoBulkEntries {H : Type} : List (Lit × DataW H) → Nat
  | [] => 0
  | x :: r => uptoBulkEntry x + uptoBulkEntries r
def uptoBulkEntry {H : Type} : Lit × DataW H → Nat
  | (.string bytes, d) => bytes.length + uptoBulk d + 1
  | (_, d) => uptoBulk d + 1
 end
def uptoSmall : (H : Type) → List (DataW H) → Bool := fun _ ds => decide (uptoBulkAll ds ≤ 1048576)
def OpenSpec.upto (s : _root_.Go.ChangeSpec) : _root_.Go.OpenSpec := { _root_.Go.OpenSpec.ofChange s with cond := some uptoSmall }

/-- 'marblerunlaw12.BasisApart', WHERE WHAT IT READS IS OF BULK AT MOST 1048576: true; the input reads as it did. -/
def basisApartUptoRow : OpenClaim := { program := "ytifbflpaednfnaa", sum := "e2a484477254a4d608c972d323687c0ec827ab6bbbf943a9ac8000e0ff9c231b", func := "marblerun/marblerunlaw12.BasisApart", spec := "basisApart", apart := false, narrowed := true }
def BasisApartUptoSaid : Prop := basisApartUptoRow.holds Try.pinned (OpenSpec.upto basisApartSpec)

/-- 'marblerunlaw12.BasisNone', WHERE WHAT IT READS IS OF BULK AT MOST 1048576: true; the input reads as it did. -/
def basisNoneUptoRow : OpenClaim := { program := "ytifbflpaednfnaa", sum := "e2a484477254a4d608c972d323687c0ec827ab6bbbf943a9ac8000e0ff9c231b", func := "marblerun/marblerunlaw12.BasisNone", spec := "basisNone", apart := false, narrowed := true }
def BasisNoneUptoSaid : Prop := basisNoneUptoRow.holds Try.pinned (OpenSpec.upto basisNoneSpec)

/-- 'marblerunlaw12.BasisTwo', WHERE WHAT IT READS IS OF BULK AT MOST 1048576: true; the input reads as it did. -/
def basisTwoUptoRow : OpenClaim := { program := "ytifbflpaednfnaa", sum := "e2a484477254a4d608c972d323687c0ec827ab6bbbf943a9ac8000e0ff9c231b", func := "marblerun/marblerunlaw12.BasisTwo", spec := "basisTwo", apart := false, narrowed := true }
def BasisTwoUptoSaid : Prop := basisTwoUptoRow.holds Try.pinned (OpenSpec.upto basisTwoSpec)

/-- 'marblerunlaw12.BasisMore', WHERE WHAT IT READS IS OF BULK AT MOST 1048576: true; the input reads as it did. -/
def basisMoreUptoRow : OpenClaim := { program := "ytifbflpaednfnaa", sum := "e2a484477254a4d608c972d323687c0ec827ab6bbbf943a9ac8000e0ff9c231b", func := "marblerun/marblerunlaw12.BasisMore", spec := "basisMore", apart := false, narrowed := true }
def BasisMoreUptoSaid : Prop := basisMoreUptoRow.holds Try.pinned (OpenSpec.upto basisMoreSpec)

/-- 'marblerunlaw12.BasisRaw', WHERE WHAT IT READS IS OF BULK AT MOST 1048576: true; the input reads as it did. -/
def basisRawUptoRow : OpenClaim := { program := "ytifbflpaednfnaa", sum := "e2a484477254a4d608c972d323687c0ec827ab6bbbf943a9ac8000e0ff9c231b", func := "marblerun/marblerunlaw12.BasisRaw", spec := "basisRaw", apart := false, narrowed := true }
def BasisRawUptoSaid : Prop := basisRawUptoRow.holds Try.pinned (OpenSpec.upto basisRawSpec)

/-- 'marblerunlaw12.BasisRing', WHERE WHAT IT READS IS OF BULK AT MOST 1048576: true; the input reads as it did. -/
def basisRingUptoRow : OpenClaim := { program := "ytifbflpaednfnaa", sum := "e2a484477254a4d608c972d323687c0ec827ab6bbbf943a9ac8000e0ff9c231b", func := "marblerun/marblerunlaw12.BasisRing", spec := "basisRing", apart := false, narrowed := true }
def BasisRingUptoSaid : Prop := basisRingUptoRow.holds Try.pinned (OpenSpec.upto basisRingSpec)

/-- 'marblerunlaw12.BasisNets', WHERE WHAT IT READS IS OF BULK AT MOST 1048576: true; the input reads as it did. -/
def basisNetsUptoRow : OpenClaim := { program := "ytifbflpaednfnaa", sum := "e2a484477254a4d608c972d323687c0ec827ab6bbbf943a9ac8000e0ff9c231b", func := "marblerun/marblerunlaw12.BasisNets", spec := "basisNets", apart := false, narrowed := true }
def BasisNetsUptoSaid : Prop := basisNetsUptoRow.holds Try.pinned (OpenSpec.upto basisNetsSpec)

end Rows
end Go.Proofs.Ytifbflpaednfnaa
