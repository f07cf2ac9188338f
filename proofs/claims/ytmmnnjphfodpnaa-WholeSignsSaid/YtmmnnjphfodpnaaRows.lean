/-
  No cell of these rows narrows 'for every input' (looked for: loops, veiled, ifaces, maps, wideKeys, modest, calm, conditions, laid).
  DERIVED. THE GIVEN ROWS OF THIS SEAT. 9 by the template 'for every input the law returns true; each argument reads behind the call as it read before'; 0 by the template 'total and deterministic' (their statements: YtmmnnjphfodpnaaTotals.lean).
  GIVEN WITH THE SEED: the statements are not yours to turn. If you find one false, say at which input.
  Laid BY PROGRAM, IN A SANDBOX (cutbox-rows.mjs): the forced cells as the released guide's own fill.sh prints them over the translation 8be5ac9dc5fc3e14… (all of the seat's roots in one cut). By AI agents, Wed Nov 11 2026. No macro, syntax, notation, axiom, sorry.
-/
import Derived.Test.YtmmnnjphfodpnaaChecked
import GoSem.Claim
import GoSem.ClaimJoined
import GoSem.ClaimMapViews
import Derived.JoinedTies
import Derived.KernelRfl
namespace Go.Proofs.Ytmmnnjphfodpnaa
/- THE CELL 'sum', in the pinned program and in every row, IS THE sha256 OF THE DUMP (.gsa) THAT YtmmnnjphfodpnaaProg.lean LOADS. Nothing in Lean hashes anything: it is a label: what it is worth is what the hold of that sum in a sandbox is worth. -/
noncomputable def Try.pinned : Pinned := { name := "ytmmnnjphfodpnaa", sum := "8be5ac9dc5fc3e1477671f205c947e1685cfbdd07c6a25cd477170a0e94fc785", checked := Try.checked }
namespace Rows
def none {H : Type} : Left H := { results := [], args := [] }

/-- 'marblerunlaw01.WholeGcds': WHATEVER THE INPUT: true; the input reads as it did. -/
def wholeGcdsSpec : ChangeSpec := { name := "wholeGcds", fn := fun _ => fun
  | [d1, d2, d3] => { results := [.lit (.bool true)], args := [d1, d2, d3] }
  | _ => none }
def wholeGcdsRow : OpenClaim := { program := "ytmmnnjphfodpnaa", sum := "8be5ac9dc5fc3e1477671f205c947e1685cfbdd07c6a25cd477170a0e94fc785", func := "marblerun/marblerunlaw01.WholeGcds", spec := "wholeGcds", apart := false }
def WholeGcdsSaid : Prop := wholeGcdsRow.holds Try.pinned (OpenSpec.ofChange wholeGcdsSpec)

/-- ITS FALSE NEIGHBOUR: 'it returns false'. Refute it at one input. -/
def wholeGcdsWrong : ChangeSpec := { name := "wholeGcds", fn := fun _ => fun
  | [d1, d2, d3] => { results := [.lit (.bool false)], args := [d1, d2, d3] }
  | _ => none }
def WholeGcdsWrongFalsely : Prop := wholeGcdsRow.holds Try.pinned (OpenSpec.ofChange wholeGcdsWrong)

/-- 'marblerunlaw01.WholeNorms': WHATEVER THE INPUT: true; the input reads as it did. -/
def wholeNormsSpec : ChangeSpec := { name := "wholeNorms", fn := fun _ => fun
  | [d] => { results := [.lit (.bool true)], args := [d] }
  | _ => none }
def wholeNormsRow : OpenClaim := { program := "ytmmnnjphfodpnaa", sum := "8be5ac9dc5fc3e1477671f205c947e1685cfbdd07c6a25cd477170a0e94fc785", func := "marblerun/marblerunlaw01.WholeNorms", spec := "wholeNorms", apart := false }
def WholeNormsSaid : Prop := wholeNormsRow.holds Try.pinned (OpenSpec.ofChange wholeNormsSpec)

/-- ITS FALSE NEIGHBOUR: 'it returns false'. Refute it at one input. -/
def wholeNormsWrong : ChangeSpec := { name := "wholeNorms", fn := fun _ => fun
  | [d] => { results := [.lit (.bool false)], args := [d] }
  | _ => none }
def WholeNormsWrongFalsely : Prop := wholeNormsRow.holds Try.pinned (OpenSpec.ofChange wholeNormsWrong)

/-- 'marblerunlaw01.WholeSigns': WHATEVER THE INPUT: true; the input reads as it did. -/
def wholeSignsSpec : ChangeSpec := { name := "wholeSigns", fn := fun _ => fun
  | [d] => { results := [.lit (.bool true)], args := [d] }
  | _ => none }
def wholeSignsRow : OpenClaim := { program := "ytmmnnjphfodpnaa", sum := "8be5ac9dc5fc3e1477671f205c947e1685cfbdd07c6a25cd477170a0e94fc785", func := "marblerun/marblerunlaw01.WholeSigns", spec := "wholeSigns", apart := false }
def WholeSignsSaid : Prop := wholeSignsRow.holds Try.pinned (OpenSpec.ofChange wholeSignsSpec)

/-- ITS FALSE NEIGHBOUR: 'it returns false'. Refute it at one input. -/
def wholeSignsWrong : ChangeSpec := { name := "wholeSigns", fn := fun _ => fun
  | [d] => { results := [.lit (.bool false)], args := [d] }
  | _ => none }
def WholeSignsWrongFalsely : Prop := wholeSignsRow.holds Try.pinned (OpenSpec.ofChange wholeSignsWrong)

/-- 'marblerunlaw01.WholeAdds': WHATEVER THE INPUT: true; the input reads as it did. -/
def wholeAddsSpec : ChangeSpec := { name := "wholeAdds", fn := fun _ => fun
  | [d1, d2] => { results := [.lit (.bool true)], args := [d1, d2] }
  | _ => none }
def wholeAddsRow : OpenClaim := { program := "ytmmnnjphfodpnaa", sum := "8be5ac9dc5fc3e1477671f205c947e1685cfbdd07c6a25cd477170a0e94fc785", func := "marblerun/marblerunlaw01.WholeAdds", spec := "wholeAdds", apart := false }
def WholeAddsSaid : Prop := wholeAddsRow.holds Try.pinned (OpenSpec.ofChange wholeAddsSpec)

/-- ITS FALSE NEIGHBOUR: 'it returns false'. Refute it at one input. -/
def wholeAddsWrong : ChangeSpec := { name := "wholeAdds", fn := fun _ => fun
  | [d1, d2] => { results := [.lit (.bool false)], args := [d1, d2] }
  | _ => none }
def WholeAddsWrongFalsely : Prop := wholeAddsRow.holds Try.pinned (OpenSpec.ofChange wholeAddsWrong)

/-- 'marblerunlaw01.WholeMuls': WHATEVER THE INPUT: true; the input reads as it did. -/
def wholeMulsSpec : ChangeSpec := { name := "wholeMuls", fn := fun _ => fun
  | [d1, d2] => { results := [.lit (.bool true)], args := [d1, d2] }
  | _ => none }
def wholeMulsRow : OpenClaim := { program := "ytmmnnjphfodpnaa", sum := "8be5ac9dc5fc3e1477671f205c947e1685cfbdd07c6a25cd477170a0e94fc785", func := "marblerun/marblerunlaw01.WholeMuls", spec := "wholeMuls", apart := false }
def WholeMulsSaid : Prop := wholeMulsRow.holds Try.pinned (OpenSpec.ofChange wholeMulsSpec)

/-- ITS FALSE NEIGHBOUR: 'it returns false'. Refute it at one input. -/
def wholeMulsWrong : ChangeSpec := { name := "wholeMuls", fn := fun _ => fun
  | [d1, d2] => { results := [.lit (.bool false)], args := [d1, d2] }
  | _ => none }
def WholeMulsWrongFalsely : Prop := wholeMulsRow.holds Try.pinned (OpenSpec.ofChange wholeMulsWrong)

/-- 'marblerunlaw01.WholeSides': WHATEVER THE INPUT: true; the input reads as it did. -/
def wholeSidesSpec : ChangeSpec := { name := "wholeSides", fn := fun _ => fun
  | [d1, d2] => { results := [.lit (.bool true)], args := [d1, d2] }
  | _ => none }
def wholeSidesRow : OpenClaim := { program := "ytmmnnjphfodpnaa", sum := "8be5ac9dc5fc3e1477671f205c947e1685cfbdd07c6a25cd477170a0e94fc785", func := "marblerun/marblerunlaw01.WholeSides", spec := "wholeSides", apart := false }
def WholeSidesSaid : Prop := wholeSidesRow.holds Try.pinned (OpenSpec.ofChange wholeSidesSpec)

/-- ITS FALSE NEIGHBOUR: 'it returns false'. Refute it at one input. -/
def wholeSidesWrong : ChangeSpec := { name := "wholeSides", fn := fun _ => fun
  | [d1, d2] => { results := [.lit (.bool false)], args := [d1, d2] }
  | _ => none }
def WholeSidesWrongFalsely : Prop := wholeSidesRow.holds Try.pinned (OpenSpec.ofChange wholeSidesWrong)

/-- 'marblerunlaw01.WholeEdges': WHATEVER THE INPUT: true; the input reads as it did. -/
def wholeEdgesSpec : ChangeSpec := { name := "wholeEdges", fn := fun _ => fun
  | [d] => { results := [.lit (.bool true)], args := [d] }
  | _ => none }
def wholeEdgesRow : OpenClaim := { program := "ytmmnnjphfodpnaa", sum := "8be5ac9dc5fc3e1477671f205c947e1685cfbdd07c6a25cd477170a0e94fc785", func := "marblerun/marblerunlaw01.WholeEdges", spec := "wholeEdges", apart := false }
def WholeEdgesSaid : Prop := wholeEdgesRow.holds Try.pinned (OpenSpec.ofChange wholeEdgesSpec)

/-- ITS FALSE NEIGHBOUR: 'it returns false'. Refute it at one input. -/
def wholeEdgesWrong : ChangeSpec := { name := "wholeEdges", fn := fun _ => fun
  | [d] => { results := [.lit (.bool false)], args := [d] }
  | _ => none }
def WholeEdgesWrongFalsely : Prop := wholeEdgesRow.holds Try.pinned (OpenSpec.ofChange wholeEdgesWrong)

/-- 'marblerunlaw01.WholeDots': WHATEVER THE INPUT: true; the input reads as it did. -/
def wholeDotsSpec : ChangeSpec := { name := "wholeDots", fn := fun _ => fun
  | [d1, d2] => { results := [.lit (.bool true)], args := [d1, d2] }
  | _ => none }
def wholeDotsRow : OpenClaim := { program := "ytmmnnjphfodpnaa", sum := "8be5ac9dc5fc3e1477671f205c947e1685cfbdd07c6a25cd477170a0e94fc785", func := "marblerun/marblerunlaw01.WholeDots", spec := "wholeDots", apart := false }
def WholeDotsSaid : Prop := wholeDotsRow.holds Try.pinned (OpenSpec.ofChange wholeDotsSpec)

/-- ITS FALSE NEIGHBOUR: 'it returns false'. Refute it at one input. -/
def wholeDotsWrong : ChangeSpec := { name := "wholeDots", fn := fun _ => fun
  | [d1, d2] => { results := [.lit (.bool false)], args := [d1, d2] }
  | _ => none }
def WholeDotsWrongFalsely : Prop := wholeDotsRow.holds Try.pinned (OpenSpec.ofChange wholeDotsWrong)

/-- 'marblerunlaw01.WholeMixes': WHATEVER THE INPUT: true; the input reads as it did. -/
def wholeMixesSpec : ChangeSpec := { name := "wholeMixes", fn := fun _ => fun
  | [d1, d2, d3, d4] => { results := [.lit (.bool true)], args := [d1, d2, d3, d4] }
  | _ => none }
def wholeMixesRow : OpenClaim := { program := "ytmmnnjphfodpnaa", sum := "8be5ac9dc5fc3e1477671f205c947e1685cfbdd07c6a25cd477170a0e94fc785", func := "marblerun/marblerunlaw01.WholeMixes", spec := "wholeMixes", apart := false }
def WholeMixesSaid : Prop := wholeMixesRow.holds Try.pinned (OpenSpec.ofChange wholeMixesSpec)

/-- ITS FALSE NEIGHBOUR: 'it returns false'. Refute it at one input. -/
def wholeMixesWrong : ChangeSpec := { name := "wholeMixes", fn := fun _ => fun
  | [d1, d2, d3, d4] => { results := [.lit (.bool false)], args := [d1, d2, d3, d4] }
  | _ => none }
def WholeMixesWrongFalsely : Prop := wholeMixesRow.holds Try.pinned (OpenSpec.ofChange wholeMixesWrong)

/- THE SECOND FORM. 'bulk': how many values and letters a reading holds, each counted each time it is reached (what is shared counts as often as it is met; a slice's spare places count too). A statement '..UptoSaid' is the law's where the arguments, and the package variables that the reading takes, are together of bulk at most 1048576: NARROWER than '..Said'. Prove '..Said' where nothing that the law and all that it calls make is longer than what came in: it says more and counts as full. Else prove '..UptoSaid'. A law counts once. -/
mutual
def uptoBulk {H : Type} : DataW H → Nat
  | .lit (.string bytes) => bytes.length + 1
  | .lit _ => 1
  | .nil => 1
  | .ptr d => uptoBulk d + 1
  | .slice elems spare => uptoBulkAll elems + uptoBulkAll spare + 1
  | .agg parts => uptoBulkAll parts + 1
  | .iface _ d => uptoBulk d + 1
  | .map entries => uptoBulkEntries entries + 1
  | .held _ => 1
def uptoBulkAll {H : Type} : List (DataW H) → Nat
  | [] => 0
  | d :: r => uptoBulk d + uptoBulkAll r
def uptoBulkEntries {H : Type} : List (Lit × DataW H) → Nat
  | [] => 0
  | x :: r => uptoBulkEntry x + uptoBulkEntries r
def uptoBulkEntry {H : Type} : Lit × DataW H → Nat
  | (.string bytes, d) => bytes.length + uptoBulk d + 1
  | (_, d) => uptoBulk d + 1
 end
def uptoSmall : (H : Type) → List (DataW H) → Bool := fun _ ds => decide (uptoBulkAll ds ≤ 1048576)
def OpenSpec.upto (s : _root_.Go.ChangeSpec) : _root_.Go.OpenSpec := { _root_.Go.OpenSpec.ofChange s with cond := some uptoSmall }

/-- 'marblerunlaw01.WholeGcds', WHERE WHAT IT READS IS OF BULK AT MOST 1048576: true; the input reads as it did. -/
def wholeGcdsUptoRow : OpenClaim := { program := "ytmmnnjphfodpnaa", sum := "8be5ac9dc5fc3e1477671f205c947e1685cfbdd07c6a25cd477170a0e94fc785", func := "marblerun/marblerunlaw01.WholeGcds", spec := "wholeGcds", apart := false, narrowed := true }
def WholeGcdsUptoSaid : Prop := wholeGcdsUptoRow.holds Try.pinned (OpenSpec.upto wholeGcdsSpec)

/-- 'marblerunlaw01.WholeNorms', WHERE WHAT IT READS IS OF BULK AT MOST 1048576: true; the input reads as it did. -/
def wholeNormsUptoRow : OpenClaim := { program := "ytmmnnjphfodpnaa", sum := "8be5ac9dc5fc3e1477671f205c947e1685cfbdd07c6a25cd477170a0e94fc785", func := "marblerun/marblerunlaw01.WholeNorms", spec := "wholeNorms", apart := false, narrowed := true }
def WholeNormsUptoSaid : Prop := wholeNormsUptoRow.holds Try.pinned (OpenSpec.upto wholeNormsSpec)

/-- 'marblerunlaw01.WholeSigns', WHERE WHAT IT READS IS OF BULK AT MOST 1048576: true; the input reads as it did. -/
def wholeSignsUptoRow : OpenClaim := { program := "ytmmnnjphfodpnaa", sum := "8be5ac9dc5fc3e1477671f205c947e1685cfbdd07c6a25cd477170a0e94fc785", func := "marblerun/marblerunlaw01.WholeSigns", spec := "wholeSigns", apart := false, narrowed := true }
def WholeSignsUptoSaid : Prop := wholeSignsUptoRow.holds Try.pinned (OpenSpec.upto wholeSignsSpec)

/-- 'marblerunlaw01.WholeAdds', WHERE WHAT IT READS IS OF BULK AT MOST 1048576: true; the input reads as it did. -/
def wholeAddsUptoRow : OpenClaim := { program := "ytmmnnjphfodpnaa", sum := "8be5ac9dc5fc3e1477671f205c947e1685cfbdd07c6a25cd477170a0e94fc785", func := "marblerun/marblerunlaw01.WholeAdds", spec := "wholeAdds", apart := false, narrowed := true }
def WholeAddsUptoSaid : Prop := wholeAddsUptoRow.holds Try.pinned (OpenSpec.upto wholeAddsSpec)

/-- 'marblerunlaw01.WholeMuls', WHERE WHAT IT READS IS OF BULK AT MOST 1048576: true; the input reads as it did. -/
def wholeMulsUptoRow : OpenClaim := { program := "ytmmnnjphfodpnaa", sum := "8be5ac9dc5fc3e1477671f205c947e1685cfbdd07c6a25cd477170a0e94fc785", func := "marblerun/marblerunlaw01.WholeMuls", spec := "wholeMuls", apart := false, narrowed := true }
def WholeMulsUptoSaid : Prop := wholeMulsUptoRow.holds Try.pinned (OpenSpec.upto wholeMulsSpec)

/-- 'marblerunlaw01.WholeSides', WHERE WHAT IT READS IS OF BULK AT MOST 1048576: true; the input reads as it did. -/
def wholeSidesUptoRow : OpenClaim := { program := "ytmmnnjphfodpnaa", sum := "8be5ac9dc5fc3e1477671f205c947e1685cfbdd07c6a25cd477170a0e94fc785", func := "marblerun/marblerunlaw01.WholeSides", spec := "wholeSides", apart := false, narrowed := true }
def WholeSidesUptoSaid : Prop := wholeSidesUptoRow.holds Try.pinned (OpenSpec.upto wholeSidesSpec)

/-- 'marblerunlaw01.WholeEdges', WHERE WHAT IT READS IS OF BULK AT MOST 1048576: true; the input reads as it did. -/
def wholeEdgesUptoRow : OpenClaim := { program := "ytmmnnjphfodpnaa", sum := "8be5ac9dc5fc3e1477671f205c947e1685cfbdd07c6a25cd477170a0e94fc785", func := "marblerun/marblerunlaw01.WholeEdges", spec := "wholeEdges", apart := false, narrowed := true }
def WholeEdgesUptoSaid : Prop := wholeEdgesUptoRow.holds Try.pinned (OpenSpec.upto wholeEdgesSpec)

/-- 'marblerunlaw01.WholeDots', WHERE WHAT IT READS IS OF BULK AT MOST 1048576: true; the input reads as it did. -/
def wholeDotsUptoRow : OpenClaim := { program := "ytmmnnjphfodpnaa", sum := "8be5ac9dc5fc3e1477671f205c947e1685cfbdd07c6a25cd477170a0e94fc785", func := "marblerun/marblerunlaw01.WholeDots", spec := "wholeDots", apart := false, narrowed := true }
def WholeDotsUptoSaid : Prop := wholeDotsUptoRow.holds Try.pinned (OpenSpec.upto wholeDotsSpec)

/-- 'marblerunlaw01.WholeMixes', WHERE WHAT IT READS IS OF BULK AT MOST 1048576: true; the input reads as it did. -/
def wholeMixesUptoRow : OpenClaim := { program := "ytmmnnjphfodpnaa", sum := "8be5ac9dc5fc3e1477671f205c947e1685cfbdd07c6a25cd477170a0e94fc785", func := "marblerun/marblerunlaw01.WholeMixes", spec := "wholeMixes", apart := false, narrowed := true }
def WholeMixesUptoSaid : Prop := wholeMixesUptoRow.holds Try.pinned (OpenSpec.upto wholeMixesSpec)

end Rows
end Go.Proofs.Ytmmnnjphfodpnaa
