/-
  No cell of these rows narrows 'for every input' (looked for: loops, veiled, ifaces, maps, wideKeys, modest, calm, conditions, laid).
  DERIVED. THE GIVEN ROWS OF THIS SEAT. 12 by the template 'for every input the law returns true; each argument reads behind the call as it read before'; 0 by the template 'total and deterministic' (their statements: YteiladccdenpbaaTotals.lean).
  GIVEN WITH THE SEED: the statements are not yours to turn. If you find one false, say at which input.
  Laid BY PROGRAM, IN A SANDBOX (cutbox-rows.mjs): the forced cells as the released guide's own fill.sh prints them over the translation dbf0bb9028e857a3… (all of the seat's roots in one cut). By AI agents, Wed Nov 11 2026. No macro, syntax, notation, axiom, sorry.
-/
import Derived.Test.YteiladccdenpbaaChecked
import GoSem.Claim
import GoSem.ClaimJoined
import GoSem.ClaimMapViews
import Derived.JoinedTies
import Derived.KernelRfl
namespace Go.Proofs.Yteiladccdenpbaa
/- THE CELL 'sum', in the pinned program and in every row, IS THE sha256 OF THE DUMP (.gsa) THAT YteiladccdenpbaaProg.lean LOADS. Nothing in Lean hashes anything: it is a label: what it is worth is what the hold of that sum in a sandbox is worth. -/
noncomputable def Try.pinned : Pinned := { name := "yteiladccdenpbaa", sum := "dbf0bb9028e857a3f9aa4db2a5067a7b493a12b35123caa21114c3a84bc2ce81", checked := Try.checked }
namespace Rows
def none {H : Type} : Left H := { results := [], args := [] }

/-- 'assartlaw07.TreeTells': WHATEVER THE INPUT: true; the input reads as it did. -/
def treeTellsSpec : ChangeSpec := { name := "treeTells", fn := fun _ => fun
  | [d1, d2, d3] => { results := [.lit (.bool true)], args := [d1, d2, d3] }
  | _ => none }
def treeTellsRow : OpenClaim := { program := "yteiladccdenpbaa", sum := "dbf0bb9028e857a3f9aa4db2a5067a7b493a12b35123caa21114c3a84bc2ce81", func := "assart/assartlaw07.TreeTells", spec := "treeTells", unfollowed := true, recurses := true, apart := false }
def TreeTellsSaid : Prop := treeTellsRow.holds Try.pinned (OpenSpec.ofChange treeTellsSpec)

/-- ITS FALSE NEIGHBOUR: 'it returns false'. Refute it at one input. -/
def treeTellsWrong : ChangeSpec := { name := "treeTells", fn := fun _ => fun
  | [d1, d2, d3] => { results := [.lit (.bool false)], args := [d1, d2, d3] }
  | _ => none }
def TreeTellsWrongFalsely : Prop := treeTellsRow.holds Try.pinned (OpenSpec.ofChange treeTellsWrong)

/-- 'assartlaw07.TreeFinds': WHATEVER THE INPUT: true; the input reads as it did. -/
def treeFindsSpec : ChangeSpec := { name := "treeFinds", fn := fun _ => fun
  | [d] => { results := [.lit (.bool true)], args := [d] }
  | _ => none }
def treeFindsRow : OpenClaim := { program := "yteiladccdenpbaa", sum := "dbf0bb9028e857a3f9aa4db2a5067a7b493a12b35123caa21114c3a84bc2ce81", func := "assart/assartlaw07.TreeFinds", spec := "treeFinds", unfollowed := true, recurses := true, apart := false }
def TreeFindsSaid : Prop := treeFindsRow.holds Try.pinned (OpenSpec.ofChange treeFindsSpec)

/-- ITS FALSE NEIGHBOUR: 'it returns false'. Refute it at one input. -/
def treeFindsWrong : ChangeSpec := { name := "treeFinds", fn := fun _ => fun
  | [d] => { results := [.lit (.bool false)], args := [d] }
  | _ => none }
def TreeFindsWrongFalsely : Prop := treeFindsRow.holds Try.pinned (OpenSpec.ofChange treeFindsWrong)

/-- 'assartlaw07.TreeScans': WHATEVER THE INPUT: true; the input reads as it did. -/
def treeScansSpec : ChangeSpec := { name := "treeScans", fn := fun _ => fun
  | [d] => { results := [.lit (.bool true)], args := [d] }
  | _ => none }
def treeScansRow : OpenClaim := { program := "yteiladccdenpbaa", sum := "dbf0bb9028e857a3f9aa4db2a5067a7b493a12b35123caa21114c3a84bc2ce81", func := "assart/assartlaw07.TreeScans", spec := "treeScans", unfollowed := true, recurses := true, apart := false }
def TreeScansSaid : Prop := treeScansRow.holds Try.pinned (OpenSpec.ofChange treeScansSpec)

/-- ITS FALSE NEIGHBOUR: 'it returns false'. Refute it at one input. -/
def treeScansWrong : ChangeSpec := { name := "treeScans", fn := fun _ => fun
  | [d] => { results := [.lit (.bool false)], args := [d] }
  | _ => none }
def TreeScansWrongFalsely : Prop := treeScansRow.holds Try.pinned (OpenSpec.ofChange treeScansWrong)

/-- 'assartlaw07.TreeNodes': WHATEVER THE INPUT: true; the input reads as it did. -/
def treeNodesSpec : ChangeSpec := { name := "treeNodes", fn := fun _ => fun
  | [d1, d2] => { results := [.lit (.bool true)], args := [d1, d2] }
  | _ => none }
def treeNodesRow : OpenClaim := { program := "yteiladccdenpbaa", sum := "dbf0bb9028e857a3f9aa4db2a5067a7b493a12b35123caa21114c3a84bc2ce81", func := "assart/assartlaw07.TreeNodes", spec := "treeNodes", unfollowed := true, recurses := true, apart := false }
def TreeNodesSaid : Prop := treeNodesRow.holds Try.pinned (OpenSpec.ofChange treeNodesSpec)

/-- ITS FALSE NEIGHBOUR: 'it returns false'. Refute it at one input. -/
def treeNodesWrong : ChangeSpec := { name := "treeNodes", fn := fun _ => fun
  | [d1, d2] => { results := [.lit (.bool false)], args := [d1, d2] }
  | _ => none }
def TreeNodesWrongFalsely : Prop := treeNodesRow.holds Try.pinned (OpenSpec.ofChange treeNodesWrong)

/-- 'assartlaw07.TreeBelow': WHATEVER THE INPUT: true; the input reads as it did. -/
def treeBelowSpec : ChangeSpec := { name := "treeBelow", fn := fun _ => fun
  | [d1, d2] => { results := [.lit (.bool true)], args := [d1, d2] }
  | _ => none }
def treeBelowRow : OpenClaim := { program := "yteiladccdenpbaa", sum := "dbf0bb9028e857a3f9aa4db2a5067a7b493a12b35123caa21114c3a84bc2ce81", func := "assart/assartlaw07.TreeBelow", spec := "treeBelow", unfollowed := true, recurses := true, apart := false }
def TreeBelowSaid : Prop := treeBelowRow.holds Try.pinned (OpenSpec.ofChange treeBelowSpec)

/-- ITS FALSE NEIGHBOUR: 'it returns false'. Refute it at one input. -/
def treeBelowWrong : ChangeSpec := { name := "treeBelow", fn := fun _ => fun
  | [d1, d2] => { results := [.lit (.bool false)], args := [d1, d2] }
  | _ => none }
def TreeBelowWrongFalsely : Prop := treeBelowRow.holds Try.pinned (OpenSpec.ofChange treeBelowWrong)

/-- 'assartlaw07.TreeStays': WHATEVER THE INPUT: true; the input reads as it did. -/
def treeStaysSpec : ChangeSpec := { name := "treeStays", fn := fun _ => fun
  | [d] => { results := [.lit (.bool true)], args := [d] }
  | _ => none }
def treeStaysRow : OpenClaim := { program := "yteiladccdenpbaa", sum := "dbf0bb9028e857a3f9aa4db2a5067a7b493a12b35123caa21114c3a84bc2ce81", func := "assart/assartlaw07.TreeStays", spec := "treeStays", unfollowed := true, recurses := true, apart := false }
def TreeStaysSaid : Prop := treeStaysRow.holds Try.pinned (OpenSpec.ofChange treeStaysSpec)

/-- ITS FALSE NEIGHBOUR: 'it returns false'. Refute it at one input. -/
def treeStaysWrong : ChangeSpec := { name := "treeStays", fn := fun _ => fun
  | [d] => { results := [.lit (.bool false)], args := [d] }
  | _ => none }
def TreeStaysWrongFalsely : Prop := treeStaysRow.holds Try.pinned (OpenSpec.ofChange treeStaysWrong)

/-- 'assartlaw05.HeapTells': WHATEVER THE INPUT: true; the input reads as it did. -/
def heapTellsSpec : ChangeSpec := { name := "heapTells", fn := fun _ => fun
  | [d] => { results := [.lit (.bool true)], args := [d] }
  | _ => none }
def heapTellsRow : OpenClaim := { program := "yteiladccdenpbaa", sum := "dbf0bb9028e857a3f9aa4db2a5067a7b493a12b35123caa21114c3a84bc2ce81", func := "assart/assartlaw05.HeapTells", spec := "heapTells", unfollowed := true, recurses := true, apart := false }
def HeapTellsSaid : Prop := heapTellsRow.holds Try.pinned (OpenSpec.ofChange heapTellsSpec)

/-- ITS FALSE NEIGHBOUR: 'it returns false'. Refute it at one input. -/
def heapTellsWrong : ChangeSpec := { name := "heapTells", fn := fun _ => fun
  | [d] => { results := [.lit (.bool false)], args := [d] }
  | _ => none }
def HeapTellsWrongFalsely : Prop := heapTellsRow.holds Try.pinned (OpenSpec.ofChange heapTellsWrong)

/-- 'assartlaw05.HeapDoes': WHATEVER THE INPUT: true; the input reads as it did. -/
def heapDoesSpec : ChangeSpec := { name := "heapDoes", fn := fun _ => fun
  | [d] => { results := [.lit (.bool true)], args := [d] }
  | _ => none }
def heapDoesRow : OpenClaim := { program := "yteiladccdenpbaa", sum := "dbf0bb9028e857a3f9aa4db2a5067a7b493a12b35123caa21114c3a84bc2ce81", func := "assart/assartlaw05.HeapDoes", spec := "heapDoes", unfollowed := true, recurses := true, apart := false }
def HeapDoesSaid : Prop := heapDoesRow.holds Try.pinned (OpenSpec.ofChange heapDoesSpec)

/-- ITS FALSE NEIGHBOUR: 'it returns false'. Refute it at one input. -/
def heapDoesWrong : ChangeSpec := { name := "heapDoes", fn := fun _ => fun
  | [d] => { results := [.lit (.bool false)], args := [d] }
  | _ => none }
def HeapDoesWrongFalsely : Prop := heapDoesRow.holds Try.pinned (OpenSpec.ofChange heapDoesWrong)

/-- 'assartlaw05.HeapBack': WHATEVER THE INPUT: true; the input reads as it did. -/
def heapBackSpec : ChangeSpec := { name := "heapBack", fn := fun _ => fun
  | [d1, d2, d3] => { results := [.lit (.bool true)], args := [d1, d2, d3] }
  | _ => none }
def heapBackRow : OpenClaim := { program := "yteiladccdenpbaa", sum := "dbf0bb9028e857a3f9aa4db2a5067a7b493a12b35123caa21114c3a84bc2ce81", func := "assart/assartlaw05.HeapBack", spec := "heapBack", unfollowed := true, recurses := true, apart := false }
def HeapBackSaid : Prop := heapBackRow.holds Try.pinned (OpenSpec.ofChange heapBackSpec)

/-- ITS FALSE NEIGHBOUR: 'it returns false'. Refute it at one input. -/
def heapBackWrong : ChangeSpec := { name := "heapBack", fn := fun _ => fun
  | [d1, d2, d3] => { results := [.lit (.bool false)], args := [d1, d2, d3] }
  | _ => none }
def HeapBackWrongFalsely : Prop := heapBackRow.holds Try.pinned (OpenSpec.ofChange heapBackWrong)

/-- 'assartlaw05.HeapFits': WHATEVER THE INPUT: true; the input reads as it did. -/
def heapFitsSpec : ChangeSpec := { name := "heapFits", fn := fun _ => fun
  | [d1, d2, d3] => { results := [.lit (.bool true)], args := [d1, d2, d3] }
  | _ => none }
def heapFitsRow : OpenClaim := { program := "yteiladccdenpbaa", sum := "dbf0bb9028e857a3f9aa4db2a5067a7b493a12b35123caa21114c3a84bc2ce81", func := "assart/assartlaw05.HeapFits", spec := "heapFits", unfollowed := true, recurses := true, apart := false }
def HeapFitsSaid : Prop := heapFitsRow.holds Try.pinned (OpenSpec.ofChange heapFitsSpec)

/-- ITS FALSE NEIGHBOUR: 'it returns false'. Refute it at one input. -/
def heapFitsWrong : ChangeSpec := { name := "heapFits", fn := fun _ => fun
  | [d1, d2, d3] => { results := [.lit (.bool false)], args := [d1, d2, d3] }
  | _ => none }
def HeapFitsWrongFalsely : Prop := heapFitsRow.holds Try.pinned (OpenSpec.ofChange heapFitsWrong)

/-- 'assartlaw05.HeapHolds': WHATEVER THE INPUT: true; the input reads as it did. -/
def heapHoldsSpec : ChangeSpec := { name := "heapHolds", fn := fun _ => fun
  | [d1, d2, d3] => { results := [.lit (.bool true)], args := [d1, d2, d3] }
  | _ => none }
def heapHoldsRow : OpenClaim := { program := "yteiladccdenpbaa", sum := "dbf0bb9028e857a3f9aa4db2a5067a7b493a12b35123caa21114c3a84bc2ce81", func := "assart/assartlaw05.HeapHolds", spec := "heapHolds", unfollowed := true, recurses := true, apart := false }
def HeapHoldsSaid : Prop := heapHoldsRow.holds Try.pinned (OpenSpec.ofChange heapHoldsSpec)

/-- ITS FALSE NEIGHBOUR: 'it returns false'. Refute it at one input. -/
def heapHoldsWrong : ChangeSpec := { name := "heapHolds", fn := fun _ => fun
  | [d1, d2, d3] => { results := [.lit (.bool false)], args := [d1, d2, d3] }
  | _ => none }
def HeapHoldsWrongFalsely : Prop := heapHoldsRow.holds Try.pinned (OpenSpec.ofChange heapHoldsWrong)

/-- 'assartlaw05.HeapHeld': WHATEVER THE INPUT: true; the input reads as it did. -/
def heapHeldSpec : ChangeSpec := { name := "heapHeld", fn := fun _ => fun
  | [d1, d2, d3] => { results := [.lit (.bool true)], args := [d1, d2, d3] }
  | _ => none }
def heapHeldRow : OpenClaim := { program := "yteiladccdenpbaa", sum := "dbf0bb9028e857a3f9aa4db2a5067a7b493a12b35123caa21114c3a84bc2ce81", func := "assart/assartlaw05.HeapHeld", spec := "heapHeld", unfollowed := true, recurses := true, apart := false }
def HeapHeldSaid : Prop := heapHeldRow.holds Try.pinned (OpenSpec.ofChange heapHeldSpec)

/-- ITS FALSE NEIGHBOUR: 'it returns false'. Refute it at one input. -/
def heapHeldWrong : ChangeSpec := { name := "heapHeld", fn := fun _ => fun
  | [d1, d2, d3] => { results := [.lit (.bool false)], args := [d1, d2, d3] }
  | _ => none }
def HeapHeldWrongFalsely : Prop := heapHeldRow.holds Try.pinned (OpenSpec.ofChange heapHeldWrong)

/- THE SECOND FORM. 'bulk': how many values and letters a reading holds, each counted each time it is reached (what is shared counts as often as it is met; a slice's spare places count too). A statement '..UptoSaid' is the law's where the arguments, and the package variables that the reading takes, are together of bulk at most 1048576: NARROWER than '..Said'. Prove '..Said' where nothing that the law and all that it calls make is longer than what came in: it says more and counts as full. Else prove '..UptoSaid'. A law counts once. -/
mutual
def uptoBulk {H : Type} : DataW H → Nat
  | .lit (.string bytes) => bytes.length + 1
  | .lit _ => 1
  | .nil => 1
  | .ptr d => uptoBulk d + 1
  | .slice elems spare => uptoBulkAll elems + uptoBulkAll spare + 1
  | .agg parts => uptoBulkAll parts + 1
  | .iface _ d => uptoBulk d + 1
  | .map entries => uptoBulkEntries entries + 1
  | .held _ => 1
def uptoBulkAll {H : Type} : List (DataW H) → Nat
  | [] => 0
  | d :: r => uptoBulk d + uptoBulkAll r
def uptoBulkEntries {H : Type} : List (Lit × DataW H) → Nat
  | [] => 0
  | x :: r => uptoBulkEntry x + uptoBulkEntries r
def uptoBulkEntry {H : Type} : Lit × DataW H → Nat
  | (.string bytes, d) => bytes.length + uptoBulk d + 1
  | (_, d) => uptoBulk d + 1
 end
def uptoSmall : (H : Type) → List (DataW H) → Bool := fun _ ds => decide (uptoBulkAll ds ≤ 1048576)
def OpenSpec.upto (s : _root_.Go.ChangeSpec) : _root_.Go.OpenSpec := { _root_.Go.OpenSpec.ofChange s with cond := some uptoSmall }

/-- 'assartlaw07.TreeTells', WHERE WHAT IT READS IS OF BULK AT MOST 1048576: true; the input reads as it did. -/
def treeTellsUptoRow : OpenClaim := { program := "yteiladccdenpbaa", sum := "dbf0bb9028e857a3f9aa4db2a5067a7b493a12b35123caa21114c3a84bc2ce81", func := "assart/assartlaw07.TreeTells", spec := "treeTells", unfollowed := true, recurses := true, apart := false, narrowed := true }
def TreeTellsUptoSaid : Prop := treeTellsUptoRow.holds Try.pinned (OpenSpec.upto treeTellsSpec)

/-- 'assartlaw07.TreeFinds', WHERE WHAT IT READS IS OF BULK AT MOST 1048576: true; the input reads as it did. -/
def treeFindsUptoRow : OpenClaim := { program := "yteiladccdenpbaa", sum := "dbf0bb9028e857a3f9aa4db2a5067a7b493a12b35123caa21114c3a84bc2ce81", func := "assart/assartlaw07.TreeFinds", spec := "treeFinds", unfollowed := true, recurses := true, apart := false, narrowed := true }
def TreeFindsUptoSaid : Prop := treeFindsUptoRow.holds Try.pinned (OpenSpec.upto treeFindsSpec)

/-- 'assartlaw07.TreeScans', WHERE WHAT IT READS IS OF BULK AT MOST 1048576: true; the input reads as it did. -/
def treeScansUptoRow : OpenClaim := { program := "yteiladccdenpbaa", sum := "dbf0bb9028e857a3f9aa4db2a5067a7b493a12b35123caa21114c3a84bc2ce81", func := "assart/assartlaw07.TreeScans", spec := "treeScans", unfollowed := true, recurses := true, apart := false, narrowed := true }
def TreeScansUptoSaid : Prop := treeScansUptoRow.holds Try.pinned (OpenSpec.upto treeScansSpec)

/-- 'assartlaw07.TreeNodes', WHERE WHAT IT READS IS OF BULK AT MOST 1048576: true; the input reads as it did. -/
def treeNodesUptoRow : OpenClaim := { program := "yteiladccdenpbaa", sum := "dbf0bb9028e857a3f9aa4db2a5067a7b493a12b35123caa21114c3a84bc2ce81", func := "assart/assartlaw07.TreeNodes", spec := "treeNodes", unfollowed := true, recurses := true, apart := false, narrowed := true }
def TreeNodesUptoSaid : Prop := treeNodesUptoRow.holds Try.pinned (OpenSpec.upto treeNodesSpec)

/-- 'assartlaw07.TreeBelow', WHERE WHAT IT READS IS OF BULK AT MOST 1048576: true; the input reads as it did. -/
def treeBelowUptoRow : OpenClaim := { program := "yteiladccdenpbaa", sum := "dbf0bb9028e857a3f9aa4db2a5067a7b493a12b35123caa21114c3a84bc2ce81", func := "assart/assartlaw07.TreeBelow", spec := "treeBelow", unfollowed := true, recurses := true, apart := false, narrowed := true }
def TreeBelowUptoSaid : Prop := treeBelowUptoRow.holds Try.pinned (OpenSpec.upto treeBelowSpec)

/-- 'assartlaw07.TreeStays', WHERE WHAT IT READS IS OF BULK AT MOST 1048576: true; the input reads as it did. -/
def treeStaysUptoRow : OpenClaim := { program := "yteiladccdenpbaa", sum := "dbf0bb9028e857a3f9aa4db2a5067a7b493a12b35123caa21114c3a84bc2ce81", func := "assart/assartlaw07.TreeStays", spec := "treeStays", unfollowed := true, recurses := true, apart := false, narrowed := true }
def TreeStaysUptoSaid : Prop := treeStaysUptoRow.holds Try.pinned (OpenSpec.upto treeStaysSpec)

/-- 'assartlaw05.HeapTells', WHERE WHAT IT READS IS OF BULK AT MOST 1048576: true; the input reads as it did. -/
def heapTellsUptoRow : OpenClaim := { program := "yteiladccdenpbaa", sum := "dbf0bb9028e857a3f9aa4db2a5067a7b493a12b35123caa21114c3a84bc2ce81", func := "assart/assartlaw05.HeapTells", spec := "heapTells", unfollowed := true, recurses := true, apart := false, narrowed := true }
def HeapTellsUptoSaid : Prop := heapTellsUptoRow.holds Try.pinned (OpenSpec.upto heapTellsSpec)

/-- 'assartlaw05.HeapDoes', WHERE WHAT IT READS IS OF BULK AT MOST 1048576: true; the input reads as it did. -/
def heapDoesUptoRow : OpenClaim := { program := "yteiladccdenpbaa", sum := "dbf0bb9028e857a3f9aa4db2a5067a7b493a12b35123caa21114c3a84bc2ce81", func := "assart/assartlaw05.HeapDoes", spec := "heapDoes", unfollowed := true, recurses := true, apart := false, narrowed := true }
def HeapDoesUptoSaid : Prop := heapDoesUptoRow.holds Try.pinned (OpenSpec.upto heapDoesSpec)

/-- 'assartlaw05.HeapBack', WHERE WHAT IT READS IS OF BULK AT MOST 1048576: true; the input reads as it did. -/
def heapBackUptoRow : OpenClaim := { program := "yteiladccdenpbaa", sum := "dbf0bb9028e857a3f9aa4db2a5067a7b493a12b35123caa21114c3a84bc2ce81", func := "assart/assartlaw05.HeapBack", spec := "heapBack", unfollowed := true, recurses := true, apart := false, narrowed := true }
def HeapBackUptoSaid : Prop := heapBackUptoRow.holds Try.pinned (OpenSpec.upto heapBackSpec)

/-- 'assartlaw05.HeapFits', WHERE WHAT IT READS IS OF BULK AT MOST 1048576: true; the input reads as it did. -/
def heapFitsUptoRow : OpenClaim := { program := "yteiladccdenpbaa", sum := "dbf0bb9028e857a3f9aa4db2a5067a7b493a12b35123caa21114c3a84bc2ce81", func := "assart/assartlaw05.HeapFits", spec := "heapFits", unfollowed := true, recurses := true, apart := false, narrowed := true }
def HeapFitsUptoSaid : Prop := heapFitsUptoRow.holds Try.pinned (OpenSpec.upto heapFitsSpec)

/-- 'assartlaw05.HeapHolds', WHERE WHAT IT READS IS OF BULK AT MOST 1048576: true; the input reads as it did. -/
def heapHoldsUptoRow : OpenClaim := { program := "yteiladccdenpbaa", sum := "dbf0bb9028e857a3f9aa4db2a5067a7b493a12b35123caa21114c3a84bc2ce81", func := "assart/assartlaw05.HeapHolds", spec := "heapHolds", unfollowed := true, recurses := true, apart := false, narrowed := true }
def HeapHoldsUptoSaid : Prop := heapHoldsUptoRow.holds Try.pinned (OpenSpec.upto heapHoldsSpec)

/-- 'assartlaw05.HeapHeld', WHERE WHAT IT READS IS OF BULK AT MOST 1048576: true; the input reads as it did. -/
def heapHeldUptoRow : OpenClaim := { program := "yteiladccdenpbaa", sum := "dbf0bb9028e857a3f9aa4db2a5067a7b493a12b35123caa21114c3a84bc2ce81", func := "assart/assartlaw05.HeapHeld", spec := "heapHeld", unfollowed := true, recurses := true, apart := false, narrowed := true }
def HeapHeldUptoSaid : Prop := heapHeldUptoRow.holds Try.pinned (OpenSpec.upto heapHeldSpec)

end Rows
end Go.Proofs.Yteiladccdenpbaa
