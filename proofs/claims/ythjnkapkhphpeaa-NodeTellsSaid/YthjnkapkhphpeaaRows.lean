/-
  No cell of these rows narrows 'for every input' (looked for: loops, veiled, ifaces, maps, wideKeys, modest, calm, conditions, laid).
  DERIVED. THE GIVEN ROWS OF THIS SEAT. 12 by the template 'for every input the law returns true; each argument reads behind the call as it read before'; 0 by the template 'total and deterministic' (their statements: YthjnkapkhphpeaaTotals.lean).
  GIVEN WITH THE SEED: the statements are not yours to turn. If you find one false, say at which input.
  Laid BY PROGRAM, IN A SANDBOX (cutbox-rows.mjs): the forced cells as the released guide's own fill.sh prints them over the translation 0415f20cb5f28e0c… (all of the seat's roots in one cut). By AI agents, Wed Nov 11 2026. No macro, syntax, notation, axiom, sorry.
-/
import Derived.Test.YthjnkapkhphpeaaChecked
import GoSem.Claim
import GoSem.ClaimJoined
import GoSem.ClaimMapViews
import Derived.JoinedTies
import Derived.KernelRfl
namespace Go.Proofs.Ythjnkapkhphpeaa
/- THE CELL 'sum', in the pinned program and in every row, IS THE sha256 OF THE DUMP (.gsa) THAT YthjnkapkhphpeaaProg.lean LOADS. Nothing in Lean hashes anything: it is a label: what it is worth is what the hold of that sum in a sandbox is worth. -/
noncomputable def Try.pinned : Pinned := { name := "ythjnkapkhphpeaa", sum := "0415f20cb5f28e0c3b4e1646841afbe3871f5b3cc370449ff8f5509620607371", checked := Try.checked }
namespace Rows
def none {H : Type} : Left H := { results := [], args := [] }

/-- 'assartlaw03.SlotTells': WHATEVER THE INPUT: true; the input reads as it did. -/
def slotTellsSpec : ChangeSpec := { name := "slotTells", fn := fun _ => fun
  | [d] => { results := [.lit (.bool true)], args := [d] }
  | _ => none }
def slotTellsRow : OpenClaim := { program := "ythjnkapkhphpeaa", sum := "0415f20cb5f28e0c3b4e1646841afbe3871f5b3cc370449ff8f5509620607371", func := "assart/assartlaw03.SlotTells", spec := "slotTells", apart := false }
def SlotTellsSaid : Prop := slotTellsRow.holds Try.pinned (OpenSpec.ofChange slotTellsSpec)

/-- ITS FALSE NEIGHBOUR: 'it returns false'. Refute it at one input. -/
def slotTellsWrong : ChangeSpec := { name := "slotTells", fn := fun _ => fun
  | [d] => { results := [.lit (.bool false)], args := [d] }
  | _ => none }
def SlotTellsWrongFalsely : Prop := slotTellsRow.holds Try.pinned (OpenSpec.ofChange slotTellsWrong)

/-- 'assartlaw03.SlotBack': WHATEVER THE INPUT: true; the input reads as it did. -/
def slotBackSpec : ChangeSpec := { name := "slotBack", fn := fun _ => fun
  | [d] => { results := [.lit (.bool true)], args := [d] }
  | _ => none }
def slotBackRow : OpenClaim := { program := "ythjnkapkhphpeaa", sum := "0415f20cb5f28e0c3b4e1646841afbe3871f5b3cc370449ff8f5509620607371", func := "assart/assartlaw03.SlotBack", spec := "slotBack", apart := false }
def SlotBackSaid : Prop := slotBackRow.holds Try.pinned (OpenSpec.ofChange slotBackSpec)

/-- ITS FALSE NEIGHBOUR: 'it returns false'. Refute it at one input. -/
def slotBackWrong : ChangeSpec := { name := "slotBack", fn := fun _ => fun
  | [d] => { results := [.lit (.bool false)], args := [d] }
  | _ => none }
def SlotBackWrongFalsely : Prop := slotBackRow.holds Try.pinned (OpenSpec.ofChange slotBackWrong)

/-- 'assartlaw03.SlotPicks': WHATEVER THE INPUT: true; the input reads as it did. -/
def slotPicksSpec : ChangeSpec := { name := "slotPicks", fn := fun _ => fun
  | [d1, d2, d3] => { results := [.lit (.bool true)], args := [d1, d2, d3] }
  | _ => none }
def slotPicksRow : OpenClaim := { program := "ythjnkapkhphpeaa", sum := "0415f20cb5f28e0c3b4e1646841afbe3871f5b3cc370449ff8f5509620607371", func := "assart/assartlaw03.SlotPicks", spec := "slotPicks", apart := false }
def SlotPicksSaid : Prop := slotPicksRow.holds Try.pinned (OpenSpec.ofChange slotPicksSpec)

/-- ITS FALSE NEIGHBOUR: 'it returns false'. Refute it at one input. -/
def slotPicksWrong : ChangeSpec := { name := "slotPicks", fn := fun _ => fun
  | [d1, d2, d3] => { results := [.lit (.bool false)], args := [d1, d2, d3] }
  | _ => none }
def SlotPicksWrongFalsely : Prop := slotPicksRow.holds Try.pinned (OpenSpec.ofChange slotPicksWrong)

/-- 'assartlaw03.SlotBooks': WHATEVER THE INPUT: true; the input reads as it did. -/
def slotBooksSpec : ChangeSpec := { name := "slotBooks", fn := fun _ => fun
  | [d] => { results := [.lit (.bool true)], args := [d] }
  | _ => none }
def slotBooksRow : OpenClaim := { program := "ythjnkapkhphpeaa", sum := "0415f20cb5f28e0c3b4e1646841afbe3871f5b3cc370449ff8f5509620607371", func := "assart/assartlaw03.SlotBooks", spec := "slotBooks", apart := false }
def SlotBooksSaid : Prop := slotBooksRow.holds Try.pinned (OpenSpec.ofChange slotBooksSpec)

/-- ITS FALSE NEIGHBOUR: 'it returns false'. Refute it at one input. -/
def slotBooksWrong : ChangeSpec := { name := "slotBooks", fn := fun _ => fun
  | [d] => { results := [.lit (.bool false)], args := [d] }
  | _ => none }
def SlotBooksWrongFalsely : Prop := slotBooksRow.holds Try.pinned (OpenSpec.ofChange slotBooksWrong)

/-- 'assartlaw03.SlotBlocks': WHATEVER THE INPUT: true; the input reads as it did. -/
def slotBlocksSpec : ChangeSpec := { name := "slotBlocks", fn := fun _ => fun
  | [d1, d2] => { results := [.lit (.bool true)], args := [d1, d2] }
  | _ => none }
def slotBlocksRow : OpenClaim := { program := "ythjnkapkhphpeaa", sum := "0415f20cb5f28e0c3b4e1646841afbe3871f5b3cc370449ff8f5509620607371", func := "assart/assartlaw03.SlotBlocks", spec := "slotBlocks", apart := false }
def SlotBlocksSaid : Prop := slotBlocksRow.holds Try.pinned (OpenSpec.ofChange slotBlocksSpec)

/-- ITS FALSE NEIGHBOUR: 'it returns false'. Refute it at one input. -/
def slotBlocksWrong : ChangeSpec := { name := "slotBlocks", fn := fun _ => fun
  | [d1, d2] => { results := [.lit (.bool false)], args := [d1, d2] }
  | _ => none }
def SlotBlocksWrongFalsely : Prop := slotBlocksRow.holds Try.pinned (OpenSpec.ofChange slotBlocksWrong)

/-- 'assartlaw04.NodeTells': WHATEVER THE INPUT: true; the input reads as it did. -/
def nodeTellsSpec : ChangeSpec := { name := "nodeTells", fn := fun _ => fun
  | [d1, d2, d3] => { results := [.lit (.bool true)], args := [d1, d2, d3] }
  | _ => none }
def nodeTellsRow : OpenClaim := { program := "ythjnkapkhphpeaa", sum := "0415f20cb5f28e0c3b4e1646841afbe3871f5b3cc370449ff8f5509620607371", func := "assart/assartlaw04.NodeTells", spec := "nodeTells", unfollowed := true, recurses := true, apart := false }
def NodeTellsSaid : Prop := nodeTellsRow.holds Try.pinned (OpenSpec.ofChange nodeTellsSpec)

/-- ITS FALSE NEIGHBOUR: 'it returns false'. Refute it at one input. -/
def nodeTellsWrong : ChangeSpec := { name := "nodeTells", fn := fun _ => fun
  | [d1, d2, d3] => { results := [.lit (.bool false)], args := [d1, d2, d3] }
  | _ => none }
def NodeTellsWrongFalsely : Prop := nodeTellsRow.holds Try.pinned (OpenSpec.ofChange nodeTellsWrong)

/-- 'assartlaw04.NodeItems': WHATEVER THE INPUT: true; the input reads as it did. -/
def nodeItemsSpec : ChangeSpec := { name := "nodeItems", fn := fun _ => fun
  | [d] => { results := [.lit (.bool true)], args := [d] }
  | _ => none }
def nodeItemsRow : OpenClaim := { program := "ythjnkapkhphpeaa", sum := "0415f20cb5f28e0c3b4e1646841afbe3871f5b3cc370449ff8f5509620607371", func := "assart/assartlaw04.NodeItems", spec := "nodeItems", unfollowed := true, recurses := true, apart := false }
def NodeItemsSaid : Prop := nodeItemsRow.holds Try.pinned (OpenSpec.ofChange nodeItemsSpec)

/-- ITS FALSE NEIGHBOUR: 'it returns false'. Refute it at one input. -/
def nodeItemsWrong : ChangeSpec := { name := "nodeItems", fn := fun _ => fun
  | [d] => { results := [.lit (.bool false)], args := [d] }
  | _ => none }
def NodeItemsWrongFalsely : Prop := nodeItemsRow.holds Try.pinned (OpenSpec.ofChange nodeItemsWrong)

/-- 'assartlaw04.NodeBack': WHATEVER THE INPUT: true; the input reads as it did. -/
def nodeBackSpec : ChangeSpec := { name := "nodeBack", fn := fun _ => fun
  | [d1, d2, d3] => { results := [.lit (.bool true)], args := [d1, d2, d3] }
  | _ => none }
def nodeBackRow : OpenClaim := { program := "ythjnkapkhphpeaa", sum := "0415f20cb5f28e0c3b4e1646841afbe3871f5b3cc370449ff8f5509620607371", func := "assart/assartlaw04.NodeBack", spec := "nodeBack", unfollowed := true, recurses := true, apart := false }
def NodeBackSaid : Prop := nodeBackRow.holds Try.pinned (OpenSpec.ofChange nodeBackSpec)

/-- ITS FALSE NEIGHBOUR: 'it returns false'. Refute it at one input. -/
def nodeBackWrong : ChangeSpec := { name := "nodeBack", fn := fun _ => fun
  | [d1, d2, d3] => { results := [.lit (.bool false)], args := [d1, d2, d3] }
  | _ => none }
def NodeBackWrongFalsely : Prop := nodeBackRow.holds Try.pinned (OpenSpec.ofChange nodeBackWrong)

/-- 'assartlaw04.NodeSplits': WHATEVER THE INPUT: true; the input reads as it did. -/
def nodeSplitsSpec : ChangeSpec := { name := "nodeSplits", fn := fun _ => fun
  | [d] => { results := [.lit (.bool true)], args := [d] }
  | _ => none }
def nodeSplitsRow : OpenClaim := { program := "ythjnkapkhphpeaa", sum := "0415f20cb5f28e0c3b4e1646841afbe3871f5b3cc370449ff8f5509620607371", func := "assart/assartlaw04.NodeSplits", spec := "nodeSplits", unfollowed := true, recurses := true, apart := false }
def NodeSplitsSaid : Prop := nodeSplitsRow.holds Try.pinned (OpenSpec.ofChange nodeSplitsSpec)

/-- ITS FALSE NEIGHBOUR: 'it returns false'. Refute it at one input. -/
def nodeSplitsWrong : ChangeSpec := { name := "nodeSplits", fn := fun _ => fun
  | [d] => { results := [.lit (.bool false)], args := [d] }
  | _ => none }
def NodeSplitsWrongFalsely : Prop := nodeSplitsRow.holds Try.pinned (OpenSpec.ofChange nodeSplitsWrong)

/-- 'assartlaw04.NodeLeads': WHATEVER THE INPUT: true; the input reads as it did. -/
def nodeLeadsSpec : ChangeSpec := { name := "nodeLeads", fn := fun _ => fun
  | [d1, d2] => { results := [.lit (.bool true)], args := [d1, d2] }
  | _ => none }
def nodeLeadsRow : OpenClaim := { program := "ythjnkapkhphpeaa", sum := "0415f20cb5f28e0c3b4e1646841afbe3871f5b3cc370449ff8f5509620607371", func := "assart/assartlaw04.NodeLeads", spec := "nodeLeads", unfollowed := true, recurses := true, apart := false }
def NodeLeadsSaid : Prop := nodeLeadsRow.holds Try.pinned (OpenSpec.ofChange nodeLeadsSpec)

/-- ITS FALSE NEIGHBOUR: 'it returns false'. Refute it at one input. -/
def nodeLeadsWrong : ChangeSpec := { name := "nodeLeads", fn := fun _ => fun
  | [d1, d2] => { results := [.lit (.bool false)], args := [d1, d2] }
  | _ => none }
def NodeLeadsWrongFalsely : Prop := nodeLeadsRow.holds Try.pinned (OpenSpec.ofChange nodeLeadsWrong)

/-- 'assartlaw04.NodeWith': WHATEVER THE INPUT: true; the input reads as it did. -/
def nodeWithSpec : ChangeSpec := { name := "nodeWith", fn := fun _ => fun
  | [d] => { results := [.lit (.bool true)], args := [d] }
  | _ => none }
def nodeWithRow : OpenClaim := { program := "ythjnkapkhphpeaa", sum := "0415f20cb5f28e0c3b4e1646841afbe3871f5b3cc370449ff8f5509620607371", func := "assart/assartlaw04.NodeWith", spec := "nodeWith", unfollowed := true, recurses := true, apart := false }
def NodeWithSaid : Prop := nodeWithRow.holds Try.pinned (OpenSpec.ofChange nodeWithSpec)

/-- ITS FALSE NEIGHBOUR: 'it returns false'. Refute it at one input. -/
def nodeWithWrong : ChangeSpec := { name := "nodeWith", fn := fun _ => fun
  | [d] => { results := [.lit (.bool false)], args := [d] }
  | _ => none }
def NodeWithWrongFalsely : Prop := nodeWithRow.holds Try.pinned (OpenSpec.ofChange nodeWithWrong)

/-- 'assartlaw04.NodePuts': WHATEVER THE INPUT: true; the input reads as it did. -/
def nodePutsSpec : ChangeSpec := { name := "nodePuts", fn := fun _ => fun
  | [d1, d2] => { results := [.lit (.bool true)], args := [d1, d2] }
  | _ => none }
def nodePutsRow : OpenClaim := { program := "ythjnkapkhphpeaa", sum := "0415f20cb5f28e0c3b4e1646841afbe3871f5b3cc370449ff8f5509620607371", func := "assart/assartlaw04.NodePuts", spec := "nodePuts", unfollowed := true, recurses := true, apart := false }
def NodePutsSaid : Prop := nodePutsRow.holds Try.pinned (OpenSpec.ofChange nodePutsSpec)

/-- ITS FALSE NEIGHBOUR: 'it returns false'. Refute it at one input. -/
def nodePutsWrong : ChangeSpec := { name := "nodePuts", fn := fun _ => fun
  | [d1, d2] => { results := [.lit (.bool false)], args := [d1, d2] }
  | _ => none }
def NodePutsWrongFalsely : Prop := nodePutsRow.holds Try.pinned (OpenSpec.ofChange nodePutsWrong)

/- THE SECOND FORM. 'bulk': how many values and letters a reading holds, each counted each time it is reached (what is shared counts as often as it is met; a slice's spare places count too). A statement '..UptoSaid' is the law's where the arguments, and the package variables that the reading takes, are together of bulk at most 1048576: NARROWER than '..Said'. Prove '..Said' where nothing that the law and all that it calls make is longer than what came in: it says more and counts as full. Else prove '..UptoSaid'. A law counts once. -/
mutual
def uptoBulk {H : Type} : DataW H → Nat
  | .lit (.string bytes) => bytes.length + 1
  | .lit _ => 1
  | .nil => 1
  | .ptr d => uptoBulk d + 1
  | .slice elems spare => uptoBulkAll elems + uptoBulkAll spare + 1
  | .agg parts => uptoBulkAll parts + 1
  | .iface _ d => uptoBulk d + 1
  | .map entries => uptoBulkEntries entries + 1
  | .held _ => 1
def uptoBulkAll {H : Type} : List (DataW H) → Nat
  | [] => 0
  | d :: r => uptoBulk d + uptoBulkAll r
def uptoBulkEntries {H : Type} : List (Lit × DataW H) → Nat
  | [] => 0
  | x :: r => uptoBulkEntry x + uptoBulkEntries r
def uptoBulkEntry {H : Type} : Lit × DataW H → Nat
  | (.string bytes, d) => bytes.length + uptoBulk d + 1
  | (_, d) => uptoBulk d + 1
 end
def uptoSmall : (H : Type) → List (DataW H) → Bool := fun _ ds => decide (uptoBulkAll ds ≤ 1048576)
def OpenSpec.upto (s : _root_.Go.ChangeSpec) : _root_.Go.OpenSpec := { _root_.Go.OpenSpec.ofChange s with cond := some uptoSmall }

/-- 'assartlaw03.SlotTells', WHERE WHAT IT READS IS OF BULK AT MOST 1048576: true; the input reads as it did. -/
def slotTellsUptoRow : OpenClaim := { program := "ythjnkapkhphpeaa", sum := "0415f20cb5f28e0c3b4e1646841afbe3871f5b3cc370449ff8f5509620607371", func := "assart/assartlaw03.SlotTells", spec := "slotTells", apart := false, narrowed := true }
def SlotTellsUptoSaid : Prop := slotTellsUptoRow.holds Try.pinned (OpenSpec.upto slotTellsSpec)

/-- 'assartlaw03.SlotBack', WHERE WHAT IT READS IS OF BULK AT MOST 1048576: true; the input reads as it did. -/
def slotBackUptoRow : OpenClaim := { program := "ythjnkapkhphpeaa", sum := "0415f20cb5f28e0c3b4e1646841afbe3871f5b3cc370449ff8f5509620607371", func := "assart/assartlaw03.SlotBack", spec := "slotBack", apart := false, narrowed := true }
def SlotBackUptoSaid : Prop := slotBackUptoRow.holds Try.pinned (OpenSpec.upto slotBackSpec)

/-- 'assartlaw03.SlotPicks', WHERE WHAT IT READS IS OF BULK AT MOST 1048576: true; the input reads as it did. -/
def slotPicksUptoRow : OpenClaim := { program := "ythjnkapkhphpeaa", sum := "0415f20cb5f28e0c3b4e1646841afbe3871f5b3cc370449ff8f5509620607371", func := "assart/assartlaw03.SlotPicks", spec := "slotPicks", apart := false, narrowed := true }
def SlotPicksUptoSaid : Prop := slotPicksUptoRow.holds Try.pinned (OpenSpec.upto slotPicksSpec)

/-- 'assartlaw03.SlotBooks', WHERE WHAT IT READS IS OF BULK AT MOST 1048576: true; the input reads as it did. -/
def slotBooksUptoRow : OpenClaim := { program := "ythjnkapkhphpeaa", sum := "0415f20cb5f28e0c3b4e1646841afbe3871f5b3cc370449ff8f5509620607371", func := "assart/assartlaw03.SlotBooks", spec := "slotBooks", apart := false, narrowed := true }
def SlotBooksUptoSaid : Prop := slotBooksUptoRow.holds Try.pinned (OpenSpec.upto slotBooksSpec)

/-- 'assartlaw03.SlotBlocks', WHERE WHAT IT READS IS OF BULK AT MOST 1048576: true; the input reads as it did. -/
def slotBlocksUptoRow : OpenClaim := { program := "ythjnkapkhphpeaa", sum := "0415f20cb5f28e0c3b4e1646841afbe3871f5b3cc370449ff8f5509620607371", func := "assart/assartlaw03.SlotBlocks", spec := "slotBlocks", apart := false, narrowed := true }
def SlotBlocksUptoSaid : Prop := slotBlocksUptoRow.holds Try.pinned (OpenSpec.upto slotBlocksSpec)

/-- 'assartlaw04.NodeTells', WHERE WHAT IT READS IS OF BULK AT MOST 1048576: true; the input reads as it did. -/
def nodeTellsUptoRow : OpenClaim := { program := "ythjnkapkhphpeaa", sum := "0415f20cb5f28e0c3b4e1646841afbe3871f5b3cc370449ff8f5509620607371", func := "assart/assartlaw04.NodeTells", spec := "nodeTells", unfollowed := true, recurses := true, apart := false, narrowed := true }
def NodeTellsUptoSaid : Prop := nodeTellsUptoRow.holds Try.pinned (OpenSpec.upto nodeTellsSpec)

/-- 'assartlaw04.NodeItems', WHERE WHAT IT READS IS OF BULK AT MOST 1048576: true; the input reads as it did. -/
def nodeItemsUptoRow : OpenClaim := { program := "ythjnkapkhphpeaa", sum := "0415f20cb5f28e0c3b4e1646841afbe3871f5b3cc370449ff8f5509620607371", func := "assart/assartlaw04.NodeItems", spec := "nodeItems", unfollowed := true, recurses := true, apart := false, narrowed := true }
def NodeItemsUptoSaid : Prop := nodeItemsUptoRow.holds Try.pinned (OpenSpec.upto nodeItemsSpec)

/-- 'assartlaw04.NodeBack', WHERE WHAT IT READS IS OF BULK AT MOST 1048576: true; the input reads as it did. -/
def nodeBackUptoRow : OpenClaim := { program := "ythjnkapkhphpeaa", sum := "0415f20cb5f28e0c3b4e1646841afbe3871f5b3cc370449ff8f5509620607371", func := "assart/assartlaw04.NodeBack", spec := "nodeBack", unfollowed := true, recurses := true, apart := false, narrowed := true }
def NodeBackUptoSaid : Prop := nodeBackUptoRow.holds Try.pinned (OpenSpec.upto nodeBackSpec)

/-- 'assartlaw04.NodeSplits', WHERE WHAT IT READS IS OF BULK AT MOST 1048576: true; the input reads as it did. -/
def nodeSplitsUptoRow : OpenClaim := { program := "ythjnkapkhphpeaa", sum := "0415f20cb5f28e0c3b4e1646841afbe3871f5b3cc370449ff8f5509620607371", func := "assart/assartlaw04.NodeSplits", spec := "nodeSplits", unfollowed := true, recurses := true, apart := false, narrowed := true }
def NodeSplitsUptoSaid : Prop := nodeSplitsUptoRow.holds Try.pinned (OpenSpec.upto nodeSplitsSpec)

/-- 'assartlaw04.NodeLeads', WHERE WHAT IT READS IS OF BULK AT MOST 1048576: true; the input reads as it did. -/
def nodeLeadsUptoRow : OpenClaim := { program := "ythjnkapkhphpeaa", sum := "0415f20cb5f28e0c3b4e1646841afbe3871f5b3cc370449ff8f5509620607371", func := "assart/assartlaw04.NodeLeads", spec := "nodeLeads", unfollowed := true, recurses := true, apart := false, narrowed := true }
def NodeLeadsUptoSaid : Prop := nodeLeadsUptoRow.holds Try.pinned (OpenSpec.upto nodeLeadsSpec)

/-- 'assartlaw04.NodeWith', WHERE WHAT IT READS IS OF BULK AT MOST 1048576: true; the input reads as it did. -/
def nodeWithUptoRow : OpenClaim := { program := "ythjnkapkhphpeaa", sum := "0415f20cb5f28e0c3b4e1646841afbe3871f5b3cc370449ff8f5509620607371", func := "assart/assartlaw04.NodeWith", spec := "nodeWith", unfollowed := true, recurses := true, apart := false, narrowed := true }
def NodeWithUptoSaid : Prop := nodeWithUptoRow.holds Try.pinned (OpenSpec.upto nodeWithSpec)

/-- 'assartlaw04.NodePuts', WHERE WHAT IT READS IS OF BULK AT MOST 1048576: true; the input reads as it did. -/
def nodePutsUptoRow : OpenClaim := { program := "ythjnkapkhphpeaa", sum := "0415f20cb5f28e0c3b4e1646841afbe3871f5b3cc370449ff8f5509620607371", func := "assart/assartlaw04.NodePuts", spec := "nodePuts", unfollowed := true, recurses := true, apart := false, narrowed := true }
def NodePutsUptoSaid : Prop := nodePutsUptoRow.holds Try.pinned (OpenSpec.upto nodePutsSpec)

end Rows
end Go.Proofs.Ythjnkapkhphpeaa
