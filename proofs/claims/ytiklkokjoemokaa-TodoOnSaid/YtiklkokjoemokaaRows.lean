/-
  No cell of these rows narrows 'for every input' (looked for: loops, veiled, ifaces, maps, wideKeys, modest, calm, conditions, laid).
  DERIVED. THE GIVEN ROWS OF THIS SEAT. 7 by the template 'for every input the law returns true; each argument reads behind the call as it read before'; 0 by the template 'total and deterministic' (their statements: YtiklkokjoemokaaTotals.lean).
  GIVEN WITH THE SEED: the statements are not yours to turn. If you find one false, say at which input.
  Laid BY PROGRAM, IN A SANDBOX (cutbox-rows.mjs): the forced cells as the released guide's own fill.sh prints them over the translation 4e1de37e73da4de5… (all of the seat's roots in one cut). By AI agents, Wed Nov 11 2026. No macro, syntax, notation, axiom, sorry.
-/
import Derived.Test.YtiklkokjoemokaaChecked
import GoSem.Claim
import GoSem.ClaimJoined
import GoSem.ClaimMapViews
import Derived.JoinedTies
import Derived.KernelRfl
namespace Go.Proofs.Ytiklkokjoemokaa
/- THE CELL 'sum', in the pinned program and in every row, IS THE sha256 OF THE DUMP (.gsa) THAT YtiklkokjoemokaaProg.lean LOADS. Nothing in Lean hashes anything: it is a label: what it is worth is what the hold of that sum in a sandbox is worth. -/
noncomputable def Try.pinned : Pinned := { name := "ytiklkokjoemokaa", sum := "4e1de37e73da4de5d89e81681c1af93380e8164f998321ef56921257f0a60ae5", checked := Try.checked }
namespace Rows
def none {H : Type} : Left H := { results := [], args := [] }

/-- 'assartlaw01.NumTells': WHATEVER THE INPUT: true; the input reads as it did. -/
def numTellsSpec : ChangeSpec := { name := "numTells", fn := fun _ => fun
  | [d] => { results := [.lit (.bool true)], args := [d] }
  | _ => none }
def numTellsRow : OpenClaim := { program := "ytiklkokjoemokaa", sum := "4e1de37e73da4de5d89e81681c1af93380e8164f998321ef56921257f0a60ae5", func := "assart/assartlaw01.NumTells", spec := "numTells", apart := false }
def NumTellsSaid : Prop := numTellsRow.holds Try.pinned (OpenSpec.ofChange numTellsSpec)

/-- ITS FALSE NEIGHBOUR: 'it returns false'. Refute it at one input. -/
def numTellsWrong : ChangeSpec := { name := "numTells", fn := fun _ => fun
  | [d] => { results := [.lit (.bool false)], args := [d] }
  | _ => none }
def NumTellsWrongFalsely : Prop := numTellsRow.holds Try.pinned (OpenSpec.ofChange numTellsWrong)

/-- 'assartlaw01.NumSeals': WHATEVER THE INPUT: true; the input reads as it did. -/
def numSealsSpec : ChangeSpec := { name := "numSeals", fn := fun _ => fun
  | [d1, d2] => { results := [.lit (.bool true)], args := [d1, d2] }
  | _ => none }
def numSealsRow : OpenClaim := { program := "ytiklkokjoemokaa", sum := "4e1de37e73da4de5d89e81681c1af93380e8164f998321ef56921257f0a60ae5", func := "assart/assartlaw01.NumSeals", spec := "numSeals", apart := false }
def NumSealsSaid : Prop := numSealsRow.holds Try.pinned (OpenSpec.ofChange numSealsSpec)

/-- ITS FALSE NEIGHBOUR: 'it returns false'. Refute it at one input. -/
def numSealsWrong : ChangeSpec := { name := "numSeals", fn := fun _ => fun
  | [d1, d2] => { results := [.lit (.bool false)], args := [d1, d2] }
  | _ => none }
def NumSealsWrongFalsely : Prop := numSealsRow.holds Try.pinned (OpenSpec.ofChange numSealsWrong)

/-- 'assartlaw01.NumBack': WHATEVER THE INPUT: true; the input reads as it did. -/
def numBackSpec : ChangeSpec := { name := "numBack", fn := fun _ => fun
  | [d] => { results := [.lit (.bool true)], args := [d] }
  | _ => none }
def numBackRow : OpenClaim := { program := "ytiklkokjoemokaa", sum := "4e1de37e73da4de5d89e81681c1af93380e8164f998321ef56921257f0a60ae5", func := "assart/assartlaw01.NumBack", spec := "numBack", apart := false }
def NumBackSaid : Prop := numBackRow.holds Try.pinned (OpenSpec.ofChange numBackSpec)

/-- ITS FALSE NEIGHBOUR: 'it returns false'. Refute it at one input. -/
def numBackWrong : ChangeSpec := { name := "numBack", fn := fun _ => fun
  | [d] => { results := [.lit (.bool false)], args := [d] }
  | _ => none }
def NumBackWrongFalsely : Prop := numBackRow.holds Try.pinned (OpenSpec.ofChange numBackWrong)

/-- 'assartlaw01.NumSpoilt': WHATEVER THE INPUT: true; the input reads as it did. -/
def numSpoiltSpec : ChangeSpec := { name := "numSpoilt", fn := fun _ => fun
  | [d1, d2, d3] => { results := [.lit (.bool true)], args := [d1, d2, d3] }
  | _ => none }
def numSpoiltRow : OpenClaim := { program := "ytiklkokjoemokaa", sum := "4e1de37e73da4de5d89e81681c1af93380e8164f998321ef56921257f0a60ae5", func := "assart/assartlaw01.NumSpoilt", spec := "numSpoilt", apart := false }
def NumSpoiltSaid : Prop := numSpoiltRow.holds Try.pinned (OpenSpec.ofChange numSpoiltSpec)

/-- ITS FALSE NEIGHBOUR: 'it returns false'. Refute it at one input. -/
def numSpoiltWrong : ChangeSpec := { name := "numSpoilt", fn := fun _ => fun
  | [d1, d2, d3] => { results := [.lit (.bool false)], args := [d1, d2, d3] }
  | _ => none }
def NumSpoiltWrongFalsely : Prop := numSpoiltRow.holds Try.pinned (OpenSpec.ofChange numSpoiltWrong)

/-- 'assartlaw01.NumBytes': WHATEVER THE INPUT: true; the input reads as it did. -/
def numBytesSpec : ChangeSpec := { name := "numBytes", fn := fun _ => fun
  | [d1, d2] => { results := [.lit (.bool true)], args := [d1, d2] }
  | _ => none }
def numBytesRow : OpenClaim := { program := "ytiklkokjoemokaa", sum := "4e1de37e73da4de5d89e81681c1af93380e8164f998321ef56921257f0a60ae5", func := "assart/assartlaw01.NumBytes", spec := "numBytes", apart := false }
def NumBytesSaid : Prop := numBytesRow.holds Try.pinned (OpenSpec.ofChange numBytesSpec)

/-- ITS FALSE NEIGHBOUR: 'it returns false'. Refute it at one input. -/
def numBytesWrong : ChangeSpec := { name := "numBytes", fn := fun _ => fun
  | [d1, d2] => { results := [.lit (.bool false)], args := [d1, d2] }
  | _ => none }
def NumBytesWrongFalsely : Prop := numBytesRow.holds Try.pinned (OpenSpec.ofChange numBytesWrong)

/-- 'assartlaw01.NumSums': WHATEVER THE INPUT: true; the input reads as it did. -/
def numSumsSpec : ChangeSpec := { name := "numSums", fn := fun _ => fun
  | [d1, d2] => { results := [.lit (.bool true)], args := [d1, d2] }
  | _ => none }
def numSumsRow : OpenClaim := { program := "ytiklkokjoemokaa", sum := "4e1de37e73da4de5d89e81681c1af93380e8164f998321ef56921257f0a60ae5", func := "assart/assartlaw01.NumSums", spec := "numSums", apart := false }
def NumSumsSaid : Prop := numSumsRow.holds Try.pinned (OpenSpec.ofChange numSumsSpec)

/-- ITS FALSE NEIGHBOUR: 'it returns false'. Refute it at one input. -/
def numSumsWrong : ChangeSpec := { name := "numSums", fn := fun _ => fun
  | [d1, d2] => { results := [.lit (.bool false)], args := [d1, d2] }
  | _ => none }
def NumSumsWrongFalsely : Prop := numSumsRow.holds Try.pinned (OpenSpec.ofChange numSumsWrong)

/-- 'assartlaw06.TodoOn': WHATEVER THE INPUT: true; the input reads as it did. -/
def todoOnSpec : ChangeSpec := { name := "todoOn", fn := fun _ => fun
  | [d1, d2, d3] => { results := [.lit (.bool true)], args := [d1, d2, d3] }
  | _ => none }
def todoOnRow : OpenClaim := { program := "ytiklkokjoemokaa", sum := "4e1de37e73da4de5d89e81681c1af93380e8164f998321ef56921257f0a60ae5", func := "assart/assartlaw06.TodoOn", spec := "todoOn", unfollowed := true, recurses := true, apart := false }
def TodoOnSaid : Prop := todoOnRow.holds Try.pinned (OpenSpec.ofChange todoOnSpec)

/-- ITS FALSE NEIGHBOUR: 'it returns false'. Refute it at one input. -/
def todoOnWrong : ChangeSpec := { name := "todoOn", fn := fun _ => fun
  | [d1, d2, d3] => { results := [.lit (.bool false)], args := [d1, d2, d3] }
  | _ => none }
def TodoOnWrongFalsely : Prop := todoOnRow.holds Try.pinned (OpenSpec.ofChange todoOnWrong)

/- THE SECOND FORM. 'bulk': how many values and letters a reading holds, each counted each time it is reached (what is shared counts as often as it is met; a slice's spare places count too). A statement '..UptoSaid' is the law's where the arguments, and the package variables that the reading takes, are together of bulk at most 1048576: NARROWER than '..Said'. Prove '..Said' where nothing that the law and all that it calls make is longer than what came in: it says more and counts as full. Else prove '..UptoSaid'. A law counts once. -/
mutual
def uptoBulk {H : Type} : DataW H → Nat
  | .lit (.string bytes) => bytes.length + 1
  | .lit _ => 1
  | .nil => 1
  | .ptr d => uptoBulk d + 1
  | .slice elems spare => uptoBulkAll elems + uptoBulkAll spare + 1
  | .agg parts => uptoBulkAll parts + 1
  | .iface _ d => uptoBulk d + 1
  | .map entries => uptoBulkEntries entries + 1
  | .held _ => 1
def uptoBulkAll {H : Type} : List (DataW H) → Nat
  | [] => 0
  | d :: r => uptoBulk d + uptoBulkAll r
def uptoBulkEntries {H : Type} : List (Lit × DataW H) → Nat
  | [] => 0
  | x :: r => uptoBulkEntry x + uptoBulkEntries r
def uptoBulkEntry {H : Type} : Lit × DataW H → Nat
  | (.string bytes, d) => bytes.length + uptoBulk d + 1
  | (_, d) => uptoBulk d + 1
 end
def uptoSmall : (H : Type) → List (DataW H) → Bool := fun _ ds => decide (uptoBulkAll ds ≤ 1048576)
def OpenSpec.upto (s : _root_.Go.ChangeSpec) : _root_.Go.OpenSpec := { _root_.Go.OpenSpec.ofChange s with cond := some uptoSmall }

/-- 'assartlaw01.NumTells', WHERE WHAT IT READS IS OF BULK AT MOST 1048576: true; the input reads as it did. -/
def numTellsUptoRow : OpenClaim := { program := "ytiklkokjoemokaa", sum := "4e1de37e73da4de5d89e81681c1af93380e8164f998321ef56921257f0a60ae5", func := "assart/assartlaw01.NumTells", spec := "numTells", apart := false, narrowed := true }
def NumTellsUptoSaid : Prop := numTellsUptoRow.holds Try.pinned (OpenSpec.upto numTellsSpec)

/-- 'assartlaw01.NumSeals', WHERE WHAT IT READS IS OF BULK AT MOST 1048576: true; the input reads as it did. -/
def numSealsUptoRow : OpenClaim := { program := "ytiklkokjoemokaa", sum := "4e1de37e73da4de5d89e81681c1af93380e8164f998321ef56921257f0a60ae5", func := "assart/assartlaw01.NumSeals", spec := "numSeals", apart := false, narrowed := true }
def NumSealsUptoSaid : Prop := numSealsUptoRow.holds Try.pinned (OpenSpec.upto numSealsSpec)

/-- 'assartlaw01.NumBack', WHERE WHAT IT READS IS OF BULK AT MOST 1048576: true; the input reads as it did. -/
def numBackUptoRow : OpenClaim := { program := "ytiklkokjoemokaa", sum := "4e1de37e73da4de5d89e81681c1af93380e8164f998321ef56921257f0a60ae5", func := "assart/assartlaw01.NumBack", spec := "numBack", apart := false, narrowed := true }
def NumBackUptoSaid : Prop := numBackUptoRow.holds Try.pinned (OpenSpec.upto numBackSpec)

/-- 'assartlaw01.NumSpoilt', WHERE WHAT IT READS IS OF BULK AT MOST 1048576: true; the input reads as it did. -/
def numSpoiltUptoRow : OpenClaim := { program := "ytiklkokjoemokaa", sum := "4e1de37e73da4de5d89e81681c1af93380e8164f998321ef56921257f0a60ae5", func := "assart/assartlaw01.NumSpoilt", spec := "numSpoilt", apart := false, narrowed := true }
def NumSpoiltUptoSaid : Prop := numSpoiltUptoRow.holds Try.pinned (OpenSpec.upto numSpoiltSpec)

/-- 'assartlaw01.NumBytes', WHERE WHAT IT READS IS OF BULK AT MOST 1048576: true; the input reads as it did. -/
def numBytesUptoRow : OpenClaim := { program := "ytiklkokjoemokaa", sum := "4e1de37e73da4de5d89e81681c1af93380e8164f998321ef56921257f0a60ae5", func := "assart/assartlaw01.NumBytes", spec := "numBytes", apart := false, narrowed := true }
def NumBytesUptoSaid : Prop := numBytesUptoRow.holds Try.pinned (OpenSpec.upto numBytesSpec)

/-- 'assartlaw01.NumSums', WHERE WHAT IT READS IS OF BULK AT MOST 1048576: true; the input reads as it did. -/
def numSumsUptoRow : OpenClaim := { program := "ytiklkokjoemokaa", sum := "4e1de37e73da4de5d89e81681c1af93380e8164f998321ef56921257f0a60ae5", func := "assart/assartlaw01.NumSums", spec := "numSums", apart := false, narrowed := true }
def NumSumsUptoSaid : Prop := numSumsUptoRow.holds Try.pinned (OpenSpec.upto numSumsSpec)

/-- 'assartlaw06.TodoOn', WHERE WHAT IT READS IS OF BULK AT MOST 1048576: true; the input reads as it did. -/
def todoOnUptoRow : OpenClaim := { program := "ytiklkokjoemokaa", sum := "4e1de37e73da4de5d89e81681c1af93380e8164f998321ef56921257f0a60ae5", func := "assart/assartlaw06.TodoOn", spec := "todoOn", unfollowed := true, recurses := true, apart := false, narrowed := true }
def TodoOnUptoSaid : Prop := todoOnUptoRow.holds Try.pinned (OpenSpec.upto todoOnSpec)

end Rows
end Go.Proofs.Ytiklkokjoemokaa
