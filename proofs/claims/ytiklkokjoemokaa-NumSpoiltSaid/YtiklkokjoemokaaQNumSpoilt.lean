-- Written by a program of this session (xprint.py, over the kit's print). Not trusted: Lean checks it.
import Derived.Test.YtiklkokjoemokaaHNumSpoilt
import Derived.Test.YtiklkokjoemokaaHRow
namespace Go.Proofs.Ytiklkokjoemokaa.P
open Go.RowKit Go.Proofs.YtiklkokjoemokaaW.PrintWords Go.Proofs.YtiklkokjoemokaaW.PrintLast Go.Proofs.YtiklkokjoemokaaW.PrintMore
attribute [local go_sem] max2_int min2_int max_two min_two max_three min_three max_four min_four   -- for this text's walks alone
set_option linter.unusedVariables false
set_option linter.unusedSimpArgs false

def assartlaw01_NumSpoilt.QPure : Prop := ∀ (l0 : List Int) (a1 : Int) (a2 : Int), (l0.length * 1 ≤ 140737488351232 ∧ ∀ x ∈ l0, (fun x => (Lit.int .u8 x).wf = true) x) → ((Lit.int .u16 a1).wf = true) → ((Lit.int .u32 a2).wf = true) → assartlaw01_NumSpoilt.f l0 a1 a2 = some true
end Go.Proofs.Ytiklkokjoemokaa.P
