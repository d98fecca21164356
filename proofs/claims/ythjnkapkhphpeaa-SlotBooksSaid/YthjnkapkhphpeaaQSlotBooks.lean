-- Written by a program of this session (xprint.py, over the kit's print). Not trusted: Lean checks it.
import Derived.Test.YthjnkapkhphpeaaF6
import Derived.Test.YthjnkapkhphpeaaHRow
namespace Go.Proofs.Ythjnkapkhphpeaa.P
open Go.RowKit Go.Proofs.YthjnkapkhphpeaaW.PrintWords Go.Proofs.YthjnkapkhphpeaaW.PrintLast Go.Proofs.YthjnkapkhphpeaaW.PrintMore
attribute [local go_sem] max2_int min2_int max_two min_two max_three min_three max_four min_four   -- for this text's walks alone
set_option linter.unusedVariables false
set_option linter.unusedSimpArgs false

def assartlaw03_SlotBooks.QPure : Prop := ∀ (l0_0 : List Int) (a0_1 : Int) (a0_2 : Int) (a0_3 : Int), (l0_0.length * 1 ≤ 140737488351232 ∧ ∀ x ∈ l0_0, (fun x => (Lit.int .u8 x).wf = true) x) → ((Lit.int .u16 a0_1).wf = true) → ((Lit.int .u8 a0_2).wf = true) → ((Lit.int .u8 a0_3).wf = true) → ∃ k, assartlaw03_SlotBooks.f k l0_0 a0_1 a0_2 a0_3 = some true
end Go.Proofs.Ythjnkapkhphpeaa.P
