-- Written by a program of this session (xprint.py, over the kit's print). Not trusted: Lean checks it.
import Derived.Test.YtiklkokjoemokaaHNumBack
import Derived.Test.YtiklkokjoemokaaHRow
namespace Go.Proofs.Ytiklkokjoemokaa.P
open Go.RowKit Go.Proofs.YtiklkokjoemokaaW.PrintWords Go.Proofs.YtiklkokjoemokaaW.PrintLast Go.Proofs.YtiklkokjoemokaaW.PrintMore
attribute [local go_sem] max2_int min2_int max_two min_two max_three min_three max_four min_four   -- for this text's walks alone
set_option linter.unusedVariables false
set_option linter.unusedSimpArgs false

def assartlaw01_NumBack.QPure : Prop := ∀ (a0_0 : Int) (a0_1 : Int) (l0_2 : List Int) (l0_3 : List Int) (a0_4 : ByteArray), ((Lit.int .i64 a0_0).wf = true) → ((Lit.int .i64 a0_1).wf = true) → (l0_2.length * 1 ≤ 140737488351232 ∧ ∀ x ∈ l0_2, (fun x => (Lit.int .u8 x).wf = true) x) → (l0_3.length * 1 ≤ 140737488351232 ∧ ∀ x ∈ l0_3, (fun x => (Lit.int .u8 x).wf = true) x) → (a0_4.size ≤ 140737488351232) → assartlaw01_NumBack.f a0_0 a0_1 l0_2 l0_3 a0_4 = some true
end Go.Proofs.Ytiklkokjoemokaa.P
