/- SlotPicks: of two the later one counts, in whichever block; a spoilt one never; the one that counts is what its block tells: shown in the walk (HSlotPicks). -/
import Derived.Test.YthjnkapkhphpeaaQSlotPicks
namespace Go.Proofs.Ythjnkapkhphpeaa.Pure
open Go.RowKit Go.Proofs.Ythjnkapkhphpeaa.P Go.Proofs.YthjnkapkhphpeaaW.PrintWords Go.Proofs.YthjnkapkhphpeaaW.PrintLast

theorem SlotPicks : assartlaw03_SlotPicks.QPure := fun _ _ _ _ _ _ _ _ _ _ _ _ _ _ => rfl
end Go.Proofs.Ythjnkapkhphpeaa.Pure
