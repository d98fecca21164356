/- SlotBlocks: two that are right have the same block just if they are the same; what is picked of a block and itself is the first one; blocks have 40 bytes. -/
import Derived.Test.YthjnkapkhphpeaaQSlotBlocks
import Derived.Test.YthjnkapkhphpeaaPSlot
import Derived.Test.YthjnkapkhphpeaaHShown3
namespace Go.Proofs.Ythjnkapkhphpeaa.Pure
open Go.RowKit Go.Proofs.Ythjnkapkhphpeaa.P Go.Proofs.YthjnkapkhphpeaaW.PrintWords Go.Proofs.YthjnkapkhphpeaaW.PrintLast

theorem SlotBlocks : assartlaw03_SlotBlocks.QPure := by
  intro g s m g' s' m' _ _ _ _ _ _
  refine ⟨1 + 1, ?_⟩
  unfold assartlaw03_SlotBlocks.f
  rw [shown_val, Option.bind_some, refRight_val, Option.bind_some]
  by_cases h : Rt g s m
  · rw [decide_eq_true h, if_pos rfl, refRight_val, Option.bind_some]
    by_cases h' : Rt g' s' m'
    · rw [decide_eq_true h']
      simp only [assartlaw03_SlotBlocks.j0]
      rw [if_neg (by simp), print_ok h, Option.bind_some, print_ok h', Option.bind_some]
      simp only []
      rw [pick_val 0 (parse_blk h) (parse_blk h), Option.bind_some, blk_size]
      have hr : slot_Right.f g s m = some true := (right_iff _ _ _).2 h
      have hb : ((blk g s m).toList == (blk g' s' m').toList) = (g == g' && (s == s' && (m == m'))) := by
        by_cases he : blk g s m = blk g' s' m'
        · have hp := parse_blk h
          rw [he, parse_blk h'] at hp
          simp only [Option.some.injEq, Prod.mk.injEq] at hp
          obtain ⟨rfl, rfl, rfl, _⟩ := hp
          simp
        · have : ((blk g s m).toList == (blk g' s' m').toList) = false := by
            rw [beq_eq_false_iff_ne]
            exact fun h => he (toList_inj h)
          rw [this]
          by_cases e1 : g = g'
          · by_cases e2 : s = s'
            · by_cases e3 : m = m'
              · subst e1 e2 e3
                exact absurd rfl he
              · simp [e3]
            · simp [e2]
          · simp [e1]
      rw [hb]
      simp [hr]
    · rw [decide_eq_false h']
      simp only [assartlaw03_SlotBlocks.j0]
      rfl
  · rw [decide_eq_false h]
    simp only [assartlaw03_SlotBlocks.j0]
    rfl
end Go.Proofs.Ythjnkapkhphpeaa.Pure
