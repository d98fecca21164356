/- NumSeals: sealed blocks, and what is in them, are as the document says: for every row of at most 1000 bytes and every text of at most 1000. -/
import Derived.Test.YtiklkokjoemokaaF4
import Derived.Test.YtiklkokjoemokaaPRef
namespace Go.Proofs.Ytiklkokjoemokaa.Pure
open Go.RowKit Go.Proofs.Ytiklkokjoemokaa.P Go.Proofs.YtiklkokjoemokaaW.PrintWords Go.Proofs.YtiklkokjoemokaaW.PrintLast

theorem wf_byte {l : List Int} (h : ∀ x ∈ l, (Lit.int .u8 x).wf = true) : ∀ x ∈ l, 0 ≤ x ∧ x < 256 := by
  intro x hx
  have := h x hx
  simp [Lit.wf, IntKind.min, IntKind.max, IntKind.signed, IntKind.bits] at this
  omega

theorem NumSeals : assartlaw01_NumSeals.Pure := by
  intro l a hm hm1 hwf ha
  have hb := wf_byte hwf
  refine ⟨1000 + 1, ?_⟩
  have hsh : assartlaw01_shown.f = some true := rfl
  unfold assartlaw01_NumSeals.f
  rw [hsh, Option.bind_some]
  by_cases h1 : (l.length : Int) > 1000
  · rw [if_pos h1]; rfl
  · rw [if_neg h1]
    by_cases h2 : (a.size : Int) > 1000
    · rw [decide_eq_true h2]; rfl
    · rw [decide_eq_false h2]
      simp only [assartlaw01_NumSeals.j0]
      rw [if_neg (by decide), refSeal_val l (by omega) hb 1000 (by omega)]
      obtain ⟨s, hs⟩ : ∃ s, num_Seal.f l = some s := by unfold num_Seal.f; split <;> exact ⟨_, rfl⟩
      obtain ⟨o, ho⟩ : ∃ o, num_Open.f a = some o := by unfold num_Open.f; split <;> exact ⟨_, rfl⟩
      have hol : o.1.length ≤ 36 := by
        unfold num_Open.f at ho
        split at ho
        · injection ho with ho; rw [← ho]; exact List.length_take_le _ _
        · injection ho with ho; rw [← ho]; simp
      have ho2 : assartref01_Open.f a = some o := ho
      rw [hs, ho, ho2]
      rw [Option.bind_some, Option.bind_some, Option.bind_some, Option.bind_some, if_pos rfl, if_pos rfl, if_pos trivial, Row_val _ _ (by omega) _ (by omega), Option.bind_some]
      simp
end Go.Proofs.Ytiklkokjoemokaa.Pure
