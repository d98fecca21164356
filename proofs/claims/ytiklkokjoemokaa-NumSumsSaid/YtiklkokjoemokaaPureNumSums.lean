/- NumSums: the sum of bytes with a byte more hangs on the sum, and that byte, alone: for every two rows of at most 500 bytes. -/
import Derived.Test.YtiklkokjoemokaaQNumSums
import Derived.Test.YtiklkokjoemokaaPCrc
namespace Go.Proofs.Ytiklkokjoemokaa.Pure
open Go.RowKit Go.Proofs.Ytiklkokjoemokaa.P Go.Proofs.YtiklkokjoemokaaW.PrintWords Go.Proofs.YtiklkokjoemokaaW.PrintLast

theorem wf_bytes2 {l : List Int} (h : ∀ x ∈ l, (Lit.int .u8 x).wf = true) : ∀ x ∈ l, 0 ≤ x ∧ x < 256 := by
  intro x hx
  have := h x hx
  simp [Lit.wf, IntKind.min, IntKind.max, IntKind.signed, IntKind.bits] at this
  omega
theorem NumSums : assartlaw01_NumSums.QPure := by
  intro l m ⟨_, hl⟩ ⟨_, hm⟩
  have hl := wf_bytes2 hl
  have hm := wf_bytes2 hm
  unfold assartlaw01_NumSums.f
  split
  · have h1 := sums_same l [] hl (by simp)
    simp only [List.append_nil] at h1
    rw [if_pos ⟨h1, sums_same l m hl hm⟩]
  · rfl
end Go.Proofs.Ytiklkokjoemokaa.Pure
