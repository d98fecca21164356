/- NumTells: numbers as bytes, numbers that stand anywhere, and check sums, are as the document says: for every number, width and place, and every row of at most 1000 bytes. -/
import Derived.Test.YtiklkokjoemokaaQNumTells
import Derived.Test.YtiklkokjoemokaaPRef
namespace Go.Proofs.Ytiklkokjoemokaa.Pure
open Go.RowKit Go.Proofs.Ytiklkokjoemokaa.P Go.Proofs.YtiklkokjoemokaaW.PrintWords Go.Proofs.YtiklkokjoemokaaW.PrintLast

theorem wf_bytes {l : List Int} (h : ∀ x ∈ l, (Lit.int .u8 x).wf = true) : ∀ x ∈ l, 0 ≤ x ∧ x < 256 := by
  intro x hx
  have := h x hx
  simp [Lit.wf, IntKind.min, IntKind.max, IntKind.signed, IntKind.bits] at this
  omega
theorem take_any (k : Nat) (l : List Int) (a w : Int) (hl : l.length ≤ 1000) (hb : ∀ x ∈ l, 0 ≤ x ∧ x < 256) (hw : -9223372036854775808 ≤ w) : ∃ r, num_Take.f (k + 6) l a w = some r ∧ assartref01_Take.f (k + 6) l a w = some r := by
  by_cases h : 1 ≤ w ∧ w ≤ 4 ∧ 0 ≤ a ∧ a + w ≤ l.length
  · exact ⟨_, Take_val k l a w (by omega) hb h.1 h.2.1 h.2.2.1 h.2.2.2, refTake_val k l a w (by omega) hb h.1 h.2.1 h.2.2.1 h.2.2.2⟩
  · exact ⟨_, Take_none k l a w (by omega) hw h, refTake_none k l a w (by omega) h⟩
theorem put_any (k : Nat) (n w : Int) : ∃ r, num_Put.f (k + 6) n w = some r ∧ assartref01_Put.f (k + 6) n w = some r ∧ r.length ≤ 4 := by
  by_cases h : 1 ≤ w ∧ w ≤ 4 ∧ 0 ≤ n ∧ n < 256 ^ w.toNat
  · exact ⟨_, Put_val k n w h.1 h.2.1 h.2.2.1 h.2.2.2, refPut_val k n w h.1 h.2.1 h.2.2.1 h.2.2.2, by rw [le, List.length_take]; simp [le4]; omega⟩
  · exact ⟨_, Put_none k n w h, refPut_none k n w h, by simp⟩
theorem NumTells : assartlaw01_NumTells.QPure := by
  intro n w l a _ hw ⟨_, hwf⟩ _
  have hb := wf_bytes hwf
  have hw' : -9223372036854775808 ≤ w := by
    simp [Lit.wf, IntKind.min, IntKind.max, IntKind.signed, IntKind.bits] at hw
    omega
  refine ⟨20000 + 6, ?_⟩
  have hsh : assartlaw01_shown.f = some true := rfl
  unfold assartlaw01_NumTells.f
  rw [hsh, Option.bind_some]
  by_cases h1 : (l.length : Int) > 1000
  · rw [if_pos h1]
  · rw [if_neg h1]
    obtain ⟨⟨x, y, z⟩, ht1, ht2⟩ := take_any 20000 l a w (by omega) hb hw'
    obtain ⟨p, hp1, hp2, hpl⟩ := put_any 20000 n w
    have hs : num_Sum.f l = some (crc l) := by unfold num_Sum.f crc; rw [if_pos (by omega)]
    rw [ht1, ht2, Option.bind_some, Option.bind_some, if_pos rfl, hp1, hp2, Option.bind_some, Option.bind_some, Row_val _ _ (by omega) _ (by omega), Option.bind_some, decide_eq_true rfl, if_pos rfl, if_pos rfl, if_pos rfl, if_pos rfl, hs, refSum_val l (by omega) hb _ (by omega), Option.bind_some, Option.bind_some]
    simp
end Go.Proofs.Ytiklkokjoemokaa.Pure
