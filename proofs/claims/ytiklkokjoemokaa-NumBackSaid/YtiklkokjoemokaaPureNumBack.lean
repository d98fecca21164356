/- NumBack: what is put is taken, whatever stands around; what is sealed is opened, and has noughts behind; what is opened, sealed, is it: for every number and width, rows of at most 500 bytes, texts of at most 1000. -/
import Derived.Test.YtiklkokjoemokaaQNumBack
import Derived.Test.YtiklkokjoemokaaPRef
namespace Go.Proofs.Ytiklkokjoemokaa.Pure
open Go.RowKit Go.Proofs.Ytiklkokjoemokaa.P Go.Proofs.YtiklkokjoemokaaW.PrintWords Go.Proofs.YtiklkokjoemokaaW.PrintLast

theorem wf_bytes3 {l : List Int} (h : ∀ x ∈ l, (Lit.int .u8 x).wf = true) : ∀ x ∈ l, 0 ≤ x ∧ x < 256 := by
  intro x hx
  have := h x hx
  simp [Lit.wf, IntKind.min, IntKind.max, IntKind.signed, IntKind.bits] at this
  omega
theorem le_len (n w : Int) (h1 : 1 ≤ w) (h4 : w ≤ 4) : ((le n w).length : Int) = w := by
  unfold le
  rw [List.length_take]
  simp [le4]
  omega
theorem le_bd (n w : Int) : ∀ x ∈ le n w, 0 ≤ x ∧ x < 256 := by
  intro x hx
  have hx : x ∈ le4 n := List.mem_of_mem_take hx
  simp only [le4, List.mem_cons, List.not_mem_nil, or_false] at hx
  rcases hx with rfl | rfl | rfl | rfl <;> omega
theorem rd_mid (a p b : List Int) (i : Nat) (h : i < p.length) : rd (a ++ p ++ b) ((a.length : Int) + i) = rd p i := by
  simp only [rd, List.getD_eq_getElem?_getD]
  rw [show ((a.length : Int) + i).toNat = a.length + i by omega, Int.toNat_natCast, List.getElem?_append_left (by simp; omega), List.getElem?_append_right (by omega)]
  simp
theorem lev_mid (a b : List Int) (n w : Int) (h1 : 1 ≤ w) (h4 : w ≤ 4) (h0 : 0 ≤ n) (hn : n < 256 ^ w.toNat) : lev (a ++ le n w ++ b) (a.length : Int) w = n := by
  have hl := le_len n w h1 h4
  have r0 : rd (a ++ le n w ++ b) (a.length : Int) = rd (le n w) 0 := by
    have := rd_mid a (le n w) b 0 (by omega)
    simpa using this
  have r1 : 1 < w → rd (a ++ le n w ++ b) ((a.length : Int) + 1) = rd (le n w) 1 := fun h => rd_mid a (le n w) b 1 (by omega)
  have r2 : 2 < w → rd (a ++ le n w ++ b) ((a.length : Int) + 2) = rd (le n w) 2 := fun h => rd_mid a (le n w) b 2 (by omega)
  have r3 : 3 < w → rd (a ++ le n w ++ b) ((a.length : Int) + 3) = rd (le n w) 3 := fun h => rd_mid a (le n w) b 3 (by omega)
  rcases pow4 h1 h4 with rfl | rfl | rfl | rfl
  · simp at hn
    simp only [lev, r0]
    simp [le, le4, rd]
    omega
  · have r1 := r1 (by omega)
    simp at hn
    simp only [lev, r0, r1]
    simp [le, le4, rd]
    omega
  · have r1 := r1 (by omega)
    have r2 := r2 (by omega)
    simp at hn
    simp only [lev, r0, r1, r2]
    simp [le, le4, rd]
    omega
  · have r1 := r1 (by omega)
    have r2 := r2 (by omega)
    have r3 := r3 (by omega)
    simp at hn
    simp only [lev, r0, r1, r2, r3]
    simp [le, le4, rd]
    omega
theorem NumBack : assartlaw01_NumBack.QPure := by
  intro n w l2 l3 a4 hn hw ⟨_, h2⟩ ⟨_, h3⟩ _
  have h2 := wf_bytes3 h2
  have h3 := wf_bytes3 h3
  unfold assartlaw01_NumBack.f
  split
  · rename_i hl
    have hask : NumBack_asks n w l2 l3 := by
      refine ⟨h3, ?_⟩
      by_cases h : 1 ≤ w ∧ w ≤ 4 ∧ 0 ≤ n ∧ n < 256 ^ w.toNat
      · obtain ⟨h1, h4, h0, hlt⟩ := h
        have hle := le_len n w h1 h4
        refine ⟨le n w, Put_val 0 n w h1 h4 h0 hlt, by omega, fun _ => ⟨hle, ?_⟩⟩
        have hb : ∀ x ∈ l2 ++ le n w ++ l3, 0 ≤ x ∧ x < 256 := by
          intro x hx
          simp only [List.mem_append] at hx
          rcases hx with (hx | hx) | hx
          · exact h2 x hx
          · exact le_bd n w x hx
          · exact h3 x hx
        have hll : (l2 ++ le n w ++ l3).length = l2.length + (le n w).length + l3.length := by simp only [List.length_append]
        have := Take_val 0 (l2 ++ le n w ++ l3) (l2.length : Int) w (by omega) hb h1 h4 (by omega) (by omega)
        rw [lev_mid l2 l3 n w h1 h4 h0 hlt] at this
        exact this
      · exact ⟨[], Put_none 0 n w h, by simp, fun h => absurd h (by simp)⟩
    rw [if_pos hask]
  · rfl
end Go.Proofs.Ytiklkokjoemokaa.Pure
