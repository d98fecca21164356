/- NumBytes: a number's bytes are the number by their places; as many bytes, or more, tell it too; one that is greater by one has other bytes: for every number of 32 bits and every width. -/
import Derived.Test.YtiklkokjoemokaaF7
import Derived.Test.YtiklkokjoemokaaPRef
namespace Go.Proofs.Ytiklkokjoemokaa.Pure
set_option linter.unusedVariables false
open Go.RowKit Go.Proofs.Ytiklkokjoemokaa.P Go.Proofs.YtiklkokjoemokaaW.PrintWords Go.Proofs.YtiklkokjoemokaaW.PrintLast

theorem le4_bd (n : Int) : ∀ x ∈ le4 n, 0 ≤ x ∧ x < 256 := by
  intro x hx
  simp only [le4, List.mem_cons, List.not_mem_nil, or_false] at hx
  rcases hx with rfl | rfl | rfl | rfl <;> omega
theorem le4_at (n : Int) (i : Int) (h : i = 0 ∨ i = 1 ∨ i = 2 ∨ i = 3) : rd (le4 n) i = n / 256 ^ i.toNat % 256 := by
  rcases h with rfl | rfl | rfl | rfl <;> simp [rd, le4]
theorem le_four (n : Int) : le n 4 = le4 n := rfl
theorem le4_len (n : Int) : (le4 n).length = 4 := rfl
theorem le4_inj {m n : Int} (h0 : 0 ≤ m) (h1 : m < 4294967296) (h2 : 0 ≤ n) (h3 : n < 4294967296) (h : le4 m = le4 n) : m = n := by
  simp only [le4, List.cons.injEq, and_true] at h
  omega
theorem take_one (k : Nat) (n i : Int) (h0 : 0 ≤ i) (h4 : i < 4) : num_Take.f (k + 6) (le4 n) i 1 = some (rd (le4 n) i, i + 1, 0) := by
  rw [Take_val k (le4 n) i 1 (by rw [le4_len]; omega) (le4_bd n) (by omega) (by omega) h0 (by rw [le4_len]; omega)]
  simp [lev]
theorem step (k : Nat) (n w s b i s' b' : Int) (h0 : 0 ≤ i) (h4 : i < 4) (hs : s + b * rd (le4 n) i = s') (hb : b * 256 = b') (c1 : 0 ≤ b * rd (le4 n) i) (c2 : b * rd (le4 n) i ≤ 9223372036854775807) (c3 : 0 ≤ s') (c4 : s' ≤ 9223372036854775807) (c5 : 0 ≤ b') (c6 : b' ≤ 9223372036854775807) :
    assartlaw01_NumBytes.l0 (k + 6 + 1) n w true (le4 n) s b i = assartlaw01_NumBytes.l0 (k + 6) n w true (le4 n) s' b' (i + 1) := by
  simp only [assartlaw01_NumBytes.l0]
  rw [if_pos h4, take_one k n i h0 h4, Option.bind_some, if_pos rfl, w64 (x := b * rd (le4 n) i) (by omega) c2, hs, hb, w64 (by omega) c4, w64 (by omega) c6, w64 (by omega) (by omega)]
theorem lev_low (n w : Int) (h0 : 0 ≤ n) (h1 : 1 ≤ w) (h3 : w ≤ 3) : lev (le4 n) 0 w = n % 256 ^ w.toNat := by
  have r0 := le4_at n 0 (by omega)
  have r1 := le4_at n 1 (by omega)
  have r2 := le4_at n 2 (by omega)
  simp at r0 r1 r2
  rcases (show w = 1 ∨ w = 2 ∨ w = 3 by omega) with rfl | rfl | rfl
  · simp [lev, r0]
  · simp [lev, r0, r1]; omega
  · simp [lev, r0, r1, r2]; omega
theorem le_low (n w : Int) (h0 : 0 ≤ n) (h1 : 1 ≤ w) (h3 : w ≤ 3) : le (n % 256 ^ w.toNat) w = (le4 n).take w.toNat := by
  rcases (show w = 1 ∨ w = 2 ∨ w = 3 by omega) with rfl | rfl | rfl
  · simp [le, le4]
  · simp [le, le4]; omega
  · simp [le, le4]; omega
theorem last (k : Nat) (hk : 100 ≤ k) (n w : Int) (h0 : 0 ≤ n) (h1 : n < 4294967296) (hw1 : 1 ≤ w) (hw3 : w ≤ 3) (b : Int) : assartlaw01_NumBytes.l0 (k + 6 + 1) n w true (le4 n) n b 4 = some true := by
  have hl := le4_len n
  have hpos : 0 ≤ n % 256 ^ w.toNat ∧ n % 256 ^ w.toNat < 256 ^ w.toNat := by
    rcases (show w = 1 ∨ w = 2 ∨ w = 3 by omega) with rfl | rfl | rfl <;> simp <;> omega
  have ed : Int.tdiv n 2 = n / 2 := Int.tdiv_eq_ediv_of_nonneg h0
  have hne : ¬ le4 (n / 2) = le4 (n / 2 + 1) := fun h => by
    have := le4_inj (by omega) (by omega) (by omega) (by omega) h
    omega
  simp only [assartlaw01_NumBytes.l0]
  rw [if_neg (by omega), Take_val k (le4 n) 0 w (by omega) (le4_bd n) hw1 (by omega) (by omega) (by omega), Option.bind_some, lev_low n w h0 hw1 hw3, Put_val k _ w hw1 (by omega) hpos.1 hpos.2, Option.bind_some, le_low n w h0 hw1 hw3]
  rw [if_pos trivial, w64 (by omega) (by omega), if_pos rfl, if_pos rfl, if_pos (by show 0 + w = w; omega), if_pos (by omega), if_pos (by omega), Row_val _ _ (by rw [List.length_take]; omega) _ (by rw [List.length_take]; omega), Option.bind_some]
  rw [decide_eq_true rfl, if_pos rfl, ed, w64 (x := n / 2) (by omega) (by omega), w64 (x := n / 2 + 1) (by omega) (by omega), Put_val k _ 4 (by omega) (by omega) (by omega) (by simp; omega), Option.bind_some, Put_val k _ 4 (by omega) (by omega) (by omega) (by simp; omega), Option.bind_some, le_four, le_four, Row_val _ _ (by rw [le4_len]; omega) _ (by rw [le4_len]; omega), Option.bind_some, decide_eq_false hne]
  rfl
theorem NumBytes : assartlaw01_NumBytes.Pure := by
  intro n w hn hw
  have hn' : 0 ≤ n ∧ n < 4294967296 := by
    simp [Lit.wf, IntKind.min, IntKind.max, IntKind.signed, IntKind.bits] at hn
    omega
  obtain ⟨h0, h1⟩ := hn'
  refine ⟨1000 + 6 + 1, ?_⟩
  have hsh : assartlaw01_shown.f = some true := rfl
  unfold assartlaw01_NumBytes.f
  rw [hsh, Option.bind_some]
  by_cases hw1 : w < 1
  · rw [if_pos hw1]; simp only [assartlaw01_NumBytes.j0]; rfl
  · rw [if_neg hw1]
    by_cases hw3 : w > 3
    · rw [decide_eq_true hw3]; simp only [assartlaw01_NumBytes.j0]; rfl
    · rw [decide_eq_false hw3]
      simp only [assartlaw01_NumBytes.j0]
      rw [if_neg (by decide), w64 (by omega) (by omega), Put_val 1000 n 4 (by omega) (by omega) h0 (by simpa using h1), Option.bind_some, le_four, if_pos (by rw [le4_len]; rfl)]
      have r0 := le4_at n 0 (by omega)
      have r1 := le4_at n 1 (by omega)
      have r2 := le4_at n 2 (by omega)
      have r3 := le4_at n 3 (by omega)
      simp at r0 r1 r2 r3
      refine (step 999 n w 0 1 0 (n % 256) 256 (by omega) (by omega) (by omega) (by omega) (by omega) (by omega) (by omega) (by omega) (by omega) (by omega)).trans ?_
      refine (step 998 n w _ 256 (0 + 1) (n % 65536) 65536 (by omega) (by omega) (by rw [show (0 : Int) + 1 = 1 from rfl, r1]; omega) (by omega) (by rw [show (0 : Int) + 1 = 1 from rfl]; omega) (by rw [show (0 : Int) + 1 = 1 from rfl]; omega) (by omega) (by omega) (by omega) (by omega)).trans ?_
      refine (step 997 n w _ 65536 (0 + 1 + 1) (n % 16777216) 16777216 (by omega) (by omega) (by rw [show (0 : Int) + 1 + 1 = 2 from rfl, r2]; omega) (by omega) (by rw [show (0 : Int) + 1 + 1 = 2 from rfl]; omega) (by rw [show (0 : Int) + 1 + 1 = 2 from rfl]; omega) (by omega) (by omega) (by omega) (by omega)).trans ?_
      refine (step 996 n w _ 16777216 (0 + 1 + 1 + 1) n 4294967296 (by omega) (by omega) (by rw [show (0 : Int) + 1 + 1 + 1 = 3 from rfl, r3]; omega) (by omega) (by rw [show (0 : Int) + 1 + 1 + 1 = 3 from rfl]; omega) (by rw [show (0 : Int) + 1 + 1 + 1 = 3 from rfl]; omega) (by omega) (by omega) (by omega) (by omega)).trans ?_
      exact last 995 (by omega) n w h0 h1 (by omega) (by omega) _
end Go.Proofs.Ytiklkokjoemokaa.Pure
