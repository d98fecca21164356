/- The plain laws of slot: what is printed, parsed and picked. -/
import Derived.Test.YthjnkapkhphpeaaF20
import Derived.Test.YthjnkapkhphpeaaF25
import Derived.Test.YthjnkapkhphpeaaHSParse
import Derived.Test.YthjnkapkhphpeaaPCrc
namespace Go.Proofs.Ythjnkapkhphpeaa.P
open Go.RowKit Go.Proofs.YthjnkapkhphpeaaW.PrintWords Go.Proofs.YthjnkapkhphpeaaW.PrintLast Go.Proofs.YthjnkapkhphpeaaW.PrintMore
set_option linter.unusedVariables false
set_option linter.unusedSimpArgs false
theorem toList_inj {x y : ByteArray} (h : x.toList = y.toList) : x = y := by
  rw [ByteArray.toList_eq, ByteArray.toList_eq] at h
  cases x; cases y
  simp at h
  rw [h]
abbrev Rt (g s m : Int) : Prop := 1 ≤ g ∧ g ≤ 2147483647 ∧ 0 ≤ s ∧ s ≤ 2147483647 ∧ 0 ≤ m ∧ m < 4294967296
def blk (g s m : Int) : ByteArray := strOfNums (pad (slot_Print.row g s m) ++ le (crc (pad (slot_Print.row g s m))) 4)
theorem row_eq (g s m : Int) : slot_Print.row g s m = 97 :: 115 :: (le4 g ++ le4 s ++ le4 m) := by simp [slot_Print.row, le, le4]
theorem row_len (g s m : Int) : (slot_Print.row g s m).length = 14 := by simp [row_eq, le4]
theorem row_bd (g s m : Int) : ∀ x ∈ slot_Print.row g s m, 0 ≤ x ∧ x < 256 := by
  intro x hx
  simp only [row_eq, le4, List.mem_cons, List.mem_append, List.not_mem_nil, or_false] at hx
  omega
theorem print_ok {g s m : Int} (h : Rt g s m) : slot_Print.f g s m = some (blk g s m, 0) := by
  unfold slot_Print.f
  rw [if_pos ((right_iff _ _ _).2 h)]
  unfold num_Seal.f
  rw [if_neg (by rw [row_len]; omega)]
  rfl
theorem print_bad {g s m : Int} (h : ¬ Rt g s m) : slot_Print.f g s m = some (⟨#[]⟩, 1) := by
  unfold slot_Print.f
  rw [if_neg fun hr => h ((right_iff _ _ _).1 hr)]
theorem open_blk (g s m : Int) : num_Open.f (blk g s m) = some (pad (slot_Print.row g s m), 0) := open_seal (by rw [row_len]; omega) (row_bd g s m)
theorem blk_size (g s m : Int) : (blk g s m).size = 40 := seal_size (by rw [row_len]; omega)
theorem lev_row {g s m : Int} (h : Rt g s m) : lev (pad (slot_Print.row g s m)) 2 4 = g ∧ lev (pad (slot_Print.row g s m)) 6 4 = s ∧ lev (pad (slot_Print.row g s m)) 10 4 = m := by
  unfold Rt at h
  simp [row_eq, le4, pad, lev, rd]
  omega
theorem prefix_of (T : List Int) : strings_HasPrefix.f (strOfNums (97 :: 115 :: T)) ⟨#[97, 115]⟩ = some true := by
  have hs : (strOfNums (97 :: 115 :: T)).size = T.length + 2 := by simp [strOfNums, ByteArray.size]
  have h2 : ((⟨#[97, 115]⟩ : ByteArray).size : Int) = 2 := rfl
  unfold strings_HasPrefix.f stringslite_HasPrefix.f
  rw [h2, hs, if_pos (by omega), if_pos (by omega), if_pos (by omega)]
  simp [ByteArray.toList_eq, strOfNums]
theorem prefix_blk (g s m : Int) : strings_HasPrefix.f (blk g s m) ⟨#[97, 115]⟩ = some true := by
  unfold blk pad
  rw [row_eq]
  simp only [List.cons_append]
  exact prefix_of _
theorem prefix_any (b : ByteArray) : ∃ p, strings_HasPrefix.f b ⟨#[97, 115]⟩ = some p := by
  have h2 : ((⟨#[97, 115]⟩ : ByteArray).size : Int) = 2 := rfl
  unfold strings_HasPrefix.f stringslite_HasPrefix.f
  rw [h2]
  by_cases h : (b.size : Int) ≥ 2
  · rw [if_pos h, if_pos (by omega), if_pos h]
    exact ⟨_, rfl⟩
  · rw [if_neg h]
    exact ⟨_, rfl⟩
theorem parse_blk {g s m : Int} (h : Rt g s m) : slot_Parse.f (blk g s m) = some (g, s, m, 0) := by
  obtain ⟨h1, h2, h3⟩ := lev_row h
  unfold slot_Parse.f
  rw [open_blk, Option.bind_some, prefix_blk, Option.bind_some, if_pos ⟨rfl, rfl⟩]
  simp only [h1, h2, h3]
  rw [print_ok h, Option.bind_some, if_pos ⟨rfl, rfl⟩]
theorem parse_cases (b : ByteArray) : slot_Parse.f b = some (0, 0, 0, 2) ∨ ∃ g s m, Rt g s m ∧ b = blk g s m ∧ slot_Parse.f b = some (g, s, m, 0) := by
  obtain ⟨⟨l, e⟩, ho⟩ : ∃ o, num_Open.f b = some o := by unfold num_Open.f; split <;> exact ⟨_, rfl⟩
  obtain ⟨p, hp⟩ := prefix_any b
  unfold slot_Parse.f
  rw [ho, Option.bind_some, hp, Option.bind_some]
  by_cases hc : e = 0 ∧ p = true
  · rw [if_pos hc]
    by_cases hr : Rt (lev l 2 4) (lev l 6 4) (lev l 10 4)
    · simp only []
      rw [print_ok hr, Option.bind_some]
      by_cases hx : (blk (lev l 2 4) (lev l 6 4) (lev l 10 4)).toList = b.toList
      · rw [if_pos ⟨rfl, hx⟩]
        exact .inr ⟨_, _, _, hr, (toList_inj hx).symm, rfl⟩
      · rw [if_neg fun h => hx h.2]
        exact .inl rfl
    · simp only []
      rw [print_bad hr, Option.bind_some, if_neg (by simp)]
      exact .inl rfl
  · rw [if_neg hc]
    exact .inl rfl
theorem pick_val (k : Nat) {a b : ByteArray} {x1 x2 x3 e y1 y2 y3 f : Int} (hx : slot_Parse.f a = some (x1, x2, x3, e)) (hy : slot_Parse.f b = some (y1, y2, y3, f)) :
    slot_Pick.f (k + 1) a b = some (if e ≠ 0 ∧ f ≠ 0 then (0, 0, 0, 0, 4) else if e ≠ 0 ∨ (f = 0 ∧ y1 > x1) then (1, y1, y2, y3, 0) else (0, x1, x2, x3, 0)) := by
  unfold slot_Pick.f
  rw [hx, Option.bind_some, hy, Option.bind_some]
  simp only [slot_Pick.j0]
  by_cases he : e = 0
  · subst he
    by_cases hf : f = 0
    · subst hf
      by_cases hg : y1 > x1 <;> simp [hg]
    · simp [hf]
  · by_cases hf : f = 0
    · subst hf
      simp [he]
    · simp [he, hf]
theorem refRight_val (a b c : Int) : assartref03_Right.f a b c = some (decide (Rt a b c)) := by
  unfold assartref03_Right.f Rt
  by_cases h1 : a ≥ 1
  · by_cases h2 : a ≤ 2147483647
    · by_cases h3 : b ≥ 0
      · by_cases h4 : b ≤ 2147483647
        · by_cases h5 : c ≥ 0
          · simp [h1, h2, h3, h4, h5]
            omega
          · have : ¬ 0 ≤ c := h5
            simp [h1, h2, h3, h4, this]
        · simp [h1, h2, h3, h4]
      · have : ¬ 0 ≤ b := h3
        simp [h1, h2, this]
    · simp [h1, h2]
  · have : ¬ 1 ≤ a := h1
    simp [this]
end Go.Proofs.Ythjnkapkhphpeaa.P
