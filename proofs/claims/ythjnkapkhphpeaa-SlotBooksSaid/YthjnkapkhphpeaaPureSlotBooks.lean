/- SlotBooks: a book's size and sum tell it apart from it with one byte changed; with a byte more the size is one more. -/
import Derived.Test.YthjnkapkhphpeaaQSlotBooks
import Derived.Test.YthjnkapkhphpeaaPSlot
import Derived.Test.YthjnkapkhphpeaaHShown3
namespace Go.Proofs.Ythjnkapkhphpeaa.Pure
open Go.RowKit Go.Proofs.Ythjnkapkhphpeaa.P Go.Proofs.YthjnkapkhphpeaaW.PrintWords Go.Proofs.YthjnkapkhphpeaaW.PrintLast

theorem wf_bytes6 {l : List Int} (h : ∀ x ∈ l, (Lit.int .u8 x).wf = true) : ∀ x ∈ l, 0 ≤ x ∧ x < 256 := by
  intro x hx
  have := h x hx
  simp [Lit.wf, IntKind.min, IntKind.max, IntKind.signed, IntKind.bits] at this
  omega
theorem xor8_eq (a b : Int) : Go.bits .xor .u8 a b = ((BitVec.ofInt 8 a ^^^ BitVec.ofInt 8 b).toNat : Int) := by
  show (IntKind.u8.wrap ((BitVec.ofInt 8 a ^^^ BitVec.ofInt 8 b).toNat : Int)) = _
  have := (BitVec.ofInt 8 a ^^^ BitVec.ofInt 8 b).isLt
  generalize (BitVec.ofInt 8 a ^^^ BitVec.ofInt 8 b).toNat = n at this ⊢
  rw [IntKind.wrap_u8]
  omega
theorem xor8_bd (a b : Int) : 0 ≤ Go.bits .xor .u8 a b ∧ Go.bits .xor .u8 a b < 256 := by
  rw [xor8_eq]
  have := (BitVec.ofInt 8 a ^^^ BitVec.ofInt 8 b).isLt
  omega
theorem xor8_same {x b : Int} (h0 : 0 ≤ x) (h1 : x < 256) (hb0 : 0 ≤ b) (hb1 : b < 256) : Go.bits .xor .u8 x b = x ↔ b = 0 := by
  rw [xor8_eq]
  obtain ⟨n, rfl⟩ := Int.eq_ofNat_of_zero_le h0
  obtain ⟨m, rfl⟩ := Int.eq_ofNat_of_zero_le hb0
  rw [BitVec.ofInt_natCast, BitVec.ofInt_natCast]
  constructor
  · intro h
    have h2 : (BitVec.ofNat 8 n ^^^ BitVec.ofNat 8 m) = BitVec.ofNat 8 n := by
      apply BitVec.eq_of_toNat_eq
      have h3 : (BitVec.ofNat 8 n).toNat = n := by rw [BitVec.toNat_ofNat]; omega
      rw [h3]
      omega
    have h4 : BitVec.ofNat 8 m = 0 := by
      have := congrArg (fun v => BitVec.ofNat 8 n ^^^ v) h2
      simp only [← BitVec.xor_assoc, BitVec.xor_self, BitVec.zero_xor] at this
      exact this
    have h5 := congrArg BitVec.toNat h4
    simp at h5
    omega
  · intro h
    have : m = 0 := by omega
    subst this
    simp
    omega
theorem foldB_inj (q : List Int) : ∀ a b : BitVec 32, foldB a q = foldB b q → a = b := by
  induction q with
  | nil => intro a b h; exact h
  | cons c q ih =>
    intro a b h
    have h2 : Crc.Sn 8 (a ^^^ BitVec.ofInt 32 c) = Crc.Sn 8 (b ^^^ BitVec.ofInt 32 c) := ih _ _ h
    have h3 := Crc.Sn_eq h2
    have := congrArg (fun v => v ^^^ BitVec.ofInt 32 c) h3
    simp only [BitVec.xor_assoc, BitVec.xor_self, BitVec.xor_zero] at this
    exact this
theorem crc_inj {l m : List Int} (hl : ∀ x ∈ l, 0 ≤ x ∧ x < 256) (hm : ∀ x ∈ m, 0 ≤ x ∧ x < 256) (h : crc l = crc m) : foldB (BitVec.allOnes 32) l = foldB (BitVec.allOnes 32) m := by
  rw [crc_B l hl, crc_B m hm] at h
  have h2 : (BitVec.allOnes 32 ^^^ foldB (BitVec.allOnes 32) l) = (BitVec.allOnes 32 ^^^ foldB (BitVec.allOnes 32) m) := BitVec.eq_of_toNat_eq (by omega)
  have := congrArg (fun v => BitVec.allOnes 32 ^^^ v) h2
  simp only [← BitVec.xor_assoc, BitVec.xor_self, BitVec.zero_xor] at this
  exact this
theorem set_bd {l : List Int} (hl : ∀ x ∈ l, 0 ≤ x ∧ x < 256) (i : Nat) (y : Int) (hy : 0 ≤ y ∧ y < 256) : ∀ x ∈ l.set i y, 0 ≤ x ∧ x < 256 := by
  intro x hx
  rcases List.mem_or_eq_of_mem_set hx with h | rfl
  · exact hl x h
  · exact hy
theorem crc_set {l : List Int} (hl : ∀ x ∈ l, 0 ≤ x ∧ x < 256) (i : Nat) (hi : i < l.length) (y : Int) (hy : 0 ≤ y ∧ y < 256) (h : crc l = crc (l.set i y)) : y = l[i] := by
  have h2 := crc_inj hl (set_bd hl i y hy) h
  have e1 : l.set i y = l.take i ++ y :: l.drop (i + 1) := List.set_eq_take_append_cons_drop.trans (if_pos hi)
  have e0 : l = l.take i ++ l[i] :: l.drop (i + 1) := by
    conv => lhs; rw [← List.set_getElem_self hi]
    exact List.set_eq_take_append_cons_drop.trans (if_pos hi)
  rw [e1] at h2
  have h3 : foldB (BitVec.allOnes 32) (l.take i ++ l[i] :: l.drop (i + 1)) = foldB (BitVec.allOnes 32) (l.take i ++ y :: l.drop (i + 1)) := by rw [← e0]; exact h2
  rw [foldB_append, foldB_append] at h3
  have h4 := Crc.Sn_eq (foldB_inj (l.drop (i + 1)) _ _ h3)
  have h5 := congrArg (fun v => foldB (BitVec.allOnes 32) (l.take i) ^^^ v) h4
  simp only [← BitVec.xor_assoc, BitVec.xor_self, BitVec.zero_xor] at h5
  have hx := hl l[i] (List.getElem_mem hi)
  generalize l[i] = x at h5 hx
  obtain ⟨n, rfl⟩ := Int.eq_ofNat_of_zero_le hx.1
  obtain ⟨m, rfl⟩ := Int.eq_ofNat_of_zero_le hy.1
  rw [BitVec.ofInt_natCast, BitVec.ofInt_natCast] at h5
  have := congrArg BitVec.toNat h5
  simp at this
  omega
theorem book_val {l : List Int} (h : l.length ≤ 2000) : slot_Book.f l = some ((l.length : Int), crc l) := by
  have hsm : num_Sum.f l = some (crc l) := by unfold num_Sum.f; rw [if_pos (by omega)]; rfl
  unfold slot_Book.f
  rw [hsm, Option.bind_some]
theorem SlotBooks : assartlaw03_SlotBooks.QPure := by
  intro l a b c ⟨_, hl⟩ ha hb hc
  have hl := wf_bytes6 hl
  simp [Lit.wf, IntKind.min, IntKind.max, IntKind.signed, IntKind.bits] at ha hb hc
  refine ⟨0 + 1, ?_⟩
  unfold assartlaw03_SlotBooks.f
  rw [shown_val, Option.bind_some]
  by_cases h1 : (l.length : Int) > 1000
  · rw [if_pos h1]
    simp only [assartlaw03_SlotBooks.j0]
    rfl
  · rw [if_neg h1]
    by_cases h2 : (l.length : Int) = 0
    · rw [show ((l.length : Int) == 0) = true by simpa using h2]
      simp only [assartlaw03_SlotBooks.j0]
      rfl
    · rw [show ((l.length : Int) == 0) = false by simpa using h2]
      simp only [assartlaw03_SlotBooks.j0]
      obtain ⟨n, rfl⟩ := Int.eq_ofNat_of_zero_le ha.1
      have hw : wrap64 (n : Int) = n := by unfold wrap64; omega
      have ht : Int.tmod (n : Int) (l.length : Int) = ((n % l.length : Nat) : Int) := by rw [Int.tmod_eq_emod_of_nonneg (by omega)]; simp
      have hi : n % l.length < l.length := Nat.mod_lt _ (by omega)
      rw [hw, ht]
      generalize n % l.length = i at hi
      rw [if_neg (by simp), Option.bind_some, if_pos (by simp; omega), Option.bind_some, if_neg h2, if_pos (by omega), if_pos (by simpa using hi), book_val (by omega), Option.bind_some]
      simp only [List.nil_append, Int.toNat_natCast]
      rw [book_val (by simp; omega), Option.bind_some, Option.bind_some, if_pos (by simp; omega), Option.bind_some, if_pos (by simp; omega), book_val (by simp; omega), Option.bind_some]
      have hr : rd l (i : Int) = l[i] := by simp [rd, hi]
      have hx := hl l[i] (List.getElem_mem hi)
      have hww : wrap64 ((l.length : Int) + 1) = (l.length : Int) + 1 := by unfold wrap64; omega
      have key : (crc l == crc (l.set i (Go.bits .xor .u8 (rd l (i : Int)) b))) = (b == 0) := by
        rw [hr]
        by_cases hb0 : b = 0
        · have : Go.bits .xor .u8 l[i] b = l[i] := (xor8_same hx.1 hx.2 (by omega) (by omega)).2 hb0
          rw [this, List.set_getElem_self]
          simp [hb0]
        · have : crc l ≠ crc (l.set i (Go.bits .xor .u8 l[i] b)) := fun h => hb0 ((xor8_same hx.1 hx.2 (by omega) (by omega)).1 (crc_set hl i hi _ (xor8_bd _ _) h))
          rw [beq_eq_false_iff_ne.2 this, beq_eq_false_iff_ne.2 hb0]
      rw [key]
      simp [hww]
end Go.Proofs.Ythjnkapkhphpeaa.Pure
