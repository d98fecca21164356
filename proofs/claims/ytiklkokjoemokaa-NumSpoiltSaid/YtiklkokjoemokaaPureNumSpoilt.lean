/- NumSpoilt: a sealed block of which bits within 32 in a row are turned, one of them at least, is none. -/
import Derived.Test.YtiklkokjoemokaaQNumSpoilt
import Derived.Test.YtiklkokjoemokaaPCrc
namespace Go.Proofs.Ytiklkokjoemokaa.Pure
open Go.RowKit Go.Proofs.Ytiklkokjoemokaa.P Go.Proofs.YtiklkokjoemokaaW.PrintWords Go.Proofs.YtiklkokjoemokaaW.PrintLast

theorem wf_bytes4 {l : List Int} (h : ∀ x ∈ l, (Lit.int .u8 x).wf = true) : ∀ x ∈ l, 0 ≤ x ∧ x < 256 := by
  intro x hx
  have := h x hx
  simp [Lit.wf, IntKind.min, IntKind.max, IntKind.signed, IntKind.bits] at this
  omega
def Bd (l : List Int) : Prop := ∀ x ∈ l, 0 ≤ x ∧ x < 256
def rb (l : List Int) (k : Nat) : Bool := (BitVec.ofInt 32 (rd l ((k / 8 : Nat) : Int))).getLsbD (k % 8)
theorem bits_len (k : Nat) (c : BitVec 32) : (Crc.bits k c).length = k := by rw [bits_range]; simp
theorem rowBits_len (l : List Int) : (rowBits l).length = 8 * l.length := by
  induction l with
  | nil => rfl
  | cons c l ih =>
    show (Crc.bits 8 _ ++ rowBits l).length = _
    rw [List.length_append, bits_len, ih, List.length_cons]
    omega
theorem rowBits_at : ∀ (l : List Int) (k : Nat), k < 8 * l.length → (rowBits l).getD k false = rb l k
  | [], k, h => by simp at h
  | c :: l, k, h => by
    show (Crc.bits 8 (BitVec.ofInt 32 c) ++ rowBits l).getD k false = _
    rw [List.getD_eq_getElem?_getD]
    by_cases hk : k < 8
    · rw [List.getElem?_append_left (by rw [bits_len]; exact hk), bits_range]
      have h0 : k / 8 = 0 := by omega
      have h1 : k % 8 = k := by omega
      simp [rb, h0, h1, rd, hk]
    · rw [List.getElem?_append_right (by rw [bits_len]; omega), bits_len, ← List.getD_eq_getElem?_getD, rowBits_at l (k - 8) (by simp at h; omega)]
      have h0 : (k - 8) / 8 + 1 = k / 8 := by omega
      have h1 : (k - 8) % 8 = k % 8 := by omega
      simp only [rb, h1, rd, ← h0, Int.toNat_natCast, List.getD_cons_succ]
theorem xor8_eq (a b : Int) : Go.bits .xor .u8 a b = ((BitVec.ofInt 8 a ^^^ BitVec.ofInt 8 b).toNat : Int) := by
  show (IntKind.u8.wrap ((BitVec.ofInt 8 a ^^^ BitVec.ofInt 8 b).toNat : Int)) = _
  have := (BitVec.ofInt 8 a ^^^ BitVec.ofInt 8 b).isLt
  generalize (BitVec.ofInt 8 a ^^^ BitVec.ofInt 8 b).toNat = n at this ⊢
  rw [IntKind.wrap_u8]
  omega
theorem xor8_bd (a b : Int) : 0 ≤ Go.bits .xor .u8 a b ∧ Go.bits .xor .u8 a b < 256 := by
  rw [xor8_eq]
  have := (BitVec.ofInt 8 a ^^^ BitVec.ofInt 8 b).isLt
  omega
theorem xor8_bit (x : Int) (h0 : 0 ≤ x) (h1 : x < 256) (m i : Nat) (_hm : m < 8) (hi : i < 8) : (BitVec.ofInt 32 (Go.bits .xor .u8 x (2 ^ m))).getLsbD i = ((BitVec.ofInt 32 x).getLsbD i ^^ decide (i = m)) := by
  rw [xor8_eq]
  obtain ⟨n, rfl⟩ := Int.eq_ofNat_of_zero_le h0
  have e : BitVec.ofInt 8 ((2 : Int) ^ m) = BitVec.ofNat 8 (2 ^ m) := by
    rw [show ((2 : Int) ^ m) = ((2 ^ m : Nat) : Int) by simp, BitVec.ofInt_natCast]
  rw [e, BitVec.ofInt_natCast, BitVec.ofInt_natCast, BitVec.ofInt_natCast, BitVec.getLsbD_ofNat, BitVec.getLsbD_ofNat]
  rw [← BitVec.getLsbD, BitVec.getLsbD_xor, BitVec.getLsbD_ofNat, BitVec.getLsbD_ofNat, Nat.testBit_two_pow]
  simp [hi, show i < 32 by omega, eq_comm]
theorem flip_bd {l : List Int} (h : Bd l) (k : Nat) : Bd (P.flip l k) := by
  intro x hx
  unfold P.flip at hx
  rcases List.mem_or_eq_of_mem_set hx with h1 | rfl
  · exact h x h1
  · exact xor8_bd _ _
theorem rd_bd {l : List Int} (h : Bd l) (k : Nat) : 0 ≤ rd l (k : Int) ∧ rd l (k : Int) < 256 := by
  unfold rd
  simp only [Int.toNat_natCast, List.getD_eq_getElem?_getD]
  by_cases hk : k < l.length
  · rw [List.getElem?_eq_getElem hk]
    exact h _ (List.getElem_mem hk)
  · rw [List.getElem?_eq_none (by omega)]
    simp
theorem flip_bit {l : List Int} (h : Bd l) (k j : Nat) (hk : k < 8 * l.length) : rb (P.flip l k) j = (rb l j ^^ decide (j = k)) := by
  unfold rb P.flip
  by_cases e : j / 8 = k / 8
  · have hr : rd (l.set (k / 8) (Go.bits .xor .u8 (rd l ((k / 8 : Nat) : Int)) (2 ^ (k % 8)))) ((j / 8 : Nat) : Int) = Go.bits .xor .u8 (rd l ((k / 8 : Nat) : Int)) (2 ^ (k % 8)) := by
      unfold rd
      simp only [Int.toNat_natCast, List.getD_eq_getElem?_getD, e]
      rw [List.getElem?_set_self (by omega)]
      rfl
    rw [hr, xor8_bit _ (rd_bd h _).1 (rd_bd h _).2 _ _ (by omega) (by omega), e]
    congr 1
    have : (j % 8 = k % 8) = (j = k) := by
      apply propext
      omega
    simp only [this]
  · have hr : rd (l.set (k / 8) (Go.bits .xor .u8 (rd l ((k / 8 : Nat) : Int)) (2 ^ (k % 8)))) ((j / 8 : Nat) : Int) = rd l ((j / 8 : Nat) : Int) := by
      unfold rd
      simp only [Int.toNat_natCast, List.getD_eq_getElem?_getD]
      rw [List.getElem?_set_ne (by omega)]
    rw [hr]
    have : decide (j = k) = false := by simp; rintro rfl; exact e rfl
    rw [this]
    simp
theorem spoil_bd (f t : Nat) {l : List Int} (h : Bd l) : ∀ i, Bd (spoil f t l i)
  | 0 => h
  | i + 1 => by
    unfold spoil
    split
    · exact flip_bd (spoil_bd f t h i) _
    · exact spoil_bd f t h i
theorem spoil_bit (f t : Nat) {l : List Int} (h : Bd l) (j : Nat) : ∀ i, f + i ≤ 8 * l.length → rb (spoil f t l i) j = (rb l j ^^ (decide (f ≤ j ∧ j < f + i) && t.testBit (j - f)))
  | 0, _ => by
    have : ¬ (f ≤ j ∧ j < f + 0) := by omega
    rw [decide_eq_false this, Bool.false_and, Bool.xor_false]
    rfl
  | i + 1, hi => by
    have ih := spoil_bit f t h j i (by omega)
    have ht : t.testBit i = decide (t / 2 ^ i % 2 = 1) := Nat.testBit_eq_decide_div_mod_eq
    unfold spoil
    by_cases ho : t / 2 ^ i % 2 = 1
    · rw [if_pos ho, flip_bit (spoil_bd f t h i) _ _ (by rw [spoil_len]; omega), ih]
      by_cases e : j = f + i
      · subst e
        have h1 : ¬ (f ≤ f + i ∧ f + i < f + i) := by omega
        have h2 : (f ≤ f + i ∧ f + i < f + (i + 1)) := by omega
        rw [decide_eq_false h1, decide_eq_true h2, show f + i - f = i by omega, ht, decide_eq_true ho]
        simp
      · have h1 : (f ≤ j ∧ j < f + i) = (f ≤ j ∧ j < f + (i + 1)) := by apply propext; omega
        simp only [h1, decide_eq_false e, Bool.xor_false]
    · rw [if_neg ho, ih]
      by_cases e : j = f + i
      · subst e
        have h1 : ¬ (f ≤ f + i ∧ f + i < f + i) := by omega
        rw [decide_eq_false h1, show f + i - f = i by omega, ht, decide_eq_false ho]
        simp
      · have h1 : (f ≤ j ∧ j < f + i) = (f ≤ j ∧ j < f + (i + 1)) := by apply propext; omega
        simp only [h1]
def errs (f t n : Nat) : List Bool := List.replicate f false ++ Crc.bits 32 (BitVec.ofNat 32 t) ++ List.replicate n false
theorem errs_len (f t n : Nat) : (errs f t n).length = f + 32 + n := by simp [errs, bits_len]; omega
theorem errs_at (f t n j : Nat) (_hj : j < f + 32 + n) : (errs f t n).getD j false = (decide (f ≤ j ∧ j < f + 32) && t.testBit (j - f)) := by
  unfold errs
  rw [List.getD_eq_getElem?_getD]
  by_cases h1 : j < f
  · rw [List.getElem?_append_left (by simp [bits_len]; omega), List.getElem?_append_left (by simp; omega)]
    have : ¬ (f ≤ j ∧ j < f + 32) := by omega
    simp [this, h1]
  · by_cases h2 : j < f + 32
    · rw [List.getElem?_append_left (by simp [bits_len]; omega), List.getElem?_append_right (by simp; omega), bits_range]
      have : (f ≤ j ∧ j < f + 32) := by omega
      simp [this, show j - f < 32 by omega, BitVec.getLsbD_ofNat]
    · rw [List.getElem?_append_right (by simp [bits_len]; omega)]
      have : ¬ (f ≤ j ∧ j < f + 32) := by omega
      rw [List.getElem?_replicate]
      simp [this]
      split <;> rfl
theorem spoil_bits (f t n : Nat) {l : List Int} (h : Bd l) (hn : f + 32 + n = 8 * l.length) : rowBits (spoil f t l 32) = List.zipWith (· ^^ ·) (rowBits l) (errs f t n) := by
  apply List.ext_getElem
  · simp [rowBits_len, spoil_len, errs_len, hn]
  · intro j h1 h2
    have hj : j < 8 * l.length := by rw [rowBits_len, spoil_len] at h1; exact h1
    have e1 := rowBits_at (spoil f t l 32) j (by rw [spoil_len]; exact hj)
    have e2 := rowBits_at l j hj
    have e3 := errs_at f t n j (by omega)
    rw [List.getElem_zipWith]
    rw [List.getD_eq_getElem?_getD, List.getElem?_eq_getElem h1] at e1
    rw [List.getD_eq_getElem?_getD, List.getElem?_eq_getElem (by rw [rowBits_len]; exact hj)] at e2
    rw [List.getD_eq_getElem?_getD, List.getElem?_eq_getElem (by rw [errs_len]; omega)] at e3
    simp only [Option.getD_some] at e1 e2 e3
    rw [e1, e2, e3, spoil_bit f t h j 32 (by omega)]
theorem isSealed_residue {b : List Int} (hb : Bd b) (h : isSealed b = true) : b.length = 40 ∧ foldB (BitVec.allOnes 32) b = Crc.Sn 32 (BitVec.allOnes 32) := by
  unfold isSealed at h
  simp only [Bool.and_eq_true, decide_eq_true_eq] at h
  obtain ⟨hl, hc⟩ := h
  refine ⟨hl, ?_⟩
  have e : b = b.take 36 ++ le (crc (b.take 36)) 4 := by rw [← hc, lev_back hb hl, List.take_append_drop]
  rw [e]
  exact residue _ fun x hx => hb x (List.mem_of_mem_take hx)
theorem pad_bd {l : List Int} (h : Bd l) : Bd (pad l) := by
  intro x hx
  unfold pad at hx
  simp only [List.mem_append, List.mem_replicate] at hx
  rcases hx with hx | ⟨_, rfl⟩
  · exact h x hx
  · omega
theorem NumSpoilt : assartlaw01_NumSpoilt.QPure := by
  intro l a t ⟨_, h0⟩ ha ht
  have h0 : Bd l := wf_bytes4 h0
  simp [Lit.wf, IntKind.min, IntKind.max, IntKind.signed, IntKind.bits] at ha ht
  unfold assartlaw01_NumSpoilt.f
  by_cases hl : 36 < l.length ∨ t = 0
  · rw [if_pos hl]
  · rw [if_neg hl, if_pos]
    refine ⟨h0, by omega, by omega, by omega, by omega, ?_⟩
    have hp := pad_bd h0
    have hpl := pad_len (l := l) (by omega)
    have hbd : Bd (pad l ++ le (crc (pad l)) 4) := by
      intro x hx
      rcases List.mem_append.1 hx with hx | hx
      · exact hp x hx
      · have hx : x ∈ le4 (crc (pad l)) := hx
        simp only [le4, List.mem_cons, List.not_mem_nil, or_false] at hx
        rcases hx with rfl | rfl | rfl | rfl <;> omega
    rw [bytesOf_str hbd]
    have hlen : (pad l ++ le (crc (pad l)) 4).length = 40 := by simp [hpl, le, le4]
    have hres := residue (pad l) hp
    generalize pad l ++ le (crc (pad l)) 4 = b at hbd hlen hres
    have hsb := spoil_bd (a.toNat % 289) t.toNat hbd 32
    unfold num_Open.f
    rw [bytesOf_str hsb, if_neg]
    intro hseal
    have hres2 := (isSealed_residue hsb hseal).2
    rw [foldB_feeds _ hsb, spoil_bits (a.toNat % 289) t.toNat (288 - a.toNat % 289) hbd (by omega)] at hres2
    have hx := Crc.feeds_xor (rowBits b) (errs (a.toNat % 289) t.toNat (288 - a.toNat % 289)) (BitVec.allOnes 32) 0 (by rw [rowBits_len, errs_len]; omega)
    rw [show (BitVec.allOnes 32 ^^^ 0) = BitVec.allOnes 32 from BitVec.xor_zero] at hx
    rw [hx, ← foldB_feeds _ hbd, hres] at hres2
    have hz : Crc.feeds 0 (errs (a.toNat % 289) t.toNat (288 - a.toNat % 289)) = 0 := by
      have := congrArg (fun x => Crc.Sn 32 (BitVec.allOnes 32) ^^^ x) hres2
      simp only [← BitVec.xor_assoc, BitVec.xor_self, BitVec.zero_xor] at this
      exact this
    refine Crc.burst _ _ (BitVec.ofNat 32 t.toNat) ?_ hz
    intro h
    have := congrArg BitVec.toNat h
    simp at this
    omega
end Go.Proofs.Ytiklkokjoemokaa.Pure
