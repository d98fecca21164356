/- The plain mathematics of the check sum: the register, bit by bit; it is linear, and no burst within 32 bits is lost. -/
namespace Crc

def poly : BitVec 32 := 0xedb88320#32
/-- One step of the register. -/
def S (n : BitVec 32) : BitVec 32 := if n.getLsbD 0 then (n >>> 1) ^^^ poly else n >>> 1
def Sn : Nat → BitVec 32 → BitVec 32
  | 0, n => n
  | k + 1, n => Sn k (S n)
def byte (n c : BitVec 32) : BitVec 32 := Sn 8 (n ^^^ c)
def reg (n : BitVec 32) (l : List (BitVec 32)) : BitVec 32 := l.foldl byte n

theorem poly_msb : poly.getLsbD 31 = true := by decide

theorem S_xor (a b : BitVec 32) : S (a ^^^ b) = S a ^^^ S b := by
  unfold S
  have h : (a ^^^ b).getLsbD 0 = (a.getLsbD 0 ^^ b.getLsbD 0) := BitVec.getLsbD_xor
  have hs : (a ^^^ b) >>> 1 = (a >>> 1) ^^^ (b >>> 1) := BitVec.ushiftRight_xor_distrib _ _ _
  rw [h, hs]
  cases ha : a.getLsbD 0 <;> cases hb : b.getLsbD 0 <;> simp
  · rw [BitVec.xor_assoc]
  · rw [BitVec.xor_assoc, BitVec.xor_assoc, BitVec.xor_comm poly]
  · rw [BitVec.xor_assoc, BitVec.xor_comm poly, BitVec.xor_assoc, BitVec.xor_self]; simp

theorem S_zero : S 0 = 0 := by decide

theorem S_inj {a : BitVec 32} (h : S a = 0) : a = 0 := by
  unfold S at h
  cases hb : a.getLsbD 0 with
  | true =>
    rw [hb] at h
    simp only [if_true] at h
    have h31 := congrArg (fun x => BitVec.getLsbD x 31) h
    rw [BitVec.getLsbD_xor, poly_msb] at h31
    simp at h31
  | false =>
    rw [hb] at h
    simp only [Bool.false_eq_true, if_false] at h
    apply BitVec.eq_of_getLsbD_eq
    intro i hi
    cases i with
    | zero => simpa using hb
    | succ i =>
      have := congrArg (fun x => BitVec.getLsbD x i) h
      simpa [Nat.add_comm] using this

theorem Sn_xor : ∀ k (a b : BitVec 32), Sn k (a ^^^ b) = Sn k a ^^^ Sn k b
  | 0, _, _ => rfl
  | k + 1, a, b => by simp only [Sn, S_xor, Sn_xor k]
theorem Sn_zero : ∀ k, Sn k 0 = 0
  | 0 => rfl
  | k + 1 => by simp only [Sn, S_zero, Sn_zero k]
theorem Sn_inj : ∀ k {a : BitVec 32}, Sn k a = 0 → a = 0
  | 0, _, h => h
  | k + 1, _, h => S_inj (Sn_inj k h)
theorem Sn_eq {k : Nat} {a b : BitVec 32} (h : Sn k a = Sn k b) : a = b := by
  have : Sn k (a ^^^ b) = 0 := by rw [Sn_xor, h, BitVec.xor_self]; rfl
  have := Sn_inj k this
  exact BitVec.xor_eq_zero_iff.1 this

/-- One bit fed. -/
def bw (b : Bool) : BitVec 32 := if b then 1 else 0
def feed (n : BitVec 32) (b : Bool) : BitVec 32 := S (n ^^^ bw b)
def feeds (n : BitVec 32) (l : List Bool) : BitVec 32 := l.foldl feed n
/-- The k lowest bits, the lowest first. -/
def bits : Nat → BitVec 32 → List Bool
  | 0, _ => []
  | k + 1, c => c.getLsbD 0 :: bits k (c >>> 1)

theorem S_even (c : BitVec 32) (h : c.getLsbD 0 = false) : S c = c >>> 1 := by unfold S; rw [h]; rfl

theorem split_low (c : BitVec 32) : c = bw (c.getLsbD 0) ^^^ ((c >>> 1) <<< 1) := by
  apply BitVec.eq_of_getLsbD_eq
  intro i hi
  rw [BitVec.getLsbD_xor]
  cases i with
  | zero => cases h : c.getLsbD 0 <;> simp [bw]
  | succ i =>
    have h1 : (bw (c.getLsbD 0)).getLsbD (i + 1) = false := by
      cases c.getLsbD 0 <;> simp [bw]
    rw [h1]
    simp [Nat.add_comm, hi]

theorem S_shl (x : BitVec 32) (h : x.getLsbD 31 = false) : S (x <<< 1) = x := by
  rw [S_even _ (by simp)]
  apply BitVec.eq_of_getLsbD_eq
  intro i hi
  rw [BitVec.getLsbD_ushiftRight, BitVec.getLsbD_shiftLeft]
  have : i = 31 ∨ i < 31 := by omega
  rcases this with rfl | h1
  · rw [h]; decide
  · have h2 : decide (1 + i < 32) = true := by simp; omega
    rw [h2]; simp

theorem Sn_feeds : ∀ k (n c : BitVec 32), k ≤ 32 → c.toNat < 2 ^ k → Sn k (n ^^^ c) = feeds n (bits k c)
  | 0, n, c, _, h => by
    have : c = 0 := by apply BitVec.eq_of_toNat_eq; simp at h ⊢; exact h
    subst this; simp [Sn, feeds, bits]
  | k + 1, n, c, hk, h => by
    have hs : (c >>> 1).toNat < 2 ^ k := by
      simp only [BitVec.toNat_ushiftRight, Nat.shiftRight_eq_div_pow]
      rw [Nat.pow_succ] at h; omega
    have h31 : (c >>> 1).getLsbD 31 = false := by simp
    have e : S (n ^^^ c) = feed n (c.getLsbD 0) ^^^ (c >>> 1) := by
      conv => lhs; rw [split_low c]
      rw [← BitVec.xor_assoc, S_xor, S_shl _ h31]; rfl
    simp only [Sn, bits, feeds, List.foldl_cons]
    rw [e]
    exact Sn_feeds k _ _ (by omega) hs

theorem feeds_append (n : BitVec 32) (l m : List Bool) : feeds n (l ++ m) = feeds (feeds n l) m := by simp [feeds]

theorem feeds_zeros : ∀ k (n : BitVec 32), feeds n (List.replicate k false) = Sn k n
  | 0, _ => rfl
  | k + 1, n => by
    have : feeds n (List.replicate (k + 1) false) = feeds (feed n false) (List.replicate k false) := by simp [List.replicate_succ, feeds]
    rw [this, feeds_zeros k]; simp [feed, bw, Sn]

/-- No burst within 32 bits is lost. -/
theorem burst (p q : Nat) (w : BitVec 32) (hw : w ≠ 0) : feeds 0 (List.replicate p false ++ bits 32 w ++ List.replicate q false) ≠ 0 := by
  rw [feeds_append, feeds_append, feeds_zeros, feeds_zeros, Sn_zero]
  intro h
  have h := Sn_inj q h
  rw [← Sn_feeds 32 0 w (Nat.le_refl _) w.isLt] at h
  have h := Sn_inj 32 h
  simp at h
  exact hw h

theorem feeds_xor : ∀ (l m : List Bool) (a b : BitVec 32), l.length = m.length → feeds (a ^^^ b) (List.zipWith (· ^^ ·) l m) = feeds a l ^^^ feeds b m
  | [], [], _, _, _ => by simp [feeds]
  | x :: l, y :: m, a, b, h => by
    have hx : bw (x ^^ y) = bw x ^^^ bw y := by cases x <;> cases y <;> simp [bw]
    have e : feed (a ^^^ b) (x ^^ y) = feed a x ^^^ feed b y := by
      simp only [feed, hx]
      rw [← S_xor]
      congr 1
      simp only [BitVec.xor_assoc]
      congr 1
      simp only [← BitVec.xor_assoc]
      rw [BitVec.xor_comm b (bw x)]
    have := feeds_xor l m (feed a x) (feed b y) (by simpa using h)
    simp only [feeds, List.zipWith_cons_cons, List.foldl_cons] at this ⊢
    rw [e]; exact this

end Crc
