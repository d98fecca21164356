/- The check sum as Go tells it is the register's; a row with its sum behind ends in one register. -/
import Derived.Test.YthjnkapkhphpeaaCrc
import Derived.Test.YthjnkapkhphpeaaPRef
namespace Go.Proofs.Ythjnkapkhphpeaa.P
open Go.RowKit Go.Proofs.YthjnkapkhphpeaaW.PrintWords Go.Proofs.YthjnkapkhphpeaaW.PrintLast Go.Proofs.YthjnkapkhphpeaaW.PrintMore
set_option linter.unusedVariables false
set_option linter.unusedSimpArgs false
open Crc (S Sn feeds)
theorem xor_nat (a b : BitVec 32) : Go.bits .xor .u32 (a.toNat : Int) (b.toNat : Int) = ((a ^^^ b).toNat : Int) := by
  unfold Go.bits
  simp only [IntKind.bits, BitVec.ofInt_natCast]
  rw [wrap_u32 _ (by omega) (by have := (a ^^^ b).isLt; simp only [BitVec.ofNat_toNat, BitVec.setWidth_eq]; omega)]
  simp only [BitVec.ofNat_toNat, BitVec.setWidth_eq]
  rfl
theorem st_S (v : BitVec 32) : st (v.toNat : Int) = ((S v).toNat : Int) := by
  have hv := v.isLt
  unfold st S
  rw [and1 (by omega) (by omega)]
  have hb : v.getLsbD 0 = decide ((v.toNat : Int) % 2 = 1) := by
    rw [BitVec.getLsbD_eq_getElem (by omega), BitVec.getElem_eq_testBit_toNat, Nat.testBit_zero]
    congr 1
    simp
    omega
  have hh : (v.toNat : Int) / (2 : Int) = ((v >>> 1).toNat : Int) := by
    rw [BitVec.toNat_ushiftRight, Nat.shiftRight_eq_div_pow]; simp
  rw [hb, hh]
  by_cases h : (v.toNat : Int) % 2 = 1
  · rw [h, decide_eq_true rfl]
    simp only [beq_self_eq_true, if_true]
    exact xor_nat (v >>> 1) Crc.poly
  · have : ((v.toNat : Int) % 2 == 1) = false := by simpa using h
    rw [this, decide_eq_false h]
    simp
theorem stN_Sn : ∀ k (v : BitVec 32), stN k (v.toNat : Int) = ((Sn k v).toNat : Int)
  | 0, _ => rfl
  | k + 1, v => by rw [stN, st_S, stN_Sn k]; rfl
def foldB (n : BitVec 32) (l : List Int) : BitVec 32 := l.foldl (fun n c => Sn 8 (n ^^^ BitVec.ofInt 32 c)) n
theorem byteI_B (v : BitVec 32) (c : Int) (h0 : 0 ≤ c) (h1 : c < 4294967296) : byteI (v.toNat : Int) c = ((Sn 8 (v ^^^ BitVec.ofInt 32 c)).toNat : Int) := by
  unfold byteI
  rw [Int.emod_eq_of_lt h0 h1]
  obtain ⟨m, rfl⟩ := Int.eq_ofNat_of_zero_le h0
  have hm : ((BitVec.ofNat 32 m).toNat : Int) = (m : Int) := by rw [BitVec.toNat_ofNat, Nat.mod_eq_of_lt (by omega)]
  rw [← hm, xor_nat, stN_Sn, hm]
  simp
theorem fold_B (l : List Int) (hb : ∀ x ∈ l, 0 ≤ x ∧ x < 256) : ∀ v : BitVec 32, l.foldl byteI (v.toNat : Int) = ((foldB v l).toNat : Int) := by
  induction l with
  | nil => intro v; rfl
  | cons c l ih =>
    intro v
    have hc := hb c (by simp)
    simp only [List.foldl_cons, foldB]
    rw [byteI_B v c hc.1 (by omega)]
    exact ih (fun x hx => hb x (by simp [hx])) _
theorem regI_B (l : List Int) (hb : ∀ x ∈ l, 0 ≤ x ∧ x < 256) : regI l = ((foldB (BitVec.allOnes 32) l).toNat : Int) := fold_B l hb (BitVec.allOnes 32)
theorem crc_B (l : List Int) (hb : ∀ x ∈ l, 0 ≤ x ∧ x < 256) : crc l = ((BitVec.allOnes 32 ^^^ foldB (BitVec.allOnes 32) l).toNat : Int) := by
  unfold crc
  have h1 : IntKind.u32.max = ((BitVec.allOnes 32).toNat : Int) := by decide
  rw [regI_B l hb, h1, xor_nat, w64 (by omega) (by have := (BitVec.allOnes 32 ^^^ foldB (BitVec.allOnes 32) l).isLt; omega)]
theorem foldB_append (n : BitVec 32) (l m : List Int) : foldB n (l ++ m) = foldB (foldB n l) m := by simp [foldB]
/-- The bits of a row of bytes, the lowest first. -/
def rowBits (l : List Int) : List Bool := l.flatMap fun c => Crc.bits 8 (BitVec.ofInt 32 c)
theorem foldB_feeds (l : List Int) (hb : ∀ x ∈ l, 0 ≤ x ∧ x < 256) : ∀ n, foldB n l = feeds n (rowBits l) := by
  induction l with
  | nil => intro n; rfl
  | cons c l ih =>
    intro n
    have hc := hb c (by simp)
    have e : Sn 8 (n ^^^ BitVec.ofInt 32 c) = feeds n (Crc.bits 8 (BitVec.ofInt 32 c)) := by
      refine Crc.Sn_feeds 8 n _ (by omega) ?_
      obtain ⟨m, rfl⟩ := Int.eq_ofNat_of_zero_le hc.1
      simp
      omega
    show foldB (Sn 8 (n ^^^ BitVec.ofInt 32 c)) l = feeds n (Crc.bits 8 (BitVec.ofInt 32 c) ++ rowBits l)
    rw [Crc.feeds_append, ← e]
    exact ih (fun x hx => hb x (by simp [hx])) _
theorem bits_range : ∀ k (c : BitVec 32), Crc.bits k c = (List.range k).map (fun i => c.getLsbD i)
  | 0, _ => rfl
  | k + 1, c => by
    rw [Crc.bits, bits_range k, List.range_succ_eq_map, List.map_cons, List.map_map]
    congr 1
    refine List.map_congr_left fun i _ => ?_
    simp [Nat.add_comm]
theorem byte_bit (x : BitVec 32) (j i : Nat) (hi : i < 8) : (BitVec.ofInt 32 ((x.toNat : Int) / 256 ^ j % 256)).getLsbD i = x.getLsbD (8 * j + i) := by
  have e : ((x.toNat : Int) / 256 ^ j % 256) = ((x.toNat / 2 ^ (8 * j) % 2 ^ 8 : Nat) : Int) := by
    rw [Nat.pow_mul]; simp
  rw [e, BitVec.ofInt_natCast, BitVec.getLsbD_ofNat, Nat.testBit_mod_two_pow, Nat.testBit_div_two_pow]
  simp [hi, show i < 32 by omega, BitVec.getLsbD]
  rw [Nat.add_comm]
theorem rowBits_le (x : BitVec 32) : rowBits (le (x.toNat : Int) 4) = Crc.bits 32 x := by
  have b := byte_bit x
  have b0 := fun i hi => b 0 i hi
  have b1 := fun i hi => b 1 i hi
  have b2 := fun i hi => b 2 i hi
  have b3 := fun i hi => b 3 i hi
  simp only [Nat.mul_zero, Nat.zero_add, Nat.mul_one] at b0 b1
  have e0 : (256 : Int) ^ 0 = 1 := rfl
  have e1 : (256 : Int) ^ 1 = 256 := rfl
  have e2 : (256 : Int) ^ 2 = 65536 := rfl
  have e3 : (256 : Int) ^ 3 = 16777216 := rfl
  rw [e0] at b0
  rw [e1] at b1
  rw [e2] at b2
  rw [e3] at b3
  simp only [Int.ediv_one] at b0
  have h0 : Crc.bits 8 (BitVec.ofInt 32 ((x.toNat : Int) % 256)) = (List.range 8).map (fun i => x.getLsbD i) := by rw [bits_range]; exact List.map_congr_left fun i hi => b0 i (List.mem_range.1 hi)
  have h1 : Crc.bits 8 (BitVec.ofInt 32 ((x.toNat : Int) / 256 % 256)) = (List.range 8).map (fun i => x.getLsbD (8 + i)) := by rw [bits_range]; exact List.map_congr_left fun i hi => b1 i (List.mem_range.1 hi)
  have h2 : Crc.bits 8 (BitVec.ofInt 32 ((x.toNat : Int) / 65536 % 256)) = (List.range 8).map (fun i => x.getLsbD (8 * 2 + i)) := by rw [bits_range]; exact List.map_congr_left fun i hi => b2 i (List.mem_range.1 hi)
  have h3 : Crc.bits 8 (BitVec.ofInt 32 ((x.toNat : Int) / 16777216 % 256)) = (List.range 8).map (fun i => x.getLsbD (8 * 3 + i)) := by rw [bits_range]; exact List.map_congr_left fun i hi => b3 i (List.mem_range.1 hi)
  show rowBits (le4 (x.toNat : Int)) = _
  simp only [rowBits, le4, List.flatMap_cons, List.flatMap_nil]
  rw [h0, h1, h2, h3, bits_range]
  rfl
theorem le_word (x : BitVec 32) (n : BitVec 32) : foldB n (le (x.toNat : Int) 4) = Sn 32 (n ^^^ x) := by
  have hb : ∀ y ∈ le (x.toNat : Int) 4, 0 ≤ y ∧ y < 256 := by
    intro y hy
    have hy : y ∈ le4 (x.toNat : Int) := hy
    simp only [le4, List.mem_cons, List.not_mem_nil, or_false] at hy
    rcases hy with rfl | rfl | rfl | rfl <;> omega
  rw [foldB_feeds _ hb, rowBits_le, Crc.Sn_feeds 32 n x (Nat.le_refl _) x.isLt]
/-- A row with its check sum behind ends in one register, whatever it is. -/
theorem residue (l : List Int) (hb : ∀ x ∈ l, 0 ≤ x ∧ x < 256) : foldB (BitVec.allOnes 32) (l ++ le (crc l) 4) = Sn 32 (BitVec.allOnes 32) := by
  rw [foldB_append, crc_B l hb, le_word]
  congr 1
  rw [BitVec.xor_comm, BitVec.xor_assoc, BitVec.xor_self]
  simp
theorem sums_same (l m : List Int) (hl : ∀ x ∈ l, 0 ≤ x ∧ x < 256) (hm : ∀ x ∈ m, 0 ≤ x ∧ x < 256) : crc (l ++ le (crc l) 4 ++ m) = crc ([0] ++ le (crc [0]) 4 ++ m) := by
  have h4 : ∀ k : List Int, ∀ y ∈ le (crc k) 4, 0 ≤ y ∧ y < 256 := by
    intro k y hy
    have hy : y ∈ le4 (crc k) := hy
    simp only [le4, List.mem_cons, List.not_mem_nil, or_false] at hy
    rcases hy with rfl | rfl | rfl | rfl <;> omega
  have h0 : ∀ x ∈ ([0] : List Int), 0 ≤ x ∧ x < 256 := by simp
  have hall : ∀ k : List Int, (∀ x ∈ k, 0 ≤ x ∧ x < 256) → ∀ x ∈ k ++ le (crc k) 4 ++ m, 0 ≤ x ∧ x < 256 := by
    intro k hk x hx
    simp only [List.mem_append] at hx
    rcases hx with (hx | hx) | hx
    · exact hk x hx
    · exact h4 k x hx
    · exact hm x hx
  rw [crc_B _ (hall l hl), crc_B _ (hall [0] h0), foldB_append _ (l ++ _), foldB_append _ ([0] ++ _), residue l hl, residue [0] h0]
end Go.Proofs.Ythjnkapkhphpeaa.P
