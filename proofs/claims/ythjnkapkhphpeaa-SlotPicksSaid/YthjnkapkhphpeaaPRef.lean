import Derived.Test.YthjnkapkhphpeaaHSeal
import Derived.Test.YthjnkapkhphpeaaF51
import Derived.Test.YthjnkapkhphpeaaF45
import Derived.Test.YthjnkapkhphpeaaF53
import Derived.Test.YthjnkapkhphpeaaF46
namespace Go.Proofs.Ythjnkapkhphpeaa.P
open Go.RowKit Go.Proofs.YthjnkapkhphpeaaW.PrintWords Go.Proofs.YthjnkapkhphpeaaW.PrintLast Go.Proofs.YthjnkapkhphpeaaW.PrintMore
set_option linter.unusedVariables false
set_option linter.unusedSimpArgs false
theorem wrap_u32 (n : Int) (h0 : 0 ≤ n) (h1 : n < 2 ^ 32) : IntKind.u32.wrap n = n := by rw [IntKind.wrap_u32]; omega
theorem and1 {n : Int} (h0 : 0 ≤ n) (h1 : n < 4294967296) : Go.bits .and .u32 n 1 = n % 2 := bits_mask .u32 32 (by decide) wrap_u32 1 (by decide) n h0 (by simpa using h1)
theorem xor_val {a b : Int} (ha : 0 ≤ a) (ha1 : a < 4294967296) (hb : 0 ≤ b) (hb1 : b < 4294967296) : assartref01_xor.f a b = some (Go.bits .xor .u32 a b) := by
  unfold assartref01_xor.f
  rw [Int.emod_eq_of_lt ha ha1, Int.emod_eq_of_lt hb hb1, w64 (by have := xor_bd a b; omega) (by have := xor_bd a b; omega)]
theorem l1_step (d : Nat) : ∀ (k : Nat) (l : List Int) (x i : Int), 0 ≤ x → x < 4294967296 → d ≤ 8 → d < k → assartref01_Sum.l1 k l x i (8 - d) = assartref01_Sum.l0 (k - d - 1) l (stN d x) (wrap64 (i + 1)) := by
  induction d with
  | zero =>
    intro k l x i h0 h1 hd hk
    obtain ⟨k, rfl⟩ : ∃ m, k = m + 1 := ⟨k - 1, by omega⟩
    simp [assartref01_Sum.l1, stN]
  | succ d ih =>
    intro k l x i h0 h1 hd hk
    obtain ⟨k, rfl⟩ : ∃ m, k = m + 1 := ⟨k - 1, by omega⟩
    have hlt : (8 : Int) - ((d + 1 : Nat) : Int) < 8 := by omega
    have ew : wrap64 (8 - ((d + 1 : Nat) : Int) + 1) = 8 - (d : Int) := by rw [w64 (by omega) (by omega)]; omega
    have et : Int.tmod x 2 = x % 2 := Int.tmod_eq_emod_of_nonneg h0
    have ed : Int.tdiv x 2 = x / 2 := Int.tdiv_eq_ediv_of_nonneg h0
    have hs : st x = if x % 2 = 1 then Go.bits .xor .u32 (x / 2) 3988292384 else x / 2 := by
      unfold st
      rw [and1 h0 h1]
      by_cases h : x % 2 = 1 <;> simp [h]
    simp only [assartref01_Sum.l1]
    rw [if_pos hlt, ew, et, ed, w64 (by omega) (by omega), show k + 1 - (d + 1) - 1 = k - d - 1 by omega, stN, hs]
    by_cases h : x % 2 = 1
    · rw [if_pos h, if_pos h, xor_val (by omega) (by omega) (by omega) (by omega)]
      simp only [Option.bind_some]
      exact ih k l _ i (xor_bd _ _).1 (xor_bd _ _).2 (by omega) (by omega)
    · rw [if_neg h, if_neg h]
      exact ih k l _ i (by omega) (by omega) (by omega) (by omega)
theorem l0_step (l : List Int) (hl : l.length ≤ 140737488355328) (hb : ∀ x ∈ l, 0 ≤ x ∧ x < 256) (d : Nat) : ∀ (k i : Nat), i + d = l.length → 10 * d < k → assartref01_Sum.l0 k l (regI (l.take i)) i = some (crc l) := by
  induction d with
  | zero =>
    intro k i hi hk
    obtain ⟨k, rfl⟩ : ∃ m, k = m + 1 := ⟨k - 1, by omega⟩
    obtain rfl : i = l.length := by omega
    have hbd := regI_bd l
    simp only [assartref01_Sum.l0]
    rw [if_neg (by omega), List.take_length, xor_val hbd.1 hbd.2 (by omega) (by omega)]
    simp only [Option.bind_some, crc]
    rw [w64 (by have := xor_bd IntKind.u32.max (regI l); omega) (by have := xor_bd IntKind.u32.max (regI l); omega)]
    congr 1
    simp only [Go.bits]
    rw [BitVec.xor_comm]
    rfl
  | succ d ih =>
    intro k i hi hk
    obtain ⟨k, rfl⟩ : ∃ m, k = m + 1 := ⟨k - 1, by omega⟩
    have hbd := regI_bd (l.take i)
    have hc := lt_of_all hb i
    simp only [assartref01_Sum.l0]
    rw [if_pos (by omega), if_pos (by omega), w64 (by omega) (by omega), xor_val hbd.1 hbd.2 hc.1 (by omega)]
    simp only [Option.bind_some]
    have := l1_step 8 k l (Go.bits .xor .u32 (regI (l.take i)) (rd l i)) i (xor_bd _ _).1 (xor_bd _ _).2 (by omega) (by omega)
    simp only [Int.sub_self, show (8 : Int) - ((8 : Nat) : Int) = 0 by omega] at this
    rw [this, w64 (by omega) (by omega)]
    have e := regI_snoc l i (by omega)
    unfold byteI at e
    rw [Int.emod_eq_of_lt hc.1 (by omega)] at e
    rw [← e]
    exact ih _ (i + 1) (by omega) (by omega)
/-- The document's check sum is ours. -/
theorem refSum_val (l : List Int) (hl : l.length ≤ 140737488355328) (hb : ∀ x ∈ l, 0 ≤ x ∧ x < 256) (k : Nat) (hk : 10 * l.length < k) : assartref01_Sum.f k l = some (crc l) := by
  have := l0_step l hl hb l.length k 0 (by omega) hk
  simpa [assartref01_Sum.f, regI] using this
theorem limit_val (k : Nat) (w : Int) (h1 : 1 ≤ w) (h4 : w ≤ 4) : assartref01_limit.f (k + 6) w = some (256 ^ w.toNat) := by
  rcases pow4 h1 h4 with rfl | rfl | rfl | rfl <;> simp [assartref01_limit.f, assartref01_limit.l0, wrap64]
theorem refPut_val (k : Nat) (n w : Int) (h1 : 1 ≤ w) (h4 : w ≤ 4) (h0 : 0 ≤ n) (hn : n < 256 ^ w.toNat) : assartref01_Put.f (k + 6) n w = some (le n w) := by
  have hl := limit_val k w h1 h4
  have hz : ¬ n < 0 := by omega
  have tq : ∀ m : Int, 0 ≤ m → Int.tdiv m 256 = m / 256 := fun m h => Int.tdiv_eq_ediv_of_nonneg h
  have tr : ∀ m : Int, 0 ≤ m → Int.tmod m 256 = m % 256 := fun m h => Int.tmod_eq_emod_of_nonneg h
  have q1 : (0 : Int) ≤ n / 256 := by omega
  have q2 : (0 : Int) ≤ n / 256 / 256 := by omega
  have q3 : (0 : Int) ≤ n / 256 / 256 / 256 := by omega
  have e1 : n / 65536 = n / 256 / 256 := by omega
  have e2 : n / 16777216 = n / 256 / 256 / 256 := by omega
  rcases pow4 h1 h4 with rfl | rfl | rfl | rfl
  all_goals
    simp at hn
    have w1 : wrap64 (n / 256) = n / 256 := w64 (by omega) (by omega)
    have w2 : wrap64 (n / 256 / 256) = n / 256 / 256 := w64 (by omega) (by omega)
    have w3 : wrap64 (n / 256 / 256 / 256) = n / 256 / 256 / 256 := w64 (by omega) (by omega)
    have w4 : wrap64 (n / 256 / 256 / 256 / 256) = n / 256 / 256 / 256 / 256 := w64 (by omega) (by omega)
    have hgt : ¬ n ≥ 256 ^ 1 ∨ True := .inr trivial
    simp only [assartref01_Put.f]
    rw [if_neg (by decide), if_neg (by decide), if_neg hz, hl]
    simp only [Option.bind_some]
    simp [assartref01_Put.j0, assartref01_Put.l0, tq, tr, h0, q1, q2, q3, w1, w2, w3, w4, le, le4, e1, e2, show (1 : Int) + 1 = 2 from rfl, w64]
    try omega
theorem refPut_none (k : Nat) (n w : Int) (h : ¬ (1 ≤ w ∧ w ≤ 4 ∧ 0 ≤ n ∧ n < 256 ^ w.toNat)) : assartref01_Put.f (k + 6) n w = some [] := by
  simp only [assartref01_Put.f]
  by_cases h1 : w < 1
  · rw [if_pos h1]; simp [assartref01_Put.j0]
  · rw [if_neg h1]
    by_cases h4 : w > 4
    · rw [if_pos h4]; simp [assartref01_Put.j0]
    · rw [if_neg h4]
      by_cases h0 : n < 0
      · rw [if_pos h0]; simp [assartref01_Put.j0]
      · rw [if_neg h0, limit_val k w (by omega) (by omega)]
        simp only [Option.bind_some]
        have : n ≥ 256 ^ w.toNat := by
          have : ¬ n < 256 ^ w.toNat := fun hn => h ⟨by omega, by omega, by omega, hn⟩
          omega
        simp [assartref01_Put.j0, this]
theorem refTake_val (k : Nat) (l : List Int) (a w : Int) (hl : l.length ≤ 140737488355328) (hb : ∀ x ∈ l, 0 ≤ x ∧ x < 256) (h1 : 1 ≤ w) (h4 : w ≤ 4) (h0 : 0 ≤ a) (ha : a + w ≤ l.length) : assartref01_Take.f (k + 6) l a w = some (lev l a w, a + w, 0) := by
  have b0 := lt_of_all hb a
  have b1 := lt_of_all hb (a + 1)
  have b2 := lt_of_all hb (a + 2)
  have b3 := lt_of_all hb (a + 3)
  have ew : wrap64 ((l.length : Int) - a) = l.length - a := w64 (by omega) (by omega)
  have q0 : wrap64 a = a := w64 (by omega) (by omega)
  have q1 : wrap64 (a + 1) = a + 1 := w64 (by omega) (by omega)
  have q2 : wrap64 (a + 2) = a + 2 := w64 (by omega) (by omega)
  have q3 : wrap64 (a + 3) = a + 3 := w64 (by omega) (by omega)
  have q4 : wrap64 (a + 4) = a + 4 := w64 (by omega) (by omega)
  have r0 : wrap64 (rd l a) = rd l a := w64 (by omega) (by omega)
  have r1 : wrap64 (rd l (a + 1)) = rd l (a + 1) := w64 (by omega) (by omega)
  have r2 : wrap64 (rd l (a + 2)) = rd l (a + 2) := w64 (by omega) (by omega)
  have r3 : wrap64 (rd l (a + 3)) = rd l (a + 3) := w64 (by omega) (by omega)
  have v1 : (0 : Int) ≤ a + 1 := by omega
  have v2 : (0 : Int) ≤ a + 2 := by omega
  have v3 : (0 : Int) ≤ a + 3 := by omega
  have c0 : a < l.length := by omega
  simp only [assartref01_Take.f]
  rw [if_neg (by omega), if_neg (by omega), if_neg (by omega), if_neg (by omega), ew]
  have hd : decide ((l.length : Int) - a < w) = false := by simp; omega
  rw [hd]
  rcases pow4 h1 h4 with rfl | rfl | rfl | rfl
  · simp [assartref01_Take.j0, assartref01_Take.l0, h0, c0, lev, q0, q1, q2, q3, q4, r0, w64]
  · have c1 : a + 1 < l.length := by omega
    have t1 : wrap64 (wrap64 (rd l (a + 1) * 256) + rd l a) = rd l a + 256 * rd l (a + 1) := by rw [w64 (x := rd l (a + 1) * 256) (by omega) (by omega), w64 (by omega) (by omega)]; omega
    simp [assartref01_Take.j0, assartref01_Take.l0, h0, c0, c1, lev, q0, q1, q2, q3, q4, r0, r1, v1, w64, t1]
  · have c1 : a + 1 < l.length := by omega
    have c2 : a + 2 < l.length := by omega
    have t1 : wrap64 (wrap64 (rd l (a + 2) * 256) + rd l (a + 1)) = rd l (a + 1) + 256 * rd l (a + 2) := by rw [w64 (x := rd l (a + 2) * 256) (by omega) (by omega), w64 (by omega) (by omega)]; omega
    have t2 : wrap64 (wrap64 ((rd l (a + 1) + 256 * rd l (a + 2)) * 256) + rd l a) = rd l a + 256 * rd l (a + 1) + 65536 * rd l (a + 2) := by rw [w64 (x := (rd l (a + 1) + 256 * rd l (a + 2)) * 256) (by omega) (by omega), w64 (by omega) (by omega)]; omega
    simp [assartref01_Take.j0, assartref01_Take.l0, h0, c0, c1, c2, lev, q0, q1, q2, q3, q4, r0, r1, r2, v1, v2, w64, t1, t2]
  · have c1 : a + 1 < l.length := by omega
    have c2 : a + 2 < l.length := by omega
    have c3 : a + 3 < l.length := by omega
    have t1 : wrap64 (wrap64 (rd l (a + 3) * 256) + rd l (a + 2)) = rd l (a + 2) + 256 * rd l (a + 3) := by rw [w64 (x := rd l (a + 3) * 256) (by omega) (by omega), w64 (by omega) (by omega)]; omega
    have t2 : wrap64 (wrap64 ((rd l (a + 2) + 256 * rd l (a + 3)) * 256) + rd l (a + 1)) = rd l (a + 1) + 256 * rd l (a + 2) + 65536 * rd l (a + 3) := by rw [w64 (x := (rd l (a + 2) + 256 * rd l (a + 3)) * 256) (by omega) (by omega), w64 (by omega) (by omega)]; omega
    have t3 : wrap64 (wrap64 ((rd l (a + 1) + 256 * rd l (a + 2) + 65536 * rd l (a + 3)) * 256) + rd l a) = rd l a + 256 * rd l (a + 1) + 65536 * rd l (a + 2) + 16777216 * rd l (a + 3) := by rw [w64 (x := (rd l (a + 1) + 256 * rd l (a + 2) + 65536 * rd l (a + 3)) * 256) (by omega) (by omega), w64 (by omega) (by omega)]; omega
    simp [assartref01_Take.j0, assartref01_Take.l0, h0, c0, c1, c2, c3, lev, q0, q1, q2, q3, q4, r0, r1, r2, r3, v1, v2, v3, w64, t1, t2, t3]
theorem refTake_none (k : Nat) (l : List Int) (a w : Int) (hl : l.length ≤ 140737488355328) (h : ¬ (1 ≤ w ∧ w ≤ 4 ∧ 0 ≤ a ∧ a + w ≤ l.length)) : assartref01_Take.f (k + 6) l a w = some (0, 0, 2) := by
  simp only [assartref01_Take.f]
  by_cases h1 : w < 1
  · rw [if_pos h1]; simp [assartref01_Take.j0]
  · rw [if_neg h1]
    by_cases h4 : w > 4
    · rw [if_pos h4]; simp [assartref01_Take.j0]
    · rw [if_neg h4]
      by_cases h0 : a < 0
      · rw [if_pos h0]; simp [assartref01_Take.j0]
      · rw [if_neg h0]
        by_cases h2 : a > (l.length : Int)
        · rw [if_pos h2]; simp [assartref01_Take.j0]
        · rw [if_neg h2, w64 (by omega) (by omega)]
          have hd : decide ((l.length : Int) - a < w) = true := by simp; omega
          rw [hd]
          simp [assartref01_Take.j0]
theorem refSeal_l0 (d : Nat) : ∀ (k : Nat) (l : List Int), l.length + d = 36 → d < k → assartref01_Seal.l0 k l = assartref01_Seal.l0 (k - d) (l ++ List.replicate d 0) := by
  induction d with
  | zero => intro k l h hk; simp
  | succ d ih =>
    intro k l h hk
    obtain ⟨k, rfl⟩ : ∃ m, k = m + 1 := ⟨k - 1, by omega⟩
    simp only [assartref01_Seal.l0]
    rw [if_pos (by omega), if_pos (by omega), ih k _ (by simp; omega) (by omega)]
    rw [show k + 1 - (d + 1) = k - d by omega, List.append_assoc]
    have : [(0 : Int)] ++ List.replicate d 0 = List.replicate (d + 1) 0 := by rw [List.replicate_succ]; rfl
    rw [this]
theorem pad_bd {l : List Int} (hb : ∀ x ∈ l, 0 ≤ x ∧ x < 256) : ∀ x ∈ pad l, 0 ≤ x ∧ x < 256 := by
  intro x hx
  simp only [pad, List.mem_append, List.mem_replicate] at hx
  rcases hx with hx | ⟨_, rfl⟩
  · exact hb x hx
  · omega
theorem pad_len {l : List Int} (h : l.length ≤ 36) : (pad l).length = 36 := by simp [pad]; omega
theorem refSeal_end (k : Nat) (l : List Int) (hl : l.length = 36) (hb : ∀ x ∈ l, 0 ≤ x ∧ x < 256) (hk : 400 < k) : assartref01_Seal.l0 (k + 1) l = some (strOfNums (l ++ le (crc l) 4), 0) := by
  have hcb := crc_bd l
  have h1 := refSum_val l (by omega) hb k (by omega)
  obtain ⟨i, hi⟩ : ∃ m, k = m + 6 := ⟨k - 6, by omega⟩
  have h2 : assartref01_Put.f k (crc l) 4 = some (le (crc l) 4) := by rw [hi]; exact refPut_val i _ 4 (by omega) (by omega) hcb.1 (by simpa using hcb.2)
  have hll : (le (crc l) 4).length = 4 := rfl
  simp only [assartref01_Seal.l0]
  rw [if_neg (by omega), h1, Option.bind_some, h2, Option.bind_some, if_pos (by omega)]
theorem refSeal_val (l : List Int) (hl : l.length ≤ 140737488355328) (hb : ∀ x ∈ l, 0 ≤ x ∧ x < 256) (k : Nat) (hk : 500 < k) : assartref01_Seal.f k l = num_Seal.f l := by
  unfold assartref01_Seal.f num_Seal.f
  by_cases h : 36 < l.length
  · rw [if_pos (by omega), if_pos h]
  · rw [if_neg (by omega), if_neg h]
    simp only [Option.bind_some, List.nil_append, List.length_nil]
    rw [if_pos (by omega), refSeal_l0 (36 - l.length) k l (by omega) (by omega)]
    obtain ⟨j, hj⟩ : ∃ m, k - (36 - l.length) = m + 1 := ⟨k - (36 - l.length) - 1, by omega⟩
    rw [hj]
    exact refSeal_end j (pad l) (pad_len (by omega)) (pad_bd hb) (by omega)
end Go.Proofs.Ythjnkapkhphpeaa.P
