import Derived.Test.YthjnkapkhphpeaaF49
import Derived.Test.YthjnkapkhphpeaaF43
import Derived.Test.YthjnkapkhphpeaaHSum
namespace Go.Proofs.Ythjnkapkhphpeaa.P
open Go.RowKit Go.Proofs.YthjnkapkhphpeaaW.PrintWords Go.Proofs.YthjnkapkhphpeaaW.PrintLast Go.Proofs.YthjnkapkhphpeaaW.PrintMore
set_option linter.unusedVariables false
set_option linter.unusedSimpArgs false
theorem w64 {x : Int} (h0 : -9223372036854775808 ≤ x) (h1 : x ≤ 9223372036854775807) : wrap64 x = x := by unfold wrap64; omega
/-- A number's four bytes, the lowest first. -/
def le4 (n : Int) : List Int := [n % 256, n / 256 % 256, n / 65536 % 256, n / 16777216 % 256]
def le (n w : Int) : List Int := (le4 n).take w.toNat
theorem pow4 {w : Int} (h1 : 1 ≤ w) (h4 : w ≤ 4) : w = 1 ∨ w = 2 ∨ w = 3 ∨ w = 4 := by omega
theorem Put_val (k : Nat) (n w : Int) (h1 : 1 ≤ w) (h4 : w ≤ 4) (h0 : 0 ≤ n) (hn : n < 256 ^ w.toNat) : num_Put.f (k + 6) n w = some (le n w) := by
  rcases pow4 h1 h4 with rfl | rfl | rfl | rfl
  all_goals
    simp at hn
    have hz : ¬ n < 0 := by omega
    simp [num_Put.f, num_isWide.f, num_Put.j0, num_Put.l0, wrap64, shr, hz, IntKind.bits, le, le4]
    omega
theorem Put_none (k : Nat) (n w : Int) (h : ¬ (1 ≤ w ∧ w ≤ 4 ∧ 0 ≤ n ∧ n < 256 ^ w.toNat)) : num_Put.f (k + 6) n w = some [] := by
  by_cases h1 : 1 ≤ w
  · by_cases h4 : w ≤ 4
    · by_cases h0 : 0 ≤ n
      · have hn : ¬ n < 256 ^ w.toNat := fun hn => h ⟨h1, h4, h0, hn⟩
        rcases pow4 h1 h4 with rfl | rfl | rfl | rfl
        all_goals
          simp at hn
          have hz : ¬ n < 0 := by omega
          simp [num_Put.f, num_isWide.f, num_Put.j0, wrap64, shr, hz, IntKind.bits]
          omega
      · simp [num_Put.f, num_isWide.f, num_Put.j0, h1, h4, show n < 0 by omega]
    · simp [num_Put.f, num_isWide.f, num_Put.j0, h1, h4]
  · simp [num_Put.f, num_isWide.f, num_Put.j0, h1]
theorem or_comm64 (x y : Int) : Go.bits .or .i64 x y = Go.bits .or .i64 y x := by
  simp only [Go.bits]
  rw [BitVec.or_comm]
theorem wrap_i64 (n : Int) (h0 : 0 ≤ n) (h1 : n < 2 ^ 63) : IntKind.i64.wrap n = n := by rw [IntKind.wrap_i64]; omega
theorem or_shl (x b : Int) (i : Nat) (hi : i ≤ 3) (h0 : 0 ≤ x) (h1 : x < 2 ^ (8 * i)) (hb : 0 ≤ b) (hb1 : b < 256) : Go.bits .or .i64 x (shl .i64 (wrap64 b) ((8 * i : Nat) : Int)) = x + 2 ^ (8 * i) * b := by
  have e : shl .i64 (wrap64 b) ((8 * i : Nat) : Int) = 2 ^ (8 * i) * b := by
    rw [w64 (by omega) (by omega)]
    unfold shl
    rw [Int.toNat_natCast, Nat.min_eq_left (by simp [IntKind.bits]; omega), Int.mul_comm]
    rcases (show i = 0 ∨ i = 1 ∨ i = 2 ∨ i = 3 by omega) with rfl | rfl | rfl | rfl <;> simp <;> rw [wrap_i64 _ (by omega) (by omega)]
  rw [e, or_comm64]
  have hj : ∀ m : Nat, m ≤ 24 → (2 : Int) ^ m * b % 2 ^ m = 0 := fun m _ => Int.mul_emod_right _ _
  have hz := hj (8 * i) (by omega)
  have hlt : (2 : Int) ^ (8 * i) * b < 2 ^ 63 ∧ 0 ≤ (2 : Int) ^ (8 * i) * b ∧ (2 : Int) ^ (8 * i) < 2 ^ 63 := by
    rcases (show i = 0 ∨ i = 1 ∨ i = 2 ∨ i = 3 by omega) with rfl | rfl | rfl | rfl <;> simp <;> omega
  rw [bits_join .i64 63 (by decide) wrap_i64 (8 * i) _ x hlt.2.1 hz hlt.1 h0 h1 (by omega)]
  omega
theorem lt_of_all {l : List Int} (hb : ∀ x ∈ l, 0 ≤ x ∧ x < 256) (i : Int) : 0 ≤ rd l i ∧ rd l i < 256 := by
  unfold rd
  rw [List.getD_eq_getElem?_getD]
  cases h : l[i.toNat]? with
  | none => simp
  | some x => simpa using hb x (List.mem_of_getElem? h)
/-- The number of w bytes that stands there. -/
def lev (l : List Int) (a w : Int) : Int := rd l a + (if 1 < w then 256 * rd l (a + 1) else 0) + (if 2 < w then 65536 * rd l (a + 2) else 0) + (if 3 < w then 16777216 * rd l (a + 3) else 0)
theorem Take_val (k : Nat) (l : List Int) (a w : Int) (hl : l.length ≤ 140737488355328) (hb : ∀ x ∈ l, 0 ≤ x ∧ x < 256) (h1 : 1 ≤ w) (h4 : w ≤ 4) (h0 : 0 ≤ a) (ha : a + w ≤ l.length) : num_Take.f (k + 6) l a w = some (lev l a w, a + w, 0) := by
  have b0 := lt_of_all hb a
  have b1 := lt_of_all hb (a + 1)
  have b2 := lt_of_all hb (a + 2)
  have b3 := lt_of_all hb (a + 3)
  have hz : ¬ a < 0 := by omega
  have hz2 : ¬ (l.length : Int) < a := by omega
  have e0 := or_shl 0 (rd l a) 0 (by omega) (by omega) (by omega) b0.1 b0.2
  have e1 := or_shl (rd l a) (rd l (a + 1)) 1 (by omega) b0.1 (by omega) b1.1 b1.2
  have e2 := or_shl (rd l a + 256 * rd l (a + 1)) (rd l (a + 2)) 2 (by omega) (by omega) (by omega) b2.1 b2.2
  have e3 := or_shl (rd l a + 256 * rd l (a + 1) + 65536 * rd l (a + 2)) (rd l (a + 3)) 3 (by omega) (by omega) (by omega) b3.1 b3.2
  simp at e0 e1 e2 e3
  have ew : wrap64 ((l.length : Int) - a) = l.length - a := w64 (by omega) (by omega)
  have c0 : a < l.length := by omega
  have q0 : wrap64 a = a := w64 (by omega) (by omega)
  have q1 : wrap64 (a + 1) = a + 1 := w64 (by omega) (by omega)
  have q2 : wrap64 (a + 2) = a + 2 := w64 (by omega) (by omega)
  have q3 : wrap64 (a + 3) = a + 3 := w64 (by omega) (by omega)
  have q4 : wrap64 (a + 4) = a + 4 := w64 (by omega) (by omega)
  have v1 : (0 : Int) ≤ a + 1 := by omega
  have v2 : (0 : Int) ≤ a + 2 := by omega
  have v3 : (0 : Int) ≤ a + 3 := by omega
  rcases pow4 h1 h4 with rfl | rfl | rfl | rfl
  · have hz3 : ¬ (l.length : Int) - a < 1 := by omega
    simp [num_Take.f, num_isWide.f, num_Take.j0, num_Take.l0, hz, hz2, ew, hz3, w64, h0, c0, e0, lev, q0, q1, q2, q3, q4]
  · have hz3 : ¬ (l.length : Int) - a < 2 := by omega
    have c1 : a + 1 < l.length := by omega
    simp [num_Take.f, num_isWide.f, num_Take.j0, num_Take.l0, hz, hz2, ew, hz3, w64, h0, c0, c1, e0, e1, lev, q0, q1, q2, q3, q4, v1]
  · have hz3 : ¬ (l.length : Int) - a < 3 := by omega
    have c1 : a + 1 < l.length := by omega
    have c2 : a + 2 < l.length := by omega
    simp [num_Take.f, num_isWide.f, num_Take.j0, num_Take.l0, hz, hz2, ew, hz3, w64, h0, c0, c1, c2, e0, e1, e2, lev, q0, q1, q2, q3, q4, v1, v2]
  · have hz3 : ¬ (l.length : Int) - a < 4 := by omega
    have c1 : a + 1 < l.length := by omega
    have c2 : a + 2 < l.length := by omega
    have c3 : a + 3 < l.length := by omega
    simp [num_Take.f, num_isWide.f, num_Take.j0, num_Take.l0, hz, hz2, ew, hz3, w64, h0, c0, c1, c2, c3, e0, e1, e2, e3, lev, q0, q1, q2, q3, q4, v1, v2, v3]
theorem Take_none (k : Nat) (l : List Int) (a w : Int) (hl : l.length ≤ 140737488355328) (hw : -9223372036854775808 ≤ w) (h : ¬ (1 ≤ w ∧ w ≤ 4 ∧ 0 ≤ a ∧ a + w ≤ l.length)) : num_Take.f (k + 6) l a w = some (0, 0, 2) := by
  by_cases h1 : 1 ≤ w
  · by_cases h4 : w ≤ 4
    · by_cases h0 : 0 ≤ a
      · by_cases h2 : (l.length : Int) < a
        · simp [num_Take.f, num_isWide.f, num_Take.j0, h1, h4, show ¬ a < 0 by omega, h2]
        · have ew : wrap64 ((l.length : Int) - a) = l.length - a := w64 (by omega) (by omega)
          simp [num_Take.f, num_isWide.f, num_Take.j0, h1, h4, show ¬ a < 0 by omega, h2, ew]
          omega
      · simp [num_Take.f, num_isWide.f, num_Take.j0, h1, h4, show a < 0 by omega]
    · simp [num_Take.f, num_isWide.f, num_Take.j0, h1, h4]
  · simp [num_Take.f, num_isWide.f, num_Take.j0, h1]
end Go.Proofs.Ythjnkapkhphpeaa.P
