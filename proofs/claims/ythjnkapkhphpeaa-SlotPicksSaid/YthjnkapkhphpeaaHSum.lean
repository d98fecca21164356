/- num.Sum, walked: the loop over the bytes, and the goto over the bits. -/
import Derived.Test.YthjnkapkhphpeaaP0
import Derived.ScopeJumps
import Derived.Scope
import Derived.WalkMore
namespace Go.Proofs.Ythjnkapkhphpeaa.P
set_option linter.unusedVariables false
set_option linter.unusedSimpArgs false
open Go.RowKit Go.Proofs.YthjnkapkhphpeaaW.PrintWords Go.Proofs.YthjnkapkhphpeaaW.PrintLast Go.Proofs.YthjnkapkhphpeaaW.PrintMore
/-- One step of the register, as Go tells it. -/
def st (n : Int) : Int := if (Go.bits .and .u32 n 1 == 1) = true then Go.bits .xor .u32 (n / 2) 3988292384 else n / 2
def stN : Nat → Int → Int
  | 0, n => n
  | k + 1, n => stN k (st n)
theorem xor_bd (a b : Int) : 0 ≤ Go.bits .xor .u32 a b ∧ Go.bits .xor .u32 a b < 4294967296 := by
  unfold Go.bits
  simp [IntKind.wrap, IntKind.bits, IntKind.signed]
  omega
theorem st_bd {n : Int} (h0 : 0 ≤ n) (h1 : n < 4294967296) : 0 ≤ st n ∧ st n < 4294967296 := by
  unfold st
  split
  · exact xor_bd _ _
  · omega
theorem stN_bd : ∀ k {n : Int}, 0 ≤ n → n < 4294967296 → 0 ≤ stN k n ∧ stN k n < 4294967296
  | 0, _, h0, h1 => ⟨h0, h1⟩
  | k + 1, _, h0, h1 => stN_bd k (st_bd h0 h1).1 (st_bd h0 h1).2
def byteI (n c : Int) : Int := stN 8 (Go.bits .xor .u32 n (c % 4294967296))
def regI (l : List Int) : Int := l.foldl byteI 4294967295
theorem byteI_bd (n c : Int) : 0 ≤ byteI n c ∧ byteI n c < 4294967296 := stN_bd 8 (xor_bd _ _).1 (xor_bd _ _).2
theorem regI_snoc (l : List Int) (k : Nat) (h : k < l.length) : regI (l.take (k + 1)) = byteI (regI (l.take k)) (rd l k) := by
  unfold regI
  rw [List.take_succ_eq_append_getElem h, List.foldl_append]
  simp only [List.foldl_cons, List.foldl_nil]
  congr 1
  simp [rd, h]
theorem step_yes {m : Nat} {z : Int} (h : (Go.bits .and .u32 z 1 == 1) = true) : stN m (Go.bits .xor .u32 (z / 2) 3988292384) = stN (m + 1) z := by
  rw [stN, st, if_pos h]
theorem step_no {m : Nat} {z : Int} (h : (Go.bits .and .u32 z 1 == 1) = false) : stN m (z / 2) = stN (m + 1) z := by
  rw [stN, st, if_neg (by rw [h]; decide)]
theorem half_bd {y : Int} (h0 : 0 ≤ y) (h1 : y < 4294967296) : 0 ≤ y / 2 ∧ y / 2 < 4294967296 := by omega
theorem regI_bd : ∀ l, 0 ≤ regI l ∧ regI l < 4294967296 := by
  intro l
  rcases List.eq_nil_or_concat l with rfl | ⟨l, x, rfl⟩
  · simp [regI]
  · simp only [List.concat_eq_append, regI, List.foldl_append, List.foldl_cons, List.foldl_nil]
    exact byteI_bd _ _
/-- The check sum, as Go tells it. -/
def num_Sum.f (l0 : List Int) : Option Int := if l0.length ≤ 140737488355328 then some (wrap64 (Go.bits .xor .u32 IntKind.u32.max (regI l0))) else none
set_option maxHeartbeats 4000000 in
set_option maxRecDepth 100000 in
theorem sum_walk (A0 : Option Addr) (c0 : Nat) (l0 : List Int) (w : World) (hr0 : Kd.C (Kd.int .u8) w A0 l0.length l0) (hc0 : l0.length ≤ c0) (hl : l0.length ≤ 140737488355328) :
    Calls Try.prog 52 #[.slice A0 l0.length c0] w fun e w' => e = .returned (.int .i64 (wrap64 (Go.bits .xor .u32 IntKind.u32.max (regI l0)))) ∧ Drawn0 w w' := by
  have HR0 := Aside0.mk hr0
  clear hr0
  go_enter Try.func52, Try.ntmps52
  go_wp2
  go_loopw [3, 9] (fun s i wr => ∃ k : Nat, k ≤ l0.length ∧ i = .int .i64 k ∧ wr = w ∧ ∃ x : Int, Aside0 (x = regI (l0.take k)) ∧ 0 ≤ x ∧ x < 4294967296 ∧ s = .int .u32 x) (fun _ i _ => l0.length - (intOf i).toNat)
  case atStart => exact ⟨0, Nat.zero_le _, rfl, rfl, 4294967295, ⟨rfl⟩, by omega, by omega, rfl⟩
  case round =>
    obtain ⟨k, hk, rfl, rfl, x, hx, hx0, hx1, rfl⟩ := hrel
    by_cases hlt : k < l0.length
    · have p1 : (0 : Int) ≤ k := by omega
      have q1 : (k : Int) < l0.length := by omega
      have HX : Aside0 (regI (l0.take (k + 1)) = stN 8 (Go.bits .xor .u32 x (rd l0 k % 4294967296))) := ⟨by rw [regI_snoc l0 k hlt, ← hx.out]; rfl⟩
      obtain ⟨ad, hA, hx⟩ := Kd.at_int HR0.out (k : Int) p1 q1
      cases hA
      rw [Int.toNat_natCast] at hx
      go_wp2
      refine wp_scope_jumps 0 (fun a' w' => w' = wr ∧ ∃ (m : Nat) (y : Int) (v13 v14 v15 v16 v17 v18 v19 v20 v21 v22 v23 v24 v25 v26 v27 v28 : Value), m ≤ 7 ∧ 1 ≤ m ∧ 0 ≤ y ∧ y < 4294967296 ∧ a' = { tmps := #[.slice (some ad) l0.length c0, undef, .int .i64 0, .int .u32 y, undef, .int .u8 (rd l0 ↑k), .int .i64 m, .slice (some ad) l0.length c0, .int .i64 ↑l0.length, .int .i64 ↑k, .bool true, .pointer (some (ad.add k)), .int .u8 (rd l0 ↑k), v13, v14, v15, v16, v17, v18, v19, v20, v21, v22, v23, v24, v25, v26, v27, v28, u29, undef, undef, undef], defers := [] } ∧ stN m y = stN 8 (Go.bits .xor .u32 x (rd l0 ↑k % 4294967296))) (fun a' _ => (intOf (a'.tmps.getD 6 undef)).toNat) rfl ?_ ?_
      · go_wp2
        go_step3
        go_wp2
        all_goals (go_step3; refine ⟨rfl, rfl, 7, _, _, _, _, _, _, _, _, _, _, _, _, _, _, _, _, _, by omega, by omega, ?_, ?_, rfl, ?_⟩)
        · exact (xor_bd _ _).1
        · exact (xor_bd _ _).2
        · exact step_yes (by assumption)
        · have := xor_bd x (rd l0 ↑k % 4294967296); omega
        · have := xor_bd x (rd l0 ↑k % 4294967296); omega
        · exact step_no (by assumption)
      · rintro a' w' ⟨rfl, m, y, v13, v14, v15, v16, v17, v18, v19, v20, v21, v22, v23, v24, v25, v26, v27, v28, hm, hm1, hy0, hy1, rfl, hs⟩
        have HS := Aside0.mk hs
        clear hs
        by_cases hm2 : m = 1
        · subst hm2
          go_wp2
          all_goals simp only [Exit.jump]
          all_goals simp only [Exit.inBlock, Exit.then]
          all_goals go_at_K
          all_goals go_wp2
          · go_roundw
            case rel => exact ⟨k + 1, by omega, by go_num, trivial, _, ⟨(step_yes (by assumption)).trans (HS.out.trans HX.out.symm)⟩, (xor_bd _ _).1, (xor_bd _ _).2, rfl⟩
            case measure => simp [intOf]; omega
          · go_roundw
            case rel => exact ⟨k + 1, by omega, by go_num, trivial, _, ⟨(step_no (by assumption)).trans (HS.out.trans HX.out.symm)⟩, (half_bd hy0 hy1).1, (half_bd hy0 hy1).2, rfl⟩
            case measure => simp [intOf]; omega
        · obtain ⟨j, rfl⟩ : ∃ j, m = j + 2 := ⟨m - 2, by omega⟩
          go_wp2
          all_goals (go_step3; rw [show ((j : Int) + 2 - 1) = ((j + 1 : Nat) : Int) from by omega]; refine ⟨rfl, ⟨rfl, j + 1, _, ⟨_, _, _, _, _, _, _, _, _, _, _, _, _, _, _, _, by omega, by omega, ?_, ?_, rfl, ?_⟩⟩, ?_⟩)
          · exact (xor_bd _ _).1
          · exact (xor_bd _ _).2
          · exact (step_yes (by assumption)).trans HS.out
          · simp [intOf]
          · omega
          · omega
          · exact (step_no (by assumption)).trans HS.out
          · simp [intOf]
    · obtain rfl : k = l0.length := by omega
      rw [List.take_length] at hx
      go_wp2
      go_ret
      exact ⟨by rw [← hx.out]; rfl, Drawn0.refl _⟩
theorem num_Sum.calls (A0 : Option Addr) (c0 : Nat) (l0 : List Int) (r : Int) (w : World) (hr0 : Kd.C (Kd.int .u8) w A0 l0.length l0) (hc0 : l0.length ≤ c0) (h : num_Sum.f l0 = some r) :
    Calls Try.prog 52 #[.slice A0 l0.length c0] w fun e w' => e = .returned (.int .i64 r) ∧ Drawn0 w w' := by
  unfold num_Sum.f at h
  by_cases hl : l0.length ≤ 140737488355328
  · rw [if_pos hl] at h
    injection h with h
    subst h
    exact sum_walk A0 c0 l0 w hr0 hc0 hl
  · rw [if_neg hl] at h
    cases h
end Go.Proofs.Ythjnkapkhphpeaa.P
