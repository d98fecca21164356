/- Texts of this claim's proof put together: F106, HSum, PNum, F68, F32, PTreeT, HIdx, HFl5, HNew, HIdx5, HTodo5, HTask5, HRoots, F89, F63, PHeap0, HRd, F28, F36, F93, HAbove, F74, HHeld. -/
import Derived.Test.YtfmjepmgcdoelaaGreatKMountReads0
namespace Foot
end Foot
namespace Go.Proofs.YtfmjepmgcdoelaaGreat
end Go.Proofs.YtfmjepmgcdoelaaGreat
namespace Go.Proofs.YtfmjepmgcdoelaaGreat.P
end Go.Proofs.YtfmjepmgcdoelaaGreat.P
namespace Go.Proofs.YtfmjepmgcdoelaaGreat.mountReads
end Go.Proofs.YtfmjepmgcdoelaaGreat.mountReads
namespace Go.Proofs.YtfmjepmgcdoelaaGreatW.PrintLast
end Go.Proofs.YtfmjepmgcdoelaaGreatW.PrintLast
namespace Go.Proofs.YtfmjepmgcdoelaaGreatW.PrintMore
end Go.Proofs.YtfmjepmgcdoelaaGreatW.PrintMore
namespace Go.Proofs.YtfmjepmgcdoelaaGreatW.PrintWords
end Go.Proofs.YtfmjepmgcdoelaaGreatW.PrintWords
namespace Kd
end Kd
set_option linter.unusedVariables false
set_option linter.unusedSimpArgs false
set_option maxHeartbeats 8000000
set_option maxRecDepth 100000
namespace Go.Proofs.YtfmjepmgcdoelaaGreat.P
open Go.RowKit Go.Proofs.YtfmjepmgcdoelaaGreatW.PrintWords Go.Proofs.YtfmjepmgcdoelaaGreatW.PrintLast Go.Proofs.YtfmjepmgcdoelaaGreatW.PrintMore
section
attribute [local go_sem] max2_int min2_int max_two min_two max_three min_three max_four min_four
mutual
def num_Put.j0 : Nat → Int → Int → Bool → Option (List Int)
 | 0, _, _, _ => none
 | k + 1, x0, x1, x20 => if x20 = true then (some ([] : List Int)) else (if 0 ≤ x1 then (if (x1 : Int).toNat ≤ 281474976710656 then (num_Put.l0 k x0 (List.replicate (x1 : Int).toNat 0) x1 0) else (none)) else (none))
def num_Put.l0 : Nat → Int → List Int → Int → Int → Option (List Int)
 | 0, _, _, _, _ => none
 | k + 1, x0, x5, x23, x24 => if x24 < x23 then (if 0 ≤ (wrap64 (8 * x24)) then (if 0 ≤ x24 then (if x24 < (x5.length : Int) then (num_Put.l0 k x0 (x5.set (x24 : Int).toNat ((shr .i64 x0 (wrap64 (8 * x24))) % 256)) x23 (wrap64 (x24 + 1))) else (none)) else (none)) else (none)) else (some x5)
end
def num_Put.f (k : Nat) (a0 : Int) (a1 : Int) : Option (List Int) := (num_isWide.f a1).bind fun aA => (if aA = true then (if a0 < 0 then (num_Put.j0 k a0 a1 true) else (if 0 ≤ (wrap64 (8 * a1)) then (num_Put.j0 k a0 a1 (decide ((shr .i64 a0 (wrap64 (8 * a1))) > 0))) else (none))) else (num_Put.j0 k a0 a1 true))
theorem num_Put.calls (k : Nat) (a0 : Int) (a1 : Int) (r : List Int) (w : World) (h : num_Put.f k a0 a1 = some r) :
  Calls Tryz.prog 106 #[.int .i64 a0, .int .i64 a1] w fun e w' => ∃ v0_ : Value, e = .returned (v0_) ∧ Kd.R (Kd.int .u8) 5 w' w.heap.size (fun _ => True) v0_ r ∧ Below w.heap.size w w' := by
 have HB := Zk (Below.refl w.heap.size w)
 have H : ((num_isWide.f a1).bind fun aI => (if aI = true then (if a0 < 0 then (num_Put.j0 k a0 a1 true) else (if 0 ≤ (wrap64 (8 * a1)) then (num_Put.j0 k a0 a1 (decide ((shr .i64 a0 (wrap64 (8 * a1))) > 0))) else (none))) else (num_Put.j0 k a0 a1 true))) = some r := h
 clear h
 have HC3 := Zk H
 clear H
 go_enter Tryz.func106, Tryz.ntmps106
 go_upto_region 1 with (fail)
 go_cut [20] (fun v20 wc => ∃ (kq : Nat) (aD : Bool), v20 = .bool aD ∧ Aside0 (num_Put.j0 kq a0 a1 aD = some r) ∧ Aside0 (kq ≤ k) ∧ Aside0 (Below w.heap.size w wc))
 case first =>
  have H := HC3.out
  clear HC3
  replace H := Option.bind_eq_some_iff.mp H
  obtain ⟨aI, A40, H⟩ := H
  (try dsimp only at H)
  have A4 := Zk A40
  clear A40
  by_cases c5 : aI = true
  case neg =>
   replace c5 := Bool.eq_false_iff.mpr c5
   subst c5
   rw [if_neg (show ¬ (false = true) by decide)] at H
   have H' := Zk H
   clear H
   go_wp2_with (first | (refine gc_ 103 ?_; refine gl_ 103 (some 8) #[.int .i64 a1] Tryz.func103 ?_; (with_reducible refine (num_isWide.calls a1 false _ A4.out).mono ?_); rintro e w' ⟨rfl, ⟨nd, rfl⟩⟩; refine ⟨_, rfl, ?_⟩))
   go_meet
   case rel => exact ⟨_, (true), q_, H', ⟨by first | omega | exact Nat.le_refl _⟩, ⟨bl_ HB⟩⟩
  subst c5
  rw [if_pos rfl] at H
  by_cases c6 : a0 < 0
  case pos =>
   rw [if_pos c6] at H
   have aB := decide_eq_true c6
   clear c6
   (first | rw [aB] | (simp only [i64_w, i32_w]; rw [aB]) | skip)
   have H' := Zk H
   clear H
   go_wp2_with (first | (refine gc_ 103 ?_; refine gl_ 103 (some 8) #[.int .i64 a1] Tryz.func103 ?_; (with_reducible refine (num_isWide.calls a1 true _ A4.out).mono ?_); rintro e w' ⟨rfl, ⟨nd, rfl⟩⟩; refine ⟨_, rfl, ?_⟩))
   go_meet
   case rel => exact ⟨_, (true), q_, H', ⟨by first | omega | exact Nat.le_refl _⟩, ⟨bl_ HB⟩⟩
  rw [if_neg c6] at H
  have aB := decide_eq_false c6
  clear c6
  (first | rw [aB] | (simp only [i64_w, i32_w]; rw [aB]) | skip)
  obtain ⟨ji7, hji7⟩ : ∃ j_ : Int, (wrap64 (8 * a1)) = j_ := ⟨_, rfl⟩
  first | rw [hji7] at H | simp only [hji7] at H
  (try rw [hji7] at A4)
  have hji7w : (IntKind.i64.wrap (8 * a1)) = ji7 := (i64_w _).trans hji7
  by_cases c8 : 0 ≤ (ji7)
  case neg => exact no_ c8 H
  rw [if_pos c8] at H
  have aJ := eq_true c8
  have aK := decide_eq_true c8
  clear c8
  obtain ⟨ji9, hji9⟩ : ∃ j_ : Int, (shr .i64 a0 (ji7)) = j_ := ⟨_, rfl⟩
  first | rw [hji9] at H | simp only [hji9] at H
  (try rw [hji9] at A4)
  have hji9_ : (a0 / 2 ^ min (ji7).toNat 64) = ji9 := hji9
  have hji9z : (ji7) ≤ 64 → (a0 / 2 ^ (ji7).toNat) = ji9 := shr_small hji9
  have H' := Zk H
  clear H
  go_wp2_with (first | (refine gc_ 103 ?_; refine gl_ 103 (some 8) #[.int .i64 a1] Tryz.func103 ?_; (with_reducible refine (num_isWide.calls a1 true _ A4.out).mono ?_); rintro e w' ⟨rfl, ⟨nd, rfl⟩⟩; refine ⟨_, rfl, ?_⟩))
  go_meet
  case rel => exact ⟨_, (decide ((ji9) > 0)), (by first | rfl | (simp; done) | (simp only [← hji9] <;> (first | rfl | simp)) | (simp [*]; done)), H', ⟨by first | omega | exact Nat.le_refl _⟩, ⟨bl_ HB⟩⟩
 case rest =>
  clear HC3
  try clear aB
  try clear aJ
  try clear aK
  obtain ⟨kq, aD, rfl, HA, HJ2, HB⟩ := hcut
  cases kq with
  | zero => exact absurd HA.out (by simp [num_Put.j0])
  | succ kj2 =>
   have H := HA.out
   clear HA
   simp only [num_Put.j0] at H
   by_cases c10 : aD = true
   case pos =>
    subst c10
    rw [if_pos rfl] at H
    obtain rfl := Option.some.inj H
    go_wp2
    go_ret
    exact ⟨_, e_, by first | exact Kd.R_nil _ _ _ _ _ | exact Kd.N_nil _ _ _ _ _ | exact Kd.V_nil _ _ _ _ _ | exact Kd.Q_nil _ _ _ _ _ | exact Kd.S_nil _ _ _ _ _, bl_ HB⟩
   replace c10 := Bool.eq_false_iff.mpr c10
   subst c10
   rw [if_neg (show ¬ (false = true) by decide)] at H
   by_cases c11 : 0 ≤ a1
   case neg => exact no_ c11 H
   rw [if_pos c11] at H
   have aL := eq_true c11
   have aM := decide_eq_true c11
   clear c11
   by_cases c12 : (a1 : Int).toNat ≤ 281474976710656
   case neg => exact no_ c12 H
   rw [if_pos c12] at H
   have aN := eq_true c12
   have aO := decide_eq_true c12
   clear c12
   obtain ⟨aV, aE⟩ : ∃ y_ : List Int, y_ = (List.replicate (a1 : Int).toNat 0) := ⟨_, rfl⟩
   first | replace H := bnd_ aE H | rw [← aE] at H
   have aH := Zk aE
   clear aE
   have H' := Zk H
   clear H
   go_wp2_with (first | (refine gd_ 22 ?_; refine Kd.R_make (Kd.int .u8) _ 5 rfl (N := 22) rfl 54 _ _ rfl a1 rfl rfl Tryz.underlying54 (.int .u8 0) 1 info5 rfl (by decide) (by omega) 0 (ok := fun _ => True) (okp := fun _ => True) rfl (fun _ hk => hk) trivial (of_decide_eq_true as_) (Nat.le_trans (Nat.mul_le_mul_right _ (of_decide_eq_true as_ : a1.toNat ≤ 281474976710656)) (by omega)) (Below.refl _ _) (Nat.le_refl _) ?_; intro aW w13 ho14 hb hg_ hnew_; clear hg_ hnew_; (first | rw [← aH.out] at ho14 | (simp only [Int.reduceToNat] at ho14; rw [← aH.out] at ho14)); have aP := Zk (Kd.R_lower ho14 (below_size (bl_ HB))); replace HB := al_ HB hb; clear hb ho14))
   go_loopg [24] kj2 (fun kq v24 w' => ∃ (aC : List Int) (aA : Int), v24 = .int .i64 aA ∧ Aside0 (num_Put.l0 kq a0 aC a1 aA = some r) ∧ Aside0 (kq ≤ kj2) ∧ Aside0 (Kd.R (Kd.int .u8) 5 w' w.heap.size (fun _ => True) aW aC) ∧ Aside0 (Below w.heap.size w w'))
   case atStart => exact ⟨(aV), (0), q_, H', ⟨Nat.le_refl _⟩, ⟨r_ aP⟩, ⟨bl_ HB⟩⟩
   case round =>
    clear H'
    try clear aB
    try clear aJ
    try clear aK
    try clear aL
    try clear aM
    try clear aN
    try clear aO
    obtain ⟨aC, aA, rfl, HA, HK2, aG, HB⟩ := hrel
    cases gk with
    | zero => exact absurd HA.out (by simp [num_Put.l0])
    | succ k2 =>
     have H := HA.out
     clear HA
     simp only [num_Put.l0] at H
     by_cases c15 : aA < a1
     case neg =>
      rw [if_neg c15] at H
      have aQ := decide_eq_false c15
      clear c15
      obtain rfl := Option.some.inj H
      go_wp2
      go_ret
      exact ⟨_, e_, r_ aG, bl_ HB⟩
     rw [if_pos c15] at H
     have aQ := decide_eq_true c15
     clear c15
     obtain ⟨ji16, hji16⟩ : ∃ j_ : Int, (wrap64 (8 * aA)) = j_ := ⟨_, rfl⟩
     first | rw [hji16] at H | simp only [hji16] at H
     have hji16w : (IntKind.i64.wrap (8 * aA)) = ji16 := (i64_w _).trans hji16
     by_cases c17 : 0 ≤ (ji16)
     case neg => exact no_ c17 H
     rw [if_pos c17] at H
     have aZ := eq_true c17
     have bA := decide_eq_true c17
     clear c17
     obtain ⟨ji18, hji18⟩ : ∃ j_ : Int, (shr .i64 a0 (ji16)) = j_ := ⟨_, rfl⟩
     first | rw [hji18] at H | simp only [hji18] at H
     have hji18_ : (a0 / 2 ^ min (ji16).toNat 64) = ji18 := hji18
     have hji18z : (ji16) ≤ 64 → (a0 / 2 ^ (ji16).toNat) = ji18 := shr_small hji18
     by_cases c19 : 0 ≤ aA
     case neg => exact no_ c19 H
     rw [if_pos c19] at H
     have bB := decide_eq_true c19
     clear c19
     by_cases c20 : aA < (aC.length : Int)
     case neg => exact no_ c20 H
     rw [if_pos c20] at H
     have bC := decide_eq_true c20
     clear c20
     obtain ⟨aR, aF⟩ : ∃ y_ : List Int, y_ = (aC.set (aA : Int).toNat ((ji18) % 256)) := ⟨_, rfl⟩
     first | replace H := bnd_ aF H | rw [← aF] at H
     have aS := Zk aF
     clear aF
     have H' := Zk H
     clear H
     have p21 : 0 ≤ (aA : Int) := of_decide_eq_true as_
     have q21 : (aA : Int) < ((aC.length : Int) : Int) := of_decide_eq_true as_
     obtain ⟨go21, aX, aT, aU, gl21, cl21, HG21⟩ := Kd.R_form aG.out (by omega)
     (first | cases aT | (injection aT with ea_ en_ ec_; (first | subst ea_ | (injection ea_ with ea_; subst ea_)); subst ec_; clear en_))
     have GB21 := Zk aU
     have GG21 := Zk HG21
     clear aU gl21 HG21
     obtain ⟨aY, hf21_0⟩ := Kd.R_celln 0 aG.out (aA : Int) p21 q21
     replace p21 := eq_true p21
     replace q21 := eq_true q21
     have HP22 := Kd.R_putg aG.out (aA : Int) ((ji18) % 256)
     go_wp2_with (first | ((with_reducible refine gate_store (t := 5) (p := 34) rfl ?_); refine store_event (t := 5) (p := 34) (v := ?vo_w23) (w1 := (wr.setCell ⟨go21, (aA : Int).toNat, none⟩ (.int .u8 ((ji18) % 256)))) ?hg ?ho ?hn ?hr ?_; (case ho => rfl); (case hg => rfl); (case hn => rfl); (case hr => first | (go_simp; done) | (go_simp; rfl)); intro w23 hw; have hg : wr.grownBy w23 (some go21) := (by rw [hw]; exact HP22.2); have hp_ : Kd.R (Kd.int .u8) 5 w23 w.heap.size (fun _ => True) (.slice (some ⟨go21, 0, none⟩) aC.length aX) aR := (by rw [hw, aS.out]; exact HP22.1); clear HP22; replace aG := Zk (hp_); replace HB := Zk ((by rw [hw]; exact below_set (HB.out) GB21.out : Below w.heap.size w w23)); clear hg hw hp_))
     go_roundg k2
     case measure => have := HJ2.out; have := HK2.out; omega
     case rel => exact ⟨(aR), (wrap64 (aA + 1)), q_, H', ⟨by have := HJ2.out; have := HK2.out; omega⟩, ⟨r_ aG⟩, ⟨bl_ HB⟩⟩
end
def st (n : Int) : Int := if (Go.bits .and .u32 n 1 == 1) = true then Go.bits .xor .u32 (n / 2) 3988292384 else n / 2
def stN : Nat → Int → Int
 | 0, n => n
 | k + 1, n => stN k (st n)
theorem xor_bd (a b : Int) : 0 ≤ Go.bits .xor .u32 a b ∧ Go.bits .xor .u32 a b < 4294967296 := by
 unfold Go.bits
 simp [IntKind.wrap, IntKind.bits, IntKind.signed]
 omega
def byteI (n c : Int) : Int := stN 8 (Go.bits .xor .u32 n (c % 4294967296))
def regI (l : List Int) : Int := l.foldl byteI 4294967295
theorem regI_snoc (l : List Int) (k : Nat) (h : k < l.length) : regI (l.take (k + 1)) = byteI (regI (l.take k)) (rd l k) := by
 unfold regI
 rw [List.take_succ_eq_append_getElem h, List.foldl_append]
 simp only [List.foldl_cons, List.foldl_nil]
 congr 1
 simp [rd, h]
theorem step_yes {m : Nat} {z : Int} (h : (Go.bits .and .u32 z 1 == 1) = true) : stN m (Go.bits .xor .u32 (z / 2) 3988292384) = stN (m + 1) z := by
 rw [stN, st, if_pos h]
theorem step_no {m : Nat} {z : Int} (h : (Go.bits .and .u32 z 1 == 1) = false) : stN m (z / 2) = stN (m + 1) z := by
 rw [stN, st, if_neg (by rw [h]; decide)]
theorem half_bd {y : Int} (h0 : 0 ≤ y) (h1 : y < 4294967296) : 0 ≤ y / 2 ∧ y / 2 < 4294967296 := by omega
def num_Sum.f (l0 : List Int) : Option Int := if l0.length ≤ 140737488355328 then some (wrap64 (Go.bits .xor .u32 IntKind.u32.max (regI l0))) else none
theorem sum_walk (A0 : Option Addr) (c0 : Nat) (l0 : List Int) (w : World) (hr0 : Kd.C (Kd.int .u8) w A0 l0.length l0) (hc0 : l0.length ≤ c0) (hl : l0.length ≤ 140737488355328) :
  Calls Tryz.prog 20 #[.slice A0 l0.length c0] w fun e w' => e = .returned (.int .i64 (wrap64 (Go.bits .xor .u32 IntKind.u32.max (regI l0)))) ∧ Drawn0 w w' := by
 have HR0 := Zk hr0
 clear hr0
 go_enter Tryz.func20, Tryz.ntmps20
 go_wp2
 go_loopw [3, 9] (fun s i wr => ∃ k : Nat, k ≤ l0.length ∧ i = .int .i64 k ∧ wr = w ∧ ∃ x : Int, Aside0 (x = regI (l0.take k)) ∧ 0 ≤ x ∧ x < 4294967296 ∧ s = .int .u32 x) (fun _ i _ => l0.length - (intOf i).toNat)
 case atStart => exact ⟨0, Nat.zero_le _, rfl, rfl, 4294967295, ⟨rfl⟩, by omega, by omega, rfl⟩
 case round =>
  obtain ⟨k, hk, rfl, rfl, x, hx, hx0, hx1, rfl⟩ := hrel
  by_cases hlt : k < l0.length
  case neg =>
   obtain rfl : k = l0.length := by omega
   rw [List.take_length] at hx
   go_wp2
   go_ret
   exact ⟨by rw [← hx.out]; rfl, Drawn0.refl _⟩
  have p1 : (0 : Int) ≤ k := by omega
  have q1 : (k : Int) < l0.length := by omega
  have HX : Aside0 (regI (l0.take (k + 1)) = stN 8 (Go.bits .xor .u32 x (rd l0 k % 4294967296))) := ⟨by rw [regI_snoc l0 k hlt, ← hx.out]; rfl⟩
  obtain ⟨ad, hA, hx⟩ := Kd.at_int HR0.out (k : Int) p1 q1
  cases hA
  rw [Int.toNat_natCast] at hx
  go_wp2
  refine wp_scope_jumps 0 (fun a' w' => w' = wr ∧ ∃ (m : Nat) (y : Int) (v13 v14 v15 v16 v17 v18 v19 v20 v21 v22 v23 v24 v25 v26 v27 v28 : Value), m ≤ 7 ∧ 1 ≤ m ∧ 0 ≤ y ∧ y < 4294967296 ∧ a' = { tmps := #[.slice (some ad) l0.length c0, undef, .int .i64 0, .int .u32 y, undef, .int .u8 (rd l0 ↑k), .int .i64 m, .slice (some ad) l0.length c0, .int .i64 ↑l0.length, .int .i64 ↑k, .bool true, .pointer (some (ad.add k)), .int .u8 (rd l0 ↑k), v13, v14, v15, v16, v17, v18, v19, v20, v21, v22, v23, v24, v25, v26, v27, v28, u29, undef, undef, undef], defers := [] } ∧ stN m y = stN 8 (Go.bits .xor .u32 x (rd l0 ↑k % 4294967296))) (fun a' _ => (intOf (a'.tmps.getD 6 undef)).toNat) rfl ?_ ?_
  ·go_wp2
   go_step3
   go_wp2
   all_goals (go_step3; refine ⟨rfl, rfl, 7, _, _, _, _, _, _, _, _, _, _, _, _, _, _, _, _, _, by omega, by omega, ?_, ?_, rfl, ?_⟩)
   ·exact (xor_bd _ _).1
   ·exact (xor_bd _ _).2
   ·exact step_yes (by assumption)
   ·have := xor_bd x (rd l0 ↑k % 4294967296); omega
   ·have := xor_bd x (rd l0 ↑k % 4294967296); omega
   ·exact step_no (by assumption)
  ·rintro a' w' ⟨rfl, m, y, v13, v14, v15, v16, v17, v18, v19, v20, v21, v22, v23, v24, v25, v26, v27, v28, hm, hm1, hy0, hy1, rfl, hs⟩
   have HS := Zk hs
   clear hs
   by_cases hm2 : m = 1
   case neg =>
    obtain ⟨j, rfl⟩ : ∃ j, m = j + 2 := ⟨m - 2, by omega⟩
    go_wp2
    all_goals (go_step3; rw [show ((j : Int) + 2 - 1) = ((j + 1 : Nat) : Int) from by omega]; refine ⟨rfl, ⟨rfl, j + 1, _, ⟨_, _, _, _, _, _, _, _, _, _, _, _, _, _, _, _, by omega, by omega, ?_, ?_, rfl, ?_⟩⟩, ?_⟩)
    ·exact (xor_bd _ _).1
    ·exact (xor_bd _ _).2
    ·exact (step_yes (by assumption)).trans HS.out
    ·simp [intOf]
    ·omega
    ·omega
    ·exact (step_no (by assumption)).trans HS.out
    ·simp [intOf]
   subst hm2
   go_wp2
   all_goals simp only [Exit.jump]
   all_goals simp only [Exit.inBlock, Exit.then]
   all_goals go_at_K
   all_goals go_wp2
   ·go_roundw
    case rel => exact ⟨k + 1, by omega, by go_num, trivial, _, ⟨(step_yes (by assumption)).trans (HS.out.trans HX.out.symm)⟩, (xor_bd _ _).1, (xor_bd _ _).2, rfl⟩
    case measure => simp [intOf]; omega
   ·go_roundw
    case rel => exact ⟨k + 1, by omega, by go_num, trivial, _, ⟨(step_no (by assumption)).trans (HS.out.trans HX.out.symm)⟩, (half_bd hy0 hy1).1, (half_bd hy0 hy1).2, rfl⟩
    case measure => simp [intOf]; omega
theorem num_Sum.calls (A0 : Option Addr) (c0 : Nat) (l0 : List Int) (r : Int) (w : World) (hr0 : Kd.C (Kd.int .u8) w A0 l0.length l0) (hc0 : l0.length ≤ c0) (h : num_Sum.f l0 = some r) :
  Calls Tryz.prog 20 #[.slice A0 l0.length c0] w fun e w' => e = .returned (.int .i64 r) ∧ Drawn0 w w' := by
 unfold num_Sum.f at h
 by_cases hl : l0.length ≤ 140737488355328
 case neg =>
  rw [if_neg hl] at h
  cases h
 rw [if_pos hl] at h
 injection h with h
 subst h
 exact sum_walk A0 c0 l0 w hr0 hc0 hl
theorem w64 {x : Int} (h0 : -9223372036854775808 ≤ x) (h1 : x ≤ 9223372036854775807) : wrap64 x = x := by unfold wrap64; omega
def le4 (n : Int) : List Int := [n % 256, n / 256 % 256, n / 65536 % 256, n / 16777216 % 256]
def le (n w : Int) : List Int := (le4 n).take w.toNat
theorem pow4 {w : Int} (h1 : 1 ≤ w) (h4 : w ≤ 4) : w = 1 ∨ w = 2 ∨ w = 3 ∨ w = 4 := by omega
theorem Put_val (k : Nat) (n w : Int) (h1 : 1 ≤ w) (h4 : w ≤ 4) (h0 : 0 ≤ n) (hn : n < 256 ^ w.toNat) : num_Put.f (k + 6) n w = some (le n w) := by
 rcases pow4 h1 h4 with rfl | rfl | rfl | rfl
 all_goals
  simp at hn
  have hz : ¬ n < 0 := by omega
  simp [num_Put.f, num_isWide.f, num_Put.j0, num_Put.l0, wrap64, shr, hz, IntKind.bits, le, le4]
  omega
theorem or_comm64 (x y : Int) : Go.bits .or .i64 x y = Go.bits .or .i64 y x := by
 simp only [Go.bits]
 rw [BitVec.or_comm]
theorem wrap_i64 (n : Int) (h0 : 0 ≤ n) (h1 : n < 2 ^ 63) : IntKind.i64.wrap n = n := by rw [IntKind.wrap_i64]; omega
theorem or_shl (x b : Int) (i : Nat) (hi : i ≤ 3) (h0 : 0 ≤ x) (h1 : x < 2 ^ (8 * i)) (hb : 0 ≤ b) (hb1 : b < 256) : Go.bits .or .i64 x (shl .i64 (wrap64 b) ((8 * i : Nat) : Int)) = x + 2 ^ (8 * i) * b := by
 have e : shl .i64 (wrap64 b) ((8 * i : Nat) : Int) = 2 ^ (8 * i) * b := by
  rw [w64 (by omega) (by omega)]
  unfold shl
  rw [Int.toNat_natCast, Nat.min_eq_left (by simp [IntKind.bits]; omega), Int.mul_comm]
  rcases (show i = 0 ∨ i = 1 ∨ i = 2 ∨ i = 3 by omega) with rfl | rfl | rfl | rfl <;> simp <;> rw [wrap_i64 _ (by omega) (by omega)]
 rw [e, or_comm64]
 have hj : ∀ m : Nat, m ≤ 24 → (2 : Int) ^ m * b % 2 ^ m = 0 := fun m _ => Int.mul_emod_right _ _
 have hz := hj (8 * i) (by omega)
 have hlt : (2 : Int) ^ (8 * i) * b < 2 ^ 63 ∧ 0 ≤ (2 : Int) ^ (8 * i) * b ∧ (2 : Int) ^ (8 * i) < 2 ^ 63 := by
  rcases (show i = 0 ∨ i = 1 ∨ i = 2 ∨ i = 3 by omega) with rfl | rfl | rfl | rfl <;> simp <;> omega
 rw [bits_join .i64 63 (by decide) wrap_i64 (8 * i) _ x hlt.2.1 hz hlt.1 h0 h1 (by omega)]
 omega
theorem lt_of_all {l : List Int} (hb : ∀ x ∈ l, 0 ≤ x ∧ x < 256) (i : Int) : 0 ≤ rd l i ∧ rd l i < 256 := by
 unfold rd
 rw [List.getD_eq_getElem?_getD]
 cases h : l[i.toNat]? with
 | none => simp
 | some x => simpa using hb x (List.mem_of_getElem? h)
def lev (l : List Int) (a w : Int) : Int := rd l a + (if 1 < w then 256 * rd l (a + 1) else 0) + (if 2 < w then 65536 * rd l (a + 2) else 0) + (if 3 < w then 16777216 * rd l (a + 3) else 0)
theorem Take_val (k : Nat) (l : List Int) (a w : Int) (hl : l.length ≤ 140737488355328) (hb : ∀ x ∈ l, 0 ≤ x ∧ x < 256) (h1 : 1 ≤ w) (h4 : w ≤ 4) (h0 : 0 ≤ a) (ha : a + w ≤ l.length) : num_Take.f (k + 6) l a w = some (lev l a w, a + w, 0) := by
 have b0 := lt_of_all hb a
 have b1 := lt_of_all hb (a + 1)
 have b2 := lt_of_all hb (a + 2)
 have b3 := lt_of_all hb (a + 3)
 have hz : ¬ a < 0 := by omega
 have hz2 : ¬ (l.length : Int) < a := by omega
 have e0 := or_shl 0 (rd l a) 0 (by omega) (by omega) (by omega) b0.1 b0.2
 have e1 := or_shl (rd l a) (rd l (a + 1)) 1 (by omega) b0.1 (by omega) b1.1 b1.2
 have e2 := or_shl (rd l a + 256 * rd l (a + 1)) (rd l (a + 2)) 2 (by omega) (by omega) (by omega) b2.1 b2.2
 have e3 := or_shl (rd l a + 256 * rd l (a + 1) + 65536 * rd l (a + 2)) (rd l (a + 3)) 3 (by omega) (by omega) (by omega) b3.1 b3.2
 simp at e0 e1 e2 e3
 have ew : wrap64 ((l.length : Int) - a) = l.length - a := w64 (by omega) (by omega)
 have c0 : a < l.length := by omega
 have q0 : wrap64 a = a := w64 (by omega) (by omega)
 have q1 : wrap64 (a + 1) = a + 1 := w64 (by omega) (by omega)
 have q2 : wrap64 (a + 2) = a + 2 := w64 (by omega) (by omega)
 have q3 : wrap64 (a + 3) = a + 3 := w64 (by omega) (by omega)
 have q4 : wrap64 (a + 4) = a + 4 := w64 (by omega) (by omega)
 have v1 : (0 : Int) ≤ a + 1 := by omega
 have v2 : (0 : Int) ≤ a + 2 := by omega
 have v3 : (0 : Int) ≤ a + 3 := by omega
 rcases pow4 h1 h4 with rfl | rfl | rfl | rfl
 ·have hz3 : ¬ (l.length : Int) - a < 1 := by omega
  simp [num_Take.f, num_isWide.f, num_Take.j0, num_Take.l0, hz, hz2, ew, hz3, w64, h0, c0, e0, lev, q0, q1, q2, q3, q4]
 ·have hz3 : ¬ (l.length : Int) - a < 2 := by omega
  have c1 : a + 1 < l.length := by omega
  simp [num_Take.f, num_isWide.f, num_Take.j0, num_Take.l0, hz, hz2, ew, hz3, w64, h0, c0, c1, e0, e1, lev, q0, q1, q2, q3, q4, v1]
 ·have hz3 : ¬ (l.length : Int) - a < 3 := by omega
  have c1 : a + 1 < l.length := by omega
  have c2 : a + 2 < l.length := by omega
  simp [num_Take.f, num_isWide.f, num_Take.j0, num_Take.l0, hz, hz2, ew, hz3, w64, h0, c0, c1, c2, e0, e1, e2, lev, q0, q1, q2, q3, q4, v1, v2]
 ·have hz3 : ¬ (l.length : Int) - a < 4 := by omega
  have c1 : a + 1 < l.length := by omega
  have c2 : a + 2 < l.length := by omega
  have c3 : a + 3 < l.length := by omega
  simp [num_Take.f, num_isWide.f, num_Take.j0, num_Take.l0, hz, hz2, ew, hz3, w64, h0, c0, c1, c2, c3, e0, e1, e2, e3, lev, q0, q1, q2, q3, q4, v1, v2, v3]
theorem Take_none (k : Nat) (l : List Int) (a w : Int) (hl : l.length ≤ 140737488355328) (hw : -9223372036854775808 ≤ w) (h : ¬ (1 ≤ w ∧ w ≤ 4 ∧ 0 ≤ a ∧ a + w ≤ l.length)) : num_Take.f (k + 6) l a w = some (0, 0, 2) := by
 by_cases h1 : 1 ≤ w
 case neg => simp [num_Take.f, num_isWide.f, num_Take.j0, h1]
 by_cases h4 : w ≤ 4
 case neg => simp [num_Take.f, num_isWide.f, num_Take.j0, h1, h4]
 by_cases h0 : 0 ≤ a
 case neg => simp [num_Take.f, num_isWide.f, num_Take.j0, h1, h4, show a < 0 by omega]
 by_cases h2 : (l.length : Int) < a
 case pos => simp [num_Take.f, num_isWide.f, num_Take.j0, h1, h4, show ¬ a < 0 by omega, h2]
 have ew : wrap64 ((l.length : Int) - a) = l.length - a := w64 (by omega) (by omega)
 simp [num_Take.f, num_isWide.f, num_Take.j0, h1, h4, show ¬ a < 0 by omega, h2, ew]
 omega
section
attribute [local go_sem] max2_int min2_int max_two min_two max_three min_three max_four min_four
mutual
def tree_whole.j0 : Nat → Int → List (S84) → Bool → List (S65) → Int → Bool → List (S84) → Option (Int × Int × Bool)
 | 0, _, _, _, _, _, _, _ => none
 | k + 1, x2, x9, x36, aB, aC, aE, aF => if x36 = true then (if 0 < (x9.length : Int) then (if 0 ≤ (wrap64 ((x9.length : Int) - 1)) then (if (wrap64 ((x9.length : Int) - 1)) < (x9.length : Int) then (if aE = true then (some ((rd_T84 x9 0).f0, (rd_T84 x9 (wrap64 ((x9.length : Int) - 1))).f0, (x2 == 1))) else (some ((rd_T84 x9 0).f0, (rd_T84 x9 (wrap64 ((x9.length : Int) - 1))).f0, false))) else (none)) else (none)) else (none)) else (if 0 < (x9.length : Int) then (tree_whole.l0 k x2 x9 (x9.length : Int) 0 aB aC ((rd_T84 x9 0).f0) 0) else (none))
def tree_whole.l0 : Nat → Int → List (S84) → Int → Int → List (S65) → Int → Int → Int → Option (Int × Int × Bool)
 | 0, _, _, _, _, _, _, _, _ => none
 | k + 1, x2, x60, x61, x62, aB, aC, aA, aD => if x62 < x61 then (if 0 ≤ x62 then (if x62 < (x60.length : Int) then ((tree_whole.f k aB aC ((rd_T84 x60 x62).f1) (wrap64 (x2 - 1))).bind fun bt758 => (if bt758.2.2 = true then (if bt758.1 = ((rd_T84 x60 x62).f0) then (if x62 > 0 then (if aD ≥ ((rd_T84 x60 x62).f0) then (some (aA, aD, false)) else (tree_whole.l0 k x2 x60 x61 (wrap64 (x62 + 1)) aB aC aA bt758.2.1)) else (tree_whole.l0 k x2 x60 x61 (wrap64 (x62 + 1)) aB aC aA bt758.2.1)) else (some (aA, aD, false))) else (some (aA, aD, false)))) else (none)) else (none)) else (some (aA, aD, true))
def tree_whole.f : Nat → List (S65) → Int → Int → Int → Option (Int × Int × Bool)
 | 0, _, _, _, _ => none
 | k + 1, l0_0, a0_1, a1, a2 => if 0 ≤ a1 then (if a1 < (l0_0.length : Int) then (if ((rd_T65 l0_0 a1).f0) = 0 then (some (0, 0, false)) else (if (rd_T65 l0_0 a1).f2.f0 = true then (tree_whole.j0 k a2 ((rd_T65 l0_0 a1).f2.f1) true l0_0 a0_1 ((rd_T65 l0_0 a1).f2.f0) ((rd_T65 l0_0 a1).f2.f1)) else (tree_whole.j0 k a2 ((rd_T65 l0_0 a1).f2.f1) (a2 == 1) l0_0 a0_1 ((rd_T65 l0_0 a1).f2.f0) ((rd_T65 l0_0 a1).f2.f1)))) else (none)) else (none)
end
def tree_whole.T6 : Bool × List (List Nat × List Nat) := (true, [([], []), ([0], [0]), ([1], [1]), ([2], [2]), ([], []), ([], []), ([5], [5]), ([6], [6]), ([4, 7], [4, 7]), ([8], [8]), ([9], [9]), ([3, 10], [3, 10]), ([], []), ([12], [12]), ([13], [13]), ([14], [14]), ([15, 14], [14, 15]), ([14, 16], [14, 16]), ([11, 14, 0, 1, 2, 3, 4, 5, 6, 7, 8, 9, 10, 11], [11]), ([17, 18, 0, 1, 2, 3, 4, 5, 6, 7, 8, 9, 10, 11, 12, 13, 14, 15, 16, 17, 18], [17])])
def tree_whole.B6 : List Nat := [0, 1, 3, 7, 0, 0, 32, 96, 240, 496, 1008, 2047, 0, 4096, 12288, 28672, 61440, 126976, 32767, 524287]
theorem tree_whole.tab6 : rtab .any (opsOf Tryz.f68 6) = tree_whole.T6 := by kernel_rfl
theorem tree_whole.bits6 : waitsOk tree_whole.T6.2 tree_whole.B6 = true := by kernel_rfl
theorem tree_whole.calls (k : Nat) : ∀ (A0_0 : Option Addr) (c0_0 : Nat) (l0_0 : List (S65)) (a0_1 : Int) (a1 : Int) (a2 : Int) (r1 : Int) (r2 : Int) (r3 : Bool) (w : World) (hr0_0 : Kd.C k65 w A0_0 l0_0.length l0_0) (hc0_0 : l0_0.length ≤ c0_0) (h : tree_whole.f k l0_0 a0_1 a1 a2 = some (r1, r2, r3)),
  Calls Tryz.prog 68 #[.agg #[.slice A0_0 l0_0.length c0_0, .int .i64 a0_1], .int .i64 a1, .int .i64 a2] w fun e w' => e = .returned (.tuple #[.agg #[.int .i64 r1, .int .i64 r2], .bool r3]) ∧ Below w.heap.size w w' := by
 induction k using Nat.strongRecOn with
 | _ k ih =>
 intro A0_0 c0_0 l0_0 a0_1 a1 a2 r1 r2 r3 w hr0_0 hc0_0 h
 cases k with
 | zero => exact absurd h (by simp [tree_whole.f])
 | succ k =>
 simp only [tree_whole.f] at h
 have hu30 := Tryz.underlying30
 have hu130 := Tryz.underlying130
 have hu63 := Tryz.underlying63
 have hu84 := Tryz.underlying84
 have cT := Zk hr0_0
 have dB := Zk hc0_0
 clear hr0_0 hc0_0
 have HB := Zk (Below.refl w.heap.size w)
 have H : (if 0 ≤ a1 then (if a1 < (l0_0.length : Int) then (if ((rd_T65 l0_0 a1).f0) = 0 then (some (0, 0, false)) else (if (rd_T65 l0_0 a1).f2.f0 = true then (tree_whole.j0 k a2 ((rd_T65 l0_0 a1).f2.f1) true l0_0 a0_1 ((rd_T65 l0_0 a1).f2.f0) ((rd_T65 l0_0 a1).f2.f1)) else (tree_whole.j0 k a2 ((rd_T65 l0_0 a1).f2.f1) (a2 == 1) l0_0 a0_1 ((rd_T65 l0_0 a1).f2.f0) ((rd_T65 l0_0 a1).f2.f1)))) else (none)) else (none)) = some (r1, r2, r3) := h
 clear h
 by_cases c4 : 0 ≤ a1
 case neg => exact no_ c4 H
 rw [if_pos c4] at H
 have eH := decide_eq_true c4
 clear c4
 by_cases c5 : a1 < (l0_0.length : Int)
 case neg => exact no_ c5 H
 rw [if_pos c5] at H
 have eI := decide_eq_true c5
 clear c5
 by_cases c6 : ((rd_T65 l0_0 a1).f0) = 0
 case pos =>
  rw [if_pos c6] at H
  have dX := beq_iff_eq.mpr c6
  have dY := bne_eq_false_iff_eq.mpr c6
  clear c6
  simp only [Option.some.injEq, Prod.mk.injEq] at H
  obtain ⟨rfl, rfl, rfl⟩ := H
  go_enter Tryz.func68, Tryz.ntmps68
  go_wp2_with (first | (refine gd_ 3 ?_; refine bx_ 3 #[.slice A0_0 l0_0.length c0_0, .int .i64 a0_1] 30 ?_; intro dP hg w7 hbox hb; have aB := Zk (hbox); have eJ := gw_ HB hg; replace HB := al_ HB hb; clear hb hbox hg) | (refine gd_ 6 ?_; refine bx_ 6 #[.int .i64 0, .int .i64 0] 130 ?_; intro aH hg w8 hbox hb; have aA := Zk (hbox); have cD := gw_ HB hg; replace HB := al_ HB hb; have aJ := n1_ aB hg; have aK := n2_ aB hg; replace aB := ab_ aB hb; clear hb hbox hg; obtain ⟨sV, sW⟩ := nn_ aJ aK; obtain ⟨iE, iF, iG, iH⟩ := cf2_ aB; have dG : 0 ≤ (a1 : Int) := of_decide_eq_true as_; have cX : a1 < (l0_0.length : Int) := of_decide_eq_true as_; obtain ⟨cF, cG, bU, dZ, cH, cI, cJ, cK, hl749_3, hi749_3⟩ := at_T65 cT.out a1 dG cX; cases dZ; replace cH := hx_ HB cH; replace cI := hx_ HB cI; replace cJ := hx_ HB cJ; replace cK := hx_ HB cK; have bR := Zk hi749_3; have dS := Zk hl749_3; clear hi749_3 hl749_3; replace dG := eq_true dG; replace cX := eq_true cX) | (refine gd_ 8 ?_; refine bx_ 8 #[.bool false, .slice none 0 0] 63 ?_; intro aO hg w11 hbox hb; have aC := Zk (hbox); have dC := gw_ HB hg; replace HB := al_ HB hb; have aS := n1_ aB hg; have aT := n2_ aB hg; replace aB := ab_ aB hb; have aL := n1_ aA hg; have aE := n2_ aA hg; replace aA := ab_ aA hb; clear hb hbox hg; obtain ⟨pS, pT⟩ := nn_ aT aS; obtain ⟨pU, pV⟩ := nn_ aE aL; obtain ⟨iI, iJ, iK, iL⟩ := cf2_ aC; obtain ⟨iM, iN, iO, iP⟩ := cf2_ aB; have dH : 0 ≤ (a1 : Int) := of_decide_eq_true as_; have cY : a1 < (l0_0.length : Int) := of_decide_eq_true as_; obtain ⟨dQ, eA, eB, eC, aI, aP, aQ, aR, hl751_3, hi751_3⟩ := at_T65 cT.out a1 dH cY; obtain rfl : cF = dQ := (by injection eC); have bS : cF.block ≠ aO := nb_ aI dC; have bT : cF.block ≠ aO := nb_ aI dC; replace aI := hx_ HB aI; replace aP := hx_ HB aP; replace aQ := hx_ HB aQ; replace aR := hx_ HB aR; have dT := Zk hi751_3; have dU := Zk hl751_3; clear hi751_3 hl751_3; replace aI := (cell_far (p := ⟨aO, 0, none⟩) (na_ bS) (.bool ((rd_T65 l0_0 a1).f2.f0))).trans aI; replace aP := (cell_far (p := ⟨aO, 0, none⟩) (na_ bS) (.bool ((rd_T65 l0_0 a1).f2.f0))).trans aP; replace aQ := (cell_far (p := ⟨aO, 0, none⟩) (na_ bS) (.bool ((rd_T65 l0_0 a1).f2.f0))).trans aQ; replace aR := (cell_far (p := ⟨aO, 0, none⟩) (na_ bS) (.bool ((rd_T65 l0_0 a1).f2.f0))).trans aR; replace aI := (cell_far (p := ⟨aO, 1, none⟩) (na_ bT) (.slice cG ((rd_T65 l0_0 a1).f2.f1).length bU)).trans aI; replace aP := (cell_far (p := ⟨aO, 1, none⟩) (na_ bT) (.slice cG ((rd_T65 l0_0 a1).f2.f1).length bU)).trans aP; replace aQ := (cell_far (p := ⟨aO, 1, none⟩) (na_ bT) (.slice cG ((rd_T65 l0_0 a1).f2.f1).length bU)).trans aQ; replace aR := (cell_far (p := ⟨aO, 1, none⟩) (na_ bT) (.slice cG ((rd_T65 l0_0 a1).f2.f1).length bU)).trans aR; clear bS; clear bT; replace dH := eq_true dH; replace cY := eq_true cY; obtain ⟨iQ, iR, iS, iT⟩ := cf2_ aA))
  refine bodyPost_ret (results_ct rfl _ _ aH 130 #[.int .i64 0, .int .i64 0] (0, 0) _ rfl (bp_ aA) Tryz.underlying130 rfl (by kernel_rfl)) rfl ?_
  exact ⟨e_, bl_ HB⟩
 rw [if_neg c6] at H
 have dX := beq_eq_false_iff_ne.mpr c6
 have dY := bne_iff_ne.mpr c6
 have eD := Zk H
 clear H
 go_enter Tryz.func68, Tryz.ntmps68
 go_upto_region 5 with (first | (refine gd_ 3 ?_; refine bx_ 3 #[.slice A0_0 l0_0.length c0_0, .int .i64 a0_1] 30 ?_; intro dP hg w18 hbox hb; have aB := Zk (hbox); have eJ := gw_ HB hg; replace HB := al_ HB hb; clear hb hbox hg) | (refine gd_ 6 ?_; refine bx_ 6 #[.int .i64 0, .int .i64 0] 130 ?_; intro aH hg w19 hbox hb; have aA := Zk (hbox); have cD := gw_ HB hg; replace HB := al_ HB hb; have aJ := n1_ aB hg; have aK := n2_ aB hg; replace aB := ab_ aB hb; clear hb hbox hg; obtain ⟨pW, pX⟩ := nn_ aJ aK; obtain ⟨iU, iV, iW, iX⟩ := cf2_ aB; have dG : 0 ≤ (a1 : Int) := of_decide_eq_true as_; have cX : a1 < (l0_0.length : Int) := of_decide_eq_true as_; obtain ⟨cF, cG, bU, dZ, cH, cI, cJ, cK, hl749_3, hi749_3⟩ := at_T65 cT.out a1 dG cX; cases dZ; replace cH := hx_ HB cH; replace cI := hx_ HB cI; replace cJ := hx_ HB cJ; replace cK := hx_ HB cK; have bR := Zk hi749_3; have dS := Zk hl749_3; clear hi749_3 hl749_3; replace dG := eq_true dG; replace cX := eq_true cX) | (refine gd_ 8 ?_; refine bx_ 8 #[.bool false, .slice none 0 0] 63 ?_; intro aO hg w22 hbox hb; have aC := Zk (hbox); have dC := gw_ HB hg; replace HB := al_ HB hb; have aS := n1_ aB hg; have aT := n2_ aB hg; replace aB := ab_ aB hb; have aL := n1_ aA hg; have aE := n2_ aA hg; replace aA := ab_ aA hb; clear hb hbox hg; obtain ⟨pY, pZ⟩ := nn_ aT aS; obtain ⟨qA, qB⟩ := nn_ aE aL; obtain ⟨iY, iZ, jA, jB⟩ := cf2_ aC; obtain ⟨jC, jD, jE, jF⟩ := cf2_ aB; have dH : 0 ≤ (a1 : Int) := of_decide_eq_true as_; have cY : a1 < (l0_0.length : Int) := of_decide_eq_true as_; obtain ⟨dQ, eA, eB, eC, aI, aP, aQ, aR, hl751_3, hi751_3⟩ := at_T65 cT.out a1 dH cY; obtain rfl : cF = dQ := (by injection eC); have bS : cF.block ≠ aO := nb_ aI dC; have bT : cF.block ≠ aO := nb_ aI dC; replace aI := hx_ HB aI; replace aP := hx_ HB aP; replace aQ := hx_ HB aQ; replace aR := hx_ HB aR; have dT := Zk hi751_3; have dU := Zk hl751_3; clear hi751_3 hl751_3; replace aI := (cell_far (p := ⟨aO, 0, none⟩) (na_ bS) (.bool ((rd_T65 l0_0 a1).f2.f0))).trans aI; replace aP := (cell_far (p := ⟨aO, 0, none⟩) (na_ bS) (.bool ((rd_T65 l0_0 a1).f2.f0))).trans aP; replace aQ := (cell_far (p := ⟨aO, 0, none⟩) (na_ bS) (.bool ((rd_T65 l0_0 a1).f2.f0))).trans aQ; replace aR := (cell_far (p := ⟨aO, 0, none⟩) (na_ bS) (.bool ((rd_T65 l0_0 a1).f2.f0))).trans aR; replace aI := (cell_far (p := ⟨aO, 1, none⟩) (na_ bT) (.slice cG ((rd_T65 l0_0 a1).f2.f1).length bU)).trans aI; replace aP := (cell_far (p := ⟨aO, 1, none⟩) (na_ bT) (.slice cG ((rd_T65 l0_0 a1).f2.f1).length bU)).trans aP; replace aQ := (cell_far (p := ⟨aO, 1, none⟩) (na_ bT) (.slice cG ((rd_T65 l0_0 a1).f2.f1).length bU)).trans aQ; replace aR := (cell_far (p := ⟨aO, 1, none⟩) (na_ bT) (.slice cG ((rd_T65 l0_0 a1).f2.f1).length bU)).trans aR; clear bS; clear bT; replace dH := eq_true dH; replace cY := eq_true cY))
 (try simp only [Act.put, List.setIfInBounds_toArray, List.set_cons_zero, List.set_cons_succ])
 go_cut [36] (fun v36 wc => ∃ (kq : Nat) (cZ : Bool), v36 = .bool cZ ∧ Aside0 (tree_whole.j0 kq a2 ((rd_T65 l0_0 a1).f2.f1) cZ l0_0 a0_1 ((rd_T65 l0_0 a1).f2.f0) ((rd_T65 l0_0 a1).f2.f1) = some (r1, r2, r3)) ∧ Aside0 (kq ≤ k) ∧ Aside0 (wc.heap[dP]? = some (.cells #[(.slice (some cF) l0_0.length c0_0), .int .i64 a0_1] 30 (0, 0))) ∧ Aside0 (wc.heap[aH]? = some (.cells #[.int .i64 0, .int .i64 0] 130 (0, 0))) ∧ Aside0 (wc.heap[aO]? = some (.cells #[.bool ((rd_T65 l0_0 a1).f2.f0), (.slice cG ((rd_T65 l0_0 a1).f2.f1).length bU)] 63 (0, 0))) ∧ Aside0 (Below w.heap.size w wc))
 case first =>
  have H := eD.out
  clear eD
  obtain ⟨bq27, hbq27⟩ : ∃ b_ : Bool, b_ = ((rd_T65 l0_0 a1).f2.f0) := ⟨_, rfl⟩
  replace H : (if bq27 = true then (tree_whole.j0 k a2 ((rd_T65 l0_0 a1).f2.f1) true l0_0 a0_1 bq27 ((rd_T65 l0_0 a1).f2.f1)) else (tree_whole.j0 k a2 ((rd_T65 l0_0 a1).f2.f1) (a2 == 1) l0_0 a0_1 bq27 ((rd_T65 l0_0 a1).f2.f1))) = some (r1, r2, r3) := by rw [← hbq27] at H; exact H
  have Nbq27 := Zk hbq27
  clear hbq27
  (try rw [← Nbq27.out])
  by_cases c28 : bq27 = true
  case pos =>
   subst c28
   rw [if_pos rfl] at H
   have H' := Zk H
   clear H
   obtain ⟨qC, qD⟩ := nn_ aT aS
   obtain ⟨qE, qF⟩ := nn_ aE aL
   obtain ⟨jG, jH, jI, jJ⟩ := cf2_ aC
   go_wp2
   go_meet
   case rel => exact ⟨_, (true), q_, (by first | exact H' | (rw [← Nbq27.out]; exact H')), ⟨by first | omega | exact Nat.le_refl _⟩, ⟨bk_ aB⟩, ⟨bk_ aA⟩, ⟨bp_ aC (e := by first | rfl | (rw [← Nbq27.out]; rfl))⟩, ⟨bl_ HB⟩⟩
  replace c28 := Bool.eq_false_iff.mpr c28
  subst c28
  rw [if_neg (show ¬ (false = true) by decide)] at H
  have H' := Zk H
  clear H
  obtain ⟨qG, qH⟩ := nn_ aT aS
  obtain ⟨qI, qJ⟩ := nn_ aE aL
  obtain ⟨jK, jL, jM, jN⟩ := cf2_ aC
  go_wp2
  go_meet
  case rel => exact ⟨_, ((a2 == 1)), q_, (by first | exact H' | (rw [← Nbq27.out]; exact H')), ⟨by first | omega | exact Nat.le_refl _⟩, ⟨bk_ aB⟩, ⟨bk_ aA⟩, ⟨bp_ aC (e := by first | rfl | (rw [← Nbq27.out]; rfl))⟩, ⟨bl_ HB⟩⟩
 case rest =>
  clear eD
  try clear q2
  try clear eH
  try clear eI
  try clear dX
  try clear dY
  try clear q7
  try clear hx7
  try clear q27
  try clear cH
  try clear cI
  try clear cJ
  try clear cK
  try clear aI
  try clear aP
  try clear aQ
  try clear aR
  try clear cX
  try clear cY
  obtain ⟨kq, cZ, rfl, HA, HJ16, aB, aA, aC, HB⟩ := hcut
  cases kq with
  | zero => exact absurd HA.out (by simp [tree_whole.j0])
  | succ kj16 =>
   have H := HA.out
   clear HA
   simp only [tree_whole.j0] at H
   by_cases c35 : cZ = true
   case pos =>
    subst c35
    rw [if_pos rfl] at H
    by_cases c36 : 0 < (((rd_T65 l0_0 a1).f2.f1).length : Int)
    case neg => exact no_ c36 H
    rw [if_pos c36] at H
    have eK := decide_eq_true c36
    have eL : decide (0 < ((rd_T65 l0_0 a1).f2.f1).length) = true := decide_eq_true (by omega)
    clear c36
    obtain ⟨ji37, hji37⟩ : ∃ j_ : Int, (wrap64 ((((rd_T65 l0_0 a1).f2.f1).length : Int) - 1)) = j_ := ⟨_, rfl⟩
    first | rw [hji37] at H | simp only [hji37] at H
    have hji37w : (IntKind.i64.wrap ((((rd_T65 l0_0 a1).f2.f1).length : Int) - 1)) = ji37 := (i64_w _).trans hji37
    by_cases c38 : 0 ≤ (ji37)
    case neg => exact no_ c38 H
    rw [if_pos c38] at H
    have eM := decide_eq_true c38
    clear c38
    by_cases c39 : (ji37) < (((rd_T65 l0_0 a1).f2.f1).length : Int)
    case neg => exact no_ c39 H
    rw [if_pos c39] at H
    have eN := decide_eq_true c39
    clear c39
    by_cases c40 : ((rd_T65 l0_0 a1).f2.f0) = true
    case pos =>
     rw [if_pos c40] at H
     have dW : ((rd_T65 l0_0 a1).f2.f0) = true := c40
     clear c40
     simp only [Option.some.injEq, Prod.mk.injEq] at H
     obtain ⟨rfl, rfl, rfl⟩ := H
     try go_wp2
     replace aB := Zk (blk_drew aB.out)
     replace aA := Zk (blk_drew aA.out)
     replace aC := Zk (blk_drew aC.out)
     replace HB := Zk (below_drew1 HB.out)
     have dI : 0 ≤ (0 : Int) := (by omega)
     have dD : 0 < (((rd_T65 l0_0 a1).f2.f1).length : Int) := of_decide_eq_true as_
     obtain ⟨cE, eE, aM, aN⟩ := at_T84 bR.out 0 dI dD
     have aX := aN
     (try rw [show ((0 : Int)).toNat = 0 from rfl] at aX)
     (try rw [show 0 * 2 = 0 from rfl] at aX)
     (try rw [Addr.add_zero'] at aX)
     have aY := aM
     (try rw [show ((0 : Int)).toNat = 0 from rfl] at aY)
     (try rw [show 0 * 2 = 0 from rfl] at aY)
     (try rw [Addr.add_zero'] at aY)
     cases eE
     have qi752 : (0 < ((rd_T65 l0_0 a1).f2.f1).length) = True := eq_true (by omega)
     (try rw [show ((0 : Int)).toNat = 0 from rfl] at aM)
     (try rw [show 0 * 2 = 0 from rfl] at aM)
     (try rw [Addr.add_zero'] at aM)
     (try rw [show ((0 : Int)).toNat = 0 from rfl] at aN)
     (try rw [show 0 * 2 = 0 from rfl] at aN)
     (try rw [Addr.add_zero'] at aN)
     replace aM := hx_ HB aM
     replace aN := hx_ HB aN
     replace dI := eq_true dI
     replace dD := eq_true dD
     have dJ : 0 ≤ ((ji37) : Int) := of_decide_eq_true as_
     have dE : (ji37) < (((rd_T65 l0_0 a1).f2.f1).length : Int) := of_decide_eq_true as_
     obtain ⟨dR, eF, cB, cC⟩ := at_T84 bR.out (ji37) dJ dE
     have cL := cC
     have cM := cB
     obtain rfl : cE = dR := (by injection eF)
     replace cB := hx_ HB cB
     replace cC := hx_ HB cC
     replace dJ := eq_true dJ
     replace dE := eq_true dE
     refine start_ (n := 20) (S := fun w' => w'.cell? ⟨aO, 0, none⟩ = some (.bool ((rd_T65 l0_0 a1).f2.f0)) ∧ w'.cell? ⟨aO, 1, none⟩ = some (.slice (some cE) ((rd_T65 l0_0 a1).f2.f1).length bU) ∧ w'.cell? cE = some (.int .i64 ((rd_T84 ((rd_T65 l0_0 a1).f2.f1) 0).f0)) ∧ w'.cell? ⟨cE.block, cE.off + 1, none⟩ = some (.int .i64 ((rd_T84 ((rd_T65 l0_0 a1).f2.f1) 0).f1)) ∧ w'.cell? (cE.add (((ji37)).toNat * 2)) = some (.int .i64 ((rd_T84 ((rd_T65 l0_0 a1).f2.f1) (ji37)).f0)) ∧ w'.cell? ⟨(cE.add (((ji37)).toNat * 2)).block, (cE.add (((ji37)).toNat * 2)).off + 1, none⟩ = some (.int .i64 ((rd_T84 ((rd_T65 l0_0 a1).f2.f1) (ji37)).f1))) (ds := []) #[false, false, false, false, false, false, false, false, false, false, false, false, false, false, false, false, false, false, false, false] (by kernel_rfl) rfl rfl ⟨(blk_cell aC.out 0).trans rfl, (blk_cell aC.out 1).trans rfl, (hx_ HB aY), (hx_ HB aX), (hx_ HB cM), (hx_ HB cL)⟩ (fun hHeld => ?_); refine with_tabW tree_whole.tab6 tree_whole.bits6 (fun HT_ HW_ => ?_)
     generalize wc.drew = w41 at aB aA aC HB aM aN cB cC hHeld ⊢
     refine pu_ 0 37 ?_
     refine pu_ 1 38 ?_
     refine pu_ 2 39 ?_
     refine pu_ 4 41 ?_
     refine pu_ 5 42 ?_
     refine pu_ 6 43 ?_
     refine pu_ 7 44 ?_
     refine pu_ 8 45 ?_
     refine pu_ 9 46 ?_
     refine pu_ 12 49 ?_
     refine tk_ 3 40 ?_
     refine tk_ 10 47 ?_
     refine pu_ 11 48 ?_
     refine tk_ 13 50 ?_
     refine pu_ 14 51 ?_
     refine pu_ 15 52 ?_
     refine pu_ 16 53 ?_
     refine pu_ 17 54 ?_
     refine one_ (i := 18) (N := none) #[true, true, true, true, true, true, true, true, true, true, true, true, true, true, true, true, true, true, true, false] rfl rfl (one_of HT_.out (by kernel_rfl)) (by decide) (fun K hK => ?_)
     have sX : w41.cell? ⟨aH, 0, none⟩ = some (.int .i64 0) := (blk_cell aA.out 0).trans rfl
     have qK := blk_frozen aA.out 0
     obtain ⟨jO, jP⟩ := nn_ aJ aE
     obtain ⟨jQ, jR⟩ := nn_ aK aL
     have sY : w41.cell? ⟨aH, 1, none⟩ = some (.int .i64 0) := (blk_cell aA.out 1).trans rfl
     have qL := blk_frozen aA.out 1
     obtain ⟨jS, jT⟩ := nn_ aJ aE
     obtain ⟨jU, jV⟩ := nn_ aK aL
     refine skip_ (w1 := ?_) (by rfl) rfl ?_ ?_
     rotate_left
     ·go_simp
      rfl
     refine hK.out _ _ ⟨(cl_ aH aE.out (cl_ aH aE.out hHeld.1)), (cl_ aH aE.out (cl_ aH aE.out hHeld.2.1)), (cl_ aH (nb_ aY cD) (cl_ aH (nb_ aY cD) hHeld.2.2.1)), (cl_ aH (nb_ aX cD) (cl_ aH (nb_ aX cD) hHeld.2.2.2.1)), (cl_ aH (nb_ cM cD) (cl_ aH (nb_ cM cD) hHeld.2.2.2.2.1)), (cl_ aH (nb_ cL cD) (cl_ aH (nb_ cL cD) hHeld.2.2.2.2.2))⟩ (fun hHeld => ?_)
     clear hK K
     refine pu_ 19 7 ?_
     refine done_ (done_of HT_.out (by kernel_rfl)) ?_
     try go_wp2
     refine bodyPost_ret (results_ct rfl _ _ aH 130 #[.int .i64 ((rd_T84 ((rd_T65 l0_0 a1).f2.f1) 0).f0), .int .i64 ((rd_T84 ((rd_T65 l0_0 a1).f2.f1) (ji37)).f0)] (0, 0) _ rfl (bp_ aA) Tryz.underlying130 rfl (by kernel_rfl)) rfl ?_
     exact ⟨by first | rfl | (simp [errW_none, errW_some] <;> rfl) | (simp only [← hji37]; first | rfl | (simp [errW_none, errW_some] <;> rfl)) | (simp [*, errW_none, errW_some] <;> rfl), bl_ HB⟩
    rw [if_neg c40] at H
    have dW : ((rd_T65 l0_0 a1).f2.f0) = false := by simpa using c40
    clear c40
    simp only [Option.some.injEq, Prod.mk.injEq] at H
    obtain ⟨rfl, rfl, rfl⟩ := H
    try go_wp2
    replace aB := Zk (blk_drew aB.out)
    replace aA := Zk (blk_drew aA.out)
    replace aC := Zk (blk_drew aC.out)
    replace HB := Zk (below_drew1 HB.out)
    have dI : 0 ≤ (0 : Int) := (by omega)
    have dD : 0 < (((rd_T65 l0_0 a1).f2.f1).length : Int) := of_decide_eq_true as_
    obtain ⟨cE, eE, aM, aN⟩ := at_T84 bR.out 0 dI dD
    have aX := aN
    (try rw [show ((0 : Int)).toNat = 0 from rfl] at aX)
    (try rw [show 0 * 2 = 0 from rfl] at aX)
    (try rw [Addr.add_zero'] at aX)
    have aY := aM
    (try rw [show ((0 : Int)).toNat = 0 from rfl] at aY)
    (try rw [show 0 * 2 = 0 from rfl] at aY)
    (try rw [Addr.add_zero'] at aY)
    cases eE
    have qi752 : (0 < ((rd_T65 l0_0 a1).f2.f1).length) = True := eq_true (by omega)
    (try rw [show ((0 : Int)).toNat = 0 from rfl] at aM)
    (try rw [show 0 * 2 = 0 from rfl] at aM)
    (try rw [Addr.add_zero'] at aM)
    (try rw [show ((0 : Int)).toNat = 0 from rfl] at aN)
    (try rw [show 0 * 2 = 0 from rfl] at aN)
    (try rw [Addr.add_zero'] at aN)
    replace aM := hx_ HB aM
    replace aN := hx_ HB aN
    replace dI := eq_true dI
    replace dD := eq_true dD
    have dJ : 0 ≤ ((ji37) : Int) := of_decide_eq_true as_
    have dE : (ji37) < (((rd_T65 l0_0 a1).f2.f1).length : Int) := of_decide_eq_true as_
    obtain ⟨dR, eF, cB, cC⟩ := at_T84 bR.out (ji37) dJ dE
    have cL := cC
    have cM := cB
    obtain rfl : cE = dR := (by injection eF)
    replace cB := hx_ HB cB
    replace cC := hx_ HB cC
    replace dJ := eq_true dJ
    replace dE := eq_true dE
    refine start_ (n := 20) (S := fun w' => w'.cell? ⟨aO, 0, none⟩ = some (.bool ((rd_T65 l0_0 a1).f2.f0)) ∧ w'.cell? ⟨aO, 1, none⟩ = some (.slice (some cE) ((rd_T65 l0_0 a1).f2.f1).length bU) ∧ w'.cell? cE = some (.int .i64 ((rd_T84 ((rd_T65 l0_0 a1).f2.f1) 0).f0)) ∧ w'.cell? ⟨cE.block, cE.off + 1, none⟩ = some (.int .i64 ((rd_T84 ((rd_T65 l0_0 a1).f2.f1) 0).f1)) ∧ w'.cell? (cE.add (((ji37)).toNat * 2)) = some (.int .i64 ((rd_T84 ((rd_T65 l0_0 a1).f2.f1) (ji37)).f0)) ∧ w'.cell? ⟨(cE.add (((ji37)).toNat * 2)).block, (cE.add (((ji37)).toNat * 2)).off + 1, none⟩ = some (.int .i64 ((rd_T84 ((rd_T65 l0_0 a1).f2.f1) (ji37)).f1))) (ds := []) #[false, false, false, false, false, false, false, false, false, false, false, false, false, false, false, false, false, false, false, false] (by kernel_rfl) rfl rfl ⟨(blk_cell aC.out 0).trans rfl, (blk_cell aC.out 1).trans rfl, (hx_ HB aY), (hx_ HB aX), (hx_ HB cM), (hx_ HB cL)⟩ (fun hHeld => ?_); refine with_tabW tree_whole.tab6 tree_whole.bits6 (fun HT_ HW_ => ?_)
    generalize wc.drew = w44 at aB aA aC HB aM aN cB cC hHeld ⊢
    refine pu_ 0 37 ?_
    refine pu_ 1 38 ?_
    refine pu_ 2 39 ?_
    refine pu_ 4 41 ?_
    refine pu_ 5 42 ?_
    refine pu_ 6 43 ?_
    refine pu_ 7 44 ?_
    refine pu_ 8 45 ?_
    refine pu_ 9 46 ?_
    refine pu_ 12 49 ?_
    refine tk_ 3 40 ?_
    refine tk_ 10 47 ?_
    refine pu_ 11 48 ?_
    refine tk_ 13 50 ?_
    refine pu_ 14 51 ?_
    refine ps_ 15 52 ?_
    refine ps_ 16 53 ?_
    refine pu_ 17 54 ?_
    refine one_ (i := 18) (N := none) #[true, true, true, true, true, true, true, true, true, true, true, true, true, true, true, true, true, true, true, false] rfl rfl (one_of HT_.out (by kernel_rfl)) (by decide) (fun K hK => ?_)
    have sZ : w44.cell? ⟨aH, 0, none⟩ = some (.int .i64 0) := (blk_cell aA.out 0).trans rfl
    have qM := blk_frozen aA.out 0
    obtain ⟨jW, jX⟩ := nn_ aJ aE
    obtain ⟨jY, jZ⟩ := nn_ aK aL
    have tA : w44.cell? ⟨aH, 1, none⟩ = some (.int .i64 0) := (blk_cell aA.out 1).trans rfl
    have qN := blk_frozen aA.out 1
    obtain ⟨kA, kB⟩ := nn_ aJ aE
    obtain ⟨kC, kD⟩ := nn_ aK aL
    refine skip_ (w1 := ?_) (by rfl) rfl ?_ ?_
    rotate_left
    ·go_simp
     rfl
    refine hK.out _ _ ⟨(cl_ aH aE.out (cl_ aH aE.out hHeld.1)), (cl_ aH aE.out (cl_ aH aE.out hHeld.2.1)), (cl_ aH (nb_ aY cD) (cl_ aH (nb_ aY cD) hHeld.2.2.1)), (cl_ aH (nb_ aX cD) (cl_ aH (nb_ aX cD) hHeld.2.2.2.1)), (cl_ aH (nb_ cM cD) (cl_ aH (nb_ cM cD) hHeld.2.2.2.2.1)), (cl_ aH (nb_ cL cD) (cl_ aH (nb_ cL cD) hHeld.2.2.2.2.2))⟩ (fun hHeld => ?_)
    clear hK K
    refine pu_ 19 7 ?_
    refine done_ (done_of HT_.out (by kernel_rfl)) ?_
    try go_wp2
    refine bodyPost_ret (results_ct rfl _ _ aH 130 #[.int .i64 ((rd_T84 ((rd_T65 l0_0 a1).f2.f1) 0).f0), .int .i64 ((rd_T84 ((rd_T65 l0_0 a1).f2.f1) (ji37)).f0)] (0, 0) _ rfl (bp_ aA) Tryz.underlying130 rfl (by kernel_rfl)) rfl ?_
    exact ⟨by first | rfl | (simp [errW_none, errW_some] <;> rfl) | (simp only [← hji37]; first | rfl | (simp [errW_none, errW_some] <;> rfl)) | (simp [*, errW_none, errW_some] <;> rfl), bl_ HB⟩
   replace c35 := Bool.eq_false_iff.mpr c35
   subst c35
   rw [if_neg (show ¬ (false = true) by decide)] at H
   by_cases c47 : 0 < (((rd_T65 l0_0 a1).f2.f1).length : Int)
   case neg => exact no_ c47 H
   rw [if_pos c47] at H
   have eO := decide_eq_true c47
   have eP : decide (0 < ((rd_T65 l0_0 a1).f2.f1).length) = true := decide_eq_true (by omega)
   clear c47
   have H' := Zk H
   clear H
   have eG : 0 ≤ (0 : Int) := (by omega)
   have dV : 0 < (((rd_T65 l0_0 a1).f2.f1).length : Int) := of_decide_eq_true as_
   obtain ⟨cW, lO, cP, cQ⟩ := at_T84 bR.out 0 eG dV
   cases lO
   have qi754 : (0 < ((rd_T65 l0_0 a1).f2.f1).length) = True := eq_true (by omega)
   (try rw [show ((0 : Int)).toNat = 0 from rfl] at cP)
   (try rw [show 0 * 2 = 0 from rfl] at cP)
   (try rw [Addr.add_zero'] at cP)
   (try rw [show ((0 : Int)).toNat = 0 from rfl] at cQ)
   (try rw [show 0 * 2 = 0 from rfl] at cQ)
   (try rw [Addr.add_zero'] at cQ)
   replace cP := hx_ HB cP
   replace cQ := hx_ HB cQ
   replace eG := eq_true eG
   replace dV := eq_true dV
   go_wp2_with (first | (refine gd_ 10 ?_; refine bx_ 10 #[.int .i64 0, .int .i64 0] 130 ?_; intro eQ hg w48 hbox hb; have aD := Zk (hbox); have qO := gw_ HB hg; replace HB := al_ HB hb; have bV := n1_ aB hg; have bW := n2_ aB hg; replace aB := ab_ aB hb; have bX := n1_ aA hg; have bY := n2_ aA hg; replace aA := ab_ aA hb; have bZ := n1_ aC hg; have cA := n2_ aC hg; replace aC := ab_ aC hb; clear hb hbox hg; obtain ⟨qP, qQ⟩ := nn_ bW bV; obtain ⟨qR, qS⟩ := nn_ bY bX; obtain ⟨qT, qU⟩ := nn_ cA bZ; obtain ⟨kE, kF, kG, kH⟩ := cf2_ aD))
   go_loopg [62] kj16 (fun kq v62 w' => ∃ (aF : Int) (cR : Int) (cS : Int) (aU : Int), v62 = .int .i64 aF ∧ Aside0 (tree_whole.l0 kq a2 ((rd_T65 l0_0 a1).f2.f1) (((rd_T65 l0_0 a1).f2.f1).length : Int) aF l0_0 a0_1 ((rd_T84 ((rd_T65 l0_0 a1).f2.f1) 0).f0) aU = some (r1, r2, r3)) ∧ Aside0 (kq ≤ kj16) ∧ Aside0 (w'.heap[dP]? = some (.cells #[(.slice (some cF) l0_0.length c0_0), .int .i64 a0_1] 30 (0, 0))) ∧ Aside0 (w'.heap[aH]? = some (.cells #[.int .i64 cR, .int .i64 cS] 130 (0, 0))) ∧ Aside0 (w'.heap[aO]? = some (.cells #[.bool ((rd_T65 l0_0 a1).f2.f0), (.slice (some cW) ((rd_T65 l0_0 a1).f2.f1).length bU)] 63 (0, 0))) ∧ Aside0 (w'.heap[eQ]? = some (.cells #[.int .i64 ((rd_T84 ((rd_T65 l0_0 a1).f2.f1) 0).f0), .int .i64 aU] 130 (0, 0))) ∧ Aside0 (Below w.heap.size w w'))
   case atStart => exact ⟨(0), (0), (0), (0), q_, H', ⟨Nat.le_refl _⟩, ⟨bk_ aB⟩, ⟨bk_ aA⟩, ⟨bk_ aC⟩, ⟨bp_ aD⟩, ⟨bl_ HB⟩⟩
   case round =>
    clear H'
    try clear q2
    try clear eH
    try clear eI
    try clear dX
    try clear dY
    try clear q7
    try clear hx7
    try clear qi7
    try clear q27
    try clear eK
    try clear eL
    try clear eM
    try clear eN
    try clear dW
    try clear eO
    try clear eP
    try clear cH
    try clear cI
    try clear cJ
    try clear cK
    try clear aI
    try clear aP
    try clear aQ
    try clear aR
    try clear aM
    try clear aN
    try clear cB
    try clear cC
    try clear cP
    try clear cQ
    try clear q2
    try clear q27
    try clear q7
    try clear cX
    try clear cY
    try clear dD
    try clear dE
    try clear dV
    obtain ⟨aF, cR, cS, aU, rfl, HA, HK2, aB, aA, aC, aD, HB⟩ := hrel
    cases gk with
    | zero => exact absurd HA.out (by simp [tree_whole.l0])
    | succ k2 =>
     have H := HA.out
     clear HA
     simp only [tree_whole.l0] at H
     by_cases c53 : aF < (((rd_T65 l0_0 a1).f2.f1).length : Int)
     case neg =>
      rw [if_neg c53] at H
      have eR : decide (aF < (((rd_T65 l0_0 a1).f2.f1).length : Int)) = false := decide_eq_false c53
      clear c53
      simp only [Option.some.injEq, Prod.mk.injEq] at H
      obtain ⟨rfl, rfl, rfl⟩ := H
      obtain ⟨lP, lQ⟩ := nn_ bW bV
      obtain ⟨lR, lS⟩ := nn_ bY bX
      obtain ⟨lT, lU⟩ := nn_ cA bZ
      obtain ⟨eS, eT, eU, eV⟩ := cf2_ aD
      obtain ⟨lV, lW⟩ := nn_ aK aJ
      obtain ⟨lX, lY⟩ := nn_ aL aE
      obtain ⟨eW, eX, eY, eZ⟩ := cf2_ aA
      go_wp2
      refine bodyPost_ret (results_ct rfl _ _ aH 130 #[.int .i64 ((rd_T84 ((rd_T65 l0_0 a1).f2.f1) 0).f0), .int .i64 aU] (0, 0) _ rfl (bp_ aA) Tryz.underlying130 rfl (by kernel_rfl)) rfl ?_
      exact ⟨e_, bl_ HB⟩
     rw [if_pos c53] at H
     have eR := decide_eq_true c53
     clear c53
     by_cases c54 : 0 ≤ aF
     case neg => exact no_ c54 H
     rw [if_pos c54] at H
     have qV := decide_eq_true c54
     clear c54
     by_cases c55 : aF < (((rd_T65 l0_0 a1).f2.f1).length : Int)
     case neg => exact no_ c55 H
     rw [if_pos c55] at H
     have qW := decide_eq_true c55
     clear c55
     replace H := Option.bind_eq_some_iff.mp H
     obtain ⟨⟨dF, dK, lZ⟩, fA, H⟩ := H
     (try dsimp only at H)
     have A56 := Zk fA
     clear fA
     by_cases c57 : lZ = true
     case neg =>
      replace c57 := Bool.eq_false_iff.mpr c57
      subst c57
      rw [if_neg (show ¬ (false = true) by decide)] at H
      simp only [Option.some.injEq, Prod.mk.injEq] at H
      obtain ⟨rfl, rfl, rfl⟩ := H
      have cN : 0 ≤ (aF : Int) := of_decide_eq_true as_
      have cO : aF < (((rd_T65 l0_0 a1).f2.f1).length : Int) := of_decide_eq_true as_
      obtain ⟨cU, dA, aV, aW⟩ := at_T84 bR.out aF cN cO
      obtain rfl : cW = cU := (by injection dA)
      replace aV := hx_ HB aV
      replace aW := hx_ HB aW
      replace cN := eq_true cN
      replace cO := eq_true cO
      go_wp2_with (first | (refine gd_ 12 ?_; refine bx_ 12 #[.int .i64 0, .int .i64 0] 84 ?_; intro dL hg w153 hbox hb; have aG := Zk (hbox); have dM := gw_ HB hg; replace HB := al_ HB hb; have aZ := n1_ aB hg; have bA := n2_ aB hg; replace aB := ab_ aB hb; have bB := n1_ aA hg; have bC := n2_ aA hg; replace aA := ab_ aA hb; have bD := n1_ aC hg; have bE := n2_ aC hg; replace aC := ab_ aC hb; have bF := n1_ aD hg; have bG := n2_ aD hg; replace aD := ab_ aD hb; clear hb hbox hg; obtain ⟨mA, mB⟩ := nn_ bA aZ; obtain ⟨mC, mD⟩ := nn_ bC bB; obtain ⟨mE, mF⟩ := nn_ bE bD; obtain ⟨mG, mH⟩ := nn_ bG bF; obtain ⟨fB, fC, fD, fE⟩ := cf2_ aG; obtain ⟨mI, mJ⟩ := nn_ aJ aK; obtain ⟨mK, mL⟩ := nn_ aS aT; obtain ⟨mM, mN⟩ := nn_ bV bW; obtain ⟨fF, fG, fH, fI⟩ := cf2_ aB) | (refine gc_ 68 ?_; refine gl_ 68 (some 73) #[.agg #[.slice (some cF) l0_0.length c0_0, .int .i64 a0_1], .int .i64 ((rd_T84 ((rd_T65 l0_0 a1).f2.f1) aF).f1), .int .i64 (wrap64 (a2 - 1))] Tryz.func68 ?_; (with_reducible refine (ih k2 (by have := HJ16.out; have := HK2.out; omega) _ _ l0_0 a0_1 ((rd_T84 ((rd_T65 l0_0 a1).f2.f1) aF).f1) (wrap64 (a2 - 1)) dF dK false _ (cb_ cT HB) dB.out A56.out).mono ?_); rintro e w163 ⟨rfl, hb⟩; refine ⟨_, rfl, ?_⟩; replace aB := ab_ aB hb; replace aA := ab_ aA hb; replace aC := ab_ aC hb; replace aD := ab_ aD hb; replace aG := abp_ aG hb; replace HB := al_ HB hb; (try clear hb)) | (refine gd_ 13 ?_; refine bx_ 13 #[.int .i64 0, .int .i64 0] 130 ?_; intro dN hg w164 hbox hb; have cV := Zk (hbox); have dO := gw_ HB hg; replace HB := al_ HB hb; have bH := n1_ aB hg; have bI := n2_ aB hg; replace aB := ab_ aB hb; have bJ := n1_ aA hg; have bK := n2_ aA hg; replace aA := ab_ aA hb; have bL := n1_ aC hg; have bM := n2_ aC hg; replace aC := ab_ aC hb; have bN := n1_ aD hg; have bO := n2_ aD hg; replace aD := ab_ aD hb; have bP := n1_ aG hg; have bQ := n2_ aG hg; replace aG := ab_ aG hb; clear hb hbox hg; obtain ⟨mO, mP⟩ := nn_ bI bH; obtain ⟨mQ, mR⟩ := nn_ bK bJ; obtain ⟨mS, mT⟩ := nn_ bM bL; obtain ⟨mU, mV⟩ := nn_ bO bN; obtain ⟨mW, mX⟩ := nn_ bQ bP; obtain ⟨fJ, fK, fL, fM⟩ := cf2_ cV; obtain ⟨mY, mZ⟩ := nn_ bY bX; obtain ⟨nA, nB⟩ := nn_ cA bZ; obtain ⟨fN, fO, fP, fQ⟩ := cf2_ aD; obtain ⟨nC, nD⟩ := nn_ aL aE; obtain ⟨fR, fS, fT, fU⟩ := cf2_ aA))
      refine bodyPost_ret (results_ct rfl _ _ aH 130 #[.int .i64 ((rd_T84 ((rd_T65 l0_0 a1).f2.f1) 0).f0), .int .i64 aU] (0, 0) _ rfl (bp_ aA) Tryz.underlying130 rfl (by kernel_rfl)) rfl ?_
      exact ⟨e_, bl_ HB⟩
     subst c57
     rw [if_pos rfl] at H
     by_cases c58 : dF = ((rd_T84 ((rd_T65 l0_0 a1).f2.f1) aF).f0)
     case neg =>
      rw [if_neg c58] at H
      have fV : (dF == ((rd_T84 ((rd_T65 l0_0 a1).f2.f1) aF).f0)) = false := beq_eq_false_iff_ne.mpr c58
      have fW : (dF != ((rd_T84 ((rd_T65 l0_0 a1).f2.f1) aF).f0)) = true := bne_iff_ne.mpr c58
      simp only [Option.some.injEq, Prod.mk.injEq] at H
      obtain ⟨rfl, rfl, rfl⟩ := H
      have cN : 0 ≤ (aF : Int) := of_decide_eq_true as_
      have cO : aF < (((rd_T65 l0_0 a1).f2.f1).length : Int) := of_decide_eq_true as_
      obtain ⟨cU, dA, aV, aW⟩ := at_T84 bR.out aF cN cO
      obtain rfl : cW = cU := (by injection dA)
      replace aV := hx_ HB aV
      replace aW := hx_ HB aW
      replace cN := eq_true cN
      replace cO := eq_true cO
      go_wp2_with (first | (refine gd_ 12 ?_; refine bx_ 12 #[.int .i64 0, .int .i64 0] 84 ?_; intro dL hg w129 hbox hb; have aG := Zk (hbox); have dM := gw_ HB hg; replace HB := al_ HB hb; have aZ := n1_ aB hg; have bA := n2_ aB hg; replace aB := ab_ aB hb; have bB := n1_ aA hg; have bC := n2_ aA hg; replace aA := ab_ aA hb; have bD := n1_ aC hg; have bE := n2_ aC hg; replace aC := ab_ aC hb; have bF := n1_ aD hg; have bG := n2_ aD hg; replace aD := ab_ aD hb; clear hb hbox hg; obtain ⟨nE, nF⟩ := nn_ bA aZ; obtain ⟨nG, nH⟩ := nn_ bC bB; obtain ⟨nI, nJ⟩ := nn_ bE bD; obtain ⟨nK, nL⟩ := nn_ bG bF; obtain ⟨fX, fY, fZ, gA⟩ := cf2_ aG; obtain ⟨nM, nN⟩ := nn_ aJ aK; obtain ⟨nO, nP⟩ := nn_ aS aT; obtain ⟨nQ, nR⟩ := nn_ bV bW; obtain ⟨gB, gC, gD, gE⟩ := cf2_ aB) | (refine gc_ 68 ?_; refine gl_ 68 (some 73) #[.agg #[.slice (some cF) l0_0.length c0_0, .int .i64 a0_1], .int .i64 ((rd_T84 ((rd_T65 l0_0 a1).f2.f1) aF).f1), .int .i64 (wrap64 (a2 - 1))] Tryz.func68 ?_; (with_reducible refine (ih k2 (by have := HJ16.out; have := HK2.out; omega) _ _ l0_0 a0_1 ((rd_T84 ((rd_T65 l0_0 a1).f2.f1) aF).f1) (wrap64 (a2 - 1)) dF dK true _ (cb_ cT HB) dB.out A56.out).mono ?_); rintro e w139 ⟨rfl, hb⟩; refine ⟨_, rfl, ?_⟩; replace aB := ab_ aB hb; replace aA := ab_ aA hb; replace aC := ab_ aC hb; replace aD := ab_ aD hb; replace aG := abp_ aG hb; replace HB := al_ HB hb; (try clear hb)) | (refine gd_ 13 ?_; refine bx_ 13 #[.int .i64 0, .int .i64 0] 130 ?_; intro dN hg w140 hbox hb; have cV := Zk (hbox); have dO := gw_ HB hg; replace HB := al_ HB hb; have bH := n1_ aB hg; have bI := n2_ aB hg; replace aB := ab_ aB hb; have bJ := n1_ aA hg; have bK := n2_ aA hg; replace aA := ab_ aA hb; have bL := n1_ aC hg; have bM := n2_ aC hg; replace aC := ab_ aC hb; have bN := n1_ aD hg; have bO := n2_ aD hg; replace aD := ab_ aD hb; have bP := n1_ aG hg; have bQ := n2_ aG hg; replace aG := ab_ aG hb; clear hb hbox hg; obtain ⟨nS, nT⟩ := nn_ bI bH; obtain ⟨nU, nV⟩ := nn_ bK bJ; obtain ⟨nW, nX⟩ := nn_ bM bL; obtain ⟨nY, nZ⟩ := nn_ bO bN; obtain ⟨oA, oB⟩ := nn_ bQ bP; obtain ⟨gF, gG, gH, gI⟩ := cf2_ cV; obtain ⟨gJ, gK, gL, gM⟩ := cf2_ aG; obtain ⟨oC, oD⟩ := nn_ bY bX; obtain ⟨oE, oF⟩ := nn_ cA bZ; obtain ⟨gN, gO, gP, gQ⟩ := cf2_ aD; obtain ⟨oG, oH⟩ := nn_ aL aE; obtain ⟨gR, gS, gT, gU⟩ := cf2_ aA))
      refine bodyPost_ret (results_ct rfl _ _ aH 130 #[.int .i64 ((rd_T84 ((rd_T65 l0_0 a1).f2.f1) 0).f0), .int .i64 aU] (0, 0) _ rfl (bp_ aA) Tryz.underlying130 rfl (by kernel_rfl)) rfl ?_
      exact ⟨e_, bl_ HB⟩
     rw [if_pos c58] at H
     have fV := beq_iff_eq.mpr c58
     have fW := bne_eq_false_iff_eq.mpr c58
     clear c58
     by_cases c59 : aF > 0
     case neg =>
      rw [if_neg c59] at H
      have gV : decide (0 < aF) = false := decide_eq_false c59
      clear c59
      have H' := Zk H
      clear H
      have cN : 0 ≤ (aF : Int) := of_decide_eq_true as_
      have cO : aF < (((rd_T65 l0_0 a1).f2.f1).length : Int) := of_decide_eq_true as_
      obtain ⟨cU, dA, aV, aW⟩ := at_T84 bR.out aF cN cO
      obtain rfl : cW = cU := (by injection dA)
      replace aV := hx_ HB aV
      replace aW := hx_ HB aW
      replace cN := eq_true cN
      replace cO := eq_true cO
      go_wp2_with (first | (refine gd_ 12 ?_; refine bx_ 12 #[.int .i64 0, .int .i64 0] 84 ?_; intro dL hg w107 hbox hb; have aG := Zk (hbox); have dM := gw_ HB hg; replace HB := al_ HB hb; have aZ := n1_ aB hg; have bA := n2_ aB hg; replace aB := ab_ aB hb; have bB := n1_ aA hg; have bC := n2_ aA hg; replace aA := ab_ aA hb; have bD := n1_ aC hg; have bE := n2_ aC hg; replace aC := ab_ aC hb; have bF := n1_ aD hg; have bG := n2_ aD hg; replace aD := ab_ aD hb; clear hb hbox hg; obtain ⟨oI, oJ⟩ := nn_ bA aZ; obtain ⟨oK, oL⟩ := nn_ bC bB; obtain ⟨oM, oN⟩ := nn_ bE bD; obtain ⟨oO, oP⟩ := nn_ bG bF; obtain ⟨gW, gX, gY, gZ⟩ := cf2_ aG; obtain ⟨oQ, oR⟩ := nn_ aJ aK; obtain ⟨oS, oT⟩ := nn_ aS aT; obtain ⟨oU, oV⟩ := nn_ bV bW; obtain ⟨hA, hB, hC, hD⟩ := cf2_ aB) | (refine gc_ 68 ?_; refine gl_ 68 (some 73) #[.agg #[.slice (some cF) l0_0.length c0_0, .int .i64 a0_1], .int .i64 ((rd_T84 ((rd_T65 l0_0 a1).f2.f1) aF).f1), .int .i64 (wrap64 (a2 - 1))] Tryz.func68 ?_; (with_reducible refine (ih k2 (by have := HJ16.out; have := HK2.out; omega) _ _ l0_0 a0_1 ((rd_T84 ((rd_T65 l0_0 a1).f2.f1) aF).f1) (wrap64 (a2 - 1)) dF dK true _ (cb_ cT HB) dB.out A56.out).mono ?_); rintro e w117 ⟨rfl, hb⟩; refine ⟨_, rfl, ?_⟩; replace aB := ab_ aB hb; replace aA := ab_ aA hb; replace aC := ab_ aC hb; replace aD := ab_ aD hb; replace aG := abp_ aG hb; replace HB := al_ HB hb; (try clear hb)) | (refine gd_ 13 ?_; refine bx_ 13 #[.int .i64 0, .int .i64 0] 130 ?_; intro dN hg w118 hbox hb; have cV := Zk (hbox); have dO := gw_ HB hg; replace HB := al_ HB hb; have bH := n1_ aB hg; have bI := n2_ aB hg; replace aB := ab_ aB hb; have bJ := n1_ aA hg; have bK := n2_ aA hg; replace aA := ab_ aA hb; have bL := n1_ aC hg; have bM := n2_ aC hg; replace aC := ab_ aC hb; have bN := n1_ aD hg; have bO := n2_ aD hg; replace aD := ab_ aD hb; have bP := n1_ aG hg; have bQ := n2_ aG hg; replace aG := ab_ aG hb; clear hb hbox hg; obtain ⟨oW, oX⟩ := nn_ bI bH; obtain ⟨oY, oZ⟩ := nn_ bK bJ; obtain ⟨pA, pB⟩ := nn_ bM bL; obtain ⟨pC, pD⟩ := nn_ bO bN; obtain ⟨pE, pF⟩ := nn_ bQ bP; obtain ⟨hE, hF, hG, hH⟩ := cf2_ cV; obtain ⟨hI, hJ, hL, hM⟩ := cf2_ aG; obtain ⟨pG, pH⟩ := nn_ bY bX; obtain ⟨pI, pJ⟩ := nn_ cA bZ; obtain ⟨hN, hO, hP, hQ⟩ := cf2_ aD))
      go_roundg k2
      case measure => have := HJ16.out; have := HK2.out; omega
      case rel => exact ⟨(wrap64 (aF + 1)), (cR), (cS), (dK), q_, H', ⟨by have := HJ16.out; have := HK2.out; omega⟩, ⟨bk_ aB⟩, ⟨bk_ aA⟩, ⟨bk_ aC⟩, ⟨bp_ aD⟩, ⟨bl_ HB⟩⟩
     rw [if_pos c59] at H
     have gV : decide (0 < aF) = true := decide_eq_true c59
     clear c59
     by_cases c60 : aU ≥ ((rd_T84 ((rd_T65 l0_0 a1).f2.f1) aF).f0)
     case neg =>
      rw [if_neg c60] at H
      have hR : decide (((rd_T84 ((rd_T65 l0_0 a1).f2.f1) aF).f0) ≤ aU) = false := decide_eq_false c60
      clear c60
      have H' := Zk H
      clear H
      have cN : 0 ≤ (aF : Int) := of_decide_eq_true as_
      have cO : aF < (((rd_T65 l0_0 a1).f2.f1).length : Int) := of_decide_eq_true as_
      obtain ⟨cU, dA, aV, aW⟩ := at_T84 bR.out aF cN cO
      obtain rfl : cW = cU := (by injection dA)
      replace aV := hx_ HB aV
      replace aW := hx_ HB aW
      replace cN := eq_true cN
      replace cO := eq_true cO
      go_wp2_with (first | (refine gd_ 12 ?_; refine bx_ 12 #[.int .i64 0, .int .i64 0] 84 ?_; intro dL hg w85 hbox hb; have aG := Zk (hbox); have dM := gw_ HB hg; replace HB := al_ HB hb; have aZ := n1_ aB hg; have bA := n2_ aB hg; replace aB := ab_ aB hb; have bB := n1_ aA hg; have bC := n2_ aA hg; replace aA := ab_ aA hb; have bD := n1_ aC hg; have bE := n2_ aC hg; replace aC := ab_ aC hb; have bF := n1_ aD hg; have bG := n2_ aD hg; replace aD := ab_ aD hb; clear hb hbox hg; obtain ⟨qX, qY⟩ := nn_ bA aZ; obtain ⟨qZ, rA⟩ := nn_ bC bB; obtain ⟨rB, rC⟩ := nn_ bE bD; obtain ⟨rD, rE⟩ := nn_ bG bF; obtain ⟨kI, kJ, kK, kL⟩ := cf2_ aG; obtain ⟨rF, rG⟩ := nn_ aJ aK; obtain ⟨rH, rI⟩ := nn_ aS aT; obtain ⟨rJ, rK⟩ := nn_ bV bW; obtain ⟨kM, kN, kO, kP⟩ := cf2_ aB) | (refine gc_ 68 ?_; refine gl_ 68 (some 73) #[.agg #[.slice (some cF) l0_0.length c0_0, .int .i64 a0_1], .int .i64 ((rd_T84 ((rd_T65 l0_0 a1).f2.f1) aF).f1), .int .i64 (wrap64 (a2 - 1))] Tryz.func68 ?_; (with_reducible refine (ih k2 (by have := HJ16.out; have := HK2.out; omega) _ _ l0_0 a0_1 ((rd_T84 ((rd_T65 l0_0 a1).f2.f1) aF).f1) (wrap64 (a2 - 1)) dF dK true _ (cb_ cT HB) dB.out A56.out).mono ?_); rintro e w95 ⟨rfl, hb⟩; refine ⟨_, rfl, ?_⟩; replace aB := ab_ aB hb; replace aA := ab_ aA hb; replace aC := ab_ aC hb; replace aD := ab_ aD hb; replace aG := abp_ aG hb; replace HB := al_ HB hb; (try clear hb)) | (refine gd_ 13 ?_; refine bx_ 13 #[.int .i64 0, .int .i64 0] 130 ?_; intro dN hg w96 hbox hb; have cV := Zk (hbox); have dO := gw_ HB hg; replace HB := al_ HB hb; have bH := n1_ aB hg; have bI := n2_ aB hg; replace aB := ab_ aB hb; have bJ := n1_ aA hg; have bK := n2_ aA hg; replace aA := ab_ aA hb; have bL := n1_ aC hg; have bM := n2_ aC hg; replace aC := ab_ aC hb; have bN := n1_ aD hg; have bO := n2_ aD hg; replace aD := ab_ aD hb; have bP := n1_ aG hg; have bQ := n2_ aG hg; replace aG := ab_ aG hb; clear hb hbox hg; obtain ⟨rL, rM⟩ := nn_ bI bH; obtain ⟨rN, rO⟩ := nn_ bK bJ; obtain ⟨rP, rQ⟩ := nn_ bM bL; obtain ⟨pK, pL⟩ := nn_ bO bN; obtain ⟨pM, pN⟩ := nn_ bQ bP; obtain ⟨hS, hT, hU, hV⟩ := cf2_ cV; obtain ⟨hW, hX, hY, hZ⟩ := cf2_ aG; obtain ⟨pO, pP⟩ := nn_ bY bX; obtain ⟨pQ, pR⟩ := nn_ cA bZ; obtain ⟨iA, iB, iC, iD⟩ := cf2_ aD))
      go_roundg k2
      case measure => have := HJ16.out; have := HK2.out; omega
      case rel => exact ⟨(wrap64 (aF + 1)), (cR), (cS), (dK), q_, H', ⟨by have := HJ16.out; have := HK2.out; omega⟩, ⟨bk_ aB⟩, ⟨bk_ aA⟩, ⟨bk_ aC⟩, ⟨bp_ aD⟩, ⟨bl_ HB⟩⟩
     rw [if_pos c60] at H
     have hR : decide (((rd_T84 ((rd_T65 l0_0 a1).f2.f1) aF).f0) ≤ aU) = true := decide_eq_true c60
     clear c60
     simp only [Option.some.injEq, Prod.mk.injEq] at H
     obtain ⟨rfl, rfl, rfl⟩ := H
     have cN : 0 ≤ (aF : Int) := of_decide_eq_true as_
     have cO : aF < (((rd_T65 l0_0 a1).f2.f1).length : Int) := of_decide_eq_true as_
     obtain ⟨cU, dA, aV, aW⟩ := at_T84 bR.out aF cN cO
     obtain rfl : cW = cU := (by injection dA)
     replace aV := hx_ HB aV
     replace aW := hx_ HB aW
     replace cN := eq_true cN
     replace cO := eq_true cO
     go_wp2_with (first | (refine gd_ 12 ?_; refine bx_ 12 #[.int .i64 0, .int .i64 0] 84 ?_; intro dL hg w61 hbox hb; have aG := Zk (hbox); have dM := gw_ HB hg; replace HB := al_ HB hb; have aZ := n1_ aB hg; have bA := n2_ aB hg; replace aB := ab_ aB hb; have bB := n1_ aA hg; have bC := n2_ aA hg; replace aA := ab_ aA hb; have bD := n1_ aC hg; have bE := n2_ aC hg; replace aC := ab_ aC hb; have bF := n1_ aD hg; have bG := n2_ aD hg; replace aD := ab_ aD hb; clear hb hbox hg; obtain ⟨rR, rS⟩ := nn_ bA aZ; obtain ⟨rT, rU⟩ := nn_ bC bB; obtain ⟨rV, rW⟩ := nn_ bE bD; obtain ⟨rX, rY⟩ := nn_ bG bF; obtain ⟨kQ, kR, kS, kT⟩ := cf2_ aG; obtain ⟨rZ, sA⟩ := nn_ aJ aK; obtain ⟨sB, sC⟩ := nn_ aS aT; obtain ⟨sD, sE⟩ := nn_ bV bW; obtain ⟨kU, kV, kW, kX⟩ := cf2_ aB) | (refine gc_ 68 ?_; refine gl_ 68 (some 73) #[.agg #[.slice (some cF) l0_0.length c0_0, .int .i64 a0_1], .int .i64 ((rd_T84 ((rd_T65 l0_0 a1).f2.f1) aF).f1), .int .i64 (wrap64 (a2 - 1))] Tryz.func68 ?_; (with_reducible refine (ih k2 (by have := HJ16.out; have := HK2.out; omega) _ _ l0_0 a0_1 ((rd_T84 ((rd_T65 l0_0 a1).f2.f1) aF).f1) (wrap64 (a2 - 1)) dF dK true _ (cb_ cT HB) dB.out A56.out).mono ?_); rintro e w71 ⟨rfl, hb⟩; refine ⟨_, rfl, ?_⟩; replace aB := ab_ aB hb; replace aA := ab_ aA hb; replace aC := ab_ aC hb; replace aD := ab_ aD hb; replace aG := abp_ aG hb; replace HB := al_ HB hb; (try clear hb)) | (refine gd_ 13 ?_; refine bx_ 13 #[.int .i64 0, .int .i64 0] 130 ?_; intro dN hg w72 hbox hb; have cV := Zk (hbox); have dO := gw_ HB hg; replace HB := al_ HB hb; have bH := n1_ aB hg; have bI := n2_ aB hg; replace aB := ab_ aB hb; have bJ := n1_ aA hg; have bK := n2_ aA hg; replace aA := ab_ aA hb; have bL := n1_ aC hg; have bM := n2_ aC hg; replace aC := ab_ aC hb; have bN := n1_ aD hg; have bO := n2_ aD hg; replace aD := ab_ aD hb; have bP := n1_ aG hg; have bQ := n2_ aG hg; replace aG := ab_ aG hb; clear hb hbox hg; obtain ⟨sF, sG⟩ := nn_ bI bH; obtain ⟨sH, sI⟩ := nn_ bK bJ; obtain ⟨sJ, sK⟩ := nn_ bM bL; obtain ⟨sL, sM⟩ := nn_ bO bN; obtain ⟨sN, sO⟩ := nn_ bQ bP; obtain ⟨kY, kZ, lA, lB⟩ := cf2_ cV; obtain ⟨lC, lD, lE, lF⟩ := cf2_ aG; obtain ⟨sP, sQ⟩ := nn_ bY bX; obtain ⟨sR, sS⟩ := nn_ cA bZ; obtain ⟨lG, lH, lI, lJ⟩ := cf2_ aD; obtain ⟨sT, sU⟩ := nn_ aL aE; obtain ⟨lK, lL, lM, lN⟩ := cf2_ aA))
     refine bodyPost_ret (results_ct rfl _ _ aH 130 #[.int .i64 ((rd_T84 ((rd_T65 l0_0 a1).f2.f1) 0).f0), .int .i64 aU] (0, 0) _ rfl (bp_ aA) Tryz.underlying130 rfl (by kernel_rfl)) rfl ?_
     exact ⟨e_, bl_ HB⟩
end
section
attribute [local go_sem] max2_int min2_int max_two min_two max_three min_three max_four min_four
mutual
def tree_Right.j0 : Nat → Int → Bool → List (S65) → Int → Option (Bool)
 | 0, _, _, _, _ => none
 | k + 1, x1, x28, aA, aB => if x28 = true then (some false) else (tree_Right.l0 k x1 1 x1 aA aB)
def tree_Right.l0 : Nat → Int → Int → Int → List (S65) → Int → Option (Bool)
 | 0, _, _, _, _, _ => none
 | k + 1, x1, x5, x6, aA, aB => if 0 ≤ x6 then (if x6 < (aA.length : Int) then (if ((rd_T65 aA x6).f2.f0 = true) then ((tree_whole.f k aA aB x1 x5).bind fun bt765 => (some bt765.2.2)) else (if x5 = 20 then (some false) else (if 0 < (((rd_T65 aA x6).f2.f1).length : Int) then (if 0 ≤ ((rd_T84 ((rd_T65 aA x6).f2.f1) 0).f1) then (if ((rd_T84 ((rd_T65 aA x6).f2.f1) 0).f1) < (aA.length : Int) then (if ((rd_T65 aA ((rd_T84 ((rd_T65 aA x6).f2.f1) 0).f1)).f0) = 0 then (some false) else (tree_Right.l0 k x1 (wrap64 (x5 + 1)) ((rd_T84 ((rd_T65 aA x6).f2.f1) 0).f1) aA aB)) else (none)) else (none)) else (none)))) else (none)) else (none)
end
def tree_Right.f (k : Nat) (l0_0 : List (S65)) (a0_1 : Int) (a1 : Int) : Option (Bool) := if a1 = (-1) then (some true) else (if a1 < 0 then (tree_Right.j0 k a1 true l0_0 a0_1) else (if a1 ≥ (l0_0.length : Int) then (tree_Right.j0 k a1 true l0_0 a0_1) else (if 0 ≤ a1 then (if a1 < (l0_0.length : Int) then (tree_Right.j0 k a1 (((rd_T65 l0_0 a1).f0) == 0) l0_0 a0_1) else (none)) else (none))))
theorem tree_Right.calls (k : Nat) (A0_0 : Option Addr) (c0_0 : Nat) (l0_0 : List (S65)) (a0_1 : Int) (a1 : Int) (r : Bool) (w : World) (hr0_0 : Kd.C k65 w A0_0 l0_0.length l0_0) (hc0_0 : l0_0.length ≤ c0_0) (h : tree_Right.f k l0_0 a0_1 a1 = some r) :
  Calls Tryz.prog 32 #[.agg #[.slice A0_0 l0_0.length c0_0, .int .i64 a0_1], .int .i64 a1] w fun e w' => e = .returned (.bool r) ∧ Below w.heap.size w w' := by
 have hu30 := Tryz.underlying30
 have hu130 := Tryz.underlying130
 have aN := Zk hr0_0
 have cJ := Zk hc0_0
 clear hr0_0 hc0_0
 have HB := Zk (Below.refl w.heap.size w)
 have H : (if a1 = (-1) then (some true) else (if a1 < 0 then (tree_Right.j0 k a1 true l0_0 a0_1) else (if a1 ≥ (l0_0.length : Int) then (tree_Right.j0 k a1 true l0_0 a0_1) else (if 0 ≤ a1 then (if a1 < (l0_0.length : Int) then (tree_Right.j0 k a1 (((rd_T65 l0_0 a1).f0) == 0) l0_0 a0_1) else (none)) else (none))))) = some r := h
 clear h
 by_cases c3 : a1 = (-1)
 case pos =>
  rw [if_pos c3] at H
  have bY := beq_iff_eq.mpr c3
  have bZ := bne_eq_false_iff_eq.mpr c3
  clear c3
  obtain rfl := Option.some.inj H
  go_enter Tryz.func32, Tryz.ntmps32
  go_wp2_with (first | (refine gd_ 2 ?_; (try (refine gate_guard (by rfl) ?_; dsimp only)); refine bx_ 2 #[.slice A0_0 l0_0.length c0_0, .int .i64 a0_1] 30 ?_; intro bP hg w4 hbox hb; have aE := Zk (hbox); have cK := gw_ HB hg; replace HB := al_ HB hb; clear hb hbox hg))
  go_ret
  exact ⟨e_, bl_ HB⟩
 rw [if_neg c3] at H
 have bY := beq_eq_false_iff_ne.mpr c3
 have bZ := bne_iff_ne.mpr c3
 have HC5 := Zk H
 clear H
 go_enter Tryz.func32, Tryz.ntmps32
 go_upto_region 3 with (first | (refine gd_ 2 ?_; (try (refine gate_guard (by rfl) ?_; dsimp only)); refine bx_ 2 #[.slice A0_0 l0_0.length c0_0, .int .i64 a0_1] 30 ?_; intro bP hg w6 hbox hb; have aE := Zk (hbox); have cK := gw_ HB hg; replace HB := al_ HB hb; clear hb hbox hg))
 (try simp only [Act.put, List.setIfInBounds_toArray, List.set_cons_zero, List.set_cons_succ])
 go_cut [28] (fun v28 wc => ∃ (kq : Nat) (bM : Bool), v28 = .bool bM ∧ Aside0 (tree_Right.j0 kq a1 bM l0_0 a0_1 = some r) ∧ Aside0 (kq ≤ k) ∧ Aside0 (wc.heap[bP]? = some (.cells #[(.slice A0_0 l0_0.length c0_0), .int .i64 a0_1] 30 (0, 0))) ∧ Aside0 (Below w.heap.size w wc))
 case first =>
  have H := HC5.out
  clear HC5
  by_cases c7 : a1 < 0
  case pos =>
   rw [if_pos c7] at H
   have bC := decide_eq_true c7
   clear c7
   (first | rw [bC] | (simp only [i64_w, i32_w]; rw [bC]) | skip)
   have H' := Zk H
   clear H
   go_wp2
   go_meet
   case rel => exact ⟨_, (true), q_, H', ⟨by first | omega | exact Nat.le_refl _⟩, ⟨bk_ aE⟩, ⟨bl_ HB⟩⟩
  rw [if_neg c7] at H
  have bC := decide_eq_false c7
  clear c7
  (first | rw [bC] | (simp only [i64_w, i32_w]; rw [bC]) | skip)
  by_cases c8 : a1 ≥ (l0_0.length : Int)
  case pos =>
   rw [if_pos c8] at H
   have cA : decide ((l0_0.length : Int) ≤ a1) = true := decide_eq_true c8
   clear c8
   have H' := Zk H
   clear H
   obtain ⟨dS, dT, dU, dV⟩ := cf2_ aE
   go_wp2
   go_meet
   case rel => exact ⟨_, (true), q_, H', ⟨by first | omega | exact Nat.le_refl _⟩, ⟨bk_ aE⟩, ⟨bl_ HB⟩⟩
  rw [if_neg c8] at H
  have cA : decide ((l0_0.length : Int) ≤ a1) = false := decide_eq_false c8
  clear c8
  by_cases c10 : 0 ≤ a1
  case neg => exact no_ c10 H
  rw [if_pos c10] at H
  have bW := decide_eq_true c10
  clear c10
  by_cases c11 : a1 < (l0_0.length : Int)
  case neg => exact no_ c11 H
  rw [if_pos c11] at H
  have bX := decide_eq_true c11
  clear c11
  have H' := Zk H
  clear H
  obtain ⟨cS, cT, cU, cV⟩ := cf2_ aE
  have cB : 0 ≤ (a1 : Int) := of_decide_eq_true as_
  have bQ : a1 < (l0_0.length : Int) := of_decide_eq_true as_
  obtain ⟨eC, dW, dX, dY, aU, aV, aW, aX, hl763_3, hi763_3⟩ := at_T65 aN.out a1 cB bQ
  cases dY
  replace aU := hx_ HB aU
  replace aV := hx_ HB aV
  replace aW := hx_ HB aW
  replace aX := hx_ HB aX
  have cW := Zk hi763_3
  have cX := Zk hl763_3
  clear hi763_3 hl763_3
  replace cB := eq_true cB
  replace bQ := eq_true bQ
  go_wp2
  go_meet
  case rel => exact ⟨_, ((((rd_T65 l0_0 a1).f0) == 0)), q_, H', ⟨by first | omega | exact Nat.le_refl _⟩, ⟨bk_ aE⟩, ⟨bl_ HB⟩⟩
 case rest =>
  clear HC5
  try clear bY
  try clear bZ
  try clear bC
  try clear q7
  try clear hx7
  try clear cA
  try clear bW
  try clear bX
  try clear aU
  try clear aV
  try clear aW
  try clear aX
  try clear bQ
  obtain ⟨kq, bM, rfl, HA, HJ4, aE, HB⟩ := hcut
  cases kq with
  | zero => exact absurd HA.out (by simp [tree_Right.j0])
  | succ kj4 =>
   have H := HA.out
   clear HA
   simp only [tree_Right.j0] at H
   by_cases c13 : bM = true
   case pos =>
    subst c13
    rw [if_pos rfl] at H
    obtain rfl := Option.some.inj H
    go_wp2
    go_ret
    exact ⟨e_, bl_ HB⟩
   replace c13 := Bool.eq_false_iff.mpr c13
   subst c13
   rw [if_neg (show ¬ (false = true) by decide)] at H
   have H' := Zk H
   clear H
   go_wp2
   go_loopg [5, 6] kj4 (fun kq v5 v6 w' => ∃ (aY : Int) (aA : Int), v5 = .int .i64 aY ∧ v6 = .int .i64 aA ∧ Aside0 (tree_Right.l0 kq a1 aY aA l0_0 a0_1 = some r) ∧ Aside0 (kq ≤ kj4) ∧ Aside0 (w'.heap[bP]? = some (.cells #[(.slice A0_0 l0_0.length c0_0), .int .i64 a0_1] 30 (0, 0))) ∧ Aside0 (Below w.heap.size w w'))
   case atStart => exact ⟨(1), (a1), q_, q_, H', ⟨Nat.le_refl _⟩, ⟨bk_ aE⟩, ⟨bl_ HB⟩⟩
   case round =>
    clear H'
    try clear bY
    try clear bZ
    try clear bC
    try clear q7
    try clear hx7
    try clear cA
    try clear bW
    try clear bX
    try clear aU
    try clear aV
    try clear aW
    try clear aX
    try clear q7
    try clear bQ
    obtain ⟨aY, aA, rfl, rfl, HA, HK2, aE, HB⟩ := hrel
    cases gk with
    | zero => exact absurd HA.out (by simp [tree_Right.l0])
    | succ k2 =>
     have H := HA.out
     clear HA
     simp only [tree_Right.l0] at H
     by_cases c14 : 0 ≤ aA
     case neg => exact no_ c14 H
     rw [if_pos c14] at H
     have eD := decide_eq_true c14
     clear c14
     by_cases c15 : aA < (l0_0.length : Int)
     case neg => exact no_ c15 H
     rw [if_pos c15] at H
     have eE := decide_eq_true c15
     clear c15
     obtain ⟨bq16, hbq16⟩ : ∃ b_ : Bool, b_ = ((rd_T65 l0_0 aA).f2.f0) := ⟨_, rfl⟩
     replace H : (if (bq16 = true) then ((tree_whole.f k2 l0_0 a0_1 a1 aY).bind fun bt765 => (some bt765.2.2)) else (if aY = 20 then (some false) else (if 0 < (((rd_T65 l0_0 aA).f2.f1).length : Int) then (if 0 ≤ ((rd_T84 ((rd_T65 l0_0 aA).f2.f1) 0).f1) then (if ((rd_T84 ((rd_T65 l0_0 aA).f2.f1) 0).f1) < (l0_0.length : Int) then (if ((rd_T65 l0_0 ((rd_T84 ((rd_T65 l0_0 aA).f2.f1) 0).f1)).f0) = 0 then (some false) else (tree_Right.l0 k2 a1 (wrap64 (aY + 1)) ((rd_T84 ((rd_T65 l0_0 aA).f2.f1) 0).f1) l0_0 a0_1)) else (none)) else (none)) else (none)))) = some r := by rw [← hbq16] at H; exact H
     have Nbq16 := Zk hbq16
     clear hbq16
     by_cases c17 : (bq16 = true)
     case pos =>
      subst c17
      rw [if_pos rfl] at H
      replace H := Option.bind_eq_some_iff.mp H
      obtain ⟨⟨dZ, eA, eB⟩, cL, H⟩ := H
      (try dsimp only at H)
      have A18 := Zk cL
      clear cL
      obtain rfl := Option.some.inj H
      obtain ⟨cY, cZ, dA, dB⟩ := cf2_ aE
      have aO : 0 ≤ (aA : Int) := of_decide_eq_true as_
      have aP : aA < (l0_0.length : Int) := of_decide_eq_true as_
      obtain ⟨aT, bD, bE, bF, aF, aB, aC, aD, hl764_3, hi764_3⟩ := at_T65 aN.out aA aO aP
      (try rw [← Nbq16.out] at aB)
      (try rw [← Nbq16.out] at aC)
      cases bF
      replace aF := hx_ HB aF
      replace aB := hx_ HB aB
      replace aC := hx_ HB aC
      replace aD := hx_ HB aD
      have aZ := Zk hi764_3
      have bA := Zk hl764_3
      clear hi764_3 hl764_3
      replace aO := eq_true aO
      replace aP := eq_true aP
      go_wp2_with (first | (refine gc_ 68 ?_; refine gl_ 68 (some 63) #[.agg #[.slice (some aT) l0_0.length c0_0, .int .i64 a0_1], .int .i64 a1, .int .i64 aY] Tryz.func68 ?_; (with_reducible refine (tree_whole.calls k2 _ _ l0_0 a0_1 a1 aY dZ eA eB _ (cb_ aN HB) cJ.out A18.out).mono ?_); rintro e w20 ⟨rfl, hb⟩; refine ⟨_, rfl, ?_⟩; replace aE := ab_ aE hb; replace HB := al_ HB hb; (try clear hb)) | (refine gd_ 7 ?_; (try (refine gate_guard (by rfl) ?_; dsimp only)); refine bx_ 7 #[.int .i64 0, .int .i64 0] 130 ?_; intro eF hg w21 hbox hb; have cM := Zk (hbox); have eG := gw_ HB hg; replace HB := al_ HB hb; have bN := n1_ aE hg; have bO := n2_ aE hg; replace aE := ab_ aE hb; clear hb hbox hg; obtain ⟨eH, eI⟩ := nn_ bO bN; obtain ⟨dC, dD, dE, dF⟩ := cf2_ cM))
      go_ret
      exact ⟨e_, bl_ HB⟩
     replace c17 := Bool.eq_false_iff.mpr c17
     subst c17
     rw [if_neg (show ¬ (false = true) by decide)] at H
     by_cases c24 : aY = 20
     case pos =>
      rw [if_pos c24] at H
      have cN := beq_iff_eq.mpr c24
      have cO := bne_eq_false_iff_eq.mpr c24
      clear c24
      obtain rfl := Option.some.inj H
      obtain ⟨dG, dH, dI, dJ⟩ := cf2_ aE
      have aO : 0 ≤ (aA : Int) := of_decide_eq_true as_
      have aP : aA < (l0_0.length : Int) := of_decide_eq_true as_
      obtain ⟨aT, bD, bE, bF, aF, aB, aC, aD, hl764_3, hi764_3⟩ := at_T65 aN.out aA aO aP
      (try rw [← Nbq16.out] at aB)
      (try rw [← Nbq16.out] at aC)
      cases bF
      replace aF := hx_ HB aF
      replace aB := hx_ HB aB
      replace aC := hx_ HB aC
      replace aD := hx_ HB aD
      have aZ := Zk hi764_3
      have bA := Zk hl764_3
      clear hi764_3 hl764_3
      replace aO := eq_true aO
      replace aP := eq_true aP
      go_wp2
      go_ret
      exact ⟨e_, bl_ HB⟩
     rw [if_neg c24] at H
     have cN := beq_eq_false_iff_ne.mpr c24
     have cO := bne_iff_ne.mpr c24
     by_cases c26 : 0 < (((rd_T65 l0_0 aA).f2.f1).length : Int)
     case neg => exact no_ c26 H
     rw [if_pos c26] at H
     have eJ := decide_eq_true c26
     have eK : decide (0 < ((rd_T65 l0_0 aA).f2.f1).length) = true := decide_eq_true (by omega)
     clear c26
     by_cases c27 : 0 ≤ ((rd_T84 ((rd_T65 l0_0 aA).f2.f1) 0).f1)
     case neg => exact no_ c27 H
     rw [if_pos c27] at H
     have eL := decide_eq_true c27
     clear c27
     by_cases c28 : ((rd_T84 ((rd_T65 l0_0 aA).f2.f1) 0).f1) < (l0_0.length : Int)
     case neg => exact no_ c28 H
     rw [if_pos c28] at H
     have eM := decide_eq_true c28
     clear c28
     by_cases c29 : ((rd_T65 l0_0 ((rd_T84 ((rd_T65 l0_0 aA).f2.f1) 0).f1)).f0) = 0
     case pos =>
      rw [if_pos c29] at H
      have cP := beq_iff_eq.mpr c29
      have cQ := bne_eq_false_iff_eq.mpr c29
      clear c29
      obtain rfl := Option.some.inj H
      obtain ⟨dK, dL, dM, dN⟩ := cf2_ aE
      have aO : 0 ≤ (aA : Int) := of_decide_eq_true as_
      have aP : aA < (l0_0.length : Int) := of_decide_eq_true as_
      obtain ⟨aT, bD, bE, bF, aF, aB, aC, aD, hl764_3, hi764_3⟩ := at_T65 aN.out aA aO aP
      (try rw [← Nbq16.out] at aB)
      (try rw [← Nbq16.out] at aC)
      cases bF
      replace aF := hx_ HB aF
      replace aB := hx_ HB aB
      replace aC := hx_ HB aC
      replace aD := hx_ HB aD
      have aZ := Zk hi764_3
      have bA := Zk hl764_3
      clear hi764_3 hl764_3
      replace aO := eq_true aO
      replace aP := eq_true aP
      have bG : 0 ≤ (aA : Int) := of_decide_eq_true as_
      have bH : aA < (l0_0.length : Int) := of_decide_eq_true as_
      obtain ⟨bR, cC, cD, cE, aQ, aI, aJ, aK, hl769_3, hi769_3⟩ := at_T65 aN.out aA bG bH
      (try rw [← Nbq16.out] at aI)
      (try rw [← Nbq16.out] at aJ)
      obtain rfl : aT = bR := (by injection cE)
      replace aQ := hx_ HB aQ
      replace aI := hx_ HB aI
      replace aJ := hx_ HB aJ
      replace aK := hx_ HB aK
      have bB := Zk hi769_3
      have bT := Zk hl769_3
      clear hi769_3 hl769_3
      replace bG := eq_true bG
      replace bH := eq_true bH
      have ea_ := Option.some.inj (aD.symm.trans aK)
      injection ea_ with ea_ en_ ec_
      subst ea_
      subst ec_
      clear en_
      have bI : 0 ≤ (0 : Int) := (by omega)
      have bJ : 0 < (((rd_T65 l0_0 aA).f2.f1).length : Int) := of_decide_eq_true as_
      obtain ⟨cR, cF, aG, aH⟩ := at_T84 bB.out 0 bI bJ
      cases cF
      have qi770 : (0 < ((rd_T65 l0_0 aA).f2.f1).length) = True := eq_true (by omega)
      (try rw [show ((0 : Int)).toNat = 0 from rfl] at aG)
      (try rw [show 0 * 2 = 0 from rfl] at aG)
      (try rw [Addr.add_zero'] at aG)
      (try rw [show ((0 : Int)).toNat = 0 from rfl] at aH)
      (try rw [show 0 * 2 = 0 from rfl] at aH)
      (try rw [Addr.add_zero'] at aH)
      replace aG := hx_ HB aG
      replace aH := hx_ HB aH
      replace bI := eq_true bI
      replace bJ := eq_true bJ
      have bK : 0 ≤ (((rd_T84 ((rd_T65 l0_0 aA).f2.f1) 0).f1) : Int) := of_decide_eq_true as_
      have bL : ((rd_T84 ((rd_T65 l0_0 aA).f2.f1) 0).f1) < (l0_0.length : Int) := of_decide_eq_true as_
      obtain ⟨bS, cG, cH, cI, aR, aL, aM, aS, hl771_3, hi771_3⟩ := at_T65 aN.out ((rd_T84 ((rd_T65 l0_0 aA).f2.f1) 0).f1) bK bL
      (try rw [← Nbq16.out] at aL)
      (try rw [← Nbq16.out] at aM)
      obtain rfl : aT = bS := (by injection cI)
      replace aR := hx_ HB aR
      replace aL := hx_ HB aL
      replace aM := hx_ HB aM
      replace aS := hx_ HB aS
      have bU := Zk hi771_3
      have bV := Zk hl771_3
      clear hi771_3 hl771_3
      replace bK := eq_true bK
      replace bL := eq_true bL
      go_wp2
      go_ret
      exact ⟨e_, bl_ HB⟩
     rw [if_neg c29] at H
     have cP : (((rd_T65 l0_0 ((rd_T84 ((rd_T65 l0_0 aA).f2.f1) 0).f1)).f0) == 0) = false := beq_eq_false_iff_ne.mpr c29
     have cQ : (((rd_T65 l0_0 ((rd_T84 ((rd_T65 l0_0 aA).f2.f1) 0).f1)).f0) != 0) = true := bne_iff_ne.mpr c29
     have H' := Zk H
     clear H
     obtain ⟨dO, dP, dQ, dR⟩ := cf2_ aE
     have aO : 0 ≤ (aA : Int) := of_decide_eq_true as_
     have aP : aA < (l0_0.length : Int) := of_decide_eq_true as_
     obtain ⟨aT, bD, bE, bF, aF, aB, aC, aD, hl764_3, hi764_3⟩ := at_T65 aN.out aA aO aP
     (try rw [← Nbq16.out] at aB)
     (try rw [← Nbq16.out] at aC)
     cases bF
     replace aF := hx_ HB aF
     replace aB := hx_ HB aB
     replace aC := hx_ HB aC
     replace aD := hx_ HB aD
     have aZ := Zk hi764_3
     have bA := Zk hl764_3
     clear hi764_3 hl764_3
     replace aO := eq_true aO
     replace aP := eq_true aP
     have bG : 0 ≤ (aA : Int) := of_decide_eq_true as_
     have bH : aA < (l0_0.length : Int) := of_decide_eq_true as_
     obtain ⟨bR, cC, cD, cE, aQ, aI, aJ, aK, hl769_3, hi769_3⟩ := at_T65 aN.out aA bG bH
     (try rw [← Nbq16.out] at aI)
     (try rw [← Nbq16.out] at aJ)
     obtain rfl : aT = bR := (by injection cE)
     replace aQ := hx_ HB aQ
     replace aI := hx_ HB aI
     replace aJ := hx_ HB aJ
     replace aK := hx_ HB aK
     have bB := Zk hi769_3
     have bT := Zk hl769_3
     clear hi769_3 hl769_3
     replace bG := eq_true bG
     replace bH := eq_true bH
     have ea_ := Option.some.inj (aD.symm.trans aK)
     injection ea_ with ea_ en_ ec_
     subst ea_
     subst ec_
     clear en_
     have bI : 0 ≤ (0 : Int) := (by omega)
     have bJ : 0 < (((rd_T65 l0_0 aA).f2.f1).length : Int) := of_decide_eq_true as_
     obtain ⟨cR, cF, aG, aH⟩ := at_T84 bB.out 0 bI bJ
     cases cF
     have qi770 : (0 < ((rd_T65 l0_0 aA).f2.f1).length) = True := eq_true (by omega)
     (try rw [show ((0 : Int)).toNat = 0 from rfl] at aG)
     (try rw [show 0 * 2 = 0 from rfl] at aG)
     (try rw [Addr.add_zero'] at aG)
     (try rw [show ((0 : Int)).toNat = 0 from rfl] at aH)
     (try rw [show 0 * 2 = 0 from rfl] at aH)
     (try rw [Addr.add_zero'] at aH)
     replace aG := hx_ HB aG
     replace aH := hx_ HB aH
     replace bI := eq_true bI
     replace bJ := eq_true bJ
     have bK : 0 ≤ (((rd_T84 ((rd_T65 l0_0 aA).f2.f1) 0).f1) : Int) := of_decide_eq_true as_
     have bL : ((rd_T84 ((rd_T65 l0_0 aA).f2.f1) 0).f1) < (l0_0.length : Int) := of_decide_eq_true as_
     obtain ⟨bS, cG, cH, cI, aR, aL, aM, aS, hl771_3, hi771_3⟩ := at_T65 aN.out ((rd_T84 ((rd_T65 l0_0 aA).f2.f1) 0).f1) bK bL
     (try rw [← Nbq16.out] at aL)
     (try rw [← Nbq16.out] at aM)
     obtain rfl : aT = bS := (by injection cI)
     replace aR := hx_ HB aR
     replace aL := hx_ HB aL
     replace aM := hx_ HB aM
     replace aS := hx_ HB aS
     have bU := Zk hi771_3
     have bV := Zk hl771_3
     clear hi771_3 hl771_3
     replace bK := eq_true bK
     replace bL := eq_true bL
     go_wp2
     go_roundg k2
     case measure => have := HJ4.out; have := HK2.out; omega
     case rel => exact ⟨(wrap64 (aY + 1)), ((rd_T84 ((rd_T65 l0_0 aA).f2.f1) 0).f1), q_, q_, H', ⟨by have := HJ4.out; have := HK2.out; omega⟩, ⟨bk_ aE⟩, ⟨bl_ HB⟩⟩
end
theorem wj0_true {k : Nat} {x2 : Int} {it : List S84} {l : List S65} {kp : Int} {lf : Bool} (h : 1 ≤ it.length) (h2 : it.length ≤ 4) : ∃ r, tree_whole.j0 (k + 1) x2 it true l kp lf it = some r := by
 rw [tree_whole.j0, if_pos rfl, if_pos (by omega), show wrap64 ((it.length : Int) - 1) = (it.length : Int) - 1 from w64 (by omega) (by omega), if_pos (by omega), if_pos (by omega)]
 cases lf with
 | true => exact ⟨_, rfl⟩
 | false => exact ⟨_, rfl⟩
theorem whole_l0 {l : List S65} {kp : Int} (d : Nat) (hd1 : 2 ≤ d) (hd2 : d ≤ 20) (it : List S84) (h4 : it.length ≤ 4) (hf : ∀ i, i < it.length → ∀ k, 10 * (d - 1) + 10 ≤ k → ∃ r, tree_whole.f k l kp (rd_T84 it (i : Nat)).f1 ((d - 1 : Nat) : Int) = some r) :
  ∀ (e k j : Nat) (a b : Int), j + e = it.length → 10 * (d - 1) + 11 + e ≤ k → ∃ r, tree_whole.l0 k (d : Nat) it (it.length : Int) (j : Nat) l kp a b = some r := by
 intro e
 induction e with
 | zero =>
  intro k j a b hj hk
  obtain ⟨k, rfl⟩ : ∃ k', k = k' + 1 := ⟨k - 1, by omega⟩
  rw [tree_whole.l0, if_neg (by omega)]
  exact ⟨_, rfl⟩
 | succ e ih =>
  intro k j a b hj hk
  obtain ⟨k, rfl⟩ : ∃ k', k = k' + 1 := ⟨k - 1, by omega⟩
  rw [tree_whole.l0, if_pos (by omega), if_pos (by omega), if_pos (by omega), show wrap64 ((d : Int) - 1) = ((d - 1 : Nat) : Int) from by rw [w64 (by omega) (by omega)]; omega, show wrap64 ((j : Int) + 1) = ((j + 1 : Nat) : Int) from by rw [w64 (by omega) (by omega)]; push_cast; rfl]
  obtain ⟨r, hr⟩ := hf j (by omega) k (by omega)
  rw [hr]
  simp only [Option.bind_some]
  have hn := fun b => ih k (j + 1) a b (by omega) (by omega)
  split
  ·split
   ·split
    ·split
     ·exact ⟨_, rfl⟩
     ·exact hn _
    ·exact hn _
   ·exact ⟨_, rfl⟩
  ·exact ⟨_, rfl⟩
theorem whole_tot {l : List S65} (H : HR l) (kp : Int) : ∀ (d k : Nat) (p : Int), 1 ≤ d → d ≤ 20 → 10 * d + 10 ≤ k → 0 ≤ p → p < (l.length : Int) → ∃ r, tree_whole.f k l kp p (d : Nat) = some r := by
 intro d
 induction d with
 | zero => intro k p h1; omega
 | succ d ih =>
  intro k p h1 h20 hk hp0 hp1
  obtain ⟨k, rfl⟩ : ∃ k', k = k' + 2 := ⟨k - 2, by omega⟩
  rw [tree_whole.f, if_pos hp0, if_pos hp1]
  by_cases hr : (rd_T65 l p).f0 = 0
  case pos => rw [if_pos hr]; exact ⟨_, rfl⟩
  rw [if_neg hr]
  have hrf := H.rf hp0 hp1
  have hpos : 0 < Rf l p := by
   have : Rf l p = (rd_T65 l p).f0 := rfl
   omega
  have hRt := H.rn hp0 hp1 hpos
  have hlen : 1 ≤ (rd_T65 l p).f2.f1.length ∧ (rd_T65 l p).f2.f1.length ≤ 4 := ⟨hRt.1, hRt.2.1⟩
  by_cases hlf : (rd_T65 l p).f2.f0 = true
  case pos =>
   rw [if_pos hlf]
   exact wj0_true hlen.1 hlen.2
  rw [if_neg hlf]
  by_cases hd : d = 0
  case pos =>
   subst hd
   rw [show (((0 + 1 : Nat) : Int) == 1) = true from rfl]
   exact wj0_true hlen.1 hlen.2
  rw [show (((d + 1 : Nat) : Int) == 1) = false from by simp; omega, tree_whole.j0, if_neg (by decide), if_pos (by omega)]
  have hL : Lf l p = false := by simpa using hlf
  exact whole_l0 (d + 1) (by omega) h20 _ hlen.2 (fun i hi k2 hk2 => by
   have hc := H.ch hp0 hp1 hpos hL hi
   exact ih k2 _ (by omega) (by omega) (by omega) hc.1 hc.2) (rd_T65 l p).f2.f1.length k 0 _ _ (by omega) (by omega)
theorem right_l0 {l : List S65} (H : HR l) (kp x1 : Int) (hx0 : 0 ≤ x1) (hx1 : x1 < (l.length : Int)) : ∀ (d k : Nat) (q : Int), 1 ≤ d → d ≤ 20 → (20 - d) + 300 ≤ k → 0 ≤ q → q < (l.length : Int) → (rd_T65 l q).f0 ≠ 0 → ∃ r, tree_Right.l0 k x1 (d : Nat) q l kp = some r := by
 have main : ∀ (e d k : Nat) (q : Int), d + e = 20 → 1 ≤ d → e + 300 ≤ k → 0 ≤ q → q < (l.length : Int) → (rd_T65 l q).f0 ≠ 0 → ∃ r, tree_Right.l0 k x1 (d : Nat) q l kp = some r := by
  intro e
  induction e with
  | zero =>
   intro d k q hd h1 hk hq0 hq1 hr
   obtain ⟨k, rfl⟩ : ∃ k', k = k' + 1 := ⟨k - 1, by omega⟩
   rw [tree_Right.l0, if_pos hq0, if_pos hq1]
   by_cases hlf : (rd_T65 l q).f2.f0 = true
   case neg =>
    rw [if_neg hlf, if_pos (by omega)]
    exact ⟨_, rfl⟩
   rw [if_pos hlf]
   obtain ⟨r, hr⟩ := whole_tot H kp d k x1 h1 (by omega) (by omega) hx0 hx1
   rw [hr]; exact ⟨_, rfl⟩
  | succ e ih =>
   intro d k q hd h1 hk hq0 hq1 hr
   obtain ⟨k, rfl⟩ : ∃ k', k = k' + 1 := ⟨k - 1, by omega⟩
   rw [tree_Right.l0, if_pos hq0, if_pos hq1]
   by_cases hlf : (rd_T65 l q).f2.f0 = true
   case pos =>
    rw [if_pos hlf]
    obtain ⟨r, hr⟩ := whole_tot H kp d k x1 h1 (by omega) (by omega) hx0 hx1
    rw [hr]; exact ⟨_, rfl⟩
   have hrf := H.rf hq0 hq1
   have hpos : 0 < Rf l q := by
    have : Rf l q = (rd_T65 l q).f0 := rfl
    omega
   have hRt := H.rn hq0 hq1 hpos
   have hlen : 1 ≤ (rd_T65 l q).f2.f1.length := hRt.1
   have hL : Lf l q = false := by simpa using hlf
   have hc := H.ch hq0 hq1 hpos hL (i := 0) hRt.1
   rw [if_neg hlf, if_neg (by omega), if_pos (by omega)]
   rw [if_pos (show 0 ≤ (rd_T84 (rd_T65 l q).f2.f1 0).f1 from hc.1), if_pos (show (rd_T84 (rd_T65 l q).f2.f1 0).f1 < (l.length : Int) from hc.2)]
   by_cases hz : (rd_T65 l (rd_T84 (rd_T65 l q).f2.f1 0).f1).f0 = 0
   case pos => rw [if_pos hz]; exact ⟨_, rfl⟩
   rw [if_neg hz, show wrap64 ((d : Int) + 1) = ((d + 1 : Nat) : Int) from by rw [w64 (by omega) (by omega)]; push_cast; rfl]
   exact ih (d + 1) k _ (by omega) (by omega) (by omega) hc.1 hc.2 hz
 intro d k q h1 h2 hk
 exact main (20 - d) d k q (by omega) h1 hk
theorem tree_tot {l : List S65} (H : HR l) (kp p : Int) : ∃ r, tree_Right.f 100000 l kp p = some r := by
 have key : ∀ K, K = 99999 + 1 → ∃ r, tree_Right.f K l kp p = some r := fun K hK => by
  subst hK
  unfold tree_Right.f
  by_cases h1 : p = -1
  case pos => rw [if_pos h1]; exact ⟨_, rfl⟩
  rw [if_neg h1]
  by_cases h2 : p < 0
  case pos => rw [if_pos h2, tree_Right.j0, if_pos rfl]; exact ⟨_, rfl⟩
  rw [if_neg h2]
  by_cases h3 : p ≥ (l.length : Int)
  case pos => rw [if_pos h3, tree_Right.j0, if_pos rfl]; exact ⟨_, rfl⟩
  rw [if_neg h3, if_pos (by omega), if_pos (by omega), tree_Right.j0]
  by_cases h4 : (rd_T65 l p).f0 = 0
  case pos => rw [if_pos (by simpa using h4)]; exact ⟨_, rfl⟩
  rw [if_neg (by simpa using h4)]
  exact right_l0 H kp p (by omega) (by omega) 1 99999 p (by omega) (by omega) (by omega) (by omega) (by omega) h4
 exact key 100000 rfl
def idxN {α : Type} (p : α → Bool) : List α → Nat → Int
 | [], _ => -1
 | x :: xs, i => if p x = true then (i : Int) else idxN p xs (i + 1)
theorem idxN_bound {α : Type} (p : α → Bool) : ∀ (l : List α) (i : Nat), idxN p l i = -1 ∨ ((i : Int) ≤ idxN p l i ∧ idxN p l i < i + l.length)
 | [], i => .inl rfl
 | x :: xs, i => by
  unfold idxN
  by_cases h : p x = true
  case pos => rw [if_pos h]; right; simp; omega
  rw [if_neg h]
  rcases idxN_bound p xs (i + 1) with e | e
  ·exact .inl e
  ·right; simp only [List.length_cons]; omega
theorem idxN_any {α : Type} (p : α → Bool) : ∀ (l : List α) (i : Nat), decide (0 ≤ idxN p l i) = l.any p
 | [], i => rfl
 | x :: xs, i => by
  unfold idxN
  rw [List.any_cons]
  by_cases h : p x = true
  case pos => rw [if_pos h, h, Bool.true_or]; exact decide_eq_true (by omega)
  rw [if_neg h, idxN_any p xs (i + 1)]
  rw [Bool.not_eq_true] at h
  rw [h, Bool.false_or]
abbrev cellV (x : S65) (A : Option Addr) (c : Nat) : Value := .agg #[.int .i64 x.f0, .bool x.f1, .bool x.f2.f0, .slice A x.f2.f1.length c]
abbrev itemV (x : S84) : Value := .agg #[.int .i64 x.f0, .int .i64 x.f1]
theorem rd55_mem {l : List S65} {j : Nat} (h : j < l.length) : rd_T65 l (j : Nat) ∈ l ∧ l.drop j = rd_T65 l (j : Nat) :: l.drop (j + 1) := by
 have e : rd_T65 l (j : Nat) = l[j] := by simp only [rd_T65, Int.toNat_natCast, List.getD_eq_getElem?_getD, List.getElem?_eq_getElem h, Option.getD_some]
 rw [e]
 exact ⟨List.getElem_mem _, List.drop_eq_getElem_cons h⟩
theorem rd49_mem {l : List S84} {j : Nat} (h : j < l.length) : rd_T84 l (j : Nat) ∈ l ∧ l.drop j = rd_T84 l (j : Nat) :: l.drop (j + 1) := by
 have e : rd_T84 l (j : Nat) = l[j] := by simp only [rd_T84, Int.toNat_natCast, List.getD_eq_getElem?_getD, List.getElem?_eq_getElem h, Option.getD_some]
 rw [e]
 exact ⟨List.getElem_mem _, List.drop_eq_getElem_cons h⟩
theorem index55_63 (cb : Array Value) (p : S65 → Bool) (l : List S65) (A : Option Addr) (c : Nat) (w : World) (hl : l.length < 1000000) (hr : Kd.C k65 w A l.length l)
  (hf : ∀ (W : World) (x : S65) (A' : Option Addr) (c' : Nat), Below w.heap.size w W → x ∈ l → x.f2.f1.length ≤ c' → Kd.C k84 W A' x.f2.f1.length x.f2.f1 →
   Calls Tryz.prog 62 (#[cellV x A' c'] ++ cb) W fun e w' => e = .returned (.bool (p x)) ∧ Below W.heap.size W w') :
  Calls Tryz.prog 91 #[.slice A l.length c, .func (.func 62) #[] cb] w fun e w' => e = .returned (.int .i64 (idxN p l 0)) ∧ Below w.heap.size w w' := by
 have HF := Zk hf
 have HR := Zk hr
 have hu65 := Tryz.underlying65
 have hu63 := Tryz.underlying63
 have mixed : Tryz.prog.follows .mixedOrders = true := by kernel_rfl
 clear hf hr
 generalize hres : idxN p l 0 = res
 have RS := Zk hres
 clear hres
 go_enter Tryz.func91, Tryz.ntmps91
 go_wp2
 go_loopg [8] l.length (fun kx s wr => ∃ (j : Nat), s = .int .i64 j ∧ j ≤ l.length ∧ l.length - j ≤ kx ∧ Aside0 (Below w.heap.size w wr) ∧ Aside0 (idxN p (l.drop j) j = res))
 case atStart => exact ⟨0, rfl, Nat.zero_le _, by omega, ⟨Below.refl _ _⟩, ⟨by rw [List.drop_zero]; exact RS.out⟩⟩
 case round =>
  obtain ⟨j, rfl, hj, hg, HB, HD⟩ := hrel
  by_cases hlt : j < l.length
  case neg =>
   obtain rfl : j = l.length := by omega
   have hi : res = -1 := by have := HD.out; rw [List.drop_length] at this; exact this.symm
   subst hi
   go_wp2
   go_ret
   exact ⟨rfl, HB.out⟩
  obtain ⟨ad, A3, c3, rfl, x0, x1, x2, x3, hl3, hi3⟩ := at_T65 (Kd.C_below HR.out HB.out) (j : Int) (by omega) (by omega)
  obtain ⟨hmem, hd⟩ := rd55_mem hlt
  rw [Int.toNat_natCast] at x0 x1 x2 x3
  generalize rd_T65 l (j : Nat) = x at *
  have hc := HF.out wr x A3 c3 HB.out hmem hl3 hi3
  have HD2 := Zk (show (if p x = true then (j : Int) else idxN p (l.drop (j + 1)) (j + 1)) = res by have := HD.out; rw [hd] at this; exact this)
  have p1 : (0 : Int) ≤ j := by omega
  have q1 : (j : Int) < l.length := by omega
  have HC := Zk hc
  clear hc hmem hd HD hl3 hi3
  go_wp2_with fail
  refine HC.out.mono ?_
  rintro e w' ⟨rfl, hb⟩
  have HB2 := Zk (HB.out.trans (hb.mono HB.out.size))
  clear hb
  cases hpx : p x
  ·have hi : idxN p (l.drop (j + 1)) (j + 1) = res := by have := HD2.out; rwa [hpx, if_neg (by simp)] at this
   have HI := Zk hi
   clear hi
   go_wp2
   go_roundg (l.length - (j + 1))
   case measure => omega
   case rel => exact ⟨j + 1, by simp, by omega, Nat.le_refl _, HB2, HI⟩
  ·have hi : (j : Int) = res := by have := HD2.out; rwa [hpx, if_pos rfl] at this
   subst hi
   go_wp2
   go_ret
   exact ⟨rfl, HB2.out⟩
theorem contains55_63 (cb : Array Value) (p : S65 → Bool) (l : List S65) (A : Option Addr) (c : Nat) (w : World) (hl : l.length < 1000000) (hr : Kd.C k65 w A l.length l)
  (hf : ∀ (W : World) (x : S65) (A' : Option Addr) (c' : Nat), Below w.heap.size w W → x ∈ l → x.f2.f1.length ≤ c' → Kd.C k84 W A' x.f2.f1.length x.f2.f1 →
   Calls Tryz.prog 62 (#[cellV x A' c'] ++ cb) W fun e w' => e = .returned (.bool (p x)) ∧ Below W.heap.size W w') :
  Calls Tryz.prog 65 #[.slice A l.length c, .func (.func 62) #[] cb] w fun e w' => e = .returned (.bool (l.any p)) ∧ Below w.heap.size w w' := by
 have HI := Zk (index55_63 cb p l A c w hl hr hf)
 have hany := idxN_any p l 0
 generalize l.any p = any at hany
 have HA := Zk hany
 generalize idxN p l 0 = res at HI HA
 clear hf hr hany
 go_enter Tryz.func65, Tryz.ntmps65
 go_wp2_with fail
 refine HI.out.mono ?_
 rintro e w' ⟨rfl, hb⟩
 have HB := Zk hb
 clear hb
 go_wp2
 go_ret
 exact ⟨by rw [← HA.out]; rfl, HB.out⟩
theorem index49_90 (cb : Array Value) (p : S84 → Bool) (l : List S84) (A : Option Addr) (c : Nat) (w : World) (hl : l.length < 1000000) (hr : Kd.C k84 w A l.length l)
  (hf : ∀ (W : World) (x : S84), Below w.heap.size w W → x ∈ l →
   Calls Tryz.prog 90 (#[itemV x] ++ cb) W fun e w' => e = .returned (.bool (p x)) ∧ Below W.heap.size W w') :
  Calls Tryz.prog 69 #[.slice A l.length c, .func (.func 90) #[] cb] w fun e w' => e = .returned (.int .i64 (idxN p l 0)) ∧ Below w.heap.size w w' := by
 have HF := Zk hf
 have HR := Zk hr
 have hu84 := Tryz.underlying84
 have mixed : Tryz.prog.follows .mixedOrders = true := by kernel_rfl
 clear hf hr
 generalize hres : idxN p l 0 = res
 have RS := Zk hres
 clear hres
 go_enter Tryz.func69, Tryz.ntmps69
 go_wp2
 go_loopg [8] l.length (fun kx s wr => ∃ (j : Nat), s = .int .i64 j ∧ j ≤ l.length ∧ l.length - j ≤ kx ∧ Aside0 (Below w.heap.size w wr) ∧ Aside0 (idxN p (l.drop j) j = res))
 case atStart => exact ⟨0, rfl, Nat.zero_le _, by omega, ⟨Below.refl _ _⟩, ⟨by rw [List.drop_zero]; exact RS.out⟩⟩
 case round =>
  obtain ⟨j, rfl, hj, hg, HB, HD⟩ := hrel
  by_cases hlt : j < l.length
  case neg =>
   obtain rfl : j = l.length := by omega
   have hi : res = -1 := by have := HD.out; rw [List.drop_length] at this; exact this.symm
   subst hi
   go_wp2
   go_ret
   exact ⟨rfl, HB.out⟩
  obtain ⟨ad, rfl, x0, x1⟩ := at_T84 (Kd.C_below HR.out HB.out) (j : Int) (by omega) (by omega)
  obtain ⟨hmem, hd⟩ := rd49_mem hlt
  rw [Int.toNat_natCast] at x0 x1
  generalize rd_T84 l (j : Nat) = x at *
  have hc := HF.out wr x HB.out hmem
  have HD2 := Zk (show (if p x = true then (j : Int) else idxN p (l.drop (j + 1)) (j + 1)) = res by have := HD.out; rw [hd] at this; exact this)
  have p1 : (0 : Int) ≤ j := by omega
  have q1 : (j : Int) < l.length := by omega
  have HC := Zk hc
  clear hc hmem hd HD
  go_wp2_with fail
  refine HC.out.mono ?_
  rintro e w' ⟨rfl, hb⟩
  have HB2 := Zk (HB.out.trans (hb.mono HB.out.size))
  clear hb
  cases hpx : p x
  ·have hi : idxN p (l.drop (j + 1)) (j + 1) = res := by have := HD2.out; rwa [hpx, if_neg (by simp)] at this
   have HI := Zk hi
   clear hi
   go_wp2
   go_roundg (l.length - (j + 1))
   case measure => omega
   case rel => exact ⟨j + 1, by simp, by omega, Nat.le_refl _, HB2, HI⟩
  ·have hi : (j : Int) = res := by have := HD2.out; rwa [hpx, if_pos rfl] at this
   subst hi
   go_wp2
   go_ret
   exact ⟨rfl, HB2.out⟩
theorem contains49_90 (cb : Array Value) (p : S84 → Bool) (l : List S84) (A : Option Addr) (c : Nat) (w : World) (hl : l.length < 1000000) (hr : Kd.C k84 w A l.length l)
  (hf : ∀ (W : World) (x : S84), Below w.heap.size w W → x ∈ l →
   Calls Tryz.prog 90 (#[itemV x] ++ cb) W fun e w' => e = .returned (.bool (p x)) ∧ Below W.heap.size W w') :
  Calls Tryz.prog 37 #[.slice A l.length c, .func (.func 90) #[] cb] w fun e w' => e = .returned (.bool (l.any p)) ∧ Below w.heap.size w w' := by
 have HI := Zk (index49_90 cb p l A c w hl hr hf)
 have hany := idxN_any p l 0
 generalize l.any p = any at hany
 have HA := Zk hany
 generalize idxN p l 0 = res at HI HA
 clear hf hr hany
 go_enter Tryz.func37, Tryz.ntmps37
 go_wp2_with fail
 refine HI.out.mono ?_
 rintro e w' ⟨rfl, hb⟩
 have HB := Zk hb
 clear hb
 go_wp2
 go_ret
 exact ⟨by rw [← HA.out]; rfl, HB.out⟩
section
open Ieee
def fl (n : Nat) : Nat := floatOfInt .f64 (n : Int)
theorem log2_bd {p e : Nat} (hp : p ≠ 0) (h : p.log2 = e) : 2 ^ e ≤ p ∧ p < 2 ^ (e + 1) := ⟨(Nat.le_log2 hp).1 (by omega), (Nat.log2_lt hp).1 (by omega)⟩
theorem cut0 (n : Nat) : Toward.even.cut false n 0 = n := by
 unfold Toward.cut
 simp [Nat.mod_one]
theorem fl_val {p e : Nat} (hp : p ≠ 0) (h : p.log2 = e) (he : e < 16) : fl p = (e + 1022) * 4503599627370496 + p * 2 ^ (52 - e) := by
 have hb := log2_bd hp h
 have hd : decide ((p : Int) < 0) = false := decide_eq_false (by omega)
 unfold fl floatOfInt FloatKind.nearest FloatKind.encode
 show Format.nearest double (decide ((p : Int) < 0)) (p : Int).natAbs 0 = _
 rw [hd, Int.natAbs_natCast]
 unfold Format.nearest
 rw [if_neg hp, h]
 have hlast : max (0 + (e : Int) - (double.fractionBits : Nat)) double.leastPlace = (e : Int) - 52 := by
  show max (0 + (e : Int) - (52 : Nat)) (2 - 2 ^ 10 - 52) = _
  omega
 simp only [hlast]
 rw [show ((e : Int) - 52 - 0).toNat = 0 by omega, cut0, show (0 - ((e : Int) - 52)).toNat = 52 - e by omega, show ((e : Int) - 52 - double.leastPlace).toNat = e + 1022 by show ((e : Int) - 52 - (2 - 2 ^ 10 - 52)).toNat = _; omega, Nat.shiftLeft_eq]
 have hk : p * 2 ^ (52 - e) < 9007199254740992 := by
  have : p * 2 ^ (52 - e) < 2 ^ (e + 1) * 2 ^ (52 - e) := Nat.mul_lt_mul_of_pos_right hb.2 (Nat.two_pow_pos _)
  rw [← Nat.pow_add, show e + 1 + (52 - e) = 53 by omega] at this
  exact this
 show Format.word double false (min ((e + 1022) * 2 ^ 52 + p * 2 ^ (52 - e)) ((2 ^ 11 - 1) * 2 ^ 52)) = _
 unfold Format.word
 rw [if_neg (by simp)]
 omega
theorem fl_read {p e : Nat} (hp : p ≠ 0) (h : p.log2 = e) (he : e < 16) : double.read (fl p) = .number false (p * 2 ^ (52 - e)) ((e : Int) - 52) := by
 have hb := log2_bd hp h
 rw [fl_val hp h he]
 have hk : p * 2 ^ (52 - e) < 9007199254740992 := by
  have : p * 2 ^ (52 - e) < 2 ^ (e + 1) * 2 ^ (52 - e) := Nat.mul_lt_mul_of_pos_right hb.2 (Nat.two_pow_pos _)
  rw [← Nat.pow_add, show e + 1 + (52 - e) = 53 by omega] at this
  exact this
 have hk2 : 4503599627370496 ≤ p * 2 ^ (52 - e) := by
  have : 2 ^ e * 2 ^ (52 - e) ≤ p * 2 ^ (52 - e) := Nat.mul_le_mul_right _ hb.1
  rw [← Nat.pow_add, show e + (52 - e) = 52 by omega] at this
  exact this
 generalize p * 2 ^ (52 - e) = m at hk hk2
 unfold Format.read
 show (let neg := ((e + 1022) * 4503599627370496 + m) / 2 ^ 63 % 2 == 1; let rung := ((e + 1022) * 4503599627370496 + m) % 2 ^ 63; if rung < 2 ^ 52 then Datum.number neg rung (2 - 2 ^ 10 - 52) else if rung < (2 ^ 11 - 1) * 2 ^ 52 then .number neg (2 ^ 52 + rung % 2 ^ 52) ((2 - 2 ^ 10 - 52) + (rung / 2 ^ 52 - 1 : Nat)) else if rung = (2 ^ 11 - 1) * 2 ^ 52 then .infinity neg else .nan neg (rung - (2 ^ 11 - 1) * 2 ^ 52)) = _
 have a1 : ((e + 1022) * 4503599627370496 + m) / 2 ^ 63 % 2 = 0 := by omega
 have a2 : ((e + 1022) * 4503599627370496 + m) % 2 ^ 63 = (e + 1022) * 4503599627370496 + m := by omega
 simp only [a1, a2]
 rw [if_neg (by omega), if_pos (by omega)]
 have a3 : 2 ^ 52 + ((e + 1022) * 4503599627370496 + m) % 2 ^ 52 = m := by omega
 have a4 : (2 - 2 ^ 10 - 52 : Int) + ((((e + 1022) * 4503599627370496 + m) / 2 ^ 52 - 1 : Nat) : Int) = (e : Int) - 52 := by omega
 rw [a3, a4]
 rfl
theorem fl_datum {p : Nat} (h : p < 65536) : ∃ k : Nat, double.read (fl p) = .number false (p * 2 ^ k) (-(k : Int)) ∧ (p = 0 ∨ k ≤ (p * 2 ^ k).log2) := by
 by_cases hp : p = 0
 case pos =>
  subst hp
  obtain ⟨k, hk⟩ : ∃ k : Nat, k = 1074 := ⟨_, rfl⟩
  exact ⟨k, by rw [Nat.zero_mul, hk]; decide +kernel, .inl rfl⟩
 have he : p.log2 < 16 := (Nat.log2_lt hp).2 h
 have hb := log2_bd hp rfl
 refine ⟨52 - p.log2, ?_, .inr ?_⟩
 ·rw [fl_read hp rfl he]
  congr 1
  omega
 ·have hk2 : 2 ^ 52 ≤ p * 2 ^ (52 - p.log2) := by
   have : 2 ^ p.log2 * 2 ^ (52 - p.log2) ≤ p * 2 ^ (52 - p.log2) := Nat.mul_le_mul_right _ hb.1
   rwa [← Nat.pow_add, show p.log2 + (52 - p.log2) = 52 by omega] at this
  have := (Nat.le_log2 (n := p * 2 ^ (52 - p.log2)) (k := 52) (by have := Nat.two_pow_pos 52; omega)).2 hk2
  omega
theorem fl_order {p q : Nat} (hp : p < 65536) (hq : q < 65536) : FloatKind.f64.format.order (fl p) (fl q) = some (compare (p : Int) (q : Int)) := by
 obtain ⟨k, h1, _⟩ := fl_datum hp
 obtain ⟨j, h2, _⟩ := fl_datum hq
 show (double.read (fl p)).order (double.read (fl q)) = _
 rw [h1, h2]
 show some (compare (signed false (p * 2 ^ k) (-(k : Int) - min (-(k : Int)) (-(j : Int))).toNat) (signed false (q * 2 ^ j) (-(j : Int) - min (-(k : Int)) (-(j : Int))).toNat)) = _
 rw [show (-(k : Int) - min (-(k : Int)) (-(j : Int))).toNat = max k j - k by omega, show (-(j : Int) - min (-(k : Int)) (-(j : Int))).toNat = max k j - j by omega]
 unfold signed
 simp only [Bool.false_eq_true, if_false, Nat.shiftLeft_eq, Nat.mul_assoc, ← Nat.pow_add]
 rw [show k + (max k j - k) = max k j by omega, show j + (max k j - j) = max k j by omega]
 generalize max k j = M
 have hM : 0 < 2 ^ M := Nat.two_pow_pos M
 have e1 : ((p * 2 ^ M : Nat) : Int) < ((q * 2 ^ M : Nat) : Int) ↔ (p : Int) < q := by
  rw [Int.ofNat_lt, Int.ofNat_lt]
  exact Nat.mul_lt_mul_right hM
 have e2 : ((p * 2 ^ M : Nat) : Int) = ((q * 2 ^ M : Nat) : Int) ↔ (p : Int) = q := by
  rw [Int.ofNat_inj, Int.ofNat_inj]
  exact Nat.mul_left_inj (by omega)
 congr 1
 show compareOfLessAndEq _ _ = compareOfLessAndEq _ _
 unfold compareOfLessAndEq
 simp only [e1, e2]
theorem fl_back {p : Nat} (hp : p < 65536) : floatToIntVal .f64 (fl p) .i64 = some (p : Int) := by
 obtain ⟨k, h1, h2⟩ := fl_datum hp
 unfold floatToIntVal
 show (match (double.read (fl p)).toInt .zero with | some n => if IntKind.i64.min ≤ n ∧ n ≤ IntKind.i64.max then some n else none | none => none) = _
 have h3 : (double.read (fl p)).toInt .zero = some (p : Int) := by
  rw [h1]
  unfold Datum.toInt Datum.integral
  show some (signed false (Toward.zero.cut false ((p * 2 ^ k) <<< (-(k : Int)).toNat) (- -(k : Int)).toNat) 0) = _
  rw [show (-(k : Int)).toNat = 0 by omega, show (- -(k : Int)).toNat = k by omega]
  unfold Toward.cut signed
  simp only [Nat.shiftLeft_zero, Bool.false_eq_true, if_false, Bool.toNat_false, Nat.add_zero]
  rcases h2 with rfl | h2
  ·simp
  ·rw [Nat.min_eq_left (by omega), Nat.shiftLeft_eq, Nat.one_mul, Nat.mul_div_cancel _ (Nat.two_pow_pos k)]
 rw [h3]
 show (if IntKind.i64.min ≤ (p : Int) ∧ (p : Int) ≤ IntKind.i64.max then some (p : Int) else none) = _
 rw [if_pos]
 show (-9223372036854775808 : Int) ≤ p ∧ (p : Int) ≤ 9223372036854775807
 omega
end
theorem alloc_new (W : World) (o : Obj) : (W.alloc o).heap[W.heap.size]? = some o := by
 show (W.heap.push o)[W.heap.size]? = some o
 simp
def rdC (l : List (Nat × Nat)) (i : Int) : Nat × Nat := l.getD i.toNat (0, 0)
theorem at_C {w : World} {A : Option Addr} {n : Nat} {xs : List (Nat × Nat)} (h : Kd.C kc w A n xs) (i : Int) (h0 : 0 ≤ i) (h1 : i < n) : ∃ ad, A = some ad ∧ w.cell? (ad.add i.toNat) = some (.complex .f64 (rdC xs i).1 (rdC xs i).2) := by
 obtain ⟨ad, c, e, _, hK, hc⟩ := Kd.C_get h (0, 0) i h0 h1
 obtain rfl : c = [.complex .f64 (rdC xs i).1 (rdC xs i).2] := hK
 have := hc 0 _ rfl
 rw [show i.toNat * kc.sz + 0 = i.toNat from Nat.mul_one _] at this
 exact ⟨ad, e, this⟩
theorem rdI_mem {l : List Int} {j : Nat} (h : j < l.length) : rd l (j : Nat) ∈ l ∧ l.drop j = rd l (j : Nat) :: l.drop (j + 1) := by
 have e : rd l (j : Nat) = l[j] := by simp only [rd, Int.toNat_natCast, List.getD_eq_getElem?_getD, List.getElem?_eq_getElem h, Option.getD_some]
 rw [e]
 exact ⟨List.getElem_mem _, List.drop_eq_getElem_cons h⟩
theorem rdC_mem {l : List (Nat × Nat)} {j : Nat} (h : j < l.length) : rdC l (j : Nat) ∈ l ∧ l.drop j = rdC l (j : Nat) :: l.drop (j + 1) := by
 have e : rdC l (j : Nat) = l[j] := by simp only [rdC, Int.toNat_natCast, List.getD_eq_getElem?_getD, List.getElem?_eq_getElem h, Option.getD_some]
 rw [e]
 exact ⟨List.getElem_mem _, List.drop_eq_getElem_cons h⟩
theorem indexI_31 (cb : Array Value) (p : Int → Bool) (l : List Int) (A : Option Addr) (c : Nat) (w : World) (hl : l.length < 1000000) (hr : Kd.C (Kd.int .i64) w A l.length l)
  (hf : ∀ (W : World) (x : Int), Below w.heap.size w W → x ∈ l →
   Calls Tryz.prog 31 (#[(.int .i64 x)] ++ cb) W fun e w' => e = .returned (.bool (p x)) ∧ Below W.heap.size W w') :
  Calls Tryz.prog 72 #[.slice A l.length c, .func (.func 31) #[] cb] w fun e w' => e = .returned (.int .i64 (idxN p l 0)) ∧ Below w.heap.size w w' := by
 have HF := Zk hf
 have HR := Zk hr
 have mixed : Tryz.prog.follows .mixedOrders = true := by kernel_rfl
 clear hf hr
 generalize hres : idxN p l 0 = res
 have RS := Zk hres
 clear hres
 go_enter Tryz.func72, Tryz.ntmps72
 go_wp2
 go_loopg [8] l.length (fun kx s wr => ∃ (j : Nat), s = .int .i64 j ∧ j ≤ l.length ∧ l.length - j ≤ kx ∧ Aside0 (Below w.heap.size w wr) ∧ Aside0 (idxN p (l.drop j) j = res))
 case atStart => exact ⟨0, rfl, Nat.zero_le _, by omega, ⟨Below.refl _ _⟩, ⟨by rw [List.drop_zero]; exact RS.out⟩⟩
 case round =>
  obtain ⟨j, rfl, hj, hg, HB, HD⟩ := hrel
  by_cases hlt : j < l.length
  case neg =>
   obtain rfl : j = l.length := by omega
   have hi : res = -1 := by have := HD.out; rw [List.drop_length] at this; exact this.symm
   subst hi
   go_wp2
   go_ret
   exact ⟨rfl, HB.out⟩
  obtain ⟨ad, rfl, x0⟩ := Kd.at_int (Kd.C_below HR.out HB.out) (j : Int) (by omega) (by omega)
  obtain ⟨hmem, hd⟩ := rdI_mem hlt
  rw [Int.toNat_natCast] at x0
  generalize rd l (j : Nat) = x at *
  have hc := HF.out wr x HB.out hmem
  have HD2 := Zk (show (if p x = true then (j : Int) else idxN p (l.drop (j + 1)) (j + 1)) = res by have := HD.out; rw [hd] at this; exact this)
  have p1 : (0 : Int) ≤ j := by omega
  have q1 : (j : Int) < l.length := by omega
  have HC := Zk hc
  clear hc hmem hd HD
  go_wp2_with fail
  refine HC.out.mono ?_
  rintro e w' ⟨rfl, hb⟩
  have HB2 := Zk (HB.out.trans (hb.mono HB.out.size))
  clear hb
  cases hpx : p x
  ·have hi : idxN p (l.drop (j + 1)) (j + 1) = res := by have := HD2.out; rwa [hpx, if_neg (by simp)] at this
   have HI := Zk hi
   clear hi
   go_wp2
   go_roundg (l.length - (j + 1))
   case measure => omega
   case rel => exact ⟨j + 1, by simp, by omega, Nat.le_refl _, HB2, HI⟩
  ·have hi : (j : Int) = res := by have := HD2.out; rwa [hpx, if_pos rfl] at this
   subst hi
   go_wp2
   go_ret
   exact ⟨rfl, HB2.out⟩
theorem containsI_31 (cb : Array Value) (p : Int → Bool) (l : List Int) (A : Option Addr) (c : Nat) (w : World) (hl : l.length < 1000000) (hr : Kd.C (Kd.int .i64) w A l.length l)
  (hf : ∀ (W : World) (x : Int), Below w.heap.size w W → x ∈ l →
   Calls Tryz.prog 31 (#[(.int .i64 x)] ++ cb) W fun e w' => e = .returned (.bool (p x)) ∧ Below W.heap.size W w') :
  Calls Tryz.prog 40 #[.slice A l.length c, .func (.func 31) #[] cb] w fun e w' => e = .returned (.bool (l.any p)) ∧ Below w.heap.size w w' := by
 have HI := Zk (indexI_31 cb p l A c w hl hr hf)
 have hany := idxN_any p l 0
 generalize l.any p = any at hany ⊢
 have HA := Zk hany
 generalize idxN p l 0 = res at HI HA
 clear hf hr hany
 go_enter Tryz.func40, Tryz.ntmps40
 go_wp2_with fail
 refine HI.out.mono ?_
 rintro e w' ⟨rfl, hb⟩
 have HB := Zk hb
 clear hb
 go_wp2
 go_ret
 exact ⟨by rw [← HA.out]; rfl, HB.out⟩
theorem indexI_112 (cb : Array Value) (p : Int → Bool) (l : List Int) (A : Option Addr) (c : Nat) (w : World) (hl : l.length < 1000000) (hr : Kd.C (Kd.int .i64) w A l.length l)
  (hf : ∀ (W : World) (x : Int), Below w.heap.size w W → x ∈ l →
   Calls Tryz.prog 112 (#[(.int .i64 x)] ++ cb) W fun e w' => e = .returned (.bool (p x)) ∧ Below W.heap.size W w') :
  Calls Tryz.prog 72 #[.slice A l.length c, .func (.func 112) #[] cb] w fun e w' => e = .returned (.int .i64 (idxN p l 0)) ∧ Below w.heap.size w w' := by
 have HF := Zk hf
 have HR := Zk hr
 have mixed : Tryz.prog.follows .mixedOrders = true := by kernel_rfl
 clear hf hr
 generalize hres : idxN p l 0 = res
 have RS := Zk hres
 clear hres
 go_enter Tryz.func72, Tryz.ntmps72
 go_wp2
 go_loopg [8] l.length (fun kx s wr => ∃ (j : Nat), s = .int .i64 j ∧ j ≤ l.length ∧ l.length - j ≤ kx ∧ Aside0 (Below w.heap.size w wr) ∧ Aside0 (idxN p (l.drop j) j = res))
 case atStart => exact ⟨0, rfl, Nat.zero_le _, by omega, ⟨Below.refl _ _⟩, ⟨by rw [List.drop_zero]; exact RS.out⟩⟩
 case round =>
  obtain ⟨j, rfl, hj, hg, HB, HD⟩ := hrel
  by_cases hlt : j < l.length
  case neg =>
   obtain rfl : j = l.length := by omega
   have hi : res = -1 := by have := HD.out; rw [List.drop_length] at this; exact this.symm
   subst hi
   go_wp2
   go_ret
   exact ⟨rfl, HB.out⟩
  obtain ⟨ad, rfl, x0⟩ := Kd.at_int (Kd.C_below HR.out HB.out) (j : Int) (by omega) (by omega)
  obtain ⟨hmem, hd⟩ := rdI_mem hlt
  rw [Int.toNat_natCast] at x0
  generalize rd l (j : Nat) = x at *
  have hc := HF.out wr x HB.out hmem
  have HD2 := Zk (show (if p x = true then (j : Int) else idxN p (l.drop (j + 1)) (j + 1)) = res by have := HD.out; rw [hd] at this; exact this)
  have p1 : (0 : Int) ≤ j := by omega
  have q1 : (j : Int) < l.length := by omega
  have HC := Zk hc
  clear hc hmem hd HD
  go_wp2_with fail
  refine HC.out.mono ?_
  rintro e w' ⟨rfl, hb⟩
  have HB2 := Zk (HB.out.trans (hb.mono HB.out.size))
  clear hb
  cases hpx : p x
  ·have hi : idxN p (l.drop (j + 1)) (j + 1) = res := by have := HD2.out; rwa [hpx, if_neg (by simp)] at this
   have HI := Zk hi
   clear hi
   go_wp2
   go_roundg (l.length - (j + 1))
   case measure => omega
   case rel => exact ⟨j + 1, by simp, by omega, Nat.le_refl _, HB2, HI⟩
  ·have hi : (j : Int) = res := by have := HD2.out; rwa [hpx, if_pos rfl] at this
   subst hi
   go_wp2
   go_ret
   exact ⟨rfl, HB2.out⟩
theorem indexC_66 (cb : Array Value) (p : (Nat × Nat) → Bool) (l : List (Nat × Nat)) (A : Option Addr) (c : Nat) (w : World) (hl : l.length < 1000000) (hr : Kd.C kc w A l.length l)
  (hf : ∀ (W : World) (x : (Nat × Nat)), Below w.heap.size w W → x ∈ l →
   Calls Tryz.prog 66 (#[(.complex .f64 x.1 x.2)] ++ cb) W fun e w' => e = .returned (.bool (p x)) ∧ Below W.heap.size W w') :
  Calls Tryz.prog 73 #[.slice A l.length c, .func (.func 66) #[] cb] w fun e w' => e = .returned (.int .i64 (idxN p l 0)) ∧ Below w.heap.size w w' := by
 have HF := Zk hf
 have HR := Zk hr
 have mixed : Tryz.prog.follows .mixedOrders = true := by kernel_rfl
 clear hf hr
 generalize hres : idxN p l 0 = res
 have RS := Zk hres
 clear hres
 go_enter Tryz.func73, Tryz.ntmps73
 go_wp2
 go_loopg [8] l.length (fun kx s wr => ∃ (j : Nat), s = .int .i64 j ∧ j ≤ l.length ∧ l.length - j ≤ kx ∧ Aside0 (Below w.heap.size w wr) ∧ Aside0 (idxN p (l.drop j) j = res))
 case atStart => exact ⟨0, rfl, Nat.zero_le _, by omega, ⟨Below.refl _ _⟩, ⟨by rw [List.drop_zero]; exact RS.out⟩⟩
 case round =>
  obtain ⟨j, rfl, hj, hg, HB, HD⟩ := hrel
  by_cases hlt : j < l.length
  case neg =>
   obtain rfl : j = l.length := by omega
   have hi : res = -1 := by have := HD.out; rw [List.drop_length] at this; exact this.symm
   subst hi
   go_wp2
   go_ret
   exact ⟨rfl, HB.out⟩
  obtain ⟨ad, rfl, x0⟩ := at_C (Kd.C_below HR.out HB.out) (j : Int) (by omega) (by omega)
  obtain ⟨hmem, hd⟩ := rdC_mem hlt
  rw [Int.toNat_natCast] at x0
  generalize rdC l (j : Nat) = x at *
  have hc := HF.out wr x HB.out hmem
  have HD2 := Zk (show (if p x = true then (j : Int) else idxN p (l.drop (j + 1)) (j + 1)) = res by have := HD.out; rw [hd] at this; exact this)
  have p1 : (0 : Int) ≤ j := by omega
  have q1 : (j : Int) < l.length := by omega
  have HC := Zk hc
  clear hc hmem hd HD
  go_wp2_with fail
  refine HC.out.mono ?_
  rintro e w' ⟨rfl, hb⟩
  have HB2 := Zk (HB.out.trans (hb.mono HB.out.size))
  clear hb
  cases hpx : p x
  ·have hi : idxN p (l.drop (j + 1)) (j + 1) = res := by have := HD2.out; rwa [hpx, if_neg (by simp)] at this
   have HI := Zk hi
   clear hi
   go_wp2
   go_roundg (l.length - (j + 1))
   case measure => omega
   case rel => exact ⟨j + 1, by simp, by omega, Nat.le_refl _, HB2, HI⟩
  ·have hi : (j : Int) = res := by have := HD2.out; rwa [hpx, if_pos rfl] at this
   subst hi
   go_wp2
   go_ret
   exact ⟨rfl, HB2.out⟩
theorem containsC_66 (cb : Array Value) (p : (Nat × Nat) → Bool) (l : List (Nat × Nat)) (A : Option Addr) (c : Nat) (w : World) (hl : l.length < 1000000) (hr : Kd.C kc w A l.length l)
  (hf : ∀ (W : World) (x : (Nat × Nat)), Below w.heap.size w W → x ∈ l →
   Calls Tryz.prog 66 (#[(.complex .f64 x.1 x.2)] ++ cb) W fun e w' => e = .returned (.bool (p x)) ∧ Below W.heap.size W w') :
  Calls Tryz.prog 41 #[.slice A l.length c, .func (.func 66) #[] cb] w fun e w' => e = .returned (.bool (l.any p)) ∧ Below w.heap.size w w' := by
 have HI := Zk (indexC_66 cb p l A c w hl hr hf)
 have hany := idxN_any p l 0
 generalize l.any p = any at hany ⊢
 have HA := Zk hany
 generalize idxN p l 0 = res at HI HA
 clear hf hr hany
 go_enter Tryz.func41, Tryz.ntmps41
 go_wp2_with fail
 refine HI.out.mono ?_
 rintro e w' ⟨rfl, hb⟩
 have HB := Zk hb
 clear hb
 go_wp2
 go_ret
 exact ⟨by rw [← HA.out]; rfl, HB.out⟩
theorem indexC_33 (cb : Array Value) (p : (Nat × Nat) → Bool) (l : List (Nat × Nat)) (A : Option Addr) (c : Nat) (w : World) (hl : l.length < 1000000) (hr : Kd.C kc w A l.length l)
  (hf : ∀ (W : World) (x : (Nat × Nat)), Below w.heap.size w W → x ∈ l →
   Calls Tryz.prog 33 (#[(.complex .f64 x.1 x.2)] ++ cb) W fun e w' => e = .returned (.bool (p x)) ∧ Below W.heap.size W w') :
  Calls Tryz.prog 73 #[.slice A l.length c, .func (.func 33) #[] cb] w fun e w' => e = .returned (.int .i64 (idxN p l 0)) ∧ Below w.heap.size w w' := by
 have HF := Zk hf
 have HR := Zk hr
 have mixed : Tryz.prog.follows .mixedOrders = true := by kernel_rfl
 clear hf hr
 generalize hres : idxN p l 0 = res
 have RS := Zk hres
 clear hres
 go_enter Tryz.func73, Tryz.ntmps73
 go_wp2
 go_loopg [8] l.length (fun kx s wr => ∃ (j : Nat), s = .int .i64 j ∧ j ≤ l.length ∧ l.length - j ≤ kx ∧ Aside0 (Below w.heap.size w wr) ∧ Aside0 (idxN p (l.drop j) j = res))
 case atStart => exact ⟨0, rfl, Nat.zero_le _, by omega, ⟨Below.refl _ _⟩, ⟨by rw [List.drop_zero]; exact RS.out⟩⟩
 case round =>
  obtain ⟨j, rfl, hj, hg, HB, HD⟩ := hrel
  by_cases hlt : j < l.length
  case neg =>
   obtain rfl : j = l.length := by omega
   have hi : res = -1 := by have := HD.out; rw [List.drop_length] at this; exact this.symm
   subst hi
   go_wp2
   go_ret
   exact ⟨rfl, HB.out⟩
  obtain ⟨ad, rfl, x0⟩ := at_C (Kd.C_below HR.out HB.out) (j : Int) (by omega) (by omega)
  obtain ⟨hmem, hd⟩ := rdC_mem hlt
  rw [Int.toNat_natCast] at x0
  generalize rdC l (j : Nat) = x at *
  have hc := HF.out wr x HB.out hmem
  have HD2 := Zk (show (if p x = true then (j : Int) else idxN p (l.drop (j + 1)) (j + 1)) = res by have := HD.out; rw [hd] at this; exact this)
  have p1 : (0 : Int) ≤ j := by omega
  have q1 : (j : Int) < l.length := by omega
  have HC := Zk hc
  clear hc hmem hd HD
  go_wp2_with fail
  refine HC.out.mono ?_
  rintro e w' ⟨rfl, hb⟩
  have HB2 := Zk (HB.out.trans (hb.mono HB.out.size))
  clear hb
  cases hpx : p x
  ·have hi : idxN p (l.drop (j + 1)) (j + 1) = res := by have := HD2.out; rwa [hpx, if_neg (by simp)] at this
   have HI := Zk hi
   clear hi
   go_wp2
   go_roundg (l.length - (j + 1))
   case measure => omega
   case rel => exact ⟨j + 1, by simp, by omega, Nat.le_refl _, HB2, HI⟩
  ·have hi : (j : Int) = res := by have := HD2.out; rwa [hpx, if_pos rfl] at this
   subst hi
   go_wp2
   go_ret
   exact ⟨rfl, HB2.out⟩
theorem containsC_33 (cb : Array Value) (p : (Nat × Nat) → Bool) (l : List (Nat × Nat)) (A : Option Addr) (c : Nat) (w : World) (hl : l.length < 1000000) (hr : Kd.C kc w A l.length l)
  (hf : ∀ (W : World) (x : (Nat × Nat)), Below w.heap.size w W → x ∈ l →
   Calls Tryz.prog 33 (#[(.complex .f64 x.1 x.2)] ++ cb) W fun e w' => e = .returned (.bool (p x)) ∧ Below W.heap.size W w') :
  Calls Tryz.prog 41 #[.slice A l.length c, .func (.func 33) #[] cb] w fun e w' => e = .returned (.bool (l.any p)) ∧ Below w.heap.size w w' := by
 have HI := Zk (indexC_33 cb p l A c w hl hr hf)
 have hany := idxN_any p l 0
 generalize l.any p = any at hany ⊢
 have HA := Zk hany
 generalize idxN p l 0 = res at HI HA
 clear hf hr hany
 go_enter Tryz.func41, Tryz.ntmps41
 go_wp2_with fail
 refine HI.out.mono ?_
 rintro e w' ⟨rfl, hb⟩
 have HB := Zk hb
 clear hb
 go_wp2
 go_ret
 exact ⟨by rw [← HA.out]; rfl, HB.out⟩
theorem indexS84_38 (cb : Array Value) (p : S84 → Bool) (l : List S84) (A : Option Addr) (c : Nat) (w : World) (hl : l.length < 1000000) (hr : Kd.C k84 w A l.length l)
  (hf : ∀ (W : World) (x : S84), Below w.heap.size w W → x ∈ l →
   Calls Tryz.prog 38 (#[itemV x] ++ cb) W fun e w' => e = .returned (.bool (p x)) ∧ Below W.heap.size W w') :
  Calls Tryz.prog 69 #[.slice A l.length c, .func (.func 38) #[] cb] w fun e w' => e = .returned (.int .i64 (idxN p l 0)) ∧ Below w.heap.size w w' := by
 have HF := Zk hf
 have HR := Zk hr
 have hu84 := Tryz.underlying84
 have mixed : Tryz.prog.follows .mixedOrders = true := by kernel_rfl
 clear hf hr
 generalize hres : idxN p l 0 = res
 have RS := Zk hres
 clear hres
 go_enter Tryz.func69, Tryz.ntmps69
 go_wp2
 go_loopg [8] l.length (fun kx s wr => ∃ (j : Nat), s = .int .i64 j ∧ j ≤ l.length ∧ l.length - j ≤ kx ∧ Aside0 (Below w.heap.size w wr) ∧ Aside0 (idxN p (l.drop j) j = res))
 case atStart => exact ⟨0, rfl, Nat.zero_le _, by omega, ⟨Below.refl _ _⟩, ⟨by rw [List.drop_zero]; exact RS.out⟩⟩
 case round =>
  obtain ⟨j, rfl, hj, hg, HB, HD⟩ := hrel
  by_cases hlt : j < l.length
  case neg =>
   obtain rfl : j = l.length := by omega
   have hi : res = -1 := by have := HD.out; rw [List.drop_length] at this; exact this.symm
   subst hi
   go_wp2
   go_ret
   exact ⟨rfl, HB.out⟩
  obtain ⟨ad, rfl, x0, x1⟩ := at_T84 (Kd.C_below HR.out HB.out) (j : Int) (by omega) (by omega)
  obtain ⟨hmem, hd⟩ := rd49_mem hlt
  rw [Int.toNat_natCast] at x0 x1
  generalize rd_T84 l (j : Nat) = x at *
  have hc := HF.out wr x HB.out hmem
  have HD2 := Zk (show (if p x = true then (j : Int) else idxN p (l.drop (j + 1)) (j + 1)) = res by have := HD.out; rw [hd] at this; exact this)
  have p1 : (0 : Int) ≤ j := by omega
  have q1 : (j : Int) < l.length := by omega
  have HC := Zk hc
  clear hc hmem hd HD
  go_wp2_with fail
  refine HC.out.mono ?_
  rintro e w' ⟨rfl, hb⟩
  have HB2 := Zk (HB.out.trans (hb.mono HB.out.size))
  clear hb
  cases hpx : p x
  ·have hi : idxN p (l.drop (j + 1)) (j + 1) = res := by have := HD2.out; rwa [hpx, if_neg (by simp)] at this
   have HI := Zk hi
   clear hi
   go_wp2
   go_roundg (l.length - (j + 1))
   case measure => omega
   case rel => exact ⟨j + 1, by simp, by omega, Nat.le_refl _, HB2, HI⟩
  ·have hi : (j : Int) = res := by have := HD2.out; rwa [hpx, if_pos rfl] at this
   subst hi
   go_wp2
   go_ret
   exact ⟨rfl, HB2.out⟩
theorem containsS84_38 (cb : Array Value) (p : S84 → Bool) (l : List S84) (A : Option Addr) (c : Nat) (w : World) (hl : l.length < 1000000) (hr : Kd.C k84 w A l.length l)
  (hf : ∀ (W : World) (x : S84), Below w.heap.size w W → x ∈ l →
   Calls Tryz.prog 38 (#[itemV x] ++ cb) W fun e w' => e = .returned (.bool (p x)) ∧ Below W.heap.size W w') :
  Calls Tryz.prog 37 #[.slice A l.length c, .func (.func 38) #[] cb] w fun e w' => e = .returned (.bool (l.any p)) ∧ Below w.heap.size w w' := by
 have HI := Zk (indexS84_38 cb p l A c w hl hr hf)
 have hany := idxN_any p l 0
 generalize l.any p = any at hany ⊢
 have HA := Zk hany
 generalize idxN p l 0 = res at HI HA
 clear hf hr hany
 go_enter Tryz.func37, Tryz.ntmps37
 go_wp2_with fail
 refine HI.out.mono ?_
 rintro e w' ⟨rfl, hb⟩
 have HB := Zk hb
 clear hb
 go_wp2
 go_ret
 exact ⟨by rw [← HA.out]; rfl, HB.out⟩
theorem of_walk (p k : Nat) (w : World) : Calls Tryz.prog 104 #[.int .i64 p, .int .i64 k] w fun e w' => e = .returned (.complex .f64 (fl p) (fl k)) ∧ w' = w := by
 go_enter Tryz.func104, Tryz.ntmps104
 go_wp2
 go_ret
 exact ⟨rfl, rfl⟩
theorem place_walk (p : Nat) (b : Nat) (hp : p < 65536) (w : World) : Calls Tryz.prog 34 #[.complex .f64 (fl p) b] w fun e w' => e = .returned (.int .i64 p) ∧ w' = w := by
 have h := fl_back hp
 have hr := fun w => run_convert_float_int (P := Tryz.prog) (w := w) 128 3 .f64 .i64 _ _ (by kernel_rfl) Tryz.underlying3 h
 generalize fl p = a at h hr ⊢
 go_enter Tryz.func34, Tryz.ntmps34
 go_wp2
 go_ret
 exact ⟨rfl, rfl⟩
theorem done_walk (k : Nat) (a : Nat) (hk : k < 65536) (w : World) : Calls Tryz.prog 35 #[.complex .f64 a (fl k)] w fun e w' => e = .returned (.int .i64 k) ∧ w' = w := by
 have h := fl_back hk
 have hr := fun w => run_convert_float_int (P := Tryz.prog) (w := w) 128 3 .f64 .i64 _ _ (by kernel_rfl) Tryz.underlying3 h
 generalize fl k = b at h hr ⊢
 go_enter Tryz.func35, Tryz.ntmps35
 go_wp2
 go_ret
 exact ⟨rfl, rfl⟩
theorem fl_0 : fl 0 = 0 := by decide +kernel
theorem cmp_le (p q : Int) : (some (compare p q) == some Ordering.lt || some (compare p q) == some Ordering.eq) = decide (p ≤ q) := by
 show (some (compareOfLessAndEq p q) == some Ordering.lt || some (compareOfLessAndEq p q) == some Ordering.eq) = _
 unfold compareOfLessAndEq
 by_cases h : p < q
 case pos => rw [if_pos h, decide_eq_true (by omega)]; rfl
 rw [if_neg h]
 by_cases h2 : p = q
 case pos => rw [if_pos h2, decide_eq_true (by omega)]; rfl
 rw [if_neg h2, decide_eq_false (by omega)]; rfl
theorem cmp_ge (p q : Int) : (some (compare p q) == some Ordering.gt || some (compare p q) == some Ordering.eq) = decide (q ≤ p) := by
 show (some (compareOfLessAndEq p q) == some Ordering.gt || some (compareOfLessAndEq p q) == some Ordering.eq) = _
 unfold compareOfLessAndEq
 by_cases h : p < q
 case pos => rw [if_pos h, decide_eq_false (by omega)]; rfl
 rw [if_neg h]
 by_cases h2 : p = q
 case neg => rw [if_neg h2, decide_eq_true (by omega)]; rfl
 rw [if_pos h2, decide_eq_true (by omega)]; rfl
theorem fl_selfeq {p : Nat} (hp : p < 65536) : (FloatKind.f64.format.order (fl p) (fl p) == some .eq) = true := by
 rw [fl_order hp hp]
 show (some (compareOfLessAndEq (p : Int) p) == some Ordering.eq) = true
 unfold compareOfLessAndEq
 rw [if_neg (by omega), if_pos rfl]
 rfl
theorem whole_walk (p m : Nat) (hp : p < 65536) (hm : m < 65536) (w : World) :
  Calls Tryz.prog 67 #[.float .f64 (fl p), .int .i64 m] w fun e w' => e = .returned (.bool (decide (p ≤ m))) ∧ w' = w := by
 have h0 : (FloatKind.f64.format.order (fl p) 0 == some .gt || FloatKind.f64.format.order (fl p) 0 == some .eq) = true := by
  have := fl_order hp (show 0 < 65536 by decide)
  rw [fl_0] at this
  rw [this, cmp_ge]
  exact decide_eq_true (by omega)
 have h1 : (FloatKind.f64.format.order (fl p) (floatOfInt .f64 (m : Int)) == some .lt || FloatKind.f64.format.order (fl p) (floatOfInt .f64 (m : Int)) == some .eq) = decide (p ≤ m) := by
  have := fl_order hp hm
  show (FloatKind.f64.format.order (fl p) (fl m) == some .lt || FloatKind.f64.format.order (fl p) (fl m) == some .eq) = decide (p ≤ m)
  rw [this, cmp_le, decide_eq_decide]
  omega
 have h3 := fl_back hp
 have h4 : (FloatKind.f64.format.order (fl p) (floatOfInt .f64 (p : Int)) == some .eq) = true := fl_selfeq hp
 generalize decide (p ≤ m) = b at h1 ⊢
 generalize fl p = x at h0 h1 h3 h4 ⊢
 cases b with
 | false =>
  clear h3 h4
  go_enter Tryz.func67, Tryz.ntmps67
  go_wp2
  go_ret
  exact ⟨rfl, rfl⟩
 | true =>
  have hr := fun w => run_convert_float_int (P := Tryz.prog) (w := w) 128 3 .f64 .i64 _ _ (by kernel_rfl) Tryz.underlying3 h3
  go_enter Tryz.func67, Tryz.ntmps67
  go_wp2
  go_ret
  exact ⟨rfl, rfl⟩
def fls (ts : List (Nat × Nat)) : List (Nat × Nat) := ts.map fun x => (fl x.1, fl x.2)
theorem fls_len (ts : List (Nat × Nat)) : (fls ts).length = ts.length := List.length_map _
def bk (b : Nat) : Int := (floatToIntVal .f64 b .i64).getD 0
theorem bk_fl {p : Nat} (hp : p < 65536) : bk (fl p) = p := by unfold bk; rw [fl_back hp]; rfl
def oddC (n : Int) (x : Nat × Nat) : Bool := !(decide (bk x.1 < n)) || !(decide (bk x.2 ≤ 5))
theorem todoOdd_walk (g : Nat) (p k n : Nat) (hp : p < 65536) (hk : k < 65536) (h1 : 1 ≤ n) (hn : n ≤ 65536) (W : World) (hc : W.cell? ⟨g, 0, none⟩ = some (.int .i64 n)) :
  Calls Tryz.prog 66 #[.complex .f64 (fl p) (fl k), .pointer (some ⟨g, 0, none⟩)] W fun e w' => e = .returned (.bool (oddC n (fl p, fl k))) ∧ w' = W := by
 obtain ⟨m, rfl⟩ : ∃ m, n = m + 1 := ⟨n - 1, by omega⟩
 have H1 := Zk (whole_walk p m hp (by omega) W)
 have H2 := Zk (whole_walk k 5 hk (by decide) W)
 have e : oddC ((m + 1 : Nat) : Int) (fl p, fl k) = (!(decide (p ≤ m)) || !(decide (k ≤ 5))) := by
  unfold oddC
  rw [bk_fl hp, bk_fl hk]
  congr 2
  ·rw [decide_eq_decide]; omega
  ·rw [decide_eq_decide]; omega
 rw [e]
 clear e
 have hm : wrap64 (((m + 1 : Nat) : Int) - 1) = (m : Int) := by unfold wrap64; omega
 generalize fl p = re at H1 ⊢
 generalize fl k = im at H2 ⊢
 generalize decide (p ≤ m) = b1 at H1 ⊢
 generalize decide (k ≤ 5) = b2 at H2 ⊢
 generalize ((m + 1 : Nat) : Int) = nn at hc hm
 go_enter Tryz.func66, Tryz.ntmps66
 go_wp2_with fail
 refine H1.out.mono ?_
 rintro e w' ⟨rfl, rfl⟩
 cases b1 with
 | false =>
  go_wp2_with fail
  go_ret
  exact ⟨rfl, rfl⟩
 | true =>
  go_wp2_with fail
  refine H2.out.mono ?_
  rintro e w' ⟨rfl, rfl⟩
  cases b2 <;> go_wp2 <;> go_ret <;> exact ⟨rfl, rfl⟩
def tasksB (ts : List (Nat × Nat)) (n : Int) : Bool := decide (ts.length ≤ 500) && !(ts.any fun t => !(decide ((t.1 : Int) < n)) || !(decide ((t.2 : Int) ≤ 5)))
theorem tasksB_any {ts : List (Nat × Nat)} (hb : ∀ t ∈ ts, t.1 < 65536 ∧ t.2 < 65536) (n : Int) : (fls ts).any (oddC n) = ts.any fun t => !(decide ((t.1 : Int) < n)) || !(decide ((t.2 : Int) ≤ 5)) := by
 unfold fls
 rw [List.any_map]
 induction ts with
 | nil => rfl
 | cons t ts ih =>
  rw [List.any_cons, List.any_cons, ih (fun x hx => hb x (List.mem_cons_of_mem _ hx))]
  have := hb t List.mem_cons_self
  congr 1
  show oddC n (fl t.1, fl t.2) = _
  unfold oddC
  rw [bk_fl this.1, bk_fl this.2]
theorem todoRight_walk (A : Option Addr) (c : Nat) (ts : List (Nat × Nat)) (n : Nat) (w : World) (hr : Kd.C kc w A ts.length (fls ts)) (hl : ts.length < 1000000) (hb : ∀ t ∈ ts, t.1 < 65536 ∧ t.2 < 65536) (h1 : 1 ≤ n) (hn : n ≤ 65536) :
  Calls Tryz.prog 30 #[.slice A ts.length c, .int .i64 n] w fun e w' => e = .returned (.bool (tasksB ts n)) ∧ Below w.heap.size w w' := by
 obtain ⟨wA, hwA⟩ : ∃ wA, w.alloc (.cells #[.int .i64 n] 3) = wA := ⟨_, rfl⟩
 have HB : Aside0 (Below w.heap.size w wA) := ⟨by rw [← hwA]; exact (Below.refl _ w).alloc (Nat.le_refl _) _⟩
 have KX : Aside0 (wA.heap[w.heap.size]? = some (.cells #[.int .i64 n] 3 (0, 0))) := ⟨by rw [← hwA]; exact alloc_new w _⟩
 have HC : Aside0 (Kd.C kc wA A (fls ts).length (fls ts)) := ⟨by rw [fls_len]; exact Kd.C_below hr HB.out⟩
 have hx := containsC_66 #[.pointer (some ⟨w.heap.size, 0, none⟩)] (oddC n) (fls ts) A c wA (by rw [fls_len]; exact hl) HC.out (fun W x hW hx => by
  obtain ⟨t, ht, rfl⟩ := List.mem_map.1 hx
  refine (todoOdd_walk w.heap.size t.1 t.2 n (hb t ht).1 (hb t ht).2 h1 hn W ((blk_cell (blk_below KX.out hW) 0).trans rfl)).mono ?_
  rintro e w' ⟨he, rfl⟩
  exact ⟨he, Below.refl _ _⟩)
 rw [tasksB_any hb, fls_len] at hx
 unfold tasksB
 have HX := Zk hx
 clear hx hr h1 hn HC hl
 generalize (ts.any fun t => !(decide ((t.1 : Int) < n)) || !(decide ((t.2 : Int) ≤ 5))) = an at HX ⊢
 have hd : decide ((ts.length : Int) ≤ 500) = decide (ts.length ≤ 500) := by rw [decide_eq_decide]; omega
 generalize decide (ts.length ≤ 500) = b at hd ⊢
 cases b with
 | false =>
  go_enter Tryz.func30, Tryz.ntmps30
  go_wp2_with fail
  go_ret
  exact ⟨rfl, HB.out⟩
 | true =>
  go_enter Tryz.func30, Tryz.ntmps30
  go_wp2_with fail
  refine HX.out.mono ?_
  rintro e w' ⟨rfl, hb2⟩
  have HB2 := Zk (HB.out.trans (hb2.mono HB.out.size))
  clear hb2
  go_wp2
  go_ret
  exact ⟨rfl, HB2.out⟩
def okT (b : Nat) : Bool := decide (0 ≤ bk b) && decide (bk b < 65536) && decide (fl (bk b).toNat = b)
theorem okT_fl {p : Nat} (hp : p < 65536) : okT (fl p) = true := by
 unfold okT
 rw [bk_fl hp]
 simp
 omega
theorem okT_of {b : Nat} (h : okT b = true) : ∃ p, p < 65536 ∧ b = fl p := by
 unfold okT at h
 simp only [Bool.and_eq_true, decide_eq_true_eq] at h
 exact ⟨(bk b).toNat, by omega, h.2.symm⟩
def todo_Place.f (a : Nat × Nat) : Option Int := if okT a.1 = true then some (bk a.1) else none
def todo_Done.f (a : Nat × Nat) : Option Int := if okT a.2 = true then some (bk a.2) else none
theorem todo_Place.calls (a0 : Nat × Nat) (r : Int) (w : World) (h : todo_Place.f a0 = some r) : Calls Tryz.prog 34 #[.complex .f64 a0.1 a0.2] w fun e w' => e = .returned (.int .i64 r) ∧ Drawn0 w w' := by
 obtain ⟨a, b⟩ := a0
 unfold todo_Place.f at h
 by_cases hk : okT a = true
 case neg => rw [if_neg hk] at h; cases h
 rw [if_pos hk] at h
 obtain rfl := Option.some.inj h
 obtain ⟨p, hp, rfl⟩ := okT_of hk
 refine (place_walk p b hp w).mono ?_
 rintro e w' ⟨rfl, rfl⟩
 exact ⟨by show _ = Ending.returned (.int .i64 (bk (fl p))); rw [bk_fl hp], Drawn0.refl _⟩
theorem todo_Done.calls (a0 : Nat × Nat) (r : Int) (w : World) (h : todo_Done.f a0 = some r) : Calls Tryz.prog 35 #[.complex .f64 a0.1 a0.2] w fun e w' => e = .returned (.int .i64 r) ∧ Drawn0 w w' := by
 obtain ⟨a, b⟩ := a0
 unfold todo_Done.f at h
 by_cases hk : okT b = true
 case neg => rw [if_neg hk] at h; cases h
 rw [if_pos hk] at h
 obtain rfl := Option.some.inj h
 obtain ⟨p, hp, rfl⟩ := okT_of hk
 refine (done_walk p a hp w).mono ?_
 rintro e w' ⟨rfl, rfl⟩
 exact ⟨by show _ = Ending.returned (.int .i64 (bk (fl p))); rw [bk_fl hp], Drawn0.refl _⟩
def todo_Of.f (a b : Int) : Option (Nat × Nat) := if 0 ≤ a ∧ 0 ≤ b then some (fl a.toNat, fl b.toNat) else none
theorem todo_Of.calls (a0 a1 : Int) (r : Nat × Nat) (w : World) (h : todo_Of.f a0 a1 = some r) : Calls Tryz.prog 104 #[.int .i64 a0, .int .i64 a1] w fun e w' => e = .returned (.complex .f64 r.1 r.2) ∧ Drawn0 w w' := by
 unfold todo_Of.f at h
 by_cases hk : 0 ≤ a0 ∧ 0 ≤ a1
 case neg => rw [if_neg hk] at h; cases h
 rw [if_pos hk] at h
 obtain rfl := Option.some.inj h
 obtain ⟨p, rfl⟩ : ∃ p : Nat, a0 = p := ⟨a0.toNat, by omega⟩
 obtain ⟨q, rfl⟩ : ∃ q : Nat, a1 = q := ⟨a1.toNat, by omega⟩
 refine (of_walk p q w).mono ?_
 rintro e w' ⟨rfl, rfl⟩
 exact ⟨by simp only [Int.toNat_natCast], Drawn0.refl _⟩
def backs (l : List (Nat × Nat)) : List (Nat × Nat) := l.map fun t => ((bk t.1).toNat, (bk t.2).toNat)
def okTs (l : List (Nat × Nat)) : Bool := l.all fun t => okT t.1 && okT t.2
theorem fls_backs {l : List (Nat × Nat)} (h : okTs l = true) : fls (backs l) = l ∧ ∀ t ∈ backs l, t.1 < 65536 ∧ t.2 < 65536 := by
 unfold okTs at h
 unfold fls backs
 induction l with
 | nil => exact ⟨rfl, fun t ht => by cases ht⟩
 | cons x l ih =>
  rw [List.all_cons, Bool.and_eq_true, Bool.and_eq_true] at h
  obtain ⟨⟨h1, h2⟩, h3⟩ := h
  obtain ⟨p, hp, e1⟩ := okT_of h1
  obtain ⟨q, hq, e2⟩ := okT_of h2
  obtain ⟨i1, i2⟩ := ih h3
  have b1 : (bk x.1).toNat = p := by rw [e1, bk_fl hp, Int.toNat_natCast]
  have b2 : (bk x.2).toNat = q := by rw [e2, bk_fl hq, Int.toNat_natCast]
  refine ⟨?_, fun t ht => ?_⟩
  ·rw [List.map_cons, List.map_cons, i1]
   simp only [b1, b2, ← e1, ← e2]
  ·rw [List.map_cons] at ht
   rcases List.mem_cons.1 ht with rfl | ht
   ·simp only [b1, b2]; exact ⟨hp, hq⟩
   ·exact i2 t ht
def rightC (l : List (Nat × Nat)) (n : Int) : Bool := decide (l.length ≤ 500) && !(l.any (oddC n))
def todo_Right.f (l0 : List (Nat × Nat)) (a1 : Int) : Option Bool := if okTs l0 = true ∧ 1 ≤ a1 ∧ a1 ≤ 65536 ∧ l0.length < 1000000 then some (rightC l0 a1) else none
theorem todo_Right.calls (A0 : Option Addr) (c0 : Nat) (l0 : List (Nat × Nat)) (a1 : Int) (r : Bool) (w : World) (hr0 : Kd.C kc w A0 l0.length l0) (hc0 : l0.length ≤ c0) (h : todo_Right.f l0 a1 = some r) :
  Calls Tryz.prog 30 #[.slice A0 l0.length c0, .int .i64 a1] w fun e w' => e = .returned (.bool r) ∧ Below w.heap.size w w' := by
 unfold todo_Right.f at h
 by_cases hk : okTs l0 = true ∧ 1 ≤ a1 ∧ a1 ≤ 65536 ∧ l0.length < 1000000
 case neg => rw [if_neg hk] at h; cases h
 rw [if_pos hk] at h
 obtain rfl := Option.some.inj h
 obtain ⟨h1, h2, h3, h4⟩ := hk
 obtain ⟨n, rfl⟩ : ∃ n : Nat, a1 = n := ⟨a1.toNat, by omega⟩
 obtain ⟨e1, e2⟩ := fls_backs h1
 have el : (backs l0).length = l0.length := List.length_map _
 have hw := todoRight_walk A0 c0 (backs l0) n w (by rw [e1, el]; exact hr0) (by rw [el]; exact h4) e2 (by omega) (by omega)
 rw [el] at hw
 refine hw.mono ?_
 rintro e w' ⟨rfl, hb⟩
 refine ⟨?_, hb⟩
 unfold tasksB rightC
 rw [← tasksB_any e2, e1, el]
theorem roots1_walk (a b : Int) (W : World) : Calls Tryz.prog 71 #[.agg #[.int .i64 a, .int .i64 b]] W fun e w' => e = .returned (.int .i64 b) ∧ Below W.heap.size W w' := by
 have hu122 := Tryz.underlying122
 go_enter Tryz.func71, Tryz.ntmps71
 go_wp2
 go_ret
 exact ⟨rfl, (Below.refl _ W).alloc (Nat.le_refl _) _⟩
def rootsL (l : List S122) : List Int := l.map fun v => v.f1
theorem rootsL_take {l : List S122} {j : Nat} (h : j < l.length) : (rootsL l).take j ++ [(rd_T122 l (j : Nat)).f1] = (rootsL l).take (j + 1) := by
 have e : rd_T122 l (j : Nat) = l[j] := by simp only [rd_T122, Int.toNat_natCast, List.getD_eq_getElem?_getD, List.getElem?_eq_getElem h, Option.getD_some]
 unfold rootsL
 rw [e, List.take_add_one, List.getElem?_map, List.getElem?_eq_getElem h]
 rfl
theorem mapped_walk (A : Option Addr) (c : Nat) (l : List S122) (w : World) (hr : Kd.C k122 w A l.length l) (hl : l.length < 1000000) :
  Calls Tryz.prog 70 #[.slice A l.length c, .func (.func 71) #[] #[]] w fun e w' => ∃ v0_ : Value, e = .returned v0_ ∧ Kd.R (Kd.int .i64) 3 w' w.heap.size (fun _ => True) v0_ (rootsL l) ∧ Below w.heap.size w w' := by
 have hu122 := Tryz.underlying122
 have HR := Zk hr
 have HL := Zk hl
 clear hr
 go_enter Tryz.func70, Tryz.ntmps70
 go_wp2
 go_loopg [5, 10] l.length (fun kx s5 s10 wr => ∃ j : Nat, s10 = .int .i64 j ∧ j ≤ l.length ∧ l.length - j ≤ kx ∧ Aside0 (Kd.R (Kd.int .i64) 3 wr w.heap.size (fun _ => True) s5 ((rootsL l).take j)) ∧ Aside0 (Below w.heap.size w wr))
 case atStart => exact ⟨0, rfl, Nat.zero_le _, Nat.le_refl _, ⟨Kd.R_nil _ _ _ _ _⟩, ⟨Below.refl _ _⟩⟩
 case round =>
  obtain ⟨j, rfl, hj, hg, HO, HB⟩ := hrel
  by_cases hlt : j < l.length
  case neg =>
   obtain rfl : j = l.length := by omega
   go_wp2
   go_ret
   refine ⟨_, rfl, ?_, HB.out⟩
   have := HO.out
   rwa [show (rootsL l).take l.length = rootsL l by rw [← show (rootsL l).length = l.length from List.length_map _, List.take_length]] at this
  obtain ⟨ad, rfl, x0, x1⟩ := at_T122 HR.out (j : Int) (by omega) (by omega)
  rw [Int.toNat_natCast] at x0 x1
  have y0 := (HB.out.cell (World.block_lt_of_cell? w _ x0)).trans x0
  have y1 := (HB.out.cell (World.block_lt_of_cell? w _ x1)).trans x1
  have hz : (0 : Int) ≤ j := by omega
  clear x0 x1
  go_wp2_with fail
  refine (roots1_walk _ _ _).mono ?_
  rintro e w2 ⟨rfl, hb2⟩
  have HO2 := Zk (Kd.R_below (Kd.R_alloc HO.out (.cells #[.int .i64 (rd_T122 l (j : Nat)).f0, .int .i64 (rd_T122 l (j : Nat)).f1] 122)) hb2)
  have HB2 := Zk (below_step ((HB.out.alloc HB.out.size (.cells #[.int .i64 (rd_T122 l (j : Nat)).f0, .int .i64 (rd_T122 l (j : Nat)).f1] 122))) hb2)
  clear hb2 HO HB
  have hjl : ((rootsL l).take j).length < 1000000 := by rw [List.length_take]; omega
  go_wp2_with (at_builtin; refine Kd.R_append (Kd.int .i64) (w0 := w) w.heap.size rfl (.tmp 14) (.tmp 18) 87 3 (.int .i64 0) 8 rfl Tryz.underlying87 info3 rfl (by decide) (by omega) u5 ((rootsL l).take j) ((rd_T122 l (j : Nat)).f1) [.int .i64 ((rd_T122 l (j : Nat)).f1)] (fun _ => True) (fun _ => False) rfl (by first | (go_simp; done) | (go_simp; rfl)) rfl (fun _ hk => hk.elim) (fun _ _ => trivial) HO2.out HB2.out HB2.out.size (by omega) ?_; intro v3 w3 ho hb hg hat; have HO3 := Zk ho; have HB3 := Zk hb; clear ho hb hg hat)
  go_roundg (l.length - (j + 1))
  case measure => exact (show l.length - (j + 1) < gk by omega)
  case rel => exact ⟨j + 1, rfl, by omega, Nat.le_refl _, ⟨by have := HO3.out; rwa [rootsL_take hlt] at this⟩, HB3⟩
def state_Roots.f (l0_0 : List S65) (a0_1 : Int) (l0_2 : List S122) (l0_3 : List (Nat × Nat)) (a0_4 a0_5 : Int) : Option (List Int) := if l0_2.length < 1000000 then some (rootsL l0_2) else none
section
attribute [local go_sem] max2_int min2_int max_two min_two max_three min_three max_four min_four
def node_fits.f (a0 : Int) : Option (Bool) := if a0 ≥ 0 then (some (decide (a0 ≤ 2147483647))) else (some false)
theorem node_fits.calls (a0 : Int) (r : Bool) (w : World) (h : node_fits.f a0 = some r) :
  Calls Tryz.prog 89 #[.int .i64 a0] w fun e w' => e = .returned (.bool r) ∧ Drawn0 w w' := by
 have H : (if a0 ≥ 0 then (some (decide (a0 ≤ 2147483647))) else (some false)) = some r := h
 clear h
 by_cases c2 : a0 ≥ 0
 case pos =>
  rw [if_pos c2] at H
  have aA : decide (0 ≤ a0) = true := decide_eq_true c2
  clear c2
  obtain rfl := Option.some.inj H
  go_enter Tryz.func89, Tryz.ntmps89
  go_wp2
  go_ret
  exact ⟨q_, by repeat (first | exact Drawn0.refl _ | apply Drawn0.step)⟩
 rw [if_neg c2] at H
 have aA : decide (0 ≤ a0) = false := decide_eq_false c2
 clear c2
 obtain rfl := Option.some.inj H
 go_enter Tryz.func89, Tryz.ntmps89
 go_wp2
 go_ret
 exact ⟨q_, by repeat (first | exact Drawn0.refl _ | apply Drawn0.step)⟩
end
section
attribute [local go_sem] max2_int min2_int max_two min_two max_three min_three max_four min_four
mutual
def node_Right.j0 : Nat → Bool → Bool → List (S84) → Option (Bool)
 | 0, _, _, _ => none
 | k + 1, x14, aB, aA => if x14 = true then (some false) else (node_Right.l0 k aA (aA.length : Int) 0 aB aA)
def node_Right.l0 : Nat → List (S84) → Int → Int → Bool → List (S84) → Option (Bool)
 | 0, _, _, _, _, _ => none
 | k + 1, x16, x17, x18, aB, aA => if x18 < x17 then (if 0 ≤ x18 then (if x18 < (x16.length : Int) then ((node_fits.f ((rd_T84 x16 x18).f0)).bind fun aC => (if aC = true then ((node_fits.f ((rd_T84 x16 x18).f1)).bind fun aD => (if aD = true then (if x18 > 0 then (if 0 ≤ (wrap64 (x18 - 1)) then (if (wrap64 (x18 - 1)) < (aA.length : Int) then (if ((rd_T84 x16 x18).f0) ≤ ((rd_T84 aA (wrap64 (x18 - 1))).f0) then (some false) else (node_Right.l0 k x16 x17 (wrap64 (x18 + 1)) aB aA)) else (none)) else (none)) else (node_Right.l0 k x16 x17 (wrap64 (x18 + 1)) aB aA)) else (some false))) else (some false))) else (none)) else (none)) else (some true)
end
def node_Right.f (k : Nat) (a0_0 : Bool) (l0_1 : List (S84)) : Option (Bool) := if (l0_1.length : Int) < 1 then (node_Right.j0 k true a0_0 l0_1) else (node_Right.j0 k (decide ((l0_1.length : Int) > 4)) a0_0 l0_1)
theorem node_Right.calls (k : Nat) (a0_0 : Bool) (A0_1 : Option Addr) (c0_1 : Nat) (l0_1 : List (S84)) (r : Bool) (w : World) (hr0_1 : Kd.C k84 w A0_1 l0_1.length l0_1) (hc0_1 : l0_1.length ≤ c0_1) (h : node_Right.f k a0_0 l0_1 = some r) :
  Calls Tryz.prog 63 #[.agg #[.bool a0_0, .slice A0_1 l0_1.length c0_1]] w fun e w' => e = .returned (.bool r) ∧ Below w.heap.size w w' := by
 have hu63 := Tryz.underlying63
 have hu84 := Tryz.underlying84
 have aS := Zk hr0_1
 have dG := Zk hc0_1
 clear hr0_1 hc0_1
 have HB := Zk (Below.refl w.heap.size w)
 have H : (if (l0_1.length : Int) < 1 then (node_Right.j0 k true a0_0 l0_1) else (node_Right.j0 k (decide ((l0_1.length : Int) > 4)) a0_0 l0_1)) = some r := h
 clear h
 have HC2 := Zk H
 clear H
 go_enter Tryz.func63, Tryz.ntmps63
 go_upto_region 1 with (first | (refine gd_ 1 ?_; (try (refine gate_guard (by rfl) ?_; dsimp only)); refine bx_ 1 #[.bool a0_0, .slice A0_1 l0_1.length c0_1] 63 ?_; intro aX hg w3 hbox hb; have aC := Zk (hbox); have cB := gw_ HB hg; replace HB := al_ HB hb; clear hb hbox hg))
 repeat (go_quiet (first | (refine gd_ 1 ?_; (try (refine gate_guard (by rfl) ?_; dsimp only)); refine bx_ 1 #[.bool a0_0, .slice A0_1 l0_1.length c0_1] 63 ?_; intro aX hg w3 hbox hb; have aC := Zk (hbox); have cB := gw_ HB hg; replace HB := al_ HB hb; clear hb hbox hg)); go_upto_region 1 with (first | (refine gd_ 1 ?_; (try (refine gate_guard (by rfl) ?_; dsimp only)); refine bx_ 1 #[.bool a0_0, .slice A0_1 l0_1.length c0_1] 63 ?_; intro aX hg w3 hbox hb; have aC := Zk (hbox); have cB := gw_ HB hg; replace HB := al_ HB hb; clear hb hbox hg)))
 (try simp only [Act.put, List.setIfInBounds_toArray, List.set_cons_zero, List.set_cons_succ])
 go_cut [14] (fun v14 wc => ∃ (kq : Nat) (aY : Bool), v14 = .bool aY ∧ Aside0 (node_Right.j0 kq aY a0_0 l0_1 = some r) ∧ Aside0 (kq ≤ k) ∧ Aside0 (wc.heap[aX]? = some (.cells #[.bool a0_0, (.slice A0_1 l0_1.length c0_1)] 63 (0, 0))) ∧ Aside0 (Below w.heap.size w wc))
 case first =>
  have H := HC2.out
  clear HC2
  by_cases c4 : (l0_1.length : Int) < 1
  case pos =>
   rw [if_pos c4] at H
   have aW := decide_eq_true c4
   have cM : decide (l0_1.length < 1) = true := decide_eq_true (by omega)
   clear c4
   (first | rw [aW] | (simp only [i64_w, i32_w]; rw [aW]) | skip)
   have H' := Zk H
   clear H
   obtain ⟨cR, cS, cT, cU⟩ := cf2_ aC
   go_wp2
   repeat (go_quiet (fail); try go_wp2)
   go_meet
   case rel => exact ⟨_, (true), q_, H', ⟨by first | omega | exact Nat.le_refl _⟩, ⟨bk_ aC⟩, ⟨bl_ HB⟩⟩
  rw [if_neg c4] at H
  have aW := decide_eq_false c4
  have cM : decide (l0_1.length < 1) = false := decide_eq_false (by omega)
  clear c4
  (first | rw [aW] | (simp only [i64_w, i32_w]; rw [aW]) | skip)
  have H' := Zk H
  clear H
  obtain ⟨cV, cW, cX, cY⟩ := cf2_ aC
  go_wp2
  repeat (go_quiet (fail); try go_wp2)
  go_meet
  case rel => exact ⟨_, (decide ((l0_1.length : Int) > 4)), q_, H', ⟨by first | omega | exact Nat.le_refl _⟩, ⟨bk_ aC⟩, ⟨bl_ HB⟩⟩
 case rest =>
  clear HC2
  try clear aW
  try clear cM
  obtain ⟨kq, aY, rfl, HA, HJ1, aC, HB⟩ := hcut
  cases kq with
  | zero => exact absurd HA.out (by simp [node_Right.j0])
  | succ kj1 =>
   have H := HA.out
   clear HA
   simp only [node_Right.j0] at H
   by_cases c7 : aY = true
   case pos =>
    subst c7
    rw [if_pos rfl] at H
    obtain rfl := Option.some.inj H
    go_wp2
    repeat (go_quiet (fail); try go_wp2)
    go_ret
    exact ⟨e_, bl_ HB⟩
   replace c7 := Bool.eq_false_iff.mpr c7
   subst c7
   rw [if_neg (show ¬ (false = true) by decide)] at H
   have H' := Zk H
   clear H
   obtain ⟨cZ, dA, dB, dC⟩ := cf2_ aC
   go_wp2
   repeat (go_quiet (fail); try go_wp2)
   go_loopg [18] kj1 (fun kq v18 w' => ∃ (aB : Int), v18 = .int .i64 aB ∧ Aside0 (node_Right.l0 kq l0_1 (l0_1.length : Int) aB a0_0 l0_1 = some r) ∧ Aside0 (kq ≤ kj1) ∧ Aside0 (w'.heap[aX]? = some (.cells #[.bool a0_0, (.slice A0_1 l0_1.length c0_1)] 63 (0, 0))) ∧ Aside0 (Below w.heap.size w w'))
   case atStart => exact ⟨(0), q_, H', ⟨Nat.le_refl _⟩, ⟨bk_ aC⟩, ⟨bl_ HB⟩⟩
   case round =>
    clear H'
    try clear aW
    try clear cM
    obtain ⟨aB, rfl, HA, HK2, aC, HB⟩ := hrel
    cases gk with
    | zero => exact absurd HA.out (by simp [node_Right.l0])
    | succ k2 =>
     have H := HA.out
     clear HA
     simp only [node_Right.l0] at H
     by_cases c9 : aB < (l0_1.length : Int)
     case neg =>
      rw [if_neg c9] at H
      have dD : decide (aB < (l0_1.length : Int)) = false := decide_eq_false c9
      clear c9
      obtain rfl := Option.some.inj H
      go_wp2
      repeat (go_quiet (fail); try go_wp2)
      go_ret
      exact ⟨e_, bl_ HB⟩
     rw [if_pos c9] at H
     have dD := decide_eq_true c9
     clear c9
     by_cases c10 : 0 ≤ aB
     case neg => exact no_ c10 H
     rw [if_pos c10] at H
     have dH := decide_eq_true c10
     clear c10
     by_cases c11 : aB < (l0_1.length : Int)
     case neg => exact no_ c11 H
     rw [if_pos c11] at H
     have dI := decide_eq_true c11
     clear c11
     replace H := Option.bind_eq_some_iff.mp H
     obtain ⟨dE, cN, H⟩ := H
     (try dsimp only at H)
     have A12 := Zk cN
     clear cN
     by_cases c13 : dE = true
     case neg =>
      replace c13 := Bool.eq_false_iff.mpr c13
      subst c13
      rw [if_neg (show ¬ (false = true) by decide)] at H
      obtain rfl := Option.some.inj H
      have aQ : 0 ≤ (aB : Int) := of_decide_eq_true as_
      have aR : aB < (l0_1.length : Int) := of_decide_eq_true as_
      obtain ⟨aN, aV, aL, aM⟩ := at_T84 aS.out aB aQ aR
      cases aV
      replace aL := hx_ HB aL
      replace aM := hx_ HB aM
      replace aQ := eq_true aQ
      replace aR := eq_true aR
      go_wp2_with (first | (refine gd_ 4 ?_; (try (refine gate_guard (by rfl) ?_; dsimp only)); refine bx_ 4 #[.int .i64 0, .int .i64 0] 84 ?_; intro aG hg w35 hbox hb; have aJ := Zk (hbox); have aK := gw_ HB hg; replace HB := al_ HB hb; have aD := n1_ aC hg; have aE := n2_ aC hg; replace aC := ab_ aC hb; clear hb hbox hg; obtain ⟨cC, cD⟩ := nn_ aE aD; obtain ⟨aZ, bA, bB, bC⟩ := cf2_ aJ) | (go_at_call 89; (with_reducible refine (node_fits.calls ((rd_T84 l0_1 aB).f0) false _ A12.out).mono ?_); rintro e w' ⟨rfl, ⟨nd, rfl⟩⟩; (try exact dd_)))
      repeat (go_quiet (first | (refine gd_ 4 ?_; (try (refine gate_guard (by rfl) ?_; dsimp only)); refine bx_ 4 #[.int .i64 0, .int .i64 0] 84 ?_; intro aG hg w35 hbox hb; have aJ := Zk (hbox); have aK := gw_ HB hg; replace HB := al_ HB hb; have aD := n1_ aC hg; have aE := n2_ aC hg; replace aC := ab_ aC hb; clear hb hbox hg; obtain ⟨cC, cD⟩ := nn_ aE aD; obtain ⟨aZ, bA, bB, bC⟩ := cf2_ aJ) | (go_at_call 89; (with_reducible refine (node_fits.calls ((rd_T84 l0_1 aB).f0) false _ A12.out).mono ?_); rintro e w' ⟨rfl, ⟨nd, rfl⟩⟩; (try exact dd_))); try go_wp2_with (first | (refine gd_ 4 ?_; (try (refine gate_guard (by rfl) ?_; dsimp only)); refine bx_ 4 #[.int .i64 0, .int .i64 0] 84 ?_; intro aG hg w35 hbox hb; have aJ := Zk (hbox); have aK := gw_ HB hg; replace HB := al_ HB hb; have aD := n1_ aC hg; have aE := n2_ aC hg; replace aC := ab_ aC hb; clear hb hbox hg; obtain ⟨cC, cD⟩ := nn_ aE aD; obtain ⟨aZ, bA, bB, bC⟩ := cf2_ aJ) | (go_at_call 89; (with_reducible refine (node_fits.calls ((rd_T84 l0_1 aB).f0) false _ A12.out).mono ?_); rintro e w' ⟨rfl, ⟨nd, rfl⟩⟩; (try exact dd_))))
      go_ret
      exact ⟨e_, bl_ HB⟩
     subst c13
     rw [if_pos rfl] at H
     replace H := Option.bind_eq_some_iff.mp H
     obtain ⟨dF, cO, H⟩ := H
     (try dsimp only at H)
     have A14 := Zk cO
     clear cO
     by_cases c15 : dF = true
     case neg =>
      replace c15 := Bool.eq_false_iff.mpr c15
      subst c15
      rw [if_neg (show ¬ (false = true) by decide)] at H
      obtain rfl := Option.some.inj H
      have aQ : 0 ≤ (aB : Int) := of_decide_eq_true as_
      have aR : aB < (l0_1.length : Int) := of_decide_eq_true as_
      obtain ⟨aN, aV, aL, aM⟩ := at_T84 aS.out aB aQ aR
      cases aV
      replace aL := hx_ HB aL
      replace aM := hx_ HB aM
      replace aQ := eq_true aQ
      replace aR := eq_true aR
      go_wp2_with (first | (refine gd_ 4 ?_; (try (refine gate_guard (by rfl) ?_; dsimp only)); refine bx_ 4 #[.int .i64 0, .int .i64 0] 84 ?_; intro aG hg w32 hbox hb; have aJ := Zk (hbox); have aK := gw_ HB hg; replace HB := al_ HB hb; have aD := n1_ aC hg; have aE := n2_ aC hg; replace aC := ab_ aC hb; clear hb hbox hg; obtain ⟨cE, cF⟩ := nn_ aE aD; obtain ⟨bD, bE, bF, bG⟩ := cf2_ aJ) | (go_at_call 89; (with_reducible refine (node_fits.calls ((rd_T84 l0_1 aB).f0) true _ A12.out).mono ?_); rintro e w' ⟨rfl, ⟨nd, rfl⟩⟩; (try exact dd_)) | (go_at_call 89; (with_reducible refine (node_fits.calls ((rd_T84 l0_1 aB).f1) false _ A14.out).mono ?_); rintro e w' ⟨rfl, ⟨nd, rfl⟩⟩; (try exact dd_)))
      repeat (go_quiet (first | (refine gd_ 4 ?_; (try (refine gate_guard (by rfl) ?_; dsimp only)); refine bx_ 4 #[.int .i64 0, .int .i64 0] 84 ?_; intro aG hg w32 hbox hb; have aJ := Zk (hbox); have aK := gw_ HB hg; replace HB := al_ HB hb; have aD := n1_ aC hg; have aE := n2_ aC hg; replace aC := ab_ aC hb; clear hb hbox hg; obtain ⟨cE, cF⟩ := nn_ aE aD; obtain ⟨bD, bE, bF, bG⟩ := cf2_ aJ) | (go_at_call 89; (with_reducible refine (node_fits.calls ((rd_T84 l0_1 aB).f0) true _ A12.out).mono ?_); rintro e w' ⟨rfl, ⟨nd, rfl⟩⟩; (try exact dd_)) | (go_at_call 89; (with_reducible refine (node_fits.calls ((rd_T84 l0_1 aB).f1) false _ A14.out).mono ?_); rintro e w' ⟨rfl, ⟨nd, rfl⟩⟩; (try exact dd_))); try go_wp2_with (first | (refine gd_ 4 ?_; (try (refine gate_guard (by rfl) ?_; dsimp only)); refine bx_ 4 #[.int .i64 0, .int .i64 0] 84 ?_; intro aG hg w32 hbox hb; have aJ := Zk (hbox); have aK := gw_ HB hg; replace HB := al_ HB hb; have aD := n1_ aC hg; have aE := n2_ aC hg; replace aC := ab_ aC hb; clear hb hbox hg; obtain ⟨cE, cF⟩ := nn_ aE aD; obtain ⟨bD, bE, bF, bG⟩ := cf2_ aJ) | (go_at_call 89; (with_reducible refine (node_fits.calls ((rd_T84 l0_1 aB).f0) true _ A12.out).mono ?_); rintro e w' ⟨rfl, ⟨nd, rfl⟩⟩; (try exact dd_)) | (go_at_call 89; (with_reducible refine (node_fits.calls ((rd_T84 l0_1 aB).f1) false _ A14.out).mono ?_); rintro e w' ⟨rfl, ⟨nd, rfl⟩⟩; (try exact dd_))))
      go_ret
      exact ⟨e_, bl_ HB⟩
     subst c15
     rw [if_pos rfl] at H
     by_cases c16 : aB > 0
     case neg =>
      rw [if_neg c16] at H
      have cP : decide (0 < aB) = false := decide_eq_false c16
      clear c16
      have H' := Zk H
      clear H
      have aQ : 0 ≤ (aB : Int) := of_decide_eq_true as_
      have aR : aB < (l0_1.length : Int) := of_decide_eq_true as_
      obtain ⟨aN, aV, aL, aM⟩ := at_T84 aS.out aB aQ aR
      cases aV
      replace aL := hx_ HB aL
      replace aM := hx_ HB aM
      replace aQ := eq_true aQ
      replace aR := eq_true aR
      go_wp2_with (first | (refine gd_ 4 ?_; (try (refine gate_guard (by rfl) ?_; dsimp only)); refine bx_ 4 #[.int .i64 0, .int .i64 0] 84 ?_; intro aG hg w29 hbox hb; have aJ := Zk (hbox); have aK := gw_ HB hg; replace HB := al_ HB hb; have aD := n1_ aC hg; have aE := n2_ aC hg; replace aC := ab_ aC hb; clear hb hbox hg; obtain ⟨cG, cH⟩ := nn_ aE aD; obtain ⟨bH, bI, bJ, bK⟩ := cf2_ aJ) | (go_at_call 89; (with_reducible refine (node_fits.calls ((rd_T84 l0_1 aB).f0) true _ A12.out).mono ?_); rintro e w' ⟨rfl, ⟨nd, rfl⟩⟩; (try exact dd_)) | (go_at_call 89; (with_reducible refine (node_fits.calls ((rd_T84 l0_1 aB).f1) true _ A14.out).mono ?_); rintro e w' ⟨rfl, ⟨nd, rfl⟩⟩; (try exact dd_)))
      repeat (go_quiet (first | (refine gd_ 4 ?_; (try (refine gate_guard (by rfl) ?_; dsimp only)); refine bx_ 4 #[.int .i64 0, .int .i64 0] 84 ?_; intro aG hg w29 hbox hb; have aJ := Zk (hbox); have aK := gw_ HB hg; replace HB := al_ HB hb; have aD := n1_ aC hg; have aE := n2_ aC hg; replace aC := ab_ aC hb; clear hb hbox hg; obtain ⟨cG, cH⟩ := nn_ aE aD; obtain ⟨bH, bI, bJ, bK⟩ := cf2_ aJ) | (go_at_call 89; (with_reducible refine (node_fits.calls ((rd_T84 l0_1 aB).f0) true _ A12.out).mono ?_); rintro e w' ⟨rfl, ⟨nd, rfl⟩⟩; (try exact dd_)) | (go_at_call 89; (with_reducible refine (node_fits.calls ((rd_T84 l0_1 aB).f1) true _ A14.out).mono ?_); rintro e w' ⟨rfl, ⟨nd, rfl⟩⟩; (try exact dd_))); try go_wp2_with (first | (refine gd_ 4 ?_; (try (refine gate_guard (by rfl) ?_; dsimp only)); refine bx_ 4 #[.int .i64 0, .int .i64 0] 84 ?_; intro aG hg w29 hbox hb; have aJ := Zk (hbox); have aK := gw_ HB hg; replace HB := al_ HB hb; have aD := n1_ aC hg; have aE := n2_ aC hg; replace aC := ab_ aC hb; clear hb hbox hg; obtain ⟨cG, cH⟩ := nn_ aE aD; obtain ⟨bH, bI, bJ, bK⟩ := cf2_ aJ) | (go_at_call 89; (with_reducible refine (node_fits.calls ((rd_T84 l0_1 aB).f0) true _ A12.out).mono ?_); rintro e w' ⟨rfl, ⟨nd, rfl⟩⟩; (try exact dd_)) | (go_at_call 89; (with_reducible refine (node_fits.calls ((rd_T84 l0_1 aB).f1) true _ A14.out).mono ?_); rintro e w' ⟨rfl, ⟨nd, rfl⟩⟩; (try exact dd_))))
      go_roundg k2
      case measure => have := HJ1.out; have := HK2.out; omega
      case rel => exact ⟨(wrap64 (aB + 1)), q_, H', ⟨by have := HJ1.out; have := HK2.out; omega⟩, ⟨bk_ aC⟩, ⟨bl_ HB⟩⟩
     rw [if_pos c16] at H
     have cP : decide (0 < aB) = true := decide_eq_true c16
     clear c16
     obtain ⟨ji17, hji17⟩ : ∃ j_ : Int, (wrap64 (aB - 1)) = j_ := ⟨_, rfl⟩
     first | rw [hji17] at H | simp only [hji17] at H
     (try rw [hji17] at A12)
     (try rw [hji17] at A14)
     have hji17w : (IntKind.i64.wrap (aB - 1)) = ji17 := (i64_w _).trans hji17
     by_cases c18 : 0 ≤ (ji17)
     case neg => exact no_ c18 H
     rw [if_pos c18] at H
     have dJ := decide_eq_true c18
     clear c18
     by_cases c19 : (ji17) < (l0_1.length : Int)
     case neg => exact no_ c19 H
     rw [if_pos c19] at H
     have dK := decide_eq_true c19
     clear c19
     by_cases c20 : ((rd_T84 l0_1 aB).f0) ≤ ((rd_T84 l0_1 (ji17)).f0)
     case pos =>
      rw [if_pos c20] at H
      have cQ := decide_eq_true c20
      clear c20
      obtain rfl := Option.some.inj H
      have aQ : 0 ≤ (aB : Int) := of_decide_eq_true as_
      have aR : aB < (l0_1.length : Int) := of_decide_eq_true as_
      obtain ⟨aN, aV, aL, aM⟩ := at_T84 aS.out aB aQ aR
      cases aV
      replace aL := hx_ HB aL
      replace aM := hx_ HB aM
      replace aQ := eq_true aQ
      replace aR := eq_true aR
      go_wp2_with (first | (refine gd_ 4 ?_; (try (refine gate_guard (by rfl) ?_; dsimp only)); refine bx_ 4 #[.int .i64 0, .int .i64 0] 84 ?_; intro aG hg w21 hbox hb; have aJ := Zk (hbox); have aK := gw_ HB hg; replace HB := al_ HB hb; have aD := n1_ aC hg; have aE := n2_ aC hg; replace aC := ab_ aC hb; clear hb hbox hg; obtain ⟨cI, cJ⟩ := nn_ aE aD; obtain ⟨bL, bM, bN, bO⟩ := cf2_ aJ) | (go_at_call 89; (with_reducible refine (node_fits.calls ((rd_T84 l0_1 aB).f0) true _ A12.out).mono ?_); rintro e w' ⟨rfl, ⟨nd, rfl⟩⟩; (try exact dd_)) | (go_at_call 89; (with_reducible refine (node_fits.calls ((rd_T84 l0_1 aB).f1) true _ A14.out).mono ?_); rintro e w' ⟨rfl, ⟨nd, rfl⟩⟩; (try exact dd_); obtain ⟨bP, bQ, bR, bS⟩ := cf2_ aC; have aO : 0 ≤ ((ji17) : Int) := of_decide_eq_true as_; have aP : (ji17) < (l0_1.length : Int) := of_decide_eq_true as_; obtain ⟨aT, aU, aA, aF⟩ := at_T84 aS.out (ji17) aO aP; obtain rfl : aN = aT := (by injection aU); have aH : aN.block ≠ aG := nb_ aA aK; have aI : aN.block ≠ aG := nb_ aA aK; replace aA := hx_ HB aA; replace aF := hx_ HB aF; replace aA := (cell_far (p := ⟨aG, 0, none⟩) (na_ aH) (.int .i64 ((rd_T84 l0_1 aB).f0))).trans aA; replace aF := (cell_far (p := ⟨aG, 0, none⟩) (na_ aH) (.int .i64 ((rd_T84 l0_1 aB).f0))).trans aF; replace aA := (cell_far (p := ⟨aG, 1, none⟩) (na_ aI) (.int .i64 ((rd_T84 l0_1 aB).f1))).trans aA; replace aF := (cell_far (p := ⟨aG, 1, none⟩) (na_ aI) (.int .i64 ((rd_T84 l0_1 aB).f1))).trans aF; clear aH; clear aI; replace aO := eq_true aO; replace aP := eq_true aP))
      repeat (go_quiet (first | (refine gd_ 4 ?_; (try (refine gate_guard (by rfl) ?_; dsimp only)); refine bx_ 4 #[.int .i64 0, .int .i64 0] 84 ?_; intro aG hg w21 hbox hb; have aJ := Zk (hbox); have aK := gw_ HB hg; replace HB := al_ HB hb; have aD := n1_ aC hg; have aE := n2_ aC hg; replace aC := ab_ aC hb; clear hb hbox hg; obtain ⟨cI, cJ⟩ := nn_ aE aD; obtain ⟨bL, bM, bN, bO⟩ := cf2_ aJ) | (go_at_call 89; (with_reducible refine (node_fits.calls ((rd_T84 l0_1 aB).f0) true _ A12.out).mono ?_); rintro e w' ⟨rfl, ⟨nd, rfl⟩⟩; (try exact dd_)) | (go_at_call 89; (with_reducible refine (node_fits.calls ((rd_T84 l0_1 aB).f1) true _ A14.out).mono ?_); rintro e w' ⟨rfl, ⟨nd, rfl⟩⟩; (try exact dd_); obtain ⟨bP, bQ, bR, bS⟩ := cf2_ aC; have aO : 0 ≤ ((ji17) : Int) := of_decide_eq_true as_; have aP : (ji17) < (l0_1.length : Int) := of_decide_eq_true as_; obtain ⟨aT, aU, aA, aF⟩ := at_T84 aS.out (ji17) aO aP; obtain rfl : aN = aT := (by injection aU); have aH : aN.block ≠ aG := nb_ aA aK; have aI : aN.block ≠ aG := nb_ aA aK; replace aA := hx_ HB aA; replace aF := hx_ HB aF; replace aA := (cell_far (p := ⟨aG, 0, none⟩) (na_ aH) (.int .i64 ((rd_T84 l0_1 aB).f0))).trans aA; replace aF := (cell_far (p := ⟨aG, 0, none⟩) (na_ aH) (.int .i64 ((rd_T84 l0_1 aB).f0))).trans aF; replace aA := (cell_far (p := ⟨aG, 1, none⟩) (na_ aI) (.int .i64 ((rd_T84 l0_1 aB).f1))).trans aA; replace aF := (cell_far (p := ⟨aG, 1, none⟩) (na_ aI) (.int .i64 ((rd_T84 l0_1 aB).f1))).trans aF; clear aH; clear aI; replace aO := eq_true aO; replace aP := eq_true aP)); try go_wp2_with (first | (refine gd_ 4 ?_; (try (refine gate_guard (by rfl) ?_; dsimp only)); refine bx_ 4 #[.int .i64 0, .int .i64 0] 84 ?_; intro aG hg w21 hbox hb; have aJ := Zk (hbox); have aK := gw_ HB hg; replace HB := al_ HB hb; have aD := n1_ aC hg; have aE := n2_ aC hg; replace aC := ab_ aC hb; clear hb hbox hg; obtain ⟨cI, cJ⟩ := nn_ aE aD; obtain ⟨bL, bM, bN, bO⟩ := cf2_ aJ) | (go_at_call 89; (with_reducible refine (node_fits.calls ((rd_T84 l0_1 aB).f0) true _ A12.out).mono ?_); rintro e w' ⟨rfl, ⟨nd, rfl⟩⟩; (try exact dd_)) | (go_at_call 89; (with_reducible refine (node_fits.calls ((rd_T84 l0_1 aB).f1) true _ A14.out).mono ?_); rintro e w' ⟨rfl, ⟨nd, rfl⟩⟩; (try exact dd_); obtain ⟨bP, bQ, bR, bS⟩ := cf2_ aC; have aO : 0 ≤ ((ji17) : Int) := of_decide_eq_true as_; have aP : (ji17) < (l0_1.length : Int) := of_decide_eq_true as_; obtain ⟨aT, aU, aA, aF⟩ := at_T84 aS.out (ji17) aO aP; obtain rfl : aN = aT := (by injection aU); have aH : aN.block ≠ aG := nb_ aA aK; have aI : aN.block ≠ aG := nb_ aA aK; replace aA := hx_ HB aA; replace aF := hx_ HB aF; replace aA := (cell_far (p := ⟨aG, 0, none⟩) (na_ aH) (.int .i64 ((rd_T84 l0_1 aB).f0))).trans aA; replace aF := (cell_far (p := ⟨aG, 0, none⟩) (na_ aH) (.int .i64 ((rd_T84 l0_1 aB).f0))).trans aF; replace aA := (cell_far (p := ⟨aG, 1, none⟩) (na_ aI) (.int .i64 ((rd_T84 l0_1 aB).f1))).trans aA; replace aF := (cell_far (p := ⟨aG, 1, none⟩) (na_ aI) (.int .i64 ((rd_T84 l0_1 aB).f1))).trans aF; clear aH; clear aI; replace aO := eq_true aO; replace aP := eq_true aP)))
      go_ret
      exact ⟨by first | rfl | (simp [errW_none, errW_some] <;> rfl) | (simp only [← hji17]; first | rfl | (simp [errW_none, errW_some] <;> rfl)) | (simp [*, errW_none, errW_some] <;> rfl), bl_ HB⟩
     rw [if_neg c20] at H
     have cQ := decide_eq_false c20
     clear c20
     have H' := Zk H
     clear H
     have aQ : 0 ≤ (aB : Int) := of_decide_eq_true as_
     have aR : aB < (l0_1.length : Int) := of_decide_eq_true as_
     obtain ⟨aN, aV, aL, aM⟩ := at_T84 aS.out aB aQ aR
     cases aV
     replace aL := hx_ HB aL
     replace aM := hx_ HB aM
     replace aQ := eq_true aQ
     replace aR := eq_true aR
     go_wp2_with (first | (refine gd_ 4 ?_; (try (refine gate_guard (by rfl) ?_; dsimp only)); refine bx_ 4 #[.int .i64 0, .int .i64 0] 84 ?_; intro aG hg w25 hbox hb; have aJ := Zk (hbox); have aK := gw_ HB hg; replace HB := al_ HB hb; have aD := n1_ aC hg; have aE := n2_ aC hg; replace aC := ab_ aC hb; clear hb hbox hg; obtain ⟨cK, cL⟩ := nn_ aE aD; obtain ⟨bT, bU, bV, bW⟩ := cf2_ aJ) | (go_at_call 89; (with_reducible refine (node_fits.calls ((rd_T84 l0_1 aB).f0) true _ A12.out).mono ?_); rintro e w' ⟨rfl, ⟨nd, rfl⟩⟩; (try exact dd_)) | (go_at_call 89; (with_reducible refine (node_fits.calls ((rd_T84 l0_1 aB).f1) true _ A14.out).mono ?_); rintro e w' ⟨rfl, ⟨nd, rfl⟩⟩; (try exact dd_); obtain ⟨bX, bY, bZ, cA⟩ := cf2_ aC; have aO : 0 ≤ ((ji17) : Int) := of_decide_eq_true as_; have aP : (ji17) < (l0_1.length : Int) := of_decide_eq_true as_; obtain ⟨aT, aU, aA, aF⟩ := at_T84 aS.out (ji17) aO aP; obtain rfl : aN = aT := (by injection aU); have aH : aN.block ≠ aG := nb_ aA aK; have aI : aN.block ≠ aG := nb_ aA aK; replace aA := hx_ HB aA; replace aF := hx_ HB aF; replace aA := (cell_far (p := ⟨aG, 0, none⟩) (na_ aH) (.int .i64 ((rd_T84 l0_1 aB).f0))).trans aA; replace aF := (cell_far (p := ⟨aG, 0, none⟩) (na_ aH) (.int .i64 ((rd_T84 l0_1 aB).f0))).trans aF; replace aA := (cell_far (p := ⟨aG, 1, none⟩) (na_ aI) (.int .i64 ((rd_T84 l0_1 aB).f1))).trans aA; replace aF := (cell_far (p := ⟨aG, 1, none⟩) (na_ aI) (.int .i64 ((rd_T84 l0_1 aB).f1))).trans aF; clear aH; clear aI; replace aO := eq_true aO; replace aP := eq_true aP))
     repeat (go_quiet (first | (refine gd_ 4 ?_; (try (refine gate_guard (by rfl) ?_; dsimp only)); refine bx_ 4 #[.int .i64 0, .int .i64 0] 84 ?_; intro aG hg w25 hbox hb; have aJ := Zk (hbox); have aK := gw_ HB hg; replace HB := al_ HB hb; have aD := n1_ aC hg; have aE := n2_ aC hg; replace aC := ab_ aC hb; clear hb hbox hg; obtain ⟨cK, cL⟩ := nn_ aE aD; obtain ⟨bT, bU, bV, bW⟩ := cf2_ aJ) | (go_at_call 89; (with_reducible refine (node_fits.calls ((rd_T84 l0_1 aB).f0) true _ A12.out).mono ?_); rintro e w' ⟨rfl, ⟨nd, rfl⟩⟩; (try exact dd_)) | (go_at_call 89; (with_reducible refine (node_fits.calls ((rd_T84 l0_1 aB).f1) true _ A14.out).mono ?_); rintro e w' ⟨rfl, ⟨nd, rfl⟩⟩; (try exact dd_); obtain ⟨bX, bY, bZ, cA⟩ := cf2_ aC; have aO : 0 ≤ ((ji17) : Int) := of_decide_eq_true as_; have aP : (ji17) < (l0_1.length : Int) := of_decide_eq_true as_; obtain ⟨aT, aU, aA, aF⟩ := at_T84 aS.out (ji17) aO aP; obtain rfl : aN = aT := (by injection aU); have aH : aN.block ≠ aG := nb_ aA aK; have aI : aN.block ≠ aG := nb_ aA aK; replace aA := hx_ HB aA; replace aF := hx_ HB aF; replace aA := (cell_far (p := ⟨aG, 0, none⟩) (na_ aH) (.int .i64 ((rd_T84 l0_1 aB).f0))).trans aA; replace aF := (cell_far (p := ⟨aG, 0, none⟩) (na_ aH) (.int .i64 ((rd_T84 l0_1 aB).f0))).trans aF; replace aA := (cell_far (p := ⟨aG, 1, none⟩) (na_ aI) (.int .i64 ((rd_T84 l0_1 aB).f1))).trans aA; replace aF := (cell_far (p := ⟨aG, 1, none⟩) (na_ aI) (.int .i64 ((rd_T84 l0_1 aB).f1))).trans aF; clear aH; clear aI; replace aO := eq_true aO; replace aP := eq_true aP)); try go_wp2_with (first | (refine gd_ 4 ?_; (try (refine gate_guard (by rfl) ?_; dsimp only)); refine bx_ 4 #[.int .i64 0, .int .i64 0] 84 ?_; intro aG hg w25 hbox hb; have aJ := Zk (hbox); have aK := gw_ HB hg; replace HB := al_ HB hb; have aD := n1_ aC hg; have aE := n2_ aC hg; replace aC := ab_ aC hb; clear hb hbox hg; obtain ⟨cK, cL⟩ := nn_ aE aD; obtain ⟨bT, bU, bV, bW⟩ := cf2_ aJ) | (go_at_call 89; (with_reducible refine (node_fits.calls ((rd_T84 l0_1 aB).f0) true _ A12.out).mono ?_); rintro e w' ⟨rfl, ⟨nd, rfl⟩⟩; (try exact dd_)) | (go_at_call 89; (with_reducible refine (node_fits.calls ((rd_T84 l0_1 aB).f1) true _ A14.out).mono ?_); rintro e w' ⟨rfl, ⟨nd, rfl⟩⟩; (try exact dd_); obtain ⟨bX, bY, bZ, cA⟩ := cf2_ aC; have aO : 0 ≤ ((ji17) : Int) := of_decide_eq_true as_; have aP : (ji17) < (l0_1.length : Int) := of_decide_eq_true as_; obtain ⟨aT, aU, aA, aF⟩ := at_T84 aS.out (ji17) aO aP; obtain rfl : aN = aT := (by injection aU); have aH : aN.block ≠ aG := nb_ aA aK; have aI : aN.block ≠ aG := nb_ aA aK; replace aA := hx_ HB aA; replace aF := hx_ HB aF; replace aA := (cell_far (p := ⟨aG, 0, none⟩) (na_ aH) (.int .i64 ((rd_T84 l0_1 aB).f0))).trans aA; replace aF := (cell_far (p := ⟨aG, 0, none⟩) (na_ aH) (.int .i64 ((rd_T84 l0_1 aB).f0))).trans aF; replace aA := (cell_far (p := ⟨aG, 1, none⟩) (na_ aI) (.int .i64 ((rd_T84 l0_1 aB).f1))).trans aA; replace aF := (cell_far (p := ⟨aG, 1, none⟩) (na_ aI) (.int .i64 ((rd_T84 l0_1 aB).f1))).trans aF; clear aH; clear aI; replace aO := eq_true aO; replace aP := eq_true aP)))
     go_roundg k2
     case measure => have := HJ1.out; have := HK2.out; omega
     case rel => exact ⟨(wrap64 (aB + 1)), q_, H', ⟨by have := HJ1.out; have := HK2.out; omega⟩, ⟨bk_ aC⟩, ⟨bl_ HB⟩⟩
end
theorem fits_val (a : Int) : node_fits.f a = some (decide (0 ≤ a ∧ a ≤ 2147483647)) := by
 unfold node_fits.f
 by_cases h : a ≥ 0
 case neg => rw [if_neg h, decide_eq_false (by omega)]
 rw [if_pos h]
 have : (0 ≤ a ∧ a ≤ 2147483647) = (a ≤ 2147483647) := by apply propext; omega
 simp only [this]
theorem right04_l0 (leaf : Bool) (l : List S84) (hl : l.length ≤ 1000) : ∀ (d k j : Nat), j + d = l.length → d < k → node_Right.l0 k l (l.length : Int) (j : Int) leaf l = some (decide (okFrom l j)) := by
 intro d
 induction d with
 | zero =>
  intro k j hj hk
  obtain ⟨k, rfl⟩ : ∃ m, k = m + 1 := ⟨k - 1, by omega⟩
  obtain rfl : j = l.length := by omega
  simp only [node_Right.l0]
  rw [if_neg (by omega), decide_eq_true (okFrom_end l)]
 | succ d ih =>
  intro k j hj hk
  obtain ⟨k, rfl⟩ : ∃ m, k = m + 1 := ⟨k - 1, by omega⟩
  have hlt : j < l.length := by omega
  have ih' := ih k (j + 1) (by omega) (by omega)
  simp only [node_Right.l0]
  rw [okFrom_dec hlt, if_pos (by omega), if_pos (by omega), if_pos (by omega), wsucc j (by omega), ih', fits_val, Option.bind_some, fits_val, Option.bind_some]
  by_cases h1 : 0 ≤ kAt l j ∧ kAt l j ≤ 2147483647
  case neg => rw [if_neg (by simpa using h1), decide_eq_false (fun h : okAt l j => h1 ⟨h.1, h.2.1⟩), Bool.false_and]
  rw [if_pos (decide_eq_true h1)]
  by_cases h3 : 0 ≤ vAt l j ∧ vAt l j ≤ 2147483647
  case neg => rw [if_neg (by simpa using h3), decide_eq_false (fun h : okAt l j => h3 ⟨h.2.2.1, h.2.2.2.1⟩), Bool.false_and]
  rw [if_pos (decide_eq_true h3)]
  by_cases h5 : j = 0
  case pos =>
   subst h5
   rw [if_neg (by simp), decide_eq_true (show okAt l 0 from ⟨by omega, by omega, by omega, by omega, fun h => absurd h (by omega)⟩), Bool.true_and]
  rw [if_pos (by omega), wpred j (by omega) (by omega), if_pos (by omega), if_pos (by omega)]
  by_cases h6 : kAt l j ≤ kAt l (j - 1)
  case pos => rw [if_pos h6, decide_eq_false (fun h : okAt l j => by have := h.2.2.2.2 (by omega); omega), Bool.false_and]
  rw [if_neg h6, decide_eq_true (show okAt l j from ⟨by omega, by omega, by omega, by omega, fun _ => by omega⟩), Bool.true_and]
theorem right04_val (leaf : Bool) (l : List S84) (k : Nat) (hk : 6 ≤ k) : node_Right.f k leaf l = some (decide (RtN l)) := by
 unfold node_Right.f
 obtain ⟨k, rfl⟩ : ∃ m, k = m + 1 := ⟨k - 1, by omega⟩
 by_cases h1 : l.length < 1
 case pos =>
  rw [if_pos (by omega)]
  simp only [node_Right.j0]
  rw [if_pos trivial, decide_eq_false (fun h : RtN l => by have := h.1; omega)]
 rw [if_neg (by omega)]
 simp only [node_Right.j0]
 by_cases h4 : l.length ≤ 4
 case neg => rw [decide_eq_true (show (l.length : Int) > 4 by omega), if_pos rfl, decide_eq_false (fun h : RtN l => h4 h.2.1)]
 rw [decide_eq_false (show ¬ (l.length : Int) > 4 by omega), if_neg (by simp)]
 have := right04_l0 leaf l (by omega) l.length k 0 (by omega) (by omega)
 rw [show ((0 : Nat) : Int) = 0 from rfl] at this
 rw [this]
 congr 1
 rw [decide_eq_decide]
 exact ⟨fun h => ⟨by omega, h4, h⟩, fun h => h.2.2⟩
def oddPlace (n : Nat) (x : S84) : Bool := decide (x.f1 < 0) || decide ((n : Int) ≤ x.f1)
theorem places1 (g : Nat) (A : Option Addr) (n c : Nat) (x : S84) (W : World) (h0 : W.cell? ⟨g, 0, none⟩ = some (.slice A n c)) :
  Calls Tryz.prog 90 (#[itemV x] ++ #[.pointer (some ⟨g, 0, none⟩)]) W fun e w' => e = .returned (.bool (oddPlace n x)) ∧ Below W.heap.size W w' := by
 have hu84 := Tryz.underlying84
 have hu30 := Tryz.underlying30
 have hlt := World.block_lt_of_cell? W _ h0
 have hlt' : g < W.heap.size := hlt
 obtain ⟨k, v⟩ := x
 have HB := Zk ((Below.refl W.heap.size W).alloc (Nat.le_refl _) (.cells #[.int .i64 k, .int .i64 v] 84))
 simp only [oddPlace]
 simp only [List.append_toArray, List.cons_append, List.nil_append]
 by_cases h1 : v < 0
 case pos =>
  rw [decide_eq_true h1, Bool.true_or]
  have hd : decide (v < 0) = true := decide_eq_true h1
  go_enter Tryz.func90, Tryz.ntmps90
  go_wp2
  go_ret
  exact ⟨rfl, HB.out⟩
 rw [decide_eq_false h1, Bool.false_or]
 have hd : decide (v < 0) = false := decide_eq_false h1
 go_enter Tryz.func90, Tryz.ntmps90
 go_wp2
 go_ret
 exact ⟨rfl, HB.out⟩
def placesB (n : Nat) (leaf : Bool) (it : List S84) : Bool := leaf || !(it.any (oddPlace n))
theorem places_walk (A : Option Addr) (n c : Nat) (kp : Int) (leaf : Bool) (A' : Option Addr) (c' : Nat) (it : List S84) (w : World) (hit : Kd.C k84 w A' it.length it) (hl : it.length < 1000000) :
  Calls Tryz.prog 64 #[.agg #[.slice A n c, .int .i64 kp], .agg #[.bool leaf, .slice A' it.length c']] w fun e w' => e = .returned (.bool (placesB n leaf it)) ∧ Below w.heap.size w w' := by
 have hu63 := Tryz.underlying63
 have hu30 := Tryz.underlying30
 have HB := Zk (((Below.refl w.heap.size w).alloc (Nat.le_refl _) (.cells #[.slice A n c, .int .i64 kp] 30)).alloc (by simp) (.cells #[.bool leaf, .slice A' it.length c'] 63))
 unfold placesB
 cases leaf with
 | true =>
  clear hit
  go_enter Tryz.func64, Tryz.ntmps64
  go_wp2
  go_ret
  exact ⟨rfl, HB.out⟩
 | false =>
  rw [Bool.false_or]
  obtain ⟨wA, hwA⟩ : ∃ wA, (w.alloc (.cells #[.slice A n c, .int .i64 kp] 30)).alloc (.cells #[.bool false, .slice A' it.length c'] 63) = wA := ⟨_, rfl⟩
  rw [hwA] at HB
  have hx : wA.heap[w.heap.size]? = some (.cells #[.slice A n c, .int .i64 kp] 30 (0, 0)) := by rw [← hwA]; exact blk_alloc (alloc_new w _) _
  have hy : wA.heap[w.heap.size + 1]? = some (.cells #[.bool false, .slice A' it.length c'] 63 (0, 0)) := by
   rw [← hwA]
   have := alloc_new (w.alloc (.cells #[.slice A n c, .int .i64 kp] 30)) (.cells #[.bool false, .slice A' it.length c'] 63)
   rwa [World.size_alloc] at this
  have HC := Zk (contains49_90 #[.pointer (some ⟨w.heap.size, 0, none⟩)] (oddPlace n) it A' c' wA hl (Kd.C_below hit HB.out) (fun W x hb _ => places1 w.heap.size A n c x W ((hb.cell (World.block_lt_of_cell? wA _ ((blk_cell hx 0).trans rfl))).trans ((blk_cell hx 0).trans rfl))))
  generalize it.any (oddPlace n) = any at HC
  have y0 : wA.cell? ⟨w.heap.size + 1, 0, none⟩ = some (.bool false) := (blk_cell hy 0).trans rfl
  have y1 : wA.cell? ⟨w.heap.size + 1, 1, none⟩ = some (.slice A' it.length c') := (blk_cell hy 1).trans rfl
  clear hit hx hy
  go_enter Tryz.func64, Tryz.ntmps64
  go_wp2_with fail
  clear hwA
  refine HC.out.mono ?_
  rintro e w1 ⟨rfl, hb1⟩
  have HB1 := Zk (HB.out.trans (hb1.mono HB.out.size))
  clear hb1 y0 y1 HC
  cases any
  all_goals go_wp2
  all_goals go_ret
  all_goals exact ⟨rfl, HB1.out⟩
def oddB (n : Nat) (x : S65) : Bool :=
 if x.f0 = 0 then (x.f2.f0 || decide (0 < x.f2.f1.length)) else (decide (x.f0 < 0) || decide (2147483647 < x.f0) || x.f1 || !decide (RtN x.f2.f1) || !placesB n x.f2.f0 x.f2.f1)
theorem right1 (g : Nat) (A : Option Addr) (n c : Nat) (kp : Int) (x : S65) (A' : Option Addr) (c' : Nat) (W : World) (h0 : W.cell? ⟨g, 0, none⟩ = some (.slice A n c)) (h1 : W.cell? ⟨g, 1, none⟩ = some (.int .i64 kp)) (hc : x.f2.f1.length ≤ c') (hit : Kd.C k84 W A' x.f2.f1.length x.f2.f1) (hl : x.f2.f1.length < 1000000) (hn : n < 1000000) :
  Calls Tryz.prog 62 (#[cellV x A' c'] ++ #[.pointer (some ⟨g, 0, none⟩)]) W fun e w' => e = .returned (.bool (oddB n x)) ∧ Below W.heap.size W w' := by
 have hu65 := Tryz.underlying65
 have hu63 := Tryz.underlying63
 have hu30 := Tryz.underlying30
 have hlt := World.block_lt_of_cell? W _ h0
 have hlt' : g < W.heap.size := hlt
 obtain ⟨ref, pin, leaf, it⟩ := x
 simp only [cellV] at *
 simp only [List.append_toArray, List.cons_append, List.nil_append]
 obtain ⟨wA, hwA⟩ : ∃ wA, W.alloc (.cells #[.int .i64 ref, .bool pin, .bool leaf, .slice A' it.length c'] 65) = wA := ⟨_, rfl⟩
 have hbA : Below W.heap.size W wA := by rw [← hwA]; exact (Below.refl W.heap.size W).alloc (Nat.le_refl _) _
 have hx : wA.heap[W.heap.size]? = some (.cells #[.int .i64 ref, .bool pin, .bool leaf, .slice A' it.length c'] 65 (0, 0)) := by rw [← hwA]; exact alloc_new W _
 have x0 : wA.cell? ⟨W.heap.size, 0, none⟩ = some (.int .i64 ref) := (blk_cell hx 0).trans rfl
 have x1 : wA.cell? ⟨W.heap.size, 1, none⟩ = some (.bool pin) := (blk_cell hx 1).trans rfl
 have x2 : wA.cell? ⟨W.heap.size, 2, none⟩ = some (.bool leaf) := (blk_cell hx 2).trans rfl
 have x3 : wA.cell? ⟨W.heap.size, 3, none⟩ = some (.slice A' it.length c') := (blk_cell hx 3).trans rfl
 have hitA := Kd.C_below hit hbA
 have HR := Zk (node_Right.calls 6 leaf A' c' it (decide (RtN it)) wA hitA hc (right04_val leaf it 6 (by omega)))
 have HP := Zk (fun (w1 : World) (hb : Below wA.heap.size wA w1) => places_walk A n c kp leaf A' c' it w1 (Kd.C_below hitA hb) hl)
 have HBA := Zk hbA
 have g0 : wA.cell? ⟨g, 0, none⟩ = some (.slice A n c) := (hbA.cell hlt).trans h0
 have g1 : wA.cell? ⟨g, 1, none⟩ = some (.int .i64 kp) := (hbA.cell (World.block_lt_of_cell? W _ h1)).trans h1
 have HX := Zk hx
 unfold oddB
 simp only []
 generalize decide (RtN it) = rt at HR
 generalize placesB n leaf it = pl at HP
 have hlz : it.length < 1000000 := hl
 clear hit hitA hbA hx hl h0 h1
 by_cases hz : ref = 0
 ·subst hz
  rw [if_pos rfl]
  clear HR HP
  cases leaf with
  | true =>
   rw [Bool.true_or]
   go_enter Tryz.func62, Tryz.ntmps62
   go_wp2
   go_ret
   exact ⟨rfl, HBA.out⟩
  | false =>
   rw [Bool.false_or]
   by_cases hll : 0 < it.length
   case pos =>
    have hd : decide (0 < it.length) = true := decide_eq_true hll
    have hd2 : decide (0 < (it.length : Int)) = true := decide_eq_true (by omega)
    rw [hd]
    go_enter Tryz.func62, Tryz.ntmps62
    go_wp2
    go_ret
    exact ⟨rfl, HBA.out⟩
   have hd : decide (0 < it.length) = false := decide_eq_false hll
   have hd2 : decide (0 < (it.length : Int)) = false := decide_eq_false (by omega)
   rw [hd]
   go_enter Tryz.func62, Tryz.ntmps62
   go_wp2
   go_ret
   exact ⟨rfl, HBA.out⟩
 rw [if_neg hz]
 have hzb : (ref == 0) = false := beq_eq_false_iff_ne.2 hz
 by_cases h2 : ref < 0
 ·have hd : decide (ref < 0) = true := decide_eq_true h2
  rw [hd]
  simp only [Bool.true_or]
  clear HR HP hz
  go_enter Tryz.func62, Tryz.ntmps62
  go_wp2
  go_ret
  exact ⟨rfl, HBA.out⟩
 have hd2 : decide (ref < 0) = false := decide_eq_false h2
 rw [hd2, Bool.false_or]
 by_cases h3 : 2147483647 < ref
 ·have hd : decide (2147483647 < ref) = true := decide_eq_true h3
  rw [hd]
  simp only [Bool.true_or]
  clear HR HP hz
  go_enter Tryz.func62, Tryz.ntmps62
  go_wp2
  go_ret
  exact ⟨rfl, HBA.out⟩
 have hd3 : decide (2147483647 < ref) = false := decide_eq_false h3
 rw [hd3, Bool.false_or]
 cases pin with
 | true =>
  simp only [Bool.true_or]
  clear HR HP hz
  go_enter Tryz.func62, Tryz.ntmps62
  go_wp2
  go_ret
  exact ⟨rfl, HBA.out⟩
 | false =>
  rw [Bool.false_or]
  cases rt with
  | false =>
   simp only [Bool.not_false, Bool.true_or]
   clear HP hz
   go_enter Tryz.func62, Tryz.ntmps62
   go_wp2_with fail
   refine HR.out.mono ?_
   rintro e w1 ⟨rfl, hb1⟩
   have HB1 := Zk (HBA.out.trans (hb1.mono HBA.out.size))
   clear hb1 HR
   go_wp2
   go_ret
   exact ⟨rfl, HB1.out⟩
  | true =>
   rw [Bool.not_true, Bool.false_or]
   clear hz
   go_enter Tryz.func62, Tryz.ntmps62
   go_wp2_with fail
   refine HR.out.mono ?_
   rintro e w1 ⟨rfl, hb1⟩
   have HB1 := Zk (HBA.out.trans (hb1.mono HBA.out.size))
   have HP1 := Zk (HP.out w1 hb1)
   have hx1 := blk_below HX.out hb1
   have y2 : w1.cell? ⟨W.heap.size, 2, none⟩ = some (.bool leaf) := (blk_cell hx1 2).trans rfl
   have y3 : w1.cell? ⟨W.heap.size, 3, none⟩ = some (.slice A' it.length c') := (blk_cell hx1 3).trans rfl
   have z0 : w1.cell? ⟨g, 0, none⟩ = some (.slice A n c) := (hb1.cell (World.block_lt_of_cell? wA _ g0)).trans g0
   have z1 : w1.cell? ⟨g, 1, none⟩ = some (.int .i64 kp) := (hb1.cell (World.block_lt_of_cell? wA _ g1)).trans g1
   clear hb1 hx1 HR HP HX x0 x1 x2 x3 g0 g1 hwA
   go_wp2_with fail
   refine HP1.out.mono ?_
   rintro e w2 ⟨rfl, hb2⟩
   have HB2 := Zk (HB1.out.trans (hb2.mono HB1.out.size))
   clear hb2 HP1
   cases pl
   all_goals go_wp2
   all_goals go_ret
   all_goals exact ⟨rfl, HB2.out⟩
def rightB (l : List S65) (kp : Int) : Bool := decide (1 ≤ l.length) && decide (l.length ≤ 2000) && decide (0 ≤ kp) && decide (kp ≤ (l.length : Int)) && !(l.any (oddB l.length))
def heap_Right.f (l0_0 : List (S65)) (a0_1 : Int) : Option (Bool) := if l0_0.length < 1000000 ∧ (∀ x ∈ l0_0, x.f2.f1.length < 1000000) then some (rightB l0_0 a0_1) else none
theorem heap_Right.calls (A0_0 : Option Addr) (c0_0 : Nat) (l0_0 : List (S65)) (a0_1 : Int) (r : Bool) (w : World) (hr0_0 : Kd.C k65 w A0_0 l0_0.length l0_0) (hc0_0 : l0_0.length ≤ c0_0) (h : heap_Right.f l0_0 a0_1 = some r) :
  Calls Tryz.prog 29 #[.agg #[.slice A0_0 l0_0.length c0_0, .int .i64 a0_1]] w fun e w' => e = .returned (.bool r) ∧ Below w.heap.size w w' := by
 unfold heap_Right.f at h
 have hcond : l0_0.length < 1000000 ∧ (∀ x ∈ l0_0, x.f2.f1.length < 1000000) := by
  by_cases hc : l0_0.length < 1000000 ∧ (∀ x ∈ l0_0, x.f2.f1.length < 1000000)
  case pos => exact hc
  rw [if_neg hc] at h; cases h
 rw [if_pos hcond] at h
 obtain ⟨hl, hi⟩ := hcond
 obtain rfl := Option.some.inj h
 obtain ⟨wA, hwA⟩ : ∃ wA, w.alloc (.cells #[.slice A0_0 l0_0.length c0_0, .int .i64 a0_1] 30) = wA := ⟨_, rfl⟩
 have hbA : Below w.heap.size w wA := by rw [← hwA]; exact (Below.refl w.heap.size w).alloc (Nat.le_refl _) _
 have hx : wA.heap[w.heap.size]? = some (.cells #[.slice A0_0 l0_0.length c0_0, .int .i64 a0_1] 30 (0, 0)) := by rw [← hwA]; exact alloc_new w _
 have x0 : wA.cell? ⟨w.heap.size, 0, none⟩ = some (.slice A0_0 l0_0.length c0_0) := (blk_cell hx 0).trans rfl
 have x1 : wA.cell? ⟨w.heap.size, 1, none⟩ = some (.int .i64 a0_1) := (blk_cell hx 1).trans rfl
 have hrA := Kd.C_below hr0_0 hbA
 have HC := Zk (contains55_63 #[.pointer (some ⟨w.heap.size, 0, none⟩)] (oddB l0_0.length) l0_0 A0_0 c0_0 wA hl hrA (fun W x A' c' hb hm hcl hit => right1 w.heap.size A0_0 l0_0.length c0_0 a0_1 x A' c' W ((hb.cell (World.block_lt_of_cell? wA _ x0)).trans x0) ((hb.cell (World.block_lt_of_cell? wA _ x1)).trans x1) hcl hit (hi x hm) hl))
 have HBA := Zk hbA
 unfold rightB
 generalize l0_0.any (oddB l0_0.length) = any at HC
 have hu30 := Tryz.underlying30
 clear hr0_0 hbA hx hrA hi h
 by_cases h1 : 1 ≤ l0_0.length
 case neg =>
  rw [decide_eq_false h1, Bool.false_and, Bool.false_and, Bool.false_and, Bool.false_and]
  have d1 : decide (0 < l0_0.length) = false := decide_eq_false (by omega)
  have d1' : decide (1 ≤ l0_0.length) = false := decide_eq_false (by omega)
  have d1i : decide ((1 : Int) ≤ (l0_0.length : Int)) = false := decide_eq_false (by omega)
  have d1j : decide ((0 : Int) < (l0_0.length : Int)) = false := decide_eq_false (by omega)
  clear HC
  go_enter Tryz.func29, Tryz.ntmps29
  go_wp2
  go_ret
  exact ⟨rfl, HBA.out⟩
 rw [decide_eq_true h1, Bool.true_and]
 have d1 : decide (0 < l0_0.length) = true := decide_eq_true (by omega)
 have d1' : decide (1 ≤ l0_0.length) = true := decide_eq_true (by omega)
 have d1i : decide ((1 : Int) ≤ (l0_0.length : Int)) = true := decide_eq_true (by omega)
 have d1j : decide ((0 : Int) < (l0_0.length : Int)) = true := decide_eq_true (by omega)
 by_cases h2 : l0_0.length ≤ 2000
 case neg =>
  rw [decide_eq_false h2, Bool.false_and, Bool.false_and, Bool.false_and]
  have d2 : decide (l0_0.length ≤ 2000) = false := decide_eq_false h2
  have d2i : decide ((l0_0.length : Int) ≤ 2000) = false := decide_eq_false (by omega)
  clear HC
  go_enter Tryz.func29, Tryz.ntmps29
  go_wp2
  go_ret
  exact ⟨rfl, HBA.out⟩
 rw [decide_eq_true h2, Bool.true_and]
 have d2 : decide (l0_0.length ≤ 2000) = true := decide_eq_true h2
 have d2i : decide ((l0_0.length : Int) ≤ 2000) = true := decide_eq_true (by omega)
 by_cases h3 : 0 ≤ a0_1
 case neg =>
  rw [decide_eq_false h3, Bool.false_and, Bool.false_and]
  have d3 : decide (0 ≤ a0_1) = false := decide_eq_false h3
  clear HC
  go_enter Tryz.func29, Tryz.ntmps29
  go_wp2
  go_ret
  exact ⟨rfl, HBA.out⟩
 rw [decide_eq_true h3, Bool.true_and]
 have d3 : decide (0 ≤ a0_1) = true := decide_eq_true h3
 by_cases h4 : a0_1 ≤ (l0_0.length : Int)
 case neg =>
  rw [decide_eq_false h4, Bool.false_and]
  have d4 : decide (a0_1 ≤ (l0_0.length : Int)) = false := decide_eq_false h4
  clear HC
  go_enter Tryz.func29, Tryz.ntmps29
  go_wp2
  go_ret
  exact ⟨rfl, HBA.out⟩
 rw [decide_eq_true h4, Bool.true_and]
 have d4 : decide (a0_1 ≤ (l0_0.length : Int)) = true := decide_eq_true h4
 go_enter Tryz.func29, Tryz.ntmps29
 go_wp2_with fail
 clear hwA
 refine HC.out.mono ?_
 rintro e w1 ⟨rfl, hb1⟩
 have HB1 := Zk (HBA.out.trans (hb1.mono HBA.out.size))
 clear hb1 HC x0 x1
 cases any
 all_goals go_wp2
 all_goals go_ret
 all_goals exact ⟨rfl, HB1.out⟩
section
attribute [local go_sem] max2_int min2_int max_two min_two max_three min_three max_four min_four
def mount_isVols.l0 : Nat → Int → List (S122) → Int → Int → List (S65) → Int → List (S122) → List (Nat × Nat) → Int → Int → Option (Bool)
 | 0, _, _, _, _, _, _, _, _, _, _ => none
 | k + 1, x3, x7, x8, x9, aD, aE, aC, aF, aA, aB => if x9 < x8 then (if 0 ≤ x9 then (if x9 < (x7.length : Int) then (if ((rd_T122 x7 x9).f0) ≤ x3 then (some false) else (if ((rd_T122 x7 x9).f0) ≥ aA then (some false) else (mount_isVols.l0 k ((rd_T122 x7 x9).f0) x7 x8 (wrap64 (x9 + 1)) aD aE aC aF aA aB))) else (none)) else (none)) else (if (aC.length : Int) ≤ 20 then (if aA ≥ 1 then (if aA ≤ 2147483647 then (if aB ≥ 0 then (some (decide (aB ≤ 2147483647))) else (some false)) else (some false)) else (some false)) else (some false))
def mount_isVols.f (k : Nat) (l0_0 : List (S65)) (a0_1 : Int) (l0_2 : List (S122)) (l0_3 : List (Nat × Nat)) (a0_4 : Int) (a0_5 : Int) : Option (Bool) := mount_isVols.l0 k 0 l0_2 (l0_2.length : Int) 0 l0_0 a0_1 l0_2 l0_3 a0_4 a0_5
theorem mount_isVols.mono_l : ∀ k, (∀ y0 y1 y2 y3 y4 y5 y6 y7 y8 y9, LeO (mount_isVols.l0 k y0 y1 y2 y3 y4 y5 y6 y7 y8 y9) (mount_isVols.l0 (k + 1) y0 y1 y2 y3 y4 y5 y6 y7 y8 y9))
 | 0 => fun _ _ _ _ _ _ _ _ _ _ r h => by simp [mount_isVols.l0] at h
 | k + 1 => by
  have ih0 := mount_isVols.mono_l k
  ·intro y0 y1 y2 y3 y4 y5 y6 y7 y8 y9
   unfold mount_isVols.l0
   repeat' first
   | (with_reducible exact ih0 _ _ _ _ _ _ _ _ _ _)
   | (with_reducible exact LeO.refl _)
   | (with_reducible exact LeO.none _)
   | (with_reducible refine LeO.ite ?_ ?_)
   | (with_reducible refine LeO.bind ?_ (fun _ => ?_))
   | exact ih0 _ _ _ _ _ _ _ _ _ _
   | exact LeO.none _
   | refine LeO.ite ?_ ?_
   | refine LeO.bind ?_ (fun _ => ?_)
theorem mount_isVols.mono : ∀ a0 a1 a2 a3 a4 a5 k, LeO (mount_isVols.f k a0 a1 a2 a3 a4 a5) (mount_isVols.f (k + 1) a0 a1 a2 a3 a4 a5) := by
 intro a0 a1 a2 a3 a4 a5 k
 have ih0 := mount_isVols.mono_l k
 unfold mount_isVols.f
 repeat' first
   | (with_reducible exact ih0 _ _ _ _ _ _ _ _ _ _)
   | (with_reducible exact LeO.refl _)
   | (with_reducible exact LeO.none _)
   | (with_reducible refine LeO.ite ?_ ?_)
   | (with_reducible refine LeO.bind ?_ (fun _ => ?_))
   | exact ih0 _ _ _ _ _ _ _ _ _ _
   | exact LeO.none _
   | refine LeO.ite ?_ ?_
   | refine LeO.bind ?_ (fun _ => ?_)
theorem mount_isVols.calls (k : Nat) (A0_0 : Option Addr) (c0_0 : Nat) (l0_0 : List (S65)) (a0_1 : Int) (A0_2 : Option Addr) (c0_2 : Nat) (l0_2 : List (S122)) (A0_3 : Option Addr) (c0_3 : Nat) (l0_3 : List (Nat × Nat)) (a0_4 : Int) (a0_5 : Int) (r : Bool) (w : World) (hr0_0 : Kd.C k65 w A0_0 l0_0.length l0_0) (hc0_0 : l0_0.length ≤ c0_0) (hr0_2 : Kd.C k122 w A0_2 l0_2.length l0_2) (hc0_2 : l0_2.length ≤ c0_2) (hr0_3 : Kd.C kc w A0_3 l0_3.length l0_3) (hc0_3 : l0_3.length ≤ c0_3) (h : mount_isVols.f k l0_0 a0_1 l0_2 l0_3 a0_4 a0_5 = some r) :
  Calls Tryz.prog 28 #[.agg #[.slice A0_0 l0_0.length c0_0, .int .i64 a0_1, .slice A0_2 l0_2.length c0_2, .slice A0_3 l0_3.length c0_3, .int .i64 a0_4, .int .i64 a0_5]] w fun e w' => e = .returned (.bool r) ∧ Below w.heap.size w w' := by
 have hu34 := Tryz.underlying34
 have hu122 := Tryz.underlying122
 have fC := Zk hr0_0
 have fD := Zk hc0_0
 clear hr0_0 hc0_0
 have aJ := Zk hr0_2
 have fE := Zk hc0_2
 clear hr0_2 hc0_2
 have fF := Zk hr0_3
 have fG := Zk hc0_3
 clear hr0_3 hc0_3
 have HB := Zk (Below.refl w.heap.size w)
 have H : (mount_isVols.l0 k 0 l0_2 (l0_2.length : Int) 0 l0_0 a0_1 l0_2 l0_3 a0_4 a0_5) = some r := h
 clear h
 have H' := Zk H
 clear H
 go_enter Tryz.func28, Tryz.ntmps28
 go_wp2_with (first | (refine gd_ 1 ?_; refine bx_ 1 #[.slice A0_0 l0_0.length c0_0, .int .i64 a0_1, .slice A0_2 l0_2.length c0_2, .slice A0_3 l0_3.length c0_3, .int .i64 a0_4, .int .i64 a0_5] 34 ?_; intro aP hg w2 hbox hb; have aA := Zk (hbox); have fH := gw_ HB hg; replace HB := al_ HB hb; clear hb hbox hg; obtain ⟨eO, eP, eQ, eR, eS, eT, eU, eV, eW, eX, eY, eZ⟩ := cf6_ aA))
 go_loopg [3, 9] k (fun kq v3 v9 w' => ∃ (aL : Int) (aB : Int), v3 = .int .i64 aL ∧ v9 = .int .i64 aB ∧ Aside0 (mount_isVols.l0 kq aL l0_2 (l0_2.length : Int) aB l0_0 a0_1 l0_2 l0_3 a0_4 a0_5 = some r) ∧ Aside0 (kq ≤ k) ∧ Aside0 (w'.heap[aP]? = some (.cells #[(.slice A0_0 l0_0.length c0_0), .int .i64 a0_1, (.slice A0_2 l0_2.length c0_2), (.slice A0_3 l0_3.length c0_3), .int .i64 a0_4, .int .i64 a0_5] 34 (0, 0))) ∧ Aside0 (Below w.heap.size w w'))
 case atStart => exact ⟨(0), (0), q_, q_, H', ⟨Nat.le_refl _⟩, ⟨bk_ aA⟩, ⟨bl_ HB⟩⟩
 case round =>
  clear H'
  obtain ⟨aL, aB, rfl, rfl, HA, HK1, aA, HB⟩ := hrel
  cases gk with
  | zero => exact absurd HA.out (by simp [mount_isVols.l0])
  | succ k1 =>
   have H := HA.out
   clear HA
   simp only [mount_isVols.l0] at H
   by_cases c4 : aB < (l0_2.length : Int)
   case neg =>
    rw [if_neg c4] at H
    have fA : decide (aB < (l0_2.length : Int)) = false := decide_eq_false c4
    clear c4
    by_cases c20 : (l0_2.length : Int) ≤ 20
    case neg =>
     rw [if_neg c20] at H
     have aQ := decide_eq_false c20
     have aR : decide (l0_2.length ≤ 20) = false := decide_eq_false (by omega)
     clear c20
     obtain rfl := Option.some.inj H
     obtain ⟨aW, aX, aY, aZ, bA, bB, bC, bD, bE, bF, bG, bH⟩ := cf6_ aA
     go_wp2
     go_ret
     exact ⟨e_, bl_ HB⟩
    rw [if_pos c20] at H
    have aQ := decide_eq_true c20
    have aR : decide (l0_2.length ≤ 20) = true := decide_eq_true (by omega)
    clear c20
    by_cases c21 : a0_4 ≥ 1
    case neg =>
     rw [if_neg c21] at H
     have aS : decide (1 ≤ a0_4) = false := decide_eq_false c21
     clear c21
     obtain rfl := Option.some.inj H
     obtain ⟨bI, bJ, bK, bL, bM, bN, bO, bP, bQ, bR, bS, bT⟩ := cf6_ aA
     go_wp2
     go_ret
     exact ⟨e_, bl_ HB⟩
    rw [if_pos c21] at H
    have aS : decide (1 ≤ a0_4) = true := decide_eq_true c21
    clear c21
    by_cases c22 : a0_4 ≤ 2147483647
    case neg =>
     rw [if_neg c22] at H
     have aT := decide_eq_false c22
     clear c22
     obtain rfl := Option.some.inj H
     obtain ⟨bU, bV, bW, bX, bY, bZ, cA, cB, cC, cD, cE, cF⟩ := cf6_ aA
     go_wp2
     go_ret
     exact ⟨e_, bl_ HB⟩
    rw [if_pos c22] at H
    have aT := decide_eq_true c22
    clear c22
    by_cases c23 : a0_5 ≥ 0
    case pos =>
     rw [if_pos c23] at H
     have aU : decide (0 ≤ a0_5) = true := decide_eq_true c23
     clear c23
     obtain rfl := Option.some.inj H
     obtain ⟨cG, cH, cI, cJ, cK, cL, cM, cN, cO, cP, cQ, cR⟩ := cf6_ aA
     go_wp2
     go_ret
     exact ⟨e_, bl_ HB⟩
    rw [if_neg c23] at H
    have aU : decide (0 ≤ a0_5) = false := decide_eq_false c23
    clear c23
    obtain rfl := Option.some.inj H
    obtain ⟨cS, cT, cU, cV, cW, cX, cY, cZ, dA, dB, dC, dD⟩ := cf6_ aA
    go_wp2
    go_ret
    exact ⟨e_, bl_ HB⟩
   rw [if_pos c4] at H
   have fA := decide_eq_true c4
   clear c4
   by_cases c5 : 0 ≤ aB
   case neg => exact no_ c5 H
   rw [if_pos c5] at H
   have fM := decide_eq_true c5
   clear c5
   by_cases c6 : aB < (l0_2.length : Int)
   case neg => exact no_ c6 H
   rw [if_pos c6] at H
   have fN := decide_eq_true c6
   clear c6
   by_cases c7 : ((rd_T122 l0_2 aB).f0) ≤ aL
   case pos =>
    rw [if_pos c7] at H
    have fB := decide_eq_true c7
    clear c7
    obtain rfl := Option.some.inj H
    have aG : 0 ≤ (aB : Int) := of_decide_eq_true as_
    have aH : aB < (l0_2.length : Int) := of_decide_eq_true as_
    obtain ⟨aM, aK, aC, aD⟩ := at_T122 aJ.out aB aG aH
    cases aK
    replace aC := hx_ HB aC
    replace aD := hx_ HB aD
    replace aG := eq_true aG
    replace aH := eq_true aH
    go_wp2_with (first | (refine gd_ 5 ?_; refine bx_ 5 #[.int .i64 0, .int .i64 0] 122 ?_; intro aN hg w8 hbox hb; have aI := Zk (hbox); have aO := gw_ HB hg; replace HB := al_ HB hb; have aE := n1_ aA hg; have aF := n2_ aA hg; replace aA := ab_ aA hb; clear hb hbox hg; obtain ⟨fO, fP⟩ := nn_ aF aE; obtain ⟨dE, dF, dG, dH⟩ := cf2_ aI))
    go_ret
    exact ⟨e_, bl_ HB⟩
   rw [if_neg c7] at H
   have fB := decide_eq_false c7
   clear c7
   by_cases c11 : ((rd_T122 l0_2 aB).f0) ≥ a0_4
   case pos =>
    rw [if_pos c11] at H
    have aV : decide (a0_4 ≤ ((rd_T122 l0_2 aB).f0)) = true := decide_eq_true c11
    clear c11
    obtain rfl := Option.some.inj H
    have aG : 0 ≤ (aB : Int) := of_decide_eq_true as_
    have aH : aB < (l0_2.length : Int) := of_decide_eq_true as_
    obtain ⟨aM, aK, aC, aD⟩ := at_T122 aJ.out aB aG aH
    cases aK
    replace aC := hx_ HB aC
    replace aD := hx_ HB aD
    replace aG := eq_true aG
    replace aH := eq_true aH
    go_wp2_with (first | (refine gd_ 5 ?_; refine bx_ 5 #[.int .i64 0, .int .i64 0] 122 ?_; intro aN hg w12 hbox hb; have aI := Zk (hbox); have aO := gw_ HB hg; replace HB := al_ HB hb; have aE := n1_ aA hg; have aF := n2_ aA hg; replace aA := ab_ aA hb; clear hb hbox hg; obtain ⟨fI, fJ⟩ := nn_ aF aE; obtain ⟨dI, dJ, dK, dL⟩ := cf2_ aI; obtain ⟨dM, dN, dO, dP, dQ, dR, dS, dT, dU, dV, dW, dX⟩ := cf6_ aA))
    go_ret
    exact ⟨e_, bl_ HB⟩
   rw [if_neg c11] at H
   have aV : decide (a0_4 ≤ ((rd_T122 l0_2 aB).f0)) = false := decide_eq_false c11
   clear c11
   have H' := Zk H
   clear H
   have aG : 0 ≤ (aB : Int) := of_decide_eq_true as_
   have aH : aB < (l0_2.length : Int) := of_decide_eq_true as_
   obtain ⟨aM, aK, aC, aD⟩ := at_T122 aJ.out aB aG aH
   cases aK
   replace aC := hx_ HB aC
   replace aD := hx_ HB aD
   replace aG := eq_true aG
   replace aH := eq_true aH
   go_wp2_with (first | (refine gd_ 5 ?_; refine bx_ 5 #[.int .i64 0, .int .i64 0] 122 ?_; intro aN hg w16 hbox hb; have aI := Zk (hbox); have aO := gw_ HB hg; replace HB := al_ HB hb; have aE := n1_ aA hg; have aF := n2_ aA hg; replace aA := ab_ aA hb; clear hb hbox hg; obtain ⟨fK, fL⟩ := nn_ aF aE; obtain ⟨dY, dZ, eA, eB⟩ := cf2_ aI; obtain ⟨eC, eD, eE, eF, eG, eH, eI, eJ, eK, eL, eM, eN⟩ := cf6_ aA))
   go_roundg k1
   case measure => have := HK1.out; omega
   case rel => exact ⟨((rd_T122 l0_2 aB).f0), (wrap64 (aB + 1)), q_, q_, H', ⟨by have := HK1.out; omega⟩, ⟨bk_ aA⟩, ⟨bl_ HB⟩⟩
end
section
attribute [local go_sem] max2_int min2_int max_two min_two max_three min_three max_four min_four
def audit_Given.l0 : Nat → Int → Int → List (Nat × Nat) → Int → Int → Option (Int)
 | 0, _, _, _, _, _ => none
 | k + 1, x1, x5, x8, x9, x10 => if x10 < x9 then (if 0 ≤ x10 then (if x10 < (x8.length : Int) then ((todo_Place.f (rdOf ((0, 0) : Nat × Nat) x8 x10)).bind fun aA => (if aA = x1 then ((todo_Done.f (rdOf ((0, 0) : Nat × Nat) x8 x10)).bind fun aB => (audit_Given.l0 k x1 (mx x5 (wrap64 (aB - 1))) x8 x9 (wrap64 (x10 + 1)))) else (audit_Given.l0 k x1 x5 x8 x9 (wrap64 (x10 + 1))))) else (none)) else (none)) else (some x5)
def audit_Given.f (k : Nat) (l0 : List (Nat × Nat)) (a1 : Int) : Option (Int) := audit_Given.l0 k a1 0 l0 (l0.length : Int) 0
theorem audit_Given.calls (k : Nat) (A0 : Option Addr) (c0 : Nat) (l0 : List (Nat × Nat)) (a1 : Int) (r : Int) (w : World) (hr0 : Kd.C kc w A0 l0.length l0) (hc0 : l0.length ≤ c0) (h : audit_Given.f k l0 a1 = some r) :
  Calls Tryz.prog 36 #[.slice A0 l0.length c0, .int .i64 a1] w fun e w' => e = .returned (.int .i64 r) ∧ Below w.heap.size w w' := by
 have HR0 := Zk hr0
 have HC0 := Zk hc0
 clear hr0 hc0
 have HB := Zk (Below.refl w.heap.size w)
 have H : (audit_Given.l0 k a1 0 l0 (l0.length : Int) 0) = some r := h
 clear h
 have H' := Zk H
 clear H
 go_enter Tryz.func36, Tryz.ntmps36
 go_wp2
 go_loopg [5, 10] k (fun kq v5 v10 w' => ∃ (aC : Int) (aA : Int), v5 = .int .i64 aC ∧ v10 = .int .i64 aA ∧ Aside0 (audit_Given.l0 kq a1 aC l0 (l0.length : Int) aA = some r) ∧ Aside0 (kq ≤ k) ∧ Aside0 (Below w.heap.size w w'))
 case atStart => exact ⟨(0), (0), q_, q_, H', ⟨Nat.le_refl _⟩, ⟨bl_ HB⟩⟩
 case round =>
  clear H'
  obtain ⟨aC, aA, rfl, rfl, HA, HK1, HB⟩ := hrel
  cases gk with
  | zero => exact absurd HA.out (by simp [audit_Given.l0])
  | succ k1 =>
   have H := HA.out
   clear HA
   simp only [audit_Given.l0] at H
   by_cases c3 : aA < (l0.length : Int)
   case neg =>
    rw [if_neg c3] at H
    have aJ : decide (aA < (l0.length : Int)) = false := decide_eq_false c3
    clear c3
    obtain rfl := Option.some.inj H
    go_wp2
    go_ret
    exact ⟨e_, bl_ HB⟩
   rw [if_pos c3] at H
   have aJ := decide_eq_true c3
   clear c3
   by_cases c4 : 0 ≤ aA
   case neg => exact no_ c4 H
   rw [if_pos c4] at H
   have aM := decide_eq_true c4
   clear c4
   by_cases c5 : aA < (l0.length : Int)
   case neg => exact no_ c5 H
   rw [if_pos c5] at H
   have aN := decide_eq_true c5
   clear c5
   replace H := Option.bind_eq_some_iff.mp H
   obtain ⟨aG, A60, H⟩ := H
   (try dsimp only at H)
   have A6 := Zk A60
   clear A60
   by_cases c7 : aG = a1
   case neg =>
    rw [if_neg c7] at H
    have aK := beq_eq_false_iff_ne.mpr c7
    have aL := bne_iff_ne.mpr c7
    have H' := Zk H
    clear H
    have aD : 0 ≤ (aA : Int) := of_decide_eq_true as_
    have aE : aA < (l0.length : Int) := of_decide_eq_true as_
    obtain ⟨aI, aH, aB⟩ := at_K HR0.out aA aD aE
    cases aH
    replace aB := hx_ HB aB
    replace aD := eq_true aD
    replace aE := eq_true aE
    go_wp2_with (first | (refine gc_ 34 ?_; refine gl_ 34 (some 15) #[.complex .f64 (rdOf ((0, 0) : Nat × Nat) l0 aA).1 (rdOf ((0, 0) : Nat × Nat) l0 aA).2] Tryz.func34 ?_; (with_reducible refine (todo_Place.calls (rdOf ((0, 0) : Nat × Nat) l0 aA) aG _ A6.out).mono ?_); rintro e w' ⟨rfl, ⟨nd, rfl⟩⟩; refine ⟨_, rfl, ?_⟩))
    go_roundg k1
    case measure => have := HK1.out; omega
    case rel => exact ⟨(aC), (wrap64 (aA + 1)), q_, q_, H', ⟨by have := HK1.out; omega⟩, ⟨bl_ HB⟩⟩
   rw [if_pos c7] at H
   have aK := beq_iff_eq.mpr c7
   have aL := bne_eq_false_iff_eq.mpr c7
   clear c7
   replace H := Option.bind_eq_some_iff.mp H
   obtain ⟨aF, A80, H⟩ := H
   (try dsimp only at H)
   have A8 := Zk A80
   clear A80
   obtain ⟨ji9, hji9⟩ : ∃ j_ : Int, (mx aC (wrap64 (aF - 1))) = j_ := ⟨_, rfl⟩
   first | rw [hji9] at H | simp only [hji9] at H
   (try rw [hji9] at A6)
   (try rw [hji9] at A8)
   have hji9_ : (if aC < (wrap64 (aF - 1)) then (wrap64 (aF - 1)) else aC) = ji9 := hji9
   have H' := Zk H
   clear H
   have aD : 0 ≤ (aA : Int) := of_decide_eq_true as_
   have aE : aA < (l0.length : Int) := of_decide_eq_true as_
   obtain ⟨aI, aH, aB⟩ := at_K HR0.out aA aD aE
   cases aH
   replace aB := hx_ HB aB
   replace aD := eq_true aD
   replace aE := eq_true aE
   go_wp2_with (first | (refine gc_ 34 ?_; refine gl_ 34 (some 15) #[.complex .f64 (rdOf ((0, 0) : Nat × Nat) l0 aA).1 (rdOf ((0, 0) : Nat × Nat) l0 aA).2] Tryz.func34 ?_; (with_reducible refine (todo_Place.calls (rdOf ((0, 0) : Nat × Nat) l0 aA) aG _ A6.out).mono ?_); rintro e w' ⟨rfl, ⟨nd, rfl⟩⟩; refine ⟨_, rfl, ?_⟩) | (refine gc_ 35 ?_; refine gl_ 35 (some 20) #[.complex .f64 (rdOf ((0, 0) : Nat × Nat) l0 aA).1 (rdOf ((0, 0) : Nat × Nat) l0 aA).2] Tryz.func35 ?_; (with_reducible refine (todo_Done.calls (rdOf ((0, 0) : Nat × Nat) l0 aA) aF _ A8.out).mono ?_); rintro e w' ⟨rfl, ⟨nd, rfl⟩⟩; refine ⟨_, rfl, ?_⟩))
   go_roundg k1
   case measure => have := HK1.out; omega
   case rel => exact ⟨(ji9), (wrap64 (aA + 1)), (by first | rfl | (simp; done) | (simp only [← hji9] <;> (first | rfl | simp)) | (simp [*]; done)), q_, H', ⟨by have := HK1.out; omega⟩, ⟨bl_ HB⟩⟩
end
section
attribute [local go_sem] max2_int min2_int max_two min_two max_three min_three max_four min_four
mutual
def audit_told.j0 : Nat → List (Nat × Nat) → Int → Bool → Int → Bool → Bool → List (S84) → Option (List Int)
 | 0, _, _, _, _, _, _, _ => none
 | k + 1, x1, x2, x23, aD, aE, aF, aA => if x23 = true then (some ([] : List Int)) else ((audit_Given.f k x1 x2).bind fun aB => (if 0 ≤ (mn aB (aA.length : Int)) then (if (mn aB (aA.length : Int)) ≤ (aA.length : Int) then ((some (aA.drop ((mn aB (aA.length : Int)) : Int).toNat : List (S84))).bind fun aC => (audit_told.l0 k ([] : List Int) aC (aC.length : Int) 0)) else (none)) else (none)))
def audit_told.l0 : Nat → List Int → List (S84) → Int → Int → Option (List Int)
 | 0, _, _, _, _ => none
 | k + 1, x8, x35, x36, x37 => if x37 < x36 then (if 0 ≤ x37 then (if x37 < (x35.length : Int) then (if x8.length < 17592186044416 then (audit_told.l0 k (x8 ++ [(rd_T84 x35 x37).f1]) x35 x36 (wrap64 (x37 + 1))) else (none)) else (none)) else (none)) else (some x8)
end
def audit_told.f (k : Nat) (l0_0 : List (S65)) (a0_1 : Int) (l1 : List (Nat × Nat)) (a2 : Int) : Option (List Int) := if 0 ≤ a2 then (if a2 < (l0_0.length : Int) then (if ((rd_T65 l0_0 a2).f0) = 0 then (audit_told.j0 k l1 a2 true ((rd_T65 l0_0 a2).f0) ((rd_T65 l0_0 a2).f1) ((rd_T65 l0_0 a2).f2.f0) ((rd_T65 l0_0 a2).f2.f1)) else (audit_told.j0 k l1 a2 ((rd_T65 l0_0 a2).f2.f0) ((rd_T65 l0_0 a2).f0) ((rd_T65 l0_0 a2).f1) ((rd_T65 l0_0 a2).f2.f0) ((rd_T65 l0_0 a2).f2.f1))) else (none)) else (none)
def audit_told.T5 : Bool × List (List Nat × List Nat) := (true, [([], []), ([0], [0]), ([1], [1]), ([], []), ([], []), ([3, 4], [3, 4]), ([], []), ([6], [6]), ([7], [7]), ([8], [8]), ([5, 9], [5, 9]), ([2, 10], [2, 10]), ([11], [11]), ([], [])])
def audit_told.B5 : List Nat := [0, 1, 3, 0, 0, 24, 0, 64, 192, 448, 1016, 2047, 4095, 0]
theorem audit_told.tab5 : rtab .any (opsOf Tryz.f93 5) = audit_told.T5 := by kernel_rfl
theorem audit_told.bits5 : waitsOk audit_told.T5.2 audit_told.B5 = true := by kernel_rfl
theorem audit_told.calls (k : Nat) (A0_0 : Option Addr) (c0_0 : Nat) (l0_0 : List (S65)) (a0_1 : Int) (A1 : Option Addr) (c1 : Nat) (l1 : List (Nat × Nat)) (a2 : Int) (r : List Int) (w : World) (hr0_0 : Kd.C k65 w A0_0 l0_0.length l0_0) (hc0_0 : l0_0.length ≤ c0_0) (hr1 : Kd.C kc w A1 l1.length l1) (hc1 : l1.length ≤ c1) (h : audit_told.f k l0_0 a0_1 l1 a2 = some r) :
  Calls Tryz.prog 93 #[.agg #[.slice A0_0 l0_0.length c0_0, .int .i64 a0_1], .slice A1 l1.length c1, .int .i64 a2] w fun e w' => ∃ v0_ : Value, e = .returned (v0_) ∧ Kd.R (Kd.int .i64) 3 w' w.heap.size (fun _ => True) v0_ r ∧ Below w.heap.size w w' := by
 have hu30 := Tryz.underlying30
 have hu65 := Tryz.underlying65
 have hu84 := Tryz.underlying84
 have bU := Zk hr0_0
 have dS := Zk hc0_0
 clear hr0_0 hc0_0
 have HR1 := Zk hr1
 have HC1 := Zk hc1
 clear hr1 hc1
 have HB := Zk (Below.refl w.heap.size w)
 have H : (if 0 ≤ a2 then (if a2 < (l0_0.length : Int) then (if ((rd_T65 l0_0 a2).f0) = 0 then (audit_told.j0 k l1 a2 true ((rd_T65 l0_0 a2).f0) ((rd_T65 l0_0 a2).f1) ((rd_T65 l0_0 a2).f2.f0) ((rd_T65 l0_0 a2).f2.f1)) else (audit_told.j0 k l1 a2 ((rd_T65 l0_0 a2).f2.f0) ((rd_T65 l0_0 a2).f0) ((rd_T65 l0_0 a2).f1) ((rd_T65 l0_0 a2).f2.f0) ((rd_T65 l0_0 a2).f2.f1))) else (none)) else (none)) = some r := h
 clear h
 by_cases c4 : 0 ≤ a2
 case neg => exact no_ c4 H
 rw [if_pos c4] at H
 have bV := decide_eq_true c4
 clear c4
 by_cases c5 : a2 < (l0_0.length : Int)
 case neg => exact no_ c5 H
 rw [if_pos c5] at H
 have bW := decide_eq_true c5
 clear c5
 have HC6 := Zk H
 clear H
 go_enter Tryz.func93, Tryz.ntmps93
 go_upto_region 2 with (first | (refine gd_ 3 ?_; refine bx_ 3 #[.slice A0_0 l0_0.length c0_0, .int .i64 a0_1] 30 ?_; intro bG hg w7 hbox hb; have aC := Zk (hbox); have dT := gw_ HB hg; replace HB := al_ HB hb; clear hb hbox hg; obtain ⟨dK, dL, dM, dN⟩ := cf2_ aC; have bQ : 0 ≤ (a2 : Int) := of_decide_eq_true as_; have bH : a2 < (l0_0.length : Int) := of_decide_eq_true as_; obtain ⟨bI, aG, aE, dO, aK, aM, aN, aQ, hl139_3, hi139_3⟩ := at_T65 bU.out a2 bQ bH; cases dO; replace aK := hx_ HB aK; replace aM := hx_ HB aM; replace aN := hx_ HB aN; replace aQ := hx_ HB aQ; have bL := Zk hi139_3; have bM := Zk hl139_3; clear hi139_3 hl139_3; replace bQ := eq_true bQ; replace bH := eq_true bH) | (refine gd_ 7 ?_; refine bx_ 7 #[.int .i64 0, .bool false, .bool false, .slice none 0 0] 65 ?_; intro aR hg w9 hbox hb; have aA := Zk (hbox); have dU := gw_ HB hg; replace HB := al_ HB hb; have aI := n1_ aC hg; have aJ := n2_ aC hg; replace aC := ab_ aC hb; clear hb hbox hg; obtain ⟨dV, dW⟩ := nn_ aJ aI; obtain ⟨cI, cJ, cK, cL, cM, cN, cO, cP⟩ := cf4_ aA))
 (try simp only [Act.put, List.setIfInBounds_toArray, List.set_cons_zero, List.set_cons_succ])
 go_cut [23] (fun v23 wc => ∃ (kq : Nat) (aW : Bool), v23 = .bool aW ∧ Aside0 (audit_told.j0 kq l1 a2 aW ((rd_T65 l0_0 a2).f0) ((rd_T65 l0_0 a2).f1) ((rd_T65 l0_0 a2).f2.f0) ((rd_T65 l0_0 a2).f2.f1) = some r) ∧ Aside0 (kq ≤ k) ∧ Aside0 (wc.heap[bG]? = some (.cells #[(.slice (some bI) l0_0.length c0_0), .int .i64 a0_1] 30 (0, 0))) ∧ Aside0 (wc.heap[aR]? = some (.cells #[.int .i64 ((rd_T65 l0_0 a2).f0), .bool ((rd_T65 l0_0 a2).f1), .bool ((rd_T65 l0_0 a2).f2.f0), (.slice aG ((rd_T65 l0_0 a2).f2.f1).length aE)] 65 (0, 0))) ∧ Aside0 (Below w.heap.size w wc))
 case first =>
  have H := HC6.out
  clear HC6
  by_cases c12 : ((rd_T65 l0_0 a2).f0) = 0
  case pos =>
   rw [if_pos c12] at H
   have aT := beq_iff_eq.mpr c12
   have bJ := bne_eq_false_iff_eq.mpr c12
   clear c12
   (first | rw [aT] | (simp only [i64_w, i32_w]; rw [aT]) | skip)
   have H' := Zk H
   clear H
   obtain ⟨dX, dY⟩ := nn_ aJ aI
   obtain ⟨cQ, cR, cS, cT, cU, cV, cW, cX⟩ := cf4_ aA
   go_wp2
   go_meet
   case rel => exact ⟨_, (true), q_, H', ⟨by first | omega | exact Nat.le_refl _⟩, ⟨bk_ aC⟩, ⟨bp_ aA⟩, ⟨bl_ HB⟩⟩
  rw [if_neg c12] at H
  have aT := beq_eq_false_iff_ne.mpr c12
  have bJ := bne_iff_ne.mpr c12
  (first | rw [aT] | (simp only [i64_w, i32_w]; rw [aT]) | skip)
  have H' := Zk H
  clear H
  obtain ⟨dZ, eA⟩ := nn_ aJ aI
  obtain ⟨cY, cZ, dA, dB, dC, dD, dE, dF⟩ := cf4_ aA
  go_wp2
  go_meet
  case rel => exact ⟨_, ((rd_T65 l0_0 a2).f2.f0), q_, H', ⟨by first | omega | exact Nat.le_refl _⟩, ⟨bk_ aC⟩, ⟨bp_ aA⟩, ⟨bl_ HB⟩⟩
 case rest =>
  clear HC6
  try clear q1
  try clear hx1
  try clear bV
  try clear bW
  try clear aT
  try clear bJ
  try clear q13
  try clear dP
  try clear aK
  try clear aM
  try clear aN
  try clear aQ
  try clear bH
  obtain ⟨kq, aW, rfl, HA, HJ5, aC, aA, HB⟩ := hcut
  cases kq with
  | zero => exact absurd HA.out (by simp [audit_told.j0])
  | succ kj5 =>
   have H := HA.out
   clear HA
   simp only [audit_told.j0] at H
   by_cases c17 : aW = true
   case pos =>
    subst c17
    rw [if_pos rfl] at H
    obtain rfl := Option.some.inj H
    go_wp2
    go_ret
    exact ⟨_, e_, by first | exact Kd.R_nil _ _ _ _ _ | exact Kd.N_nil _ _ _ _ _ | exact Kd.V_nil _ _ _ _ _ | exact Kd.Q_nil _ _ _ _ _ | exact Kd.S_nil _ _ _ _ _, bl_ HB⟩
   replace c17 := Bool.eq_false_iff.mpr c17
   subst c17
   rw [if_neg (show ¬ (false = true) by decide)] at H
   replace H := Option.bind_eq_some_iff.mp H
   obtain ⟨bN, bX, H⟩ := H
   (try dsimp only at H)
   have A18 := Zk bX
   clear bX
   obtain ⟨ji19, hji19⟩ : ∃ j_ : Int, (mn bN (((rd_T65 l0_0 a2).f2.f1).length : Int)) = j_ := ⟨_, rfl⟩
   first | rw [hji19] at H | simp only [hji19] at H
   (try rw [hji19] at A18)
   have hji19_ : (if (((rd_T65 l0_0 a2).f2.f1).length : Int) < bN then (((rd_T65 l0_0 a2).f2.f1).length : Int) else bN) = ji19 := hji19
   by_cases c20 : 0 ≤ (ji19)
   case neg => exact no_ c20 H
   rw [if_pos c20] at H
   have bY := eq_true c20
   have bZ := decide_eq_true c20
   clear c20
   by_cases c21 : (ji19) ≤ (((rd_T65 l0_0 a2).f2.f1).length : Int)
   case neg => exact no_ c21 H
   rw [if_pos c21] at H
   have cA := eq_true c21
   have cB := decide_eq_true c21
   clear c21
   obtain ⟨aH, aX⟩ : ∃ y_ : List (S84), y_ = (((rd_T65 l0_0 a2).f2.f1).drop ((ji19) : Int).toNat) := ⟨_, rfl⟩
   first | replace H := bnd_ aX H | rw [← aX] at H
   have bP := Zk aX
   clear aX
   have H' := Zk H
   clear H
   try go_wp2
   replace aC := Zk (blk_drew aC.out)
   replace aA := Zk (blk_drew aA.out)
   replace HB := Zk (below_drew1 HB.out)
   refine start_ (n := 14) (S := fun w' => w'.cell? ⟨aR, 0, none⟩ = some (.int .i64 ((rd_T65 l0_0 a2).f0)) ∧ w'.cell? ⟨aR, 1, none⟩ = some (.bool ((rd_T65 l0_0 a2).f1)) ∧ w'.cell? ⟨aR, 2, none⟩ = some (.bool ((rd_T65 l0_0 a2).f2.f0)) ∧ w'.cell? ⟨aR, 3, none⟩ = some (.slice aG ((rd_T65 l0_0 a2).f2.f1).length aE)) (ds := []) #[false, false, false, false, false, false, false, false, false, false, false, false, false, false] (by kernel_rfl) rfl rfl ⟨(blk_cell aA.out 0).trans rfl, (blk_cell aA.out 1).trans rfl, (blk_cell aA.out 2).trans rfl, (blk_cell aA.out 3).trans rfl⟩ (fun hHeld => ?_); refine with_tabW audit_told.tab5 audit_told.bits5 (fun HT_ HW_ => ?_)
   generalize wc.drew = w22 at aC aA HB hHeld ⊢
   refine pu_ 0 24 ?_
   refine pu_ 1 25 ?_
   refine pu_ 3 27 ?_
   refine pu_ 4 28 ?_
   refine pu_ 6 30 ?_
   refine pu_ 7 31 ?_
   refine pu_ 13 37 ?_
   refine tk_ 2 26 ?_
   refine tk_ 8 32 ?_
   refine pu_ 9 33 ?_
   refine one_ (i := 5) (N := some 29) #[true, true, true, true, true, true, true, true, true, true, false, false, false, true] rfl rfl (one_of HT_.out (by kernel_rfl)) (by decide) (fun K hK => ?_)
   refine goes_ Tryz.func36 (by kernel_rfl) rfl #[.slice A1 l1.length c1, .int .i64 a2] (by rfl) rfl rfl (by (try simp only [List.map_toArray, List.map_cons, List.map_nil]); first | done | rfl | (simp only [List.length_drop, List.length_take]; rfl)) ?_
   with_reducible refine (audit_Given.calls kj5 _ _ l1 a2 bN _ ?side1 ?side2 A18.out).mono ?_
   (case side1 => repeat (first | exact (Kd.C_below HR1.out HB.out) | (with_reducible refine Kd.C_alloc ?_ _) | (with_reducible refine Kd.C_drewN ?_ _) | (with_reducible refine Kd.C_drew ?_)))
   (case side2 => exact HC1.out)
   rintro e w23 ⟨rfl, hb⟩
   refine ⟨_, rfl, ?_⟩
   replace aC := ab_ aC hb
   replace aA := ab_ aA hb
   replace HB := al_ HB hb
   (try clear hb)
   (try clear hb2)
   (try clear hk)
   (try clear hi)
   have q24 : ((ji19) : Int) ≤ ((((rd_T65 l0_0 a2).f2.f1).length : Int) : Int) := of_decide_eq_true as_
   obtain ⟨i024, hi024, _, hsz24, _⟩ := info_parts info84
   have hroom24 : ((rd_T65 l0_0 a2).f2.f1).length ≤ aE := bM.out
   have hC24 : Kd.C k84 _ aG ((rd_T65 l0_0 a2).f2.f1).length ((rd_T65 l0_0 a2).f2.f1) := bL.out
   have cC : (0 : Int) ≤ ((ji19) : Int) := of_decide_eq_true as_
   have hcut24 := cut_from (P := Tryz.prog) 61 84 .i64 Tryz.underlying61 hi024 2 hsz24 aG ((rd_T65 l0_0 a2).f2.f1).length aE (ji19) cC q24
   have bK := Kd.C_drop (m := ((ji19) : Int).toNat) (c := aE) hC24 (by omega) hroom24
   obtain ⟨A24, hA24⟩ : ∃ A1, A1 = (if aE = ((ji19) : Int).toNat then aG else (aG : Option Addr).map (·.add (((ji19) : Int).toNat * 2))) := ⟨_, rfl⟩
   obtain ⟨c24, bR⟩ : ∃ c1, c1 = aE - ((ji19) : Int).toNat := ⟨_, rfl⟩
   have bO : aH.length = ((rd_T65 l0_0 a2).f2.f1).length - ((ji19) : Int).toNat := (by rw [bP.out, List.length_drop] <;> omega)
   rw [show (((rd_T65 l0_0 a2).f2.f1)).drop ((ji19) : Int).toNat = aH from bP.out.symm] at bK
   replace bK : Kd.C k84 _ A24 aH.length aH := (by rw [hA24]; exact bK)
   rw [← bO, ← hA24, ← bR] at hcut24
   have cD := Zk bK
   have eB := Zk (show aH.length ≤ c24 from by rw [bO, bR]; exact Nat.sub_le_sub_right hroom24 _)
   clear bK hC24 hroom24 hi024 hsz24 bR
   have KY24 := Zk bO
   have KA24 := Zk hA24
   clear bO hA24
   replace q24 := eq_true q24
   refine hK.out _ _ ⟨(blk_cell aA.out 0).trans rfl, (blk_cell aA.out 1).trans rfl, (blk_cell aA.out 2).trans rfl, (blk_cell aA.out 3).trans rfl⟩ (fun hHeld => ?_)
   clear hK K
   refine norm_ (a' := ?_) ?_ ?_
   rotate_left
   ·show Act.put _ (some 29) _ = _
    simp only [Act.put, List.setIfInBounds_toArray, List.set_cons_zero, List.set_cons_succ, i64_w, i32_w]
    rfl
   refine pu_ 10 34 ?_
   refine pu_ 11 35 ?_
   refine pu_ 12 36 ?_
   refine done_ (done_of HT_.out (by kernel_rfl)) ?_
   try go_wp2
   go_loopg [8, 37] kj5 (fun kq v8 v37 w' => ∃ (bB : List Int) (aD : Int), v37 = .int .i64 aD ∧ Aside0 (audit_told.l0 kq bB aH (aH.length : Int) aD = some r) ∧ Aside0 (kq ≤ kj5) ∧ Aside0 (Kd.R (Kd.int .i64) 3 w' w.heap.size (fun _ => True) v8 bB) ∧ Aside0 (w'.heap[bG]? = some (.cells #[(.slice (some bI) l0_0.length c0_0), .int .i64 a0_1] 30 (0, 0))) ∧ Aside0 (w'.heap[aR]? = some (.cells #[.int .i64 ((rd_T65 l0_0 a2).f0), .bool ((rd_T65 l0_0 a2).f1), .bool ((rd_T65 l0_0 a2).f2.f0), (.slice aG ((rd_T65 l0_0 a2).f2.f1).length aE)] 65 (0, 0))) ∧ Aside0 (Below w.heap.size w w'))
   case atStart => exact ⟨(([] : List Int)), (0), q_, H', ⟨Nat.le_refl _⟩, ⟨by first | exact Kd.R_nil _ _ _ _ _ | exact Kd.N_nil _ _ _ _ _ | exact Kd.V_nil _ _ _ _ _ | exact Kd.Q_nil _ _ _ _ _ | exact Kd.S_nil _ _ _ _ _⟩, ⟨bk_ aC⟩, ⟨bk_ aA⟩, ⟨bl_ HB⟩⟩
   case round =>
    clear H'
    try clear q1
    try clear hx1
    try clear q2
    try clear bV
    try clear bW
    try clear aT
    try clear bJ
    try clear q13
    try clear dP
    try clear bY
    try clear bZ
    try clear cA
    try clear cB
    try clear q24
    try clear aK
    try clear aM
    try clear aN
    try clear aQ
    try clear cC
    try clear q1
    try clear q13
    try clear bH
    try clear q24
    obtain ⟨bB, aD, rfl, HA, HK2, aU, aC, aA, HB⟩ := hrel
    cases gk with
    | zero => exact absurd HA.out (by simp [audit_told.l0])
    | succ k2 =>
     have H := HA.out
     clear HA
     simp only [audit_told.l0] at H
     by_cases c25 : aD < (aH.length : Int)
     case neg =>
      rw [if_neg c25] at H
      have cE := decide_eq_false c25
      clear c25
      obtain rfl := Option.some.inj H
      go_wp2
      go_ret
      exact ⟨_, by first | rfl | (simp [errW_none, errW_some] <;> rfl) | (simp only [← hji19]; first | rfl | (simp [errW_none, errW_some] <;> rfl)) | (simp [*, errW_none, errW_some] <;> rfl), r_ aU, bl_ HB⟩
     rw [if_pos c25] at H
     have cE := decide_eq_true c25
     clear c25
     by_cases c26 : 0 ≤ aD
     case neg => exact no_ c26 H
     rw [if_pos c26] at H
     have eC := decide_eq_true c26
     clear c26
     by_cases c27 : aD < (aH.length : Int)
     case neg => exact no_ c27 H
     rw [if_pos c27] at H
     have eD := decide_eq_true c27
     clear c27
     by_cases c28 : bB.length < 17592186044416
     case neg => exact no_ c28 H
     rw [if_pos c28] at H
     have LMc28 := Zk c28
     clear c28
     obtain ⟨dQ, aY⟩ : ∃ y_ : List Int, y_ = (bB ++ [(rd_T84 aH aD).f1]) := ⟨_, rfl⟩
     first | replace H := bnd_ aY H | rw [← aY] at H
     have cF := Zk aY
     clear aY
     have H' := Zk H
     clear H
     have bS : 0 ≤ (aD : Int) := of_decide_eq_true as_
     have bT : aD < (aH.length : Int) := of_decide_eq_true as_
     obtain ⟨eE, dR, aZ, bA⟩ := at_T84 cD.out aD bS bT
     cases dR
     replace aZ := hx_ HB aZ
     replace bA := hx_ HB bA
     replace bS := eq_true bS
     replace bT := eq_true bT
     go_wp2_with (first | (refine gd_ 10 ?_; refine bx_ 10 #[.int .i64 0, .int .i64 0] 84 ?_; intro cG hg w29 hbox hb; replace aU := ar_ aU hb; have aV := Zk (hbox); have eF := gw_ HB hg; replace HB := al_ HB hb; have bC := n1_ aC hg; have bD := n2_ aC hg; replace aC := ab_ aC hb; have bE := n1_ aA hg; have bF := n2_ aA hg; replace aA := ab_ aA hb; clear hb hbox hg; obtain ⟨eG, eH⟩ := nn_ bD bC; obtain ⟨eI, eJ⟩ := nn_ bF bE; obtain ⟨dG, dH, dI, dJ⟩ := cf2_ aV) | ((with_reducible refine gate_builtin (b := .append) (xs := #[.tmp 41, .tmp 44]) rfl ?_); at_builtin; refine Kd.R_append (Kd.int .i64) (w0 := w) w.heap.size rfl (.tmp 41) (.tmp 44) 87 3 (.int .i64 0) 8 rfl Tryz.underlying87 info3 rfl (by decide) (by omega) u8 bB ((rd_T84 aH aD).f1) [.int .i64 ((rd_T84 aH aD).f1)] (fun _ => True) (fun _ => False) rfl (by first | (go_simp; done) | (go_simp; rfl)) ?aP (fun _ hk => hk.elim) ?aF ?aO ?aB ?aS ?aL ?_; (case aP => exact rfl); (case aB => exact (bl_ HB)); (case aF => exact (fun _ _ => trivial)); (case aO => exact (rg_ (Kd.R_types aU.out aV.out (by decide)) (fun _ hk => trivial))); (case aS => exact (below_size (bl_ HB))); (case aL => have := LMc28.out; omega); intro eK w33 ho hb hg hat; rw [← cF.out] at ho; replace aC := Zk (blk_grown (g := bG) (o := .cells #[.slice (some bI) l0_0.length c0_0, .int .i64 a0_1] 30 (0, 0)) (bk_ aC) hg (Kd.R_ne aU.out aC.out (by decide))); replace aA := Zk (blk_grown (g := aR) (o := .cells #[.int .i64 ((rd_T65 l0_0 a2).f0), .bool ((rd_T65 l0_0 a2).f1), .bool ((rd_T65 l0_0 a2).f2.f0), .slice aG ((rd_T65 l0_0 a2).f2.f1).length aE] 65 (0, 0)) (bk_ aA) hg (Kd.R_ne aU.out aA.out (by decide))); replace aV := Zk (blk_grown (g := cG) (o := .cells #[.int .i64 ((rd_T84 aH aD).f0), .int .i64 ((rd_T84 aH aD).f1)] 84 (0, 0)) (bp_ aV) hg (Kd.R_ne aU.out aV.out (by decide))); replace HB := Zk (hb); have cH := Zk (ho); clear aU; clear ho hb hg hat))
     go_roundg k2
     case measure => have := HJ5.out; have := HK2.out; omega
     case rel => exact ⟨(dQ), (wrap64 (aD + 1)), q_, H', ⟨by have := HJ5.out; have := HK2.out; omega⟩, ⟨r_ cH⟩, ⟨bk_ aC⟩, ⟨bk_ aA⟩, ⟨bl_ HB⟩⟩
end
abbrev RI (w : World) (base : Nat) (v : Value) (xs : List Int) : Prop := Kd.R (Kd.int .i64) 3 w base (fun _ => True) v xs
theorem RI_empty (W : World) (base : Nat) (hb : base ≤ W.heap.size) : RI (W.alloc (.cells #[] 3)) base (.slice (some ⟨W.heap.size, 0, none⟩) 0 0) [] := by
 refine ⟨fun k hk => trivial, [], ?_, Reps.none _ _⟩
 have h2 := World.ownsRow_lit (base := base) (e := 3) (size := 1) W (#[] : Array Value) 0 hb (by simp [maxLen]) (by simp)
 have h3 : (W.alloc (.cells #[] 3)).ownsRow base 3 1 (.slice (some ⟨W.heap.size, 0, none⟩) 0 0) 0 [] := by simpa using h2
 exact h3
theorem cloneI_walk (A : Option Addr) (c : Nat) (l : List Int) (w : World) (hr : Kd.C (Kd.int .i64) w A l.length l) (hl : l.length < 1000000) :
  Calls Tryz.prog 111 #[.slice A l.length c] w fun e w' => ∃ v : Value, e = .returned v ∧ RI w' w.heap.size v l ∧ Below w.heap.size w w' := by
 have HR := Zk hr
 have HL := Zk hl
 clear hr
 rcases A with _ | ad
 ·have h0 : l = [] := by
   have := HR.out.2.2
   cases l with
   | nil => rfl
   | cons x l => exact absurd (HR.out.2.2 (by simp)) (by simp)
  subst h0
  have hq0 := fun w => run_eql_slice_nil (P := Tryz.prog) w 87 3 none 0 c Tryz.underlying87
  go_enter Tryz.func111, Tryz.ntmps111
  go_wp2
  go_ret
  exact ⟨_, rfl, Kd.R_nil _ _ _ _ _, Below.refl _ _⟩
 ·have hq := fun w => run_eql_slice_nil (P := Tryz.prog) w 87 3 (some ad) l.length c Tryz.underlying87
  go_enter Tryz.func111, Tryz.ntmps111
  go_wp2_with (at_builtin; refine Kd.R_append_rows (Kd.int .i64) (w0 := w) w.heap.size rfl (.tmp 5) (.tmp 6) 87 3 (.int .i64 0) 8 rfl Tryz.underlying87 info3 rfl (by decide) (by omega) (.slice (some ⟨w.heap.size, 0, none⟩) 0 0) [] l (some ad) l.length c (fun _ => True) (fun _ => False) rfl rfl (RI_empty w _ (Nat.le_refl _)) (Kd.C_alloc HR.out _) (fun x cs h => h) (fun k hk => hk.elim) (fun k hk => trivial) ((Below.refl _ w).alloc (Nat.le_refl _) _) (by rw [World.size_alloc]; omega) (by have := HL.out; simp only [List.length_nil]; omega) ?_; intro v1 w1 hN hB hg hv; have HN := Zk hN; have HB := Zk hB; clear hN hB hg hv)
  go_ret
  exact ⟨_, rfl, HN.out, HB.out⟩
theorem lt0_walk (x : Int) (W : World) : Calls Tryz.prog 112 #[.int .i64 x] W fun e w' => e = .returned (.bool (decide (x < 0))) ∧ w' = W := by
 go_enter Tryz.func112, Tryz.ntmps112
 go_wp2
 go_ret
 exact ⟨rfl, rfl⟩
theorem idxN_first {p : Int → Bool} : ∀ (l : List Int) (i a : Nat), idxN p l i = (a : Int) → ∃ q, a = i + q ∧ q < l.length ∧ p (rd l (q : Nat)) = true ∧ ∀ k < q, p (rd l (k : Nat)) = false
 | [], i, a, h => by simp only [idxN] at h; omega
 | x :: l, i, a, h => by
  unfold idxN at h
  by_cases hp : p x = true
  case pos =>
   rw [if_pos hp] at h
   exact ⟨0, by omega, by simp, by simpa [rd] using hp, fun k hk => by omega⟩
  rw [if_neg hp] at h
  obtain ⟨q, e, hl, h1, h2⟩ := idxN_first l (i + 1) a h
  refine ⟨q + 1, by omega, by simp; omega, by simpa [rd] using h1, fun k hk => ?_⟩
  cases k with
  | zero => simpa [rd] using hp
  | succ k => have := h2 k (by omega); simpa [rd] using this
theorem idxN_none {p : Int → Bool} : ∀ (l : List Int) (i : Nat), idxN p l i = -1 → ∀ x ∈ l, p x = false
 | [], i, h => by simp
 | x :: l, i, h => by
  unfold idxN at h
  by_cases hp : p x = true
  case pos => rw [if_pos hp] at h; omega
  rw [if_neg hp] at h
  intro y hy
  rcases List.mem_cons.1 hy with rfl | hy
  ·simpa using hp
  ·exact idxN_none l (i + 1) h y hy
def keepB (x : Int) : Bool := !decide (x < 0)
def keepL (l : List Int) : List Int := l.filter keepB
theorem rd_get {l : List Int} {j : Nat} (h : j < l.length) : l[j]? = some (rd l (j : Nat)) := by
 simp only [rd, Int.toNat_natCast, List.getD_eq_getElem?_getD, List.getElem?_eq_getElem h, Option.getD_some]
theorem keep_take {l : List Int} {j : Nat} (h : j < l.length) : keepL (l.take (j + 1)) = keepL (l.take j) ++ (if keepB (rd l (j : Nat)) = true then [rd l (j : Nat)] else []) := by
 unfold keepL
 rw [List.take_add_one, rd_get h, List.filter_append]
 congr 1
 show List.filter keepB [rd l (j : Nat)] = _
 rw [List.filter_cons, List.filter_nil]
theorem RI_clear {W : World} {base g cap i : Nat} {L : List Int} (h : RI W base (.slice (some ⟨g, 0, none⟩) L.length cap) L) (hi : i ≤ L.length) (vs : List Value) (hvs : i + vs.length = L.length) :
  RI (W.setCells g i vs) base (.slice (some ⟨g, 0, none⟩) i cap) (L.take i) := by
 have ho := Kd.own_of_R h
 refine Kd.R_of_own ?_ (fun _ _ => trivial)
 rcases ho.2 with ⟨hv, _⟩ | ⟨g', cap', cur, hv, hb, hh, hnc, hcm, hcs, htake⟩
 ·cases hv
 injection hv with ha _ hc
 injection ha with ha
 injection ha with hg
 subst hg; subst hc
 obtain ⟨cur', h3, h4, h5⟩ := setCells_row vs i W cur hh (by omega)
 have hl : (L.take i).length = i := by rw [List.length_take]; omega
 refine ⟨by rw [encs_length, hl, Nat.mul_one], .inr ⟨g, cap, cur', by rw [hl], hb, h3, by omega, hcm, by rw [h4]; exact hcs, ?_⟩⟩
 rw [h5, hl, Nat.mul_one, List.append_assoc, List.take_append_of_le_length (by rw [List.length_take, Array.length_toList]; omega), List.take_take, Nat.min_self]
 have : cur.toList.take i = (cur.toList.take L.length).take i := by rw [List.take_take, Nat.min_eq_left hi]
 rw [this]
 rw [Nat.mul_one] at htake
 rw [htake]
 unfold encs
 rw [List.map_take]
theorem below_cells {n g : Nat} {w0 W : World} (h : Below n w0 W) (hg : n ≤ g) (i : Nat) (vs : List Value) : Below n w0 (W.setCells g i vs) := by
 obtain ⟨h1, h2, h3, h4⟩ := setCells_same g vs i W
 exact ⟨h1.trans h.os, h2.trans h.tape, h3.trans h.output, by rw [h4]; exact h.size, fun k hk => (setCells_far vs i k (by omega)).trans (h.block k hk)⟩
theorem delete_walk (w0 : World) (base : Nat) (A : Option Addr) (cap : Nat) (l : List Int) (w : World) (hr : RI w base (.slice A l.length cap) l) (hl : l.length < 1000000) (hb : Below base w0 w) (hbw : base ≤ w.heap.size) :
  Calls Tryz.prog 110 #[.slice A l.length cap, .func (.func 112) #[] #[]] w fun e w' => e = .returned (.slice A (keepL l).length cap) ∧ RI w' base (.slice A (keepL l).length cap) (keepL l) ∧ Below base w0 w' := by
 obtain ⟨-, hcap, hC⟩ := Kd.R_reads' hr
 have HI := Zk (indexI_112 #[] (fun x => decide (x < 0)) l A cap w hl hC (fun W x hB hx => (lt0_walk x W).mono fun e w' h => ⟨h.1, by rw [h.2]; exact Below.refl _ _⟩))
 have HR := Zk hr
 have HL := Zk hl
 have HB := Zk hb
 clear hr hb hC
 rcases idxN_bound (fun x => decide (x < 0)) l 0 with h | h
 ·have hk : keepL l = l := List.filter_eq_self.2 fun x hx => by have := idxN_none l 0 h x hx; unfold keepB; rw [this]; rfl
  rw [hk]
  have HII := HI.out
  rw [h] at HII
  clear h hk
  go_enter Tryz.func110, Tryz.ntmps110
  go_wp2_with fail
  refine HII.mono ?_
  rintro e w' ⟨rfl, hb'⟩
  have HB' := Zk hb'
  clear hb'
  go_wp2
  go_ret
  exact ⟨rfl, Kd.R_below HR.out HB'.out, HB.out.trans (HB'.out.mono hbw)⟩
 ·obtain ⟨q, hq⟩ : ∃ q : Nat, idxN (fun x => decide (x < 0)) l 0 = (q : Int) := ⟨(idxN (fun x => decide (x < 0)) l 0).toNat, by omega⟩
  obtain ⟨q', e', hql, hqp, hqn⟩ := idxN_first l 0 q hq
  obtain rfl : q = q' := by omega
  obtain ⟨g, cap', hv, hgb, -, -⟩ := Kd.R_form HR.out (by omega)
  injection hv with hA hn hc'
  subst hA
  subst hc'
  clear hn
  have HII := HI.out
  rw [hq] at HII
  have hk0 : keepL (l.take q) = l.take q := List.filter_eq_self.2 fun x hx => by
   obtain ⟨i, hi, rfl⟩ := List.mem_iff_getElem.1 hx
   rw [List.length_take] at hi
   have := hqn i (by omega)
   rw [List.getElem_take]
   have e : l[i]? = some (rd l (i : Nat)) := rd_get (by omega)
   rw [List.getElem?_eq_getElem (by omega)] at e
   rw [Option.some.inj e]
   unfold keepB; rw [this]; rfl
  have hk1 : keepL (l.take (q + 1)) = l.take q := by
   rw [keep_take hql, hk0, if_neg (by unfold keepB; rw [hqp]; simp), List.append_nil]
  have HK1 := Zk hk1
  clear h hq hqp hqn hk0 hk1 e'
  have hqz : ((q : Int) == -1) = false := beq_eq_false_iff_ne.2 (by omega)
  go_enter Tryz.func110, Tryz.ntmps110
  go_wp2_with fail
  refine HII.mono ?_
  rintro e w' ⟨rfl, hb'⟩
  have HB1 := Zk (HB.out.trans (hb'.mono hbw))
  have HR1 := Zk (Kd.R_below HR.out hb')
  clear hb' HI HII
  go_wp2
  go_loopg [5, 6] l.length (fun kx s5 s6 wr => ∃ (i j : Nat) (L : List Int), s5 = .int .i64 i ∧ s6 = .int .i64 j ∧ i < j ∧ j ≤ l.length ∧ l.length - j ≤ kx ∧ L.length = l.length ∧ Aside0 (L.take i = keepL (l.take j)) ∧ Aside0 (∀ t, j ≤ t → L[t]? = l[t]?) ∧ Aside0 (RI wr base (.slice (some ⟨g, 0, none⟩) l.length cap) L) ∧ Aside0 (Below base w0 wr))
  case atStart => exact ⟨q, q + 1, l, rfl, rfl, by omega, by omega, by omega, rfl, ⟨HK1.out.symm⟩, ⟨fun t ht => rfl⟩, HR1, HB1⟩
  case round =>
   obtain ⟨i, j, L, rfl, rfl, hij, hj, hg, hLl, K1, K2, KR, KB⟩ := hrel
   have HLL := Zk hLl
   by_cases hlt : j < l.length
   case neg =>
    obtain rfl : j = l.length := by omega
    have hLR : RI wr base (.slice (some ⟨g, 0, none⟩) L.length cap) L := by rw [HLL.out]; exact KR.out
    have hcl : (Builtin.clear_ #[87] 0 #[.slice (some ⟨g, i, none⟩) (l.length - i) (cap - i)]).run Tryz.prog wr = .ok (.tuple #[]) (wr.setCells g i (List.replicate (l.length - i) (.int .i64 0))) :=
     Lib.run_clear_slice wr 87 3 0 (.int .i64 0) Tryz.underlying87 (fun w => by kernel_rfl) rfl rfl g i (l.length - i) (cap - i) (by omega) (fun t ht => by
      have := (Kd.R_cell (0 : Int) hLR ((i + t : Nat) : Int) (by omega) (by rw [HLL.out]; omega)).1
      rw [Int.toNat_natCast] at this
      rw [this]; rfl) (fun t ht => by
      have := (Kd.R_cell (0 : Int) hLR ((i + t : Nat) : Int) (by omega) (by rw [HLL.out]; omega)).2
      rwa [Int.toNat_natCast] at this)
    have HF := Zk (RI_clear (i := i) hLR (by rw [HLL.out]; omega) (List.replicate (l.length - i) (.int .i64 0)) (by rw [List.length_replicate, HLL.out]; omega))
    have HFB := Zk (below_cells KB.out hgb i (List.replicate (l.length - i) (.int .i64 0)))
    have hkl : (keepL l).length = i := by
     have := K1.out
     rw [List.take_length] at this
     rw [← this, List.length_take, HLL.out]; omega
    have HKL := Zk hkl
    have HKK : Aside0 (L.take i = keepL l) := ⟨by have := K1.out; rwa [List.take_length] at this⟩
    clear hLR hkl hLl
    go_wp2
    go_ret
    refine ⟨by rw [HKL.out]; rfl, ?_, HFB.out⟩
    rw [HKL.out, ← HKK.out]
    exact HF.out
   have hx := Kd.R_cell (0 : Int) (show Kd.R (Kd.int .i64) 3 wr base (fun _ => True) (.slice (some ⟨g, 0, none⟩) L.length cap) L by rw [HLL.out]; exact KR.out) (j : Int) (by omega) (by rw [HLL.out]; omega)
   have ex : rdOf 0 L (j : Int) = rd l (j : Nat) := by
    have := K2.out j (Nat.le_refl _)
    unfold rdOf rd
    rw [List.getD_eq_getElem?_getD, List.getD_eq_getElem?_getD, Int.toNat_natCast, this]
   rw [ex, Int.toNat_natCast] at hx
   obtain ⟨x0, f0⟩ := hx
   have hi0 := Kd.R_cell (0 : Int) (show Kd.R (Kd.int .i64) 3 wr base (fun _ => True) (.slice (some ⟨g, 0, none⟩) L.length cap) L by rw [HLL.out]; exact KR.out) (i : Int) (by omega) (by rw [HLL.out]; omega)
   rw [Int.toNat_natCast] at hi0
   obtain ⟨y0, f1⟩ := hi0
   clear ex hLl
   by_cases hn : rd l (j : Nat) < 0
   case pos =>
    have hnb : decide (rd l (j : Nat) < 0) = true := decide_eq_true hn
    have HN := Zk hn
    clear hn
    go_wp2_with fail
    refine (lt0_walk _ _).mono ?_
    rintro e w2 ⟨rfl, hw2⟩
    obtain rfl := hw2.symm
    go_wp2
    go_roundg (l.length - (j + 1))
    case measure => omega
    case rel =>
     refine ⟨i, j + 1, L, rfl, rfl, by omega, by omega, Nat.le_refl _, HLL.out, ⟨?_⟩, ⟨fun t ht => K2.out t (by omega)⟩, KR, KB⟩
     rw [keep_take hlt, if_neg (by unfold keepB; rw [decide_eq_true HN.out]; simp), List.append_nil]
     exact K1.out
   have hnb : decide (rd l (j : Nat) < 0) = false := decide_eq_false hn
   have HN := Zk hn
   clear hn
   have hcapi : i < l.length := by omega
   go_wp2_with fail
   refine (lt0_walk _ _).mono ?_
   rintro e w2 ⟨rfl, hw2⟩
   obtain rfl := hw2.symm
   have hput := Kd.R_put (show Kd.R (Kd.int .i64) 3 wr base (fun _ => True) (.slice (some ⟨g, 0, none⟩) L.length cap) L by rw [HLL.out]; exact KR.out) (i : Int) (rd l (j : Nat))
   rw [Int.toNat_natCast] at hput
   have HP := Zk hput.1
   clear hput
   go_wp2
   go_roundg (l.length - (j + 1))
   case measure => omega
   case rel =>
    refine ⟨i + 1, j + 1, L.set i (rd l (j : Nat)), rfl, rfl, by omega, by omega, Nat.le_refl _, by rw [List.length_set]; exact HLL.out, ⟨?_⟩, ⟨fun t ht => ?_⟩, ⟨by have := HP.out; rw [HLL.out] at this; exact this⟩, ⟨KB.out.setCell (p := ⟨g, i, none⟩) hgb _⟩⟩
    ·rw [keep_take hlt, if_pos (by unfold keepB; rw [decide_eq_false (by have := HN.out; omega)]; rfl), ← K1.out, List.take_add_one, List.getElem?_set_self (by rw [HLL.out]; omega), List.take_set_of_le (Nat.le_refl _)]
     rfl
    ·rw [List.getElem?_set_ne (by omega)]; exact K2.out t (by omega)
def placesL (l : List (Nat × Nat)) : List Int := l.map fun t => bk t.1
theorem rdC_get {l : List (Nat × Nat)} {j : Nat} (h : j < l.length) : l[j]? = some (rdC l (j : Nat)) := by
 simp only [rdC, Int.toNat_natCast, List.getD_eq_getElem?_getD, List.getElem?_eq_getElem h, Option.getD_some]
theorem okTs_at {l : List (Nat × Nat)} (h : okTs l = true) {j : Nat} (hj : j < l.length) : okT (rdC l (j : Nat)).1 = true ∧ okT (rdC l (j : Nat)).2 = true := by
 have hm : rdC l (j : Nat) ∈ l := List.mem_of_getElem? (rdC_get hj)
 have := List.all_eq_true.1 h _ hm
 rwa [Bool.and_eq_true] at this
def audit_above.f (l1 : List Int) (l2 : List (Nat × Nat)) : Option (List Int) := if l1.length < 1000000 ∧ l2.length < 1000000 ∧ okTs l2 = true then some (keepL l1 ++ placesL l2) else none
theorem audit_above.calls (A0 : Option Addr) (c0 : Nat) (l0 : List Int) (A1 : Option Addr) (c1 : Nat) (l1 : List (Nat × Nat)) (r : List Int) (w : World) (hr0 : Kd.C (Kd.int .i64) w A0 l0.length l0) (hc0 : l0.length ≤ c0) (hr1 : Kd.C kc w A1 l1.length l1) (hc1 : l1.length ≤ c1) (h : audit_above.f l0 l1 = some r) :
  Calls Tryz.prog 92 #[.slice A0 l0.length c0, .slice A1 l1.length c1] w fun e w' => ∃ v0_ : Value, e = .returned (v0_) ∧ Kd.R (Kd.int .i64) 3 w' w.heap.size (fun _ => True) v0_ r ∧ Below w.heap.size w w' := by
 unfold audit_above.f at h
 have hk : l0.length < 1000000 ∧ l1.length < 1000000 ∧ okTs l1 = true := by
  by_cases hk : l0.length < 1000000 ∧ l1.length < 1000000 ∧ okTs l1 = true
  case pos => exact hk
  rw [if_neg hk] at h; cases h
 rw [if_pos hk] at h
 obtain rfl := Option.some.inj h
 obtain ⟨h0, h1, h2⟩ := hk
 have HOK := Zk h2
 have HL := Zk h0
 have HR1 := Zk hr1
 have HC := Zk (cloneI_walk A0 c0 l0 w hr0 h0)
 have hkl : (keepL l0).length ≤ l0.length := List.length_filter_le _ _
 have HKL := Zk hkl
 clear h h2 h0 hr0 hr1 hc0 hc1 hkl
 go_enter Tryz.func92, Tryz.ntmps92
 go_wp2_with fail
 refine HC.out.mono ?_
 rintro e w1 ⟨v, rfl, hv, hb1⟩
 obtain ⟨A, c, rfl, hcl, -⟩ := Kd.R_reads hv
 have HD := Zk (delete_walk w w.heap.size A c l0 w1 hv HL.out hb1 hb1.size)
 clear hv hb1 hcl
 go_wp2_with fail
 refine HD.out.mono ?_
 rintro e w2 ⟨rfl, hv2, hb2⟩
 have HV := Zk hv2
 have HB := Zk hb2
 clear hv2 hb2 HC HD
 go_wp2
 go_loopg [5, 13] l1.length (fun kx s5 s13 wr => ∃ j : Nat, s13 = .int .i64 j ∧ j ≤ l1.length ∧ l1.length - j ≤ kx ∧ Aside0 (RI wr w.heap.size s5 (keepL l0 ++ (placesL l1).take j)) ∧ Aside0 (Below w.heap.size w wr))
 case atStart => exact ⟨0, rfl, Nat.zero_le _, Nat.le_refl _, ⟨by rw [List.take_zero, List.append_nil]; exact HV.out⟩, HB⟩
 case round =>
  clear HV HB
  obtain ⟨j, rfl, hj, hg, HO, HB⟩ := hrel
  by_cases hlt : j < l1.length
  case neg =>
   obtain rfl : j = l1.length := by omega
   go_wp2
   go_ret
   refine ⟨_, rfl, ?_, HB.out⟩
   have := HO.out
   rwa [show (placesL l1).take l1.length = placesL l1 by rw [← show (placesL l1).length = l1.length from List.length_map _, List.take_length]] at this
  obtain ⟨ad, rfl, x0⟩ := at_C HR1.out (j : Int) (by omega) (by omega)
  rw [Int.toNat_natCast] at x0
  have y0 := hx_ HB x0
  have hz : (0 : Int) ≤ j := by omega
  have hP := todo_Place.calls (rdC l1 (j : Nat)) (bk (rdC l1 (j : Nat)).1) wr (by unfold todo_Place.f; rw [if_pos (okTs_at HOK.out hlt).1])
  have HP := Zk hP
  have et : (placesL l1).take j ++ [bk (rdC l1 (j : Nat)).1] = (placesL l1).take (j + 1) := by
   unfold placesL
   rw [List.take_add_one, List.getElem?_map, rdC_get hlt]
   rfl
  have ET := Zk et
  clear x0 hP et
  go_wp2_with fail
  refine HP.out.mono ?_
  rintro e w2 ⟨rfl, ⟨q, rfl⟩⟩
  have HO2 := Zk (Kd.R_drewN HO.out q)
  have HB2 := Zk (pw_below_drewN HB.out q)
  clear HO HB HP
  have hjl : (keepL l0 ++ (placesL l1).take j).length < 2000000 := by rw [List.length_append, List.length_take]; have := HKL.out; have := HL.out; omega
  go_wp2_with (at_builtin; refine Kd.R_append (Kd.int .i64) (w0 := w) w.heap.size rfl (.tmp 17) (.tmp 20) 87 3 (.int .i64 0) 8 rfl Tryz.underlying87 info3 rfl (by decide) (by omega) u5 (keepL l0 ++ (placesL l1).take j) (bk (rdC l1 (j : Nat)).1) [.int .i64 (bk (rdC l1 (j : Nat)).1)] (fun _ => True) (fun _ => False) rfl (by first | (go_simp; done) | (go_simp; rfl)) rfl (fun _ hk => hk.elim) (fun _ _ => trivial) HO2.out HB2.out HB2.out.size (by omega) ?_; intro v3 w3 ho hb hg hat; have HO3 := Zk ho; have HB3 := Zk hb; clear ho hb hg hat)
  go_roundg (l1.length - (j + 1))
  case measure => omega
  case rel => exact ⟨j + 1, rfl, by omega, Nat.le_refl _, ⟨by have := HO3.out; rwa [List.append_assoc, ET.out] at this⟩, HB3⟩
section
attribute [local go_sem] max2_int min2_int max_two min_two max_three min_three max_four min_four
mutual
def audit_Refs.l0 : Nat → List (Nat × Nat) → List Int → List Int → Int → Int → List (S65) → Int → Option (List Int)
 | 0, _, _, _, _, _, _, _ => none
 | k + 1, x2, x7, x19, x20, x21, aA, aB => if x21 < x20 then (if 0 ≤ x21 then (if x21 < (x19.length : Int) then (if 0 ≤ (rd x19 x21) then (if (rd x19 x21) < (x7.length : Int) then (audit_Refs.l0 k x2 (x7.set ((rd x19 x21) : Int).toNat (wrap64 ((rd x7 (rd x19 x21)) + 1))) x19 x20 (wrap64 (x21 + 1)) aA aB) else (none)) else (none)) else (none)) else (none)) else (audit_Refs.l1 k x2 x7 (aA.length : Int) 0 aA aB)
def audit_Refs.l1 : Nat → List (Nat × Nat) → List Int → Int → Int → List (S65) → Int → Option (List Int)
 | 0, _, _, _, _, _, _ => none
 | k + 1, x2, x7, x34, x35, aA, aB => if x35 < x34 then ((audit_told.f k aA aB x2 x35).bind fun aC => (audit_Refs.l2 k x2 x7 x34 x35 aC (aC.length : Int) 0 aA aB)) else (some x7)
def audit_Refs.l2 : Nat → List (Nat × Nat) → List Int → Int → Int → List Int → Int → Int → List (S65) → Int → Option (List Int)
 | 0, _, _, _, _, _, _, _, _, _ => none
 | k + 1, x2, x7, x34, x35, x41, x42, x43, aA, aB => if x43 < x42 then (if 0 ≤ x43 then (if x43 < (x41.length : Int) then (if 0 ≤ (rd x41 x43) then (if (rd x41 x43) < (x7.length : Int) then (audit_Refs.l2 k x2 (x7.set ((rd x41 x43) : Int).toNat (wrap64 ((rd x7 (rd x41 x43)) + 1))) x34 x35 x41 x42 (wrap64 (x43 + 1)) aA aB) else (none)) else (none)) else (none)) else (none)) else (audit_Refs.l1 k x2 x7 x34 (wrap64 (x35 + 1)) aA aB)
end
def audit_Refs.f (k : Nat) (l0_0 : List (S65)) (a0_1 : Int) (l1 : List Int) (l2 : List (Nat × Nat)) : Option (List Int) := if 0 ≤ (l0_0.length : Int) then (if ((l0_0.length : Int) : Int).toNat ≤ 35184372088832 then ((audit_above.f l1 l2).bind fun aA => (audit_Refs.l0 k l2 (List.replicate ((l0_0.length : Int) : Int).toNat 0) aA (aA.length : Int) 0 l0_0 a0_1)) else (none)) else (none)
theorem audit_Refs.calls (k : Nat) (A0_0 : Option Addr) (c0_0 : Nat) (l0_0 : List (S65)) (a0_1 : Int) (A1 : Option Addr) (c1 : Nat) (l1 : List Int) (A2 : Option Addr) (c2 : Nat) (l2 : List (Nat × Nat)) (r : List Int) (w : World) (hr0_0 : Kd.C k65 w A0_0 l0_0.length l0_0) (hc0_0 : l0_0.length ≤ c0_0) (hr1 : Kd.C (Kd.int .i64) w A1 l1.length l1) (hc1 : l1.length ≤ c1) (hr2 : Kd.C kc w A2 l2.length l2) (hc2 : l2.length ≤ c2) (h : audit_Refs.f k l0_0 a0_1 l1 l2 = some r) :
  Calls Tryz.prog 74 #[.agg #[.slice A0_0 l0_0.length c0_0, .int .i64 a0_1], .slice A1 l1.length c1, .slice A2 l2.length c2] w fun e w' => ∃ v0_ : Value, e = .returned (v0_) ∧ Kd.R (Kd.int .i64) 3 w' w.heap.size (fun _ => True) v0_ r ∧ Below w.heap.size w w' := by
 have hu30 := Tryz.underlying30
 have bV := Zk hr0_0
 have bW := Zk hc0_0
 clear hr0_0 hc0_0
 have HR1 := Zk hr1
 have HC1 := Zk hc1
 clear hr1 hc1
 have HR2 := Zk hr2
 have HC2 := Zk hc2
 clear hr2 hc2
 have HB := Zk (Below.refl w.heap.size w)
 have H : (if 0 ≤ (l0_0.length : Int) then (if ((l0_0.length : Int) : Int).toNat ≤ 35184372088832 then ((audit_above.f l1 l2).bind fun aD => (audit_Refs.l0 k l2 (List.replicate ((l0_0.length : Int) : Int).toNat 0) aD (aD.length : Int) 0 l0_0 a0_1)) else (none)) else (none)) = some r := h
 clear h
 by_cases c4 : 0 ≤ (l0_0.length : Int)
 case neg => exact no_ c4 H
 rw [if_pos c4] at H
 have bH := eq_true c4
 have bI := decide_eq_true c4
 clear c4
 by_cases c5 : ((l0_0.length : Int) : Int).toNat ≤ 35184372088832
 case neg => exact no_ c5 H
 rw [if_pos c5] at H
 have bJ := eq_true c5
 have bK := decide_eq_true c5
 clear c5
 obtain ⟨cU, aL⟩ : ∃ y_ : List Int, y_ = (List.replicate ((l0_0.length : Int) : Int).toNat 0) := ⟨_, rfl⟩
 first | replace H := bnd_ aL H | rw [← aL] at H
 have aZ := Zk aL
 clear aL
 replace H := Option.bind_eq_some_iff.mp H
 obtain ⟨aD, A60, H⟩ := H
 (try dsimp only at H)
 have A6 := Zk A60
 clear A60
 have H' := Zk H
 clear H
 go_enter Tryz.func74, Tryz.ntmps74
 go_wp2_with (first | (refine gd_ 3 ?_; refine bx_ 3 #[.slice A0_0 l0_0.length c0_0, .int .i64 a0_1] 30 ?_; intro aK hg w7 hbox hb; have aC := Zk (hbox); have dK := gw_ HB hg; replace HB := al_ HB hb; clear hb hbox hg; obtain ⟨cV, cW, cX, cY⟩ := cf2_ aC) | (refine gd_ 16 ?_; refine Kd.R_make (Kd.int .i64) _ 3 rfl (N := 16) rfl 87 _ _ rfl (l0_0.length : Int) rfl rfl Tryz.underlying87 (.int .i64 0) 8 info3 rfl (by decide) (by omega) 0 (ok := fun _ => True) (okp := fun _ => True) rfl (fun _ hk => hk) trivial (of_decide_eq_true as_) (Nat.le_trans (Nat.mul_le_mul_right _ (of_decide_eq_true as_ : (l0_0.length : Int).toNat ≤ 35184372088832)) (by omega)) (Below.refl _ _) (Nat.le_refl _) ?_; intro aS w9 ho10 hb hg_ hnew_; clear hg_ hnew_; (first | rw [← aZ.out] at ho10 | (simp only [Int.reduceToNat] at ho10; rw [← aZ.out] at ho10)); have aM := Zk (Kd.R_lower ho10 (below_size (bl_ HB))); replace aC := ab_ aC hb; replace HB := al_ HB hb; clear hb ho10) | (refine gc_ 92 ?_; refine gl_ 92 (some 19) #[.slice A1 l1.length c1, .slice A2 l2.length c2] Tryz.func92 ?_; (with_reducible refine (audit_above.calls _ _ l1 _ _ l2 aD _ (cb_ HR1 HB) HC1.out (cb_ HR2 HB) HC2.out A6.out).mono ?_); rintro e w11 ⟨dR, rfl, ho0, hb⟩; refine ⟨_, rfl, ?_⟩; have bA := Zk (Kd.R_lower (Kd.R_new' ho0 (Kd.R_lt (r_ aM))) (below_size (bl_ HB))); replace aM := Zk (Kd.R_elder' (r_ aM) (Kd.R_base ho0) hb); replace aC := ab_ aC hb; replace HB := al_ HB hb; (try clear hb); (try clear ho0); obtain ⟨bX, bL, cZ⟩ := Kd.R_slice bA.out; subst cZ))
 go_loopg [21] k (fun kq v21 w' => ∃ (aG : List Int) (aA : Int), v21 = .int .i64 aA ∧ Aside0 (audit_Refs.l0 kq l2 aG aD (aD.length : Int) aA l0_0 a0_1 = some r) ∧ Aside0 (kq ≤ k) ∧ Aside0 (Kd.R (Kd.int .i64) 3 w' w.heap.size (fun k_ => some k_ ≠ ((.slice bX aD.length bL) : Value).ownBlock) aS aG) ∧ Aside0 (Kd.R (Kd.int .i64) 3 w' w.heap.size (fun k_ => some k_ ≠ (aS : Value).ownBlock) (.slice bX aD.length bL) aD) ∧ Aside0 (w'.heap[aK]? = some (.cells #[(.slice A0_0 l0_0.length c0_0), .int .i64 a0_1] 30 (0, 0))) ∧ Aside0 (Below w.heap.size w w'))
 case atStart => exact ⟨(cU), (0), q_, H', ⟨Nat.le_refl _⟩, ⟨by (with_reducible repeat (first | apply Kd.R_alloc | apply Kd.R_drewN | apply Kd.R_drew)); exact Kd.R_mono aM.out (fun _ hk => hk.2)⟩, ⟨by (with_reducible repeat (first | apply Kd.R_alloc | apply Kd.R_drewN | apply Kd.R_drew)); exact Kd.R_mono bA.out (fun _ hk => hk.2)⟩, ⟨bk_ aC⟩, ⟨bl_ HB⟩⟩
 case round =>
  clear H'
  try clear bH
  try clear bI
  try clear bJ
  try clear bK
  obtain ⟨aG, aA, rfl, HA, HK1, aE, aN, aC, HB⟩ := hrel
  cases gk with
  | zero => exact absurd HA.out (by simp [audit_Refs.l0])
  | succ k1 =>
   have H := HA.out
   clear HA
   simp only [audit_Refs.l0] at H
   by_cases c13 : aA < (aD.length : Int)
   case pos =>
    rw [if_pos c13] at H
    have aT := decide_eq_true c13
    clear c13
    by_cases c14 : 0 ≤ aA
    case neg => exact no_ c14 H
    rw [if_pos c14] at H
    have bB := decide_eq_true c14
    clear c14
    by_cases c15 : aA < (aD.length : Int)
    case neg => exact no_ c15 H
    rw [if_pos c15] at H
    have bC := decide_eq_true c15
    clear c15
    by_cases c16 : 0 ≤ (rd aD aA)
    case neg => exact no_ c16 H
    rw [if_pos c16] at H
    have bD := decide_eq_true c16
    clear c16
    by_cases c17 : (rd aD aA) < (aG.length : Int)
    case neg => exact no_ c17 H
    rw [if_pos c17] at H
    have bE := decide_eq_true c17
    clear c17
    obtain ⟨bY, aO⟩ : ∃ y_ : List Int, y_ = (aG.set ((rd aD aA) : Int).toNat (wrap64 ((rd aG (rd aD aA)) + 1))) := ⟨_, rfl⟩
    first | replace H := bnd_ aO H | rw [← aO] at H
    have bZ := Zk aO
    clear aO
    have H' := Zk H
    clear H
    have bM : 0 ≤ (aA : Int) := of_decide_eq_true as_
    have aU : aA < (aD.length : Int) := of_decide_eq_true as_
    obtain ⟨cA, dA, aP⟩ := Kd.at_int (Kd.R_reads' aN.out).2.2 aA bM aU
    cases dA
    replace bM := eq_true bM
    replace aU := eq_true aU
    obtain ⟨dS, bN, dB⟩ := Kd.R_slice aE.out
    subst dB
    have bO : 0 ≤ ((rd aD aA) : Int) := of_decide_eq_true as_
    have aV : (rd aD aA) < (aG.length : Int) := of_decide_eq_true as_
    obtain ⟨dL, dC, aJ⟩ := Kd.at_int (Kd.R_reads' aE.out).2.2 (rd aD aA) bO aV
    cases dC
    replace bO := eq_true bO
    replace aV := eq_true aV
    have p18 : 0 ≤ ((rd aD aA) : Int) := of_decide_eq_true as_
    have q18 : ((rd aD aA) : Int) < ((aG.length : Int) : Int) := of_decide_eq_true as_
    obtain ⟨go18, dT, cB, cC, gl18, cl18, HG18⟩ := Kd.R_form aE.out (by omega)
    (first | cases cB | (injection cB with ea_ en_ ec_; (first | subst ea_ | (injection ea_ with ea_; subst ea_)); subst ec_; clear en_))
    have GB18 := Zk cC
    have GG18 := Zk HG18
    clear cC gl18 HG18
    (first | simp only [add_plain] at aJ | skip)
    obtain ⟨aW, hf18_0⟩ := Kd.R_celln 0 aE.out ((rd aD aA) : Int) p18 q18
    replace p18 := eq_true p18
    replace q18 := eq_true q18
    have HP20 := Kd.R_putg aE.out ((rd aD aA) : Int) (wrap64 ((rd aG (rd aD aA)) + 1))
    go_wp2_with (first | ((with_reducible refine gate_store (t := 3) (p := 30) rfl ?_); refine store_event (t := 3) (p := 30) (v := ?vo_w21) (w1 := (wr.setCell ⟨go18, ((rd aD aA) : Int).toNat, none⟩ (.int .i64 (wrap64 ((rd aG (rd aD aA)) + 1))))) ?hg ?ho ?hn ?hr ?_; (case ho => rfl); (case hg => rfl); (case hn => rfl); (case hr => first | (go_simp; done) | (go_simp; rfl)); intro w21 hw; have hg : wr.grownBy w21 (some go18) := (by rw [hw]; exact HP20.2); have hp_ : Kd.R (Kd.int .i64) 3 w21 w.heap.size (fun k_ => some k_ ≠ (.slice (some cA) aD.length bL : Value).ownBlock) (.slice (some ⟨go18, 0, none⟩) aG.length bN) bY := (by rw [hw, bZ.out]; exact HP20.1); clear HP20; replace aN := Zk (Kd.R_after (v := (.slice (some ⟨go18, 0, none⟩) aG.length bN)) (v1 := (.slice (some ⟨go18, 0, none⟩) aG.length bN)) (ok := (fun _ => True)) (by (with_reducible repeat (first | apply Kd.R_alloc | apply Kd.R_drewN | apply Kd.R_drew)); exact Kd.R_mono aN.out (fun _ hk => ⟨trivial, hk⟩)) hg (.inl rfl)); replace aC := Zk (blk_grown (g := aK) (o := .cells #[.slice A0_0 l0_0.length c0_0, .int .i64 a0_1] 30 (0, 0)) (bk_ aC) hg (Kd.R_ne aE.out aC.out (by decide))); replace aE := Zk (hp_); replace HB := Zk ((by rw [hw]; exact below_set (HB.out) GB18.out : Below w.heap.size w w21)); clear hg hw hp_))
    go_roundg k1
    case measure => have := HK1.out; omega
    case rel => exact ⟨(bY), (wrap64 (aA + 1)), q_, H', ⟨by have := HK1.out; omega⟩, ⟨r_ aE⟩, ⟨by (with_reducible repeat (first | apply Kd.R_alloc | apply Kd.R_drewN | apply Kd.R_drew)); exact Kd.R_mono aN.out (fun _ hk => hk.2)⟩, ⟨bk_ aC⟩, ⟨bl_ HB⟩⟩
   rw [if_neg c13] at H
   have aT : decide (aA < (aD.length : Int)) = false := decide_eq_false c13
   clear c13
   have H' := Zk H
   clear H
   obtain ⟨cL, cM, cN, cO⟩ := cf2_ aC
   go_wp2
   go_loopg [35] k1 (fun kq v35 w' => ∃ (aX : List Int) (aH : Int), v35 = .int .i64 aH ∧ Aside0 (audit_Refs.l1 kq l2 aX (l0_0.length : Int) aH l0_0 a0_1 = some r) ∧ Aside0 (kq ≤ k1) ∧ Aside0 (Kd.R (Kd.int .i64) 3 w' w.heap.size (fun _ => True) aS aX) ∧ Aside0 (w'.heap[aK]? = some (.cells #[(.slice A0_0 l0_0.length c0_0), .int .i64 a0_1] 30 (0, 0))) ∧ Aside0 (Below w.heap.size w w'))
   case atStart => exact ⟨(aG), (0), q_, H', ⟨Nat.le_refl _⟩, ⟨by (with_reducible repeat (first | apply Kd.R_alloc | apply Kd.R_drewN | apply Kd.R_drew)); exact Kd.R_mono aE.out (fun _ hk => trivial)⟩, ⟨bk_ aC⟩, ⟨bl_ HB⟩⟩
   case round =>
    clear H'
    try clear q1
    try clear hx1
    try clear bH
    try clear bI
    try clear bJ
    try clear bK
    try clear aT
    try clear bB
    try clear bC
    try clear q15
    try clear dD
    try clear bD
    try clear bE
    try clear q18
    try clear dE
    try clear hf18
    try clear aP
    try clear aJ
    try clear aW
    try clear aU
    try clear aV
    try clear q18
    obtain ⟨aX, aH, rfl, HA, HK2, aE, aC, HB⟩ := hrel
    cases gk with
    | zero => exact absurd HA.out (by simp [audit_Refs.l1])
    | succ k2 =>
     have H := HA.out
     clear HA
     simp only [audit_Refs.l1] at H
     by_cases c23 : aH < (l0_0.length : Int)
     case neg =>
      rw [if_neg c23] at H
      have bF : decide (aH < (l0_0.length : Int)) = false := decide_eq_false c23
      clear c23
      obtain rfl := Option.some.inj H
      go_wp2
      go_ret
      exact ⟨_, e_, r_ aE, bl_ HB⟩
     rw [if_pos c23] at H
     have bF := decide_eq_true c23
     clear c23
     replace H := Option.bind_eq_some_iff.mp H
     obtain ⟨aF, cD, H⟩ := H
     (try dsimp only at H)
     have A24 := Zk cD
     clear cD
     have H' := Zk H
     clear H
     obtain ⟨cP, cQ, cR, cS⟩ := cf2_ aC
     go_wp2_with (first | (refine gc_ 93 ?_; refine gl_ 93 (some 41) #[.agg #[.slice A0_0 l0_0.length c0_0, .int .i64 a0_1], .slice A2 l2.length c2, .int .i64 aH] Tryz.func93 ?_; (with_reducible refine (audit_told.calls k2 _ _ l0_0 a0_1 _ _ l2 aH aF _ (cb_ bV HB) bW.out (cb_ HR2 HB) HC2.out A24.out).mono ?_); rintro e w26 ⟨dU, rfl, ho0, hb⟩; refine ⟨_, rfl, ?_⟩; have bG := Zk (Kd.R_lower (Kd.R_new' ho0 (Kd.R_lt (r_ aE))) (below_size (bl_ HB))); replace aE := Zk (Kd.R_elder' (r_ aE) (Kd.R_base ho0) hb); replace aC := ab_ aC hb; replace HB := al_ HB hb; (try clear hb); (try clear ho0); obtain ⟨cE, bP, dF⟩ := Kd.R_slice bG.out; subst dF))
     go_loopg [43] k2 (fun kq v43 w' => ∃ (aI : List Int) (aB : Int), v43 = .int .i64 aB ∧ Aside0 (audit_Refs.l2 kq l2 aI (l0_0.length : Int) aH aF (aF.length : Int) aB l0_0 a0_1 = some r) ∧ Aside0 (kq ≤ k2) ∧ Aside0 (Kd.R (Kd.int .i64) 3 w' w.heap.size (fun k_ => some k_ ≠ ((.slice cE aF.length bP) : Value).ownBlock) aS aI) ∧ Aside0 (Kd.R (Kd.int .i64) 3 w' w.heap.size (fun k_ => some k_ ≠ (aS : Value).ownBlock) (.slice cE aF.length bP) aF) ∧ Aside0 (w'.heap[aK]? = some (.cells #[(.slice A0_0 l0_0.length c0_0), .int .i64 a0_1] 30 (0, 0))) ∧ Aside0 (Below w.heap.size w w'))
     case atStart => exact ⟨(aX), (0), q_, H', ⟨Nat.le_refl _⟩, ⟨by (with_reducible repeat (first | apply Kd.R_alloc | apply Kd.R_drewN | apply Kd.R_drew)); exact Kd.R_mono aE.out (fun _ hk => hk.2)⟩, ⟨by (with_reducible repeat (first | apply Kd.R_alloc | apply Kd.R_drewN | apply Kd.R_drew)); exact Kd.R_mono bG.out (fun _ hk => hk.2)⟩, ⟨bk_ aC⟩, ⟨bl_ HB⟩⟩
     case round =>
      clear H'
      try clear q1
      try clear hx1
      try clear bH
      try clear bI
      try clear bJ
      try clear bK
      try clear aT
      try clear bB
      try clear bC
      try clear q15
      try clear dD
      try clear bD
      try clear bE
      try clear q18
      try clear dE
      try clear hf18
      try clear bF
      try clear aP
      try clear aJ
      try clear aW
      try clear q1
      try clear q15
      try clear aU
      try clear aV
      try clear q18
      obtain ⟨aI, aB, rfl, HA, HK3, aE, aQ, aC, HB⟩ := hrel
      cases gk with
      | zero => exact absurd HA.out (by simp [audit_Refs.l2])
      | succ k3 =>
       have H := HA.out
       clear HA
       simp only [audit_Refs.l2] at H
       by_cases c28 : aB < (aF.length : Int)
       case neg =>
        rw [if_neg c28] at H
        have cF : decide (aB < (aF.length : Int)) = false := decide_eq_false c28
        clear c28
        have H' := Zk H
        clear H
        go_wp2
        go_roundg k3
        case measure => have := HK1.out; have := HK2.out; have := HK3.out; omega
        case rel => exact ⟨(aI), (wrap64 (aH + 1)), q_, H', ⟨by have := HK1.out; have := HK2.out; have := HK3.out; omega⟩, ⟨by (with_reducible repeat (first | apply Kd.R_alloc | apply Kd.R_drewN | apply Kd.R_drew)); exact Kd.R_mono aE.out (fun _ hk => trivial)⟩, ⟨bk_ aC⟩, ⟨bl_ HB⟩⟩
       rw [if_pos c28] at H
       have cF := decide_eq_true c28
       clear c28
       by_cases c29 : 0 ≤ aB
       case neg => exact no_ c29 H
       rw [if_pos c29] at H
       have dM := decide_eq_true c29
       clear c29
       by_cases c30 : aB < (aF.length : Int)
       case neg => exact no_ c30 H
       rw [if_pos c30] at H
       have dN := decide_eq_true c30
       clear c30
       by_cases c31 : 0 ≤ (rd aF aB)
       case neg => exact no_ c31 H
       rw [if_pos c31] at H
       have dO := decide_eq_true c31
       clear c31
       by_cases c32 : (rd aF aB) < (aI.length : Int)
       case neg => exact no_ c32 H
       rw [if_pos c32] at H
       have dP := decide_eq_true c32
       clear c32
       obtain ⟨cG, aR⟩ : ∃ y_ : List Int, y_ = (aI.set ((rd aF aB) : Int).toNat (wrap64 ((rd aI (rd aF aB)) + 1))) := ⟨_, rfl⟩
       first | replace H := bnd_ aR H | rw [← aR] at H
       have cH := Zk aR
       clear aR
       have H' := Zk H
       clear H
       have bQ : 0 ≤ (aB : Int) := of_decide_eq_true as_
       have bR : aB < (aF.length : Int) := of_decide_eq_true as_
       obtain ⟨cI, dG, cT⟩ := Kd.at_int (Kd.R_reads' aQ.out).2.2 aB bQ bR
       cases dG
       replace bQ := eq_true bQ
       replace bR := eq_true bR
       obtain ⟨dV, bS, dH⟩ := Kd.R_slice aE.out
       subst dH
       have bT : 0 ≤ ((rd aF aB) : Int) := of_decide_eq_true as_
       have bU : (rd aF aB) < (aI.length : Int) := of_decide_eq_true as_
       obtain ⟨dQ, dI, aY⟩ := Kd.at_int (Kd.R_reads' aE.out).2.2 (rd aF aB) bT bU
       cases dI
       replace bT := eq_true bT
       replace bU := eq_true bU
       have p33 : 0 ≤ ((rd aF aB) : Int) := of_decide_eq_true as_
       have q33 : ((rd aF aB) : Int) < ((aI.length : Int) : Int) := of_decide_eq_true as_
       obtain ⟨go33, dW, cJ, cK, gl33, cl33, HG33⟩ := Kd.R_form aE.out (by omega)
       (first | cases cJ | (injection cJ with ea_ en_ ec_; (first | subst ea_ | (injection ea_ with ea_; subst ea_)); subst ec_; clear en_))
       have GB33 := Zk cK
       have GG33 := Zk HG33
       clear cK gl33 HG33
       (first | simp only [add_plain] at aY | skip)
       obtain ⟨dJ, hf33_0⟩ := Kd.R_celln 0 aE.out ((rd aF aB) : Int) p33 q33
       replace p33 := eq_true p33
       replace q33 := eq_true q33
       have HP35 := Kd.R_putg aE.out ((rd aF aB) : Int) (wrap64 ((rd aI (rd aF aB)) + 1))
       go_wp2_with (first | ((with_reducible refine gate_store (t := 3) (p := 52) rfl ?_); refine store_event (t := 3) (p := 52) (v := ?vo_w36) (w1 := (wr.setCell ⟨go33, ((rd aF aB) : Int).toNat, none⟩ (.int .i64 (wrap64 ((rd aI (rd aF aB)) + 1))))) ?hg ?ho ?hn ?hr ?_; (case ho => rfl); (case hg => rfl); (case hn => rfl); (case hr => first | (go_simp; done) | (go_simp; rfl)); intro w36 hw; have hg : wr.grownBy w36 (some go33) := (by rw [hw]; exact HP35.2); have hp_ : Kd.R (Kd.int .i64) 3 w36 w.heap.size (fun k_ => some k_ ≠ (.slice (some cI) aF.length bP : Value).ownBlock) (.slice (some ⟨go33, 0, none⟩) aI.length bS) cG := (by rw [hw, cH.out]; exact HP35.1); clear HP35; replace aQ := Zk (Kd.R_after (v := (.slice (some ⟨go33, 0, none⟩) aI.length bS)) (v1 := (.slice (some ⟨go33, 0, none⟩) aI.length bS)) (ok := (fun _ => True)) (by (with_reducible repeat (first | apply Kd.R_alloc | apply Kd.R_drewN | apply Kd.R_drew)); exact Kd.R_mono aQ.out (fun _ hk => ⟨trivial, hk⟩)) hg (.inl rfl)); replace aC := Zk (blk_grown (g := aK) (o := .cells #[.slice A0_0 l0_0.length c0_0, .int .i64 a0_1] 30 (0, 0)) (bk_ aC) hg (Kd.R_ne aE.out aC.out (by decide))); replace aE := Zk (hp_); replace HB := Zk ((by rw [hw]; exact below_set (HB.out) GB33.out : Below w.heap.size w w36)); clear hg hw hp_))
       go_roundg k3
       case measure => have := HK1.out; have := HK2.out; have := HK3.out; omega
       case rel => exact ⟨(cG), (wrap64 (aB + 1)), q_, H', ⟨by have := HK1.out; have := HK2.out; have := HK3.out; omega⟩, ⟨r_ aE⟩, ⟨by (with_reducible repeat (first | apply Kd.R_alloc | apply Kd.R_drewN | apply Kd.R_drew)); exact Kd.R_mono aQ.out (fun _ hk => hk.2)⟩, ⟨bk_ aC⟩, ⟨bl_ HB⟩⟩
end
theorem wp_scope_ghost {P : Program} {a : Act} {w : World} {Q : Exit → Act → World → Prop} {c rest : Code} (l : Nat) (J : Nat → Act → World → Prop) (hf : findLabel c l = some rest)
  (pass : ∀ n a w, J n a w → rest.wp P (Exit.jump l (fun a' w' => ∃ m, m < n ∧ J m a' w') Q) a w)
  (first : (∀ n a w, J n a w → rest.wp P (Exit.jump l (fun a' w' => ∃ m, J m a' w') Q) a w) → c.wp P (Exit.jump l (fun a' w' => ∃ m, J m a' w') Q) a w) : (Code.scope c).wp P Q a w := by
 have first := first fun n a w hJ => wp_mono (pass n a w hJ) fun e a' w' h => by
  cases e with
  | goto l' => obtain ⟨h1, m, _, h2⟩ := h; exact ⟨h1, m, h2⟩
  | normal => exact h
  | exit id => exact h
  | ret => exact h
  | panic ch => exact h
  | outgrown => exact h
 intro b k cs
 have hg : gotoIn l (.inScope c :: k) = some (.code rest :: .inScope c :: k) := by simp [gotoIn, hf]
 have key : ∀ n a w, J n a w → ∃ e a' w', Q e a' w' ∧ Arrives P (lone (b.at a (.code rest :: .inScope c :: k)) cs w) b k cs e a' w' := by
  intro n
  induction n using Nat.strongRecOn with
  | _ n ih =>
   intro a w hJ
   obtain ⟨e, a₁, w₁, hq, harr⟩ := pass n a w hJ b (.inScope c :: k) cs
   cases e with
   | normal => exact ⟨.normal, a₁, w₁, hq, Steps.trans harr (.one step_inScope)⟩
   | exit id => exact ⟨.exit id, a₁, w₁, hq, fun k' hk => harr k' (by simp [exitTo, hk])⟩
   | goto l' =>
    obtain ⟨rfl, m, hlt, hJ'⟩ := hq
    obtain ⟨e₂, a₂, w₂, hq₂, harr₂⟩ := ih _ hlt a₁ w₁ hJ'
    exact ⟨e₂, a₂, w₂, hq₂, .of_steps (harr _ hg) harr₂⟩
   | ret => exact ⟨_, a₁, w₁, hq, harr⟩
   | panic ch => exact ⟨_, a₁, w₁, hq, harr⟩
   | outgrown => exact ⟨_, a₁, w₁, hq, harr⟩
 obtain ⟨e, a₁, w₁, hq, harr⟩ := first b (.inScope c :: k) cs
 cases e with
 | normal => exact ⟨.normal, a₁, w₁, hq, .head step_scope (Steps.trans harr (.one step_inScope))⟩
 | exit id => exact ⟨.exit id, a₁, w₁, hq, fun k' hk => .head step_scope (harr k' (by simp [exitTo, hk]))⟩
 | goto l' =>
  obtain ⟨rfl, m, hJ'⟩ := hq
  obtain ⟨e₂, a₂, w₂, hq₂, harr₂⟩ := key _ a₁ w₁ hJ'
  exact ⟨e₂, a₂, w₂, hq₂, .of_steps (.head step_scope (harr _ hg)) harr₂⟩
 | ret => exact ⟨_, a₁, w₁, hq, .of_steps (.one step_scope) harr⟩
 | panic ch => exact ⟨_, a₁, w₁, hq, .of_steps (.one step_scope) harr⟩
 | outgrown => exact ⟨_, a₁, w₁, hq, .of_steps (.one step_scope) harr⟩
theorem wp_scope_ghost2 {P : Program} {a : Act} {w : World} {Q : Exit → Act → World → Prop} {c rest : Code} (l : Nat) (J : Nat → Act → World → Prop) (hf : findLabel c l = some (Code.skip.seq rest))
  (pass : ∀ n a w, J n a w → rest.wp P (Exit.jump l (fun a' w' => ∃ m, m < n ∧ J m a' w') Q) a w)
  (first : (∀ n a w, J n a w → rest.wp P (Exit.jump l (fun a' w' => ∃ m, J m a' w') Q) a w) → c.wp P (Exit.jump l (fun a' w' => ∃ m, J m a' w') Q) a w) : (Code.scope c).wp P Q a w :=
 wp_scope_ghost l J hf (fun n a w hJ => wp_seq (wp_skip (pass n a w hJ))) fun _ => first fun n a w hJ => wp_mono (pass n a w hJ) fun e a' w' h => by
  cases e with
  | goto l' => obtain ⟨h1, m, _, h2⟩ := h; exact ⟨h1, m, h2⟩
  | normal => exact h
  | exit id => exact h
  | ret => exact h
  | panic ch => exact h
  | outgrown => exact h
theorem append_event {P : Program} {ops : Array Oper} {o : Oper} {rest : List Oper} {a : Act} {Q : Exit → Act → World → Prop} {W w1 : World} {v1 : Value} (hgd : o.guard = none) (s x : Operand) (ats : Array TypeId)
  (ho : o.op = .call { callee := .builtin .append, args := #[s, x], argTypes := ats }) (hr : (Builtin.append_ ats o.type #[a.eval s, a.eval x]).run P W = .ok v1 w1) (h : wpList P ops Q rest (a.put o.dst v1) w1) : wpList P ops Q (o :: rest) a W := by
 refine wpList_plain hgd fun K hK => ?_
 unfold Oper.wp execOp
 simp only [ho, resolve, invoke, builtin, Sem.run_bind, Sem.run_pure, Result.andThen_ok, List.map_toArray, List.map_cons, List.map_nil, hr]
 exact hK _ _ h
abbrev QI (w : World) (base : Nat) (v : Value) (q : List Int) : Prop := QRow w base 3 1 v q.length (encs (Value.int .i64) q)
theorem encs_app (a b : List Int) : encs (Value.int .i64) (a ++ b) = encs (Value.int .i64) a ++ encs (Value.int .i64) b := encs_append ..
theorem QI_run (W : World) (base : Nat) (ty : TypeId) (v : Value) (q ys : List Int) (A : Option Addr) (c : Nat) (hq : QI W base v q) (hC : Kd.C (Kd.int .i64) W A ys.length ys) (hl : q.length + ys.length < 1000000000) (hb : base ≤ W.heap.size) :
  ∃ v1 w1, (Builtin.append_ #[87, 87] ty #[v, .slice A ys.length c]).run Tryz.prog W = .ok v1 w1 ∧ QI w1 base v1 (q ++ ys) ∧ W.grownBy w1 v.ownBlock ∧ (v1.ownBlock = v.ownBlock ∨ ∃ b, v1.ownBlock = some b ∧ W.heap.size ≤ b) := by
 obtain ⟨i0, hi, hzz⟩ := Option.map_eq_some_iff.1 info3
 simp only [Prod.mk.injEq] at hzz
 obtain ⟨hz0, hz1, hz2⟩ := hzz
 cases ys with
 | nil =>
  refine ⟨v, W, ?_, by rw [List.append_nil]; exact hq, World.grownBy.refl W _, .inl rfl⟩
  obtain ⟨A', c', rfl, hle⟩ := q_slice hq
  cases A' <;> cases A <;> simp [Builtin.append_, run_underlying Tryz.underlying87, sizeOf, typeInfo, hi, Builtin.lenOf, Builtin.firstCells, hle, storeCells]
  all_goals simp [loadCells, loadCellsFrom, storeCells]
 | cons y ys =>
  obtain ⟨ad, rfl, hcells⟩ := hC.2.2 (by simp)
  obtain ⟨v1, w1, h1, h2, h3, h4⟩ := q_append (P := Tryz.prog) W base 87 ty 3 i0 (.int .i64 0) 1 8 Tryz.underlying87 hi hz0 hz1 hz2 rfl (by decide) v q.length _ hq ad (y :: ys).length c (encs (Value.int .i64) (y :: ys)) (by rw [encs_length, Nat.mul_one])
   (fun j u hj => by
    unfold encs at hj
    rw [List.getElem?_map] at hj
    obtain ⟨x, hx, rfl⟩ := Option.map_eq_some_iff.1 hj
    obtain ⟨cs, -, hk, hc⟩ := hcells j x hx
    obtain rfl : cs = [Value.int .i64 x] := hk
    have := hc 0 _ rfl
    rwa [show j * (Kd.int .i64).sz + 0 = j from Nat.mul_one _] at this) (fun u hu => by
    unfold encs at hu
    obtain ⟨x, _, rfl⟩ := List.mem_map.1 hu
    rfl) (by simp) (by simp only [maxLen]; omega) (by omega) hb
  exact ⟨v1, w1, h1, by rw [← encs_app] at h2; show QRow _ _ _ _ _ _ _; rw [show (q ++ y :: ys).length = q.length + (y :: ys).length from List.length_append]; exact h2, h3, h4⟩
def boolsA (out : List Bool) : Array Value := (out.map Value.bool).toArray
theorem boolsA_get (out : List Bool) (p : Nat) (h : p < out.length) : (boolsA out)[p]? = some (.bool (rdOf false out (p : Nat))) := by
 unfold boolsA rdOf
 simp [h]
theorem boolsA_set (out : List Bool) (p : Nat) : (boolsA out).setIfInBounds p (.bool true) = boolsA (out.set p true) := by
 unfold boolsA
 simp
def heldF (kt : Nat) (l : List S65) (kp : Int) (ts : List (Nat × Nat)) : Nat → List Bool → List Int → Option (List Bool)
  | 0, _, _ => none
  | _ + 1, out, [] => some out
  | k + 1, out, p :: q =>
    if 0 ≤ p ∧ p < (out.length : Int) ∧ q.length < 100000000 then
      (if rdOf false out p = true then heldF kt l kp ts k out q
       else (audit_told.f kt l kp ts p).bind fun t => if t.length < 100000000 then heldF kt l kp ts k (out.set p.toNat true) (q ++ t) else none)
    else none
def audit_Held.f (l0_0 : List S65) (a0_1 : Int) (l1 : List Int) (l2 : List (Nat × Nat)) : Option (List Bool) :=
 if 1 ≤ l0_0.length ∧ l0_0.length < 1000000 then (audit_above.f l1 l2).bind fun q => heldF 1000 l0_0 a0_1 l2 1000000 (List.replicate l0_0.length false) q else none
theorem made_bools (n : Nat) : madeCells #[.bool false] n = boolsA (List.replicate n false) := by
 unfold madeCells boolsA
 apply Array.ext
 ·simp
 ·intro i h1 h2
  simp [Nat.mod_one]
theorem boolsA_size (out : List Bool) : (boolsA out).size = out.length := by unfold boolsA; simp
theorem bools_own {W : World} {base g : Nat} {out : List Bool} (hb : base ≤ g) (h : W.heap[g]? = some (.cells (boolsA out) 4 (0, 0))) (hl : out.length < 1000000) : Kd.R Kd.bool 4 W base (fun _ => True) (.slice (some ⟨g, 0, none⟩) out.length out.length) out := by
 refine Kd.R_of_own (enc := Value.bool) ⟨by rw [encs_length, Nat.mul_one], .inr ⟨g, out.length, boolsA out, rfl, hb, h, Nat.le_refl _, by simp only [maxLen]; omega, by rw [boolsA_size, Nat.mul_one], ?_⟩⟩ (fun _ _ => trivial)
 unfold boolsA encs
 rw [Nat.mul_one]
 show List.take out.length (List.map Value.bool out) = List.map Value.bool out
 rw [List.take_of_length_le (by rw [List.length_map]; exact Nat.le_refl _)]
theorem audit_Held.calls (A0_0 : Option Addr) (c0_0 : Nat) (l0_0 : List (S65)) (a0_1 : Int) (A1 : Option Addr) (c1 : Nat) (l1 : List Int) (A2 : Option Addr) (c2 : Nat) (l2 : List (Nat × Nat)) (r : List Bool) (w : World) (hr0_0 : Kd.C k65 w A0_0 l0_0.length l0_0) (hc0_0 : l0_0.length ≤ c0_0) (hr1 : Kd.C (Kd.int .i64) w A1 l1.length l1) (hc1 : l1.length ≤ c1) (hr2 : Kd.C kc w A2 l2.length l2) (hc2 : l2.length ≤ c2) (h : audit_Held.f l0_0 a0_1 l1 l2 = some r) :
  Calls Tryz.prog 75 #[.agg #[.slice A0_0 l0_0.length c0_0, .int .i64 a0_1], .slice A1 l1.length c1, .slice A2 l2.length c2] w fun e w' => ∃ v0_ : Value, e = .returned (v0_) ∧ Kd.R Kd.bool 4 w' w.heap.size (fun _ => True) v0_ r ∧ Below w.heap.size w w' := by
 unfold audit_Held.f at h
 have hk : 1 ≤ l0_0.length ∧ l0_0.length < 1000000 := by
  by_cases hk : 1 ≤ l0_0.length ∧ l0_0.length < 1000000
  case pos => exact hk
  rw [if_neg hk] at h; cases h
 rw [if_pos hk] at h
 obtain ⟨q0, hq0, hheld⟩ := Option.bind_eq_some_iff.1 h
 obtain ⟨hl1, hl⟩ := hk
 have HHELD := Zk hheld
 have HQ0 := Zk hq0
 have HS := Zk hr0_0
 have HR1 := Zk hr1
 have HR2 := Zk hr2
 have HC0 := Zk hc0_0
 have HC1 := Zk hc1
 have HC2 := Zk hc2
 clear h hheld hq0 hr0_0 hr1 hr2 hc0_0 hc1 hc2
 have hu30 := Tryz.underlying30
 go_enter Tryz.func75, Tryz.ntmps75
 go_wp2_with fail
 refine wp_scope_ghost2 0 (fun n a' w' => ∃ (g : Nat) (s8 : Value) (out : List Bool) (q : List Int) (u9 u16 u17 u18 u19 u20 u21 u22 u23 u24 u25 u26 u27 u28 u29 u30 u31 u32 u33 u34 u35 u36 u37 : Value),
   a' = { tmps := #[.agg #[.slice A0_0 l0_0.length c0_0, .int .i64 a0_1], .slice A1 l1.length c1, .slice A2 l2.length c2, .pointer (some ⟨w.heap.size, 0, none⟩), undef, undef, .slice none 0 0, .slice (some ⟨g, 0, none⟩) l0_0.length l0_0.length, s8, u9, .pointer (some ⟨w.heap.size, 0, none⟩), .slice A0_0 l0_0.length c0_0, .int .i64 l0_0.length, .slice (some ⟨g, 0, none⟩) l0_0.length l0_0.length, .slice A1 l1.length c1, .slice A2 l2.length c2, u16, u17, u18, u19, u20, u21, u22, u23, u24, u25, u26, u27, u28, u29, u30, u31, u32, u33, u34, u35, u36, u37, undef], defers := [] } ∧
   Aside0 (heldF 1000 l0_0 a0_1 l2 n out q = some r) ∧ Aside0 (out.length = l0_0.length) ∧ Aside0 (QI w' w.heap.size s8 q) ∧ Aside0 (w'.heap[g]? = some (.cells (boolsA out) 4 (0, 0))) ∧ Aside0 (w'.heap[w.heap.size]? = some (.cells #[.slice A0_0 l0_0.length c0_0, .int .i64 a0_1] 30 (0, 0))) ∧ Aside0 (Below w.heap.size w w') ∧ Aside0 (w.heap.size < g)) rfl ?_ ?_
 ·rintro n a' w' ⟨g, s8, out, q, u9, u16, u17, u18, u19, u20, u21, u22, u23, u24, u25, u26, u27, u28, u29, u30, u31, u32, u33, u34, u35, u36, u37, rfl, HF, HLo, HQ, HG, HX, HB, Hg⟩
  go_wp2
  go_loopg [8] n (fun kx s8 wr => kx ≤ n ∧ ∃ (out : List Bool) (q : List Int), Aside0 (heldF 1000 l0_0 a0_1 l2 kx out q = some r) ∧ Aside0 (out.length = l0_0.length) ∧ Aside0 (QI wr w.heap.size s8 q) ∧ Aside0 (wr.heap[g]? = some (.cells (boolsA out) 4 (0, 0))) ∧ Aside0 (wr.heap[w.heap.size]? = some (.cells #[.slice A0_0 l0_0.length c0_0, .int .i64 a0_1] 30 (0, 0))) ∧ Aside0 (Below w.heap.size w wr))
  case atStart => exact ⟨Nat.le_refl _, out, q, HF, HLo, HQ, HG, HX, HB⟩
  case round =>
   clear HF HLo HQ HG HX HB
   obtain ⟨hkn, out, q, HF, HLo, HQ, HG, HX, HB⟩ := hrel
   obtain ⟨A, cq, rfl, hcq⟩ := q_slice HQ.out
   have HQ' : Aside0 (QRow wr w.heap.size 3 1 (.slice A q.length cq) q.length (encs (Value.int .i64) q)) := HQ
   obtain ⟨m, hm⟩ : ∃ m, q.length = m := ⟨_, rfl⟩
   rw [hm] at HQ' hcq
   rw [hm]
   have HM := Zk hm
   clear hm HQ
   cases gk with
   | zero => exact absurd HF.out (by simp [heldF])
   | succ k =>
    cases q with
    | nil =>
     have er : out = r := by have := HF.out; simpa [heldF] using this
     have HE := Zk er
     clear er
     obtain rfl : m = 0 := by have := HM.out; simpa using this.symm
     go_wp2
     simp only [Exit.jump]
     go_ret
     refine ⟨_, rfl, ?_, HB.out⟩
     have := bools_own (base := w.heap.size) (Nat.le_of_lt Hg.out) HG.out (by rw [HLo.out]; exact hl)
     rw [HLo.out] at this
     rw [← HE.out]
     exact this
    | cons p q =>
     have hf := HF.out
     rw [heldF] at hf
     by_cases hc : 0 ≤ p ∧ p < (out.length : Int) ∧ q.length < 100000000
     case neg => rw [if_neg hc] at hf; cases hf
     rw [if_pos hc] at hf
     obtain ⟨p, rfl⟩ : ∃ pn : Nat, p = pn := ⟨p.toNat, by omega⟩
     obtain ⟨m, rfl⟩ : ∃ m', m = m' + 1 := ⟨q.length, by rw [← HM.out]; rfl⟩
     obtain ⟨ad, rfl, hcells⟩ := q_cells HQ'.out (by omega)
     have x0 : wr.cell? ad = some (.int .i64 (p : Int)) := by have := hcells 0 _ rfl; rwa [Addr.add_zero'] at this
     have hp : p < out.length := by omega
     have hp2 : p < l0_0.length := by have := HLo.out; omega
     have y0 : wr.cell? ⟨g, p, none⟩ = some (.bool (rdOf false out (p : Nat))) := (blk_cell HG.out p).trans (boolsA_get out p hp)
     have z0 := blk_frozen HG.out p
     have hql : (0 : Int) < (m : Int) + 1 := by omega
     have hmq : q.length = m := by have := HM.out; simpa using this
     have hm1 : m < 100000000 := by omega
     have HMQ := Zk hmq
     obtain ⟨i0, hi0, hi1⟩ := Option.map_eq_some_iff.1 info3
     have hsz : i0.size = 1 := by simp only [Prod.mk.injEq] at hi1; exact hi1.2.1
     have hcut := cut_from (P := Tryz.prog) 87 3 .i64 Tryz.underlying87 hi0 1 hsz (some ad) (m + 1) cq 1 (by omega) (by omega)
     rw [show (1 : Int).toNat = 1 from rfl, Nat.mul_one, Nat.add_sub_cancel] at hcut
     obtain ⟨A2', hA2⟩ : ∃ A2', (if cq = 1 then some ad else (some ad).map (·.add 1)) = A2' := ⟨_, rfl⟩
     obtain ⟨cr, hcr⟩ : ∃ cr, cq - 1 = cr := ⟨_, rfl⟩
     rw [hA2, hcr] at hcut
     have hqd := q_drop (k := 1) HQ'.out (by omega)
     rw [Nat.mul_one, hA2, hcr, Nat.add_sub_cancel] at hqd
     have HQD : Aside0 (QRow wr w.heap.size 3 1 (.slice A2' m cr) m (encs (Value.int .i64) q)) := ⟨hqd⟩
     clear hqd hA2 hcr hi1 hsz hcells hc hmq hi0
     by_cases hb : rdOf false out (p : Nat) = true
     case pos =>
      rw [if_pos hb] at hf
      rw [hb] at y0
      have HF2 := Zk hf
      clear hf hb HF
      go_wp2
      go_step3
      simp only [Exit.then, Exit.inBlock, Exit.jump]
      exact ⟨rfl, k, by omega, g, _, out, q, _, _, _, _, _, _, _, _, _, _, _, _, _, _, _, _, _, _, _, _, _, _, _, rfl, HF2, HLo, ⟨by have := HQD.out; rw [← HMQ.out] at this ⊢; exact this⟩, HG, HX, HB, Hg⟩
     rw [if_neg hb] at hf
     rw [Bool.eq_false_iff.2 hb] at y0
     obtain ⟨ts, ht1, ht2⟩ := Option.bind_eq_some_iff.1 hf
     have HT1 := Zk ht1
     have HT2 := Zk ht2
     clear hf hb HF ht1 ht2
     have hne1 : w.heap.size ≠ g := by have := Hg.out; omega
     have hne2 : g ≠ w.heap.size := by have := Hg.out; omega
     obtain ⟨wS, hwS⟩ : ∃ wS, wr.setCell ⟨g, p, none⟩ (.bool true) = wS := ⟨_, rfl⟩
     have GS : Aside0 (wS.heap[g]? = some (.cells (boolsA (out.set p true)) 4 (0, 0))) := ⟨by rw [← hwS, ← boolsA_set]; exact blk_put HG.out p (.bool true) rfl⟩
     have XS : Aside0 (wS.heap[w.heap.size]? = some (.cells #[.slice A0_0 l0_0.length c0_0, .int .i64 a0_1] 30 (0, 0))) := ⟨by rw [← hwS]; exact (Below.heap_setCell _ _ _ _ hne1).trans HX.out⟩
     have BS : Aside0 (Below w.heap.size w wS) := ⟨by rw [← hwS]; exact HB.out.setCell (p := ⟨g, p, none⟩) (Nat.le_of_lt Hg.out) _⟩
     have QS : Aside0 (QRow wS w.heap.size 3 1 (.slice A2' m cr) m (encs (Value.int .i64) q)) := ⟨by
      refine q_move HQD.out fun kk hkk => ?_
      rw [← hwS]
      refine Below.heap_setCell _ _ _ _ (fun e => ?_)
      obtain ⟨-, cells, hcc⟩ := q_typed HQD.out kk hkk
      rw [e] at hcc
      rw [HG.out] at hcc
      cases hcc⟩
     have HTL := Zk (audit_told.calls 1000 A0_0 c0_0 l0_0 a0_1 A2 c2 l2 (p : Int) ts wS (Kd.C_below HS.out BS.out) HC0.out (Kd.C_below HR2.out BS.out) HC2.out HT1.out)
     obtain ⟨k0, k1, -, -⟩ := cf2_ XS
     clear HQD HG HX HB HQ'
     go_wp2_with fail
     refine HTL.out.mono ?_
     rintro e w4 ⟨v, rfl, hv4, hb4⟩
     obtain ⟨A4, c4, rfl, hcl4, hC4⟩ := Kd.R_reads hv4
     have htl : ts.length < 100000000 := by
      have := HT2.out
      by_cases hh : ts.length < 100000000
      case pos => exact hh
      rw [if_neg hh] at this; cases this
     have GS4 := Zk ((hb4.block _ (blk_lt GS.out)).trans GS.out)
     have XS4 := Zk ((hb4.block _ (blk_lt XS.out)).trans XS.out)
     have BS4 := Zk (BS.out.trans (hb4.mono BS.out.size))
     have QS4 := Zk (q_move QS.out fun kk hkk => hb4.block kk (q_lt QS.out kk hkk))
     have QS5 : Aside0 (QI w4 w.heap.size (.slice A2' m cr) q) := ⟨by have := QS4.out; rw [← HMQ.out] at this ⊢; exact this⟩
     obtain ⟨v5, w5, hrun, hq5, hg5, -⟩ := QI_run w4 w.heap.size 87 (.slice A2' m cr) q ts A4 c4 QS5.out hC4 (by have := HMQ.out; omega) BS4.out.size
     have nb : ∀ (kk : Nat) (o : Obj), w4.heap[kk]? = some o → (∀ cells, o ≠ .cells cells 3 (0, 0)) → some kk ≠ (Value.slice A2' m cr).ownBlock := fun kk o ho hne e => by
      obtain ⟨-, cells, hcc⟩ := q_typed QS5.out kk e.symm
      rw [ho] at hcc
      exact hne cells (Option.some.inj hcc)
     have GS6 := Zk ((hg5.block _ (blk_lt GS4.out) (nb _ _ GS4.out (fun cells e => by cases e))).trans GS4.out)
     have XS6 := Zk ((hg5.block _ (blk_lt XS4.out) (nb _ _ XS4.out (fun cells e => by cases e))).trans XS4.out)
     have BS6 := Zk (BS4.out.grown hg5 BS4.out.size (fun kk e => (q_typed QS5.out kk e).1))
     have HQ5 := Zk hq5
     have HT3 := HT2.out
     rw [if_pos htl, Int.toNat_natCast] at HT3
     have HT4 := Zk HT3
     have HRUN := Zk hrun
     clear hv4 hb4 hC4 hcl4 hq5 hg5 nb HT3 HT2 QS QS4 GS XS BS k0 k1 hrun
     go_wp2_with (at_builtin; refine append_event rfl (.tmp 32) (.tmp 36) #[87, 87] rfl HRUN.out ?_)
     go_roundg k
     case measure => omega
     case rel => exact ⟨by omega, out.set p true, q ++ ts, HT4, ⟨by rw [List.length_set]; exact HLo.out⟩, HQ5, GS6, XS6, BS6⟩
 ·intro hp
  have HP := Zk hp
  clear hp
  have hmk : ∀ W : World, (Instr.makeSlice 66 (.int .i64 (l0_0.length : Int)) (.int .i64 (l0_0.length : Int))).run Tryz.prog W = .ok (.slice (some ⟨W.heap.size, 0, none⟩) l0_0.length l0_0.length) (W.alloc (.cells (boolsA (List.replicate l0_0.length false)) 4)) := fun W => by
   rw [← made_bools]
   exact run_make_row' 66 4 (.bool false) 1 Tryz.underlying66 info4 rfl .i64 .i64 l0_0.length (by omega) (by omega) W
  obtain ⟨wA, hwA⟩ : ∃ wA, (w.alloc (.cells #[.slice A0_0 l0_0.length c0_0, .int .i64 a0_1] 30)).alloc (.cells (boolsA (List.replicate l0_0.length false)) 4) = wA := ⟨_, rfl⟩
  have HB : Aside0 (Below w.heap.size w wA) := ⟨by rw [← hwA]; exact ((Below.refl _ w).alloc (Nat.le_refl _) _).alloc (by simp) _⟩
  have HX : Aside0 (wA.heap[w.heap.size]? = some (.cells #[.slice A0_0 l0_0.length c0_0, .int .i64 a0_1] 30 (0, 0))) := ⟨by rw [← hwA]; exact blk_alloc (alloc_new w _) _⟩
  have HG : Aside0 (wA.heap[w.heap.size + 1]? = some (.cells (boolsA (List.replicate l0_0.length false)) 4 (0, 0))) := ⟨by
   rw [← hwA]
   have := alloc_new (w.alloc (.cells #[.slice A0_0 l0_0.length c0_0, .int .i64 a0_1] 30)) (.cells (boolsA (List.replicate l0_0.length false)) 4)
   rwa [World.size_alloc] at this⟩
  have HA := Zk (audit_above.calls A1 c1 l1 A2 c2 l2 q0 wA (Kd.C_below HR1.out HB.out) HC1.out (Kd.C_below HR2.out HB.out) HC2.out HQ0.out)
  go_wp2_with fail
  refine HA.out.mono ?_
  rintro e w3 ⟨v, rfl, hv, hb3⟩
  have hq3 : QI w3 w.heap.size v q0 := q_lower (q_of_own (Kd.own_of_R hv)) HB.out.size
  have HQ3 := Zk hq3
  have HB3 := Zk (HB.out.trans (hb3.mono HB.out.size))
  have HX3 := Zk ((hb3.block _ (blk_lt HX.out)).trans HX.out)
  have HG3 := Zk ((hb3.block _ (blk_lt HG.out)).trans HG.out)
  clear hv hb3 hq3 HB HX HG HA hwA
  go_wp2
  go_step3
  simp only [Exit.then]
  rename_i hK0
  exact hK0 _ _ (HP.out 1000000 _ _ ⟨w.heap.size + 1, v, List.replicate l0_0.length false, q0, _, _, _, _, _, _, _, _, _, _, _, _, _, _, _, _, _, _, _, _, _, _, _, rfl, HHELD, ⟨List.length_replicate⟩, HQ3, HG3, HX3, HB3, ⟨by omega⟩⟩)
end Go.Proofs.YtfmjepmgcdoelaaGreat.P
