/- Texts of this claim's proof put together: F43, F49, PNum, HSeal, HBytes, HOpen, F51, F61, F45, F63, F53, F46, PRef, PSeal, HConcat, F27. -/
import Derived.Test.YthjnkapkhphpeaaBNodeTells0
import Derived.Laws.CopyOwn
import Derived.Lib.ConvBytes
import Derived.Lib.SmallJoins
section
namespace Go.Proofs.Ythjnkapkhphpeaa.P
open Go.RowKit Go.Proofs.YthjnkapkhphpeaaW.PrintWords Go.Proofs.YthjnkapkhphpeaaW.PrintLast Go.Proofs.YthjnkapkhphpeaaW.PrintMore
attribute [local go_sem] max2_int min2_int max_two min_two max_three min_three max_four min_four
set_option linter.unusedVariables false
set_option linter.unusedSimpArgs false

/-! ### num_Put: function 43 -/
mutual
def num_Put.j0 : Nat → Int → Int → Bool → Option (List Int)
  | 0, _, _, _ => none
  | k + 1, x0, x1, x20 => if x20 = true then (some ([] : List Int)) else (if 0 ≤ x1 then (if (x1 : Int).toNat ≤ 281474976710656 then (num_Put.l0 k x0 (List.replicate (x1 : Int).toNat 0) x1 0) else (none)) else (none))
def num_Put.l0 : Nat → Int → List Int → Int → Int → Option (List Int)
  | 0, _, _, _, _ => none
  | k + 1, x0, x5, x23, x24 => if x24 < x23 then (if 0 ≤ (wrap64 (8 * x24)) then (if 0 ≤ x24 then (if x24 < (x5.length : Int) then (num_Put.l0 k x0 (x5.set (x24 : Int).toNat ((shr .i64 x0 (wrap64 (8 * x24))) % 256)) x23 (wrap64 (x24 + 1))) else (none)) else (none)) else (none)) else (some x5)
end
def num_Put.f (k : Nat) (a0 : Int) (a1 : Int) : Option (List Int) := (num_isWide.f a1).bind fun t107 => (if t107 = true then (if a0 < 0 then (num_Put.j0 k a0 a1 true) else (if 0 ≤ (wrap64 (8 * a1)) then (num_Put.j0 k a0 a1 (decide ((shr .i64 a0 (wrap64 (8 * a1))) > 0))) else (none))) else (num_Put.j0 k a0 a1 true))
theorem num_Put.mono_l : ∀ k, (∀ y0 y1 y2, LeO (num_Put.j0 k y0 y1 y2) (num_Put.j0 (k + 1) y0 y1 y2)) ∧ (∀ y0 y1 y2 y3, LeO (num_Put.l0 k y0 y1 y2 y3) (num_Put.l0 (k + 1) y0 y1 y2 y3))
  | 0 => ⟨fun _ _ _ r h => by simp [num_Put.j0] at h, fun _ _ _ _ r h => by simp [num_Put.l0] at h⟩
  | k + 1 => by
    obtain ⟨ih0, ih1⟩ := num_Put.mono_l k
    refine ⟨?_, ?_⟩
    · intro y0 y1 y2
      unfold num_Put.j0
      repeat' first
      | (with_reducible exact ih0 _ _ _)
      | (with_reducible exact ih1 _ _ _ _)
      | (with_reducible exact LeO.refl _)
      | (with_reducible exact LeO.none _)
      | (with_reducible refine LeO.ite ?_ ?_)
      | (with_reducible refine LeO.bind ?_ (fun _ => ?_))
      | exact ih0 _ _ _
      | exact ih1 _ _ _ _
      | exact LeO.none _
      | refine LeO.ite ?_ ?_
      | refine LeO.bind ?_ (fun _ => ?_)
    · intro y0 y1 y2 y3
      unfold num_Put.l0
      repeat' first
      | (with_reducible exact ih0 _ _ _)
      | (with_reducible exact ih1 _ _ _ _)
      | (with_reducible exact LeO.refl _)
      | (with_reducible exact LeO.none _)
      | (with_reducible refine LeO.ite ?_ ?_)
      | (with_reducible refine LeO.bind ?_ (fun _ => ?_))
      | exact ih0 _ _ _
      | exact ih1 _ _ _ _
      | exact LeO.none _
      | refine LeO.ite ?_ ?_
      | refine LeO.bind ?_ (fun _ => ?_)
theorem num_Put.mono : ∀ a0 a1 k, LeO (num_Put.f k a0 a1) (num_Put.f (k + 1) a0 a1) := by
  intro a0 a1 k
  obtain ⟨ih0, ih1⟩ := num_Put.mono_l k
  unfold num_Put.f
  repeat' first
      | (with_reducible exact ih0 _ _ _)
      | (with_reducible exact ih1 _ _ _ _)
      | (with_reducible exact LeO.refl _)
      | (with_reducible exact LeO.none _)
      | (with_reducible refine LeO.ite ?_ ?_)
      | (with_reducible refine LeO.bind ?_ (fun _ => ?_))
      | exact ih0 _ _ _
      | exact ih1 _ _ _ _
      | exact LeO.none _
      | refine LeO.ite ?_ ?_
      | refine LeO.bind ?_ (fun _ => ?_)
set_option maxHeartbeats 8000000 in
set_option maxRecDepth 100000 in
theorem num_Put.calls (k : Nat) (a0 : Int) (a1 : Int) (r : List Int) (w : World) (h : num_Put.f k a0 a1 = some r) :
    Calls Try.prog 43 #[.int .i64 a0, .int .i64 a1] w fun e w' => ∃ v0_ : Value, e = .returned (v0_) ∧ Kd.R (Kd.int .u8) 5 w' w.heap.size (fun _ => True) v0_ r ∧ Below w.heap.size w w' := by
  have HB := Aside0.mk (Below.refl w.heap.size w)
  have H : ((num_isWide.f a1).bind fun t107 => (if t107 = true then (if a0 < 0 then (num_Put.j0 k a0 a1 true) else (if 0 ≤ (wrap64 (8 * a1)) then (num_Put.j0 k a0 a1 (decide ((shr .i64 a0 (wrap64 (8 * a1))) > 0))) else (none))) else (num_Put.j0 k a0 a1 true))) = some r := h
  clear h
  have HC3 := Aside0.mk H
  clear H
  go_enter Try.func43, Try.ntmps43
  go_upto_region 1 with (fail)
  go_cut [20] (fun v20 wc => ∃ (kq : Nat) (x20_2 : Bool), v20 = .bool x20_2 ∧ Aside0 (num_Put.j0 kq a0 a1 x20_2 = some r) ∧ Aside0 (kq ≤ k) ∧ Aside0 (Below w.heap.size w wc))
  case first =>
    have H := HC3.out
    clear HC3
    replace H := Option.bind_eq_some_iff.mp H
    obtain ⟨t107, A40, H⟩ := H
    replace H : (if t107 = true then (if a0 < 0 then (num_Put.j0 k a0 a1 true) else (if 0 ≤ (wrap64 (8 * a1)) then (num_Put.j0 k a0 a1 (decide ((shr .i64 a0 (wrap64 (8 * a1))) > 0))) else (none))) else (num_Put.j0 k a0 a1 true)) = some r := H
    have A4 := Aside0.mk A40
    clear A40
    by_cases c5 : t107 = true
    · subst c5
      have H1 : (if a0 < 0 then (num_Put.j0 k a0 a1 true) else (if 0 ≤ (wrap64 (8 * a1)) then (num_Put.j0 k a0 a1 (decide ((shr .i64 a0 (wrap64 (8 * a1))) > 0))) else (none))) = some r := by rw [if_pos rfl] at H; exact H
      clear H
      have H := H1
      clear H1
      by_cases c6 : a0 < 0
      · rw [if_pos c6] at H
        have c6b0 : decide (a0 < 0) = true := decide_eq_true c6
        clear c6
        (first | rw [c6b0] | (simp only [i64_w, i32_w]; rw [c6b0]) | skip)
        have H' := Aside0.mk H
        clear H
        go_wp2_with (first | ((with_reducible refine gate_callee (f := 60) rfl ?_); refine goesL_ (some 8) rfl rfl Try.func60 (by kernel_rfl) rfl #[.int .i64 a1] rfl (by (try simp only [List.map_toArray, List.map_cons, List.map_nil]); first | done | rfl | (simp only [List.length_drop, List.length_take]; rfl)) ?_; (with_reducible refine (num_isWide.calls a1 true _ A4.out).mono ?_); rintro e w' ⟨rfl, ⟨nd, rfl⟩⟩; refine ⟨_, rfl, ?_⟩))
        go_meet
        case rel => exact ⟨_, (true), (by first | rfl | (simp; done) | (simp [*]; done)), H', ⟨by first | omega | exact Nat.le_refl _⟩, ⟨by repeat (first | (with_reducible first | exact HB.out | apply below_alloc | apply pw_below_drewN | apply below_drew1) | exact HB.out)⟩⟩
      · rw [if_neg c6] at H
        have c6b0 : decide (a0 < 0) = false := decide_eq_false c6
        clear c6
        (first | rw [c6b0] | (simp only [i64_w, i32_w]; rw [c6b0]) | skip)
        obtain ⟨ji7, hji7⟩ : ∃ j_ : Int, (wrap64 (8 * a1)) = j_ := ⟨_, rfl⟩
        replace H : (if 0 ≤ (ji7) then (num_Put.j0 k a0 a1 (decide ((shr .i64 a0 (ji7)) > 0))) else (none)) = some r := by first | (rw [hji7] at H; exact H) | (simp only [hji7] at H ⊢; exact H)
        (try rw [hji7] at A4)
        have hji7w : (IntKind.i64.wrap (8 * a1)) = ji7 := (i64_w _).trans hji7
        by_cases c8 : 0 ≤ (ji7)
        · rw [if_pos c8] at H
          have c8b0 := eq_true c8
          have c8b1 : decide (0 ≤ (ji7)) = true := decide_eq_true c8
          clear c8
          obtain ⟨ji9, hji9⟩ : ∃ j_ : Int, (shr .i64 a0 (ji7)) = j_ := ⟨_, rfl⟩
          replace H : (num_Put.j0 k a0 a1 (decide ((ji9) > 0))) = some r := by first | (rw [hji9] at H; exact H) | (simp only [hji9] at H ⊢; exact H)
          (try rw [hji9] at A4)
          have hji9_ : (a0 / 2 ^ min (ji7).toNat 64) = ji9 := hji9
          have hji9z : (ji7) ≤ 64 → (a0 / 2 ^ (ji7).toNat) = ji9 := shr_small hji9
          have H' := Aside0.mk H
          clear H
          go_wp2_with (first | ((with_reducible refine gate_callee (f := 60) rfl ?_); refine goesL_ (some 8) rfl rfl Try.func60 (by kernel_rfl) rfl #[.int .i64 a1] rfl (by (try simp only [List.map_toArray, List.map_cons, List.map_nil]); first | done | rfl | (simp only [List.length_drop, List.length_take]; rfl)) ?_; (with_reducible refine (num_isWide.calls a1 true _ A4.out).mono ?_); rintro e w' ⟨rfl, ⟨nd, rfl⟩⟩; refine ⟨_, rfl, ?_⟩))
          go_meet
          case rel => exact ⟨_, (decide ((ji9) > 0)), (by first | rfl | (simp; done) | (simp only [← hji9] <;> (first | rfl | simp)) | (simp [*]; done)), H', ⟨by first | omega | exact Nat.le_refl _⟩, ⟨by repeat (first | (with_reducible first | exact HB.out | apply below_alloc | apply pw_below_drewN | apply below_drew1) | exact HB.out)⟩⟩
        · rw [if_neg c8] at H
          exact absurd H (by simp)
    · replace c5 := Bool.eq_false_iff.mpr c5
      subst c5
      have H1 : (num_Put.j0 k a0 a1 true) = some r := by rw [if_neg (show ¬ (false = true) by decide)] at H; exact H
      clear H
      have H := H1
      clear H1
      have H' := Aside0.mk H
      clear H
      go_wp2_with (first | ((with_reducible refine gate_callee (f := 60) rfl ?_); refine goesL_ (some 8) rfl rfl Try.func60 (by kernel_rfl) rfl #[.int .i64 a1] rfl (by (try simp only [List.map_toArray, List.map_cons, List.map_nil]); first | done | rfl | (simp only [List.length_drop, List.length_take]; rfl)) ?_; (with_reducible refine (num_isWide.calls a1 false _ A4.out).mono ?_); rintro e w' ⟨rfl, ⟨nd, rfl⟩⟩; refine ⟨_, rfl, ?_⟩))
      go_meet
      case rel => exact ⟨_, (true), (by first | rfl | (simp; done) | (simp [*]; done)), H', ⟨by first | omega | exact Nat.le_refl _⟩, ⟨by repeat (first | (with_reducible first | exact HB.out | apply below_alloc | apply pw_below_drewN | apply below_drew1) | exact HB.out)⟩⟩
  case rest =>
    clear HC3
    try clear p2
    try clear c4
    try clear c5
    try clear c6
    try clear c6b0
    try clear p6
    try clear c8
    try clear c8b0
    try clear c8b1
    obtain ⟨kq, x20_2, rfl, HA, HJ2, HB⟩ := hcut
    cases kq with
    | zero => exact absurd HA.out (by simp [num_Put.j0])
    | succ kj2 =>
      have H := HA.out
      clear HA
      simp only [num_Put.j0] at H
      by_cases c10 : x20_2 = true
      · subst c10
        have H1 : (some ([] : List Int)) = some r := by rw [if_pos rfl] at H; exact H
        clear H
        have H := H1
        clear H1
        obtain rfl := Option.some.inj H
        go_wp2
        go_ret
        exact ⟨_, by first | rfl | (simp [errW_none, errW_some] <;> rfl) | (simp [*, errW_none, errW_some] <;> rfl), by first | exact Kd.R_nil _ _ _ _ _ | exact Kd.N_nil _ _ _ _ _ | exact Kd.V_nil _ _ _ _ _ | exact Kd.Q_nil _ _ _ _ _ | exact Kd.S_nil _ _ _ _ _, by repeat (first | (with_reducible first | exact HB.out | apply below_alloc | apply pw_below_drewN | apply below_drew1) | exact HB.out)⟩
      · replace c10 := Bool.eq_false_iff.mpr c10
        subst c10
        have H1 : (if 0 ≤ a1 then (if (a1 : Int).toNat ≤ 281474976710656 then (num_Put.l0 kj2 a0 (List.replicate (a1 : Int).toNat 0) a1 0) else (none)) else (none)) = some r := by rw [if_neg (show ¬ (false = true) by decide)] at H; exact H
        clear H
        have H := H1
        clear H1
        by_cases c11 : 0 ≤ a1
        · rw [if_pos c11] at H
          have c11b0 := eq_true c11
          have c11b1 : decide (0 ≤ a1) = true := decide_eq_true c11
          clear c11
          by_cases c12 : (a1 : Int).toNat ≤ 281474976710656
          · rw [if_pos c12] at H
            have c12b0 := eq_true c12
            have c12b1 : decide ((a1 : Int).toNat ≤ 281474976710656) = true := decide_eq_true c12
            clear c12
            obtain ⟨y108, hy108⟩ : ∃ y_ : List Int, y_ = (List.replicate (a1 : Int).toNat 0) := ⟨_, rfl⟩
            replace H : (num_Put.l0 kj2 a0 y108 a1 0) = some r := by first | (rw [hy108]; with_reducible exact H) | (have H2_ := (Option.bind_some _ _).symm.trans H; rw [hy108]; with_reducible exact H2_) | (have H2_ := (Option.bind_some _ _).symm.trans H; with_reducible exact H2_) | with_reducible exact H | (rw [hy108]; exact H) | exact H
            have Ny108 := Aside0.mk hy108
            clear hy108
            have H' := Aside0.mk H
            clear H
            go_wp2_with (first | ((with_reducible refine gate_dst (N := 22) rfl ?_); refine Kd.R_make (Kd.int .u8) _ 5 rfl (N := 22) rfl 24 _ _ rfl a1 rfl rfl Try.underlying24 (.int .u8 0) 1 info5 rfl (by decide) (by omega) 0 (ok := fun _ => True) (okp := fun _ => True) rfl (fun _ hk => hk) trivial (of_decide_eq_true (by first | (with_reducible assumption) | assumption)) (Nat.le_trans (Nat.mul_le_mul_right _ (of_decide_eq_true (by first | (with_reducible assumption) | assumption) : a1.toNat ≤ 281474976710656)) (by omega)) (Below.refl _ _) (Nat.le_refl _) ?_; intro v109 w13 ho14 hb hg_ hnew_; clear hg_ hnew_; (first | rw [← Ny108.out] at ho14 | (simp only [Int.reduceToNat] at ho14; rw [← Ny108.out] at ho14)); have n0_ := Aside0.mk (Kd.R_lower ho14 (below_size (by repeat (first | (with_reducible first | exact HB.out | apply below_alloc | apply pw_below_drewN | apply below_drew1) | exact HB.out)))); have n1_ := Aside0.mk (below_step (by repeat (first | (with_reducible first | exact HB.out | apply below_alloc | apply pw_below_drewN | apply below_drew1) | exact HB.out)) hb); clear HB; have HO110 := n0_; have HB := n1_; clear n0_ n1_; clear hb ho14))
            go_loopg [24] kj2 (fun kq v24 w' => ∃ (x5_2 : List Int) (x24_2 : Int), v24 = .int .i64 x24_2 ∧ Aside0 (num_Put.l0 kq a0 x5_2 a1 x24_2 = some r) ∧ Aside0 (kq ≤ kj2) ∧ Aside0 (Kd.R (Kd.int .u8) 5 w' w.heap.size (fun _ => True) v109 x5_2) ∧ Aside0 (Below w.heap.size w w'))
            case atStart => exact ⟨(y108), (0), (by first | rfl | (simp; done) | (simp [*]; done)), H', ⟨Nat.le_refl _⟩, ⟨by (with_reducible repeat (first | apply Kd.R_alloc | apply Kd.R_drewN | apply Kd.R_drew)); exact HO110.out⟩, ⟨by repeat (first | (with_reducible first | exact HB.out | apply below_alloc | apply pw_below_drewN | apply below_drew1) | exact HB.out)⟩⟩
            case round =>
              clear H'
              try clear c1
              try clear p2
              try clear c4
              try clear c5
              try clear c6
              try clear c6b0
              try clear p6
              try clear c8
              try clear c8b0
              try clear c8b1
              try clear c10
              try clear c11
              try clear c11b0
              try clear c11b1
              try clear c12
              try clear c12b0
              try clear c12b1
              try clear p2
              try clear p6
              obtain ⟨x5_2, x24_2, rfl, HA, HK2, HO_5, HB⟩ := hrel
              cases gk with
              | zero => exact absurd HA.out (by simp [num_Put.l0])
              | succ k2 =>
                have H := HA.out
                clear HA
                simp only [num_Put.l0] at H
                by_cases c15 : x24_2 < a1
                · rw [if_pos c15] at H
                  have c15b0 : decide (x24_2 < a1) = true := decide_eq_true c15
                  clear c15
                  obtain ⟨ji16, hji16⟩ : ∃ j_ : Int, (wrap64 (8 * x24_2)) = j_ := ⟨_, rfl⟩
                  replace H : (if 0 ≤ (ji16) then (if 0 ≤ x24_2 then (if x24_2 < (x5_2.length : Int) then (num_Put.l0 k2 a0 (x5_2.set (x24_2 : Int).toNat ((shr .i64 a0 (ji16)) % 256)) a1 (wrap64 (x24_2 + 1))) else (none)) else (none)) else (none)) = some r := by first | (rw [hji16] at H; exact H) | (simp only [hji16] at H ⊢; exact H)
                  have hji16w : (IntKind.i64.wrap (8 * x24_2)) = ji16 := (i64_w _).trans hji16
                  by_cases c17 : 0 ≤ (ji16)
                  · rw [if_pos c17] at H
                    have c17b0 := eq_true c17
                    have c17b1 : decide (0 ≤ (ji16)) = true := decide_eq_true c17
                    clear c17
                    obtain ⟨ji18, hji18⟩ : ∃ j_ : Int, (shr .i64 a0 (ji16)) = j_ := ⟨_, rfl⟩
                    replace H : (if 0 ≤ x24_2 then (if x24_2 < (x5_2.length : Int) then (num_Put.l0 k2 a0 (x5_2.set (x24_2 : Int).toNat ((ji18) % 256)) a1 (wrap64 (x24_2 + 1))) else (none)) else (none)) = some r := by first | (rw [hji18] at H; exact H) | (simp only [hji18] at H ⊢; exact H)
                    have hji18_ : (a0 / 2 ^ min (ji16).toNat 64) = ji18 := hji18
                    have hji18z : (ji16) ≤ 64 → (a0 / 2 ^ (ji16).toNat) = ji18 := shr_small hji18
                    by_cases c19 : 0 ≤ x24_2
                    · rw [if_pos c19] at H
                      have c19b0 : decide (0 ≤ x24_2) = true := decide_eq_true c19
                      clear c19
                      by_cases c20 : x24_2 < (x5_2.length : Int)
                      · rw [if_pos c20] at H
                        have c20b0 : decide (x24_2 < (x5_2.length : Int)) = true := decide_eq_true c20
                        clear c20
                        obtain ⟨y111, hy111⟩ : ∃ y_ : List Int, y_ = (x5_2.set (x24_2 : Int).toNat ((ji18) % 256)) := ⟨_, rfl⟩
                        replace H : (num_Put.l0 k2 a0 y111 a1 (wrap64 (x24_2 + 1))) = some r := by first | (rw [hy111]; with_reducible exact H) | (have H2_ := (Option.bind_some _ _).symm.trans H; rw [hy111]; with_reducible exact H2_) | (have H2_ := (Option.bind_some _ _).symm.trans H; with_reducible exact H2_) | with_reducible exact H | (rw [hy111]; exact H) | exact H
                        have Ny111 := Aside0.mk hy111
                        clear hy111
                        have H' := Aside0.mk H
                        clear H
                        have p21 : 0 ≤ (x24_2 : Int) := of_decide_eq_true (by first | (with_reducible assumption) | assumption)
                        have q21 : (x24_2 : Int) < ((x5_2.length : Int) : Int) := of_decide_eq_true (by first | (with_reducible assumption) | assumption)
                        obtain ⟨go21, co21, eo21, gb21, gl21, cl21, HG21⟩ := Kd.R_form HO_5.out (by omega)
                        (first | cases eo21 | (injection eo21 with ea_ en_ ec_; (first | subst ea_ | (injection ea_ with ea_; subst ea_)); subst ec_; clear en_))
                        have GB21 := Aside0.mk gb21
                        have GG21 := Aside0.mk HG21
                        clear gb21 gl21 HG21
                        obtain ⟨hx21_0, hf21_0⟩ := Kd.R_celln 0 HO_5.out (x24_2 : Int) p21 q21
                        replace p21 := eq_true p21
                        replace q21 := eq_true q21
                        have HP22 := Kd.R_putg HO_5.out (x24_2 : Int) ((ji18) % 256)
                        go_wp2_with (first | ((with_reducible refine gate_store (t := 5) (p := 34) rfl ?_); refine store_event (t := 5) (p := 34) (v := ?vo_w23) (w1 := (wr.setCell ⟨go21, (x24_2 : Int).toNat, none⟩ (.int .u8 ((ji18) % 256)))) ?hg ?ho ?hn ?hr ?_; (case ho => rfl); (case hg => rfl); (case hn => rfl); (case hr => first | (go_simp; done) | (go_simp; rfl)); intro w23 hw; have hg : wr.grownBy w23 (some go21) := (by rw [hw]; exact HP22.2); have hp_ : Kd.R (Kd.int .u8) 5 w23 w.heap.size (fun _ => True) (.slice (some ⟨go21, 0, none⟩) x5_2.length co21) y111 := (by rw [hw, Ny111.out]; exact HP22.1); clear HP22; have n0_ := Aside0.mk (hp_); have n1_ := Aside0.mk ((by rw [hw]; exact below_set (HB.out) GB21.out : Below w.heap.size w w23)); clear HO_5; clear HB; have HO_5 := n0_; have HB := n1_; clear n0_ n1_; clear hg hw hp_))
                        go_roundg k2
                        case measure => have := HJ2.out; have := HK2.out; omega
                        case rel => exact ⟨(y111), (wrap64 (x24_2 + 1)), (by first | rfl | (simp; done) | (simp [*]; done)), H', ⟨by have := HJ2.out; have := HK2.out; omega⟩, ⟨by (with_reducible repeat (first | apply Kd.R_alloc | apply Kd.R_drewN | apply Kd.R_drew)); exact HO_5.out⟩, ⟨by repeat (first | (with_reducible first | exact HB.out | apply below_alloc | apply pw_below_drewN | apply below_drew1) | exact HB.out)⟩⟩
                      · rw [if_neg c20] at H
                        exact absurd H (by simp)
                    · rw [if_neg c19] at H
                      exact absurd H (by simp)
                  · rw [if_neg c17] at H
                    exact absurd H (by simp)
                · rw [if_neg c15] at H
                  have c15b0 : decide (x24_2 < a1) = false := decide_eq_false c15
                  clear c15
                  obtain rfl := Option.some.inj H
                  go_wp2
                  go_ret
                  exact ⟨_, by first | rfl | (simp [errW_none, errW_some] <;> rfl) | (simp [*, errW_none, errW_some] <;> rfl), by (with_reducible repeat (first | apply Kd.R_alloc | apply Kd.R_drewN | apply Kd.R_drew)); exact HO_5.out, by repeat (first | (with_reducible first | exact HB.out | apply below_alloc | apply pw_below_drewN | apply below_drew1) | exact HB.out)⟩
          · rw [if_neg c12] at H
            exact absurd H (by simp)
        · rw [if_neg c11] at H
          exact absurd H (by simp)

end Go.Proofs.Ythjnkapkhphpeaa.P
end
section
namespace Go.Proofs.Ythjnkapkhphpeaa.P
open Go.RowKit Go.Proofs.YthjnkapkhphpeaaW.PrintWords Go.Proofs.YthjnkapkhphpeaaW.PrintLast Go.Proofs.YthjnkapkhphpeaaW.PrintMore
attribute [local go_sem] max2_int min2_int max_two min_two max_three min_three max_four min_four
set_option linter.unusedVariables false
set_option linter.unusedSimpArgs false

/-! ### num_Take: function 49 -/
mutual
def num_Take.j0 : Nat → List Int → Int → Int → Bool → Option (Int × Int × Int)
  | 0, _, _, _, _ => none
  | k + 1, x0, x1, x2, x31 => if x31 = true then (some (0, 0, 2)) else (num_Take.l0 k x0 x1 x2 0 x2 0)
def num_Take.l0 : Nat → List Int → Int → Int → Int → Int → Int → Option (Int × Int × Int)
  | 0, _, _, _, _, _, _ => none
  | k + 1, x0, x1, x2, x9, x32, x33 => if x33 < x32 then (if 0 ≤ (wrap64 (x1 + x33)) then (if (wrap64 (x1 + x33)) < (x0.length : Int) then (if 0 ≤ (wrap64 (8 * x33)) then (num_Take.l0 k x0 x1 x2 (Go.bits .or .i64 x9 (shl .i64 (wrap64 (rd x0 (wrap64 (x1 + x33)))) (wrap64 (8 * x33)))) x32 (wrap64 (x33 + 1))) else (none)) else (none)) else (none)) else (some (x9, wrap64 (x1 + x2), 0))
end
def num_Take.f (k : Nat) (l0 : List Int) (a1 : Int) (a2 : Int) : Option (Int × Int × Int) := (num_isWide.f a2).bind fun t134 => (if t134 = true then (if a1 < 0 then (num_Take.j0 k l0 a1 a2 true) else (if a1 > (l0.length : Int) then (num_Take.j0 k l0 a1 a2 true) else (num_Take.j0 k l0 a1 a2 (decide (a2 > (wrap64 ((l0.length : Int) - a1))))))) else (num_Take.j0 k l0 a1 a2 true))
theorem num_Take.mono_l : ∀ k, (∀ y0 y1 y2 y3, LeO (num_Take.j0 k y0 y1 y2 y3) (num_Take.j0 (k + 1) y0 y1 y2 y3)) ∧ (∀ y0 y1 y2 y3 y4 y5, LeO (num_Take.l0 k y0 y1 y2 y3 y4 y5) (num_Take.l0 (k + 1) y0 y1 y2 y3 y4 y5))
  | 0 => ⟨fun _ _ _ _ r h => by simp [num_Take.j0] at h, fun _ _ _ _ _ _ r h => by simp [num_Take.l0] at h⟩
  | k + 1 => by
    obtain ⟨ih0, ih1⟩ := num_Take.mono_l k
    refine ⟨?_, ?_⟩
    · intro y0 y1 y2 y3
      unfold num_Take.j0
      repeat' first
      | (with_reducible exact ih0 _ _ _ _)
      | (with_reducible exact ih1 _ _ _ _ _ _)
      | (with_reducible exact LeO.refl _)
      | (with_reducible exact LeO.none _)
      | (with_reducible refine LeO.ite ?_ ?_)
      | (with_reducible refine LeO.bind ?_ (fun _ => ?_))
      | exact ih0 _ _ _ _
      | exact ih1 _ _ _ _ _ _
      | exact LeO.none _
      | refine LeO.ite ?_ ?_
      | refine LeO.bind ?_ (fun _ => ?_)
    · intro y0 y1 y2 y3 y4 y5
      unfold num_Take.l0
      repeat' first
      | (with_reducible exact ih0 _ _ _ _)
      | (with_reducible exact ih1 _ _ _ _ _ _)
      | (with_reducible exact LeO.refl _)
      | (with_reducible exact LeO.none _)
      | (with_reducible refine LeO.ite ?_ ?_)
      | (with_reducible refine LeO.bind ?_ (fun _ => ?_))
      | exact ih0 _ _ _ _
      | exact ih1 _ _ _ _ _ _
      | exact LeO.none _
      | refine LeO.ite ?_ ?_
      | refine LeO.bind ?_ (fun _ => ?_)
theorem num_Take.mono : ∀ a0 a1 a2 k, LeO (num_Take.f k a0 a1 a2) (num_Take.f (k + 1) a0 a1 a2) := by
  intro a0 a1 a2 k
  obtain ⟨ih0, ih1⟩ := num_Take.mono_l k
  unfold num_Take.f
  repeat' first
      | (with_reducible exact ih0 _ _ _ _)
      | (with_reducible exact ih1 _ _ _ _ _ _)
      | (with_reducible exact LeO.refl _)
      | (with_reducible exact LeO.none _)
      | (with_reducible refine LeO.ite ?_ ?_)
      | (with_reducible refine LeO.bind ?_ (fun _ => ?_))
      | exact ih0 _ _ _ _
      | exact ih1 _ _ _ _ _ _
      | exact LeO.none _
      | refine LeO.ite ?_ ?_
      | refine LeO.bind ?_ (fun _ => ?_)
set_option maxHeartbeats 8000000 in
set_option maxRecDepth 100000 in
theorem num_Take.calls (k : Nat) (A0 : Option Addr) (c0 : Nat) (l0 : List Int) (a1 : Int) (a2 : Int) (r1 : Int) (r2 : Int) (r3 : Int) (w : World) (hr0 : Kd.C (Kd.int .u8) w A0 l0.length l0) (hc0 : l0.length ≤ c0) (h : num_Take.f k l0 a1 a2 = some (r1, r2, r3)) :
    Calls Try.prog 49 #[.slice A0 l0.length c0, .int .i64 a1, .int .i64 a2] w fun e w' => e = .returned (.tuple #[.int .i64 r1, .int .i64 r2, .int .i64 r3]) ∧ Drawn0 w w' := by
  have HR0 := Aside0.mk hr0
  have HC0 := Aside0.mk hc0
  clear hr0 hc0
  have H : ((num_isWide.f a2).bind fun t134 => (if t134 = true then (if a1 < 0 then (num_Take.j0 k l0 a1 a2 true) else (if a1 > (l0.length : Int) then (num_Take.j0 k l0 a1 a2 true) else (num_Take.j0 k l0 a1 a2 (decide (a2 > (wrap64 ((l0.length : Int) - a1))))))) else (num_Take.j0 k l0 a1 a2 true))) = some (r1, r2, r3) := h
  clear h
  have HC4 := Aside0.mk H
  clear H
  go_enter Try.func49, Try.ntmps49
  go_upto_region 1 with (fail)
  go_cut [31] (fun v31 wc => ∃ (kq : Nat) (x31_3 : Bool), v31 = .bool x31_3 ∧ Aside0 (num_Take.j0 kq l0 a1 a2 x31_3 = some (r1, r2, r3)) ∧ Aside0 (kq ≤ k) ∧ Drawn0 w wc)
  case first =>
    have H := HC4.out
    clear HC4
    replace H := Option.bind_eq_some_iff.mp H
    obtain ⟨t134, A50, H⟩ := H
    replace H : (if t134 = true then (if a1 < 0 then (num_Take.j0 k l0 a1 a2 true) else (if a1 > (l0.length : Int) then (num_Take.j0 k l0 a1 a2 true) else (num_Take.j0 k l0 a1 a2 (decide (a2 > (wrap64 ((l0.length : Int) - a1))))))) else (num_Take.j0 k l0 a1 a2 true)) = some (r1, r2, r3) := H
    have A5 := Aside0.mk A50
    clear A50
    by_cases c6 : t134 = true
    · subst c6
      have H1 : (if a1 < 0 then (num_Take.j0 k l0 a1 a2 true) else (if a1 > (l0.length : Int) then (num_Take.j0 k l0 a1 a2 true) else (num_Take.j0 k l0 a1 a2 (decide (a2 > (wrap64 ((l0.length : Int) - a1))))))) = some (r1, r2, r3) := by rw [if_pos rfl] at H; exact H
      clear H
      have H := H1
      clear H1
      by_cases c7 : a1 < 0
      · rw [if_pos c7] at H
        have c7b0 : decide (a1 < 0) = true := decide_eq_true c7
        clear c7
        (first | rw [c7b0] | (simp only [i64_w, i32_w]; rw [c7b0]) | skip)
        have H' := Aside0.mk H
        clear H
        go_wp2_with (first | ((with_reducible refine gate_callee (f := 60) rfl ?_); refine goesL_ (some 12) rfl rfl Try.func60 (by kernel_rfl) rfl #[.int .i64 a2] rfl (by (try simp only [List.map_toArray, List.map_cons, List.map_nil]); first | done | rfl | (simp only [List.length_drop, List.length_take]; rfl)) ?_; (with_reducible refine (num_isWide.calls a2 true _ A5.out).mono ?_); rintro e w' ⟨rfl, ⟨nd, rfl⟩⟩; refine ⟨_, rfl, ?_⟩))
        go_meet
        case rel => exact ⟨_, (true), (by first | rfl | (simp; done) | (simp [*]; done)), H', ⟨by first | omega | exact Nat.le_refl _⟩, by repeat (first | exact Drawn0.refl _ | apply Drawn0.step)⟩
      · rw [if_neg c7] at H
        have c7b0 : decide (a1 < 0) = false := decide_eq_false c7
        clear c7
        (first | rw [c7b0] | (simp only [i64_w, i32_w]; rw [c7b0]) | skip)
        by_cases c8 : a1 > (l0.length : Int)
        · rw [if_pos c8] at H
          have c8b0 : decide ((l0.length : Int) < a1) = true := decide_eq_true c8
          clear c8
          have H' := Aside0.mk H
          clear H
          go_wp2_with (first | ((with_reducible refine gate_callee (f := 60) rfl ?_); refine goesL_ (some 12) rfl rfl Try.func60 (by kernel_rfl) rfl #[.int .i64 a2] rfl (by (try simp only [List.map_toArray, List.map_cons, List.map_nil]); first | done | rfl | (simp only [List.length_drop, List.length_take]; rfl)) ?_; (with_reducible refine (num_isWide.calls a2 true _ A5.out).mono ?_); rintro e w' ⟨rfl, ⟨nd, rfl⟩⟩; refine ⟨_, rfl, ?_⟩))
          go_meet
          case rel => exact ⟨_, (true), (by first | rfl | (simp; done) | (simp [*]; done)), H', ⟨by first | omega | exact Nat.le_refl _⟩, by repeat (first | exact Drawn0.refl _ | apply Drawn0.step)⟩
        · rw [if_neg c8] at H
          have c8b0 : decide ((l0.length : Int) < a1) = false := decide_eq_false c8
          clear c8
          have H' := Aside0.mk H
          clear H
          go_wp2_with (first | ((with_reducible refine gate_callee (f := 60) rfl ?_); refine goesL_ (some 12) rfl rfl Try.func60 (by kernel_rfl) rfl #[.int .i64 a2] rfl (by (try simp only [List.map_toArray, List.map_cons, List.map_nil]); first | done | rfl | (simp only [List.length_drop, List.length_take]; rfl)) ?_; (with_reducible refine (num_isWide.calls a2 true _ A5.out).mono ?_); rintro e w' ⟨rfl, ⟨nd, rfl⟩⟩; refine ⟨_, rfl, ?_⟩))
          go_meet
          case rel => exact ⟨_, (decide (a2 > (wrap64 ((l0.length : Int) - a1)))), (by first | rfl | (simp; done) | (simp [*]; done)), H', ⟨by first | omega | exact Nat.le_refl _⟩, by repeat (first | exact Drawn0.refl _ | apply Drawn0.step)⟩
    · replace c6 := Bool.eq_false_iff.mpr c6
      subst c6
      have H1 : (num_Take.j0 k l0 a1 a2 true) = some (r1, r2, r3) := by rw [if_neg (show ¬ (false = true) by decide)] at H; exact H
      clear H
      have H := H1
      clear H1
      have H' := Aside0.mk H
      clear H
      go_wp2_with (first | ((with_reducible refine gate_callee (f := 60) rfl ?_); refine goesL_ (some 12) rfl rfl Try.func60 (by kernel_rfl) rfl #[.int .i64 a2] rfl (by (try simp only [List.map_toArray, List.map_cons, List.map_nil]); first | done | rfl | (simp only [List.length_drop, List.length_take]; rfl)) ?_; (with_reducible refine (num_isWide.calls a2 false _ A5.out).mono ?_); rintro e w' ⟨rfl, ⟨nd, rfl⟩⟩; refine ⟨_, rfl, ?_⟩))
      go_meet
      case rel => exact ⟨_, (true), (by first | rfl | (simp; done) | (simp [*]; done)), H', ⟨by first | omega | exact Nat.le_refl _⟩, by repeat (first | exact Drawn0.refl _ | apply Drawn0.step)⟩
  case rest =>
    clear HC4
    try clear p2
    try clear c4
    try clear c6
    try clear p6
    try clear c7
    try clear c7b0
    try clear c8
    try clear c8b0
    obtain ⟨kq, x31_3, rfl, HA, HJ3, ⟨mc3, rfl⟩⟩ := hcut
    cases kq with
    | zero => exact absurd HA.out (by simp [num_Take.j0])
    | succ kj3 =>
      have H := HA.out
      clear HA
      simp only [num_Take.j0] at H
      by_cases c9 : x31_3 = true
      · subst c9
        have H1 : (some (0, 0, 2)) = some (r1, r2, r3) := by rw [if_pos rfl] at H; exact H
        clear H
        have H := H1
        clear H1
        simp only [Option.some.injEq, Prod.mk.injEq] at H
        obtain ⟨rfl, rfl, rfl⟩ := H
        go_wp2
        go_ret3
        exact ⟨by first | rfl | (simp; done) | (simp [*]; done), by repeat (first | exact Drawn0.refl _ | apply Drawn0.step)⟩
      · replace c9 := Bool.eq_false_iff.mpr c9
        subst c9
        have H1 : (num_Take.l0 kj3 l0 a1 a2 0 a2 0) = some (r1, r2, r3) := by rw [if_neg (show ¬ (false = true) by decide)] at H; exact H
        clear H
        have H := H1
        clear H1
        have H' := Aside0.mk H
        clear H
        go_wp2
        go_loopg [9, 33] kj3 (fun kq v9 v33 w' => ∃ (x9_2 : Int) (x33_2 : Int), v9 = .int .i64 x9_2 ∧ v33 = .int .i64 x33_2 ∧ Aside0 (num_Take.l0 kq l0 a1 a2 x9_2 a2 x33_2 = some (r1, r2, r3)) ∧ Aside0 (kq ≤ kj3) ∧ Drawn0 w w')
        case atStart => exact ⟨(0), (0), (by first | rfl | (simp; done) | (simp [*]; done)), (by first | rfl | (simp; done) | (simp [*]; done)), H', ⟨Nat.le_refl _⟩, by repeat (first | exact Drawn0.refl _ | apply Drawn0.step)⟩
        case round =>
          clear H'
          try clear p2
          try clear c3
          try clear c4
          try clear c6
          try clear p6
          try clear c7
          try clear c7b0
          try clear c8
          try clear c8b0
          try clear c9
          try clear p2
          try clear p6
          obtain ⟨x9_2, x33_2, rfl, rfl, HA, HK2, ⟨m2, rfl⟩⟩ := hrel
          cases gk with
          | zero => exact absurd HA.out (by simp [num_Take.l0])
          | succ k2 =>
            have H := HA.out
            clear HA
            simp only [num_Take.l0] at H
            by_cases c10 : x33_2 < a2
            · rw [if_pos c10] at H
              have c10b0 : decide (x33_2 < a2) = true := decide_eq_true c10
              clear c10
              obtain ⟨ji11, hji11⟩ : ∃ j_ : Int, (wrap64 (a1 + x33_2)) = j_ := ⟨_, rfl⟩
              replace H : (if 0 ≤ (ji11) then (if (ji11) < (l0.length : Int) then (if 0 ≤ (wrap64 (8 * x33_2)) then (num_Take.l0 k2 l0 a1 a2 (Go.bits .or .i64 x9_2 (shl .i64 (wrap64 (rd l0 (ji11))) (wrap64 (8 * x33_2)))) a2 (wrap64 (x33_2 + 1))) else (none)) else (none)) else (none)) = some (r1, r2, r3) := by first | (rw [hji11] at H; exact H) | (simp only [hji11] at H ⊢; exact H)
              have hji11w : (IntKind.i64.wrap (a1 + x33_2)) = ji11 := (i64_w _).trans hji11
              by_cases c12 : 0 ≤ (ji11)
              · rw [if_pos c12] at H
                have c12b0 : decide (0 ≤ (ji11)) = true := decide_eq_true c12
                clear c12
                by_cases c13 : (ji11) < (l0.length : Int)
                · rw [if_pos c13] at H
                  have c13b0 : decide ((ji11) < (l0.length : Int)) = true := decide_eq_true c13
                  clear c13
                  obtain ⟨ji14, hji14⟩ : ∃ j_ : Int, (wrap64 (8 * x33_2)) = j_ := ⟨_, rfl⟩
                  replace H : (if 0 ≤ (ji14) then (num_Take.l0 k2 l0 a1 a2 (Go.bits .or .i64 x9_2 (shl .i64 (wrap64 (rd l0 (ji11))) (ji14))) a2 (wrap64 (x33_2 + 1))) else (none)) = some (r1, r2, r3) := by first | (rw [hji14] at H; exact H) | (simp only [hji14] at H ⊢; exact H)
                  have hji14w : (IntKind.i64.wrap (8 * x33_2)) = ji14 := (i64_w _).trans hji14
                  by_cases c15 : 0 ≤ (ji14)
                  · rw [if_pos c15] at H
                    have c15b0 := eq_true c15
                    have c15b1 : decide (0 ≤ (ji14)) = true := decide_eq_true c15
                    clear c15
                    obtain ⟨ji16, hji16⟩ : ∃ j_ : Int, (shl .i64 (wrap64 (rd l0 (ji11))) (ji14)) = j_ := ⟨_, rfl⟩
                    replace H : (num_Take.l0 k2 l0 a1 a2 (Go.bits .or .i64 x9_2 (ji16)) a2 (wrap64 (x33_2 + 1))) = some (r1, r2, r3) := by first | (rw [hji16] at H; exact H) | (simp only [hji16] at H ⊢; exact H)
                    have hji16_ : (IntKind.i64.wrap ((wrap64 (rd l0 (ji11))) * 2 ^ min (ji14).toNat 64)) = ji16 := hji16
                    have hji16z : (ji14) ≤ 64 → (IntKind.i64.wrap ((wrap64 (rd l0 (ji11))) * 2 ^ (ji14).toNat)) = ji16 := shl_small hji16
                    have hji16y : (wrap64 ((wrap64 (rd l0 (ji11))) * 2 ^ min (ji14).toNat 64)) = ji16 := (i64_w _).symm.trans hji16_
                    have hji16x : (ji14) ≤ 64 → (wrap64 ((wrap64 (rd l0 (ji11))) * 2 ^ (ji14).toNat)) = ji16 := fun h_ => (i64_w _).symm.trans (hji16z h_)
                    have H' := Aside0.mk H
                    clear H
                    have p135 : 0 ≤ ((ji11) : Int) := of_decide_eq_true (by first | (with_reducible assumption) | assumption)
                    have q135 : (ji11) < (l0.length : Int) := of_decide_eq_true (by first | (with_reducible assumption) | assumption)
                    obtain ⟨ad135, e135, hx135_0⟩ := Kd.at_int HR0.out (ji11) p135 q135
                    cases e135
                    replace p135 := eq_true p135
                    replace q135 := eq_true q135
                    go_wp2
                    go_roundg k2
                    case measure => have := HJ3.out; have := HK2.out; omega
                    case rel => exact ⟨(Go.bits .or .i64 x9_2 (ji16)), (wrap64 (x33_2 + 1)), (by first | rfl | (simp; done) | (simp only [← hji16] <;> (first | rfl | simp)) | (simp [*]; done)), (by first | rfl | (simp; done) | (simp [*]; done)), H', ⟨by have := HJ3.out; have := HK2.out; omega⟩, by repeat (first | exact Drawn0.refl _ | apply Drawn0.step)⟩
                  · rw [if_neg c15] at H
                    exact absurd H (by simp)
                · rw [if_neg c13] at H
                  exact absurd H (by simp)
              · rw [if_neg c12] at H
                exact absurd H (by simp)
            · rw [if_neg c10] at H
              have c10b0 : decide (x33_2 < a2) = false := decide_eq_false c10
              clear c10
              simp only [Option.some.injEq, Prod.mk.injEq] at H
              obtain ⟨rfl, rfl, rfl⟩ := H
              go_wp2
              go_ret3
              exact ⟨by first | rfl | (simp; done) | (simp [*]; done), by repeat (first | exact Drawn0.refl _ | apply Drawn0.step)⟩

end Go.Proofs.Ythjnkapkhphpeaa.P
end
section
namespace Go.Proofs.Ythjnkapkhphpeaa.P
open Go.RowKit Go.Proofs.YthjnkapkhphpeaaW.PrintWords Go.Proofs.YthjnkapkhphpeaaW.PrintLast Go.Proofs.YthjnkapkhphpeaaW.PrintMore
set_option linter.unusedVariables false
set_option linter.unusedSimpArgs false
theorem w64 {x : Int} (h0 : -9223372036854775808 ≤ x) (h1 : x ≤ 9223372036854775807) : wrap64 x = x := by unfold wrap64; omega
/-- A number's four bytes, the lowest first. -/
def le4 (n : Int) : List Int := [n % 256, n / 256 % 256, n / 65536 % 256, n / 16777216 % 256]
def le (n w : Int) : List Int := (le4 n).take w.toNat
theorem pow4 {w : Int} (h1 : 1 ≤ w) (h4 : w ≤ 4) : w = 1 ∨ w = 2 ∨ w = 3 ∨ w = 4 := by omega
theorem Put_val (k : Nat) (n w : Int) (h1 : 1 ≤ w) (h4 : w ≤ 4) (h0 : 0 ≤ n) (hn : n < 256 ^ w.toNat) : num_Put.f (k + 6) n w = some (le n w) := by
  rcases pow4 h1 h4 with rfl | rfl | rfl | rfl
  all_goals
    simp at hn
    have hz : ¬ n < 0 := by omega
    simp [num_Put.f, num_isWide.f, num_Put.j0, num_Put.l0, wrap64, shr, hz, IntKind.bits, le, le4]
    omega
theorem Put_none (k : Nat) (n w : Int) (h : ¬ (1 ≤ w ∧ w ≤ 4 ∧ 0 ≤ n ∧ n < 256 ^ w.toNat)) : num_Put.f (k + 6) n w = some [] := by
  by_cases h1 : 1 ≤ w
  · by_cases h4 : w ≤ 4
    · by_cases h0 : 0 ≤ n
      · have hn : ¬ n < 256 ^ w.toNat := fun hn => h ⟨h1, h4, h0, hn⟩
        rcases pow4 h1 h4 with rfl | rfl | rfl | rfl
        all_goals
          simp at hn
          have hz : ¬ n < 0 := by omega
          simp [num_Put.f, num_isWide.f, num_Put.j0, wrap64, shr, hz, IntKind.bits]
          omega
      · simp [num_Put.f, num_isWide.f, num_Put.j0, h1, h4, show n < 0 by omega]
    · simp [num_Put.f, num_isWide.f, num_Put.j0, h1, h4]
  · simp [num_Put.f, num_isWide.f, num_Put.j0, h1]
theorem or_comm64 (x y : Int) : Go.bits .or .i64 x y = Go.bits .or .i64 y x := by
  simp only [Go.bits]
  rw [BitVec.or_comm]
theorem wrap_i64 (n : Int) (h0 : 0 ≤ n) (h1 : n < 2 ^ 63) : IntKind.i64.wrap n = n := by rw [IntKind.wrap_i64]; omega
theorem or_shl (x b : Int) (i : Nat) (hi : i ≤ 3) (h0 : 0 ≤ x) (h1 : x < 2 ^ (8 * i)) (hb : 0 ≤ b) (hb1 : b < 256) : Go.bits .or .i64 x (shl .i64 (wrap64 b) ((8 * i : Nat) : Int)) = x + 2 ^ (8 * i) * b := by
  have e : shl .i64 (wrap64 b) ((8 * i : Nat) : Int) = 2 ^ (8 * i) * b := by
    rw [w64 (by omega) (by omega)]
    unfold shl
    rw [Int.toNat_natCast, Nat.min_eq_left (by simp [IntKind.bits]; omega), Int.mul_comm]
    rcases (show i = 0 ∨ i = 1 ∨ i = 2 ∨ i = 3 by omega) with rfl | rfl | rfl | rfl <;> simp <;> rw [wrap_i64 _ (by omega) (by omega)]
  rw [e, or_comm64]
  have hj : ∀ m : Nat, m ≤ 24 → (2 : Int) ^ m * b % 2 ^ m = 0 := fun m _ => Int.mul_emod_right _ _
  have hz := hj (8 * i) (by omega)
  have hlt : (2 : Int) ^ (8 * i) * b < 2 ^ 63 ∧ 0 ≤ (2 : Int) ^ (8 * i) * b ∧ (2 : Int) ^ (8 * i) < 2 ^ 63 := by
    rcases (show i = 0 ∨ i = 1 ∨ i = 2 ∨ i = 3 by omega) with rfl | rfl | rfl | rfl <;> simp <;> omega
  rw [bits_join .i64 63 (by decide) wrap_i64 (8 * i) _ x hlt.2.1 hz hlt.1 h0 h1 (by omega)]
  omega
theorem lt_of_all {l : List Int} (hb : ∀ x ∈ l, 0 ≤ x ∧ x < 256) (i : Int) : 0 ≤ rd l i ∧ rd l i < 256 := by
  unfold rd
  rw [List.getD_eq_getElem?_getD]
  cases h : l[i.toNat]? with
  | none => simp
  | some x => simpa using hb x (List.mem_of_getElem? h)
/-- The number of w bytes that stands there. -/
def lev (l : List Int) (a w : Int) : Int := rd l a + (if 1 < w then 256 * rd l (a + 1) else 0) + (if 2 < w then 65536 * rd l (a + 2) else 0) + (if 3 < w then 16777216 * rd l (a + 3) else 0)
theorem Take_val (k : Nat) (l : List Int) (a w : Int) (hl : l.length ≤ 140737488355328) (hb : ∀ x ∈ l, 0 ≤ x ∧ x < 256) (h1 : 1 ≤ w) (h4 : w ≤ 4) (h0 : 0 ≤ a) (ha : a + w ≤ l.length) : num_Take.f (k + 6) l a w = some (lev l a w, a + w, 0) := by
  have b0 := lt_of_all hb a
  have b1 := lt_of_all hb (a + 1)
  have b2 := lt_of_all hb (a + 2)
  have b3 := lt_of_all hb (a + 3)
  have hz : ¬ a < 0 := by omega
  have hz2 : ¬ (l.length : Int) < a := by omega
  have e0 := or_shl 0 (rd l a) 0 (by omega) (by omega) (by omega) b0.1 b0.2
  have e1 := or_shl (rd l a) (rd l (a + 1)) 1 (by omega) b0.1 (by omega) b1.1 b1.2
  have e2 := or_shl (rd l a + 256 * rd l (a + 1)) (rd l (a + 2)) 2 (by omega) (by omega) (by omega) b2.1 b2.2
  have e3 := or_shl (rd l a + 256 * rd l (a + 1) + 65536 * rd l (a + 2)) (rd l (a + 3)) 3 (by omega) (by omega) (by omega) b3.1 b3.2
  simp at e0 e1 e2 e3
  have ew : wrap64 ((l.length : Int) - a) = l.length - a := w64 (by omega) (by omega)
  have c0 : a < l.length := by omega
  have q0 : wrap64 a = a := w64 (by omega) (by omega)
  have q1 : wrap64 (a + 1) = a + 1 := w64 (by omega) (by omega)
  have q2 : wrap64 (a + 2) = a + 2 := w64 (by omega) (by omega)
  have q3 : wrap64 (a + 3) = a + 3 := w64 (by omega) (by omega)
  have q4 : wrap64 (a + 4) = a + 4 := w64 (by omega) (by omega)
  have v1 : (0 : Int) ≤ a + 1 := by omega
  have v2 : (0 : Int) ≤ a + 2 := by omega
  have v3 : (0 : Int) ≤ a + 3 := by omega
  rcases pow4 h1 h4 with rfl | rfl | rfl | rfl
  · have hz3 : ¬ (l.length : Int) - a < 1 := by omega
    simp [num_Take.f, num_isWide.f, num_Take.j0, num_Take.l0, hz, hz2, ew, hz3, w64, h0, c0, e0, lev, q0, q1, q2, q3, q4]
  · have hz3 : ¬ (l.length : Int) - a < 2 := by omega
    have c1 : a + 1 < l.length := by omega
    simp [num_Take.f, num_isWide.f, num_Take.j0, num_Take.l0, hz, hz2, ew, hz3, w64, h0, c0, c1, e0, e1, lev, q0, q1, q2, q3, q4, v1]
  · have hz3 : ¬ (l.length : Int) - a < 3 := by omega
    have c1 : a + 1 < l.length := by omega
    have c2 : a + 2 < l.length := by omega
    simp [num_Take.f, num_isWide.f, num_Take.j0, num_Take.l0, hz, hz2, ew, hz3, w64, h0, c0, c1, c2, e0, e1, e2, lev, q0, q1, q2, q3, q4, v1, v2]
  · have hz3 : ¬ (l.length : Int) - a < 4 := by omega
    have c1 : a + 1 < l.length := by omega
    have c2 : a + 2 < l.length := by omega
    have c3 : a + 3 < l.length := by omega
    simp [num_Take.f, num_isWide.f, num_Take.j0, num_Take.l0, hz, hz2, ew, hz3, w64, h0, c0, c1, c2, c3, e0, e1, e2, e3, lev, q0, q1, q2, q3, q4, v1, v2, v3]
theorem Take_none (k : Nat) (l : List Int) (a w : Int) (hl : l.length ≤ 140737488355328) (hw : -9223372036854775808 ≤ w) (h : ¬ (1 ≤ w ∧ w ≤ 4 ∧ 0 ≤ a ∧ a + w ≤ l.length)) : num_Take.f (k + 6) l a w = some (0, 0, 2) := by
  by_cases h1 : 1 ≤ w
  · by_cases h4 : w ≤ 4
    · by_cases h0 : 0 ≤ a
      · by_cases h2 : (l.length : Int) < a
        · simp [num_Take.f, num_isWide.f, num_Take.j0, h1, h4, show ¬ a < 0 by omega, h2]
        · have ew : wrap64 ((l.length : Int) - a) = l.length - a := w64 (by omega) (by omega)
          simp [num_Take.f, num_isWide.f, num_Take.j0, h1, h4, show ¬ a < 0 by omega, h2, ew]
          omega
      · simp [num_Take.f, num_isWide.f, num_Take.j0, h1, h4, show a < 0 by omega]
    · simp [num_Take.f, num_isWide.f, num_Take.j0, h1, h4]
  · simp [num_Take.f, num_isWide.f, num_Take.j0, h1]
end Go.Proofs.Ythjnkapkhphpeaa.P
end
section
namespace Go.Proofs.Ythjnkapkhphpeaa.P
open Go.RowKit Go.Proofs.YthjnkapkhphpeaaW.PrintWords Go.Proofs.YthjnkapkhphpeaaW.PrintLast Go.Proofs.YthjnkapkhphpeaaW.PrintMore
set_option linter.unusedVariables false
set_option linter.unusedSimpArgs false
def crc (l : List Int) : Int := wrap64 (Go.bits .xor .u32 IntKind.u32.max (regI l))
def pad (l : List Int) : List Int := l ++ List.replicate (36 - l.length) 0
def zs40 : List Value := List.replicate 40 (.int .u8 0)
theorem splice_pad (l0 : List Int) (h : l0.length ≤ 36) : (splice zs40 0 (encs (Value.int .u8) l0)).take 36 = encs (Value.int .u8) (pad l0) := by
  simp only [splice, List.take_zero, List.nil_append, Nat.zero_add, zs40, encs, pad, List.length_map, List.drop_replicate, List.map_append, List.map_replicate]
  rw [List.take_append, List.length_map, List.take_of_length_le (by simpa using h), List.take_replicate]
  congr 2
  omega
theorem crc_bd (l : List Int) : 0 ≤ crc l ∧ crc l < 4294967296 := by
  unfold crc
  have := xor_bd IntKind.u32.max (regI l)
  rw [w64 (by omega) (by omega)]
  exact this
def num_Seal.f (l0 : List Int) : Option (ByteArray × Int) := if 36 < l0.length then some (⟨#[]⟩, 1) else some (strOfNums (pad l0 ++ le (crc (pad l0)) 4), 0)
set_option maxHeartbeats 4000000 in
set_option maxRecDepth 100000 in
theorem num_Seal.calls (A0 : Option Addr) (c0 : Nat) (l0 : List Int) (r1 : ByteArray) (r2 : Int) (w : World) (hr0 : Kd.C (Kd.int .u8) w A0 l0.length l0) (hc0 : l0.length ≤ c0) (h : num_Seal.f l0 = some (r1, r2)) :
    Calls Try.prog 44 #[.slice A0 l0.length c0] w fun e w' => e = .returned (.tuple #[.string r1, .int .i64 r2]) ∧ Below w.heap.size w w' := by
  have HR0 := Aside0.mk hr0
  have HC0 := Aside0.mk hc0
  have HH := Aside0.mk h
  clear hr0 hc0 h
  by_cases hl : 36 < l0.length
  · go_enter Try.func44, Try.ntmps44
    go_wp2
    go_ret2
    have H := HH.out
    simp [num_Seal.f, hl] at H
    obtain ⟨rfl, rfl⟩ := H
    exact ⟨rfl, Below.refl _ _⟩
  · have hmk : ∀ w, (Instr.makeSlice 24 (.int .i64 36) (.int .i64 40)).run Try.prog w = .ok (.slice (some ⟨w.heap.size, 0, none⟩) 36 40) (w.alloc (.cells zs40.toArray 5)) := fun _ => by kernel_rfl
    have hlz : zs40.length = 40 := rfl
    go_enter Try.func44, Try.ntmps44
    go_wp2_with (with_reducible refine wpList_copy_splice rfl (.tmp 9) (.tmp 10) 24 24 rfl 5 Try.underlying24 (by kernel_rfl) _ _ 36 40 l0.length c0 rfl rfl w.heap.size 0 zs40 5 ?c1 (encs (Value.int .u8) l0) ?c2 ?c3 ?c4 ?c5 w.heap.size w ?c6 (Nat.le_refl _) ?_)
    case c1 =>
      show (w.heap.push (.cells zs40.toArray 5))[w.heap.size]? = _
      simp
    case c2 =>
      show _ = min l0.length 36
      simp [encs]
      omega
    case c3 =>
      intro hp
      have hp2 : 0 < l0.length := by simpa [encs] using hp
      have hp' : (0 : Int) < l0.length := by omega
      obtain ⟨ad, hA, _⟩ := Kd.at_int HR0.out 0 (by omega) hp'
      refine ⟨ad, hA, fun j v hv => ?_⟩
      have hj : j < l0.length := by have := (List.getElem?_eq_some_iff.1 hv).1; simpa [encs] using this
      obtain ⟨ad', hA', hc⟩ := Kd.at_int HR0.out j (by omega) (by omega)
      rw [hA] at hA'
      injection hA' with hA'
      subst hA'
      rw [Int.toNat_natCast] at hc
      have he := encs_get (enc := Value.int .u8) (d := (0 : Int)) l0 j hj
      rw [he] at hv
      injection hv with hv
      rw [← hv]
      have hlt := World.block_lt_of_cell? w _ hc
      rw [World.cell?_alloc_lt _ _ _ hlt, hc]
      simp [rd]
    case c4 => rw [hlz]; simp [encs]; omega
    case c5 => intro v hv; simp [encs] at hv; obtain ⟨a, _, rfl⟩ := hv; rfl
    case c6 => exact (Below.refl _ _).alloc (Nat.le_refl _) _
    intro w1 hg1 hb1
    have HB1 := Aside0.mk hb1
    have HO : Aside0 (Kd.R (Kd.int .u8) 5 w1 w.heap.size (fun _ => True) (.slice (some ⟨w.heap.size, 0, none⟩) 36 40) (pad l0)) := by
      refine ⟨?_⟩
      have hp : (pad l0).length = 36 := by simp [pad]; omega
      refine Kd.R_of_own ?_ (fun _ _ => trivial)
      rw [hp]
      refine ⟨by simp [encs, hp], .inr ⟨w.heap.size, 40, _, rfl, Nat.le_refl _, hg1.out, by omega, by simp [maxLen], ?_, ?_⟩⟩
      · simp [length_splice, splice, zs40, encs]; omega
      · rw [Nat.mul_one]
        exact splice_pad l0 (by omega)
    clear hg1 hb1
    have hpl : (pad l0).length = 36 := by simp [pad]; omega
    obtain ⟨A1, c1, hv1, hc1, hC1⟩ := Kd.R_reads HO.out
    rw [hpl] at hv1 hC1 hc1
    injection hv1 with hA1 _ hcc1
    subst hA1; subst hcc1
    have hs := sum_walk (some ⟨w.heap.size, 0, none⟩) 40 (pad l0) w1 (by rw [hpl]; exact hC1) (by omega) (by omega)
    rw [hpl] at hs
    go_wp2_with fail
    refine hs.mono ?_
    rintro e w2 ⟨rfl, ⟨nd, rfl⟩⟩
    have hcb := crc_bd (pad l0)
    have hput := num_Put.calls 6 (crc (pad l0)) 4 _ (w1.drewN nd) (Put_val 0 _ 4 (by omega) (by omega) hcb.1 (by simpa using hcb.2))
    go_wp2_with fail
    refine hput.mono ?_
    rintro e w3 ⟨v3, rfl, hR3, hb3⟩
    obtain ⟨A3, c3, rfl, hc3, hC3⟩ := Kd.R_reads hR3
    have HR3 := Aside0.mk hR3
    have HB3 := Aside0.mk hb3
    have HC3 := Aside0.mk hC3
    have HO3 := Aside0.mk (Kd.R_below (Kd.R_drewN HO.out nd) hb3)
    clear hR3 hb3 hC3 hcb hput hs
    have hll : (le (crc (pad l0)) 4).length = 4 := rfl
    go_wp2_with (at_builtin; refine Kd.R_append_rows (Kd.int .u8) (w0 := w) w.heap.size rfl (.tmp 12) (.tmp 15) 24 5 (.int .u8 0) 1 rfl Try.underlying24 info5 rfl (by decide) (by omega) (.slice (some ⟨w.heap.size, 0, none⟩) 36 40) (pad l0) (le (crc (pad l0)) 4) A3 (le (crc (pad l0)) 4).length c3 (fun _ => True) (fun _ => False) rfl rfl ?aO ?aR (fun _ _ h => h) (fun _ h => h.elim) (fun _ _ => trivial) ?aB ?aS ?aL ?_)
    case aO => exact HO3.out
    case aR => exact HC3.out
    case aB => exact (HB1.out.trans (pw_below_drewN (Below.refl _ _) nd)).trans (HB3.out.mono HB1.out.size)
    case aS => exact Nat.le_trans HB1.out.size HB3.out.size
    case aL => rw [hpl, hll]; omega
    intro v4 w4 hR4 hB4 hg4 hv4
    obtain ⟨L, hL⟩ : ∃ L, pad l0 ++ le (crc (pad l0)) 4 = L := ⟨_, rfl⟩
    rw [hL] at hR4
    have HL := Aside0.mk hL
    clear hL
    obtain ⟨A4, c4, rfl, hc4, hC4⟩ := Kd.R_reads hR4
    have hcv := Kd.C_string (P := Try.prog) (A := A4) (c := c4) Try.underlying24 Try.underlying5 Try.underlying9 hC4
    have HB4 := Aside0.mk hB4
    clear hR4 hg4 hv4 hB4 hC4
    go_wp2
    go_ret2
    have H := HH.out
    simp only [num_Seal.f, if_neg hl, Option.some.injEq, Prod.mk.injEq] at H
    obtain ⟨rfl, rfl⟩ := H
    exact ⟨by rw [HL.out]; rfl, HB4.out⟩
end Go.Proofs.Ythjnkapkhphpeaa.P
end
section
/- '[]byte(s)': the row that it lays, as a row that is read. -/
namespace Go.Proofs.Ythjnkapkhphpeaa.P
set_option linter.unusedVariables false
set_option linter.unusedSimpArgs false
open Go.RowKit Go.Proofs.YthjnkapkhphpeaaW.PrintWords Go.Proofs.YthjnkapkhphpeaaW.PrintLast Go.Proofs.YthjnkapkhphpeaaW.PrintMore
section
variable {P : Program} {ops : Array Oper} {rest : List Oper} {o : Oper} {a : Act} {Q : Exit → Act → World → Prop}
theorem bytes_below {base : Nat} {w0 W : World} (e : TypeId) (s : ByteArray) (HB : Below base w0 W) (hbase : base ≤ W.heap.size) : Below base w0 (Lib.bytesWorld W e s) :=
  HB.trans ⟨by simp [Lib.bytesWorld, World.freeze]; rfl, by simp [Lib.bytesWorld, World.freeze], by simp [Lib.bytesWorld, World.freeze]; rfl, by rw [Lib.bytesWorld_size]; omega, fun k hk => Lib.bytesWorld_at_old W e s k (by omega)⟩
theorem bytes_foot (W : World) (e : TypeId) (s : ByteArray) (hm : s.size ≤ 9223372036854775807) : Kd.F (Kd.int .u8) (Lib.bytesWorld W e s) (fun k => W.heap.size ≤ k) (some ⟨W.heap.size, 0, none⟩) (bytesOf s).length (bytesOf s) := by
  intro W' hW'
  have hb := hW' W.heap.size (Nat.le_refl _) (by rw [Lib.bytesWorld_size]; omega)
  refine Kd.C_of_reads (d := (0 : Int)) ?_
  refine ⟨rfl, by rw [bytesOf_length]; exact hm, fun h => ⟨⟨W.heap.size, 0, none⟩, rfl, fun j hj => ?_⟩⟩
  rw [bytesOf_length] at hj
  rw [add_plain]
  have h1 : W'.cell? ⟨W.heap.size, j, none⟩ = (Lib.bytesWorld W e s).cell? ⟨W.heap.size, j, none⟩ := World.cell?_of_block (a := ⟨W.heap.size, j, none⟩) hb
  rw [h1, Lib.bytesWorld_cell W e s j hj]
  have hj' : j < s.data.toList.length := by rw [data_length]; exact hj
  have hj2 : j < s.data.size := hj
  simp [bytesOf, List.getD_eq_getElem?_getD]
  rw [Array.getElem?_eq_getElem hj2]
  rfl
theorem V_conv {w0 W : World} (base : Nat) (hgd : o.guard = none) (src dst e : TypeId) (x : Operand) (ho : o.op = .convert src dst x) (s : ByteArray) (hx : a.eval x = .string s) {u : TypeDesc}
    (hs : P.underlying src = some u) (hd : P.underlying dst = some (.slice e)) (he : P.underlying e = some (.int .u8)) (hm : s.size ≤ 9223372036854775807) (HB : Below base w0 W) (hbase : base ≤ W.heap.size)
    (h : ∀ v1 w1, Kd.V (Kd.int .u8) e w1 base (fun k => W.heap.size ≤ k) v1 (bytesOf s) → Below base w0 w1 → W.grownBy w1 none → wpList P ops Q rest (a.put o.dst v1) w1) : wpList P ops Q (o :: rest) a W := by
  refine Go.Proofs.YthjnkapkhphpeaaW.PrintWords.Kd.event_run (w1 := Lib.bytesWorld W e s) (v := .slice (some ⟨W.heap.size, 0, none⟩) (bytesOf s).length (grownCap W s.size 0 e)) hgd ?_ (h _ _ ?_ (bytes_below e s HB hbase) ?_)
  · rw [bytesOf_length]
    simp [execOp, ho, hx, Lib.run_convert_string_bytes W src dst e s hs hd he]
  · exact Kd.V_mk (by rw [bytesOf_length]; exact grownCap_ge _ _ _ _) (bytes_foot W e s hm)
  · have := bytes_below (base := W.heap.size) e s (Below.refl _ W) (Nat.le_refl _)
    exact ⟨this.os, this.tape, this.output, this.size, fun k hk _ => this.block k hk⟩
end
end Go.Proofs.Ythjnkapkhphpeaa.P
end
section
namespace Go.Proofs.Ythjnkapkhphpeaa.P
open Go.RowKit Go.Proofs.YthjnkapkhphpeaaW.PrintWords Go.Proofs.YthjnkapkhphpeaaW.PrintLast Go.Proofs.YthjnkapkhphpeaaW.PrintMore
set_option linter.unusedVariables false
set_option linter.unusedSimpArgs false
/-- Is it a sealed block? -/
def isSealed (b : List Int) : Bool := decide (b.length = 40) && decide (lev b 36 4 = crc (b.take 36))
def num_Open.f (a0 : ByteArray) : Option (List Int × Int) := if isSealed (bytesOf a0) = true then some ((bytesOf a0).take 36, 0) else some ([], 2)
theorem bytesOf_bd (s : ByteArray) : ∀ x ∈ bytesOf s, 0 ≤ x ∧ x < 256 := by
  intro x hx
  simp only [bytesOf, List.mem_map] at hx
  obtain ⟨b, _, rfl⟩ := hx
  have := b.toNat_lt
  omega
set_option maxHeartbeats 4000000 in
set_option maxRecDepth 100000 in
theorem num_Open.calls (a0 : ByteArray) (r1 : List Int) (r2 : Int) (w : World) (h : num_Open.f a0 = some (r1, r2)) :
    Calls Try.prog 47 #[.string a0] w fun e w' => ∃ v0_ : Value, e = .returned (.tuple #[v0_, .int .i64 r2]) ∧ Kd.V (Kd.int .u8) 5 w' w.heap.size (fun k_ => w.heap.size ≤ k_) v0_ r1 ∧ Below w.heap.size w w' := by
  have HH := Aside0.mk h
  clear h
  by_cases h40 : a0.size = 40
  · have hb : (bytesOf a0).length = 40 := by rw [bytesOf_length]; exact h40
    have h40b : ((a0.size : Int) != 40) = false := by rw [h40]; rfl
    go_enter Try.func47, Try.ntmps47
    go_wp2_with ((with_reducible refine gate_dst (N := 12) rfl ?_); refine V_conv (w0 := w) w.heap.size rfl 9 24 5 (.tmp 11) rfl a0 rfl Try.underlying9 Try.underlying24 Try.underlying5 (by omega) (Below.refl _ _) (Nat.le_refl _) ?_)
    intro v1 w1 hV hB hg
    clear hg
    obtain ⟨A1, c1, rfl, hc1, hF⟩ := hV
    have HF := Aside0.mk hF
    have HB := Aside0.mk hB
    clear hF hB
    rw [hb] at hc1
    have HC := Aside0.mk (Kd.F_now HF.out)
    have hbd := bytesOf_bd a0
    have htk := num_Take.calls 6 A1 c1 (bytesOf a0) 36 4 _ _ _ w1 HC.out (by omega) (Take_val 0 _ 36 4 (by omega) hbd (by omega) (by omega) (by omega) (by omega))
    obtain ⟨x, hx⟩ : ∃ x, lev (bytesOf a0) 36 4 = x := ⟨_, rfl⟩
    rw [hx] at htk
    have HX := Aside0.mk hx
    clear hx hbd
    rw [hb]
    rw [hb] at htk
    go_wp2_with fail
    refine htk.mono ?_
    rintro e w2 ⟨rfl, ⟨nd, rfl⟩⟩
    clear htk
    have hlt : ((bytesOf a0).take 36).length = 36 := by rw [List.length_take, hb]; rfl
    have hsm := sum_walk A1 c1 ((bytesOf a0).take 36) (w1.drewN nd) (Kd.C_drewN (Kd.C_take HC.out (by omega)) nd) (by omega) (by omega)
    rw [hlt] at hsm
    obtain ⟨y, hy⟩ : ∃ y, crc ((bytesOf a0).take 36) = y := ⟨_, rfl⟩
    have HY := Aside0.mk hy
    have hsm' : Calls Try.prog 52 #[.slice A1 36 c1] (w1.drewN nd) fun e w' => e = .returned (.int .i64 y) ∧ Drawn0 (w1.drewN nd) w' := by rw [← hy]; exact hsm
    clear hsm hy hlt hb
    go_wp2_with fail
    refine hsm'.mono ?_
    rintro e w2 ⟨rfl, ⟨nd2, rfl⟩⟩
    clear hsm'
    by_cases hxy : x = y
    · have hxb : (x != y) = false := by rw [hxy]; simp
      have HXY := Aside0.mk hxy
      clear hxy
      go_wp2
      have H := HH.out
      have hb : (bytesOf a0).length = 40 := by rw [bytesOf_length]; exact h40
      have hlt : ((bytesOf a0).take 36).length = 36 := by rw [List.length_take, hb]; rfl
      have hns : isSealed (bytesOf a0) = true := by simp [isSealed, HX.out, HY.out, HXY.out, hb]
      simp only [num_Open.f, hns, if_true, Option.some.injEq, Prod.mk.injEq] at H
      obtain ⟨rfl, rfl⟩ := H
      have hV : Kd.V (Kd.int .u8) 5 w1 w.heap.size (fun k_ => w.heap.size ≤ k_) (.slice A1 ((bytesOf a0).take 36).length 36) ((bytesOf a0).take 36) := Kd.V_mk (by omega) (Kd.F_take HF.out (by omega))
      rw [hlt] at hV
      go_ret2
      exact ⟨_, rfl, Kd.V_drewN hV _, pw_below_drewN HB.out _⟩
    · have hxb : (x != y) = true := by rw [bne_iff_ne]; exact hxy
      have HXY := Aside0.mk hxy
      clear hxy
      go_wp2
      have H := HH.out
      have hns : isSealed (bytesOf a0) = false := by simp [isSealed, HX.out, HY.out, HXY.out]
      simp only [num_Open.f, hns, Bool.false_eq_true, if_false, Option.some.injEq, Prod.mk.injEq] at H
      obtain ⟨rfl, rfl⟩ := H
      go_ret2
      exact ⟨_, rfl, Kd.V_nil _ _ _ _ _, pw_below_drewN HB.out _⟩
  · have h40b : ((a0.size : Int) != 40) = true := by rw [bne_iff_ne]; omega
    go_enter Try.func47, Try.ntmps47
    go_wp2
    have H := HH.out
    have hns : isSealed (bytesOf a0) = false := by simp [isSealed, bytesOf_length, h40]
    simp only [num_Open.f, hns, Bool.false_eq_true, if_false, Option.some.injEq, Prod.mk.injEq] at H
    obtain ⟨rfl, rfl⟩ := H
    go_ret2
    exact ⟨_, rfl, Kd.V_nil _ _ _ _ _, Below.refl _ _⟩
end Go.Proofs.Ythjnkapkhphpeaa.P
end
section
namespace Go.Proofs.Ythjnkapkhphpeaa.P
open Go.RowKit Go.Proofs.YthjnkapkhphpeaaW.PrintWords Go.Proofs.YthjnkapkhphpeaaW.PrintLast Go.Proofs.YthjnkapkhphpeaaW.PrintMore
attribute [local go_sem] max2_int min2_int max_two min_two max_three min_three max_four min_four
set_option linter.unusedVariables false
set_option linter.unusedSimpArgs false

/-! ### assartref01_Take: function 51 -/
mutual
def assartref01_Take.j0 : Nat → List Int → Int → Int → Bool → Option (Int × Int × Int)
  | 0, _, _, _, _ => none
  | k + 1, x0, x1, x2, x34 => if x34 = true then (some (0, 0, 2)) else (assartref01_Take.l0 k x0 x1 x2 0 (wrap64 (x2 - 1)))
def assartref01_Take.l0 : Nat → List Int → Int → Int → Int → Int → Option (Int × Int × Int)
  | 0, _, _, _, _, _ => none
  | k + 1, x0, x1, x2, x9, x10 => if x10 ≥ 0 then (if 0 ≤ (wrap64 (x1 + x10)) then (if (wrap64 (x1 + x10)) < (x0.length : Int) then (assartref01_Take.l0 k x0 x1 x2 (wrap64 ((wrap64 (x9 * 256)) + (wrap64 (rd x0 (wrap64 (x1 + x10)))))) (wrap64 (x10 - 1))) else (none)) else (none)) else (some (x9, wrap64 (x1 + x2), 0))
end
def assartref01_Take.f (k : Nat) (l0 : List Int) (a1 : Int) (a2 : Int) : Option (Int × Int × Int) := if a2 < 1 then (assartref01_Take.j0 k l0 a1 a2 true) else (if a2 > 4 then (assartref01_Take.j0 k l0 a1 a2 true) else (if a1 < 0 then (assartref01_Take.j0 k l0 a1 a2 true) else (if a1 > (l0.length : Int) then (assartref01_Take.j0 k l0 a1 a2 true) else (assartref01_Take.j0 k l0 a1 a2 (decide ((wrap64 ((l0.length : Int) - a1)) < a2))))))
theorem assartref01_Take.mono_l : ∀ k, (∀ y0 y1 y2 y3, LeO (assartref01_Take.j0 k y0 y1 y2 y3) (assartref01_Take.j0 (k + 1) y0 y1 y2 y3)) ∧ (∀ y0 y1 y2 y3 y4, LeO (assartref01_Take.l0 k y0 y1 y2 y3 y4) (assartref01_Take.l0 (k + 1) y0 y1 y2 y3 y4))
  | 0 => ⟨fun _ _ _ _ r h => by simp [assartref01_Take.j0] at h, fun _ _ _ _ _ r h => by simp [assartref01_Take.l0] at h⟩
  | k + 1 => by
    obtain ⟨ih0, ih1⟩ := assartref01_Take.mono_l k
    refine ⟨?_, ?_⟩
    · intro y0 y1 y2 y3
      unfold assartref01_Take.j0
      repeat' first
      | (with_reducible exact ih0 _ _ _ _)
      | (with_reducible exact ih1 _ _ _ _ _)
      | (with_reducible exact LeO.refl _)
      | (with_reducible exact LeO.none _)
      | (with_reducible refine LeO.ite ?_ ?_)
      | (with_reducible refine LeO.bind ?_ (fun _ => ?_))
      | exact ih0 _ _ _ _
      | exact ih1 _ _ _ _ _
      | exact LeO.none _
      | refine LeO.ite ?_ ?_
      | refine LeO.bind ?_ (fun _ => ?_)
    · intro y0 y1 y2 y3 y4
      unfold assartref01_Take.l0
      repeat' first
      | (with_reducible exact ih0 _ _ _ _)
      | (with_reducible exact ih1 _ _ _ _ _)
      | (with_reducible exact LeO.refl _)
      | (with_reducible exact LeO.none _)
      | (with_reducible refine LeO.ite ?_ ?_)
      | (with_reducible refine LeO.bind ?_ (fun _ => ?_))
      | exact ih0 _ _ _ _
      | exact ih1 _ _ _ _ _
      | exact LeO.none _
      | refine LeO.ite ?_ ?_
      | refine LeO.bind ?_ (fun _ => ?_)
theorem assartref01_Take.mono : ∀ a0 a1 a2 k, LeO (assartref01_Take.f k a0 a1 a2) (assartref01_Take.f (k + 1) a0 a1 a2) := by
  intro a0 a1 a2 k
  obtain ⟨ih0, ih1⟩ := assartref01_Take.mono_l k
  unfold assartref01_Take.f
  repeat' first
      | (with_reducible exact ih0 _ _ _ _)
      | (with_reducible exact ih1 _ _ _ _ _)
      | (with_reducible exact LeO.refl _)
      | (with_reducible exact LeO.none _)
      | (with_reducible refine LeO.ite ?_ ?_)
      | (with_reducible refine LeO.bind ?_ (fun _ => ?_))
      | exact ih0 _ _ _ _
      | exact ih1 _ _ _ _ _
      | exact LeO.none _
      | refine LeO.ite ?_ ?_
      | refine LeO.bind ?_ (fun _ => ?_)
set_option maxHeartbeats 8000000 in
set_option maxRecDepth 100000 in
theorem assartref01_Take.calls (k : Nat) (A0 : Option Addr) (c0 : Nat) (l0 : List Int) (a1 : Int) (a2 : Int) (r1 : Int) (r2 : Int) (r3 : Int) (w : World) (hr0 : Kd.C (Kd.int .u8) w A0 l0.length l0) (hc0 : l0.length ≤ c0) (h : assartref01_Take.f k l0 a1 a2 = some (r1, r2, r3)) :
    Calls Try.prog 51 #[.slice A0 l0.length c0, .int .i64 a1, .int .i64 a2] w fun e w' => e = .returned (.tuple #[.int .i64 r1, .int .i64 r2, .int .i64 r3]) ∧ Drawn0 w w' := by
  have HR0 := Aside0.mk hr0
  have HC0 := Aside0.mk hc0
  clear hr0 hc0
  have H : (if a2 < 1 then (assartref01_Take.j0 k l0 a1 a2 true) else (if a2 > 4 then (assartref01_Take.j0 k l0 a1 a2 true) else (if a1 < 0 then (assartref01_Take.j0 k l0 a1 a2 true) else (if a1 > (l0.length : Int) then (assartref01_Take.j0 k l0 a1 a2 true) else (assartref01_Take.j0 k l0 a1 a2 (decide ((wrap64 ((l0.length : Int) - a1)) < a2))))))) = some (r1, r2, r3) := h
  clear h
  have HC4 := Aside0.mk H
  clear H
  go_enter Try.func51, Try.ntmps51
  go_upto_region 1 with (fail)
  go_cut [34] (fun v34 wc => ∃ (kq : Nat) (x34_3 : Bool), v34 = .bool x34_3 ∧ Aside0 (assartref01_Take.j0 kq l0 a1 a2 x34_3 = some (r1, r2, r3)) ∧ Aside0 (kq ≤ k) ∧ Drawn0 w wc)
  case first =>
    have H := HC4.out
    clear HC4
    by_cases c5 : a2 < 1
    · rw [if_pos c5] at H
      have c5b0 : decide (a2 < 1) = true := decide_eq_true c5
      clear c5
      (first | rw [c5b0] | (simp only [i64_w, i32_w]; rw [c5b0]) | skip)
      have H' := Aside0.mk H
      clear H
      go_wp2
      go_meet
      case rel => exact ⟨_, (true), (by first | rfl | (simp; done) | (simp [*]; done)), H', ⟨by first | omega | exact Nat.le_refl _⟩, by repeat (first | exact Drawn0.refl _ | apply Drawn0.step)⟩
    · rw [if_neg c5] at H
      have c5b0 : decide (a2 < 1) = false := decide_eq_false c5
      clear c5
      (first | rw [c5b0] | (simp only [i64_w, i32_w]; rw [c5b0]) | skip)
      by_cases c6 : a2 > 4
      · rw [if_pos c6] at H
        have c6b0 : decide (4 < a2) = true := decide_eq_true c6
        clear c6
        have H' := Aside0.mk H
        clear H
        go_wp2
        go_meet
        case rel => exact ⟨_, (true), (by first | rfl | (simp; done) | (simp [*]; done)), H', ⟨by first | omega | exact Nat.le_refl _⟩, by repeat (first | exact Drawn0.refl _ | apply Drawn0.step)⟩
      · rw [if_neg c6] at H
        have c6b0 : decide (4 < a2) = false := decide_eq_false c6
        clear c6
        by_cases c7 : a1 < 0
        · rw [if_pos c7] at H
          have c7b0 : decide (a1 < 0) = true := decide_eq_true c7
          clear c7
          have H' := Aside0.mk H
          clear H
          go_wp2
          go_meet
          case rel => exact ⟨_, (true), (by first | rfl | (simp; done) | (simp [*]; done)), H', ⟨by first | omega | exact Nat.le_refl _⟩, by repeat (first | exact Drawn0.refl _ | apply Drawn0.step)⟩
        · rw [if_neg c7] at H
          have c7b0 : decide (a1 < 0) = false := decide_eq_false c7
          clear c7
          by_cases c8 : a1 > (l0.length : Int)
          · rw [if_pos c8] at H
            have c8b0 : decide ((l0.length : Int) < a1) = true := decide_eq_true c8
            clear c8
            have H' := Aside0.mk H
            clear H
            go_wp2
            go_meet
            case rel => exact ⟨_, (true), (by first | rfl | (simp; done) | (simp [*]; done)), H', ⟨by first | omega | exact Nat.le_refl _⟩, by repeat (first | exact Drawn0.refl _ | apply Drawn0.step)⟩
          · rw [if_neg c8] at H
            have c8b0 : decide ((l0.length : Int) < a1) = false := decide_eq_false c8
            clear c8
            have H' := Aside0.mk H
            clear H
            go_wp2
            go_meet
            case rel => exact ⟨_, (decide ((wrap64 ((l0.length : Int) - a1)) < a2)), (by first | rfl | (simp; done) | (simp [*]; done)), H', ⟨by first | omega | exact Nat.le_refl _⟩, by repeat (first | exact Drawn0.refl _ | apply Drawn0.step)⟩
  case rest =>
    clear HC4
    try clear p2
    try clear c5
    try clear c5b0
    try clear c6
    try clear c6b0
    try clear p6
    try clear c7
    try clear c7b0
    try clear c8
    try clear c8b0
    obtain ⟨kq, x34_3, rfl, HA, HJ3, ⟨mc3, rfl⟩⟩ := hcut
    cases kq with
    | zero => exact absurd HA.out (by simp [assartref01_Take.j0])
    | succ kj3 =>
      have H := HA.out
      clear HA
      simp only [assartref01_Take.j0] at H
      by_cases c9 : x34_3 = true
      · subst c9
        have H1 : (some (0, 0, 2)) = some (r1, r2, r3) := by rw [if_pos rfl] at H; exact H
        clear H
        have H := H1
        clear H1
        simp only [Option.some.injEq, Prod.mk.injEq] at H
        obtain ⟨rfl, rfl, rfl⟩ := H
        go_wp2
        go_ret3
        exact ⟨by first | rfl | (simp; done) | (simp [*]; done), by repeat (first | exact Drawn0.refl _ | apply Drawn0.step)⟩
      · replace c9 := Bool.eq_false_iff.mpr c9
        subst c9
        have H1 : (assartref01_Take.l0 kj3 l0 a1 a2 0 (wrap64 (a2 - 1))) = some (r1, r2, r3) := by rw [if_neg (show ¬ (false = true) by decide)] at H; exact H
        clear H
        have H := H1
        clear H1
        have H' := Aside0.mk H
        clear H
        go_wp2
        go_loopg [9, 10] kj3 (fun kq v9 v10 w' => ∃ (x9_2 : Int) (x10_2 : Int), v9 = .int .i64 x9_2 ∧ v10 = .int .i64 x10_2 ∧ Aside0 (assartref01_Take.l0 kq l0 a1 a2 x9_2 x10_2 = some (r1, r2, r3)) ∧ Aside0 (kq ≤ kj3) ∧ Drawn0 w w')
        case atStart => exact ⟨(0), (wrap64 (a2 - 1)), (by first | rfl | (simp; done) | (simp [*]; done)), (by first | rfl | (simp; done) | (simp [*]; done)), H', ⟨Nat.le_refl _⟩, by repeat (first | exact Drawn0.refl _ | apply Drawn0.step)⟩
        case round =>
          clear H'
          try clear p2
          try clear c3
          try clear c5
          try clear c5b0
          try clear c6
          try clear c6b0
          try clear p6
          try clear c7
          try clear c7b0
          try clear c8
          try clear c8b0
          try clear c9
          try clear p2
          try clear p6
          obtain ⟨x9_2, x10_2, rfl, rfl, HA, HK2, ⟨m2, rfl⟩⟩ := hrel
          cases gk with
          | zero => exact absurd HA.out (by simp [assartref01_Take.l0])
          | succ k2 =>
            have H := HA.out
            clear HA
            simp only [assartref01_Take.l0] at H
            by_cases c10 : x10_2 ≥ 0
            · rw [if_pos c10] at H
              have c10b0 : decide (0 ≤ x10_2) = true := decide_eq_true c10
              clear c10
              obtain ⟨ji11, hji11⟩ : ∃ j_ : Int, (wrap64 (a1 + x10_2)) = j_ := ⟨_, rfl⟩
              replace H : (if 0 ≤ (ji11) then (if (ji11) < (l0.length : Int) then (assartref01_Take.l0 k2 l0 a1 a2 (wrap64 ((wrap64 (x9_2 * 256)) + (wrap64 (rd l0 (ji11))))) (wrap64 (x10_2 - 1))) else (none)) else (none)) = some (r1, r2, r3) := by first | (rw [hji11] at H; exact H) | (simp only [hji11] at H ⊢; exact H)
              have hji11w : (IntKind.i64.wrap (a1 + x10_2)) = ji11 := (i64_w _).trans hji11
              by_cases c12 : 0 ≤ (ji11)
              · rw [if_pos c12] at H
                have c12b0 : decide (0 ≤ (ji11)) = true := decide_eq_true c12
                clear c12
                by_cases c13 : (ji11) < (l0.length : Int)
                · rw [if_pos c13] at H
                  have c13b0 : decide ((ji11) < (l0.length : Int)) = true := decide_eq_true c13
                  clear c13
                  have H' := Aside0.mk H
                  clear H
                  have p252 : 0 ≤ ((ji11) : Int) := of_decide_eq_true (by first | (with_reducible assumption) | assumption)
                  have q252 : (ji11) < (l0.length : Int) := of_decide_eq_true (by first | (with_reducible assumption) | assumption)
                  obtain ⟨ad252, e252, hx252_0⟩ := Kd.at_int HR0.out (ji11) p252 q252
                  cases e252
                  replace p252 := eq_true p252
                  replace q252 := eq_true q252
                  go_wp2
                  go_roundg k2
                  case measure => have := HJ3.out; have := HK2.out; omega
                  case rel => exact ⟨(wrap64 ((wrap64 (x9_2 * 256)) + (wrap64 (rd l0 (ji11))))), (wrap64 (x10_2 - 1)), (by first | rfl | (simp; done) | (simp only [← hji11] <;> (first | rfl | simp)) | (simp [*]; done)), (by first | rfl | (simp; done) | (simp [*]; done)), H', ⟨by have := HJ3.out; have := HK2.out; omega⟩, by repeat (first | exact Drawn0.refl _ | apply Drawn0.step)⟩
                · rw [if_neg c13] at H
                  exact absurd H (by simp)
              · rw [if_neg c12] at H
                exact absurd H (by simp)
            · rw [if_neg c10] at H
              have c10b0 : decide (0 ≤ x10_2) = false := decide_eq_false c10
              clear c10
              simp only [Option.some.injEq, Prod.mk.injEq] at H
              obtain ⟨rfl, rfl, rfl⟩ := H
              go_wp2
              go_ret3
              exact ⟨by first | rfl | (simp; done) | (simp [*]; done), by repeat (first | exact Drawn0.refl _ | apply Drawn0.step)⟩

end Go.Proofs.Ythjnkapkhphpeaa.P
end
section
namespace Go.Proofs.Ythjnkapkhphpeaa.P
open Go.RowKit Go.Proofs.YthjnkapkhphpeaaW.PrintWords Go.Proofs.YthjnkapkhphpeaaW.PrintLast Go.Proofs.YthjnkapkhphpeaaW.PrintMore
attribute [local go_sem] max2_int min2_int max_two min_two max_three min_three max_four min_four
set_option linter.unusedVariables false
set_option linter.unusedSimpArgs false

/-! ### assartref01_limit: function 61 -/
def assartref01_limit.l0 : Nat → Int → Int → Int → Option (Int)
  | 0, _, _, _ => none
  | k + 1, x0, x3, x4 => if x4 < x0 then (assartref01_limit.l0 k x0 (wrap64 (x3 * 256)) (wrap64 (x4 + 1))) else (some x3)
def assartref01_limit.f (k : Nat) (a0 : Int) : Option (Int) := assartref01_limit.l0 k a0 1 0
theorem assartref01_limit.mono_l : ∀ k, (∀ y0 y1 y2, LeO (assartref01_limit.l0 k y0 y1 y2) (assartref01_limit.l0 (k + 1) y0 y1 y2))
  | 0 => fun _ _ _ r h => by simp [assartref01_limit.l0] at h
  | k + 1 => by
    have ih0 := assartref01_limit.mono_l k
    · intro y0 y1 y2
      unfold assartref01_limit.l0
      repeat' first
      | (with_reducible exact ih0 _ _ _)
      | (with_reducible exact LeO.refl _)
      | (with_reducible exact LeO.none _)
      | (with_reducible refine LeO.ite ?_ ?_)
      | (with_reducible refine LeO.bind ?_ (fun _ => ?_))
      | exact ih0 _ _ _
      | exact LeO.none _
      | refine LeO.ite ?_ ?_
      | refine LeO.bind ?_ (fun _ => ?_)
theorem assartref01_limit.mono : ∀ a0 k, LeO (assartref01_limit.f k a0) (assartref01_limit.f (k + 1) a0) := by
  intro a0 k
  have ih0 := assartref01_limit.mono_l k
  unfold assartref01_limit.f
  repeat' first
      | (with_reducible exact ih0 _ _ _)
      | (with_reducible exact LeO.refl _)
      | (with_reducible exact LeO.none _)
      | (with_reducible refine LeO.ite ?_ ?_)
      | (with_reducible refine LeO.bind ?_ (fun _ => ?_))
      | exact ih0 _ _ _
      | exact LeO.none _
      | refine LeO.ite ?_ ?_
      | refine LeO.bind ?_ (fun _ => ?_)
set_option maxHeartbeats 8000000 in
set_option maxRecDepth 100000 in
theorem assartref01_limit.calls (k : Nat) (a0 : Int) (r : Int) (w : World) (h : assartref01_limit.f k a0 = some r) :
    Calls Try.prog 61 #[.int .i64 a0] w fun e w' => e = .returned (.int .i64 r) ∧ Drawn0 w w' := by
  have H : (assartref01_limit.l0 k a0 1 0) = some r := h
  clear h
  have H' := Aside0.mk H
  clear H
  go_enter Try.func61, Try.ntmps61
  go_wp2
  go_loopg [3, 4] k (fun kq v3 v4 w' => ∃ (x3_1 : Int) (x4_1 : Int), v3 = .int .i64 x3_1 ∧ v4 = .int .i64 x4_1 ∧ Aside0 (assartref01_limit.l0 kq a0 x3_1 x4_1 = some r) ∧ Aside0 (kq ≤ k) ∧ Drawn0 w w')
  case atStart => exact ⟨(1), (0), (by first | rfl | (simp; done) | (simp [*]; done)), (by first | rfl | (simp; done) | (simp [*]; done)), H', ⟨Nat.le_refl _⟩, by repeat (first | exact Drawn0.refl _ | apply Drawn0.step)⟩
  case round =>
    clear H'
    obtain ⟨x3_1, x4_1, rfl, rfl, HA, HK1, ⟨m1, rfl⟩⟩ := hrel
    cases gk with
    | zero => exact absurd HA.out (by simp [assartref01_limit.l0])
    | succ k1 =>
      have H := HA.out
      clear HA
      simp only [assartref01_limit.l0] at H
      by_cases c2 : x4_1 < a0
      · rw [if_pos c2] at H
        have c2b0 : decide (x4_1 < a0) = true := decide_eq_true c2
        clear c2
        have H' := Aside0.mk H
        clear H
        go_wp2
        go_roundg k1
        case measure => have := HK1.out; omega
        case rel => exact ⟨(wrap64 (x3_1 * 256)), (wrap64 (x4_1 + 1)), (by first | rfl | (simp; done) | (simp [*]; done)), (by first | rfl | (simp; done) | (simp [*]; done)), H', ⟨by have := HK1.out; omega⟩, by repeat (first | exact Drawn0.refl _ | apply Drawn0.step)⟩
      · rw [if_neg c2] at H
        have c2b0 : decide (x4_1 < a0) = false := decide_eq_false c2
        clear c2
        obtain rfl := Option.some.inj H
        go_wp2
        go_ret
        exact ⟨by first | rfl | (simp; done) | (simp [*]; done), by repeat (first | exact Drawn0.refl _ | apply Drawn0.step)⟩

end Go.Proofs.Ythjnkapkhphpeaa.P
end
section
namespace Go.Proofs.Ythjnkapkhphpeaa.P
open Go.RowKit Go.Proofs.YthjnkapkhphpeaaW.PrintWords Go.Proofs.YthjnkapkhphpeaaW.PrintLast Go.Proofs.YthjnkapkhphpeaaW.PrintMore
attribute [local go_sem] max2_int min2_int max_two min_two max_three min_three max_four min_four
set_option linter.unusedVariables false
set_option linter.unusedSimpArgs false

/-! ### assartref01_Put: function 45 -/
mutual
def assartref01_Put.j0 : Nat → Int → Int → Bool → Option (List Int)
  | 0, _, _, _ => none
  | k + 1, x0, x1, x22 => if x22 = true then (some ([] : List Int)) else (assartref01_Put.l0 k x0 x1 ([] : List Int) 0)
def assartref01_Put.l0 : Nat → Int → Int → List Int → Int → Option (List Int)
  | 0, _, _, _, _ => none
  | k + 1, x0, x1, x5, x6 => if x6 < x1 then (if x5.length < 140737488355328 then (assartref01_Put.l0 k (wrap64 (Int.tdiv x0 256)) x1 (x5 ++ [(Int.tmod x0 256) % 256]) (wrap64 (x6 + 1))) else (none)) else (some x5)
end
def assartref01_Put.f (k : Nat) (a0 : Int) (a1 : Int) : Option (List Int) := if a1 < 1 then (assartref01_Put.j0 k a0 a1 true) else (if a1 > 4 then (assartref01_Put.j0 k a0 a1 true) else (if a0 < 0 then (assartref01_Put.j0 k a0 a1 true) else ((assartref01_limit.f k a1).bind fun t204 => (assartref01_Put.j0 k a0 a1 (decide (a0 ≥ t204))))))
theorem assartref01_Put.mono_l : ∀ k, (∀ y0 y1 y2, LeO (assartref01_Put.j0 k y0 y1 y2) (assartref01_Put.j0 (k + 1) y0 y1 y2)) ∧ (∀ y0 y1 y2 y3, LeO (assartref01_Put.l0 k y0 y1 y2 y3) (assartref01_Put.l0 (k + 1) y0 y1 y2 y3))
  | 0 => ⟨fun _ _ _ r h => by simp [assartref01_Put.j0] at h, fun _ _ _ _ r h => by simp [assartref01_Put.l0] at h⟩
  | k + 1 => by
    obtain ⟨ih0, ih1⟩ := assartref01_Put.mono_l k
    refine ⟨?_, ?_⟩
    · intro y0 y1 y2
      unfold assartref01_Put.j0
      repeat' first
      | (with_reducible exact ih0 _ _ _)
      | (with_reducible exact ih1 _ _ _ _)
      | (with_reducible exact assartref01_limit.mono _ _)
      | (with_reducible exact LeO.refl _)
      | (with_reducible exact LeO.none _)
      | (with_reducible refine LeO.ite ?_ ?_)
      | (with_reducible refine LeO.bind ?_ (fun _ => ?_))
      | exact ih0 _ _ _
      | exact ih1 _ _ _ _
      | exact assartref01_limit.mono _ _
      | exact LeO.none _
      | refine LeO.ite ?_ ?_
      | refine LeO.bind ?_ (fun _ => ?_)
    · intro y0 y1 y2 y3
      unfold assartref01_Put.l0
      repeat' first
      | (with_reducible exact ih0 _ _ _)
      | (with_reducible exact ih1 _ _ _ _)
      | (with_reducible exact assartref01_limit.mono _ _)
      | (with_reducible exact LeO.refl _)
      | (with_reducible exact LeO.none _)
      | (with_reducible refine LeO.ite ?_ ?_)
      | (with_reducible refine LeO.bind ?_ (fun _ => ?_))
      | exact ih0 _ _ _
      | exact ih1 _ _ _ _
      | exact assartref01_limit.mono _ _
      | exact LeO.none _
      | refine LeO.ite ?_ ?_
      | refine LeO.bind ?_ (fun _ => ?_)
theorem assartref01_Put.mono : ∀ a0 a1 k, LeO (assartref01_Put.f k a0 a1) (assartref01_Put.f (k + 1) a0 a1) := by
  intro a0 a1 k
  obtain ⟨ih0, ih1⟩ := assartref01_Put.mono_l k
  unfold assartref01_Put.f
  repeat' first
      | (with_reducible exact ih0 _ _ _)
      | (with_reducible exact ih1 _ _ _ _)
      | (with_reducible exact assartref01_limit.mono _ _)
      | (with_reducible exact LeO.refl _)
      | (with_reducible exact LeO.none _)
      | (with_reducible refine LeO.ite ?_ ?_)
      | (with_reducible refine LeO.bind ?_ (fun _ => ?_))
      | exact ih0 _ _ _
      | exact ih1 _ _ _ _
      | exact assartref01_limit.mono _ _
      | exact LeO.none _
      | refine LeO.ite ?_ ?_
      | refine LeO.bind ?_ (fun _ => ?_)
set_option maxHeartbeats 8000000 in
set_option maxRecDepth 100000 in
theorem assartref01_Put.calls (k : Nat) (a0 : Int) (a1 : Int) (r : List Int) (w : World) (h : assartref01_Put.f k a0 a1 = some r) :
    Calls Try.prog 45 #[.int .i64 a0, .int .i64 a1] w fun e w' => ∃ v0_ : Value, e = .returned (v0_) ∧ Kd.R (Kd.int .u8) 5 w' w.heap.size (fun _ => True) v0_ r ∧ Below w.heap.size w w' := by
  have HB := Aside0.mk (Below.refl w.heap.size w)
  have H : (if a1 < 1 then (assartref01_Put.j0 k a0 a1 true) else (if a1 > 4 then (assartref01_Put.j0 k a0 a1 true) else (if a0 < 0 then (assartref01_Put.j0 k a0 a1 true) else ((assartref01_limit.f k a1).bind fun t204 => (assartref01_Put.j0 k a0 a1 (decide (a0 ≥ t204))))))) = some r := h
  clear h
  have HC3 := Aside0.mk H
  clear H
  go_enter Try.func45, Try.ntmps45
  go_upto_region 1 with (fail)
  go_cut [22] (fun v22 wc => ∃ (kq : Nat) (x22_2 : Bool), v22 = .bool x22_2 ∧ Aside0 (assartref01_Put.j0 kq a0 a1 x22_2 = some r) ∧ Aside0 (kq ≤ k) ∧ Aside0 (Below w.heap.size w wc))
  case first =>
    have H := HC3.out
    clear HC3
    by_cases c4 : a1 < 1
    · rw [if_pos c4] at H
      have c4b0 : decide (a1 < 1) = true := decide_eq_true c4
      clear c4
      (first | rw [c4b0] | (simp only [i64_w, i32_w]; rw [c4b0]) | skip)
      have H' := Aside0.mk H
      clear H
      go_wp2
      go_meet
      case rel => exact ⟨_, (true), (by first | rfl | (simp; done) | (simp [*]; done)), H', ⟨by first | omega | exact Nat.le_refl _⟩, ⟨by repeat (first | (with_reducible first | exact HB.out | apply below_alloc | apply pw_below_drewN | apply below_drew1) | exact HB.out)⟩⟩
    · rw [if_neg c4] at H
      have c4b0 : decide (a1 < 1) = false := decide_eq_false c4
      clear c4
      (first | rw [c4b0] | (simp only [i64_w, i32_w]; rw [c4b0]) | skip)
      by_cases c5 : a1 > 4
      · rw [if_pos c5] at H
        have c5b0 : decide (4 < a1) = true := decide_eq_true c5
        clear c5
        have H' := Aside0.mk H
        clear H
        go_wp2
        go_meet
        case rel => exact ⟨_, (true), (by first | rfl | (simp; done) | (simp [*]; done)), H', ⟨by first | omega | exact Nat.le_refl _⟩, ⟨by repeat (first | (with_reducible first | exact HB.out | apply below_alloc | apply pw_below_drewN | apply below_drew1) | exact HB.out)⟩⟩
      · rw [if_neg c5] at H
        have c5b0 : decide (4 < a1) = false := decide_eq_false c5
        clear c5
        by_cases c6 : a0 < 0
        · rw [if_pos c6] at H
          have c6b0 : decide (a0 < 0) = true := decide_eq_true c6
          clear c6
          have H' := Aside0.mk H
          clear H
          go_wp2
          go_meet
          case rel => exact ⟨_, (true), (by first | rfl | (simp; done) | (simp [*]; done)), H', ⟨by first | omega | exact Nat.le_refl _⟩, ⟨by repeat (first | (with_reducible first | exact HB.out | apply below_alloc | apply pw_below_drewN | apply below_drew1) | exact HB.out)⟩⟩
        · rw [if_neg c6] at H
          have c6b0 : decide (a0 < 0) = false := decide_eq_false c6
          clear c6
          replace H := Option.bind_eq_some_iff.mp H
          obtain ⟨t204, A70, H⟩ := H
          replace H : (assartref01_Put.j0 k a0 a1 (decide (a0 ≥ t204))) = some r := H
          have A7 := Aside0.mk A70
          clear A70
          have H' := Aside0.mk H
          clear H
          go_wp2_with (first | (go_at_call 61; (with_reducible refine (assartref01_limit.calls k a1 t204 _ A7.out).mono ?_); rintro e w' ⟨rfl, ⟨nd, rfl⟩⟩))
          go_meet
          case rel => exact ⟨_, (decide (a0 ≥ t204)), (by first | rfl | (simp; done) | (simp [*]; done)), H', ⟨by first | omega | exact Nat.le_refl _⟩, ⟨by repeat (first | (with_reducible first | exact HB.out | apply below_alloc | apply pw_below_drewN | apply below_drew1) | exact HB.out)⟩⟩
  case rest =>
    clear HC3
    try clear p2
    try clear c4
    try clear c4b0
    try clear c5
    try clear c5b0
    try clear c6
    try clear c6b0
    obtain ⟨kq, x22_2, rfl, HA, HJ2, HB⟩ := hcut
    cases kq with
    | zero => exact absurd HA.out (by simp [assartref01_Put.j0])
    | succ kj2 =>
      have H := HA.out
      clear HA
      simp only [assartref01_Put.j0] at H
      by_cases c8 : x22_2 = true
      · subst c8
        have H1 : (some ([] : List Int)) = some r := by rw [if_pos rfl] at H; exact H
        clear H
        have H := H1
        clear H1
        obtain rfl := Option.some.inj H
        go_wp2
        go_ret
        exact ⟨_, by first | rfl | (simp [errW_none, errW_some] <;> rfl) | (simp [*, errW_none, errW_some] <;> rfl), by first | exact Kd.R_nil _ _ _ _ _ | exact Kd.N_nil _ _ _ _ _ | exact Kd.V_nil _ _ _ _ _ | exact Kd.Q_nil _ _ _ _ _ | exact Kd.S_nil _ _ _ _ _, by repeat (first | (with_reducible first | exact HB.out | apply below_alloc | apply pw_below_drewN | apply below_drew1) | exact HB.out)⟩
      · replace c8 := Bool.eq_false_iff.mpr c8
        subst c8
        have H1 : (assartref01_Put.l0 kj2 a0 a1 ([] : List Int) 0) = some r := by rw [if_neg (show ¬ (false = true) by decide)] at H; exact H
        clear H
        have H := H1
        clear H1
        have H' := Aside0.mk H
        clear H
        go_wp2
        go_loopg [0, 5, 6] kj2 (fun kq v0 v5 v6 w' => ∃ (x0_2 : Int) (x5_2 : List Int) (x6_2 : Int), v0 = .int .i64 x0_2 ∧ v6 = .int .i64 x6_2 ∧ Aside0 (assartref01_Put.l0 kq x0_2 a1 x5_2 x6_2 = some r) ∧ Aside0 (kq ≤ kj2) ∧ Aside0 (Kd.R (Kd.int .u8) 5 w' w.heap.size (fun _ => True) v5 x5_2) ∧ Aside0 (Below w.heap.size w w'))
        case atStart => exact ⟨(a0), (([] : List Int)), (0), (by first | rfl | (simp; done) | (simp [*]; done)), (by first | rfl | (simp; done) | (simp [*]; done)), H', ⟨Nat.le_refl _⟩, ⟨by first | exact Kd.R_nil _ _ _ _ _ | exact Kd.N_nil _ _ _ _ _ | exact Kd.V_nil _ _ _ _ _ | exact Kd.Q_nil _ _ _ _ _ | exact Kd.S_nil _ _ _ _ _⟩, ⟨by repeat (first | (with_reducible first | exact HB.out | apply below_alloc | apply pw_below_drewN | apply below_drew1) | exact HB.out)⟩⟩
        case round =>
          clear H'
          try clear p2
          try clear c4
          try clear c4b0
          try clear c5
          try clear c5b0
          try clear c6
          try clear c6b0
          try clear c8
          try clear p2
          obtain ⟨x0_2, x5_2, x6_2, rfl, rfl, HA, HK2, HO_5, HB⟩ := hrel
          cases gk with
          | zero => exact absurd HA.out (by simp [assartref01_Put.l0])
          | succ k2 =>
            have H := HA.out
            clear HA
            simp only [assartref01_Put.l0] at H
            by_cases c9 : x6_2 < a1
            · rw [if_pos c9] at H
              have c9b0 : decide (x6_2 < a1) = true := decide_eq_true c9
              clear c9
              by_cases c10 : x5_2.length < 140737488355328
              · rw [if_pos c10] at H
                have LMc10 := Aside0.mk c10
                clear c10
                obtain ⟨y205, hy205⟩ : ∃ y_ : List Int, y_ = (x5_2 ++ [(Int.tmod x0_2 256) % 256]) := ⟨_, rfl⟩
                replace H : (assartref01_Put.l0 k2 (wrap64 (Int.tdiv x0_2 256)) a1 y205 (wrap64 (x6_2 + 1))) = some r := by first | (rw [hy205]; with_reducible exact H) | (have H2_ := (Option.bind_some _ _).symm.trans H; rw [hy205]; with_reducible exact H2_) | (have H2_ := (Option.bind_some _ _).symm.trans H; with_reducible exact H2_) | with_reducible exact H | (rw [hy205]; exact H) | exact H
                have Ny205 := Aside0.mk hy205
                clear hy205
                have H' := Aside0.mk H
                clear H
                go_wp2_with (first | ((with_reducible refine gate_builtin (b := .append) (xs := #[.tmp 28, .tmp 32]) rfl ?_); at_builtin; refine Kd.R_append (Kd.int .u8) (w0 := w) w.heap.size rfl (.tmp 28) (.tmp 32) 24 5 (.int .u8 0) 1 rfl Try.underlying24 info5 rfl (by decide) (by omega) u5 x5_2 ((Int.tmod x0_2 256) % 256) [.int .u8 ((Int.tmod x0_2 256) % 256)] (fun _ => True) (fun _ => False) rfl rfl ?aP (fun _ hk => hk.elim) ?aF ?aO ?aB ?aS ?aL ?_; (case aP => exact rfl); (case aB => exact (by repeat (first | (with_reducible first | exact HB.out | apply below_alloc | apply pw_below_drewN | apply below_drew1) | exact HB.out))); (case aF => exact (fun _ _ => trivial)); (case aO => exact (by (with_reducible repeat (first | apply Kd.R_alloc | apply Kd.R_drewN | apply Kd.R_drew)); exact HO_5.out)); (case aS => exact (below_size (by repeat (first | (with_reducible first | exact HB.out | apply below_alloc | apply pw_below_drewN | apply below_drew1) | exact HB.out)))); (case aL => have := LMc10.out; omega); intro v206 w11 ho hb hg hat; rw [← Ny205.out] at ho; have n0_ := Aside0.mk (hb); have n1_ := Aside0.mk (ho); clear HB; clear HO_5; have HB := n0_; have HO207 := n1_; clear n0_ n1_; clear ho hb hg hat))
                go_roundg k2
                case measure => have := HJ2.out; have := HK2.out; omega
                case rel => exact ⟨(wrap64 (Int.tdiv x0_2 256)), (y205), (wrap64 (x6_2 + 1)), (by first | rfl | (simp; done) | (simp [*]; done)), (by first | rfl | (simp; done) | (simp [*]; done)), H', ⟨by have := HJ2.out; have := HK2.out; omega⟩, ⟨by (with_reducible repeat (first | apply Kd.R_alloc | apply Kd.R_drewN | apply Kd.R_drew)); exact HO207.out⟩, ⟨by repeat (first | (with_reducible first | exact HB.out | apply below_alloc | apply pw_below_drewN | apply below_drew1) | exact HB.out)⟩⟩
              · rw [if_neg c10] at H
                exact absurd H (by simp)
            · rw [if_neg c9] at H
              have c9b0 : decide (x6_2 < a1) = false := decide_eq_false c9
              clear c9
              obtain rfl := Option.some.inj H
              go_wp2
              go_ret
              exact ⟨_, by first | rfl | (simp [errW_none, errW_some] <;> rfl) | (simp [*, errW_none, errW_some] <;> rfl), by (with_reducible repeat (first | apply Kd.R_alloc | apply Kd.R_drewN | apply Kd.R_drew)); exact HO_5.out, by repeat (first | (with_reducible first | exact HB.out | apply below_alloc | apply pw_below_drewN | apply below_drew1) | exact HB.out)⟩

end Go.Proofs.Ythjnkapkhphpeaa.P
end
section
namespace Go.Proofs.Ythjnkapkhphpeaa.P
open Go.RowKit Go.Proofs.YthjnkapkhphpeaaW.PrintWords Go.Proofs.YthjnkapkhphpeaaW.PrintLast Go.Proofs.YthjnkapkhphpeaaW.PrintMore
attribute [local go_sem] max2_int min2_int max_two min_two max_three min_three max_four min_four
set_option linter.unusedVariables false
set_option linter.unusedSimpArgs false

/-! ### assartref01_xor: function 63 -/
def assartref01_xor.f (a0 : Int) (a1 : Int) : Option (Int) := some (wrap64 (Go.bits .xor .u32 ((a0) % 4294967296) ((a1) % 4294967296)))
set_option maxHeartbeats 8000000 in
set_option maxRecDepth 100000 in
theorem assartref01_xor.calls (a0 : Int) (a1 : Int) (r : Int) (w : World) (h : assartref01_xor.f a0 a1 = some r) :
    Calls Try.prog 63 #[.int .i64 a0, .int .i64 a1] w fun e w' => e = .returned (.int .i64 r) ∧ Drawn0 w w' := by
  have H : (some (wrap64 (Go.bits .xor .u32 ((a0) % 4294967296) ((a1) % 4294967296)))) = some r := h
  clear h
  obtain rfl := Option.some.inj H
  go_enter Try.func63, Try.ntmps63
  go_wp2
  go_ret
  exact ⟨by first | rfl | (simp; done) | (simp [*]; done), by repeat (first | exact Drawn0.refl _ | apply Drawn0.step)⟩

end Go.Proofs.Ythjnkapkhphpeaa.P
end
section
namespace Go.Proofs.Ythjnkapkhphpeaa.P
open Go.RowKit Go.Proofs.YthjnkapkhphpeaaW.PrintWords Go.Proofs.YthjnkapkhphpeaaW.PrintLast Go.Proofs.YthjnkapkhphpeaaW.PrintMore
attribute [local go_sem] max2_int min2_int max_two min_two max_three min_three max_four min_four
set_option linter.unusedVariables false
set_option linter.unusedSimpArgs false

/-! ### assartref01_Sum: function 53 -/
mutual
def assartref01_Sum.l0 : Nat → List Int → Int → Int → Option (Int)
  | 0, _, _, _ => none
  | k + 1, x0, x3, x4 => if x4 < (x0.length : Int) then (if 0 ≤ x4 then ((assartref01_xor.f x3 (wrap64 (rd x0 x4))).bind fun t210 => (assartref01_Sum.l1 k x0 t210 x4 0)) else (none)) else ((assartref01_xor.f x3 4294967295).bind fun t208 => (some t208))
def assartref01_Sum.l1 : Nat → List Int → Int → Int → Int → Option (Int)
  | 0, _, _, _, _ => none
  | k + 1, x0, x3, x4, x5 => if x5 < 8 then (if (Int.tmod x3 2) = 1 then ((assartref01_xor.f (wrap64 (Int.tdiv x3 2)) 3988292384).bind fun t211 => (assartref01_Sum.l1 k x0 t211 x4 (wrap64 (x5 + 1)))) else (assartref01_Sum.l1 k x0 (wrap64 (Int.tdiv x3 2)) x4 (wrap64 (x5 + 1)))) else (assartref01_Sum.l0 k x0 x3 (wrap64 (x4 + 1)))
end
def assartref01_Sum.f (k : Nat) (l0 : List Int) : Option (Int) := assartref01_Sum.l0 k l0 4294967295 0
theorem assartref01_Sum.mono_l : ∀ k, (∀ y0 y1 y2, LeO (assartref01_Sum.l0 k y0 y1 y2) (assartref01_Sum.l0 (k + 1) y0 y1 y2)) ∧ (∀ y0 y1 y2 y3, LeO (assartref01_Sum.l1 k y0 y1 y2 y3) (assartref01_Sum.l1 (k + 1) y0 y1 y2 y3))
  | 0 => ⟨fun _ _ _ r h => by simp [assartref01_Sum.l0] at h, fun _ _ _ _ r h => by simp [assartref01_Sum.l1] at h⟩
  | k + 1 => by
    obtain ⟨ih0, ih1⟩ := assartref01_Sum.mono_l k
    refine ⟨?_, ?_⟩
    · intro y0 y1 y2
      unfold assartref01_Sum.l0
      repeat' first
      | (with_reducible exact ih0 _ _ _)
      | (with_reducible exact ih1 _ _ _ _)
      | (with_reducible exact LeO.refl _)
      | (with_reducible exact LeO.none _)
      | (with_reducible refine LeO.ite ?_ ?_)
      | (with_reducible refine LeO.bind ?_ (fun _ => ?_))
      | exact ih0 _ _ _
      | exact ih1 _ _ _ _
      | exact LeO.none _
      | refine LeO.ite ?_ ?_
      | refine LeO.bind ?_ (fun _ => ?_)
    · intro y0 y1 y2 y3
      unfold assartref01_Sum.l1
      repeat' first
      | (with_reducible exact ih0 _ _ _)
      | (with_reducible exact ih1 _ _ _ _)
      | (with_reducible exact LeO.refl _)
      | (with_reducible exact LeO.none _)
      | (with_reducible refine LeO.ite ?_ ?_)
      | (with_reducible refine LeO.bind ?_ (fun _ => ?_))
      | exact ih0 _ _ _
      | exact ih1 _ _ _ _
      | exact LeO.none _
      | refine LeO.ite ?_ ?_
      | refine LeO.bind ?_ (fun _ => ?_)
theorem assartref01_Sum.mono : ∀ a0 k, LeO (assartref01_Sum.f k a0) (assartref01_Sum.f (k + 1) a0) := by
  intro a0 k
  obtain ⟨ih0, ih1⟩ := assartref01_Sum.mono_l k
  unfold assartref01_Sum.f
  repeat' first
      | (with_reducible exact ih0 _ _ _)
      | (with_reducible exact ih1 _ _ _ _)
      | (with_reducible exact LeO.refl _)
      | (with_reducible exact LeO.none _)
      | (with_reducible refine LeO.ite ?_ ?_)
      | (with_reducible refine LeO.bind ?_ (fun _ => ?_))
      | exact ih0 _ _ _
      | exact ih1 _ _ _ _
      | exact LeO.none _
      | refine LeO.ite ?_ ?_
      | refine LeO.bind ?_ (fun _ => ?_)
set_option maxHeartbeats 8000000 in
set_option maxRecDepth 100000 in
theorem assartref01_Sum.calls (k : Nat) (A0 : Option Addr) (c0 : Nat) (l0 : List Int) (r : Int) (w : World) (hr0 : Kd.C (Kd.int .u8) w A0 l0.length l0) (hc0 : l0.length ≤ c0) (h : assartref01_Sum.f k l0 = some r) :
    Calls Try.prog 53 #[.slice A0 l0.length c0] w fun e w' => e = .returned (.int .i64 r) ∧ Drawn0 w w' := by
  have HR0 := Aside0.mk hr0
  have HC0 := Aside0.mk hc0
  clear hr0 hc0
  have H : (assartref01_Sum.l0 k l0 4294967295 0) = some r := h
  clear h
  have H' := Aside0.mk H
  clear H
  go_enter Try.func53, Try.ntmps53
  go_wp2
  go_loopg [3, 4] k (fun kq v3 v4 w' => ∃ (x3_1 : Int) (x4_1 : Int), v3 = .int .i64 x3_1 ∧ v4 = .int .i64 x4_1 ∧ Aside0 (assartref01_Sum.l0 kq l0 x3_1 x4_1 = some r) ∧ Aside0 (kq ≤ k) ∧ Drawn0 w w')
  case atStart => exact ⟨(4294967295), (0), (by first | rfl | (simp; done) | (simp [*]; done)), (by first | rfl | (simp; done) | (simp [*]; done)), H', ⟨Nat.le_refl _⟩, by repeat (first | exact Drawn0.refl _ | apply Drawn0.step)⟩
  case round =>
    clear H'
    obtain ⟨x3_1, x4_1, rfl, rfl, HA, HK1, ⟨m1, rfl⟩⟩ := hrel
    cases gk with
    | zero => exact absurd HA.out (by simp [assartref01_Sum.l0])
    | succ k1 =>
      have H := HA.out
      clear HA
      simp only [assartref01_Sum.l0] at H
      by_cases c2 : x4_1 < (l0.length : Int)
      · rw [if_pos c2] at H
        have c2b0 : decide (x4_1 < (l0.length : Int)) = true := decide_eq_true c2
        clear c2
        by_cases c3 : 0 ≤ x4_1
        · rw [if_pos c3] at H
          have c3b0 : decide (0 ≤ x4_1) = true := decide_eq_true c3
          clear c3
          replace H := Option.bind_eq_some_iff.mp H
          obtain ⟨t210, A40, H⟩ := H
          replace H : (assartref01_Sum.l1 k1 l0 t210 x4_1 0) = some r := H
          have A4 := Aside0.mk A40
          clear A40
          have H' := Aside0.mk H
          clear H
          have p209 : 0 ≤ (x4_1 : Int) := of_decide_eq_true (by first | (with_reducible assumption) | assumption)
          have q209 : x4_1 < (l0.length : Int) := of_decide_eq_true (by first | (with_reducible assumption) | assumption)
          obtain ⟨ad209, e209, hx209_0⟩ := Kd.at_int HR0.out x4_1 p209 q209
          cases e209
          replace p209 := eq_true p209
          replace q209 := eq_true q209
          go_wp2_with (first | ((with_reducible refine gate_callee (f := 63) rfl ?_); refine goesL_ (some 19) rfl rfl Try.func63 (by kernel_rfl) rfl #[.int .i64 x3_1, .int .i64 (wrap64 (rd l0 x4_1))] rfl (by (try simp only [List.map_toArray, List.map_cons, List.map_nil]); first | done | rfl | (simp only [List.length_drop, List.length_take]; rfl)) ?_; (with_reducible refine (assartref01_xor.calls x3_1 (wrap64 (rd l0 x4_1)) t210 _ A4.out).mono ?_); rintro e w' ⟨rfl, ⟨nd, rfl⟩⟩; refine ⟨_, rfl, ?_⟩))
          go_loopg [3, 5] k1 (fun kq v3 v5 w' => ∃ (x3_2 : Int) (x5_2 : Int), v3 = .int .i64 x3_2 ∧ v5 = .int .i64 x5_2 ∧ Aside0 (assartref01_Sum.l1 kq l0 x3_2 x4_1 x5_2 = some r) ∧ Aside0 (kq ≤ k1) ∧ Drawn0 w w')
          case atStart => exact ⟨(t210), (0), (by first | rfl | (simp; done) | (simp [*]; done)), (by first | rfl | (simp; done) | (simp [*]; done)), H', ⟨Nat.le_refl _⟩, by repeat (first | exact Drawn0.refl _ | apply Drawn0.step)⟩
          case round =>
            clear H'
            try clear c2
            try clear c2b0
            try clear p2
            try clear q2
            try clear hx2
            try clear c3
            try clear c3b0
            try clear hx209_0
            try clear p209
            try clear q209
            obtain ⟨x3_2, x5_2, rfl, rfl, HA, HK2, ⟨m2, rfl⟩⟩ := hrel
            cases gk with
            | zero => exact absurd HA.out (by simp [assartref01_Sum.l1])
            | succ k2 =>
              have H := HA.out
              clear HA
              simp only [assartref01_Sum.l1] at H
              by_cases c5 : x5_2 < 8
              · rw [if_pos c5] at H
                have c5b0 : decide (x5_2 < 8) = true := decide_eq_true c5
                clear c5
                by_cases c6 : (Int.tmod x3_2 2) = 1
                · rw [if_pos c6] at H
                  have c6b0 : ((Int.tmod x3_2 2) == 1) = true := beq_iff_eq.mpr c6
                  have c6b1 : ((Int.tmod x3_2 2) != 1) = false := bne_eq_false_iff_eq.mpr c6
                  clear c6
                  replace H := Option.bind_eq_some_iff.mp H
                  obtain ⟨t211, A70, H⟩ := H
                  replace H : (assartref01_Sum.l1 k2 l0 t211 x4_1 (wrap64 (x5_2 + 1))) = some r := H
                  have A7 := Aside0.mk A70
                  clear A70
                  have H' := Aside0.mk H
                  clear H
                  go_wp2_with (first | ((with_reducible refine gate_callee (f := 63) rfl ?_); refine goesL_ (some 31) rfl rfl Try.func63 (by kernel_rfl) rfl #[.int .i64 (wrap64 (Int.tdiv x3_2 2)), .int .i64 3988292384] rfl (by (try simp only [List.map_toArray, List.map_cons, List.map_nil]); first | done | rfl | (simp only [List.length_drop, List.length_take]; rfl)) ?_; (with_reducible refine (assartref01_xor.calls (wrap64 (Int.tdiv x3_2 2)) 3988292384 t211 _ A7.out).mono ?_); rintro e w' ⟨rfl, ⟨nd, rfl⟩⟩; refine ⟨_, rfl, ?_⟩))
                  go_roundg k2
                  case measure => have := HK1.out; have := HK2.out; omega
                  case rel => exact ⟨(t211), (wrap64 (x5_2 + 1)), (by first | rfl | (simp; done) | (simp [*]; done)), (by first | rfl | (simp; done) | (simp [*]; done)), H', ⟨by have := HK1.out; have := HK2.out; omega⟩, by repeat (first | exact Drawn0.refl _ | apply Drawn0.step)⟩
                · rw [if_neg c6] at H
                  have c6b0 : ((Int.tmod x3_2 2) == 1) = false := beq_eq_false_iff_ne.mpr c6
                  have c6b1 : ((Int.tmod x3_2 2) != 1) = true := bne_iff_ne.mpr c6
                  have H' := Aside0.mk H
                  clear H
                  go_wp2
                  go_roundg k2
                  case measure => have := HK1.out; have := HK2.out; omega
                  case rel => exact ⟨(wrap64 (Int.tdiv x3_2 2)), (wrap64 (x5_2 + 1)), (by first | rfl | (simp; done) | (simp [*]; done)), (by first | rfl | (simp; done) | (simp [*]; done)), H', ⟨by have := HK1.out; have := HK2.out; omega⟩, by repeat (first | exact Drawn0.refl _ | apply Drawn0.step)⟩
              · rw [if_neg c5] at H
                have c5b0 : decide (x5_2 < 8) = false := decide_eq_false c5
                clear c5
                have H' := Aside0.mk H
                clear H
                go_wp2
                go_roundg k2
                case measure => have := HK1.out; have := HK2.out; omega
                case rel => exact ⟨(x3_2), (wrap64 (x4_1 + 1)), (by first | rfl | (simp; done) | (simp [*]; done)), (by first | rfl | (simp; done) | (simp [*]; done)), H', ⟨by have := HK1.out; have := HK2.out; omega⟩, by repeat (first | exact Drawn0.refl _ | apply Drawn0.step)⟩
        · rw [if_neg c3] at H
          exact absurd H (by simp)
      · rw [if_neg c2] at H
        have c2b0 : decide (x4_1 < (l0.length : Int)) = false := decide_eq_false c2
        clear c2
        replace H := Option.bind_eq_some_iff.mp H
        obtain ⟨t208, A80, H⟩ := H
        replace H : (some t208) = some r := H
        have A8 := Aside0.mk A80
        clear A80
        obtain rfl := Option.some.inj H
        go_wp2_with (first | ((with_reducible refine gate_callee (f := 63) rfl ?_); refine goesL_ (some 33) rfl rfl Try.func63 (by kernel_rfl) rfl #[.int .i64 x3_1, .int .i64 4294967295] rfl (by (try simp only [List.map_toArray, List.map_cons, List.map_nil]); first | done | rfl | (simp only [List.length_drop, List.length_take]; rfl)) ?_; (with_reducible refine (assartref01_xor.calls x3_1 4294967295 t208 _ A8.out).mono ?_); rintro e w' ⟨rfl, ⟨nd, rfl⟩⟩; refine ⟨_, rfl, ?_⟩))
        go_ret
        exact ⟨by first | rfl | (simp; done) | (simp [*]; done), by repeat (first | exact Drawn0.refl _ | apply Drawn0.step)⟩

end Go.Proofs.Ythjnkapkhphpeaa.P
end
section
namespace Go.Proofs.Ythjnkapkhphpeaa.P
open Go.RowKit Go.Proofs.YthjnkapkhphpeaaW.PrintWords Go.Proofs.YthjnkapkhphpeaaW.PrintLast Go.Proofs.YthjnkapkhphpeaaW.PrintMore
attribute [local go_sem] max2_int min2_int max_two min_two max_three min_three max_four min_four
set_option linter.unusedVariables false
set_option linter.unusedSimpArgs false

/-! ### assartref01_Seal: function 46 -/
def assartref01_Seal.l0 : Nat → List Int → Option (ByteArray × Int)
  | 0, _ => none
  | k + 1, x4 => if (x4.length : Int) < 36 then (if x4.length < 140737488355328 then (assartref01_Seal.l0 k (x4 ++ [0])) else (none)) else ((assartref01_Sum.f k x4).bind fun t221 => ((assartref01_Put.f k t221 4).bind fun t222 => (if x4.length + t222.length < 140737488355328 then (some (strOfNums (x4 ++ t222), 0)) else (none))))
def assartref01_Seal.f (k : Nat) (l0 : List Int) : Option (ByteArray × Int) := if (l0.length : Int) > 36 then (some ((⟨#[]⟩ : ByteArray), 1)) else ((some (([] : List Int) : List Int)).bind fun y212 => (if y212.length + l0.length < 140737488355328 then (assartref01_Seal.l0 k (y212 ++ l0)) else (none)))
theorem assartref01_Seal.mono_l : ∀ k, (∀ y0, LeO (assartref01_Seal.l0 k y0) (assartref01_Seal.l0 (k + 1) y0))
  | 0 => fun _ r h => by simp [assartref01_Seal.l0] at h
  | k + 1 => by
    have ih0 := assartref01_Seal.mono_l k
    · intro y0
      unfold assartref01_Seal.l0
      repeat' first
      | (with_reducible exact ih0 _)
      | (with_reducible exact assartref01_Put.mono _ _ _)
      | (with_reducible exact assartref01_Sum.mono _ _)
      | (with_reducible exact LeO.refl _)
      | (with_reducible exact LeO.none _)
      | (with_reducible refine LeO.ite ?_ ?_)
      | (with_reducible refine LeO.bind ?_ (fun _ => ?_))
      | exact ih0 _
      | exact assartref01_Put.mono _ _ _
      | exact assartref01_Sum.mono _ _
      | exact LeO.none _
      | refine LeO.ite ?_ ?_
      | refine LeO.bind ?_ (fun _ => ?_)
theorem assartref01_Seal.mono : ∀ a0 k, LeO (assartref01_Seal.f k a0) (assartref01_Seal.f (k + 1) a0) := by
  intro a0 k
  have ih0 := assartref01_Seal.mono_l k
  unfold assartref01_Seal.f
  repeat' first
      | (with_reducible exact ih0 _)
      | (with_reducible exact assartref01_Put.mono _ _ _)
      | (with_reducible exact assartref01_Sum.mono _ _)
      | (with_reducible exact LeO.refl _)
      | (with_reducible exact LeO.none _)
      | (with_reducible refine LeO.ite ?_ ?_)
      | (with_reducible refine LeO.bind ?_ (fun _ => ?_))
      | exact ih0 _
      | exact assartref01_Put.mono _ _ _
      | exact assartref01_Sum.mono _ _
      | exact LeO.none _
      | refine LeO.ite ?_ ?_
      | refine LeO.bind ?_ (fun _ => ?_)
set_option maxHeartbeats 8000000 in
set_option maxRecDepth 100000 in
theorem assartref01_Seal.calls (k : Nat) (A0 : Option Addr) (c0 : Nat) (l0 : List Int) (r1 : ByteArray) (r2 : Int) (w : World) (hr0 : Kd.C (Kd.int .u8) w A0 l0.length l0) (hc0 : l0.length ≤ c0) (h : assartref01_Seal.f k l0 = some (r1, r2)) :
    Calls Try.prog 46 #[.slice A0 l0.length c0] w fun e w' => e = .returned (.tuple #[.string r1, .int .i64 r2]) ∧ Below w.heap.size w w' := by
  have HR0 := Aside0.mk hr0
  have HC0 := Aside0.mk hc0
  clear hr0 hc0
  have HB := Aside0.mk (Below.refl w.heap.size w)
  have H : (if (l0.length : Int) > 36 then (some ((⟨#[]⟩ : ByteArray), 1)) else ((some (([] : List Int) : List Int)).bind fun y212 => (if y212.length + l0.length < 140737488355328 then (assartref01_Seal.l0 k (y212 ++ l0)) else (none)))) = some (r1, r2) := h
  clear h
  by_cases c2 : (l0.length : Int) > 36
  · rw [if_pos c2] at H
    have c2b0 : decide (36 < (l0.length : Int)) = true := decide_eq_true c2
    have c2b1 : decide (36 < l0.length) = true := decide_eq_true (by omega)
    clear c2
    simp only [Option.some.injEq, Prod.mk.injEq] at H
    obtain ⟨rfl, rfl⟩ := H
    go_enter Try.func46, Try.ntmps46
    go_wp2
    go_ret2
    exact ⟨by first | rfl | (simp [errW_none, errW_some] <;> rfl) | (simp [*, errW_none, errW_some] <;> rfl), by repeat (first | (with_reducible first | exact HB.out | apply below_alloc | apply pw_below_drewN | apply below_drew1) | exact HB.out)⟩
  · rw [if_neg c2] at H
    have c2b0 : decide (36 < (l0.length : Int)) = false := decide_eq_false c2
    have c2b1 : decide (36 < l0.length) = false := decide_eq_false (by omega)
    clear c2
    obtain ⟨y212, hy212⟩ : ∃ y_ : List Int, y_ = (([] : List Int)) := ⟨_, rfl⟩
    replace H : (if y212.length + l0.length < 140737488355328 then (assartref01_Seal.l0 k (y212 ++ l0)) else (none)) = some (r1, r2) := by first | (rw [hy212]; with_reducible exact H) | (have H2_ := (Option.bind_some _ _).symm.trans H; rw [hy212]; with_reducible exact H2_) | (have H2_ := (Option.bind_some _ _).symm.trans H; with_reducible exact H2_) | with_reducible exact H | (rw [hy212]; exact H) | exact H
    have Ny212 := Aside0.mk hy212
    clear hy212
    by_cases c3 : y212.length + l0.length < 140737488355328
    · rw [if_pos c3] at H
      have LMc3 := Aside0.mk c3
      clear c3
      obtain ⟨y215, hy215⟩ : ∃ y_ : List Int, y_ = (y212 ++ l0) := ⟨_, rfl⟩
      replace H : (assartref01_Seal.l0 k y215) = some (r1, r2) := by first | (rw [hy215]; with_reducible exact H) | (have H2_ := (Option.bind_some _ _).symm.trans H; rw [hy215]; with_reducible exact H2_) | (have H2_ := (Option.bind_some _ _).symm.trans H; with_reducible exact H2_) | with_reducible exact H | (rw [hy215]; exact H) | exact H
      have Ny215 := Aside0.mk hy215
      clear hy215
      have H' := Aside0.mk H
      clear H
      go_enter Try.func46, Try.ntmps46
      go_wp2_with (first | ((with_reducible refine gate_dst (N := 8) rfl ?_); refine Kd.R_lit (Kd.int .u8) _ 5 ?hg (N := 8) ?hd (xs := ([] : List Int)) (inner := []) (ok := fun _ => True) (okp := fun _ => True) ?hr ?hp (fun _ hk => hk) trivial (Below.refl _ _) (Nat.le_refl _) (by simp) ?_; (case hd => rfl); (case hg => rfl); (case hr => first | (go_simp; done) | (go_simp; rfl)); (case hp => exact (Reps.none _ _)); intro v213 w4 ho5 hb hg_ hnew_; clear hg_ hnew_; (first | rw [← Ny212.out] at ho5 | (simp only [Int.reduceToNat] at ho5; rw [← Ny212.out] at ho5)); have n0_ := Aside0.mk (Kd.R_lower ho5 (below_size (by repeat (first | (with_reducible first | exact HB.out | apply below_alloc | apply pw_below_drewN | apply below_drew1) | exact HB.out)))); have n1_ := Aside0.mk (below_step (by repeat (first | (with_reducible first | exact HB.out | apply below_alloc | apply pw_below_drewN | apply below_drew1) | exact HB.out)) hb); clear HB; have HO214 := n0_; have HB := n1_; clear n0_ n1_; clear hb ho5) | ((with_reducible refine gate_builtin (b := .append) (xs := #[.tmp 8, .tmp 9]) rfl ?_); at_builtin; refine Kd.R_append_rows (Kd.int .u8) (w0 := w) w.heap.size rfl (.tmp 8) (.tmp 9) 24 5 (.int .u8 0) 1 rfl Try.underlying24 info5 rfl (by decide) (by omega) v213 y212 l0 _ _ _ (fun _ => True) (fun _ => False) rfl rfl ?aO ?aR (fun _ _ h => h) (fun _ h => h.elim) ?aF ?aB ?aS ?aL ?_; (case aR => repeat (first | exact (Kd.C_below HR0.out HB.out) | (with_reducible refine Kd.C_alloc ?_ _) | (with_reducible refine Kd.C_drewN ?_ _) | (with_reducible refine Kd.C_drew ?_))); (case aB => exact (by repeat (first | (with_reducible first | exact HB.out | apply below_alloc | apply pw_below_drewN | apply below_drew1) | exact HB.out))); (case aF => exact (fun _ _ => trivial)); (case aO => exact (by (with_reducible repeat (first | apply Kd.R_alloc | apply Kd.R_drewN | apply Kd.R_drew)); exact HO214.out)); (case aS => exact (below_size (by repeat (first | (with_reducible first | exact HB.out | apply below_alloc | apply pw_below_drewN | apply below_drew1) | exact HB.out)))); (case aL => have := LMc3.out; omega); intro v216 w6 ho hb hg hat; rw [← Ny215.out] at ho; have n0_ := Aside0.mk (hb); have n1_ := Aside0.mk (ho); clear HB; clear HO214; have HB := n0_; have HO217 := n1_; clear n0_ n1_; clear ho hb hg hat))
      go_loopg [4] k (fun kq v4 w' => ∃ (x4_1 : List Int), Aside0 (assartref01_Seal.l0 kq x4_1 = some (r1, r2)) ∧ Aside0 (kq ≤ k) ∧ Aside0 (Kd.R (Kd.int .u8) 5 w' w.heap.size (fun _ => True) v4 x4_1) ∧ Aside0 (Below w.heap.size w w'))
      case atStart => exact ⟨(y215), H', ⟨Nat.le_refl _⟩, ⟨by (with_reducible repeat (first | apply Kd.R_alloc | apply Kd.R_drewN | apply Kd.R_drew)); exact HO217.out⟩, ⟨by repeat (first | (with_reducible first | exact HB.out | apply below_alloc | apply pw_below_drewN | apply below_drew1) | exact HB.out)⟩⟩
      case round =>
        clear H'
        try clear c2
        try clear c2b0
        try clear c2b1
        try clear p2
        try clear c3
        try clear c4
        obtain ⟨x4_1, HA, HK1, HO_4, HB⟩ := hrel
        cases gk with
        | zero => exact absurd HA.out (by simp [assartref01_Seal.l0])
        | succ k1 =>
          have H := HA.out
          clear HA
          simp only [assartref01_Seal.l0] at H
          by_cases c7 : (x4_1.length : Int) < 36
          · rw [if_pos c7] at H
            have c7b0 : decide ((x4_1.length : Int) < 36) = true := decide_eq_true c7
            have c7b1 : decide (x4_1.length < 36) = true := decide_eq_true (by omega)
            clear c7
            by_cases c8 : x4_1.length < 140737488355328
            · rw [if_pos c8] at H
              have LMc8 := Aside0.mk c8
              clear c8
              obtain ⟨y218, hy218⟩ : ∃ y_ : List Int, y_ = (x4_1 ++ [0]) := ⟨_, rfl⟩
              replace H : (assartref01_Seal.l0 k1 y218) = some (r1, r2) := by first | (rw [hy218]; with_reducible exact H) | (have H2_ := (Option.bind_some _ _).symm.trans H; rw [hy218]; with_reducible exact H2_) | (have H2_ := (Option.bind_some _ _).symm.trans H; with_reducible exact H2_) | with_reducible exact H | (rw [hy218]; exact H) | exact H
              have Ny218 := Aside0.mk hy218
              clear hy218
              have H' := Aside0.mk H
              clear H
              obtain ⟨Ao9, co9, eo9⟩ := Kd.R_slice HO_4.out
              subst eo9
              go_wp2_with (first | ((with_reducible refine gate_builtin (b := .append) (xs := #[.tmp 14, .tmp 15]) rfl ?_); at_builtin; refine Kd.R_append (Kd.int .u8) (w0 := w) w.heap.size rfl (.tmp 14) (.tmp 15) 24 5 (.int .u8 0) 1 rfl Try.underlying24 info5 rfl (by decide) (by omega) (.slice Ao9 x4_1.length co9) x4_1 0 [.int .u8 0] (fun _ => True) (fun _ => False) rfl rfl ?aP (fun _ hk => hk.elim) ?aF ?aO ?aB ?aS ?aL ?_; (case aP => exact rfl); (case aB => exact (by repeat (first | (with_reducible first | exact HB.out | apply below_alloc | apply pw_below_drewN | apply below_drew1) | exact HB.out))); (case aF => exact (fun _ _ => trivial)); (case aO => exact (by (with_reducible repeat (first | apply Kd.R_alloc | apply Kd.R_drewN | apply Kd.R_drew)); exact HO_4.out)); (case aS => exact (below_size (by repeat (first | (with_reducible first | exact HB.out | apply below_alloc | apply pw_below_drewN | apply below_drew1) | exact HB.out)))); (case aL => have := LMc8.out; omega); intro v219 w10 ho hb hg hat; rw [← Ny218.out] at ho; have n0_ := Aside0.mk (hb); have n1_ := Aside0.mk (ho); clear HB; clear HO_4; have HB := n0_; have HO220 := n1_; clear n0_ n1_; clear ho hb hg hat))
              go_roundg k1
              case measure => have := HK1.out; omega
              case rel => exact ⟨(y218), H', ⟨by have := HK1.out; omega⟩, ⟨by (with_reducible repeat (first | apply Kd.R_alloc | apply Kd.R_drewN | apply Kd.R_drew)); exact HO220.out⟩, ⟨by repeat (first | (with_reducible first | exact HB.out | apply below_alloc | apply pw_below_drewN | apply below_drew1) | exact HB.out)⟩⟩
            · rw [if_neg c8] at H
              exact absurd H (by simp)
          · rw [if_neg c7] at H
            have c7b0 : decide ((x4_1.length : Int) < 36) = false := decide_eq_false c7
            have c7b1 : decide (x4_1.length < 36) = false := decide_eq_false (by omega)
            clear c7
            replace H := Option.bind_eq_some_iff.mp H
            obtain ⟨t221, A110, H⟩ := H
            replace H : ((assartref01_Put.f k1 t221 4).bind fun t222 => (if x4_1.length + t222.length < 140737488355328 then (some (strOfNums (x4_1 ++ t222), 0)) else (none))) = some (r1, r2) := H
            have A11 := Aside0.mk A110
            clear A110
            replace H := Option.bind_eq_some_iff.mp H
            obtain ⟨t222, A120, H⟩ := H
            replace H : (if x4_1.length + t222.length < 140737488355328 then (some (strOfNums (x4_1 ++ t222), 0)) else (none)) = some (r1, r2) := H
            have A12 := Aside0.mk A120
            clear A120
            by_cases c13 : x4_1.length + t222.length < 140737488355328
            · rw [if_pos c13] at H
              have LMc13 := Aside0.mk c13
              clear c13
              obtain ⟨y225, hy225⟩ : ∃ y_ : List Int, y_ = (x4_1 ++ t222) := ⟨_, rfl⟩
              replace H : (some (strOfNums y225, 0)) = some (r1, r2) := by first | (rw [hy225]; with_reducible exact H) | (have H2_ := (Option.bind_some _ _).symm.trans H; rw [hy225]; with_reducible exact H2_) | (have H2_ := (Option.bind_some _ _).symm.trans H; with_reducible exact H2_) | with_reducible exact H | (rw [hy225]; exact H) | exact H
              have Ny225 := Aside0.mk hy225
              clear hy225
              simp only [Option.some.injEq, Prod.mk.injEq] at H
              obtain ⟨rfl, rfl⟩ := H
              obtain ⟨Ao14, co14, eo14⟩ := Kd.R_slice HO_4.out
              subst eo14
              go_wp2_with (first | ((with_reducible refine gate_callee (f := 53) rfl ?_); refine goesL_ (some 19) rfl rfl Try.func53 (by kernel_rfl) rfl #[.slice Ao14 x4_1.length co14] rfl (by (try simp only [List.map_toArray, List.map_cons, List.map_nil]); first | done | rfl | (simp only [List.length_drop, List.length_take]; rfl)) ?_; (with_reducible refine (assartref01_Sum.calls k1 _ _ x4_1 t221 _ ?side1 ?side2 A11.out).mono ?_); (case side1 => repeat (first | exact (Kd.R_reads' HO_4.out).2.2 | (with_reducible refine Kd.C_alloc ?_ _) | (with_reducible refine Kd.C_drewN ?_ _) | (with_reducible refine Kd.C_drew ?_))); (case side2 => exact (Kd.R_reads' HO_4.out).2.1); rintro e w' ⟨rfl, ⟨nd, rfl⟩⟩; refine ⟨_, rfl, ?_⟩) | ((with_reducible refine gate_callee (f := 45) rfl ?_); refine goesL_ (some 20) rfl rfl Try.func45 (by kernel_rfl) rfl #[.int .i64 t221, .int .i64 4] rfl (by (try simp only [List.map_toArray, List.map_cons, List.map_nil]); first | done | rfl | (simp only [List.length_drop, List.length_take]; rfl)) ?_; (with_reducible refine (assartref01_Put.calls k1 t221 4 t222 _ A12.out).mono ?_); rintro e w15 ⟨v223, rfl, ho0, hb⟩; refine ⟨_, rfl, ?_⟩; have n0_ := Aside0.mk (Kd.R_elder' (by (with_reducible repeat (first | apply Kd.R_alloc | apply Kd.R_drewN | apply Kd.R_drew)); exact HO_4.out) (Kd.R_base ho0) hb); have n1_ := Aside0.mk (Kd.R_lower (Kd.R_new' ho0 (Kd.R_lt (by (with_reducible repeat (first | apply Kd.R_alloc | apply Kd.R_drewN | apply Kd.R_drew)); exact HO_4.out))) (below_size (by repeat (first | (with_reducible first | exact HB.out | apply below_alloc | apply pw_below_drewN | apply below_drew1) | exact HB.out)))); have n2_ := Aside0.mk (below_step (by repeat (first | (with_reducible first | exact HB.out | apply below_alloc | apply pw_below_drewN | apply below_drew1) | exact HB.out)) hb); clear HO_4; clear HB; have HO_4 := n0_; have HO224 := n1_; have HB := n2_; clear n0_ n1_ n2_; (try clear hb); (try clear hb2); (try clear hk); (try clear hi); (try clear ho0); obtain ⟨Ao17, co17, eo17⟩ := Kd.R_slice HO224.out; subst eo17) | ((with_reducible refine gate_builtin (b := .append) (xs := #[.tmp 17, .tmp 20]) rfl ?_); at_builtin; refine Kd.R_append_rows (Kd.int .u8) (w0 := w) w.heap.size rfl (.tmp 17) (.tmp 20) 24 5 (.int .u8 0) 1 rfl Try.underlying24 info5 rfl (by decide) (by omega) (.slice Ao14 x4_1.length co14) x4_1 t222 _ _ _ (fun k_ => some k_ ≠ (.slice Ao17 t222.length co17 : Value).ownBlock) (fun _ => False) rfl rfl ?aO ?aR (fun _ _ h => h) (fun _ h => h.elim) ?aF ?aB ?aS ?aL ?_; (case aR => repeat (first | exact (Kd.R_reads' HO224.out).2.2 | (with_reducible refine Kd.C_alloc ?_ _) | (with_reducible refine Kd.C_drewN ?_ _) | (with_reducible refine Kd.C_drew ?_))); (case aB => exact (by repeat (first | (with_reducible first | exact HB.out | apply below_alloc | apply pw_below_drewN | apply below_drew1) | exact HB.out))); (case aF => exact (fun k_ hk => Kd.fresh' (Kd.R_lt (by (with_reducible repeat (first | apply Kd.R_alloc | apply Kd.R_drewN | apply Kd.R_drew)); exact HO224.out)) k_ hk)); (case aO => exact (by (with_reducible repeat (first | apply Kd.R_alloc | apply Kd.R_drewN | apply Kd.R_drew)); exact Kd.R_mono HO_4.out (fun _ hk => hk.2))); (case aS => exact (below_size (by repeat (first | (with_reducible first | exact HB.out | apply below_alloc | apply pw_below_drewN | apply below_drew1) | exact HB.out)))); (case aL => have := LMc13.out; omega); intro v226 w16 ho hb hg hat; rw [← Ny225.out] at ho; have n0_ := Aside0.mk (Kd.R_after (ok := (fun _ => True)) (by (with_reducible repeat (first | apply Kd.R_alloc | apply Kd.R_drewN | apply Kd.R_drew)); exact HO224.out) hg hat); have n1_ := Aside0.mk (hb); have n2_ := Aside0.mk (ho); clear HO224; clear HB; clear HO_4; have HO224 := n0_; have HB := n1_; have HO227 := n2_; clear n0_ n1_ n2_; clear ho hb hg hat; have hcv18 := own_string (P := Try.prog) Try.underlying24 Try.underlying5 Try.underlying9 (Kd.own_of_R HO227.out)))
              go_ret2
              exact ⟨by first | rfl | (simp [errW_none, errW_some] <;> rfl) | (simp [*, errW_none, errW_some] <;> rfl), by repeat (first | (with_reducible first | exact HB.out | apply below_alloc | apply pw_below_drewN | apply below_drew1) | exact HB.out)⟩
            · rw [if_neg c13] at H
              exact absurd H (by simp)
    · rw [if_neg c3] at H
      exact absurd H (by simp)

end Go.Proofs.Ythjnkapkhphpeaa.P
end
section
namespace Go.Proofs.Ythjnkapkhphpeaa.P
open Go.RowKit Go.Proofs.YthjnkapkhphpeaaW.PrintWords Go.Proofs.YthjnkapkhphpeaaW.PrintLast Go.Proofs.YthjnkapkhphpeaaW.PrintMore
set_option linter.unusedVariables false
set_option linter.unusedSimpArgs false
theorem wrap_u32 (n : Int) (h0 : 0 ≤ n) (h1 : n < 2 ^ 32) : IntKind.u32.wrap n = n := by rw [IntKind.wrap_u32]; omega
theorem and1 {n : Int} (h0 : 0 ≤ n) (h1 : n < 4294967296) : Go.bits .and .u32 n 1 = n % 2 := bits_mask .u32 32 (by decide) wrap_u32 1 (by decide) n h0 (by simpa using h1)
theorem xor_val {a b : Int} (ha : 0 ≤ a) (ha1 : a < 4294967296) (hb : 0 ≤ b) (hb1 : b < 4294967296) : assartref01_xor.f a b = some (Go.bits .xor .u32 a b) := by
  unfold assartref01_xor.f
  rw [Int.emod_eq_of_lt ha ha1, Int.emod_eq_of_lt hb hb1, w64 (by have := xor_bd a b; omega) (by have := xor_bd a b; omega)]
theorem l1_step (d : Nat) : ∀ (k : Nat) (l : List Int) (x i : Int), 0 ≤ x → x < 4294967296 → d ≤ 8 → d < k → assartref01_Sum.l1 k l x i (8 - d) = assartref01_Sum.l0 (k - d - 1) l (stN d x) (wrap64 (i + 1)) := by
  induction d with
  | zero =>
    intro k l x i h0 h1 hd hk
    obtain ⟨k, rfl⟩ : ∃ m, k = m + 1 := ⟨k - 1, by omega⟩
    simp [assartref01_Sum.l1, stN]
  | succ d ih =>
    intro k l x i h0 h1 hd hk
    obtain ⟨k, rfl⟩ : ∃ m, k = m + 1 := ⟨k - 1, by omega⟩
    have hlt : (8 : Int) - ((d + 1 : Nat) : Int) < 8 := by omega
    have ew : wrap64 (8 - ((d + 1 : Nat) : Int) + 1) = 8 - (d : Int) := by rw [w64 (by omega) (by omega)]; omega
    have et : Int.tmod x 2 = x % 2 := Int.tmod_eq_emod_of_nonneg h0
    have ed : Int.tdiv x 2 = x / 2 := Int.tdiv_eq_ediv_of_nonneg h0
    have hs : st x = if x % 2 = 1 then Go.bits .xor .u32 (x / 2) 3988292384 else x / 2 := by
      unfold st
      rw [and1 h0 h1]
      by_cases h : x % 2 = 1 <;> simp [h]
    simp only [assartref01_Sum.l1]
    rw [if_pos hlt, ew, et, ed, w64 (by omega) (by omega), show k + 1 - (d + 1) - 1 = k - d - 1 by omega, stN, hs]
    by_cases h : x % 2 = 1
    · rw [if_pos h, if_pos h, xor_val (by omega) (by omega) (by omega) (by omega)]
      simp only [Option.bind_some]
      exact ih k l _ i (xor_bd _ _).1 (xor_bd _ _).2 (by omega) (by omega)
    · rw [if_neg h, if_neg h]
      exact ih k l _ i (by omega) (by omega) (by omega) (by omega)
theorem l0_step (l : List Int) (hl : l.length ≤ 140737488355328) (hb : ∀ x ∈ l, 0 ≤ x ∧ x < 256) (d : Nat) : ∀ (k i : Nat), i + d = l.length → 10 * d < k → assartref01_Sum.l0 k l (regI (l.take i)) i = some (crc l) := by
  induction d with
  | zero =>
    intro k i hi hk
    obtain ⟨k, rfl⟩ : ∃ m, k = m + 1 := ⟨k - 1, by omega⟩
    obtain rfl : i = l.length := by omega
    have hbd := regI_bd l
    simp only [assartref01_Sum.l0]
    rw [if_neg (by omega), List.take_length, xor_val hbd.1 hbd.2 (by omega) (by omega)]
    simp only [Option.bind_some, crc]
    rw [w64 (by have := xor_bd IntKind.u32.max (regI l); omega) (by have := xor_bd IntKind.u32.max (regI l); omega)]
    congr 1
    simp only [Go.bits]
    rw [BitVec.xor_comm]
    rfl
  | succ d ih =>
    intro k i hi hk
    obtain ⟨k, rfl⟩ : ∃ m, k = m + 1 := ⟨k - 1, by omega⟩
    have hbd := regI_bd (l.take i)
    have hc := lt_of_all hb i
    simp only [assartref01_Sum.l0]
    rw [if_pos (by omega), if_pos (by omega), w64 (by omega) (by omega), xor_val hbd.1 hbd.2 hc.1 (by omega)]
    simp only [Option.bind_some]
    have := l1_step 8 k l (Go.bits .xor .u32 (regI (l.take i)) (rd l i)) i (xor_bd _ _).1 (xor_bd _ _).2 (by omega) (by omega)
    simp only [Int.sub_self, show (8 : Int) - ((8 : Nat) : Int) = 0 by omega] at this
    rw [this, w64 (by omega) (by omega)]
    have e := regI_snoc l i (by omega)
    unfold byteI at e
    rw [Int.emod_eq_of_lt hc.1 (by omega)] at e
    rw [← e]
    exact ih _ (i + 1) (by omega) (by omega)
/-- The document's check sum is ours. -/
theorem refSum_val (l : List Int) (hl : l.length ≤ 140737488355328) (hb : ∀ x ∈ l, 0 ≤ x ∧ x < 256) (k : Nat) (hk : 10 * l.length < k) : assartref01_Sum.f k l = some (crc l) := by
  have := l0_step l hl hb l.length k 0 (by omega) hk
  simpa [assartref01_Sum.f, regI] using this
theorem limit_val (k : Nat) (w : Int) (h1 : 1 ≤ w) (h4 : w ≤ 4) : assartref01_limit.f (k + 6) w = some (256 ^ w.toNat) := by
  rcases pow4 h1 h4 with rfl | rfl | rfl | rfl <;> simp [assartref01_limit.f, assartref01_limit.l0, wrap64]
theorem refPut_val (k : Nat) (n w : Int) (h1 : 1 ≤ w) (h4 : w ≤ 4) (h0 : 0 ≤ n) (hn : n < 256 ^ w.toNat) : assartref01_Put.f (k + 6) n w = some (le n w) := by
  have hl := limit_val k w h1 h4
  have hz : ¬ n < 0 := by omega
  have tq : ∀ m : Int, 0 ≤ m → Int.tdiv m 256 = m / 256 := fun m h => Int.tdiv_eq_ediv_of_nonneg h
  have tr : ∀ m : Int, 0 ≤ m → Int.tmod m 256 = m % 256 := fun m h => Int.tmod_eq_emod_of_nonneg h
  have q1 : (0 : Int) ≤ n / 256 := by omega
  have q2 : (0 : Int) ≤ n / 256 / 256 := by omega
  have q3 : (0 : Int) ≤ n / 256 / 256 / 256 := by omega
  have e1 : n / 65536 = n / 256 / 256 := by omega
  have e2 : n / 16777216 = n / 256 / 256 / 256 := by omega
  rcases pow4 h1 h4 with rfl | rfl | rfl | rfl
  all_goals
    simp at hn
    have w1 : wrap64 (n / 256) = n / 256 := w64 (by omega) (by omega)
    have w2 : wrap64 (n / 256 / 256) = n / 256 / 256 := w64 (by omega) (by omega)
    have w3 : wrap64 (n / 256 / 256 / 256) = n / 256 / 256 / 256 := w64 (by omega) (by omega)
    have w4 : wrap64 (n / 256 / 256 / 256 / 256) = n / 256 / 256 / 256 / 256 := w64 (by omega) (by omega)
    have hgt : ¬ n ≥ 256 ^ 1 ∨ True := .inr trivial
    simp only [assartref01_Put.f]
    rw [if_neg (by decide), if_neg (by decide), if_neg hz, hl]
    simp only [Option.bind_some]
    simp [assartref01_Put.j0, assartref01_Put.l0, tq, tr, h0, q1, q2, q3, w1, w2, w3, w4, le, le4, e1, e2, show (1 : Int) + 1 = 2 from rfl, w64]
    try omega
theorem refPut_none (k : Nat) (n w : Int) (h : ¬ (1 ≤ w ∧ w ≤ 4 ∧ 0 ≤ n ∧ n < 256 ^ w.toNat)) : assartref01_Put.f (k + 6) n w = some [] := by
  simp only [assartref01_Put.f]
  by_cases h1 : w < 1
  · rw [if_pos h1]; simp [assartref01_Put.j0]
  · rw [if_neg h1]
    by_cases h4 : w > 4
    · rw [if_pos h4]; simp [assartref01_Put.j0]
    · rw [if_neg h4]
      by_cases h0 : n < 0
      · rw [if_pos h0]; simp [assartref01_Put.j0]
      · rw [if_neg h0, limit_val k w (by omega) (by omega)]
        simp only [Option.bind_some]
        have : n ≥ 256 ^ w.toNat := by
          have : ¬ n < 256 ^ w.toNat := fun hn => h ⟨by omega, by omega, by omega, hn⟩
          omega
        simp [assartref01_Put.j0, this]
theorem refTake_val (k : Nat) (l : List Int) (a w : Int) (hl : l.length ≤ 140737488355328) (hb : ∀ x ∈ l, 0 ≤ x ∧ x < 256) (h1 : 1 ≤ w) (h4 : w ≤ 4) (h0 : 0 ≤ a) (ha : a + w ≤ l.length) : assartref01_Take.f (k + 6) l a w = some (lev l a w, a + w, 0) := by
  have b0 := lt_of_all hb a
  have b1 := lt_of_all hb (a + 1)
  have b2 := lt_of_all hb (a + 2)
  have b3 := lt_of_all hb (a + 3)
  have ew : wrap64 ((l.length : Int) - a) = l.length - a := w64 (by omega) (by omega)
  have q0 : wrap64 a = a := w64 (by omega) (by omega)
  have q1 : wrap64 (a + 1) = a + 1 := w64 (by omega) (by omega)
  have q2 : wrap64 (a + 2) = a + 2 := w64 (by omega) (by omega)
  have q3 : wrap64 (a + 3) = a + 3 := w64 (by omega) (by omega)
  have q4 : wrap64 (a + 4) = a + 4 := w64 (by omega) (by omega)
  have r0 : wrap64 (rd l a) = rd l a := w64 (by omega) (by omega)
  have r1 : wrap64 (rd l (a + 1)) = rd l (a + 1) := w64 (by omega) (by omega)
  have r2 : wrap64 (rd l (a + 2)) = rd l (a + 2) := w64 (by omega) (by omega)
  have r3 : wrap64 (rd l (a + 3)) = rd l (a + 3) := w64 (by omega) (by omega)
  have v1 : (0 : Int) ≤ a + 1 := by omega
  have v2 : (0 : Int) ≤ a + 2 := by omega
  have v3 : (0 : Int) ≤ a + 3 := by omega
  have c0 : a < l.length := by omega
  simp only [assartref01_Take.f]
  rw [if_neg (by omega), if_neg (by omega), if_neg (by omega), if_neg (by omega), ew]
  have hd : decide ((l.length : Int) - a < w) = false := by simp; omega
  rw [hd]
  rcases pow4 h1 h4 with rfl | rfl | rfl | rfl
  · simp [assartref01_Take.j0, assartref01_Take.l0, h0, c0, lev, q0, q1, q2, q3, q4, r0, w64]
  · have c1 : a + 1 < l.length := by omega
    have t1 : wrap64 (wrap64 (rd l (a + 1) * 256) + rd l a) = rd l a + 256 * rd l (a + 1) := by rw [w64 (x := rd l (a + 1) * 256) (by omega) (by omega), w64 (by omega) (by omega)]; omega
    simp [assartref01_Take.j0, assartref01_Take.l0, h0, c0, c1, lev, q0, q1, q2, q3, q4, r0, r1, v1, w64, t1]
  · have c1 : a + 1 < l.length := by omega
    have c2 : a + 2 < l.length := by omega
    have t1 : wrap64 (wrap64 (rd l (a + 2) * 256) + rd l (a + 1)) = rd l (a + 1) + 256 * rd l (a + 2) := by rw [w64 (x := rd l (a + 2) * 256) (by omega) (by omega), w64 (by omega) (by omega)]; omega
    have t2 : wrap64 (wrap64 ((rd l (a + 1) + 256 * rd l (a + 2)) * 256) + rd l a) = rd l a + 256 * rd l (a + 1) + 65536 * rd l (a + 2) := by rw [w64 (x := (rd l (a + 1) + 256 * rd l (a + 2)) * 256) (by omega) (by omega), w64 (by omega) (by omega)]; omega
    simp [assartref01_Take.j0, assartref01_Take.l0, h0, c0, c1, c2, lev, q0, q1, q2, q3, q4, r0, r1, r2, v1, v2, w64, t1, t2]
  · have c1 : a + 1 < l.length := by omega
    have c2 : a + 2 < l.length := by omega
    have c3 : a + 3 < l.length := by omega
    have t1 : wrap64 (wrap64 (rd l (a + 3) * 256) + rd l (a + 2)) = rd l (a + 2) + 256 * rd l (a + 3) := by rw [w64 (x := rd l (a + 3) * 256) (by omega) (by omega), w64 (by omega) (by omega)]; omega
    have t2 : wrap64 (wrap64 ((rd l (a + 2) + 256 * rd l (a + 3)) * 256) + rd l (a + 1)) = rd l (a + 1) + 256 * rd l (a + 2) + 65536 * rd l (a + 3) := by rw [w64 (x := (rd l (a + 2) + 256 * rd l (a + 3)) * 256) (by omega) (by omega), w64 (by omega) (by omega)]; omega
    have t3 : wrap64 (wrap64 ((rd l (a + 1) + 256 * rd l (a + 2) + 65536 * rd l (a + 3)) * 256) + rd l a) = rd l a + 256 * rd l (a + 1) + 65536 * rd l (a + 2) + 16777216 * rd l (a + 3) := by rw [w64 (x := (rd l (a + 1) + 256 * rd l (a + 2) + 65536 * rd l (a + 3)) * 256) (by omega) (by omega), w64 (by omega) (by omega)]; omega
    simp [assartref01_Take.j0, assartref01_Take.l0, h0, c0, c1, c2, c3, lev, q0, q1, q2, q3, q4, r0, r1, r2, r3, v1, v2, v3, w64, t1, t2, t3]
theorem refTake_none (k : Nat) (l : List Int) (a w : Int) (hl : l.length ≤ 140737488355328) (h : ¬ (1 ≤ w ∧ w ≤ 4 ∧ 0 ≤ a ∧ a + w ≤ l.length)) : assartref01_Take.f (k + 6) l a w = some (0, 0, 2) := by
  simp only [assartref01_Take.f]
  by_cases h1 : w < 1
  · rw [if_pos h1]; simp [assartref01_Take.j0]
  · rw [if_neg h1]
    by_cases h4 : w > 4
    · rw [if_pos h4]; simp [assartref01_Take.j0]
    · rw [if_neg h4]
      by_cases h0 : a < 0
      · rw [if_pos h0]; simp [assartref01_Take.j0]
      · rw [if_neg h0]
        by_cases h2 : a > (l.length : Int)
        · rw [if_pos h2]; simp [assartref01_Take.j0]
        · rw [if_neg h2, w64 (by omega) (by omega)]
          have hd : decide ((l.length : Int) - a < w) = true := by simp; omega
          rw [hd]
          simp [assartref01_Take.j0]
theorem refSeal_l0 (d : Nat) : ∀ (k : Nat) (l : List Int), l.length + d = 36 → d < k → assartref01_Seal.l0 k l = assartref01_Seal.l0 (k - d) (l ++ List.replicate d 0) := by
  induction d with
  | zero => intro k l h hk; simp
  | succ d ih =>
    intro k l h hk
    obtain ⟨k, rfl⟩ : ∃ m, k = m + 1 := ⟨k - 1, by omega⟩
    simp only [assartref01_Seal.l0]
    rw [if_pos (by omega), if_pos (by omega), ih k _ (by simp; omega) (by omega)]
    rw [show k + 1 - (d + 1) = k - d by omega, List.append_assoc]
    have : [(0 : Int)] ++ List.replicate d 0 = List.replicate (d + 1) 0 := by rw [List.replicate_succ]; rfl
    rw [this]
theorem pad_bd {l : List Int} (hb : ∀ x ∈ l, 0 ≤ x ∧ x < 256) : ∀ x ∈ pad l, 0 ≤ x ∧ x < 256 := by
  intro x hx
  simp only [pad, List.mem_append, List.mem_replicate] at hx
  rcases hx with hx | ⟨_, rfl⟩
  · exact hb x hx
  · omega
theorem pad_len {l : List Int} (h : l.length ≤ 36) : (pad l).length = 36 := by simp [pad]; omega
theorem refSeal_end (k : Nat) (l : List Int) (hl : l.length = 36) (hb : ∀ x ∈ l, 0 ≤ x ∧ x < 256) (hk : 400 < k) : assartref01_Seal.l0 (k + 1) l = some (strOfNums (l ++ le (crc l) 4), 0) := by
  have hcb := crc_bd l
  have h1 := refSum_val l (by omega) hb k (by omega)
  obtain ⟨i, hi⟩ : ∃ m, k = m + 6 := ⟨k - 6, by omega⟩
  have h2 : assartref01_Put.f k (crc l) 4 = some (le (crc l) 4) := by rw [hi]; exact refPut_val i _ 4 (by omega) (by omega) hcb.1 (by simpa using hcb.2)
  have hll : (le (crc l) 4).length = 4 := rfl
  simp only [assartref01_Seal.l0]
  rw [if_neg (by omega), h1, Option.bind_some, h2, Option.bind_some, if_pos (by omega)]
theorem refSeal_val (l : List Int) (hl : l.length ≤ 140737488355328) (hb : ∀ x ∈ l, 0 ≤ x ∧ x < 256) (k : Nat) (hk : 500 < k) : assartref01_Seal.f k l = num_Seal.f l := by
  unfold assartref01_Seal.f num_Seal.f
  by_cases h : 36 < l.length
  · rw [if_pos (by omega), if_pos h]
  · rw [if_neg (by omega), if_neg h]
    simp only [Option.bind_some, List.nil_append, List.length_nil]
    rw [if_pos (by omega), refSeal_l0 (36 - l.length) k l (by omega) (by omega)]
    obtain ⟨j, hj⟩ : ∃ m, k - (36 - l.length) = m + 1 := ⟨k - (36 - l.length) - 1, by omega⟩
    rw [hj]
    exact refSeal_end j (pad l) (pad_len (by omega)) (pad_bd hb) (by omega)
end Go.Proofs.Ythjnkapkhphpeaa.P
end
section
namespace Go.Proofs.Ythjnkapkhphpeaa.P
open Go.RowKit Go.Proofs.YthjnkapkhphpeaaW.PrintWords Go.Proofs.YthjnkapkhphpeaaW.PrintLast Go.Proofs.YthjnkapkhphpeaaW.PrintMore
set_option linter.unusedVariables false
set_option linter.unusedSimpArgs false
theorem bytesOf_str {l : List Int} (hb : ∀ x ∈ l, 0 ≤ x ∧ x < 256) : bytesOf (strOfNums l) = l := by
  unfold bytesOf strOfNums
  simp only [List.map_map]
  conv => rhs; rw [← List.map_id l]
  refine List.map_congr_left fun x hx => ?_
  have := hb x hx
  simp
  omega
theorem lit_C (W : World) (e : TypeId) (l : List Int) (m : Nat × Nat) (hl : l.length ≤ 9223372036854775807) : Kd.C (Kd.int .u8) (W.alloc (.cells (encs (Value.int .u8) l).toArray e m)) (some ⟨W.heap.size, 0, none⟩) l.length l := by
  refine Kd.C_of_reads (d := (0 : Int)) ⟨rfl, hl, fun h => ⟨⟨W.heap.size, 0, none⟩, rfl, fun j hj => ?_⟩⟩
  rw [add_plain, World.cell?_alloc_mark]
  have := encs_get (enc := Value.int .u8) (d := (0 : Int)) l j hj
  simpa using this
theorem sum_ex : crc [49, 50, 51, 52, 53, 54, 55, 56, 57] = 3421780262 := by decide +kernel
theorem put_ex : num_Put.f 6 258 2 = some [2, 1] := by decide +kernel
theorem take_ex : num_Take.f 6 [2, 1] 0 2 = some (258, 2, 0) := by decide +kernel
theorem seal_bytes {l : List Int} (hl : l.length ≤ 36) (hb : ∀ x ∈ l, 0 ≤ x ∧ x < 256) : bytesOf (strOfNums (pad l ++ le (crc (pad l)) 4)) = pad l ++ le (crc (pad l)) 4 := by
  refine bytesOf_str fun x hx => ?_
  rcases List.mem_append.1 hx with hx | hx
  · simp only [pad, List.mem_append, List.mem_replicate] at hx
    rcases hx with hx | ⟨_, rfl⟩
    · exact hb x hx
    · omega
  · have : x ∈ le4 (crc (pad l)) := List.mem_of_mem_take hx
    simp only [le4, List.mem_cons, List.not_mem_nil, or_false] at this
    rcases this with rfl | rfl | rfl | rfl <;> omega
theorem lev_le (l : List Int) (n : Int) (h0 : 0 ≤ n) (h1 : n < 4294967296) (hl : l.length = 36) : lev (l ++ le n 4) 36 4 = n := by
  have hr : ∀ j : Nat, j < 4 → rd (l ++ le n 4) (36 + (j : Int)) = (le4 n).getD j 0 := by
    intro j hj
    unfold rd
    rw [show (36 + (j : Int)).toNat = 36 + j by omega, List.getD_eq_getElem?_getD, List.getElem?_append_right (by omega), hl, List.getD_eq_getElem?_getD]
    simp [le, le4]
  have e0 := hr 0 (by omega)
  have e1 := hr 1 (by omega)
  have e2 := hr 2 (by omega)
  have e3 := hr 3 (by omega)
  simp [le4] at e0 e1 e2 e3
  simp only [lev]
  rw [e0, show (36 : Int) + 1 = 37 from rfl, show (36 : Int) + 2 = 38 from rfl, show (36 : Int) + 3 = 39 from rfl, e1, e2, e3]
  simp
  omega
theorem open_seal {l : List Int} (hl : l.length ≤ 36) (hb : ∀ x ∈ l, 0 ≤ x ∧ x < 256) : num_Open.f (strOfNums (pad l ++ le (crc (pad l)) 4)) = some (pad l, 0) := by
  have hp : (pad l).length = 36 := by simp [pad]; omega
  have ht : (pad l ++ le (crc (pad l)) 4).take 36 = pad l := by rw [List.take_append_of_le_length (by omega), List.take_of_length_le (by omega)]
  have hs : isSealed (pad l ++ le (crc (pad l)) 4) = true := by
    unfold isSealed
    rw [ht, lev_le _ _ (crc_bd _).1 (crc_bd _).2 hp]
    simp [hp]
    rfl
  unfold num_Open.f
  rw [seal_bytes hl hb, hs, ht]
  rfl
theorem seal_size {l : List Int} (h : l.length ≤ 36) : (strOfNums (pad l ++ le (crc (pad l)) 4)).size = 40 := by
  have hp := pad_len h
  simp [strOfNums, ByteArray.size, hp, le, le4]
theorem pad_lo {l : List Int} {k : Nat} (h : k < l.length) : rd (pad l) (k : Int) = rd l k := by
  simp [rd, pad, List.getD_eq_getElem?_getD, List.getElem?_append_left h]
theorem pad_hi {l : List Int} {k : Nat} (h : ¬ k < l.length) : rd (pad l) (k : Int) = 0 := by
  simp only [rd, pad, Int.toNat_natCast, List.getD_eq_getElem?_getD]
  rw [List.getElem?_append_right (by omega)]
  cases h2 : (List.replicate (36 - l.length) (0 : Int))[k - l.length]? with
  | none => rfl
  | some x =>
    have := List.mem_of_getElem? h2
    simp at this
    simp [this.2]
theorem lev_back {b : List Int} (hb : ∀ x ∈ b, 0 ≤ x ∧ x < 256) (hl : b.length = 40) : le (lev b 36 4) 4 = b.drop 36 := by
  have r := lt_of_all hb
  have r0 := r 36
  have r1 := r 37
  have r2 := r 38
  have r3 := r 39
  have hd : b.drop 36 = [rd b 36, rd b 37, rd b 38, rd b 39] := by
    apply List.ext_getElem
    · simp [hl]
    · intro i h1 h2
      simp at h2
      rcases (show i = 0 ∨ i = 1 ∨ i = 2 ∨ i = 3 by omega) with rfl | rfl | rfl | rfl <;> simp [rd, hl]
  rw [hd]
  simp only [le, le4, lev]
  simp
  omega
theorem str_bytesOf (s : ByteArray) : strOfNums (bytesOf s) = s := by
  unfold strOfNums bytesOf
  simp only [List.map_map]
  have : (s.data.toList.map ((fun n : Int => UInt8.ofNat n.toNat) ∘ fun b => (b.toNat : Int))) = s.data.toList := by
    conv => rhs; rw [← List.map_id s.data.toList]
    exact List.map_congr_left fun x _ => by simp
  rw [this]
theorem seal_of_sealed {s : ByteArray} (h : isSealed (bytesOf s) = true) : num_Seal.f ((bytesOf s).take 36) = some (s, 0) := by
  unfold isSealed at h
  simp only [Bool.and_eq_true, decide_eq_true_eq] at h
  obtain ⟨hl, hc⟩ := h
  have ht : ((bytesOf s).take 36).length = 36 := by rw [List.length_take]; omega
  have hp : pad ((bytesOf s).take 36) = (bytesOf s).take 36 := by unfold pad; rw [ht]; simp
  unfold num_Seal.f
  rw [if_neg (by omega), hp, ← hc, lev_back (bytesOf_bd s) hl, List.take_append_drop, str_bytesOf]
end Go.Proofs.Ythjnkapkhphpeaa.P
end
section
/- slices.Grow of nothing and slices.Concat, for rows of bytes and rows of items: what they make. -/
namespace Go.Proofs.Ythjnkapkhphpeaa.P
open Go.RowKit Go.Proofs.YthjnkapkhphpeaaW.PrintWords Go.Proofs.YthjnkapkhphpeaaW.PrintLast Go.Proofs.YthjnkapkhphpeaaW.PrintMore
set_option linter.unusedVariables false
set_option linter.unusedSimpArgs false
theorem cut_hm {P : Program} (t e : TypeId) (kh : IntKind) {i : TypeInfo} (ht : P.underlying t = some (.slice e)) (hi : P.info? e = some i) (A : Option Addr) (n c : Nat) (j : Int) (h0 : 0 ≤ j) (hm : j ≤ n) (hc : n ≤ c) :
    ∀ W : World, (Instr.slice t (.slice A n c) none (some (.int kh j)) (some (.int kh j))).run P W = .ok (.slice A j.toNat j.toNat) W := by
  intro W
  have hel : P.elem t = e := by simp [Program.elem, ht]
  have hu : P.underlying t = some (.slice (P.elem t)) := by rw [hel]; exact ht
  have ha : (A.map fun x => x.add 0) = A := by cases A <;> simp [Addr.add]
  rw [run_slice_hm W t A n c hu kh kh j j h0 (Int.le_refl _) (by omega), hel]
  simp [sizeOf, typeInfo, hi, sliced, Result.andThen, ha]
theorem w64_id {n : Int} (h0 : 0 ≤ n) (h1 : n ≤ 1000000) : wrap64 n = n := by unfold wrap64; omega
theorem w64_succ {k n : Nat} (h : k < n) (hn : n ≤ 1000000) : wrap64 ((k : Int) + 1) = ((k + 1 : Nat) : Int) := by unfold wrap64; omega
theorem meas_ {n k : Nat} (h : k < n) (hk : wrap64 ((k : Int) + 1) = ((k + 1 : Nat) : Int)) : n - (intOf (Value.int .i64 (wrap64 ((k : Int) + 1)))).toNat < n - (intOf (Value.int .i64 (k : Int))).toNat := by
  rw [hk]
  show n - (k + 1) < n - k
  omega
theorem w64_add {x y z : Nat} (h : z = x + y) (hz : z ≤ 1000000) : wrap64 ((x : Int) + (y : Int)) = (z : Int) := by unfold wrap64; omega
set_option maxHeartbeats 4000000 in
set_option maxRecDepth 100000 in
theorem GrowB.nil_ (n : Int) (w : World) (h0 : 0 ≤ n) (h1 : n ≤ 1000000) :
    Calls Try.prog 64 #[.slice none 0 0, .int .i64 n] w fun e w' => ∃ v : Value, e = .returned v ∧ Kd.R (Kd.int .u8) 5 w' w.heap.size (fun _ => True) v [] ∧ Below w.heap.size w w' := by
  have hd : decide (n < 0) = false := decide_eq_false (by omega)
  have hw : wrap64 n = n := w64_id h0 h1
  by_cases hz : n = 0
  · subst hz
    clear h0 h1 hd hw
    go_enter Try.func64, Try.ntmps64
    go_wp2
    go_ret
    exact ⟨_, rfl, Kd.R_nil _ _ _ _ _, Below.refl _ _⟩
  · have hd2 : decide (0 < wrap64 n) = true := by rw [hw]; exact decide_eq_true (by omega)
    have HN : Aside0 (wrap64 n ≤ 1000000) := ⟨by rw [hw]; exact h1⟩
    have HN0 : Aside0 (0 ≤ wrap64 n) := ⟨by rw [hw]; exact h0⟩
    clear h1 h0 hz hw
    go_enter Try.func64, Try.ntmps64
    go_wp2_with ((with_reducible refine gate_builtin (b := .append) (xs := #[.tmp 20, .tmp 21]) rfl ?_); at_builtin; refine Kd.R_append_zeros (Kd.int .u8) (w0 := w) w.heap.size rfl (.tmp 20) (.tmp 21) 24 3 5 (.int .u8 0) 1 rfl Try.underlying24 Try.underlying3 info5 rfl (by decide) (by omega) (.slice none 0 0) [] (0 : Int) (wrap64 n) (fun _ => True) rfl rfl ?aZ (fun _ _ => trivial) ?aO HN0.out ?aB ?aS ?aL ?_)
    case aZ => exact rfl
    case aO => exact Kd.R_nil _ _ _ _ _
    case aB => exact Below.refl _ _
    case aS => exact Nat.le_refl _
    case aL => have := HN.out; have := HN0.out; simp only [List.length_nil]; omega
    intro v1 w1 hR hB hg hv
    obtain ⟨A, c, rfl, hc, hC⟩ := Kd.R_reads hR
    have HR := Aside0.mk (Kd.R_take (m := 0) hR (Nat.zero_le _))
    have HB := Aside0.mk hB
    obtain ⟨i0, hi0, _⟩ := Option.map_eq_some_iff.1 info5
    have hcut := cut_to (P := Try.prog) 24 5 .i64 Try.underlying24 hi0 A _ c 0 (by omega) (by omega) hc
    clear hR hB hg hv hc hC hi0
    go_wp2
    go_ret
    exact ⟨_, rfl, HR.out, HB.out⟩
def slices_Concat_byte_byte.f (l : List (List Int)) : Option (List Int) := if l.flatten.length ≤ 1000000 ∧ l.length ≤ 1000000 then some l.flatten else none
theorem flat_takeB (l : List (List Int)) (k : Nat) (h : k < l.length) : (l.take (k + 1)).flatten = (l.take k).flatten ++ l[k] := by
  rw [List.take_succ_eq_append_getElem h, List.flatten_append]
  simp
theorem flat_leB (l : List (List Int)) (k : Nat) : (l.take k).flatten.length ≤ l.flatten.length := by
  conv => rhs; rw [← List.take_append_drop k l, List.flatten_append, List.length_append]
  omega
theorem rows_atB {e : Nat} {w : World} {A : Option Addr} {xs : List (List Int)} (h : Kd.C (Kd.slice e (Kd.int .u8)) w A xs.length xs) (k : Nat) (hk : k < xs.length) : ∃ ad A' c', A = some ad ∧ w.cell? (ad.add k) = some (.slice A' xs[k].length c') ∧ xs[k].length ≤ c' ∧ (Kd.int .u8).C w A' xs[k].length xs[k] := by
  obtain ⟨ad, c, e, _, hK, hc0⟩ := Kd.C_get h ([] : List Int) (k : Int) (by omega) (by omega)
  have hc : ∀ j u, c[j]? = some u → w.cell? (ad.add ((k : Int).toNat * 1 + j)) = some u := hc0
  rw [Int.toNat_natCast] at hK hc
  have hd : xs.getD k ([] : List Int) = xs[k] := by simp [hk]
  rw [hd] at hK
  obtain ⟨A0, c0, rfl, l0, g0⟩ := hK
  exact ⟨ad, A0, c0, e, by have hq := hc 0 _ rfl; rwa [Nat.mul_one, Nat.add_zero] at hq, l0, g0⟩
set_option maxHeartbeats 4000000 in
set_option maxRecDepth 100000 in
theorem slices_Concat_byte_byte.calls (A0 : Option Addr) (c0 : Nat) (l0 : List (List Int)) (r : List Int) (w : World) (hr0 : Kd.C (Kd.slice 5 (Kd.int .u8)) w A0 l0.length l0) (hc0 : l0.length ≤ c0) (h : slices_Concat_byte_byte.f l0 = some r) :
    Calls Try.prog 54 #[.slice A0 l0.length c0] w fun e w' => ∃ v0_ : Value, e = .returned (v0_) ∧ Kd.R (Kd.int .u8) 5 w' w.heap.size (fun _ => True) v0_ r ∧ Below w.heap.size w w' := by
  unfold slices_Concat_byte_byte.f at h
  have hlt : l0.flatten.length ≤ 1000000 ∧ l0.length ≤ 1000000 := by
    by_cases hlt : l0.flatten.length ≤ 1000000 ∧ l0.length ≤ 1000000
    · exact hlt
    · rw [if_neg hlt] at h
      cases h
  rw [if_pos hlt] at h
  obtain rfl := Option.some.inj h
  clear h
  obtain ⟨hF, hL⟩ := hlt
  have HF := Aside0.mk hF
  have HL := Aside0.mk hL
  have HR0 := Aside0.mk hr0
  clear hF hL hr0 hc0
  go_enter Try.func54, Try.ntmps54
  go_wp2
  go_loopw [3, 11] (fun s i wr => ∃ k : Nat, k ≤ l0.length ∧ i = .int .i64 k ∧ w = wr ∧ ∃ x : Nat, Aside0 (x = (l0.take k).flatten.length) ∧ s = .int .i64 x) (fun _ i _ => l0.length - (intOf i).toNat)
  case atStart => exact ⟨0, Nat.zero_le _, rfl, rfl, 0, ⟨rfl⟩, rfl⟩
  case round =>
    obtain ⟨k, hk, rfl, rfl, x, HXX, rfl⟩ := hrel
    by_cases hlt : k < l0.length
    · have p1 : (0 : Int) ≤ k := by omega
      have q1 : (k : Int) < l0.length := by omega
      have HK1 : Aside0 (wrap64 ((k : Int) + 1) = ((k + 1 : Nat) : Int)) := ⟨w64_succ hlt HL.out⟩
      have hx2 := flat_takeB l0 k hlt
      have hx3 := flat_leB l0 (k + 1)
      obtain ⟨ad, A', c', rfl, hx, _, _⟩ := rows_atB HR0.out k hlt
      obtain ⟨y, hy⟩ : ∃ y : Nat, y = (l0.take (k + 1)).flatten.length := ⟨_, rfl⟩
      have hs : wrap64 ((x : Int) + (l0[k].length : Int)) = (y : Int) := by
        have h2 := HXX.out
        rw [hx2, List.length_append, ← h2] at hy
        exact w64_add hy (by rw [hy, h2, ← List.length_append, ← hx2]; exact Nat.le_trans hx3 HF.out)
      have hneg : decide ((y : Int) < 0) = false := decide_eq_false (by omega)
      have HY := Aside0.mk hy
      clear hx2 hx3 hy
      go_wp2
      refine ⟨⟨k + 1, by omega, congrArg (Value.int .i64) HK1.out, trivial, y, HY, congrArg (Value.int .i64) hs⟩, ?_⟩
      exact meas_ hlt HK1.out
    · obtain rfl : k = l0.length := by omega
      have HFI : Aside0 ((x : Int) ≤ 1000000) := ⟨by have := HF.out; have := HXX.out; rw [List.take_length] at this; omega⟩
      clear hk hlt
      go_wp2_with fail
      refine (GrowB.nil_ _ _ (by omega) HFI.out).mono ?_
      rintro e wg ⟨v, rfl, hr, hb⟩
      have HRg := Aside0.mk hr
      have HBg := Aside0.mk hb
      clear hr hb
      go_wp2_with fail
      go_loopw [6, 27] (fun v6 i wr => ∃ k : Nat, k ≤ l0.length ∧ i = .int .i64 k ∧ Aside0 (Kd.R (Kd.int .u8) 5 wr w.heap.size (fun _ => True) v6 (l0.take k).flatten) ∧ Aside0 (Below w.heap.size w wr)) (fun _ i _ => l0.length - (intOf i).toNat)
      case atStart => exact ⟨0, Nat.zero_le _, rfl, HRg, HBg⟩
      case round =>
        obtain ⟨k, hk, rfl, HRk, HBk⟩ := hrel
        by_cases hlt : k < l0.length
        · have p1 : (0 : Int) ≤ k := by omega
          have q1 : (k : Int) < l0.length := by omega
          have HK1 : Aside0 (wrap64 ((k : Int) + 1) = ((k + 1 : Nat) : Int)) := ⟨w64_succ hlt HL.out⟩
          have HX2 := Aside0.mk (flat_takeB l0 k hlt)
          have HX3 := Aside0.mk (flat_leB l0 (k + 1))
          obtain ⟨ad, A', c', rfl, hx, _, hC⟩ := rows_atB (Kd.C_below HR0.out HBk.out) k hlt
          have HC := Aside0.mk hC
          clear hC
          go_wp2_with ((with_reducible refine gate_builtin (b := .append) (xs := #[.tmp 31, .tmp 32]) rfl ?_); at_builtin; refine Kd.R_append_rows (Kd.int .u8) (w0 := w) w.heap.size rfl (.tmp 31) (.tmp 32) 24 5 (.int .u8 0) 1 rfl Try.underlying24 info5 rfl (by decide) (by omega) _ (l0.take k).flatten l0[k] A' l0[k].length c' (fun _ => True) (fun _ => False) rfl rfl ?aO ?aR (fun _ _ h => h) (fun _ h => h.elim) (fun _ _ => trivial) ?aB ?aS ?aL ?_)
          case aO => exact HRk.out
          case aR => exact HC.out
          case aB => exact HBk.out
          case aS => exact HBk.out.size
          case aL =>
            have h1 := HX2.out
            have h2 := HX3.out
            have h3 := HF.out
            rw [h1, List.length_append] at h2
            omega
          intro v1 w1 hR hB hg hv
          rw [← HX2.out] at hR
          have HR1 := Aside0.mk hR
          have HB1 := Aside0.mk hB
          clear hR hB hg hv HC
          go_wp2
          refine ⟨⟨k + 1, by omega, congrArg (Value.int .i64) HK1.out, HR1, HB1⟩, ?_⟩
          exact meas_ hlt HK1.out
        · obtain rfl : k = l0.length := by omega
          rw [List.take_length] at HRk
          go_wp2
          go_ret
          exact ⟨_, rfl, HRk.out, HBk.out⟩
set_option maxHeartbeats 4000000 in
set_option maxRecDepth 100000 in
theorem GrowI.nil_ (n : Int) (w : World) (h0 : 0 ≤ n) (h1 : n ≤ 1000000) :
    Calls Try.prog 65 #[.slice none 0 0, .int .i64 n] w fun e w' => ∃ v : Value, e = .returned v ∧ Kd.R k78 78 w' w.heap.size (fun _ => True) v [] ∧ Below w.heap.size w w' := by
  have hd : decide (n < 0) = false := decide_eq_false (by omega)
  have hw : wrap64 n = n := w64_id h0 h1
  by_cases hz : n = 0
  · subst hz
    clear h0 h1 hd hw
    go_enter Try.func65, Try.ntmps65
    go_wp2
    go_ret
    exact ⟨_, rfl, Kd.R_nil _ _ _ _ _, Below.refl _ _⟩
  · have hd2 : decide (0 < wrap64 n) = true := by rw [hw]; exact decide_eq_true (by omega)
    have HN : Aside0 (wrap64 n ≤ 1000000) := ⟨by rw [hw]; exact h1⟩
    have HN0 : Aside0 (0 ≤ wrap64 n) := ⟨by rw [hw]; exact h0⟩
    clear h1 h0 hz hw
    go_enter Try.func65, Try.ntmps65
    go_wp2_with ((with_reducible refine gate_builtin (b := .append) (xs := #[.tmp 20, .tmp 21]) rfl ?_); at_builtin; refine Kd.R_append_zeros k78 (w0 := w) w.heap.size rfl (.tmp 20) (.tmp 21) 54 3 78 (.agg #[(.int .i64 0), (.int .i64 0)]) 16 rfl Try.underlying54 Try.underlying3 info78 rfl (by decide) (by omega) (.slice none 0 0) [] z78 (wrap64 n) (fun _ => True) rfl rfl ?aZ (fun _ _ => trivial) ?aO HN0.out ?aB ?aS ?aL ?_)
    case aZ => exact k78_mkM _ _ _ z78
    case aO => exact Kd.R_nil _ _ _ _ _
    case aB => exact Below.refl _ _
    case aS => exact Nat.le_refl _
    case aL => have := HN.out; have := HN0.out; simp only [List.length_nil]; omega
    intro v1 w1 hR hB hg hv
    obtain ⟨A, c, rfl, hc, hC⟩ := Kd.R_reads hR
    have HR := Aside0.mk (Kd.R_take (m := 0) hR (Nat.zero_le _))
    have HB := Aside0.mk hB
    obtain ⟨i0, hi0, _⟩ := Option.map_eq_some_iff.1 info78
    have hcut := cut_to (P := Try.prog) 54 78 .i64 Try.underlying54 hi0 A _ c 0 (by omega) (by omega) hc
    clear hR hB hg hv hc hC hi0
    go_wp2
    go_ret
    exact ⟨_, rfl, HR.out, HB.out⟩
def api_Item_59.f (l : List (List S78)) : Option (List S78) := if l.flatten.length ≤ 1000000 ∧ l.length ≤ 1000000 then some l.flatten else none
theorem flat_takeI (l : List (List S78)) (k : Nat) (h : k < l.length) : (l.take (k + 1)).flatten = (l.take k).flatten ++ l[k] := by
  rw [List.take_succ_eq_append_getElem h, List.flatten_append]
  simp
theorem flat_leI (l : List (List S78)) (k : Nat) : (l.take k).flatten.length ≤ l.flatten.length := by
  conv => rhs; rw [← List.take_append_drop k l, List.flatten_append, List.length_append]
  omega
theorem rows_atI {e : Nat} {w : World} {A : Option Addr} {xs : List (List S78)} (h : Kd.C (Kd.slice e k78) w A xs.length xs) (k : Nat) (hk : k < xs.length) : ∃ ad A' c', A = some ad ∧ w.cell? (ad.add k) = some (.slice A' xs[k].length c') ∧ xs[k].length ≤ c' ∧ k78.C w A' xs[k].length xs[k] := by
  obtain ⟨ad, c, e, _, hK, hc0⟩ := Kd.C_get h ([] : List S78) (k : Int) (by omega) (by omega)
  have hc : ∀ j u, c[j]? = some u → w.cell? (ad.add ((k : Int).toNat * 1 + j)) = some u := hc0
  rw [Int.toNat_natCast] at hK hc
  have hd : xs.getD k ([] : List S78) = xs[k] := by simp [hk]
  rw [hd] at hK
  obtain ⟨A0, c0, rfl, l0, g0⟩ := hK
  exact ⟨ad, A0, c0, e, by have hq := hc 0 _ rfl; rwa [Nat.mul_one, Nat.add_zero] at hq, l0, g0⟩
set_option maxHeartbeats 4000000 in
set_option maxRecDepth 100000 in
theorem api_Item_59.calls (A0 : Option Addr) (c0 : Nat) (l0 : List (List S78)) (r : List S78) (w : World) (hr0 : Kd.C (Kd.slice 78 k78) w A0 l0.length l0) (hc0 : l0.length ≤ c0) (h : api_Item_59.f l0 = some r) :
    Calls Try.prog 59 #[.slice A0 l0.length c0] w fun e w' => ∃ v0_ : Value, e = .returned (v0_) ∧ Kd.R k78 78 w' w.heap.size (fun _ => True) v0_ r ∧ Below w.heap.size w w' := by
  unfold api_Item_59.f at h
  have hlt : l0.flatten.length ≤ 1000000 ∧ l0.length ≤ 1000000 := by
    by_cases hlt : l0.flatten.length ≤ 1000000 ∧ l0.length ≤ 1000000
    · exact hlt
    · rw [if_neg hlt] at h
      cases h
  rw [if_pos hlt] at h
  obtain rfl := Option.some.inj h
  clear h
  obtain ⟨hF, hL⟩ := hlt
  have HF := Aside0.mk hF
  have HL := Aside0.mk hL
  have HR0 := Aside0.mk hr0
  clear hF hL hr0 hc0
  go_enter Try.func59, Try.ntmps59
  go_wp2
  go_loopw [3, 11] (fun s i wr => ∃ k : Nat, k ≤ l0.length ∧ i = .int .i64 k ∧ w = wr ∧ ∃ x : Nat, Aside0 (x = (l0.take k).flatten.length) ∧ s = .int .i64 x) (fun _ i _ => l0.length - (intOf i).toNat)
  case atStart => exact ⟨0, Nat.zero_le _, rfl, rfl, 0, ⟨rfl⟩, rfl⟩
  case round =>
    obtain ⟨k, hk, rfl, rfl, x, HXX, rfl⟩ := hrel
    by_cases hlt : k < l0.length
    · have p1 : (0 : Int) ≤ k := by omega
      have q1 : (k : Int) < l0.length := by omega
      have HK1 : Aside0 (wrap64 ((k : Int) + 1) = ((k + 1 : Nat) : Int)) := ⟨w64_succ hlt HL.out⟩
      have hx2 := flat_takeI l0 k hlt
      have hx3 := flat_leI l0 (k + 1)
      obtain ⟨ad, A', c', rfl, hx, _, _⟩ := rows_atI HR0.out k hlt
      obtain ⟨y, hy⟩ : ∃ y : Nat, y = (l0.take (k + 1)).flatten.length := ⟨_, rfl⟩
      have hs : wrap64 ((x : Int) + (l0[k].length : Int)) = (y : Int) := by
        have h2 := HXX.out
        rw [hx2, List.length_append, ← h2] at hy
        exact w64_add hy (by rw [hy, h2, ← List.length_append, ← hx2]; exact Nat.le_trans hx3 HF.out)
      have hneg : decide ((y : Int) < 0) = false := decide_eq_false (by omega)
      have HY := Aside0.mk hy
      clear hx2 hx3 hy
      go_wp2
      refine ⟨⟨k + 1, by omega, congrArg (Value.int .i64) HK1.out, trivial, y, HY, congrArg (Value.int .i64) hs⟩, ?_⟩
      exact meas_ hlt HK1.out
    · obtain rfl : k = l0.length := by omega
      have HFI : Aside0 ((x : Int) ≤ 1000000) := ⟨by have := HF.out; have := HXX.out; rw [List.take_length] at this; omega⟩
      clear hk hlt
      go_wp2_with fail
      refine (GrowI.nil_ _ _ (by omega) HFI.out).mono ?_
      rintro e wg ⟨v, rfl, hr, hb⟩
      have HRg := Aside0.mk hr
      have HBg := Aside0.mk hb
      clear hr hb
      go_wp2_with fail
      go_loopw [6, 27] (fun v6 i wr => ∃ k : Nat, k ≤ l0.length ∧ i = .int .i64 k ∧ Aside0 (Kd.R k78 78 wr w.heap.size (fun _ => True) v6 (l0.take k).flatten) ∧ Aside0 (Below w.heap.size w wr)) (fun _ i _ => l0.length - (intOf i).toNat)
      case atStart => exact ⟨0, Nat.zero_le _, rfl, HRg, HBg⟩
      case round =>
        obtain ⟨k, hk, rfl, HRk, HBk⟩ := hrel
        by_cases hlt : k < l0.length
        · have p1 : (0 : Int) ≤ k := by omega
          have q1 : (k : Int) < l0.length := by omega
          have HK1 : Aside0 (wrap64 ((k : Int) + 1) = ((k + 1 : Nat) : Int)) := ⟨w64_succ hlt HL.out⟩
          have HX2 := Aside0.mk (flat_takeI l0 k hlt)
          have HX3 := Aside0.mk (flat_leI l0 (k + 1))
          obtain ⟨ad, A', c', rfl, hx, _, hC⟩ := rows_atI (Kd.C_below HR0.out HBk.out) k hlt
          have HC := Aside0.mk hC
          clear hC
          go_wp2_with ((with_reducible refine gate_builtin (b := .append) (xs := #[.tmp 31, .tmp 32]) rfl ?_); at_builtin; refine Kd.R_append_rows k78 (w0 := w) w.heap.size rfl (.tmp 31) (.tmp 32) 54 78 (.agg #[(.int .i64 0), (.int .i64 0)]) 16 rfl Try.underlying54 info78 rfl (by decide) (by omega) _ (l0.take k).flatten l0[k] A' l0[k].length c' (fun _ => True) (fun _ => False) rfl rfl ?aO ?aR (fun _ _ h => h) (fun _ h => h.elim) (fun _ _ => trivial) ?aB ?aS ?aL ?_)
          case aO => exact HRk.out
          case aR => exact HC.out
          case aB => exact HBk.out
          case aS => exact HBk.out.size
          case aL =>
            have h1 := HX2.out
            have h2 := HX3.out
            have h3 := HF.out
            rw [h1, List.length_append] at h2
            omega
          intro v1 w1 hR hB hg hv
          rw [← HX2.out] at hR
          have HR1 := Aside0.mk hR
          have HB1 := Aside0.mk hB
          clear hR hB hg hv HC
          go_wp2
          refine ⟨⟨k + 1, by omega, congrArg (Value.int .i64) HK1.out, HR1, HB1⟩, ?_⟩
          exact meas_ hlt HK1.out
        · obtain rfl : k = l0.length := by omega
          rw [List.take_length] at HRk
          go_wp2
          go_ret
          exact ⟨_, rfl, HRk.out, HBk.out⟩
end Go.Proofs.Ythjnkapkhphpeaa.P
end
section
namespace Go.Proofs.Ythjnkapkhphpeaa.P
open Go.RowKit Go.Proofs.YthjnkapkhphpeaaW.PrintWords Go.Proofs.YthjnkapkhphpeaaW.PrintLast Go.Proofs.YthjnkapkhphpeaaW.PrintMore
attribute [local go_sem] max2_int min2_int max_two min_two max_three min_three max_four min_four
set_option linter.unusedVariables false
set_option linter.unusedSimpArgs false

/-! ### node_Print: function 27 -/
mutual
def node_Print.j0 : Nat → List Int → Bool → List (S78) → Option (ByteArray × Int)
  | 0, _, _, _ => none
  | k + 1, x4, x113000, x113001 => node_Print.l0 k x4 x113001 (x113001.length : Int) 0
def node_Print.l0 : Nat → List Int → List (S78) → Int → Int → Option (ByteArray × Int)
  | 0, _, _, _, _ => none
  | k + 1, x4, x20, x21, x22 => if x22 < x21 then (if 0 ≤ x22 then (if x22 < (x20.length : Int) then ((num_Put.f k ((rd_T78 x20 x22).f0) 4).bind fun t120 => ((num_Put.f k ((rd_T78 x20 x22).f1) 4).bind fun t123 => ((slices_Concat_byte_byte.f (([x4, t120, t123] : List (List Int)))).bind fun t129 => (node_Print.l0 k t129 x20 x21 (wrap64 (x22 + 1)))))) else (none)) else (none)) else ((num_Seal.f x4).bind fun bt132 => (some (bt132.1, bt132.2)))
end
def node_Print.f (k : Nat) (a0_0 : Bool) (l0_1 : List (S78)) : Option (ByteArray × Int) := (node_Right.f k a0_0 l0_1).bind fun t113 => (if t113 = true then ((some (([2, ((l0_1.length : Int)) % 256] : List Int) : List Int)).bind fun y114 => (if a0_0 = true then (if 0 < (y114.length : Int) then (node_Print.j0 k (y114.set (0 : Int).toNat 1) a0_0 l0_1) else (none)) else (node_Print.j0 k y114 a0_0 l0_1))) else (some ((⟨#[]⟩ : ByteArray), 1)))
theorem node_Print.mono_l : ∀ k, (∀ y0 y1 y2, LeO (node_Print.j0 k y0 y1 y2) (node_Print.j0 (k + 1) y0 y1 y2)) ∧ (∀ y0 y1 y2 y3, LeO (node_Print.l0 k y0 y1 y2 y3) (node_Print.l0 (k + 1) y0 y1 y2 y3))
  | 0 => ⟨fun _ _ _ r h => by simp [node_Print.j0] at h, fun _ _ _ _ r h => by simp [node_Print.l0] at h⟩
  | k + 1 => by
    obtain ⟨ih0, ih1⟩ := node_Print.mono_l k
    refine ⟨?_, ?_⟩
    · intro y0 y1 y2
      unfold node_Print.j0
      repeat' first
      | (with_reducible exact ih0 _ _ _)
      | (with_reducible exact ih1 _ _ _ _)
      | (with_reducible exact node_Right.mono _ _ _)
      | (with_reducible exact num_Put.mono _ _ _)
      | (with_reducible exact LeO.refl _)
      | (with_reducible exact LeO.none _)
      | (with_reducible refine LeO.ite ?_ ?_)
      | (with_reducible refine LeO.bind ?_ (fun _ => ?_))
      | exact ih0 _ _ _
      | exact ih1 _ _ _ _
      | exact node_Right.mono _ _ _
      | exact num_Put.mono _ _ _
      | exact LeO.none _
      | refine LeO.ite ?_ ?_
      | refine LeO.bind ?_ (fun _ => ?_)
    · intro y0 y1 y2 y3
      unfold node_Print.l0
      repeat' first
      | (with_reducible exact ih0 _ _ _)
      | (with_reducible exact ih1 _ _ _ _)
      | (with_reducible exact node_Right.mono _ _ _)
      | (with_reducible exact num_Put.mono _ _ _)
      | (with_reducible exact LeO.refl _)
      | (with_reducible exact LeO.none _)
      | (with_reducible refine LeO.ite ?_ ?_)
      | (with_reducible refine LeO.bind ?_ (fun _ => ?_))
      | exact ih0 _ _ _
      | exact ih1 _ _ _ _
      | exact node_Right.mono _ _ _
      | exact num_Put.mono _ _ _
      | exact LeO.none _
      | refine LeO.ite ?_ ?_
      | refine LeO.bind ?_ (fun _ => ?_)
theorem node_Print.mono : ∀ a0 a1 k, LeO (node_Print.f k a0 a1) (node_Print.f (k + 1) a0 a1) := by
  intro a0 a1 k
  obtain ⟨ih0, ih1⟩ := node_Print.mono_l k
  unfold node_Print.f
  repeat' first
      | (with_reducible exact ih0 _ _ _)
      | (with_reducible exact ih1 _ _ _ _)
      | (with_reducible exact node_Right.mono _ _ _)
      | (with_reducible exact num_Put.mono _ _ _)
      | (with_reducible exact LeO.refl _)
      | (with_reducible exact LeO.none _)
      | (with_reducible refine LeO.ite ?_ ?_)
      | (with_reducible refine LeO.bind ?_ (fun _ => ?_))
      | exact ih0 _ _ _
      | exact ih1 _ _ _ _
      | exact node_Right.mono _ _ _
      | exact num_Put.mono _ _ _
      | exact LeO.none _
      | refine LeO.ite ?_ ?_
      | refine LeO.bind ?_ (fun _ => ?_)
def node_Print.T9 : Bool × List (List Nat × List Nat) := (true, [([], []), ([], []), ([1], [1]), ([2], [2]), ([], []), ([4], [4]), ([5, 3], [5]), ([0, 3, 6], [0, 3, 6]), ([7, 6], [7]), ([8, 8, 0, 1, 2, 3, 4, 5, 6, 7, 8], [0, 8])])
def node_Print.B9 : List Nat := [0, 0, 2, 6, 0, 16, 62, 127, 255, 511]
theorem node_Print.tab9 : rtab .any (opsOf Try.f27 9) = node_Print.T9 := by kernel_rfl
theorem node_Print.bits9 : waitsOk node_Print.T9.2 node_Print.B9 = true := by kernel_rfl
set_option maxHeartbeats 8000000 in
set_option maxRecDepth 100000 in
theorem node_Print.calls (k : Nat) (a0_0 : Bool) (A0_1 : Option Addr) (c0_1 : Nat) (l0_1 : List (S78)) (r1 : ByteArray) (r2 : Int) (w : World) (hr0_1 : Kd.C k78 w A0_1 l0_1.length l0_1) (hc0_1 : l0_1.length ≤ c0_1) (h : node_Print.f k a0_0 l0_1 = some (r1, r2)) :
    Calls Try.prog 27 #[.agg #[.bool a0_0, .slice A0_1 l0_1.length c0_1]] w fun e w' => e = .returned (.tuple #[.string r1, .int .i64 r2]) ∧ Below w.heap.size w w' := by
  have hu56 := Try.underlying56
  have hu78 := Try.underlying78
  have HR0_1 := Aside0.mk hr0_1
  have HC0_1 := Aside0.mk hc0_1
  clear hr0_1 hc0_1
  have HB := Aside0.mk (Below.refl w.heap.size w)
  have H : ((node_Right.f k a0_0 l0_1).bind fun t113 => (if t113 = true then ((some (([2, ((l0_1.length : Int)) % 256] : List Int) : List Int)).bind fun y114 => (if a0_0 = true then (if 0 < (y114.length : Int) then (node_Print.j0 k (y114.set (0 : Int).toNat 1) a0_0 l0_1) else (none)) else (node_Print.j0 k y114 a0_0 l0_1))) else (some ((⟨#[]⟩ : ByteArray), 1)))) = some (r1, r2) := h
  clear h
  replace H := Option.bind_eq_some_iff.mp H
  obtain ⟨t113, A20, H⟩ := H
  replace H : (if t113 = true then ((some (([2, ((l0_1.length : Int)) % 256] : List Int) : List Int)).bind fun y114 => (if a0_0 = true then (if 0 < (y114.length : Int) then (node_Print.j0 k (y114.set (0 : Int).toNat 1) a0_0 l0_1) else (none)) else (node_Print.j0 k y114 a0_0 l0_1))) else (some ((⟨#[]⟩ : ByteArray), 1))) = some (r1, r2) := H
  have A2 := Aside0.mk A20
  clear A20
  by_cases c3 : t113 = true
  · subst c3
    have H1 : ((some (([2, ((l0_1.length : Int)) % 256] : List Int) : List Int)).bind fun y114 => (if a0_0 = true then (if 0 < (y114.length : Int) then (node_Print.j0 k (y114.set (0 : Int).toNat 1) a0_0 l0_1) else (none)) else (node_Print.j0 k y114 a0_0 l0_1))) = some (r1, r2) := by rw [if_pos rfl] at H; exact H
    clear H
    have H := H1
    clear H1
    obtain ⟨y114, hy114⟩ : ∃ y_ : List Int, y_ = (([2, ((l0_1.length : Int)) % 256] : List Int)) := ⟨_, rfl⟩
    replace H : (if a0_0 = true then (if 0 < (y114.length : Int) then (node_Print.j0 k (y114.set (0 : Int).toNat 1) a0_0 l0_1) else (none)) else (node_Print.j0 k y114 a0_0 l0_1)) = some (r1, r2) := by first | (rw [hy114]; with_reducible exact H) | (have H2_ := (Option.bind_some _ _).symm.trans H; rw [hy114]; with_reducible exact H2_) | (have H2_ := (Option.bind_some _ _).symm.trans H; with_reducible exact H2_) | with_reducible exact H | (rw [hy114]; exact H) | exact H
    have Ny114 := Aside0.mk hy114
    clear hy114
    have HC4 := Aside0.mk H
    clear H
    go_enter Try.func27, Try.ntmps27
    go_upto_if 16 with (first | ((with_reducible refine gate_dst (N := 1) rfl ?_); refine box_event ?hg (N := 1) ?hd (cs := #[.bool a0_0, .slice A0_1 l0_1.length c0_1]) (t := 56) ?hr ?_; (case hd => rfl); (case hg => rfl); (case hr => first | (go_simp; done) | (go_simp; rfl)); intro gb112 hg w5 hbox hb; have n0_ := Aside0.mk (below_step (by repeat (first | (with_reducible first | exact HB.out | apply below_alloc | apply pw_below_drewN | apply below_drew1) | exact HB.out)) hb); have n1_ := Aside0.mk (hbox); have n2_ := Aside0.mk ((by rw [hg]; exact (below_size (by repeat (first | (with_reducible first | exact HB.out | apply below_alloc | apply pw_below_drewN | apply below_drew1) | exact HB.out))) : w.heap.size ≤ gb112)); have n3_ := Aside0.mk ((by rw [hg]; exact (below_size (by repeat (first | (with_reducible first | exact HB.out | apply below_alloc | apply pw_below_drewN | apply below_drew1) | exact HB.out))) : w.heap.size ≤ gb112)); clear HB; have HB := n0_; have BK112 := n1_; have GW112 := n2_; have GE112 := n3_; clear n0_ n1_ n2_ n3_; clear hb hbox hg; have hcz6_0 : w5.cell? ⟨gb112, 0, none⟩ = some (.bool a0_0) := (blk_cell BK112.out 0).trans rfl; have hcz6_1 : w5.cell? ⟨gb112, 1, none⟩ = some (.slice A0_1 l0_1.length c0_1) := (blk_cell BK112.out 1).trans rfl; have hfz6_0 := blk_frozen BK112.out 0; have hfz6_1 := blk_frozen BK112.out 1) | ((with_reducible refine gate_callee (f := 34) rfl ?_); refine goesL_ (some 8) rfl rfl Try.func34 (by kernel_rfl) rfl #[.agg #[.bool a0_0, .slice A0_1 l0_1.length c0_1]] rfl (by (try simp only [List.map_toArray, List.map_cons, List.map_nil]); first | done | rfl | (simp only [List.length_drop, List.length_take]; rfl)) ?_; (with_reducible refine (node_Right.calls k a0_0 _ _ l0_1 true _ ?side1 ?side2 A2.out).mono ?_); (case side1 => repeat (first | exact (Kd.C_below HR0_1.out HB.out) | (with_reducible refine Kd.C_alloc ?_ _) | (with_reducible refine Kd.C_drewN ?_ _) | (with_reducible refine Kd.C_drew ?_))); (case side2 => exact HC0_1.out); rintro e w7 ⟨rfl, hb⟩; refine ⟨_, rfl, ?_⟩; have n0_ := Aside0.mk (blk_below (g := gb112) (o := .cells #[.bool a0_0, .slice A0_1 l0_1.length c0_1] 56 (0, 0)) (by (with_reducible repeat (first | refine blk_drewN ?_ _ | refine blk_drew ?_ | refine blk_alloc ?_ _)); exact BK112.out) hb); have n1_ := Aside0.mk (below_step (by repeat (first | (with_reducible first | exact HB.out | apply below_alloc | apply pw_below_drewN | apply below_drew1 | refine below_set ?_ GE112.out) | exact HB.out)) hb); clear BK112; clear HB; have BK112 := n0_; have HB := n1_; clear n0_ n1_; (try clear hb); (try clear hb2); (try clear hk); (try clear hi); have hcz8_0 : w7.cell? ⟨gb112, 0, none⟩ = some (.bool a0_0) := (blk_cell BK112.out 0).trans rfl; have hcz8_1 : w7.cell? ⟨gb112, 1, none⟩ = some (.slice A0_1 l0_1.length c0_1) := (blk_cell BK112.out 1).trans rfl; have hfz8_0 := blk_frozen BK112.out 0; have hfz8_1 := blk_frozen BK112.out 1) | ((with_reducible refine gate_dst (N := 14) rfl ?_); refine Kd.R_lit (Kd.int .u8) _ 5 ?hg (N := 14) ?hd (xs := ([2, ((l0_1.length : Int)) % 256] : List Int)) (inner := [.int .u8 2, .int .u8 (((l0_1.length : Int)) % 256)]) (ok := fun _ => True) (okp := fun _ => True) ?hr ?hp (fun _ hk => hk) trivial (Below.refl _ _) (Nat.le_refl _) (by simp) ?_; (case hd => rfl); (case hg => rfl); (case hr => first | (go_simp; done) | (go_simp; rfl)); (case hp => exact (Reps.one (show Kd.M (Kd.int .u8) _ _ _ 2 [.int .u8 2] from rfl) (Reps.one (show Kd.M (Kd.int .u8) _ _ _ (((l0_1.length : Int)) % 256) [.int .u8 (((l0_1.length : Int)) % 256)] from rfl) (Reps.none _ _)))); intro v115 w9 ho10 hb hg_ hnew_; clear hg_ hnew_; (first | rw [← Ny114.out] at ho10 | (simp only [Int.reduceToNat] at ho10; rw [← Ny114.out] at ho10)); have n0_ := Aside0.mk (Kd.R_lower ho10 (below_size (by repeat (first | (with_reducible first | exact HB.out | apply below_alloc | apply pw_below_drewN | apply below_drew1 | refine below_set ?_ GE112.out) | exact HB.out)))); have n1_ := Aside0.mk (blk_below (g := gb112) (o := .cells #[.bool a0_0, .slice A0_1 l0_1.length c0_1] 56 (0, 0)) (by (with_reducible repeat (first | refine blk_drewN ?_ _ | refine blk_drew ?_ | refine blk_alloc ?_ _)); exact BK112.out) hb); have n2_ := Aside0.mk (below_step (by repeat (first | (with_reducible first | exact HB.out | apply below_alloc | apply pw_below_drewN | apply below_drew1 | refine below_set ?_ GE112.out) | exact HB.out)) hb); clear BK112; clear HB; have HO116 := n0_; have BK112 := n1_; have HB := n2_; clear n0_ n1_ n2_; clear hb ho10; have hcz11_0 : w9.cell? ⟨gb112, 0, none⟩ = some (.bool a0_0) := (blk_cell BK112.out 0).trans rfl; have hcz11_1 : w9.cell? ⟨gb112, 1, none⟩ = some (.slice A0_1 l0_1.length c0_1) := (blk_cell BK112.out 1).trans rfl; have hfz11_0 := blk_frozen BK112.out 0; have hfz11_1 := blk_frozen BK112.out 1))
    (try simp only [Act.put, List.setIfInBounds_toArray, List.set_cons_zero, List.set_cons_succ])
    go_cut [] (fun wc => ∃ (kq : Nat) (x4_3 : List Int), Aside0 (node_Print.j0 kq x4_3 a0_0 l0_1 = some (r1, r2)) ∧ Aside0 (kq ≤ k) ∧ Aside0 (Kd.R (Kd.int .u8) 5 wc w.heap.size (fun _ => True) v115 x4_3) ∧ Aside0 (wc.heap[gb112]? = some (.cells #[.bool a0_0, (.slice A0_1 l0_1.length c0_1)] 56 (0, 0))) ∧ Aside0 (Below w.heap.size w wc))
    case first =>
      have H := HC4.out
      clear HC4
      by_cases c12 : a0_0 = true
      · subst c12
        have H1 : (if 0 < (y114.length : Int) then (node_Print.j0 k (y114.set (0 : Int).toNat 1) true l0_1) else (none)) = some (r1, r2) := by rw [if_pos rfl] at H; exact H
        clear H
        have H := H1
        clear H1
        by_cases c13 : 0 < (y114.length : Int)
        · rw [if_pos c13] at H
          have c13b0 : decide (0 < (y114.length : Int)) = true := decide_eq_true c13
          have c13b1 : decide (0 < y114.length) = true := decide_eq_true (by omega)
          clear c13
          (first | rw [c13b0] | (simp only [i64_w, i32_w]; rw [c13b0]) | skip)
          obtain ⟨y117, hy117⟩ : ∃ y_ : List Int, y_ = (y114.set (0 : Int).toNat 1) := ⟨_, rfl⟩
          replace H : (node_Print.j0 k y117 true l0_1) = some (r1, r2) := by first | (rw [hy117]; with_reducible exact H) | (have H2_ := (Option.bind_some _ _).symm.trans H; rw [hy117]; with_reducible exact H2_) | (have H2_ := (Option.bind_some _ _).symm.trans H; with_reducible exact H2_) | with_reducible exact H | (rw [hy117]; exact H) | exact H
          have Ny117 := Aside0.mk hy117
          clear hy117
          have H' := Aside0.mk H
          clear H
          have p14 : 0 ≤ (0 : Int) := (by omega)
          have q14 : (0 : Int) < ((y114.length : Int) : Int) := of_decide_eq_true (by first | (with_reducible assumption) | assumption)
          have qi14 : (0 < y114.length) = True := eq_true (by omega)
          obtain ⟨go14, co14, eo14, gb14, gl14, cl14, HG14⟩ := Kd.R_form HO116.out (by omega)
          (first | cases eo14 | (injection eo14 with ea_ en_ ec_; (first | subst ea_ | (injection ea_ with ea_; subst ea_)); subst ec_; clear en_))
          have GB14 := Aside0.mk gb14
          have GG14 := Aside0.mk HG14
          clear gb14 gl14 HG14
          obtain ⟨hx14_0, hf14_0⟩ := Kd.R_celln 0 HO116.out (0 : Int) p14 q14
          (try rw [show ((0 : Int)).toNat = 0 from rfl] at hx14_0)
          (try simp only [Nat.reduceMul, Nat.zero_mul, Nat.zero_add, Nat.reduceAdd] at hx14_0)
          (try rw [show ((0 : Int)).toNat = 0 from rfl] at hf14_0)
          (try simp only [Nat.reduceMul, Nat.zero_mul, Nat.zero_add, Nat.reduceAdd] at hf14_0)
          replace p14 := eq_true p14
          replace q14 := eq_true q14
          have HP15 := Kd.R_putg HO116.out (0 : Int) 1
          go_wp2_with (first | ((with_reducible refine gate_store (t := 5) (p := 18) rfl ?_); refine store_event (t := 5) (p := 18) (v := ?vo_w16) (w1 := (w9.setCell ⟨go14, (0 : Int).toNat, none⟩ (.int .u8 1))) ?hg ?ho ?hn ?hr ?_; (case ho => rfl); (case hg => rfl); (case hn => rfl); (case hr => first | (go_simp; done) | (go_simp; rfl)); intro w16 hw; have hg : w9.grownBy w16 (some go14) := (by rw [hw]; exact HP15.2); have hp_ : Kd.R (Kd.int .u8) 5 w16 w.heap.size (fun _ => True) (.slice (some ⟨go14, 0, none⟩) y114.length co14) y117 := (by rw [hw, Ny117.out]; exact HP15.1); clear HP15; have n0_ := Aside0.mk (blk_grown (g := gb112) (o := .cells #[.bool true, .slice A0_1 l0_1.length c0_1] 56 (0, 0)) (by (with_reducible repeat (first | refine blk_drewN ?_ _ | refine blk_drew ?_ | refine blk_alloc ?_ _)); exact BK112.out) hg (Kd.R_ne HO116.out BK112.out (by decide))); have n1_ := Aside0.mk (hp_); have n2_ := Aside0.mk ((by rw [hw]; exact below_set (HB.out) GB14.out : Below w.heap.size w w16)); clear BK112; clear HO116; clear HB; have BK112 := n0_; have HO116 := n1_; have HB := n2_; clear n0_ n1_ n2_; clear hg hw hp_))
          go_meet
          case rel => exact ⟨_, (y117), H', ⟨by first | omega | exact Nat.le_refl _⟩, ⟨by (with_reducible repeat (first | apply Kd.R_alloc | apply Kd.R_drewN | apply Kd.R_drew)); exact HO116.out⟩, ⟨by (with_reducible repeat (first | refine blk_drewN ?_ _ | refine blk_drew ?_ | refine blk_alloc ?_ _)); exact BK112.out⟩, ⟨by repeat (first | (with_reducible first | exact HB.out | apply below_alloc | apply pw_below_drewN | apply below_drew1 | refine below_set ?_ GE112.out) | exact HB.out)⟩⟩
        · rw [if_neg c13] at H
          exact absurd H (by simp)
      · replace c12 := Bool.eq_false_iff.mpr c12
        subst c12
        have H1 : (node_Print.j0 k y114 false l0_1) = some (r1, r2) := by rw [if_neg (show ¬ (false = true) by decide)] at H; exact H
        clear H
        have H := H1
        clear H1
        have H' := Aside0.mk H
        clear H
        go_wp2
        go_meet
        case rel => exact ⟨_, (y114), H', ⟨by first | omega | exact Nat.le_refl _⟩, ⟨by (with_reducible repeat (first | apply Kd.R_alloc | apply Kd.R_drewN | apply Kd.R_drew)); exact HO116.out⟩, ⟨by (with_reducible repeat (first | refine blk_drewN ?_ _ | refine blk_drew ?_ | refine blk_alloc ?_ _)); exact BK112.out⟩, ⟨by repeat (first | (with_reducible first | exact HB.out | apply below_alloc | apply pw_below_drewN | apply below_drew1 | refine below_set ?_ GE112.out) | exact HB.out)⟩⟩
    case rest =>
      clear HC4
      try clear c1
      try clear p1
      try clear q1
      try clear hx1
      try clear qi1
      try clear hf1
      try clear c2
      try clear p2
      try clear c3
      try clear c12
      try clear c13
      try clear c13b0
      try clear c13b1
      try clear p14
      try clear q14
      try clear hx14
      try clear qi14
      try clear hf14
      try clear hcz11_0
      try clear hcz11_1
      try clear hcz6_0
      try clear hcz6_1
      try clear hcz8_0
      try clear hcz8_1
      try clear hfz11_0
      try clear hfz11_1
      try clear hfz6_0
      try clear hfz6_1
      try clear hfz8_0
      try clear hfz8_1
      try clear hx14_0
      try clear p14
      try clear q14
      obtain ⟨kq, x4_3, HA, HJ3, HO_4, BK112, HB⟩ := hcut
      cases kq with
      | zero => exact absurd HA.out (by simp [node_Print.j0])
      | succ kj3 =>
        have H := HA.out
        clear HA
        simp only [node_Print.j0] at H
        have H' := Aside0.mk H
        clear H
        have hcz17_0 : wc.cell? ⟨gb112, 0, none⟩ = some (.bool a0_0) := (blk_cell BK112.out 0).trans rfl
        have hcz17_1 : wc.cell? ⟨gb112, 1, none⟩ = some (.slice A0_1 l0_1.length c0_1) := (blk_cell BK112.out 1).trans rfl
        have hfz17_0 := blk_frozen BK112.out 0
        have hfz17_1 := blk_frozen BK112.out 1
        go_wp2
        go_loopg [4, 22] kj3 (fun kq v4 v22 w' => ∃ (x4_2 : List Int) (x22_2 : Int), v22 = .int .i64 x22_2 ∧ Aside0 (node_Print.l0 kq x4_2 l0_1 (l0_1.length : Int) x22_2 = some (r1, r2)) ∧ Aside0 (kq ≤ kj3) ∧ Aside0 (Kd.R (Kd.int .u8) 5 w' w.heap.size (fun _ => True) v4 x4_2) ∧ Aside0 (w'.heap[gb112]? = some (.cells #[.bool a0_0, (.slice A0_1 l0_1.length c0_1)] 56 (0, 0))) ∧ Aside0 (Below w.heap.size w w'))
        case atStart => exact ⟨(x4_3), (0), (by first | rfl | (simp; done) | (simp [*]; done)), H', ⟨Nat.le_refl _⟩, ⟨by (with_reducible repeat (first | apply Kd.R_alloc | apply Kd.R_drewN | apply Kd.R_drew)); exact HO_4.out⟩, ⟨by (with_reducible repeat (first | refine blk_drewN ?_ _ | refine blk_drew ?_ | refine blk_alloc ?_ _)); exact BK112.out⟩, ⟨by repeat (first | (with_reducible first | exact HB.out | apply below_alloc | apply pw_below_drewN | apply below_drew1 | refine below_set ?_ GE112.out) | exact HB.out)⟩⟩
        case round =>
          clear H'
          try clear c1
          try clear p1
          try clear q1
          try clear hx1
          try clear qi1
          try clear hf1
          try clear c2
          try clear p2
          try clear c3
          try clear c12
          try clear c13
          try clear c13b0
          try clear c13b1
          try clear p14
          try clear q14
          try clear hx14
          try clear qi14
          try clear hf14
          try clear hcz11_0
          try clear hcz11_1
          try clear hcz17_0
          try clear hcz17_1
          try clear hcz6_0
          try clear hcz6_1
          try clear hcz8_0
          try clear hcz8_1
          try clear hfz11_0
          try clear hfz11_1
          try clear hfz17_0
          try clear hfz17_1
          try clear hfz6_0
          try clear hfz6_1
          try clear hfz8_0
          try clear hfz8_1
          try clear hx14_0
          try clear p1
          try clear p14
          try clear p2
          try clear q1
          try clear q14
          obtain ⟨x4_2, x22_2, rfl, HA, HK2, HO_4, BK112, HB⟩ := hrel
          cases gk with
          | zero => exact absurd HA.out (by simp [node_Print.l0])
          | succ k2 =>
            have H := HA.out
            clear HA
            simp only [node_Print.l0] at H
            by_cases c18 : x22_2 < (l0_1.length : Int)
            · rw [if_pos c18] at H
              have c18b0 : decide (x22_2 < (l0_1.length : Int)) = true := decide_eq_true c18
              clear c18
              by_cases c19 : 0 ≤ x22_2
              · rw [if_pos c19] at H
                have c19b0 : decide (0 ≤ x22_2) = true := decide_eq_true c19
                clear c19
                by_cases c20 : x22_2 < (l0_1.length : Int)
                · rw [if_pos c20] at H
                  have c20b0 : decide (x22_2 < (l0_1.length : Int)) = true := decide_eq_true c20
                  clear c20
                  replace H := Option.bind_eq_some_iff.mp H
                  obtain ⟨t120, A210, H⟩ := H
                  replace H : ((num_Put.f k2 ((rd_T78 l0_1 x22_2).f1) 4).bind fun t123 => ((slices_Concat_byte_byte.f (([x4_2, t120, t123] : List (List Int)))).bind fun t129 => (node_Print.l0 k2 t129 l0_1 (l0_1.length : Int) (wrap64 (x22_2 + 1))))) = some (r1, r2) := H
                  have A21 := Aside0.mk A210
                  clear A210
                  replace H := Option.bind_eq_some_iff.mp H
                  obtain ⟨t123, A220, H⟩ := H
                  replace H : ((slices_Concat_byte_byte.f (([x4_2, t120, t123] : List (List Int)))).bind fun t129 => (node_Print.l0 k2 t129 l0_1 (l0_1.length : Int) (wrap64 (x22_2 + 1)))) = some (r1, r2) := H
                  have A22 := Aside0.mk A220
                  clear A220
                  obtain ⟨y126, hy126⟩ : ∃ y_ : List (List Int), y_ = (([x4_2, t120, t123] : List (List Int))) := ⟨_, rfl⟩
                  replace H : ((slices_Concat_byte_byte.f y126).bind fun t129 => (node_Print.l0 k2 t129 l0_1 (l0_1.length : Int) (wrap64 (x22_2 + 1)))) = some (r1, r2) := by first | (rw [hy126]; with_reducible exact H) | (have H2_ := (Option.bind_some _ _).symm.trans H; rw [hy126]; with_reducible exact H2_) | (have H2_ := (Option.bind_some _ _).symm.trans H; with_reducible exact H2_) | with_reducible exact H | (rw [hy126]; exact H) | exact H
                  have Ny126 := Aside0.mk hy126
                  clear hy126
                  replace H := Option.bind_eq_some_iff.mp H
                  obtain ⟨t129, A230, H⟩ := H
                  replace H : (node_Print.l0 k2 t129 l0_1 (l0_1.length : Int) (wrap64 (x22_2 + 1))) = some (r1, r2) := H
                  have A23 := Aside0.mk A230
                  clear A230
                  have H' := Aside0.mk H
                  clear H
                  have p118 : 0 ≤ (x22_2 : Int) := of_decide_eq_true (by first | (with_reducible assumption) | assumption)
                  have q118 : x22_2 < (l0_1.length : Int) := of_decide_eq_true (by first | (with_reducible assumption) | assumption)
                  obtain ⟨ad118, e118, hx118_0, hx118_1⟩ := at_T78 HR0_1.out x22_2 p118 q118
                  cases e118
                  replace hx118_0 := (HB.out.cell (World.block_lt_of_cell? w _ hx118_0)).trans hx118_0
                  replace hx118_1 := (HB.out.cell (World.block_lt_of_cell? w _ hx118_1)).trans hx118_1
                  replace p118 := eq_true p118
                  replace q118 := eq_true q118
                  try go_wp2_with (first | ((with_reducible refine gate_dst (N := 6) rfl ?_); refine box_event ?hg (N := 6) ?hd (cs := #[.int .i64 0, .int .i64 0]) (t := 78) ?hr ?_; (case hd => rfl); (case hg => rfl); (case hr => first | (go_simp; done) | (go_simp; rfl)); intro gb119 hg w24 hbox hb; have n0_ := Aside0.mk (Kd.R_below (by (with_reducible repeat (first | apply Kd.R_alloc | apply Kd.R_drewN | apply Kd.R_drew)); exact HO_4.out) hb); have n1_ := Aside0.mk (blk_below (g := gb112) (o := .cells #[.bool a0_0, .slice (some ad118) l0_1.length c0_1] 56 (0, 0)) (by (with_reducible repeat (first | refine blk_drewN ?_ _ | refine blk_drew ?_ | refine blk_alloc ?_ _)); exact BK112.out) hb); have n2_ := Aside0.mk (below_step (by repeat (first | (with_reducible first | exact HB.out | apply below_alloc | apply pw_below_drewN | apply below_drew1 | refine below_set ?_ GE112.out) | exact HB.out)) hb); have n3_ := Aside0.mk (hbox); have n4_ := Aside0.mk ((by rw [hg]; exact (below_size (by repeat (first | (with_reducible first | exact HB.out | apply below_alloc | apply pw_below_drewN | apply below_drew1 | refine below_set ?_ GE112.out) | exact HB.out))) : w.heap.size ≤ gb119)); have n5_ := Aside0.mk ((by rw [hg]; exact (below_size (by repeat (first | (with_reducible first | exact HB.out | apply below_alloc | apply pw_below_drewN | apply below_drew1 | refine below_set ?_ GE112.out) | exact HB.out))) : w.heap.size ≤ gb119)); have n6_ := Aside0.mk ((by rw [hg]; exact Nat.ne_of_lt (blk_lt (g := gb112) (o := .cells #[.bool a0_0, .slice (some ad118) l0_1.length c0_1] 56 (0, 0)) (by (with_reducible repeat (first | refine blk_drewN ?_ _ | refine blk_drew ?_ | refine blk_alloc ?_ _)); exact BK112.out)) : gb112 ≠ gb119)); have n7_ := Aside0.mk ((by rw [hg]; exact Nat.ne_of_gt (blk_lt (g := gb112) (o := .cells #[.bool a0_0, .slice (some ad118) l0_1.length c0_1] 56 (0, 0)) (by (with_reducible repeat (first | refine blk_drewN ?_ _ | refine blk_drew ?_ | refine blk_alloc ?_ _)); exact BK112.out)) : gb119 ≠ gb112)); clear HO_4; clear BK112; clear HB; have HO_4 := n0_; have BK112 := n1_; have HB := n2_; have BK119 := n3_; have GW119 := n4_; have GE119 := n5_; have NB112_119 := n6_; have NB119_112 := n7_; clear n0_ n1_ n2_ n3_ n4_ n5_ n6_ n7_; clear hb hbox hg; have hnb25 := NB119_112.out; have hnc25 := NB112_119.out; have hcz26_0 : w24.cell? ⟨gb119, 0, none⟩ = some (.int .i64 0) := (blk_cell BK119.out 0).trans rfl; have hcz26_1 : w24.cell? ⟨gb119, 1, none⟩ = some (.int .i64 0) := (blk_cell BK119.out 1).trans rfl; have hfz26_0 := blk_frozen BK119.out 0; have hfz26_1 := blk_frozen BK119.out 1))
                  have n0_ : Aside0 (Kd.R (Kd.int .u8) 5 ((w24.setCell ⟨gb119, 0, none⟩ (.int .i64 ((rd_T78 l0_1 x22_2).f0))).setCell ⟨gb119, 1, none⟩ (.int .i64 ((rd_T78 l0_1 x22_2).f1))) w.heap.size (fun _ => True) u4 x4_2) := ⟨by (with_reducible repeat (first | apply Kd.R_alloc | apply Kd.R_drewN | apply Kd.R_drew)); exact Kd.R_mono (Kd.R_far (p := ⟨gb119, 1, none⟩) (Kd.R_far (p := ⟨gb119, 0, none⟩) (Kd.R_types HO_4.out BK119.out (by decide)) (fun _ hk => hk.2) (.int .i64 ((rd_T78 l0_1 x22_2).f0))) (fun _ hk => hk.2) (.int .i64 ((rd_T78 l0_1 x22_2).f1))) (fun _ hk => trivial)⟩
                  have n1_ : Aside0 (((w24.setCell ⟨gb119, 0, none⟩ (.int .i64 ((rd_T78 l0_1 x22_2).f0))).setCell ⟨gb119, 1, none⟩ (.int .i64 ((rd_T78 l0_1 x22_2).f1))).heap[gb112]? = some (.cells #[.bool a0_0, .slice (some ad118) l0_1.length c0_1] 56 (0, 0))) := ⟨by (with_reducible repeat (first | refine blk_drewN ?_ _ | refine blk_drew ?_ | refine blk_alloc ?_ _)); refine blk_far ?_ NB112_119.out _; (with_reducible repeat (first | refine blk_drewN ?_ _ | refine blk_drew ?_ | refine blk_alloc ?_ _)); refine blk_far ?_ NB112_119.out _; (with_reducible repeat (first | refine blk_drewN ?_ _ | refine blk_drew ?_ | refine blk_alloc ?_ _)); exact BK112.out⟩
                  have n2_ : Aside0 (((w24.setCell ⟨gb119, 0, none⟩ (.int .i64 ((rd_T78 l0_1 x22_2).f0))).setCell ⟨gb119, 1, none⟩ (.int .i64 ((rd_T78 l0_1 x22_2).f1))).heap[gb119]? = some (.cells #[.int .i64 ((rd_T78 l0_1 x22_2).f0), .int .i64 ((rd_T78 l0_1 x22_2).f1)] 78 (0, 0))) := ⟨by (with_reducible repeat (first | refine blk_drewN ?_ _ | refine blk_drew ?_ | refine blk_alloc ?_ _)); refine blk_put (cs := #[.int .i64 ((rd_T78 l0_1 x22_2).f0), .int .i64 0]) ?_ 1 _ rfl; (with_reducible repeat (first | refine blk_drewN ?_ _ | refine blk_drew ?_ | refine blk_alloc ?_ _)); refine blk_put (cs := #[.int .i64 0, .int .i64 0]) ?_ 0 _ rfl; (with_reducible repeat (first | refine blk_drewN ?_ _ | refine blk_drew ?_ | refine blk_alloc ?_ _)); exact BK119.out⟩
                  have n3_ : Aside0 (Below w.heap.size w ((w24.setCell ⟨gb119, 0, none⟩ (.int .i64 ((rd_T78 l0_1 x22_2).f0))).setCell ⟨gb119, 1, none⟩ (.int .i64 ((rd_T78 l0_1 x22_2).f1)))) := ⟨by repeat (first | (with_reducible first | exact HB.out | apply below_alloc | apply pw_below_drewN | apply below_drew1 | refine below_set ?_ GE112.out | refine below_set ?_ GE119.out) | exact HB.out)⟩
                  (try clear HO_4)
                  (try clear BK112)
                  (try clear BK119)
                  (try clear HB)
                  generalize ((w24.setCell ⟨gb119, 0, none⟩ (.int .i64 ((rd_T78 l0_1 x22_2).f0))).setCell ⟨gb119, 1, none⟩ (.int .i64 ((rd_T78 l0_1 x22_2).f1))) = w27 at n0_ n1_ n2_ n3_ ⊢
                  have HO_4 := n0_
                  have BK112 := n1_
                  have BK119 := n2_
                  have HB := n3_
                  clear n0_ n1_ n2_ n3_
                  have n0_ := Aside0.mk (Kd.R_drew HO_4.out)
                  have n1_ := Aside0.mk (blk_drew BK112.out)
                  have n2_ := Aside0.mk (blk_drew BK119.out)
                  have n3_ := Aside0.mk (below_drew1 HB.out)
                  clear HO_4
                  clear BK112
                  clear BK119
                  clear HB
                  have HO_4 := n0_
                  have BK112 := n1_
                  have BK119 := n2_
                  have HB := n3_
                  clear n0_ n1_ n2_ n3_
                  refine start_ (n := 10) (S := fun w' => w'.cell? ⟨gb119, 0, none⟩ = some (.int .i64 ((rd_T78 l0_1 x22_2).f0)) ∧ w'.cell? ⟨gb119, 1, none⟩ = some (.int .i64 ((rd_T78 l0_1 x22_2).f1))) (ds := []) #[false, false, false, false, false, false, false, false, false, false] (by kernel_rfl) rfl rfl ⟨(blk_cell BK119.out 0).trans rfl, (blk_cell BK119.out 1).trans rfl⟩ (fun hHeld => ?_); refine with_tabW node_Print.tab9 node_Print.bits9 (fun HT_ HW_ => ?_)
                  generalize w27.drew = w28 at HO_4 BK112 BK119 HB hHeld ⊢
                  refine pure_ (i := 0) (N := some 26) (v := ?_) (a' := ?_) #[true, false, false, false, false, false, false, false, false, false] rfl rfl (any_of HT_.out (by kernel_rfl)) (fun _ _ _ h => h) (Or.inl ⟨by rfl, ?_⟩) ?_ ?_
                  rotate_left
                  · intro w'
                    go_simp
                    with_reducible rfl
                  rotate_left
                  · simp only [Act.put, List.setIfInBounds_toArray, List.set_cons_zero, List.set_cons_succ, i64_w, i32_w]
                    rfl
                  refine pure_ (i := 1) (N := some 27) (v := ?_) (a' := ?_) #[true, true, false, false, false, false, false, false, false, false] rfl rfl (any_of HT_.out (by kernel_rfl)) (fun _ _ _ h => h) (Or.inl ⟨by rfl, ?_⟩) ?_ ?_
                  rotate_left
                  · intro w'
                    go_simp
                    with_reducible rfl
                  rotate_left
                  · simp only [Act.put, List.setIfInBounds_toArray, List.set_cons_zero, List.set_cons_succ, i64_w, i32_w]
                    rfl
                  refine pure_ (i := 4) (N := some 30) (v := ?_) (a' := ?_) #[true, true, false, false, true, false, false, false, false, false] rfl rfl (any_of HT_.out (by kernel_rfl)) (fun _ _ _ h => h) (Or.inl ⟨by rfl, ?_⟩) ?_ ?_
                  rotate_left
                  · intro w'
                    go_simp
                    with_reducible rfl
                  rotate_left
                  · simp only [Act.put, List.setIfInBounds_toArray, List.set_cons_zero, List.set_cons_succ, i64_w, i32_w]
                    rfl
                  refine take_ (i := 2) (N := some 28) (v := ?_) (a' := ?_) #[true, true, true, false, true, false, false, false, false, false] rfl rfl (take_ofW HT_.out HW_.out (by kernel_rfl)) (fun _ _ _ h => h) (Or.inl ⟨by rfl, ?_⟩) hHeld ?_ ?_
                  rotate_left
                  · rintro w' ⟨s0, s1⟩
                    go_simp
                    with_reducible rfl
                  rotate_left
                  · simp only [Act.put, List.setIfInBounds_toArray, List.set_cons_zero, List.set_cons_succ, i64_w, i32_w]
                    rfl
                  refine take_ (i := 5) (N := some 31) (v := ?_) (a' := ?_) #[true, true, true, false, true, true, false, false, false, false] rfl rfl (take_ofW HT_.out HW_.out (by kernel_rfl)) (fun _ _ _ h => h) (Or.inl ⟨by rfl, ?_⟩) hHeld ?_ ?_
                  rotate_left
                  · rintro w' ⟨s0, s1⟩
                    go_simp
                    with_reducible rfl
                  rotate_left
                  · simp only [Act.put, List.setIfInBounds_toArray, List.set_cons_zero, List.set_cons_succ, i64_w, i32_w]
                    rfl
                  refine one_ (i := 3) (N := some 29) #[true, true, true, true, true, true, false, false, false, false] rfl rfl (one_of HT_.out (by kernel_rfl)) (by decide) (fun K hK => ?_)
                  refine goes_ Try.func43 (by kernel_rfl) rfl #[.int .i64 ((rd_T78 l0_1 x22_2).f0), .int .i64 4] (by rfl) rfl rfl (by (try simp only [List.map_toArray, List.map_cons, List.map_nil]); first | done | rfl | (simp only [List.length_drop, List.length_take]; rfl)) ?_
                  with_reducible refine (num_Put.calls k2 ((rd_T78 l0_1 x22_2).f0) 4 t120 _ A21.out).mono ?_
                  rintro e w29 ⟨v121, rfl, ho0, hb⟩
                  refine ⟨_, rfl, ?_⟩
                  have n0_ := Aside0.mk (Kd.R_elder' (by (with_reducible repeat (first | apply Kd.R_alloc | apply Kd.R_drewN | apply Kd.R_drew)); exact HO_4.out) (Kd.R_base ho0) hb)
                  have n1_ := Aside0.mk (Kd.R_lower (Kd.R_new' ho0 (Kd.R_lt (by (with_reducible repeat (first | apply Kd.R_alloc | apply Kd.R_drewN | apply Kd.R_drew)); exact HO_4.out))) (below_size (by repeat (first | (with_reducible first | exact HB.out | apply below_alloc | apply pw_below_drewN | apply below_drew1 | refine below_set ?_ GE112.out | refine below_set ?_ GE119.out) | exact HB.out))))
                  have n2_ := Aside0.mk (blk_below (g := gb112) (o := .cells #[.bool a0_0, .slice (some ad118) l0_1.length c0_1] 56 (0, 0)) (by (with_reducible repeat (first | refine blk_drewN ?_ _ | refine blk_drew ?_ | refine blk_alloc ?_ _)); exact BK112.out) hb)
                  have n3_ := Aside0.mk (blk_below (g := gb119) (o := .cells #[.int .i64 ((rd_T78 l0_1 x22_2).f0), .int .i64 ((rd_T78 l0_1 x22_2).f1)] 78 (0, 0)) (by (with_reducible repeat (first | refine blk_drewN ?_ _ | refine blk_drew ?_ | refine blk_alloc ?_ _)); exact BK119.out) hb)
                  have n4_ := Aside0.mk (below_step (by repeat (first | (with_reducible first | exact HB.out | apply below_alloc | apply pw_below_drewN | apply below_drew1 | refine below_set ?_ GE112.out | refine below_set ?_ GE119.out) | exact HB.out)) hb)
                  clear HO_4
                  clear BK112
                  clear BK119
                  clear HB
                  have HO_4 := n0_
                  have HO122 := n1_
                  have BK112 := n2_
                  have BK119 := n3_
                  have HB := n4_
                  clear n0_ n1_ n2_ n3_ n4_
                  (try clear hb)
                  (try clear hb2)
                  (try clear hk)
                  (try clear hi)
                  (try clear ho0)
                  refine hK.out _ _ ⟨(blk_cell BK119.out 0).trans rfl, (blk_cell BK119.out 1).trans rfl⟩ (fun hHeld => ?_)
                  clear hK K
                  refine norm_ (a' := ?_) ?_ ?_
                  rotate_left
                  · show Act.put _ (some 29) _ = _
                    simp only [Act.put, List.setIfInBounds_toArray, List.set_cons_zero, List.set_cons_succ, i64_w, i32_w]
                    rfl
                  refine one_ (i := 6) (N := some 32) #[true, true, true, true, true, true, true, false, false, false] rfl rfl (one_of HT_.out (by kernel_rfl)) (by decide) (fun K hK => ?_)
                  refine goes_ Try.func43 (by kernel_rfl) rfl #[.int .i64 ((rd_T78 l0_1 x22_2).f1), .int .i64 4] (by rfl) rfl rfl (by (try simp only [List.map_toArray, List.map_cons, List.map_nil]); first | done | rfl | (simp only [List.length_drop, List.length_take]; rfl)) ?_
                  with_reducible refine (num_Put.calls k2 ((rd_T78 l0_1 x22_2).f1) 4 t123 _ A22.out).mono ?_
                  rintro e w30 ⟨v124, rfl, ho0, hb⟩
                  refine ⟨_, rfl, ?_⟩
                  have n0_ := Aside0.mk (Kd.R_elder' (by (with_reducible repeat (first | apply Kd.R_alloc | apply Kd.R_drewN | apply Kd.R_drew)); exact HO_4.out) (Kd.R_base ho0) hb)
                  have n1_ := Aside0.mk (Kd.R_elder' (by (with_reducible repeat (first | apply Kd.R_alloc | apply Kd.R_drewN | apply Kd.R_drew)); exact HO122.out) (Kd.R_base ho0) hb)
                  have n2_ := Aside0.mk (Kd.R_lower (Kd.R_new' (Kd.R_new' ho0 (Kd.R_lt (by (with_reducible repeat (first | apply Kd.R_alloc | apply Kd.R_drewN | apply Kd.R_drew)); exact HO_4.out))) (Kd.R_lt (by (with_reducible repeat (first | apply Kd.R_alloc | apply Kd.R_drewN | apply Kd.R_drew)); exact HO122.out))) (below_size (by repeat (first | (with_reducible first | exact HB.out | apply below_alloc | apply pw_below_drewN | apply below_drew1 | refine below_set ?_ GE112.out | refine below_set ?_ GE119.out) | exact HB.out))))
                  have n3_ := Aside0.mk (blk_below (g := gb112) (o := .cells #[.bool a0_0, .slice (some ad118) l0_1.length c0_1] 56 (0, 0)) (by (with_reducible repeat (first | refine blk_drewN ?_ _ | refine blk_drew ?_ | refine blk_alloc ?_ _)); exact BK112.out) hb)
                  have n4_ := Aside0.mk (blk_below (g := gb119) (o := .cells #[.int .i64 ((rd_T78 l0_1 x22_2).f0), .int .i64 ((rd_T78 l0_1 x22_2).f1)] 78 (0, 0)) (by (with_reducible repeat (first | refine blk_drewN ?_ _ | refine blk_drew ?_ | refine blk_alloc ?_ _)); exact BK119.out) hb)
                  have n5_ := Aside0.mk (below_step (by repeat (first | (with_reducible first | exact HB.out | apply below_alloc | apply pw_below_drewN | apply below_drew1 | refine below_set ?_ GE112.out | refine below_set ?_ GE119.out) | exact HB.out)) hb)
                  clear HO_4
                  clear HO122
                  clear BK112
                  clear BK119
                  clear HB
                  have HO_4 := n0_
                  have HO122 := n1_
                  have HO125 := n2_
                  have BK112 := n3_
                  have BK119 := n4_
                  have HB := n5_
                  clear n0_ n1_ n2_ n3_ n4_ n5_
                  (try clear hb)
                  (try clear hb2)
                  (try clear hk)
                  (try clear hi)
                  (try clear ho0)
                  obtain ⟨Ao31, co31, eo31⟩ := Kd.R_slice HO_4.out
                  (first | subst eo31 | (injection eo31 with f1_ f2_ f3_; have f4_ := f1_.symm; have f5_ := f3_.symm; clear f1_ f2_ f3_; subst f4_; subst f5_))
                  obtain ⟨Ao32, co32, eo32⟩ := Kd.R_slice HO122.out
                  (first | subst eo32 | (injection eo32 with f1_ f2_ f3_; have f4_ := f1_.symm; have f5_ := f3_.symm; clear f1_ f2_ f3_; subst f4_; subst f5_))
                  obtain ⟨Ao33, co33, eo33⟩ := Kd.R_slice HO125.out
                  (first | subst eo33 | (injection eo33 with f1_ f2_ f3_; have f4_ := f1_.symm; have f5_ := f3_.symm; clear f1_ f2_ f3_; subst f4_; subst f5_))
                  refine hK.out _ _ ⟨(blk_cell BK119.out 0).trans rfl, (blk_cell BK119.out 1).trans rfl⟩ (fun hHeld => ?_)
                  clear hK K
                  refine norm_ (a' := ?_) ?_ ?_
                  rotate_left
                  · show Act.put _ (some 32) _ = _
                    simp only [Act.put, List.setIfInBounds_toArray, List.set_cons_zero, List.set_cons_succ, i64_w, i32_w]
                    rfl
                  refine one_ (i := 7) (N := some 33) #[true, true, true, true, true, true, true, true, false, false] rfl rfl (one_of HT_.out (by kernel_rfl)) (by decide) (fun K hK => ?_)
                  refine Kd.N_lit_step (Kd.slice 5 (Kd.int .u8)) _ 24 ?hg (N' := 33) ?hd (xs := ([x4_2, t120, t123] : List (List Int))) (inner := [.slice Ao31 x4_2.length co31, .slice Ao32 t120.length co32, .slice Ao33 t123.length co33]) (ok := (fun k_ => k_ ≠ gb112 ∧ k_ ≠ gb119)) (okp := (fun k_ => k_ ≠ gb112 ∧ k_ ≠ gb119)) ?hr ?hp (fun _ hk => hk) ((show ∀ k_, w30.heap.size ≤ k_ → (fun k_ => k_ ≠ gb112 ∧ k_ ≠ gb119) k_ from fun k_ hk => ⟨Kd.freshB (g := gb112) (o := .cells #[.bool a0_0, .slice (some ad118) l0_1.length c0_1] 56 (0, 0)) (by (with_reducible repeat (first | refine blk_drewN ?_ _ | refine blk_drew ?_ | refine blk_alloc ?_ _)); exact BK112.out) k_ hk, Kd.freshB (g := gb119) (o := .cells #[.int .i64 ((rd_T78 l0_1 x22_2).f0), .int .i64 ((rd_T78 l0_1 x22_2).f1)] 78 (0, 0)) (by (with_reducible repeat (first | refine blk_drewN ?_ _ | refine blk_drew ?_ | refine blk_alloc ?_ _)); exact BK119.out) k_ hk⟩) _ (Nat.le_refl _)) (Below.refl _ _) (Nat.le_refl _) (by simp) ?_; (case hd => rfl); (case hg => rfl); (case hr => first | (go_simp; done) | (go_simp; rfl)); (case hp => exact (Reps.one (show Kd.FK (Kd.slice 5 (Kd.int .u8)) _ _ x4_2 [.slice Ao31 x4_2.length co31] from (Kd.FK_slice_mk (Kd.R_reads' (Kd.R_mono (ok' := (fun k_ => k_ ≠ gb112 ∧ k_ ≠ gb119)) (Kd.R_types (Kd.R_types (HO_4.out) BK112.out (by decide)) BK119.out (by decide)) (fun k_ hk => ⟨hk.1.2, hk.2⟩))).2.1 (Kd.R_F (Kd.R_mono (ok' := (fun k_ => k_ ≠ gb112 ∧ k_ ≠ gb119)) (Kd.R_types (Kd.R_types (HO_4.out) BK112.out (by decide)) BK119.out (by decide)) (fun k_ hk => ⟨hk.1.2, hk.2⟩))))) (Reps.one (show Kd.FK (Kd.slice 5 (Kd.int .u8)) _ _ t120 [.slice Ao32 t120.length co32] from (Kd.FK_slice_mk (Kd.R_reads' (Kd.R_mono (ok' := (fun k_ => k_ ≠ gb112 ∧ k_ ≠ gb119)) (Kd.R_types (Kd.R_types (HO122.out) BK112.out (by decide)) BK119.out (by decide)) (fun k_ hk => ⟨hk.1.2, hk.2⟩))).2.1 (Kd.R_F (Kd.R_mono (ok' := (fun k_ => k_ ≠ gb112 ∧ k_ ≠ gb119)) (Kd.R_types (Kd.R_types (HO122.out) BK112.out (by decide)) BK119.out (by decide)) (fun k_ hk => ⟨hk.1.2, hk.2⟩))))) (Reps.one (show Kd.FK (Kd.slice 5 (Kd.int .u8)) _ _ t123 [.slice Ao33 t123.length co33] from (Kd.FK_slice_mk (Kd.R_reads' (Kd.R_mono (ok' := (fun k_ => k_ ≠ gb112 ∧ k_ ≠ gb119)) (Kd.R_types (Kd.R_types (HO125.out) BK112.out (by decide)) BK119.out (by decide)) (fun k_ hk => ⟨hk.1.2, hk.2⟩))).2.1 (Kd.R_F (Kd.R_mono (ok' := (fun k_ => k_ ≠ gb112 ∧ k_ ≠ gb119)) (Kd.R_types (Kd.R_types (HO125.out) BK112.out (by decide)) BK119.out (by decide)) (fun k_ hk => ⟨hk.1.2, hk.2⟩))))) (Reps.none _ _)))))
                  intro v127 w34 ho35 hb hg_ hnew_
                  clear hg_ hnew_
                  (first | rw [← Ny126.out] at ho35 | (simp only [Int.reduceToNat] at ho35; rw [← Ny126.out] at ho35))
                  have n0_ := Aside0.mk (Kd.N_lower ho35 (below_size (by repeat (first | (with_reducible first | exact HB.out | apply below_alloc | apply pw_below_drewN | apply below_drew1 | refine below_set ?_ GE112.out | refine below_set ?_ GE119.out) | exact HB.out))))
                  have n1_ := Aside0.mk (blk_below (g := gb112) (o := .cells #[.bool a0_0, .slice (some ad118) l0_1.length c0_1] 56 (0, 0)) (by (with_reducible repeat (first | refine blk_drewN ?_ _ | refine blk_drew ?_ | refine blk_alloc ?_ _)); exact BK112.out) hb)
                  have n2_ := Aside0.mk (blk_below (g := gb119) (o := .cells #[.int .i64 ((rd_T78 l0_1 x22_2).f0), .int .i64 ((rd_T78 l0_1 x22_2).f1)] 78 (0, 0)) (by (with_reducible repeat (first | refine blk_drewN ?_ _ | refine blk_drew ?_ | refine blk_alloc ?_ _)); exact BK119.out) hb)
                  have n3_ := Aside0.mk (below_step (by repeat (first | (with_reducible first | exact HB.out | apply below_alloc | apply pw_below_drewN | apply below_drew1 | refine below_set ?_ GE112.out | refine below_set ?_ GE119.out) | exact HB.out)) hb)
                  clear BK112
                  clear BK119
                  clear HB
                  clear HO122
                  clear HO125
                  clear HO_4
                  have HO128 := n0_
                  have BK112 := n1_
                  have BK119 := n2_
                  have HB := n3_
                  clear n0_ n1_ n2_ n3_
                  clear hb ho35
                  obtain ⟨Ao36, co36, eo36⟩ := Kd.N_slice HO128.out
                  (first | subst eo36 | (injection eo36 with f1_ f2_ f3_; have f4_ := f1_.symm; have f5_ := f3_.symm; clear f1_ f2_ f3_; subst f4_; subst f5_))
                  refine hK.out _ _ ⟨(blk_cell BK119.out 0).trans rfl, (blk_cell BK119.out 1).trans rfl⟩ (fun hHeld => ?_)
                  clear hK K
                  refine norm_ (a' := ?_) ?_ ?_
                  rotate_left
                  · show Act.put _ (some 33) _ = _
                    simp only [Act.put, List.setIfInBounds_toArray, List.set_cons_zero, List.set_cons_succ, i64_w, i32_w]
                    rfl
                  refine one_ (i := 8) (N := some 34) #[true, true, true, true, true, true, true, true, true, false] rfl rfl (one_of HT_.out (by kernel_rfl)) (by decide) (fun K hK => ?_)
                  refine goes_ Try.func54 (by kernel_rfl) rfl #[.slice Ao36 y126.length co36] (by rfl) rfl rfl (by (try simp only [List.map_toArray, List.map_cons, List.map_nil]); first | done | rfl | (simp only [List.length_drop, List.length_take]; rfl)) ?_
                  with_reducible refine (slices_Concat_byte_byte.calls _ _ y126 t129 _ ?side1 ?side2 A23.out).mono ?_
                  (case side1 => repeat (first | exact (Kd.N_reads' HO128.out).2.2 | (with_reducible refine Kd.C_alloc ?_ _) | (with_reducible refine Kd.C_drewN ?_ _) | (with_reducible refine Kd.C_drew ?_)))
                  (case side2 => exact (Kd.N_reads' HO128.out).2.1)
                  rintro e w37 ⟨v130, rfl, ho0, hb⟩
                  refine ⟨_, rfl, ?_⟩
                  have n0_ := Aside0.mk (Kd.N_elder' (by (with_reducible repeat (first | apply Kd.N_alloc | apply Kd.N_drewN | apply Kd.N_drew)); exact HO128.out) (Kd.R_base ho0) hb)
                  have n1_ := Aside0.mk (Kd.R_lower ho0 (below_size (by repeat (first | (with_reducible first | exact HB.out | apply below_alloc | apply pw_below_drewN | apply below_drew1 | refine below_set ?_ GE112.out | refine below_set ?_ GE119.out) | exact HB.out))))
                  have n2_ := Aside0.mk (blk_below (g := gb112) (o := .cells #[.bool a0_0, .slice (some ad118) l0_1.length c0_1] 56 (0, 0)) (by (with_reducible repeat (first | refine blk_drewN ?_ _ | refine blk_drew ?_ | refine blk_alloc ?_ _)); exact BK112.out) hb)
                  have n3_ := Aside0.mk (blk_below (g := gb119) (o := .cells #[.int .i64 ((rd_T78 l0_1 x22_2).f0), .int .i64 ((rd_T78 l0_1 x22_2).f1)] 78 (0, 0)) (by (with_reducible repeat (first | refine blk_drewN ?_ _ | refine blk_drew ?_ | refine blk_alloc ?_ _)); exact BK119.out) hb)
                  have n4_ := Aside0.mk (below_step (by repeat (first | (with_reducible first | exact HB.out | apply below_alloc | apply pw_below_drewN | apply below_drew1 | refine below_set ?_ GE112.out | refine below_set ?_ GE119.out) | exact HB.out)) hb)
                  clear HO128
                  clear BK112
                  clear BK119
                  clear HB
                  have HO128 := n0_
                  have HO131 := n1_
                  have BK112 := n2_
                  have BK119 := n3_
                  have HB := n4_
                  clear n0_ n1_ n2_ n3_ n4_
                  (try clear hb)
                  (try clear hb2)
                  (try clear hk)
                  (try clear hi)
                  (try clear ho0)
                  refine hK.out _ _ ⟨(blk_cell BK119.out 0).trans rfl, (blk_cell BK119.out 1).trans rfl⟩ (fun hHeld => ?_)
                  clear hK K
                  refine norm_ (a' := ?_) ?_ ?_
                  rotate_left
                  · show Act.put _ (some 34) _ = _
                    simp only [Act.put, List.setIfInBounds_toArray, List.set_cons_zero, List.set_cons_succ, i64_w, i32_w]
                    rfl
                  refine pure_ (i := 9) (N := some 4) (v := ?_) (a' := ?_) #[true, true, true, true, true, true, true, true, true, true] rfl rfl (any_of HT_.out (by kernel_rfl)) (fun _ _ _ h => h) (Or.inl ⟨by rfl, ?_⟩) ?_ ?_
                  rotate_left
                  · intro w'
                    go_simp
                    with_reducible rfl
                  rotate_left
                  · simp only [Act.put, List.setIfInBounds_toArray, List.set_cons_zero, List.set_cons_succ, i64_w, i32_w]
                    rfl
                  refine done_ (done_of HT_.out (by kernel_rfl)) ?_
                  try go_wp2
                  go_roundg k2
                  case measure => have := HJ3.out; have := HK2.out; omega
                  case rel => exact ⟨(t129), (wrap64 (x22_2 + 1)), (by first | rfl | (simp; done) | (simp [*]; done)), H', ⟨by have := HJ3.out; have := HK2.out; omega⟩, ⟨by (with_reducible repeat (first | apply Kd.R_alloc | apply Kd.R_drewN | apply Kd.R_drew)); exact HO131.out⟩, ⟨by (with_reducible repeat (first | refine blk_drewN ?_ _ | refine blk_drew ?_ | refine blk_alloc ?_ _)); exact BK112.out⟩, ⟨by repeat (first | (with_reducible first | exact HB.out | apply below_alloc | apply pw_below_drewN | apply below_drew1 | refine below_set ?_ GE112.out | refine below_set ?_ GE119.out) | exact HB.out)⟩⟩
                · rw [if_neg c20] at H
                  exact absurd H (by simp)
              · rw [if_neg c19] at H
                exact absurd H (by simp)
            · rw [if_neg c18] at H
              have c18b0 : decide (x22_2 < (l0_1.length : Int)) = false := decide_eq_false c18
              clear c18
              replace H := Option.bind_eq_some_iff.mp H
              obtain ⟨⟨t132, t133⟩, A380, H⟩ := H
              replace H : (some (t132, t133)) = some (r1, r2) := H
              have A38 := Aside0.mk A380
              clear A380
              simp only [Option.some.injEq, Prod.mk.injEq] at H
              obtain ⟨rfl, rfl⟩ := H
              obtain ⟨Ao39, co39, eo39⟩ := Kd.R_slice HO_4.out
              subst eo39
              go_wp2_with (first | ((with_reducible refine gate_callee (f := 44) rfl ?_); refine goesL_ (some 37) rfl rfl Try.func44 (by kernel_rfl) rfl #[.slice Ao39 x4_2.length co39] rfl (by (try simp only [List.map_toArray, List.map_cons, List.map_nil]); first | done | rfl | (simp only [List.length_drop, List.length_take]; rfl)) ?_; (with_reducible refine (num_Seal.calls _ _ x4_2 t132 t133 _ ?side1 ?side2 A38.out).mono ?_); (case side1 => repeat (first | exact (Kd.R_reads' HO_4.out).2.2 | (with_reducible refine Kd.C_alloc ?_ _) | (with_reducible refine Kd.C_drewN ?_ _) | (with_reducible refine Kd.C_drew ?_))); (case side2 => exact (Kd.R_reads' HO_4.out).2.1); rintro e w40 ⟨rfl, hb⟩; refine ⟨_, rfl, ?_⟩; have n0_ := Aside0.mk (Kd.R_below (by (with_reducible repeat (first | apply Kd.R_alloc | apply Kd.R_drewN | apply Kd.R_drew)); exact HO_4.out) hb); have n1_ := Aside0.mk (blk_below (g := gb112) (o := .cells #[.bool a0_0, .slice A0_1 l0_1.length c0_1] 56 (0, 0)) (by (with_reducible repeat (first | refine blk_drewN ?_ _ | refine blk_drew ?_ | refine blk_alloc ?_ _)); exact BK112.out) hb); have n2_ := Aside0.mk (below_step (by repeat (first | (with_reducible first | exact HB.out | apply below_alloc | apply pw_below_drewN | apply below_drew1 | refine below_set ?_ GE112.out) | exact HB.out)) hb); clear HO_4; clear BK112; clear HB; have HO_4 := n0_; have BK112 := n1_; have HB := n2_; clear n0_ n1_ n2_; (try clear hb); (try clear hb2); (try clear hk); (try clear hi)))
              go_ret2
              exact ⟨by first | rfl | (simp [errW_none, errW_some] <;> rfl) | (simp [*, errW_none, errW_some] <;> rfl), by repeat (first | (with_reducible first | exact HB.out | apply below_alloc | apply pw_below_drewN | apply below_drew1 | refine below_set ?_ GE112.out) | exact HB.out)⟩
  · replace c3 := Bool.eq_false_iff.mpr c3
    subst c3
    have H1 : (some ((⟨#[]⟩ : ByteArray), 1)) = some (r1, r2) := by rw [if_neg (show ¬ (false = true) by decide)] at H; exact H
    clear H
    have H := H1
    clear H1
    simp only [Option.some.injEq, Prod.mk.injEq] at H
    obtain ⟨rfl, rfl⟩ := H
    go_enter Try.func27, Try.ntmps27
    go_wp2_with (first | ((with_reducible refine gate_dst (N := 1) rfl ?_); refine box_event ?hg (N := 1) ?hd (cs := #[.bool a0_0, .slice A0_1 l0_1.length c0_1]) (t := 56) ?hr ?_; (case hd => rfl); (case hg => rfl); (case hr => first | (go_simp; done) | (go_simp; rfl)); intro gb112 hg w41 hbox hb; have n0_ := Aside0.mk (below_step (by repeat (first | (with_reducible first | exact HB.out | apply below_alloc | apply pw_below_drewN | apply below_drew1) | exact HB.out)) hb); have n1_ := Aside0.mk (hbox); have n2_ := Aside0.mk ((by rw [hg]; exact (below_size (by repeat (first | (with_reducible first | exact HB.out | apply below_alloc | apply pw_below_drewN | apply below_drew1) | exact HB.out))) : w.heap.size ≤ gb112)); have n3_ := Aside0.mk ((by rw [hg]; exact (below_size (by repeat (first | (with_reducible first | exact HB.out | apply below_alloc | apply pw_below_drewN | apply below_drew1) | exact HB.out))) : w.heap.size ≤ gb112)); clear HB; have HB := n0_; have BK112 := n1_; have GW112 := n2_; have GE112 := n3_; clear n0_ n1_ n2_ n3_; clear hb hbox hg; have hcz42_0 : w41.cell? ⟨gb112, 0, none⟩ = some (.bool a0_0) := (blk_cell BK112.out 0).trans rfl; have hcz42_1 : w41.cell? ⟨gb112, 1, none⟩ = some (.slice A0_1 l0_1.length c0_1) := (blk_cell BK112.out 1).trans rfl; have hfz42_0 := blk_frozen BK112.out 0; have hfz42_1 := blk_frozen BK112.out 1) | ((with_reducible refine gate_callee (f := 34) rfl ?_); refine goesL_ (some 8) rfl rfl Try.func34 (by kernel_rfl) rfl #[.agg #[.bool a0_0, .slice A0_1 l0_1.length c0_1]] rfl (by (try simp only [List.map_toArray, List.map_cons, List.map_nil]); first | done | rfl | (simp only [List.length_drop, List.length_take]; rfl)) ?_; (with_reducible refine (node_Right.calls k a0_0 _ _ l0_1 false _ ?side1 ?side2 A2.out).mono ?_); (case side1 => repeat (first | exact (Kd.C_below HR0_1.out HB.out) | (with_reducible refine Kd.C_alloc ?_ _) | (with_reducible refine Kd.C_drewN ?_ _) | (with_reducible refine Kd.C_drew ?_))); (case side2 => exact HC0_1.out); rintro e w43 ⟨rfl, hb⟩; refine ⟨_, rfl, ?_⟩; have n0_ := Aside0.mk (blk_below (g := gb112) (o := .cells #[.bool a0_0, .slice A0_1 l0_1.length c0_1] 56 (0, 0)) (by (with_reducible repeat (first | refine blk_drewN ?_ _ | refine blk_drew ?_ | refine blk_alloc ?_ _)); exact BK112.out) hb); have n1_ := Aside0.mk (below_step (by repeat (first | (with_reducible first | exact HB.out | apply below_alloc | apply pw_below_drewN | apply below_drew1 | refine below_set ?_ GE112.out) | exact HB.out)) hb); clear BK112; clear HB; have BK112 := n0_; have HB := n1_; clear n0_ n1_; (try clear hb); (try clear hb2); (try clear hk); (try clear hi)))
    go_ret2
    exact ⟨by first | rfl | (simp [errW_none, errW_some] <;> rfl) | (simp [*, errW_none, errW_some] <;> rfl), by repeat (first | (with_reducible first | exact HB.out | apply below_alloc | apply pw_below_drewN | apply below_drew1 | refine below_set ?_ GE112.out) | exact HB.out)⟩

end Go.Proofs.Ythjnkapkhphpeaa.P
end
