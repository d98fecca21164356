/- Texts of this claim's proof put together: F11, HRow, QNodeSplits, F31, F36, F37, F39. -/
import Derived.Test.YthjnkapkhphpeaaBNodeSplits0
import Derived.Test.YthjnkapkhphpeaaBNodeSplits1
import Derived.ChangeArms
import Derived.DataReads
import Derived.DataElems
import Derived.SizedLaws
section
-- Written by a program of this session (xprint.py, over the kit's print). Not trusted: Lean checks it.
namespace Go.Proofs.Ythjnkapkhphpeaa.P
open Go.RowKit Go.Proofs.YthjnkapkhphpeaaW.PrintWords Go.Proofs.YthjnkapkhphpeaaW.PrintLast Go.Proofs.YthjnkapkhphpeaaW.PrintMore
attribute [local go_sem] max2_int min2_int max_two min_two max_three min_three max_four min_four   -- for this text's walks alone
set_option linter.unusedVariables false
set_option linter.unusedSimpArgs false

/-! ### assartlaw04_NodeSplits: function 11 -/
def assartlaw04_NodeSplits.l0 : Nat → List (S78) → Bool → List (List (S78)) → List (S78) → Int → Option (Bool)
  | 0, _, _, _, _, _ => none
  | k + 1, x0, x3, x4, x5, x6 => if x6 < (x4.length : Int) then (if 0 ≤ x6 then (if ((rd_L7 x4 x6).length : Int) < 1 then (some false) else (if ((rd_L7 x4 x6).length : Int) > 4 then (some false) else (if x6 < (wrap64 ((x4.length : Int) - 1)) then (if ((rd_L7 x4 x6).length : Int) = 3 then (if x5.length + (rd_L7 x4 x6).length < 8796093022208 then (assartlaw04_NodeSplits.l0 k x0 x3 x4 (x5 ++ (rd_L7 x4 x6)) (wrap64 (x6 + 1))) else (none)) else (some false)) else (if x5.length + (rd_L7 x4 x6).length < 8796093022208 then (assartlaw04_NodeSplits.l0 k x0 x3 x4 (x5 ++ (rd_L7 x4 x6)) (wrap64 (x6 + 1))) else (none))))) else (none)) else (if x3 = true then ((assartref04_Items.f k x5 x0).bind fun t421 => (if t421 = true then (some (((x4.length : Int) == 0) == ((x0.length : Int) == 0))) else (some false))) else (some false))
def assartlaw04_NodeSplits.f (k : Nat) (l0 : List (S78)) : Option (Bool) := (assartlaw04_shown.f).bind fun t403 => (if (l0.length : Int) > 20 then (some t403) else ((node_Split.f k l0).bind fun t404 => (assartlaw04_NodeSplits.l0 k l0 t403 t404 (([] : List (S78))) 0)))
theorem assartlaw04_NodeSplits.mono_l : ∀ k, (∀ y0 y1 y2 y3 y4, LeO (assartlaw04_NodeSplits.l0 k y0 y1 y2 y3 y4) (assartlaw04_NodeSplits.l0 (k + 1) y0 y1 y2 y3 y4))
  | 0 => fun _ _ _ _ _ r h => by simp [assartlaw04_NodeSplits.l0] at h
  | k + 1 => by
    have ih0 := assartlaw04_NodeSplits.mono_l k
    · intro y0 y1 y2 y3 y4
      unfold assartlaw04_NodeSplits.l0
      repeat' first
      | (with_reducible exact ih0 _ _ _ _ _)
      | (with_reducible exact assartref04_Items.mono _ _ _)
      | (with_reducible exact node_Split.mono _ _)
      | (with_reducible exact LeO.refl _)
      | (with_reducible exact LeO.none _)
      | (with_reducible refine LeO.ite ?_ ?_)
      | (with_reducible refine LeO.bind ?_ (fun _ => ?_))
      | exact ih0 _ _ _ _ _
      | exact assartref04_Items.mono _ _ _
      | exact node_Split.mono _ _
      | exact LeO.none _
      | refine LeO.ite ?_ ?_
      | refine LeO.bind ?_ (fun _ => ?_)
theorem assartlaw04_NodeSplits.mono : ∀ a0 k, LeO (assartlaw04_NodeSplits.f k a0) (assartlaw04_NodeSplits.f (k + 1) a0) := by
  intro a0 k
  have ih0 := assartlaw04_NodeSplits.mono_l k
  unfold assartlaw04_NodeSplits.f
  repeat' first
      | (with_reducible exact ih0 _ _ _ _ _)
      | (with_reducible exact assartref04_Items.mono _ _ _)
      | (with_reducible exact node_Split.mono _ _)
      | (with_reducible exact LeO.refl _)
      | (with_reducible exact LeO.none _)
      | (with_reducible refine LeO.ite ?_ ?_)
      | (with_reducible refine LeO.bind ?_ (fun _ => ?_))
      | exact ih0 _ _ _ _ _
      | exact assartref04_Items.mono _ _ _
      | exact node_Split.mono _ _
      | exact LeO.none _
      | refine LeO.ite ?_ ?_
      | refine LeO.bind ?_ (fun _ => ?_)
set_option maxHeartbeats 8000000 in
set_option maxRecDepth 100000 in
theorem assartlaw04_NodeSplits.calls (k : Nat) (A0 : Option Addr) (c0 : Nat) (l0 : List (S78)) (r : Bool) (w : World) (hr0 : Kd.C k78 w A0 l0.length l0) (hc0 : l0.length ≤ c0) (h : assartlaw04_NodeSplits.f k l0 = some r) :
    Calls Try.prog 11 #[.slice A0 l0.length c0] w fun e w' => e = .returned (.bool r) ∧ Below w.heap.size w w' := by
  have HR0 := Aside0.mk hr0
  have HC0 := Aside0.mk hc0
  clear hr0 hc0
  have HB := Aside0.mk (Below.refl w.heap.size w)
  have H : ((assartlaw04_shown.f).bind fun t403 => (if (l0.length : Int) > 20 then (some t403) else ((node_Split.f k l0).bind fun t404 => (assartlaw04_NodeSplits.l0 k l0 t403 t404 (([] : List (S78))) 0)))) = some r := h
  clear h
  replace H := Option.bind_eq_some_iff.mp H
  obtain ⟨t403, A20, H⟩ := H
  replace H : (if (l0.length : Int) > 20 then (some t403) else ((node_Split.f k l0).bind fun t404 => (assartlaw04_NodeSplits.l0 k l0 t403 t404 (([] : List (S78))) 0))) = some r := H
  have A2 := Aside0.mk A20
  clear A20
  by_cases c3 : (l0.length : Int) > 20
  · rw [if_pos c3] at H
    have c3b0 : decide (20 < (l0.length : Int)) = true := decide_eq_true c3
    have c3b1 : decide (20 < l0.length) = true := decide_eq_true (by omega)
    clear c3
    obtain rfl := Option.some.inj H
    go_enter Try.func11, Try.ntmps11
    go_wp2_with (first | ((with_reducible refine gate_callee (f := 26) rfl ?_); refine goesL_ (some 7) rfl rfl Try.func26 (by kernel_rfl) rfl #[] rfl (by (try simp only [List.map_toArray, List.map_cons, List.map_nil]); first | done | rfl | (simp only [List.length_drop, List.length_take]; rfl)) ?_; (with_reducible refine (assartlaw04_shown.calls  t403 _ A2.out).mono ?_); rintro e w4 ⟨rfl, hb⟩; refine ⟨_, rfl, ?_⟩; have n0_ := Aside0.mk (below_step (by repeat (first | (with_reducible first | exact HB.out | apply below_alloc | apply pw_below_drewN | apply below_drew1) | exact HB.out)) hb); clear HB; have HB := n0_; clear n0_; (try clear hb); (try clear hb2); (try clear hk); (try clear hi)))
    go_ret
    exact ⟨by first | rfl | (simp [errW_none, errW_some] <;> rfl) | (simp [*, errW_none, errW_some] <;> rfl), by repeat (first | (with_reducible first | exact HB.out | apply below_alloc | apply pw_below_drewN | apply below_drew1) | exact HB.out)⟩
  · rw [if_neg c3] at H
    have c3b0 : decide (20 < (l0.length : Int)) = false := decide_eq_false c3
    have c3b1 : decide (20 < l0.length) = false := decide_eq_false (by omega)
    clear c3
    replace H := Option.bind_eq_some_iff.mp H
    obtain ⟨t404, A50, H⟩ := H
    replace H : (assartlaw04_NodeSplits.l0 k l0 t403 t404 (([] : List (S78))) 0) = some r := H
    have A5 := Aside0.mk A50
    clear A50
    obtain ⟨y407, hy407⟩ : ∃ y_ : List (S78), y_ = (([] : List (S78))) := ⟨_, rfl⟩
    replace H : (assartlaw04_NodeSplits.l0 k l0 t403 t404 y407 0) = some r := by first | (rw [hy407]; with_reducible exact H) | (have H2_ := (Option.bind_some _ _).symm.trans H; rw [hy407]; with_reducible exact H2_) | (have H2_ := (Option.bind_some _ _).symm.trans H; with_reducible exact H2_) | with_reducible exact H | (rw [hy407]; exact H) | exact H
    have Ny407 := Aside0.mk hy407
    clear hy407
    have H' := Aside0.mk H
    clear H
    go_enter Try.func11, Try.ntmps11
    go_wp2_with (first | ((with_reducible refine gate_callee (f := 26) rfl ?_); refine goesL_ (some 7) rfl rfl Try.func26 (by kernel_rfl) rfl #[] rfl (by (try simp only [List.map_toArray, List.map_cons, List.map_nil]); first | done | rfl | (simp only [List.length_drop, List.length_take]; rfl)) ?_; (with_reducible refine (assartlaw04_shown.calls  t403 _ A2.out).mono ?_); rintro e w6 ⟨rfl, hb⟩; refine ⟨_, rfl, ?_⟩; have n0_ := Aside0.mk (below_step (by repeat (first | (with_reducible first | exact HB.out | apply below_alloc | apply pw_below_drewN | apply below_drew1) | exact HB.out)) hb); clear HB; have HB := n0_; clear n0_; (try clear hb); (try clear hb2); (try clear hk); (try clear hi)) | ((with_reducible refine gate_callee (f := 38) rfl ?_); refine goesL_ (some 13) rfl rfl Try.func38 (by kernel_rfl) rfl #[.slice A0 l0.length c0] rfl (by (try simp only [List.map_toArray, List.map_cons, List.map_nil]); first | done | rfl | (simp only [List.length_drop, List.length_take]; rfl)) ?_; (with_reducible refine (node_Split.calls k (fun k_ => k_ < w.heap.size) _ _ l0 t404 _ ?side1 A5.out).mono ?_); (case side1 => exact Kd.V_mk HC0.out (Kd.F_below (Kd.C_F k78_heap HR0.out) (by repeat (first | (with_reducible first | exact HB.out | apply below_alloc | apply pw_below_drewN | apply below_drew1) | exact HB.out)))); rintro e w7 ⟨v405, rfl, ho0, hb⟩; refine ⟨_, rfl, ?_⟩; have n0_ := Aside0.mk (Kd.N_lower (Kd.N_mono (ok' := fun k_ => True) ho0 (fun k_ hk_ => trivial)) (below_size (by repeat (first | (with_reducible first | exact HB.out | apply below_alloc | apply pw_below_drewN | apply below_drew1) | exact HB.out)))); have n1_ := Aside0.mk (below_step (by repeat (first | (with_reducible first | exact HB.out | apply below_alloc | apply pw_below_drewN | apply below_drew1) | exact HB.out)) hb); clear HB; have HO406 := n0_; have HB := n1_; clear n0_ n1_; (try clear hb); (try clear hb2); (try clear hk); (try clear hi); (try clear ho0)) | ((with_reducible refine gate_dst (N := 14) rfl ?_); (try (refine gate_guard (by rfl) ?_; dsimp only)); refine Kd.R_lit k78 _ 78 ?hg (N := 14) ?hd (xs := ([] : List (S78))) (inner := []) (ok := fun _ => True) (okp := fun _ => True) ?hr ?hp (fun _ hk => hk) trivial (Below.refl _ _) (Nat.le_refl _) (by simp) ?_; (case hd => rfl); (case hg => rfl); (case hr => first | (go_simp; done) | (go_simp; rfl)); (case hp => exact (Reps.none _ _)); intro v408 w8 ho9 hb hg_ hnew_; clear hg_ hnew_; (first | rw [← Ny407.out] at ho9 | (simp only [Int.reduceToNat] at ho9; rw [← Ny407.out] at ho9)); have n0_ := Aside0.mk (Kd.N_elder' (by (with_reducible repeat (first | apply Kd.N_alloc | apply Kd.N_drewN | apply Kd.N_drew)); exact HO406.out) (Kd.R_base ho9) hb); have n1_ := Aside0.mk (Kd.R_lower ho9 (below_size (by repeat (first | (with_reducible first | exact HB.out | apply below_alloc | apply pw_below_drewN | apply below_drew1) | exact HB.out)))); have n2_ := Aside0.mk (below_step (by repeat (first | (with_reducible first | exact HB.out | apply below_alloc | apply pw_below_drewN | apply below_drew1) | exact HB.out)) hb); clear HO406; clear HB; have HO406 := n0_; have HO409 := n1_; have HB := n2_; clear n0_ n1_ n2_; clear hb ho9))
    go_loopg [5, 6] k (fun kq v5 v6 w' => ∃ (x5_1 : List (S78)) (x6_1 : Int), v6 = .int .i64 x6_1 ∧ Aside0 (assartlaw04_NodeSplits.l0 kq l0 t403 t404 x5_1 x6_1 = some r) ∧ Aside0 (kq ≤ k) ∧ Aside0 (Kd.N (Kd.slice 78 k78) 54 w' w.heap.size (fun k_ => some k_ ≠ (v5 : Value).ownBlock) v405 t404) ∧ Aside0 (Kd.R k78 78 w' w.heap.size (fun _ => True) v5 x5_1) ∧ Aside0 (Below w.heap.size w w'))
    case atStart => exact ⟨(y407), (0), (by first | rfl | (simp; done) | (simp [*]; done)), H', ⟨Nat.le_refl _⟩, ⟨by (with_reducible repeat (first | apply Kd.N_alloc | apply Kd.N_drewN | apply Kd.N_drew)); exact Kd.N_mono HO406.out (fun _ hk => hk.2)⟩, ⟨by (with_reducible repeat (first | apply Kd.R_alloc | apply Kd.R_drewN | apply Kd.R_drew)); exact HO409.out⟩, ⟨by repeat (first | (with_reducible first | exact HB.out | apply below_alloc | apply pw_below_drewN | apply below_drew1) | exact HB.out)⟩⟩
    case round =>
      clear H'
      try clear c1
      try clear c2
      try clear p2
      try clear c3
      try clear c3b0
      try clear c3b1
      obtain ⟨x5_1, x6_1, rfl, HA, HK1, HO_4, HO_5, HB⟩ := hrel
      cases gk with
      | zero => exact absurd HA.out (by simp [assartlaw04_NodeSplits.l0])
      | succ k1 =>
        have H := HA.out
        clear HA
        simp only [assartlaw04_NodeSplits.l0] at H
        by_cases c10 : x6_1 < (t404.length : Int)
        · rw [if_pos c10] at H
          have c10b0 : decide (x6_1 < (t404.length : Int)) = true := decide_eq_true c10
          clear c10
          by_cases c11 : 0 ≤ x6_1
          · rw [if_pos c11] at H
            have c11b0 : decide (0 ≤ x6_1) = true := decide_eq_true c11
            clear c11
            by_cases c12 : ((rd_L7 t404 x6_1).length : Int) < 1
            · rw [if_pos c12] at H
              have c12b0 : decide (((rd_L7 t404 x6_1).length : Int) < 1) = true := decide_eq_true c12
              have c12b1 : decide ((rd_L7 t404 x6_1).length < 1) = true := decide_eq_true (by omega)
              clear c12
              obtain rfl := Option.some.inj H
              obtain ⟨Ao13, co13, eo13⟩ := Kd.N_slice HO_4.out
              subst eo13
              have p410 : 0 ≤ (x6_1 : Int) := of_decide_eq_true (by first | (with_reducible assumption) | assumption)
              have q410 : x6_1 < (t404.length : Int) := of_decide_eq_true (by first | (with_reducible assumption) | assumption)
              obtain ⟨ad410, A410_0, c410_0, e410, hx410_0, hl410_0, hi410_0⟩ := at_L7 (Kd.N_reads' HO_4.out).2.2 x6_1 p410 q410
              cases e410
              obtain ⟨ce410, hce410, hMe410, hcc410⟩ := Kd.N_get HO_4.out [] x6_1 p410 (by first | exact q410 | exact of_decide_eq_true (by first | (with_reducible assumption) | assumption) | (have e_ := (Kd.N_reads' HO_4.out).1; omega))
              obtain ⟨ua410_0, uc410_0, rfl, ul410_0, ge410_0⟩ := Kd.FK_slice_open hMe410
              have hv410_0 := hcc410 0 _ rfl
              rw [Nat.add_zero, show ((Kd.slice 78 k78)).sz = 1 from rfl, Nat.mul_one] at hv410_0
              replace hv410_0 := Option.some.inj (hv410_0.symm.trans hx410_0)
              injection hv410_0 with hva_ hvn_ hvc_
              rw [hva_] at ge410_0
              rw [hvc_] at ul410_0
              have HL410_0 := Aside0.mk (show Kd.V k78 78 _ w.heap.size _ _ (rd_L7 t404 x6_1) from Kd.V_mk ul410_0 ge410_0)
              clear hva_ hvn_ hvc_ ge410_0 ul410_0
              clear hcc410 hce410
              have HR410_0 := Aside0.mk hi410_0
              have HC410_0 := Aside0.mk hl410_0
              clear hi410_0 hl410_0
              replace p410 := eq_true p410
              replace q410 := eq_true q410
              go_wp2
              go_ret
              exact ⟨by first | rfl | (simp [errW_none, errW_some] <;> rfl) | (simp [*, errW_none, errW_some] <;> rfl), by repeat (first | (with_reducible first | exact HB.out | apply below_alloc | apply pw_below_drewN | apply below_drew1) | exact HB.out)⟩
            · rw [if_neg c12] at H
              have c12b0 : decide (((rd_L7 t404 x6_1).length : Int) < 1) = false := decide_eq_false c12
              have c12b1 : decide ((rd_L7 t404 x6_1).length < 1) = false := decide_eq_false (by omega)
              clear c12
              by_cases c14 : ((rd_L7 t404 x6_1).length : Int) > 4
              · rw [if_pos c14] at H
                have c14b0 : decide (4 < ((rd_L7 t404 x6_1).length : Int)) = true := decide_eq_true c14
                have c14b1 : decide (4 < (rd_L7 t404 x6_1).length) = true := decide_eq_true (by omega)
                clear c14
                obtain rfl := Option.some.inj H
                obtain ⟨Ao15, co15, eo15⟩ := Kd.N_slice HO_4.out
                subst eo15
                have p410 : 0 ≤ (x6_1 : Int) := of_decide_eq_true (by first | (with_reducible assumption) | assumption)
                have q410 : x6_1 < (t404.length : Int) := of_decide_eq_true (by first | (with_reducible assumption) | assumption)
                obtain ⟨ad410, A410_0, c410_0, e410, hx410_0, hl410_0, hi410_0⟩ := at_L7 (Kd.N_reads' HO_4.out).2.2 x6_1 p410 q410
                cases e410
                obtain ⟨ce410, hce410, hMe410, hcc410⟩ := Kd.N_get HO_4.out [] x6_1 p410 (by first | exact q410 | exact of_decide_eq_true (by first | (with_reducible assumption) | assumption) | (have e_ := (Kd.N_reads' HO_4.out).1; omega))
                obtain ⟨ua410_0, uc410_0, rfl, ul410_0, ge410_0⟩ := Kd.FK_slice_open hMe410
                have hv410_0 := hcc410 0 _ rfl
                rw [Nat.add_zero, show ((Kd.slice 78 k78)).sz = 1 from rfl, Nat.mul_one] at hv410_0
                replace hv410_0 := Option.some.inj (hv410_0.symm.trans hx410_0)
                injection hv410_0 with hva_ hvn_ hvc_
                rw [hva_] at ge410_0
                rw [hvc_] at ul410_0
                have HL410_0 := Aside0.mk (show Kd.V k78 78 _ w.heap.size _ _ (rd_L7 t404 x6_1) from Kd.V_mk ul410_0 ge410_0)
                clear hva_ hvn_ hvc_ ge410_0 ul410_0
                clear hcc410 hce410
                have HR410_0 := Aside0.mk hi410_0
                have HC410_0 := Aside0.mk hl410_0
                clear hi410_0 hl410_0
                replace p410 := eq_true p410
                replace q410 := eq_true q410
                have p411 : 0 ≤ (x6_1 : Int) := of_decide_eq_true (by first | (with_reducible assumption) | assumption)
                have q411 : x6_1 < (t404.length : Int) := of_decide_eq_true (by first | (with_reducible assumption) | assumption)
                obtain ⟨ad411, A411_0, c411_0, e411, hx411_0, hl411_0, hi411_0⟩ := at_L7 (Kd.N_reads' HO_4.out).2.2 x6_1 p411 q411
                obtain rfl : ad410 = ad411 := (by injection e411)
                obtain ⟨ce411, hce411, hMe411, hcc411⟩ := Kd.N_get HO_4.out [] x6_1 p411 (by first | exact q411 | exact of_decide_eq_true (by first | (with_reducible assumption) | assumption) | (have e_ := (Kd.N_reads' HO_4.out).1; omega))
                obtain ⟨ua411_0, uc411_0, rfl, ul411_0, ge411_0⟩ := Kd.FK_slice_open hMe411
                have hv411_0 := hcc411 0 _ rfl
                rw [Nat.add_zero, show ((Kd.slice 78 k78)).sz = 1 from rfl, Nat.mul_one] at hv411_0
                replace hv411_0 := Option.some.inj (hv411_0.symm.trans hx411_0)
                injection hv411_0 with hva_ hvn_ hvc_
                rw [hva_] at ge411_0
                rw [hvc_] at ul411_0
                have HL411_0 := Aside0.mk (show Kd.V k78 78 _ w.heap.size _ _ (rd_L7 t404 x6_1) from Kd.V_mk ul411_0 ge411_0)
                clear hva_ hvn_ hvc_ ge411_0 ul411_0
                clear hcc411 hce411
                have HR411_0 := Aside0.mk hi411_0
                have HC411_0 := Aside0.mk hl411_0
                clear hi411_0 hl411_0
                replace p411 := eq_true p411
                replace q411 := eq_true q411
                have ea_ := Option.some.inj (hx410_0.symm.trans hx411_0)
                injection ea_ with ea_ en_ ec_
                subst ea_
                subst ec_
                clear en_
                go_wp2
                go_ret
                exact ⟨by first | rfl | (simp [errW_none, errW_some] <;> rfl) | (simp [*, errW_none, errW_some] <;> rfl), by repeat (first | (with_reducible first | exact HB.out | apply below_alloc | apply pw_below_drewN | apply below_drew1) | exact HB.out)⟩
              · rw [if_neg c14] at H
                have c14b0 : decide (4 < ((rd_L7 t404 x6_1).length : Int)) = false := decide_eq_false c14
                have c14b1 : decide (4 < (rd_L7 t404 x6_1).length) = false := decide_eq_false (by omega)
                clear c14
                by_cases c16 : x6_1 < (wrap64 ((t404.length : Int) - 1))
                · rw [if_pos c16] at H
                  have c16b0 : decide (x6_1 < (wrap64 ((t404.length : Int) - 1))) = true := decide_eq_true c16
                  clear c16
                  by_cases c17 : ((rd_L7 t404 x6_1).length : Int) = 3
                  · rw [if_pos c17] at H
                    have c17b0 : (((rd_L7 t404 x6_1).length : Int) == 3) = true := beq_iff_eq.mpr c17
                    have c17b1 : (((rd_L7 t404 x6_1).length : Int) != 3) = false := bne_eq_false_iff_eq.mpr c17
                    clear c17
                    by_cases c18 : x5_1.length + (rd_L7 t404 x6_1).length < 8796093022208
                    · rw [if_pos c18] at H
                      have LMc18 := Aside0.mk c18
                      clear c18
                      obtain ⟨y414, hy414⟩ : ∃ y_ : List (S78), y_ = (x5_1 ++ (rd_L7 t404 x6_1)) := ⟨_, rfl⟩
                      replace H : (assartlaw04_NodeSplits.l0 k1 l0 t403 t404 y414 (wrap64 (x6_1 + 1))) = some r := by first | (rw [hy414]; with_reducible exact H) | (have H2_ := (Option.bind_some _ _).symm.trans H; rw [hy414]; with_reducible exact H2_) | (have H2_ := (Option.bind_some _ _).symm.trans H; with_reducible exact H2_) | with_reducible exact H | (rw [hy414]; exact H) | exact H
                      have Ny414 := Aside0.mk hy414
                      clear hy414
                      have H' := Aside0.mk H
                      clear H
                      obtain ⟨Ao19, co19, eo19⟩ := Kd.N_slice HO_4.out
                      subst eo19
                      have p410 : 0 ≤ (x6_1 : Int) := of_decide_eq_true (by first | (with_reducible assumption) | assumption)
                      have q410 : x6_1 < (t404.length : Int) := of_decide_eq_true (by first | (with_reducible assumption) | assumption)
                      obtain ⟨ad410, A410_0, c410_0, e410, hx410_0, hl410_0, hi410_0⟩ := at_L7 (Kd.N_reads' HO_4.out).2.2 x6_1 p410 q410
                      cases e410
                      obtain ⟨ce410, hce410, hMe410, hcc410⟩ := Kd.N_get HO_4.out [] x6_1 p410 (by first | exact q410 | exact of_decide_eq_true (by first | (with_reducible assumption) | assumption) | (have e_ := (Kd.N_reads' HO_4.out).1; omega))
                      obtain ⟨ua410_0, uc410_0, rfl, ul410_0, ge410_0⟩ := Kd.FK_slice_open hMe410
                      have hv410_0 := hcc410 0 _ rfl
                      rw [Nat.add_zero, show ((Kd.slice 78 k78)).sz = 1 from rfl, Nat.mul_one] at hv410_0
                      replace hv410_0 := Option.some.inj (hv410_0.symm.trans hx410_0)
                      injection hv410_0 with hva_ hvn_ hvc_
                      rw [hva_] at ge410_0
                      rw [hvc_] at ul410_0
                      have HL410_0 := Aside0.mk (show Kd.V k78 78 _ w.heap.size _ _ (rd_L7 t404 x6_1) from Kd.V_mk ul410_0 ge410_0)
                      clear hva_ hvn_ hvc_ ge410_0 ul410_0
                      clear hcc410 hce410
                      have HR410_0 := Aside0.mk hi410_0
                      have HC410_0 := Aside0.mk hl410_0
                      clear hi410_0 hl410_0
                      replace p410 := eq_true p410
                      replace q410 := eq_true q410
                      have p411 : 0 ≤ (x6_1 : Int) := of_decide_eq_true (by first | (with_reducible assumption) | assumption)
                      have q411 : x6_1 < (t404.length : Int) := of_decide_eq_true (by first | (with_reducible assumption) | assumption)
                      obtain ⟨ad411, A411_0, c411_0, e411, hx411_0, hl411_0, hi411_0⟩ := at_L7 (Kd.N_reads' HO_4.out).2.2 x6_1 p411 q411
                      obtain rfl : ad410 = ad411 := (by injection e411)
                      obtain ⟨ce411, hce411, hMe411, hcc411⟩ := Kd.N_get HO_4.out [] x6_1 p411 (by first | exact q411 | exact of_decide_eq_true (by first | (with_reducible assumption) | assumption) | (have e_ := (Kd.N_reads' HO_4.out).1; omega))
                      obtain ⟨ua411_0, uc411_0, rfl, ul411_0, ge411_0⟩ := Kd.FK_slice_open hMe411
                      have hv411_0 := hcc411 0 _ rfl
                      rw [Nat.add_zero, show ((Kd.slice 78 k78)).sz = 1 from rfl, Nat.mul_one] at hv411_0
                      replace hv411_0 := Option.some.inj (hv411_0.symm.trans hx411_0)
                      injection hv411_0 with hva_ hvn_ hvc_
                      rw [hva_] at ge411_0
                      rw [hvc_] at ul411_0
                      have HL411_0 := Aside0.mk (show Kd.V k78 78 _ w.heap.size _ _ (rd_L7 t404 x6_1) from Kd.V_mk ul411_0 ge411_0)
                      clear hva_ hvn_ hvc_ ge411_0 ul411_0
                      clear hcc411 hce411
                      have HR411_0 := Aside0.mk hi411_0
                      have HC411_0 := Aside0.mk hl411_0
                      clear hi411_0 hl411_0
                      replace p411 := eq_true p411
                      replace q411 := eq_true q411
                      have ea_ := Option.some.inj (hx410_0.symm.trans hx411_0)
                      injection ea_ with ea_ en_ ec_
                      subst ea_
                      subst ec_
                      clear en_
                      have p412 : 0 ≤ (x6_1 : Int) := of_decide_eq_true (by first | (with_reducible assumption) | assumption)
                      have q412 : x6_1 < (t404.length : Int) := of_decide_eq_true (by first | (with_reducible assumption) | assumption)
                      obtain ⟨ad412, A412_0, c412_0, e412, hx412_0, hl412_0, hi412_0⟩ := at_L7 (Kd.N_reads' HO_4.out).2.2 x6_1 p412 q412
                      obtain rfl : ad410 = ad412 := (by injection e412)
                      obtain ⟨ce412, hce412, hMe412, hcc412⟩ := Kd.N_get HO_4.out [] x6_1 p412 (by first | exact q412 | exact of_decide_eq_true (by first | (with_reducible assumption) | assumption) | (have e_ := (Kd.N_reads' HO_4.out).1; omega))
                      obtain ⟨ua412_0, uc412_0, rfl, ul412_0, ge412_0⟩ := Kd.FK_slice_open hMe412
                      have hv412_0 := hcc412 0 _ rfl
                      rw [Nat.add_zero, show ((Kd.slice 78 k78)).sz = 1 from rfl, Nat.mul_one] at hv412_0
                      replace hv412_0 := Option.some.inj (hv412_0.symm.trans hx412_0)
                      injection hv412_0 with hva_ hvn_ hvc_
                      rw [hva_] at ge412_0
                      rw [hvc_] at ul412_0
                      have HL412_0 := Aside0.mk (show Kd.V k78 78 _ w.heap.size _ _ (rd_L7 t404 x6_1) from Kd.V_mk ul412_0 ge412_0)
                      clear hva_ hvn_ hvc_ ge412_0 ul412_0
                      clear hcc412 hce412
                      have HR412_0 := Aside0.mk hi412_0
                      have HC412_0 := Aside0.mk hl412_0
                      clear hi412_0 hl412_0
                      replace p412 := eq_true p412
                      replace q412 := eq_true q412
                      have ea_ := Option.some.inj (hx410_0.symm.trans hx412_0)
                      injection ea_ with ea_ en_ ec_
                      subst ea_
                      subst ec_
                      clear en_
                      have p413 : 0 ≤ (x6_1 : Int) := of_decide_eq_true (by first | (with_reducible assumption) | assumption)
                      have q413 : x6_1 < (t404.length : Int) := of_decide_eq_true (by first | (with_reducible assumption) | assumption)
                      obtain ⟨ad413, A413_0, c413_0, e413, hx413_0, hl413_0, hi413_0⟩ := at_L7 (Kd.N_reads' HO_4.out).2.2 x6_1 p413 q413
                      obtain rfl : ad410 = ad413 := (by injection e413)
                      obtain ⟨ce413, hce413, hMe413, hcc413⟩ := Kd.N_get HO_4.out [] x6_1 p413 (by first | exact q413 | exact of_decide_eq_true (by first | (with_reducible assumption) | assumption) | (have e_ := (Kd.N_reads' HO_4.out).1; omega))
                      obtain ⟨ua413_0, uc413_0, rfl, ul413_0, ge413_0⟩ := Kd.FK_slice_open hMe413
                      have hv413_0 := hcc413 0 _ rfl
                      rw [Nat.add_zero, show ((Kd.slice 78 k78)).sz = 1 from rfl, Nat.mul_one] at hv413_0
                      replace hv413_0 := Option.some.inj (hv413_0.symm.trans hx413_0)
                      injection hv413_0 with hva_ hvn_ hvc_
                      rw [hva_] at ge413_0
                      rw [hvc_] at ul413_0
                      have HL413_0 := Aside0.mk (show Kd.V k78 78 _ w.heap.size _ _ (rd_L7 t404 x6_1) from Kd.V_mk ul413_0 ge413_0)
                      clear hva_ hvn_ hvc_ ge413_0 ul413_0
                      clear hcc413 hce413
                      have HR413_0 := Aside0.mk hi413_0
                      have HC413_0 := Aside0.mk hl413_0
                      clear hi413_0 hl413_0
                      replace p413 := eq_true p413
                      replace q413 := eq_true q413
                      have ea_ := Option.some.inj (hx410_0.symm.trans hx413_0)
                      injection ea_ with ea_ en_ ec_
                      subst ea_
                      subst ec_
                      clear en_
                      go_wp2_with (first | ((with_reducible refine gate_builtin (b := .append) (xs := #[.tmp 50, .tmp 54]) rfl ?_); (try (refine gate_guard (by rfl) ?_; dsimp only)); at_builtin; refine Kd.R_append_rows k78 (w0 := w) w.heap.size rfl (.tmp 50) (.tmp 54) 54 78 (.agg #[(.int .i64 0), (.int .i64 0)]) 16 rfl Try.underlying54 info78 rfl (by decide) (by omega) u5 x5_1 (rd_L7 t404 x6_1) _ _ _ (fun _ => True) (fun _ => False) rfl rfl ?aO ?aR (fun _ _ h => h) (fun _ h => h.elim) ?aF ?aB ?aS ?aL ?_; (case aR => repeat (first | exact (by repeat (first | (with_reducible exact HR413_0.out) | (with_reducible refine Kd.C_alloc ?_ _) | (with_reducible refine Kd.C_drewN ?_ _) | (with_reducible refine Kd.C_drew ?_) | exact HR413_0.out)) | (with_reducible refine Kd.C_alloc ?_ _) | (with_reducible refine Kd.C_drewN ?_ _) | (with_reducible refine Kd.C_drew ?_))); (case aB => exact (by repeat (first | (with_reducible first | exact HB.out | apply below_alloc | apply pw_below_drewN | apply below_drew1) | exact HB.out))); (case aF => exact (fun _ _ => trivial)); (case aO => exact (by (with_reducible repeat (first | apply Kd.R_alloc | apply Kd.R_drewN | apply Kd.R_drew)); exact HO_5.out)); (case aS => exact (below_size (by repeat (first | (with_reducible first | exact HB.out | apply below_alloc | apply pw_below_drewN | apply below_drew1) | exact HB.out)))); (case aL => have := LMc18.out; omega); intro v415 w20 ho hb hg hat; rw [← Ny414.out] at ho; have n0_ := Aside0.mk (Kd.N_afterv (ok := (fun _ => True)) (by (with_reducible repeat (first | apply Kd.N_alloc | apply Kd.N_drewN | apply Kd.N_drew)); exact Kd.N_mono HO_4.out (fun _ hk => ⟨trivial, hk⟩)) hg hat); have n1_ := Aside0.mk (Kd.V_afterv (ok := (fun k_ => some k_ ≠ (.slice (some ad410) t404.length co19 : Value).ownBlock)) (by (with_reducible repeat (first | apply Kd.V_alloc | apply Kd.V_drewN | apply Kd.V_drew)); exact Kd.V_mono HL410_0.out (fun _ hk => ⟨hk.2, hk.1⟩)) hg hat); have n2_ := Aside0.mk (Kd.V_afterv (ok := (fun k_ => some k_ ≠ (.slice (some ad410) t404.length co19 : Value).ownBlock)) (by (with_reducible repeat (first | apply Kd.V_alloc | apply Kd.V_drewN | apply Kd.V_drew)); exact Kd.V_mono HL411_0.out (fun _ hk => ⟨hk.2, hk.1⟩)) hg hat); have n3_ := Aside0.mk (Kd.V_afterv (ok := (fun k_ => some k_ ≠ (.slice (some ad410) t404.length co19 : Value).ownBlock)) (by (with_reducible repeat (first | apply Kd.V_alloc | apply Kd.V_drewN | apply Kd.V_drew)); exact Kd.V_mono HL412_0.out (fun _ hk => ⟨hk.2, hk.1⟩)) hg hat); have n4_ := Aside0.mk (Kd.V_afterv (ok := (fun k_ => some k_ ≠ (.slice (some ad410) t404.length co19 : Value).ownBlock)) (by (with_reducible repeat (first | apply Kd.V_alloc | apply Kd.V_drewN | apply Kd.V_drew)); exact Kd.V_mono HL413_0.out (fun _ hk => ⟨hk.2, hk.1⟩)) hg hat); have n5_ := Aside0.mk (hb); have n6_ := Aside0.mk (ho); clear HO_4; clear HL410_0; clear HL411_0; clear HL412_0; clear HL413_0; clear HB; clear HO_5; have HO_4 := n0_; have HL410_0 := n1_; have HL411_0 := n2_; have HL412_0 := n3_; have HL413_0 := n4_; have HB := n5_; have HO416 := n6_; clear n0_ n1_ n2_ n3_ n4_ n5_ n6_; clear ho hb hg hat))
                      go_roundg k1
                      case measure => have := HK1.out; omega
                      case rel => exact ⟨(y414), (wrap64 (x6_1 + 1)), (by first | rfl | (simp; done) | (simp [*]; done)), H', ⟨by have := HK1.out; omega⟩, ⟨by (with_reducible repeat (first | apply Kd.N_alloc | apply Kd.N_drewN | apply Kd.N_drew)); exact Kd.N_mono HO_4.out (fun _ hk => hk.2)⟩, ⟨by (with_reducible repeat (first | apply Kd.R_alloc | apply Kd.R_drewN | apply Kd.R_drew)); exact HO416.out⟩, ⟨by repeat (first | (with_reducible first | exact HB.out | apply below_alloc | apply pw_below_drewN | apply below_drew1) | exact HB.out)⟩⟩
                    · rw [if_neg c18] at H
                      exact absurd H (by simp)
                  · rw [if_neg c17] at H
                    have c17b0 : (((rd_L7 t404 x6_1).length : Int) == 3) = false := beq_eq_false_iff_ne.mpr c17
                    have c17b1 : (((rd_L7 t404 x6_1).length : Int) != 3) = true := bne_iff_ne.mpr c17
                    obtain rfl := Option.some.inj H
                    obtain ⟨Ao21, co21, eo21⟩ := Kd.N_slice HO_4.out
                    subst eo21
                    have p410 : 0 ≤ (x6_1 : Int) := of_decide_eq_true (by first | (with_reducible assumption) | assumption)
                    have q410 : x6_1 < (t404.length : Int) := of_decide_eq_true (by first | (with_reducible assumption) | assumption)
                    obtain ⟨ad410, A410_0, c410_0, e410, hx410_0, hl410_0, hi410_0⟩ := at_L7 (Kd.N_reads' HO_4.out).2.2 x6_1 p410 q410
                    cases e410
                    obtain ⟨ce410, hce410, hMe410, hcc410⟩ := Kd.N_get HO_4.out [] x6_1 p410 (by first | exact q410 | exact of_decide_eq_true (by first | (with_reducible assumption) | assumption) | (have e_ := (Kd.N_reads' HO_4.out).1; omega))
                    obtain ⟨ua410_0, uc410_0, rfl, ul410_0, ge410_0⟩ := Kd.FK_slice_open hMe410
                    have hv410_0 := hcc410 0 _ rfl
                    rw [Nat.add_zero, show ((Kd.slice 78 k78)).sz = 1 from rfl, Nat.mul_one] at hv410_0
                    replace hv410_0 := Option.some.inj (hv410_0.symm.trans hx410_0)
                    injection hv410_0 with hva_ hvn_ hvc_
                    rw [hva_] at ge410_0
                    rw [hvc_] at ul410_0
                    have HL410_0 := Aside0.mk (show Kd.V k78 78 _ w.heap.size _ _ (rd_L7 t404 x6_1) from Kd.V_mk ul410_0 ge410_0)
                    clear hva_ hvn_ hvc_ ge410_0 ul410_0
                    clear hcc410 hce410
                    have HR410_0 := Aside0.mk hi410_0
                    have HC410_0 := Aside0.mk hl410_0
                    clear hi410_0 hl410_0
                    replace p410 := eq_true p410
                    replace q410 := eq_true q410
                    have p411 : 0 ≤ (x6_1 : Int) := of_decide_eq_true (by first | (with_reducible assumption) | assumption)
                    have q411 : x6_1 < (t404.length : Int) := of_decide_eq_true (by first | (with_reducible assumption) | assumption)
                    obtain ⟨ad411, A411_0, c411_0, e411, hx411_0, hl411_0, hi411_0⟩ := at_L7 (Kd.N_reads' HO_4.out).2.2 x6_1 p411 q411
                    obtain rfl : ad410 = ad411 := (by injection e411)
                    obtain ⟨ce411, hce411, hMe411, hcc411⟩ := Kd.N_get HO_4.out [] x6_1 p411 (by first | exact q411 | exact of_decide_eq_true (by first | (with_reducible assumption) | assumption) | (have e_ := (Kd.N_reads' HO_4.out).1; omega))
                    obtain ⟨ua411_0, uc411_0, rfl, ul411_0, ge411_0⟩ := Kd.FK_slice_open hMe411
                    have hv411_0 := hcc411 0 _ rfl
                    rw [Nat.add_zero, show ((Kd.slice 78 k78)).sz = 1 from rfl, Nat.mul_one] at hv411_0
                    replace hv411_0 := Option.some.inj (hv411_0.symm.trans hx411_0)
                    injection hv411_0 with hva_ hvn_ hvc_
                    rw [hva_] at ge411_0
                    rw [hvc_] at ul411_0
                    have HL411_0 := Aside0.mk (show Kd.V k78 78 _ w.heap.size _ _ (rd_L7 t404 x6_1) from Kd.V_mk ul411_0 ge411_0)
                    clear hva_ hvn_ hvc_ ge411_0 ul411_0
                    clear hcc411 hce411
                    have HR411_0 := Aside0.mk hi411_0
                    have HC411_0 := Aside0.mk hl411_0
                    clear hi411_0 hl411_0
                    replace p411 := eq_true p411
                    replace q411 := eq_true q411
                    have ea_ := Option.some.inj (hx410_0.symm.trans hx411_0)
                    injection ea_ with ea_ en_ ec_
                    subst ea_
                    subst ec_
                    clear en_
                    have p412 : 0 ≤ (x6_1 : Int) := of_decide_eq_true (by first | (with_reducible assumption) | assumption)
                    have q412 : x6_1 < (t404.length : Int) := of_decide_eq_true (by first | (with_reducible assumption) | assumption)
                    obtain ⟨ad412, A412_0, c412_0, e412, hx412_0, hl412_0, hi412_0⟩ := at_L7 (Kd.N_reads' HO_4.out).2.2 x6_1 p412 q412
                    obtain rfl : ad410 = ad412 := (by injection e412)
                    obtain ⟨ce412, hce412, hMe412, hcc412⟩ := Kd.N_get HO_4.out [] x6_1 p412 (by first | exact q412 | exact of_decide_eq_true (by first | (with_reducible assumption) | assumption) | (have e_ := (Kd.N_reads' HO_4.out).1; omega))
                    obtain ⟨ua412_0, uc412_0, rfl, ul412_0, ge412_0⟩ := Kd.FK_slice_open hMe412
                    have hv412_0 := hcc412 0 _ rfl
                    rw [Nat.add_zero, show ((Kd.slice 78 k78)).sz = 1 from rfl, Nat.mul_one] at hv412_0
                    replace hv412_0 := Option.some.inj (hv412_0.symm.trans hx412_0)
                    injection hv412_0 with hva_ hvn_ hvc_
                    rw [hva_] at ge412_0
                    rw [hvc_] at ul412_0
                    have HL412_0 := Aside0.mk (show Kd.V k78 78 _ w.heap.size _ _ (rd_L7 t404 x6_1) from Kd.V_mk ul412_0 ge412_0)
                    clear hva_ hvn_ hvc_ ge412_0 ul412_0
                    clear hcc412 hce412
                    have HR412_0 := Aside0.mk hi412_0
                    have HC412_0 := Aside0.mk hl412_0
                    clear hi412_0 hl412_0
                    replace p412 := eq_true p412
                    replace q412 := eq_true q412
                    have ea_ := Option.some.inj (hx410_0.symm.trans hx412_0)
                    injection ea_ with ea_ en_ ec_
                    subst ea_
                    subst ec_
                    clear en_
                    go_wp2
                    go_ret
                    exact ⟨by first | rfl | (simp [errW_none, errW_some] <;> rfl) | (simp [*, errW_none, errW_some] <;> rfl), by repeat (first | (with_reducible first | exact HB.out | apply below_alloc | apply pw_below_drewN | apply below_drew1) | exact HB.out)⟩
                · rw [if_neg c16] at H
                  have c16b0 : decide (x6_1 < (wrap64 ((t404.length : Int) - 1))) = false := decide_eq_false c16
                  clear c16
                  by_cases c22 : x5_1.length + (rd_L7 t404 x6_1).length < 8796093022208
                  · rw [if_pos c22] at H
                    have LMc22 := Aside0.mk c22
                    clear c22
                    obtain ⟨y418, hy418⟩ : ∃ y_ : List (S78), y_ = (x5_1 ++ (rd_L7 t404 x6_1)) := ⟨_, rfl⟩
                    replace H : (assartlaw04_NodeSplits.l0 k1 l0 t403 t404 y418 (wrap64 (x6_1 + 1))) = some r := by first | (rw [hy418]; with_reducible exact H) | (have H2_ := (Option.bind_some _ _).symm.trans H; rw [hy418]; with_reducible exact H2_) | (have H2_ := (Option.bind_some _ _).symm.trans H; with_reducible exact H2_) | with_reducible exact H | (rw [hy418]; exact H) | exact H
                    have Ny418 := Aside0.mk hy418
                    clear hy418
                    have H' := Aside0.mk H
                    clear H
                    obtain ⟨Ao23, co23, eo23⟩ := Kd.N_slice HO_4.out
                    subst eo23
                    have p410 : 0 ≤ (x6_1 : Int) := of_decide_eq_true (by first | (with_reducible assumption) | assumption)
                    have q410 : x6_1 < (t404.length : Int) := of_decide_eq_true (by first | (with_reducible assumption) | assumption)
                    obtain ⟨ad410, A410_0, c410_0, e410, hx410_0, hl410_0, hi410_0⟩ := at_L7 (Kd.N_reads' HO_4.out).2.2 x6_1 p410 q410
                    cases e410
                    obtain ⟨ce410, hce410, hMe410, hcc410⟩ := Kd.N_get HO_4.out [] x6_1 p410 (by first | exact q410 | exact of_decide_eq_true (by first | (with_reducible assumption) | assumption) | (have e_ := (Kd.N_reads' HO_4.out).1; omega))
                    obtain ⟨ua410_0, uc410_0, rfl, ul410_0, ge410_0⟩ := Kd.FK_slice_open hMe410
                    have hv410_0 := hcc410 0 _ rfl
                    rw [Nat.add_zero, show ((Kd.slice 78 k78)).sz = 1 from rfl, Nat.mul_one] at hv410_0
                    replace hv410_0 := Option.some.inj (hv410_0.symm.trans hx410_0)
                    injection hv410_0 with hva_ hvn_ hvc_
                    rw [hva_] at ge410_0
                    rw [hvc_] at ul410_0
                    have HL410_0 := Aside0.mk (show Kd.V k78 78 _ w.heap.size _ _ (rd_L7 t404 x6_1) from Kd.V_mk ul410_0 ge410_0)
                    clear hva_ hvn_ hvc_ ge410_0 ul410_0
                    clear hcc410 hce410
                    have HR410_0 := Aside0.mk hi410_0
                    have HC410_0 := Aside0.mk hl410_0
                    clear hi410_0 hl410_0
                    replace p410 := eq_true p410
                    replace q410 := eq_true q410
                    have p411 : 0 ≤ (x6_1 : Int) := of_decide_eq_true (by first | (with_reducible assumption) | assumption)
                    have q411 : x6_1 < (t404.length : Int) := of_decide_eq_true (by first | (with_reducible assumption) | assumption)
                    obtain ⟨ad411, A411_0, c411_0, e411, hx411_0, hl411_0, hi411_0⟩ := at_L7 (Kd.N_reads' HO_4.out).2.2 x6_1 p411 q411
                    obtain rfl : ad410 = ad411 := (by injection e411)
                    obtain ⟨ce411, hce411, hMe411, hcc411⟩ := Kd.N_get HO_4.out [] x6_1 p411 (by first | exact q411 | exact of_decide_eq_true (by first | (with_reducible assumption) | assumption) | (have e_ := (Kd.N_reads' HO_4.out).1; omega))
                    obtain ⟨ua411_0, uc411_0, rfl, ul411_0, ge411_0⟩ := Kd.FK_slice_open hMe411
                    have hv411_0 := hcc411 0 _ rfl
                    rw [Nat.add_zero, show ((Kd.slice 78 k78)).sz = 1 from rfl, Nat.mul_one] at hv411_0
                    replace hv411_0 := Option.some.inj (hv411_0.symm.trans hx411_0)
                    injection hv411_0 with hva_ hvn_ hvc_
                    rw [hva_] at ge411_0
                    rw [hvc_] at ul411_0
                    have HL411_0 := Aside0.mk (show Kd.V k78 78 _ w.heap.size _ _ (rd_L7 t404 x6_1) from Kd.V_mk ul411_0 ge411_0)
                    clear hva_ hvn_ hvc_ ge411_0 ul411_0
                    clear hcc411 hce411
                    have HR411_0 := Aside0.mk hi411_0
                    have HC411_0 := Aside0.mk hl411_0
                    clear hi411_0 hl411_0
                    replace p411 := eq_true p411
                    replace q411 := eq_true q411
                    have ea_ := Option.some.inj (hx410_0.symm.trans hx411_0)
                    injection ea_ with ea_ en_ ec_
                    subst ea_
                    subst ec_
                    clear en_
                    have p417 : 0 ≤ (x6_1 : Int) := of_decide_eq_true (by first | (with_reducible assumption) | assumption)
                    have q417 : x6_1 < (t404.length : Int) := of_decide_eq_true (by first | (with_reducible assumption) | assumption)
                    obtain ⟨ad417, A417_0, c417_0, e417, hx417_0, hl417_0, hi417_0⟩ := at_L7 (Kd.N_reads' HO_4.out).2.2 x6_1 p417 q417
                    obtain rfl : ad410 = ad417 := (by injection e417)
                    obtain ⟨ce417, hce417, hMe417, hcc417⟩ := Kd.N_get HO_4.out [] x6_1 p417 (by first | exact q417 | exact of_decide_eq_true (by first | (with_reducible assumption) | assumption) | (have e_ := (Kd.N_reads' HO_4.out).1; omega))
                    obtain ⟨ua417_0, uc417_0, rfl, ul417_0, ge417_0⟩ := Kd.FK_slice_open hMe417
                    have hv417_0 := hcc417 0 _ rfl
                    rw [Nat.add_zero, show ((Kd.slice 78 k78)).sz = 1 from rfl, Nat.mul_one] at hv417_0
                    replace hv417_0 := Option.some.inj (hv417_0.symm.trans hx417_0)
                    injection hv417_0 with hva_ hvn_ hvc_
                    rw [hva_] at ge417_0
                    rw [hvc_] at ul417_0
                    have HL417_0 := Aside0.mk (show Kd.V k78 78 _ w.heap.size _ _ (rd_L7 t404 x6_1) from Kd.V_mk ul417_0 ge417_0)
                    clear hva_ hvn_ hvc_ ge417_0 ul417_0
                    clear hcc417 hce417
                    have HR417_0 := Aside0.mk hi417_0
                    have HC417_0 := Aside0.mk hl417_0
                    clear hi417_0 hl417_0
                    replace p417 := eq_true p417
                    replace q417 := eq_true q417
                    have ea_ := Option.some.inj (hx410_0.symm.trans hx417_0)
                    injection ea_ with ea_ en_ ec_
                    subst ea_
                    subst ec_
                    clear en_
                    go_wp2_with (first | ((with_reducible refine gate_builtin (b := .append) (xs := #[.tmp 50, .tmp 54]) rfl ?_); (try (refine gate_guard (by rfl) ?_; dsimp only)); at_builtin; refine Kd.R_append_rows k78 (w0 := w) w.heap.size rfl (.tmp 50) (.tmp 54) 54 78 (.agg #[(.int .i64 0), (.int .i64 0)]) 16 rfl Try.underlying54 info78 rfl (by decide) (by omega) u5 x5_1 (rd_L7 t404 x6_1) _ _ _ (fun _ => True) (fun _ => False) rfl rfl ?aO ?aR (fun _ _ h => h) (fun _ h => h.elim) ?aF ?aB ?aS ?aL ?_; (case aR => repeat (first | exact (by repeat (first | (with_reducible exact HR417_0.out) | (with_reducible refine Kd.C_alloc ?_ _) | (with_reducible refine Kd.C_drewN ?_ _) | (with_reducible refine Kd.C_drew ?_) | exact HR417_0.out)) | (with_reducible refine Kd.C_alloc ?_ _) | (with_reducible refine Kd.C_drewN ?_ _) | (with_reducible refine Kd.C_drew ?_))); (case aB => exact (by repeat (first | (with_reducible first | exact HB.out | apply below_alloc | apply pw_below_drewN | apply below_drew1) | exact HB.out))); (case aF => exact (fun _ _ => trivial)); (case aO => exact (by (with_reducible repeat (first | apply Kd.R_alloc | apply Kd.R_drewN | apply Kd.R_drew)); exact HO_5.out)); (case aS => exact (below_size (by repeat (first | (with_reducible first | exact HB.out | apply below_alloc | apply pw_below_drewN | apply below_drew1) | exact HB.out)))); (case aL => have := LMc22.out; omega); intro v419 w24 ho hb hg hat; rw [← Ny418.out] at ho; have n0_ := Aside0.mk (Kd.N_afterv (ok := (fun _ => True)) (by (with_reducible repeat (first | apply Kd.N_alloc | apply Kd.N_drewN | apply Kd.N_drew)); exact Kd.N_mono HO_4.out (fun _ hk => ⟨trivial, hk⟩)) hg hat); have n1_ := Aside0.mk (Kd.V_afterv (ok := (fun k_ => some k_ ≠ (.slice (some ad410) t404.length co23 : Value).ownBlock)) (by (with_reducible repeat (first | apply Kd.V_alloc | apply Kd.V_drewN | apply Kd.V_drew)); exact Kd.V_mono HL410_0.out (fun _ hk => ⟨hk.2, hk.1⟩)) hg hat); have n2_ := Aside0.mk (Kd.V_afterv (ok := (fun k_ => some k_ ≠ (.slice (some ad410) t404.length co23 : Value).ownBlock)) (by (with_reducible repeat (first | apply Kd.V_alloc | apply Kd.V_drewN | apply Kd.V_drew)); exact Kd.V_mono HL411_0.out (fun _ hk => ⟨hk.2, hk.1⟩)) hg hat); have n3_ := Aside0.mk (Kd.V_afterv (ok := (fun k_ => some k_ ≠ (.slice (some ad410) t404.length co23 : Value).ownBlock)) (by (with_reducible repeat (first | apply Kd.V_alloc | apply Kd.V_drewN | apply Kd.V_drew)); exact Kd.V_mono HL417_0.out (fun _ hk => ⟨hk.2, hk.1⟩)) hg hat); have n4_ := Aside0.mk (hb); have n5_ := Aside0.mk (ho); clear HO_4; clear HL410_0; clear HL411_0; clear HL417_0; clear HB; clear HO_5; have HO_4 := n0_; have HL410_0 := n1_; have HL411_0 := n2_; have HL417_0 := n3_; have HB := n4_; have HO420 := n5_; clear n0_ n1_ n2_ n3_ n4_ n5_; clear ho hb hg hat))
                    go_roundg k1
                    case measure => have := HK1.out; omega
                    case rel => exact ⟨(y418), (wrap64 (x6_1 + 1)), (by first | rfl | (simp; done) | (simp [*]; done)), H', ⟨by have := HK1.out; omega⟩, ⟨by (with_reducible repeat (first | apply Kd.N_alloc | apply Kd.N_drewN | apply Kd.N_drew)); exact Kd.N_mono HO_4.out (fun _ hk => hk.2)⟩, ⟨by (with_reducible repeat (first | apply Kd.R_alloc | apply Kd.R_drewN | apply Kd.R_drew)); exact HO420.out⟩, ⟨by repeat (first | (with_reducible first | exact HB.out | apply below_alloc | apply pw_below_drewN | apply below_drew1) | exact HB.out)⟩⟩
                  · rw [if_neg c22] at H
                    exact absurd H (by simp)
          · rw [if_neg c11] at H
            exact absurd H (by simp)
        · rw [if_neg c10] at H
          have c10b0 : decide (x6_1 < (t404.length : Int)) = false := decide_eq_false c10
          clear c10
          by_cases c25 : t403 = true
          · subst c25
            have H1 : ((assartref04_Items.f k1 x5_1 l0).bind fun t421 => (if t421 = true then (some (((t404.length : Int) == 0) == ((l0.length : Int) == 0))) else (some false))) = some r := by rw [if_pos rfl] at H; exact H
            clear H
            have H := H1
            clear H1
            replace H := Option.bind_eq_some_iff.mp H
            obtain ⟨t421, A260, H⟩ := H
            replace H : (if t421 = true then (some (((t404.length : Int) == 0) == ((l0.length : Int) == 0))) else (some false)) = some r := H
            have A26 := Aside0.mk A260
            clear A260
            by_cases c27 : t421 = true
            · subst c27
              have H1 : (some (((t404.length : Int) == 0) == ((l0.length : Int) == 0))) = some r := by rw [if_pos rfl] at H; exact H
              clear H
              have H := H1
              clear H1
              obtain rfl := Option.some.inj H
              obtain ⟨Ao28, co28, eo28⟩ := Kd.N_slice HO_4.out
              subst eo28
              obtain ⟨Ao29, co29, eo29⟩ := Kd.R_slice HO_5.out
              subst eo29
              go_wp2_with (first | (go_at_call 40; (with_reducible refine (assartref04_Items.calls k1 _ _ x5_1 _ _ l0 true _ ?side1 ?side2 ?side3 ?side4 A26.out).mono ?_); (case side1 => repeat (first | exact (Kd.R_reads' HO_5.out).2.2 | (with_reducible refine Kd.C_alloc ?_ _) | (with_reducible refine Kd.C_drewN ?_ _) | (with_reducible refine Kd.C_drew ?_))); (case side2 => exact (Kd.R_reads' HO_5.out).2.1); (case side3 => repeat (first | exact (Kd.C_below HR0.out HB.out) | (with_reducible refine Kd.C_alloc ?_ _) | (with_reducible refine Kd.C_drewN ?_ _) | (with_reducible refine Kd.C_drew ?_))); (case side4 => exact HC0.out); rintro e w' ⟨rfl, ⟨nd, rfl⟩⟩))
              go_ret
              exact ⟨by first | rfl | (simp [errW_none, errW_some] <;> rfl) | (simp [*, errW_none, errW_some] <;> rfl), by repeat (first | (with_reducible first | exact HB.out | apply below_alloc | apply pw_below_drewN | apply below_drew1) | exact HB.out)⟩
            · replace c27 := Bool.eq_false_iff.mpr c27
              subst c27
              have H1 : (some false) = some r := by rw [if_neg (show ¬ (false = true) by decide)] at H; exact H
              clear H
              have H := H1
              clear H1
              obtain rfl := Option.some.inj H
              obtain ⟨Ao30, co30, eo30⟩ := Kd.N_slice HO_4.out
              subst eo30
              obtain ⟨Ao31, co31, eo31⟩ := Kd.R_slice HO_5.out
              subst eo31
              go_wp2_with (first | (go_at_call 40; (with_reducible refine (assartref04_Items.calls k1 _ _ x5_1 _ _ l0 false _ ?side1 ?side2 ?side3 ?side4 A26.out).mono ?_); (case side1 => repeat (first | exact (Kd.R_reads' HO_5.out).2.2 | (with_reducible refine Kd.C_alloc ?_ _) | (with_reducible refine Kd.C_drewN ?_ _) | (with_reducible refine Kd.C_drew ?_))); (case side2 => exact (Kd.R_reads' HO_5.out).2.1); (case side3 => repeat (first | exact (Kd.C_below HR0.out HB.out) | (with_reducible refine Kd.C_alloc ?_ _) | (with_reducible refine Kd.C_drewN ?_ _) | (with_reducible refine Kd.C_drew ?_))); (case side4 => exact HC0.out); rintro e w' ⟨rfl, ⟨nd, rfl⟩⟩))
              go_ret
              exact ⟨by first | rfl | (simp [errW_none, errW_some] <;> rfl) | (simp [*, errW_none, errW_some] <;> rfl), by repeat (first | (with_reducible first | exact HB.out | apply below_alloc | apply pw_below_drewN | apply below_drew1) | exact HB.out)⟩
          · replace c25 := Bool.eq_false_iff.mpr c25
            subst c25
            have H1 : (some false) = some r := by rw [if_neg (show ¬ (false = true) by decide)] at H; exact H
            clear H
            have H := H1
            clear H1
            obtain rfl := Option.some.inj H
            obtain ⟨Ao32, co32, eo32⟩ := Kd.N_slice HO_4.out
            subst eo32
            go_wp2
            go_ret
            exact ⟨by first | rfl | (simp [errW_none, errW_some] <;> rfl) | (simp [*, errW_none, errW_some] <;> rfl), by repeat (first | (with_reducible first | exact HB.out | apply below_alloc | apply pw_below_drewN | apply below_drew1) | exact HB.out)⟩

end Go.Proofs.Ythjnkapkhphpeaa.P
end
section
/- Arguments that read as data, opened kind by kind: what the printed functions ask of their parameters. -/
namespace Go.Proofs.Ythjnkapkhphpeaa.P
open Go.RowKit Go.Proofs.YthjnkapkhphpeaaW.PrintWords Go.Proofs.YthjnkapkhphpeaaW.PrintLast Go.Proofs.YthjnkapkhphpeaaW.PrintMore
set_option linter.unusedVariables false
set_option linter.unusedSimpArgs false
/-- Whatever reads at type t is a value of kind d, and such as ok says. -/
structure Opens {α : Type} (P : Program) (t : TypeId) (d : Kd α) (ok : α → Prop) : Prop where
  sz : P.cellsOf t = d.sz
  op : ∀ {H : Type} {enc : TypeId × Value → H} {W : World} {base : Nat} {spare : Nat → Bool} {held : Bool} {fuel : Nat} {cs : List Value} {y : DataW H × List MemPlace}, DataW.trod enc P W base spare held fuel t cs = some y → (DataW.weights P t y.1).all (· ≤ reachBytes) = true → ∃ x, d.K W x cs ∧ ok x
theorem Opens.int {P : Program} {t : TypeId} {k : IntKind} (h : P.underlying t = some (.int k)) (hs : P.cellsOf t = 1) : Opens P t (Kd.int k) (fun n => (Lit.int k n).wf = true) :=
  ⟨hs, fun hy _ => by
    obtain ⟨n, rfl, _, hw⟩ := DataW.trod_int h hy
    exact ⟨n, rfl, hw⟩⟩
theorem Opens.bool {P : Program} {t : TypeId} (h : P.underlying t = some .bool) (hs : P.cellsOf t = 1) : Opens P t Kd.bool (fun _ => True) :=
  ⟨hs, fun hy _ => by
    obtain ⟨b, rfl, _⟩ := DataW.trod_bool h hy
    exact ⟨b, rfl, trivial⟩⟩
theorem Opens.string {P : Program} {t : TypeId} (h : P.underlying t = some .string) (hs : P.cellsOf t = 1) : Opens P t Kd.string (fun s => s.size ≤ 140737488351232) :=
  ⟨hs, fun hy hw => by
    obtain ⟨s, rfl, rfl, _⟩ := DataW.trod_string h hy
    refine ⟨s, rfl, ?_⟩
    have := hw
    simp [DataW.weights, reachBytes] at this
    exact of_decide_eq_true this⟩
theorem choose_row {α : Type} {R : Nat → α → Prop} : ∀ n, (∀ i, i < n → ∃ x, R i x) → ∃ xs : List α, xs.length = n ∧ ∀ i x, xs[i]? = some x → R i x
  | 0, _ => ⟨[], rfl, fun i x h => by simp at h⟩
  | n + 1, h => by
    obtain ⟨xs, hl, hx⟩ := choose_row n (fun i hi => h i (by omega))
    obtain ⟨x, hr⟩ := h n (by omega)
    refine ⟨xs ++ [x], by simp [hl], fun i z hz => ?_⟩
    by_cases hi : i < n
    · rw [List.getElem?_append_left (by omega)] at hz
      exact hx i z hz
    · rw [List.getElem?_append_right (by omega)] at hz
      have : i - xs.length = 0 := by
        rcases Nat.eq_zero_or_pos (i - xs.length) with h0 | h0
        · exact h0
        · rw [List.getElem?_eq_none (by simp; omega)] at hz; cases hz
      rw [this] at hz
      simp at hz
      subst hz
      have : i = n := by omega
      rw [this]; exact hr
theorem weightsAll_mem {H : Type} {P : Program} {e : TypeId} : ∀ {ds : List (DataW H)}, (DataW.weightsAll P e ds).all (· ≤ reachBytes) = true → ∀ d ∈ ds, (DataW.weights P e d).all (· ≤ reachBytes) = true
  | [], _, d, hd => by cases hd
  | a :: ds, h, d, hd => by
    simp only [DataW.weightsAll, List.all_append, Bool.and_eq_true] at h
    rcases List.mem_cons.1 hd with rfl | hd
    · exact h.1
    · exact weightsAll_mem h.2 d hd
theorem Opens.slice {α : Type} {P : Program} {t e : TypeId} {d : Kd α} {ok : α → Prop} {B : Nat} (h : P.underlying t = some (.slice e)) (hs : P.cellsOf t = 1) (hB : P.bytesOf e = B) (he : Opens P e d ok) : Opens P t (Kd.slice e d) (fun xs => xs.length * B ≤ 140737488351232 ∧ ∀ x ∈ xs, ok x) :=
  ⟨hs, fun {H enc W base spare held fuel cs y} hy hw => by
    rcases DataW.trod_slice h hy with ⟨rfl, rfl⟩ | ⟨a, len, cap, elems, rest, n, rfl, rfl, rfl, hb, hl, hc, hel, hi, _, _⟩
    · exact ⟨[], ⟨none, 0, rfl, Nat.le_refl _, Kd.C_nil _ _⟩, by simp⟩
    · unfold DataW.weights at hw
      rw [h] at hw
      simp only [List.all_cons, List.all_append, Bool.and_eq_true, decide_eq_true_eq, hB, List.length_map] at hw
      obtain ⟨hw0, hw1, _⟩ := hw
      have hx : ∀ i, i < len → ∃ x, ok x ∧ ∃ c, c.length = d.sz ∧ d.K W x c ∧ W.cells? base (a.add (i * d.sz)) d.sz = some c := by
        intro i hlt
        have h1 := hi i hlt
        rw [List.getElem?_eq_getElem (by omega)] at h1
        obtain ⟨c, hc1, hc2⟩ := Option.bind_eq_some_iff.1 h1
        obtain ⟨x, hK, hok⟩ := he.op hc2 (weightsAll_mem hw1 _ (List.mem_map_of_mem (List.getElem_mem _)))
        rw [he.sz] at hc1
        exact ⟨x, hok, c, d.K_len hK, hK, hc1⟩
      obtain ⟨xs, hxl, hxs⟩ := choose_row len hx
      refine ⟨xs, ⟨some a, cap, by rw [hxl], by omega, rfl, ?_, fun hpos => ⟨a, rfl, fun j p hj => ?_⟩⟩, ?_, ?_⟩
      · simp only [maxLen] at hc; omega
      · obtain ⟨_, c, hcl, hK, hcc⟩ := hxs j p hj
        refine ⟨c, hcl, hK, fun i u hu => ?_⟩
        obtain ⟨_, _, hcell⟩ := World.cells?_some hcc
        have hi : i < d.sz := by rw [← hcl]; exact (List.getElem?_eq_some_iff.1 hu).1
        have := hcell i hi
        rw [Addr.add_add] at this
        rw [this, hu]
      · rw [hxl, ← hel]
        refine Nat.le_trans (Nat.mul_le_mul_right _ (Nat.le_add_right _ _)) hw0
      · intro x hx
        obtain ⟨i, hlt, rfl⟩ := List.getElem_of_mem hx
        exact (hxs i _ (List.getElem?_eq_getElem hlt)).1⟩
theorem weights_at {H : Type} {P : Program} : ∀ {ts : List TypeId} {ds : List (DataW H)} {j : Nat} {t : TypeId} {d : DataW H}, (DataW.weightsEach P ts ds).all (· ≤ reachBytes) = true → ts[j]? = some t → ds[j]? = some d → (DataW.weights P t d).all (· ≤ reachBytes) = true
  | [], _, _, _, _, _, ht, _ => by simp at ht
  | _ :: _, [], _, _, _, _, _, hd => by simp at hd
  | t0 :: ts, d0 :: ds, 0, _, _, h, ht, hd => by
    simp only [List.getElem?_cons_zero, Option.some.injEq] at ht hd
    subst ht; subst hd
    simp only [DataW.weightsEach, List.all_append, Bool.and_eq_true] at h
    exact h.1
  | t0 :: ts, d0 :: ds, j + 1, _, _, h, ht, hd => by
    simp only [List.getElem?_cons_succ] at ht hd
    simp only [DataW.weightsEach, List.all_append, Bool.and_eq_true] at h
    exact weights_at h.2 ht hd
/-- A struct's fields from a place on. -/
structure OpensFs {α : Type} (P : Program) (fs : List Field) (off : Nat) (d : Kd α) (ok : α → Prop) : Prop where
  op : ∀ {H : Type} {enc : TypeId × Value → H} {W : World} {base : Nat} {spare : Nat → Bool} {held : Bool} {fuel : Nat} {cs : List Value} {ys : List (DataW H × List MemPlace)},
    (∀ (i : Nat) (f : Field), fs[i]? = some f → DataW.trod enc P W base spare held fuel f.type ((cs.drop f.offset).take (P.cellsOf f.type)) = ys[i]?) → ys.length = fs.length →
    (DataW.weightsEach P (fs.map (·.type)) (ys.map (·.1))).all (· ≤ reachBytes) = true → cs.length = off + d.sz → ∃ x, d.K W x (cs.drop off) ∧ ok x
theorem OpensFs.one {α : Type} {P : Program} {f : Field} {t : TypeId} {off : Nat} {d : Kd α} {ok : α → Prop} (ht : f.type = t) (hoff : f.offset = off) (h : Opens P t d ok) : OpensFs P [f] off d ok :=
  ⟨fun {H enc W base spare held fuel cs ys} hy hl hw hcs => by
    obtain ⟨y, rfl⟩ : ∃ y, ys = [y] := by
      cases ys with
      | nil => simp at hl
      | cons y ys => cases ys with
        | nil => exact ⟨y, rfl⟩
        | cons => simp at hl
    have h0 := hy 0 f rfl
    simp only [List.getElem?_cons_zero] at h0
    simp only [List.map_cons, List.map_nil, DataW.weightsEach, List.append_nil] at hw
    rw [ht] at h0 hw
    obtain ⟨x, hK, hok⟩ := h.op h0 hw
    rw [hoff, List.take_of_length_le (by rw [List.length_drop, h.sz]; omega)] at hK
    exact ⟨x, hK, hok⟩⟩
theorem OpensFs.cons {α β : Type} {P : Program} {f : Field} {fs : List Field} {t : TypeId} {off n : Nat} {d : Kd α} {d' : Kd β} {ok : α → Prop} {ok' : β → Prop} (ht : f.type = t) (hoff : f.offset = off) (h : Opens P t d ok) (hn : off + d.sz = n) (hr : OpensFs P fs n d' ok') :
    OpensFs P (f :: fs) off (Kd.pair d d') (fun x => ok x.1 ∧ ok' x.2) :=
  ⟨fun {H enc W base spare held fuel cs ys} hy hl hw hcs => by
    cases ys with
    | nil => simp at hl
    | cons y ys =>
      have h0 := hy 0 f rfl
      simp only [List.getElem?_cons_zero] at h0
      simp only [List.map_cons, DataW.weightsEach, List.all_append, Bool.and_eq_true] at hw
      have hw0 := hw.1
      rw [ht] at h0 hw0
      obtain ⟨x, hK, hok⟩ := h.op h0 hw0
      have hsz : (Kd.pair d d').sz = d.sz + d'.sz := rfl
      rw [hsz] at hcs
      obtain ⟨x', hK', hok'⟩ := hr.op (fun i g hg => hy (i + 1) g (by simpa using hg)) (by simpa using hl) hw.2 (by omega)
      refine ⟨(x, x'), ⟨_, _, ?_, hK, hK'⟩, hok, hok'⟩
      rw [hoff, h.sz, ← hn, ← List.drop_drop]
      exact (List.take_append_drop _ _).symm⟩
theorem Opens.struct {α β : Type} {P : Program} {t : TypeId} {fs : Array Field} {fl : List Field} {d : Kd α} {ok : α → Prop} (f : β → α) (g : α → β) (hfg : ∀ x, f (g x) = x) (h : P.underlying t = some (.struct fs)) (hfl : fs.toList = fl) (hs : P.cellsOf t = d.sz) (ho : OpensFs P fl 0 d ok) :
    Opens P t (Kd.iso d f) (fun x => ok (f x)) :=
  ⟨hs, fun {H enc W base spare held fuel cs y} hy hw => by
    obtain ⟨xs, n, rfl, rfl, hcl, hxl, hx⟩ := DataW.trod_struct h hy
    unfold DataW.weights at hw
    rw [h] at hw
    simp only [hfl] at hw
    subst hfl
    obtain ⟨x, hK, hok⟩ := ho.op (ys := xs) (fun i f hf => hx i f (by simpa using hf)) (by simpa using hxl) hw (by omega)
    rw [List.drop_zero] at hK
    refine ⟨g x, ?_, ?_⟩
    · show d.K W (f (g x)) cs
      rw [hfg]; exact hK
    · rw [hfg]; exact hok⟩
end Go.Proofs.Ythjnkapkhphpeaa.P
end
section
-- Written by a program of this session (xprint.py, over the kit's print). Not trusted: Lean checks it.
namespace Go.Proofs.Ythjnkapkhphpeaa.P
open Go.RowKit Go.Proofs.YthjnkapkhphpeaaW.PrintWords Go.Proofs.YthjnkapkhphpeaaW.PrintLast Go.Proofs.YthjnkapkhphpeaaW.PrintMore
attribute [local go_sem] max2_int min2_int max_two min_two max_three min_three max_four min_four   -- for this text's walks alone
set_option linter.unusedVariables false
set_option linter.unusedSimpArgs false

def ok78 (x : S78) : Prop := (fun x => (Lit.int .i64 x).wf = true) x.f0 ∧ (fun x => (Lit.int .i64 x).wf = true) x.f1
theorem opens78 : Opens Try.prog 78 k78 ok78 := Opens.struct (fs := _) (fun x : S78 => (x.f0, x.f1)) (fun p => ⟨p.1, p.2⟩) (fun _ => rfl) Try.underlying78 rfl (by kernel_rfl) (OpensFs.cons rfl rfl (Opens.int Try.underlying3 (by kernel_rfl)) rfl (OpensFs.one rfl rfl (Opens.int Try.underlying3 (by kernel_rfl))))
def assartlaw04_NodeSplits.QPure : Prop := ∀ (l0 : List (S78)), (l0.length * 16 ≤ 140737488351232 ∧ ∀ x ∈ l0, ok78 x) → ∃ k, assartlaw04_NodeSplits.f k l0 = some true
end Go.Proofs.Ythjnkapkhphpeaa.P
end
section
-- Written by a program of this session (xprint.py, over the kit's print). Not trusted: Lean checks it.
namespace Go.Proofs.Ythjnkapkhphpeaa.P
open Go.RowKit Go.Proofs.YthjnkapkhphpeaaW.PrintWords Go.Proofs.YthjnkapkhphpeaaW.PrintLast Go.Proofs.YthjnkapkhphpeaaW.PrintMore
attribute [local go_sem] max2_int min2_int max_two min_two max_three min_three max_four min_four   -- for this text's walks alone
set_option linter.unusedVariables false
set_option linter.unusedSimpArgs false

/-! ### assartref04_Right: function 31 -/
mutual
def assartref04_Right.j0 : Nat → Bool → Bool → List (S78) → Option (Bool)
  | 0, _, _, _ => none
  | k + 1, x14, x201000, x201001 => if x14 = true then (some false) else (assartref04_Right.l0 k 0 x201000 x201001)
def assartref04_Right.l0 : Nat → Int → Bool → List (S78) → Option (Bool)
  | 0, _, _, _ => none
  | k + 1, x3, x201000, x201001 => if x3 < (x201001.length : Int) then (if 0 ≤ x3 then (if ((rd_T78 x201001 x3).f0) < 0 then (some false) else (if ((rd_T78 x201001 x3).f0) > 2147483647 then (some false) else (if ((rd_T78 x201001 x3).f1) < 0 then (some false) else (if ((rd_T78 x201001 x3).f1) > 2147483647 then (some false) else (if x3 > 0 then (if 0 ≤ (wrap64 (x3 - 1)) then (if (wrap64 (x3 - 1)) < (x201001.length : Int) then (if ((rd_T78 x201001 (wrap64 (x3 - 1))).f0) ≥ ((rd_T78 x201001 x3).f0) then (some false) else (assartref04_Right.l0 k (wrap64 (x3 + 1)) x201000 x201001)) else (none)) else (none)) else (assartref04_Right.l0 k (wrap64 (x3 + 1)) x201000 x201001)))))) else (none)) else (some true)
end
def assartref04_Right.f (k : Nat) (a0_0 : Bool) (l0_1 : List (S78)) : Option (Bool) := if (l0_1.length : Int) < 1 then (assartref04_Right.j0 k true a0_0 l0_1) else (assartref04_Right.j0 k (decide ((l0_1.length : Int) > 4)) a0_0 l0_1)
theorem assartref04_Right.mono_l : ∀ k, (∀ y0 y1 y2, LeO (assartref04_Right.j0 k y0 y1 y2) (assartref04_Right.j0 (k + 1) y0 y1 y2)) ∧ (∀ y0 y1 y2, LeO (assartref04_Right.l0 k y0 y1 y2) (assartref04_Right.l0 (k + 1) y0 y1 y2))
  | 0 => ⟨fun _ _ _ r h => by simp [assartref04_Right.j0] at h, fun _ _ _ r h => by simp [assartref04_Right.l0] at h⟩
  | k + 1 => by
    obtain ⟨ih0, ih1⟩ := assartref04_Right.mono_l k
    refine ⟨?_, ?_⟩
    · intro y0 y1 y2
      unfold assartref04_Right.j0
      repeat' first
      | (with_reducible exact ih0 _ _ _)
      | (with_reducible exact ih1 _ _ _)
      | (with_reducible exact LeO.refl _)
      | (with_reducible exact LeO.none _)
      | (with_reducible refine LeO.ite ?_ ?_)
      | (with_reducible refine LeO.bind ?_ (fun _ => ?_))
      | exact ih0 _ _ _
      | exact ih1 _ _ _
      | exact LeO.none _
      | refine LeO.ite ?_ ?_
      | refine LeO.bind ?_ (fun _ => ?_)
    · intro y0 y1 y2
      unfold assartref04_Right.l0
      repeat' first
      | (with_reducible exact ih0 _ _ _)
      | (with_reducible exact ih1 _ _ _)
      | (with_reducible exact LeO.refl _)
      | (with_reducible exact LeO.none _)
      | (with_reducible refine LeO.ite ?_ ?_)
      | (with_reducible refine LeO.bind ?_ (fun _ => ?_))
      | exact ih0 _ _ _
      | exact ih1 _ _ _
      | exact LeO.none _
      | refine LeO.ite ?_ ?_
      | refine LeO.bind ?_ (fun _ => ?_)
theorem assartref04_Right.mono : ∀ a0 a1 k, LeO (assartref04_Right.f k a0 a1) (assartref04_Right.f (k + 1) a0 a1) := by
  intro a0 a1 k
  obtain ⟨ih0, ih1⟩ := assartref04_Right.mono_l k
  unfold assartref04_Right.f
  repeat' first
      | (with_reducible exact ih0 _ _ _)
      | (with_reducible exact ih1 _ _ _)
      | (with_reducible exact LeO.refl _)
      | (with_reducible exact LeO.none _)
      | (with_reducible refine LeO.ite ?_ ?_)
      | (with_reducible refine LeO.bind ?_ (fun _ => ?_))
      | exact ih0 _ _ _
      | exact ih1 _ _ _
      | exact LeO.none _
      | refine LeO.ite ?_ ?_
      | refine LeO.bind ?_ (fun _ => ?_)
set_option maxHeartbeats 8000000 in
set_option maxRecDepth 100000 in
theorem assartref04_Right.calls (k : Nat) (a0_0 : Bool) (A0_1 : Option Addr) (c0_1 : Nat) (l0_1 : List (S78)) (r : Bool) (w : World) (hr0_1 : Kd.C k78 w A0_1 l0_1.length l0_1) (hc0_1 : l0_1.length ≤ c0_1) (h : assartref04_Right.f k a0_0 l0_1 = some r) :
    Calls Try.prog 31 #[.agg #[.bool a0_0, .slice A0_1 l0_1.length c0_1]] w fun e w' => e = .returned (.bool r) ∧ Below w.heap.size w w' := by
  have hu56 := Try.underlying56
  have hu78 := Try.underlying78
  have HR0_1 := Aside0.mk hr0_1
  have HC0_1 := Aside0.mk hc0_1
  clear hr0_1 hc0_1
  have HB := Aside0.mk (Below.refl w.heap.size w)
  have H : (if (l0_1.length : Int) < 1 then (assartref04_Right.j0 k true a0_0 l0_1) else (assartref04_Right.j0 k (decide ((l0_1.length : Int) > 4)) a0_0 l0_1)) = some r := h
  clear h
  have HC2 := Aside0.mk H
  clear H
  go_enter Try.func31, Try.ntmps31
  go_upto_region 1 with (first | ((with_reducible refine gate_dst (N := 1) rfl ?_); (try (refine gate_guard (by rfl) ?_; dsimp only)); refine box_event ?hg (N := 1) ?hd (cs := #[.bool a0_0, .slice A0_1 l0_1.length c0_1]) (t := 56) ?hr ?_; (case hd => rfl); (case hg => rfl); (case hr => first | (go_simp; done) | (go_simp; rfl)); intro gb200 hg w3 hbox hb; have n0_ := Aside0.mk (below_step (by repeat (first | (with_reducible first | exact HB.out | apply below_alloc | apply pw_below_drewN | apply below_drew1) | exact HB.out)) hb); have n1_ := Aside0.mk (hbox); have n2_ := Aside0.mk ((by rw [hg]; exact (below_size (by repeat (first | (with_reducible first | exact HB.out | apply below_alloc | apply pw_below_drewN | apply below_drew1) | exact HB.out))) : w.heap.size ≤ gb200)); have n3_ := Aside0.mk ((by rw [hg]; exact (below_size (by repeat (first | (with_reducible first | exact HB.out | apply below_alloc | apply pw_below_drewN | apply below_drew1) | exact HB.out))) : w.heap.size ≤ gb200)); clear HB; have HB := n0_; have BK200 := n1_; have GW200 := n2_; have GE200 := n3_; clear n0_ n1_ n2_ n3_; clear hb hbox hg))
  repeat (go_quiet (first | ((with_reducible refine gate_dst (N := 1) rfl ?_); (try (refine gate_guard (by rfl) ?_; dsimp only)); refine box_event ?hg (N := 1) ?hd (cs := #[.bool a0_0, .slice A0_1 l0_1.length c0_1]) (t := 56) ?hr ?_; (case hd => rfl); (case hg => rfl); (case hr => first | (go_simp; done) | (go_simp; rfl)); intro gb200 hg w3 hbox hb; have n0_ := Aside0.mk (below_step (by repeat (first | (with_reducible first | exact HB.out | apply below_alloc | apply pw_below_drewN | apply below_drew1) | exact HB.out)) hb); have n1_ := Aside0.mk (hbox); have n2_ := Aside0.mk ((by rw [hg]; exact (below_size (by repeat (first | (with_reducible first | exact HB.out | apply below_alloc | apply pw_below_drewN | apply below_drew1) | exact HB.out))) : w.heap.size ≤ gb200)); have n3_ := Aside0.mk ((by rw [hg]; exact (below_size (by repeat (first | (with_reducible first | exact HB.out | apply below_alloc | apply pw_below_drewN | apply below_drew1) | exact HB.out))) : w.heap.size ≤ gb200)); clear HB; have HB := n0_; have BK200 := n1_; have GW200 := n2_; have GE200 := n3_; clear n0_ n1_ n2_ n3_; clear hb hbox hg)); go_upto_region 1 with (first | ((with_reducible refine gate_dst (N := 1) rfl ?_); (try (refine gate_guard (by rfl) ?_; dsimp only)); refine box_event ?hg (N := 1) ?hd (cs := #[.bool a0_0, .slice A0_1 l0_1.length c0_1]) (t := 56) ?hr ?_; (case hd => rfl); (case hg => rfl); (case hr => first | (go_simp; done) | (go_simp; rfl)); intro gb200 hg w3 hbox hb; have n0_ := Aside0.mk (below_step (by repeat (first | (with_reducible first | exact HB.out | apply below_alloc | apply pw_below_drewN | apply below_drew1) | exact HB.out)) hb); have n1_ := Aside0.mk (hbox); have n2_ := Aside0.mk ((by rw [hg]; exact (below_size (by repeat (first | (with_reducible first | exact HB.out | apply below_alloc | apply pw_below_drewN | apply below_drew1) | exact HB.out))) : w.heap.size ≤ gb200)); have n3_ := Aside0.mk ((by rw [hg]; exact (below_size (by repeat (first | (with_reducible first | exact HB.out | apply below_alloc | apply pw_below_drewN | apply below_drew1) | exact HB.out))) : w.heap.size ≤ gb200)); clear HB; have HB := n0_; have BK200 := n1_; have GW200 := n2_; have GE200 := n3_; clear n0_ n1_ n2_ n3_; clear hb hbox hg)))
  (try simp only [Act.put, List.setIfInBounds_toArray, List.set_cons_zero, List.set_cons_succ])
  go_cut [14] (fun v14 wc => ∃ (kq : Nat) (x14_1 : Bool), v14 = .bool x14_1 ∧ Aside0 (assartref04_Right.j0 kq x14_1 a0_0 l0_1 = some r) ∧ Aside0 (kq ≤ k) ∧ Aside0 (wc.heap[gb200]? = some (.cells #[.bool a0_0, (.slice A0_1 l0_1.length c0_1)] 56 (0, 0))) ∧ Aside0 (Below w.heap.size w wc))
  case first =>
    have H := HC2.out
    clear HC2
    by_cases c4 : (l0_1.length : Int) < 1
    · rw [if_pos c4] at H
      have c4b0 : decide ((l0_1.length : Int) < 1) = true := decide_eq_true c4
      have c4b1 : decide (l0_1.length < 1) = true := decide_eq_true (by omega)
      clear c4
      (first | rw [c4b0] | (simp only [i64_w, i32_w]; rw [c4b0]) | skip)
      have H' := Aside0.mk H
      clear H
      have hcz5_0 : w3.cell? ⟨gb200, 0, none⟩ = some (.bool a0_0) := (blk_cell BK200.out 0).trans rfl
      have hcz5_1 : w3.cell? ⟨gb200, 1, none⟩ = some (.slice A0_1 l0_1.length c0_1) := (blk_cell BK200.out 1).trans rfl
      have hfz5_0 := blk_frozen BK200.out 0
      have hfz5_1 := blk_frozen BK200.out 1
      go_wp2
      repeat (go_quiet (fail); try go_wp2)
      go_meet
      case rel => exact ⟨_, (true), (by first | rfl | (simp; done) | (simp [*]; done)), H', ⟨by first | omega | exact Nat.le_refl _⟩, ⟨by (with_reducible repeat (first | refine blk_drewN ?_ _ | refine blk_drew ?_ | refine blk_alloc ?_ _)); exact BK200.out⟩, ⟨by repeat (first | (with_reducible first | exact HB.out | apply below_alloc | apply pw_below_drewN | apply below_drew1 | refine below_set ?_ GE200.out) | exact HB.out)⟩⟩
    · rw [if_neg c4] at H
      have c4b0 : decide ((l0_1.length : Int) < 1) = false := decide_eq_false c4
      have c4b1 : decide (l0_1.length < 1) = false := decide_eq_false (by omega)
      clear c4
      (first | rw [c4b0] | (simp only [i64_w, i32_w]; rw [c4b0]) | skip)
      have H' := Aside0.mk H
      clear H
      have hcz6_0 : w3.cell? ⟨gb200, 0, none⟩ = some (.bool a0_0) := (blk_cell BK200.out 0).trans rfl
      have hcz6_1 : w3.cell? ⟨gb200, 1, none⟩ = some (.slice A0_1 l0_1.length c0_1) := (blk_cell BK200.out 1).trans rfl
      have hfz6_0 := blk_frozen BK200.out 0
      have hfz6_1 := blk_frozen BK200.out 1
      go_wp2
      repeat (go_quiet (fail); try go_wp2)
      go_meet
      case rel => exact ⟨_, (decide ((l0_1.length : Int) > 4)), (by first | rfl | (simp; done) | (simp [*]; done)), H', ⟨by first | omega | exact Nat.le_refl _⟩, ⟨by (with_reducible repeat (first | refine blk_drewN ?_ _ | refine blk_drew ?_ | refine blk_alloc ?_ _)); exact BK200.out⟩, ⟨by repeat (first | (with_reducible first | exact HB.out | apply below_alloc | apply pw_below_drewN | apply below_drew1 | refine below_set ?_ GE200.out) | exact HB.out)⟩⟩
  case rest =>
    clear HC2
    try clear p2
    try clear c3
    try clear c4
    try clear c4b0
    try clear c4b1
    try clear hcz5_0
    try clear hcz5_1
    try clear hcz6_0
    try clear hcz6_1
    try clear hfz5_0
    try clear hfz5_1
    try clear hfz6_0
    try clear hfz6_1
    obtain ⟨kq, x14_1, rfl, HA, HJ1, BK200, HB⟩ := hcut
    cases kq with
    | zero => exact absurd HA.out (by simp [assartref04_Right.j0])
    | succ kj1 =>
      have H := HA.out
      clear HA
      simp only [assartref04_Right.j0] at H
      by_cases c7 : x14_1 = true
      · subst c7
        have H1 : (some false) = some r := by rw [if_pos rfl] at H; exact H
        clear H
        have H := H1
        clear H1
        obtain rfl := Option.some.inj H
        go_wp2
        repeat (go_quiet (fail); try go_wp2)
        go_ret
        exact ⟨by first | rfl | (simp [errW_none, errW_some] <;> rfl) | (simp [*, errW_none, errW_some] <;> rfl), by repeat (first | (with_reducible first | exact HB.out | apply below_alloc | apply pw_below_drewN | apply below_drew1 | refine below_set ?_ GE200.out) | exact HB.out)⟩
      · replace c7 := Bool.eq_false_iff.mpr c7
        subst c7
        have H1 : (assartref04_Right.l0 kj1 0 a0_0 l0_1) = some r := by rw [if_neg (show ¬ (false = true) by decide)] at H; exact H
        clear H
        have H := H1
        clear H1
        have H' := Aside0.mk H
        clear H
        go_wp2
        repeat (go_quiet (fail); try go_wp2)
        go_loopg [3] kj1 (fun kq v3 w' => ∃ (x3_2 : Int), v3 = .int .i64 x3_2 ∧ Aside0 (assartref04_Right.l0 kq x3_2 a0_0 l0_1 = some r) ∧ Aside0 (kq ≤ kj1) ∧ Aside0 (w'.heap[gb200]? = some (.cells #[.bool a0_0, (.slice A0_1 l0_1.length c0_1)] 56 (0, 0))) ∧ Aside0 (Below w.heap.size w w'))
        case atStart => exact ⟨(0), (by first | rfl | (simp; done) | (simp [*]; done)), H', ⟨Nat.le_refl _⟩, ⟨by (with_reducible repeat (first | refine blk_drewN ?_ _ | refine blk_drew ?_ | refine blk_alloc ?_ _)); exact BK200.out⟩, ⟨by repeat (first | (with_reducible first | exact HB.out | apply below_alloc | apply pw_below_drewN | apply below_drew1 | refine below_set ?_ GE200.out) | exact HB.out)⟩⟩
        case round =>
          clear H'
          try clear p2
          try clear c3
          try clear c4
          try clear c4b0
          try clear c4b1
          try clear c7
          try clear hcz5_0
          try clear hcz5_1
          try clear hcz6_0
          try clear hcz6_1
          try clear hfz5_0
          try clear hfz5_1
          try clear hfz6_0
          try clear hfz6_1
          try clear p2
          obtain ⟨x3_2, rfl, HA, HK2, BK200, HB⟩ := hrel
          cases gk with
          | zero => exact absurd HA.out (by simp [assartref04_Right.l0])
          | succ k2 =>
            have H := HA.out
            clear HA
            simp only [assartref04_Right.l0] at H
            by_cases c8 : x3_2 < (l0_1.length : Int)
            · rw [if_pos c8] at H
              have c8b0 : decide (x3_2 < (l0_1.length : Int)) = true := decide_eq_true c8
              clear c8
              by_cases c9 : 0 ≤ x3_2
              · rw [if_pos c9] at H
                have c9b0 : decide (0 ≤ x3_2) = true := decide_eq_true c9
                clear c9
                by_cases c10 : ((rd_T78 l0_1 x3_2).f0) < 0
                · rw [if_pos c10] at H
                  have c10b0 : decide (((rd_T78 l0_1 x3_2).f0) < 0) = true := decide_eq_true c10
                  clear c10
                  obtain rfl := Option.some.inj H
                  have hcz11_0 : wr.cell? ⟨gb200, 0, none⟩ = some (.bool a0_0) := (blk_cell BK200.out 0).trans rfl
                  have hcz11_1 : wr.cell? ⟨gb200, 1, none⟩ = some (.slice A0_1 l0_1.length c0_1) := (blk_cell BK200.out 1).trans rfl
                  have hfz11_0 := blk_frozen BK200.out 0
                  have hfz11_1 := blk_frozen BK200.out 1
                  have p201 : 0 ≤ (x3_2 : Int) := of_decide_eq_true (by first | (with_reducible assumption) | assumption)
                  have q201 : x3_2 < (l0_1.length : Int) := of_decide_eq_true (by first | (with_reducible assumption) | assumption)
                  obtain ⟨ad201, e201, hx201_0, hx201_1⟩ := at_T78 HR0_1.out x3_2 p201 q201
                  cases e201
                  replace hx201_0 := (HB.out.cell (World.block_lt_of_cell? w _ hx201_0)).trans hx201_0
                  replace hx201_1 := (HB.out.cell (World.block_lt_of_cell? w _ hx201_1)).trans hx201_1
                  replace p201 := eq_true p201
                  replace q201 := eq_true q201
                  go_wp2_with (first | ((with_reducible refine gate_dst (N := 4) rfl ?_); (try (refine gate_guard (by rfl) ?_; dsimp only)); refine box_event ?hg (N := 4) ?hd (cs := #[.int .i64 0, .int .i64 0]) (t := 78) ?hr ?_; (case hd => rfl); (case hg => rfl); (case hr => first | (go_simp; done) | (go_simp; rfl)); intro gb202 hg w12 hbox hb; have n0_ := Aside0.mk (blk_below (g := gb200) (o := .cells #[.bool a0_0, .slice (some ad201) l0_1.length c0_1] 56 (0, 0)) (by (with_reducible repeat (first | refine blk_drewN ?_ _ | refine blk_drew ?_ | refine blk_alloc ?_ _)); exact BK200.out) hb); have n1_ := Aside0.mk (below_step (by repeat (first | (with_reducible first | exact HB.out | apply below_alloc | apply pw_below_drewN | apply below_drew1 | refine below_set ?_ GE200.out) | exact HB.out)) hb); have n2_ := Aside0.mk (hbox); have n3_ := Aside0.mk ((by rw [hg]; exact (below_size (by repeat (first | (with_reducible first | exact HB.out | apply below_alloc | apply pw_below_drewN | apply below_drew1 | refine below_set ?_ GE200.out) | exact HB.out))) : w.heap.size ≤ gb202)); have n4_ := Aside0.mk ((by rw [hg]; exact (below_size (by repeat (first | (with_reducible first | exact HB.out | apply below_alloc | apply pw_below_drewN | apply below_drew1 | refine below_set ?_ GE200.out) | exact HB.out))) : w.heap.size ≤ gb202)); have n5_ := Aside0.mk ((by rw [hg]; exact Nat.ne_of_lt (blk_lt (g := gb200) (o := .cells #[.bool a0_0, .slice (some ad201) l0_1.length c0_1] 56 (0, 0)) (by (with_reducible repeat (first | refine blk_drewN ?_ _ | refine blk_drew ?_ | refine blk_alloc ?_ _)); exact BK200.out)) : gb200 ≠ gb202)); have n6_ := Aside0.mk ((by rw [hg]; exact Nat.ne_of_gt (blk_lt (g := gb200) (o := .cells #[.bool a0_0, .slice (some ad201) l0_1.length c0_1] 56 (0, 0)) (by (with_reducible repeat (first | refine blk_drewN ?_ _ | refine blk_drew ?_ | refine blk_alloc ?_ _)); exact BK200.out)) : gb202 ≠ gb200)); clear BK200; clear HB; have BK200 := n0_; have HB := n1_; have BK202 := n2_; have GW202 := n3_; have GE202 := n4_; have NB200_202 := n5_; have NB202_200 := n6_; clear n0_ n1_ n2_ n3_ n4_ n5_ n6_; clear hb hbox hg; have hnb13 := NB202_200.out; have hnc13 := NB200_202.out; have hcz14_0 : w12.cell? ⟨gb202, 0, none⟩ = some (.int .i64 0) := (blk_cell BK202.out 0).trans rfl; have hcz14_1 : w12.cell? ⟨gb202, 1, none⟩ = some (.int .i64 0) := (blk_cell BK202.out 1).trans rfl; have hfz14_0 := blk_frozen BK202.out 0; have hfz14_1 := blk_frozen BK202.out 1))
                  repeat (go_quiet (first | ((with_reducible refine gate_dst (N := 4) rfl ?_); (try (refine gate_guard (by rfl) ?_; dsimp only)); refine box_event ?hg (N := 4) ?hd (cs := #[.int .i64 0, .int .i64 0]) (t := 78) ?hr ?_; (case hd => rfl); (case hg => rfl); (case hr => first | (go_simp; done) | (go_simp; rfl)); intro gb202 hg w12 hbox hb; have n0_ := Aside0.mk (blk_below (g := gb200) (o := .cells #[.bool a0_0, .slice (some ad201) l0_1.length c0_1] 56 (0, 0)) (by (with_reducible repeat (first | refine blk_drewN ?_ _ | refine blk_drew ?_ | refine blk_alloc ?_ _)); exact BK200.out) hb); have n1_ := Aside0.mk (below_step (by repeat (first | (with_reducible first | exact HB.out | apply below_alloc | apply pw_below_drewN | apply below_drew1 | refine below_set ?_ GE200.out) | exact HB.out)) hb); have n2_ := Aside0.mk (hbox); have n3_ := Aside0.mk ((by rw [hg]; exact (below_size (by repeat (first | (with_reducible first | exact HB.out | apply below_alloc | apply pw_below_drewN | apply below_drew1 | refine below_set ?_ GE200.out) | exact HB.out))) : w.heap.size ≤ gb202)); have n4_ := Aside0.mk ((by rw [hg]; exact (below_size (by repeat (first | (with_reducible first | exact HB.out | apply below_alloc | apply pw_below_drewN | apply below_drew1 | refine below_set ?_ GE200.out) | exact HB.out))) : w.heap.size ≤ gb202)); have n5_ := Aside0.mk ((by rw [hg]; exact Nat.ne_of_lt (blk_lt (g := gb200) (o := .cells #[.bool a0_0, .slice (some ad201) l0_1.length c0_1] 56 (0, 0)) (by (with_reducible repeat (first | refine blk_drewN ?_ _ | refine blk_drew ?_ | refine blk_alloc ?_ _)); exact BK200.out)) : gb200 ≠ gb202)); have n6_ := Aside0.mk ((by rw [hg]; exact Nat.ne_of_gt (blk_lt (g := gb200) (o := .cells #[.bool a0_0, .slice (some ad201) l0_1.length c0_1] 56 (0, 0)) (by (with_reducible repeat (first | refine blk_drewN ?_ _ | refine blk_drew ?_ | refine blk_alloc ?_ _)); exact BK200.out)) : gb202 ≠ gb200)); clear BK200; clear HB; have BK200 := n0_; have HB := n1_; have BK202 := n2_; have GW202 := n3_; have GE202 := n4_; have NB200_202 := n5_; have NB202_200 := n6_; clear n0_ n1_ n2_ n3_ n4_ n5_ n6_; clear hb hbox hg; have hnb13 := NB202_200.out; have hnc13 := NB200_202.out; have hcz14_0 : w12.cell? ⟨gb202, 0, none⟩ = some (.int .i64 0) := (blk_cell BK202.out 0).trans rfl; have hcz14_1 : w12.cell? ⟨gb202, 1, none⟩ = some (.int .i64 0) := (blk_cell BK202.out 1).trans rfl; have hfz14_0 := blk_frozen BK202.out 0; have hfz14_1 := blk_frozen BK202.out 1)); try go_wp2_with (first | ((with_reducible refine gate_dst (N := 4) rfl ?_); (try (refine gate_guard (by rfl) ?_; dsimp only)); refine box_event ?hg (N := 4) ?hd (cs := #[.int .i64 0, .int .i64 0]) (t := 78) ?hr ?_; (case hd => rfl); (case hg => rfl); (case hr => first | (go_simp; done) | (go_simp; rfl)); intro gb202 hg w12 hbox hb; have n0_ := Aside0.mk (blk_below (g := gb200) (o := .cells #[.bool a0_0, .slice (some ad201) l0_1.length c0_1] 56 (0, 0)) (by (with_reducible repeat (first | refine blk_drewN ?_ _ | refine blk_drew ?_ | refine blk_alloc ?_ _)); exact BK200.out) hb); have n1_ := Aside0.mk (below_step (by repeat (first | (with_reducible first | exact HB.out | apply below_alloc | apply pw_below_drewN | apply below_drew1 | refine below_set ?_ GE200.out) | exact HB.out)) hb); have n2_ := Aside0.mk (hbox); have n3_ := Aside0.mk ((by rw [hg]; exact (below_size (by repeat (first | (with_reducible first | exact HB.out | apply below_alloc | apply pw_below_drewN | apply below_drew1 | refine below_set ?_ GE200.out) | exact HB.out))) : w.heap.size ≤ gb202)); have n4_ := Aside0.mk ((by rw [hg]; exact (below_size (by repeat (first | (with_reducible first | exact HB.out | apply below_alloc | apply pw_below_drewN | apply below_drew1 | refine below_set ?_ GE200.out) | exact HB.out))) : w.heap.size ≤ gb202)); have n5_ := Aside0.mk ((by rw [hg]; exact Nat.ne_of_lt (blk_lt (g := gb200) (o := .cells #[.bool a0_0, .slice (some ad201) l0_1.length c0_1] 56 (0, 0)) (by (with_reducible repeat (first | refine blk_drewN ?_ _ | refine blk_drew ?_ | refine blk_alloc ?_ _)); exact BK200.out)) : gb200 ≠ gb202)); have n6_ := Aside0.mk ((by rw [hg]; exact Nat.ne_of_gt (blk_lt (g := gb200) (o := .cells #[.bool a0_0, .slice (some ad201) l0_1.length c0_1] 56 (0, 0)) (by (with_reducible repeat (first | refine blk_drewN ?_ _ | refine blk_drew ?_ | refine blk_alloc ?_ _)); exact BK200.out)) : gb202 ≠ gb200)); clear BK200; clear HB; have BK200 := n0_; have HB := n1_; have BK202 := n2_; have GW202 := n3_; have GE202 := n4_; have NB200_202 := n5_; have NB202_200 := n6_; clear n0_ n1_ n2_ n3_ n4_ n5_ n6_; clear hb hbox hg; have hnb13 := NB202_200.out; have hnc13 := NB200_202.out; have hcz14_0 : w12.cell? ⟨gb202, 0, none⟩ = some (.int .i64 0) := (blk_cell BK202.out 0).trans rfl; have hcz14_1 : w12.cell? ⟨gb202, 1, none⟩ = some (.int .i64 0) := (blk_cell BK202.out 1).trans rfl; have hfz14_0 := blk_frozen BK202.out 0; have hfz14_1 := blk_frozen BK202.out 1)))
                  go_ret
                  exact ⟨by first | rfl | (simp [errW_none, errW_some] <;> rfl) | (simp [*, errW_none, errW_some] <;> rfl), by repeat (first | (with_reducible first | exact HB.out | apply below_alloc | apply pw_below_drewN | apply below_drew1 | refine below_set ?_ GE200.out | refine below_set ?_ GE202.out) | exact HB.out)⟩
                · rw [if_neg c10] at H
                  have c10b0 : decide (((rd_T78 l0_1 x3_2).f0) < 0) = false := decide_eq_false c10
                  clear c10
                  by_cases c15 : ((rd_T78 l0_1 x3_2).f0) > 2147483647
                  · rw [if_pos c15] at H
                    have c15b0 : decide (2147483647 < ((rd_T78 l0_1 x3_2).f0)) = true := decide_eq_true c15
                    clear c15
                    obtain rfl := Option.some.inj H
                    have hcz16_0 : wr.cell? ⟨gb200, 0, none⟩ = some (.bool a0_0) := (blk_cell BK200.out 0).trans rfl
                    have hcz16_1 : wr.cell? ⟨gb200, 1, none⟩ = some (.slice A0_1 l0_1.length c0_1) := (blk_cell BK200.out 1).trans rfl
                    have hfz16_0 := blk_frozen BK200.out 0
                    have hfz16_1 := blk_frozen BK200.out 1
                    have p201 : 0 ≤ (x3_2 : Int) := of_decide_eq_true (by first | (with_reducible assumption) | assumption)
                    have q201 : x3_2 < (l0_1.length : Int) := of_decide_eq_true (by first | (with_reducible assumption) | assumption)
                    obtain ⟨ad201, e201, hx201_0, hx201_1⟩ := at_T78 HR0_1.out x3_2 p201 q201
                    cases e201
                    replace hx201_0 := (HB.out.cell (World.block_lt_of_cell? w _ hx201_0)).trans hx201_0
                    replace hx201_1 := (HB.out.cell (World.block_lt_of_cell? w _ hx201_1)).trans hx201_1
                    replace p201 := eq_true p201
                    replace q201 := eq_true q201
                    go_wp2_with (first | ((with_reducible refine gate_dst (N := 4) rfl ?_); (try (refine gate_guard (by rfl) ?_; dsimp only)); refine box_event ?hg (N := 4) ?hd (cs := #[.int .i64 0, .int .i64 0]) (t := 78) ?hr ?_; (case hd => rfl); (case hg => rfl); (case hr => first | (go_simp; done) | (go_simp; rfl)); intro gb202 hg w17 hbox hb; have n0_ := Aside0.mk (blk_below (g := gb200) (o := .cells #[.bool a0_0, .slice (some ad201) l0_1.length c0_1] 56 (0, 0)) (by (with_reducible repeat (first | refine blk_drewN ?_ _ | refine blk_drew ?_ | refine blk_alloc ?_ _)); exact BK200.out) hb); have n1_ := Aside0.mk (below_step (by repeat (first | (with_reducible first | exact HB.out | apply below_alloc | apply pw_below_drewN | apply below_drew1 | refine below_set ?_ GE200.out) | exact HB.out)) hb); have n2_ := Aside0.mk (hbox); have n3_ := Aside0.mk ((by rw [hg]; exact (below_size (by repeat (first | (with_reducible first | exact HB.out | apply below_alloc | apply pw_below_drewN | apply below_drew1 | refine below_set ?_ GE200.out) | exact HB.out))) : w.heap.size ≤ gb202)); have n4_ := Aside0.mk ((by rw [hg]; exact (below_size (by repeat (first | (with_reducible first | exact HB.out | apply below_alloc | apply pw_below_drewN | apply below_drew1 | refine below_set ?_ GE200.out) | exact HB.out))) : w.heap.size ≤ gb202)); have n5_ := Aside0.mk ((by rw [hg]; exact Nat.ne_of_lt (blk_lt (g := gb200) (o := .cells #[.bool a0_0, .slice (some ad201) l0_1.length c0_1] 56 (0, 0)) (by (with_reducible repeat (first | refine blk_drewN ?_ _ | refine blk_drew ?_ | refine blk_alloc ?_ _)); exact BK200.out)) : gb200 ≠ gb202)); have n6_ := Aside0.mk ((by rw [hg]; exact Nat.ne_of_gt (blk_lt (g := gb200) (o := .cells #[.bool a0_0, .slice (some ad201) l0_1.length c0_1] 56 (0, 0)) (by (with_reducible repeat (first | refine blk_drewN ?_ _ | refine blk_drew ?_ | refine blk_alloc ?_ _)); exact BK200.out)) : gb202 ≠ gb200)); clear BK200; clear HB; have BK200 := n0_; have HB := n1_; have BK202 := n2_; have GW202 := n3_; have GE202 := n4_; have NB200_202 := n5_; have NB202_200 := n6_; clear n0_ n1_ n2_ n3_ n4_ n5_ n6_; clear hb hbox hg; have hnb18 := NB202_200.out; have hnc18 := NB200_202.out; have hcz19_0 : w17.cell? ⟨gb202, 0, none⟩ = some (.int .i64 0) := (blk_cell BK202.out 0).trans rfl; have hcz19_1 : w17.cell? ⟨gb202, 1, none⟩ = some (.int .i64 0) := (blk_cell BK202.out 1).trans rfl; have hfz19_0 := blk_frozen BK202.out 0; have hfz19_1 := blk_frozen BK202.out 1))
                    repeat (go_quiet (first | ((with_reducible refine gate_dst (N := 4) rfl ?_); (try (refine gate_guard (by rfl) ?_; dsimp only)); refine box_event ?hg (N := 4) ?hd (cs := #[.int .i64 0, .int .i64 0]) (t := 78) ?hr ?_; (case hd => rfl); (case hg => rfl); (case hr => first | (go_simp; done) | (go_simp; rfl)); intro gb202 hg w17 hbox hb; have n0_ := Aside0.mk (blk_below (g := gb200) (o := .cells #[.bool a0_0, .slice (some ad201) l0_1.length c0_1] 56 (0, 0)) (by (with_reducible repeat (first | refine blk_drewN ?_ _ | refine blk_drew ?_ | refine blk_alloc ?_ _)); exact BK200.out) hb); have n1_ := Aside0.mk (below_step (by repeat (first | (with_reducible first | exact HB.out | apply below_alloc | apply pw_below_drewN | apply below_drew1 | refine below_set ?_ GE200.out) | exact HB.out)) hb); have n2_ := Aside0.mk (hbox); have n3_ := Aside0.mk ((by rw [hg]; exact (below_size (by repeat (first | (with_reducible first | exact HB.out | apply below_alloc | apply pw_below_drewN | apply below_drew1 | refine below_set ?_ GE200.out) | exact HB.out))) : w.heap.size ≤ gb202)); have n4_ := Aside0.mk ((by rw [hg]; exact (below_size (by repeat (first | (with_reducible first | exact HB.out | apply below_alloc | apply pw_below_drewN | apply below_drew1 | refine below_set ?_ GE200.out) | exact HB.out))) : w.heap.size ≤ gb202)); have n5_ := Aside0.mk ((by rw [hg]; exact Nat.ne_of_lt (blk_lt (g := gb200) (o := .cells #[.bool a0_0, .slice (some ad201) l0_1.length c0_1] 56 (0, 0)) (by (with_reducible repeat (first | refine blk_drewN ?_ _ | refine blk_drew ?_ | refine blk_alloc ?_ _)); exact BK200.out)) : gb200 ≠ gb202)); have n6_ := Aside0.mk ((by rw [hg]; exact Nat.ne_of_gt (blk_lt (g := gb200) (o := .cells #[.bool a0_0, .slice (some ad201) l0_1.length c0_1] 56 (0, 0)) (by (with_reducible repeat (first | refine blk_drewN ?_ _ | refine blk_drew ?_ | refine blk_alloc ?_ _)); exact BK200.out)) : gb202 ≠ gb200)); clear BK200; clear HB; have BK200 := n0_; have HB := n1_; have BK202 := n2_; have GW202 := n3_; have GE202 := n4_; have NB200_202 := n5_; have NB202_200 := n6_; clear n0_ n1_ n2_ n3_ n4_ n5_ n6_; clear hb hbox hg; have hnb18 := NB202_200.out; have hnc18 := NB200_202.out; have hcz19_0 : w17.cell? ⟨gb202, 0, none⟩ = some (.int .i64 0) := (blk_cell BK202.out 0).trans rfl; have hcz19_1 : w17.cell? ⟨gb202, 1, none⟩ = some (.int .i64 0) := (blk_cell BK202.out 1).trans rfl; have hfz19_0 := blk_frozen BK202.out 0; have hfz19_1 := blk_frozen BK202.out 1)); try go_wp2_with (first | ((with_reducible refine gate_dst (N := 4) rfl ?_); (try (refine gate_guard (by rfl) ?_; dsimp only)); refine box_event ?hg (N := 4) ?hd (cs := #[.int .i64 0, .int .i64 0]) (t := 78) ?hr ?_; (case hd => rfl); (case hg => rfl); (case hr => first | (go_simp; done) | (go_simp; rfl)); intro gb202 hg w17 hbox hb; have n0_ := Aside0.mk (blk_below (g := gb200) (o := .cells #[.bool a0_0, .slice (some ad201) l0_1.length c0_1] 56 (0, 0)) (by (with_reducible repeat (first | refine blk_drewN ?_ _ | refine blk_drew ?_ | refine blk_alloc ?_ _)); exact BK200.out) hb); have n1_ := Aside0.mk (below_step (by repeat (first | (with_reducible first | exact HB.out | apply below_alloc | apply pw_below_drewN | apply below_drew1 | refine below_set ?_ GE200.out) | exact HB.out)) hb); have n2_ := Aside0.mk (hbox); have n3_ := Aside0.mk ((by rw [hg]; exact (below_size (by repeat (first | (with_reducible first | exact HB.out | apply below_alloc | apply pw_below_drewN | apply below_drew1 | refine below_set ?_ GE200.out) | exact HB.out))) : w.heap.size ≤ gb202)); have n4_ := Aside0.mk ((by rw [hg]; exact (below_size (by repeat (first | (with_reducible first | exact HB.out | apply below_alloc | apply pw_below_drewN | apply below_drew1 | refine below_set ?_ GE200.out) | exact HB.out))) : w.heap.size ≤ gb202)); have n5_ := Aside0.mk ((by rw [hg]; exact Nat.ne_of_lt (blk_lt (g := gb200) (o := .cells #[.bool a0_0, .slice (some ad201) l0_1.length c0_1] 56 (0, 0)) (by (with_reducible repeat (first | refine blk_drewN ?_ _ | refine blk_drew ?_ | refine blk_alloc ?_ _)); exact BK200.out)) : gb200 ≠ gb202)); have n6_ := Aside0.mk ((by rw [hg]; exact Nat.ne_of_gt (blk_lt (g := gb200) (o := .cells #[.bool a0_0, .slice (some ad201) l0_1.length c0_1] 56 (0, 0)) (by (with_reducible repeat (first | refine blk_drewN ?_ _ | refine blk_drew ?_ | refine blk_alloc ?_ _)); exact BK200.out)) : gb202 ≠ gb200)); clear BK200; clear HB; have BK200 := n0_; have HB := n1_; have BK202 := n2_; have GW202 := n3_; have GE202 := n4_; have NB200_202 := n5_; have NB202_200 := n6_; clear n0_ n1_ n2_ n3_ n4_ n5_ n6_; clear hb hbox hg; have hnb18 := NB202_200.out; have hnc18 := NB200_202.out; have hcz19_0 : w17.cell? ⟨gb202, 0, none⟩ = some (.int .i64 0) := (blk_cell BK202.out 0).trans rfl; have hcz19_1 : w17.cell? ⟨gb202, 1, none⟩ = some (.int .i64 0) := (blk_cell BK202.out 1).trans rfl; have hfz19_0 := blk_frozen BK202.out 0; have hfz19_1 := blk_frozen BK202.out 1)))
                    go_ret
                    exact ⟨by first | rfl | (simp [errW_none, errW_some] <;> rfl) | (simp [*, errW_none, errW_some] <;> rfl), by repeat (first | (with_reducible first | exact HB.out | apply below_alloc | apply pw_below_drewN | apply below_drew1 | refine below_set ?_ GE200.out | refine below_set ?_ GE202.out) | exact HB.out)⟩
                  · rw [if_neg c15] at H
                    have c15b0 : decide (2147483647 < ((rd_T78 l0_1 x3_2).f0)) = false := decide_eq_false c15
                    clear c15
                    by_cases c20 : ((rd_T78 l0_1 x3_2).f1) < 0
                    · rw [if_pos c20] at H
                      have c20b0 : decide (((rd_T78 l0_1 x3_2).f1) < 0) = true := decide_eq_true c20
                      clear c20
                      obtain rfl := Option.some.inj H
                      have hcz21_0 : wr.cell? ⟨gb200, 0, none⟩ = some (.bool a0_0) := (blk_cell BK200.out 0).trans rfl
                      have hcz21_1 : wr.cell? ⟨gb200, 1, none⟩ = some (.slice A0_1 l0_1.length c0_1) := (blk_cell BK200.out 1).trans rfl
                      have hfz21_0 := blk_frozen BK200.out 0
                      have hfz21_1 := blk_frozen BK200.out 1
                      have p201 : 0 ≤ (x3_2 : Int) := of_decide_eq_true (by first | (with_reducible assumption) | assumption)
                      have q201 : x3_2 < (l0_1.length : Int) := of_decide_eq_true (by first | (with_reducible assumption) | assumption)
                      obtain ⟨ad201, e201, hx201_0, hx201_1⟩ := at_T78 HR0_1.out x3_2 p201 q201
                      cases e201
                      replace hx201_0 := (HB.out.cell (World.block_lt_of_cell? w _ hx201_0)).trans hx201_0
                      replace hx201_1 := (HB.out.cell (World.block_lt_of_cell? w _ hx201_1)).trans hx201_1
                      replace p201 := eq_true p201
                      replace q201 := eq_true q201
                      go_wp2_with (first | ((with_reducible refine gate_dst (N := 4) rfl ?_); (try (refine gate_guard (by rfl) ?_; dsimp only)); refine box_event ?hg (N := 4) ?hd (cs := #[.int .i64 0, .int .i64 0]) (t := 78) ?hr ?_; (case hd => rfl); (case hg => rfl); (case hr => first | (go_simp; done) | (go_simp; rfl)); intro gb202 hg w22 hbox hb; have n0_ := Aside0.mk (blk_below (g := gb200) (o := .cells #[.bool a0_0, .slice (some ad201) l0_1.length c0_1] 56 (0, 0)) (by (with_reducible repeat (first | refine blk_drewN ?_ _ | refine blk_drew ?_ | refine blk_alloc ?_ _)); exact BK200.out) hb); have n1_ := Aside0.mk (below_step (by repeat (first | (with_reducible first | exact HB.out | apply below_alloc | apply pw_below_drewN | apply below_drew1 | refine below_set ?_ GE200.out) | exact HB.out)) hb); have n2_ := Aside0.mk (hbox); have n3_ := Aside0.mk ((by rw [hg]; exact (below_size (by repeat (first | (with_reducible first | exact HB.out | apply below_alloc | apply pw_below_drewN | apply below_drew1 | refine below_set ?_ GE200.out) | exact HB.out))) : w.heap.size ≤ gb202)); have n4_ := Aside0.mk ((by rw [hg]; exact (below_size (by repeat (first | (with_reducible first | exact HB.out | apply below_alloc | apply pw_below_drewN | apply below_drew1 | refine below_set ?_ GE200.out) | exact HB.out))) : w.heap.size ≤ gb202)); have n5_ := Aside0.mk ((by rw [hg]; exact Nat.ne_of_lt (blk_lt (g := gb200) (o := .cells #[.bool a0_0, .slice (some ad201) l0_1.length c0_1] 56 (0, 0)) (by (with_reducible repeat (first | refine blk_drewN ?_ _ | refine blk_drew ?_ | refine blk_alloc ?_ _)); exact BK200.out)) : gb200 ≠ gb202)); have n6_ := Aside0.mk ((by rw [hg]; exact Nat.ne_of_gt (blk_lt (g := gb200) (o := .cells #[.bool a0_0, .slice (some ad201) l0_1.length c0_1] 56 (0, 0)) (by (with_reducible repeat (first | refine blk_drewN ?_ _ | refine blk_drew ?_ | refine blk_alloc ?_ _)); exact BK200.out)) : gb202 ≠ gb200)); clear BK200; clear HB; have BK200 := n0_; have HB := n1_; have BK202 := n2_; have GW202 := n3_; have GE202 := n4_; have NB200_202 := n5_; have NB202_200 := n6_; clear n0_ n1_ n2_ n3_ n4_ n5_ n6_; clear hb hbox hg; have hnb23 := NB202_200.out; have hnc23 := NB200_202.out; have hcz24_0 : w22.cell? ⟨gb202, 0, none⟩ = some (.int .i64 0) := (blk_cell BK202.out 0).trans rfl; have hcz24_1 : w22.cell? ⟨gb202, 1, none⟩ = some (.int .i64 0) := (blk_cell BK202.out 1).trans rfl; have hfz24_0 := blk_frozen BK202.out 0; have hfz24_1 := blk_frozen BK202.out 1))
                      repeat (go_quiet (first | ((with_reducible refine gate_dst (N := 4) rfl ?_); (try (refine gate_guard (by rfl) ?_; dsimp only)); refine box_event ?hg (N := 4) ?hd (cs := #[.int .i64 0, .int .i64 0]) (t := 78) ?hr ?_; (case hd => rfl); (case hg => rfl); (case hr => first | (go_simp; done) | (go_simp; rfl)); intro gb202 hg w22 hbox hb; have n0_ := Aside0.mk (blk_below (g := gb200) (o := .cells #[.bool a0_0, .slice (some ad201) l0_1.length c0_1] 56 (0, 0)) (by (with_reducible repeat (first | refine blk_drewN ?_ _ | refine blk_drew ?_ | refine blk_alloc ?_ _)); exact BK200.out) hb); have n1_ := Aside0.mk (below_step (by repeat (first | (with_reducible first | exact HB.out | apply below_alloc | apply pw_below_drewN | apply below_drew1 | refine below_set ?_ GE200.out) | exact HB.out)) hb); have n2_ := Aside0.mk (hbox); have n3_ := Aside0.mk ((by rw [hg]; exact (below_size (by repeat (first | (with_reducible first | exact HB.out | apply below_alloc | apply pw_below_drewN | apply below_drew1 | refine below_set ?_ GE200.out) | exact HB.out))) : w.heap.size ≤ gb202)); have n4_ := Aside0.mk ((by rw [hg]; exact (below_size (by repeat (first | (with_reducible first | exact HB.out | apply below_alloc | apply pw_below_drewN | apply below_drew1 | refine below_set ?_ GE200.out) | exact HB.out))) : w.heap.size ≤ gb202)); have n5_ := Aside0.mk ((by rw [hg]; exact Nat.ne_of_lt (blk_lt (g := gb200) (o := .cells #[.bool a0_0, .slice (some ad201) l0_1.length c0_1] 56 (0, 0)) (by (with_reducible repeat (first | refine blk_drewN ?_ _ | refine blk_drew ?_ | refine blk_alloc ?_ _)); exact BK200.out)) : gb200 ≠ gb202)); have n6_ := Aside0.mk ((by rw [hg]; exact Nat.ne_of_gt (blk_lt (g := gb200) (o := .cells #[.bool a0_0, .slice (some ad201) l0_1.length c0_1] 56 (0, 0)) (by (with_reducible repeat (first | refine blk_drewN ?_ _ | refine blk_drew ?_ | refine blk_alloc ?_ _)); exact BK200.out)) : gb202 ≠ gb200)); clear BK200; clear HB; have BK200 := n0_; have HB := n1_; have BK202 := n2_; have GW202 := n3_; have GE202 := n4_; have NB200_202 := n5_; have NB202_200 := n6_; clear n0_ n1_ n2_ n3_ n4_ n5_ n6_; clear hb hbox hg; have hnb23 := NB202_200.out; have hnc23 := NB200_202.out; have hcz24_0 : w22.cell? ⟨gb202, 0, none⟩ = some (.int .i64 0) := (blk_cell BK202.out 0).trans rfl; have hcz24_1 : w22.cell? ⟨gb202, 1, none⟩ = some (.int .i64 0) := (blk_cell BK202.out 1).trans rfl; have hfz24_0 := blk_frozen BK202.out 0; have hfz24_1 := blk_frozen BK202.out 1)); try go_wp2_with (first | ((with_reducible refine gate_dst (N := 4) rfl ?_); (try (refine gate_guard (by rfl) ?_; dsimp only)); refine box_event ?hg (N := 4) ?hd (cs := #[.int .i64 0, .int .i64 0]) (t := 78) ?hr ?_; (case hd => rfl); (case hg => rfl); (case hr => first | (go_simp; done) | (go_simp; rfl)); intro gb202 hg w22 hbox hb; have n0_ := Aside0.mk (blk_below (g := gb200) (o := .cells #[.bool a0_0, .slice (some ad201) l0_1.length c0_1] 56 (0, 0)) (by (with_reducible repeat (first | refine blk_drewN ?_ _ | refine blk_drew ?_ | refine blk_alloc ?_ _)); exact BK200.out) hb); have n1_ := Aside0.mk (below_step (by repeat (first | (with_reducible first | exact HB.out | apply below_alloc | apply pw_below_drewN | apply below_drew1 | refine below_set ?_ GE200.out) | exact HB.out)) hb); have n2_ := Aside0.mk (hbox); have n3_ := Aside0.mk ((by rw [hg]; exact (below_size (by repeat (first | (with_reducible first | exact HB.out | apply below_alloc | apply pw_below_drewN | apply below_drew1 | refine below_set ?_ GE200.out) | exact HB.out))) : w.heap.size ≤ gb202)); have n4_ := Aside0.mk ((by rw [hg]; exact (below_size (by repeat (first | (with_reducible first | exact HB.out | apply below_alloc | apply pw_below_drewN | apply below_drew1 | refine below_set ?_ GE200.out) | exact HB.out))) : w.heap.size ≤ gb202)); have n5_ := Aside0.mk ((by rw [hg]; exact Nat.ne_of_lt (blk_lt (g := gb200) (o := .cells #[.bool a0_0, .slice (some ad201) l0_1.length c0_1] 56 (0, 0)) (by (with_reducible repeat (first | refine blk_drewN ?_ _ | refine blk_drew ?_ | refine blk_alloc ?_ _)); exact BK200.out)) : gb200 ≠ gb202)); have n6_ := Aside0.mk ((by rw [hg]; exact Nat.ne_of_gt (blk_lt (g := gb200) (o := .cells #[.bool a0_0, .slice (some ad201) l0_1.length c0_1] 56 (0, 0)) (by (with_reducible repeat (first | refine blk_drewN ?_ _ | refine blk_drew ?_ | refine blk_alloc ?_ _)); exact BK200.out)) : gb202 ≠ gb200)); clear BK200; clear HB; have BK200 := n0_; have HB := n1_; have BK202 := n2_; have GW202 := n3_; have GE202 := n4_; have NB200_202 := n5_; have NB202_200 := n6_; clear n0_ n1_ n2_ n3_ n4_ n5_ n6_; clear hb hbox hg; have hnb23 := NB202_200.out; have hnc23 := NB200_202.out; have hcz24_0 : w22.cell? ⟨gb202, 0, none⟩ = some (.int .i64 0) := (blk_cell BK202.out 0).trans rfl; have hcz24_1 : w22.cell? ⟨gb202, 1, none⟩ = some (.int .i64 0) := (blk_cell BK202.out 1).trans rfl; have hfz24_0 := blk_frozen BK202.out 0; have hfz24_1 := blk_frozen BK202.out 1)))
                      go_ret
                      exact ⟨by first | rfl | (simp [errW_none, errW_some] <;> rfl) | (simp [*, errW_none, errW_some] <;> rfl), by repeat (first | (with_reducible first | exact HB.out | apply below_alloc | apply pw_below_drewN | apply below_drew1 | refine below_set ?_ GE200.out | refine below_set ?_ GE202.out) | exact HB.out)⟩
                    · rw [if_neg c20] at H
                      have c20b0 : decide (((rd_T78 l0_1 x3_2).f1) < 0) = false := decide_eq_false c20
                      clear c20
                      by_cases c25 : ((rd_T78 l0_1 x3_2).f1) > 2147483647
                      · rw [if_pos c25] at H
                        have c25b0 : decide (2147483647 < ((rd_T78 l0_1 x3_2).f1)) = true := decide_eq_true c25
                        clear c25
                        obtain rfl := Option.some.inj H
                        have hcz26_0 : wr.cell? ⟨gb200, 0, none⟩ = some (.bool a0_0) := (blk_cell BK200.out 0).trans rfl
                        have hcz26_1 : wr.cell? ⟨gb200, 1, none⟩ = some (.slice A0_1 l0_1.length c0_1) := (blk_cell BK200.out 1).trans rfl
                        have hfz26_0 := blk_frozen BK200.out 0
                        have hfz26_1 := blk_frozen BK200.out 1
                        have p201 : 0 ≤ (x3_2 : Int) := of_decide_eq_true (by first | (with_reducible assumption) | assumption)
                        have q201 : x3_2 < (l0_1.length : Int) := of_decide_eq_true (by first | (with_reducible assumption) | assumption)
                        obtain ⟨ad201, e201, hx201_0, hx201_1⟩ := at_T78 HR0_1.out x3_2 p201 q201
                        cases e201
                        replace hx201_0 := (HB.out.cell (World.block_lt_of_cell? w _ hx201_0)).trans hx201_0
                        replace hx201_1 := (HB.out.cell (World.block_lt_of_cell? w _ hx201_1)).trans hx201_1
                        replace p201 := eq_true p201
                        replace q201 := eq_true q201
                        go_wp2_with (first | ((with_reducible refine gate_dst (N := 4) rfl ?_); (try (refine gate_guard (by rfl) ?_; dsimp only)); refine box_event ?hg (N := 4) ?hd (cs := #[.int .i64 0, .int .i64 0]) (t := 78) ?hr ?_; (case hd => rfl); (case hg => rfl); (case hr => first | (go_simp; done) | (go_simp; rfl)); intro gb202 hg w27 hbox hb; have n0_ := Aside0.mk (blk_below (g := gb200) (o := .cells #[.bool a0_0, .slice (some ad201) l0_1.length c0_1] 56 (0, 0)) (by (with_reducible repeat (first | refine blk_drewN ?_ _ | refine blk_drew ?_ | refine blk_alloc ?_ _)); exact BK200.out) hb); have n1_ := Aside0.mk (below_step (by repeat (first | (with_reducible first | exact HB.out | apply below_alloc | apply pw_below_drewN | apply below_drew1 | refine below_set ?_ GE200.out) | exact HB.out)) hb); have n2_ := Aside0.mk (hbox); have n3_ := Aside0.mk ((by rw [hg]; exact (below_size (by repeat (first | (with_reducible first | exact HB.out | apply below_alloc | apply pw_below_drewN | apply below_drew1 | refine below_set ?_ GE200.out) | exact HB.out))) : w.heap.size ≤ gb202)); have n4_ := Aside0.mk ((by rw [hg]; exact (below_size (by repeat (first | (with_reducible first | exact HB.out | apply below_alloc | apply pw_below_drewN | apply below_drew1 | refine below_set ?_ GE200.out) | exact HB.out))) : w.heap.size ≤ gb202)); have n5_ := Aside0.mk ((by rw [hg]; exact Nat.ne_of_lt (blk_lt (g := gb200) (o := .cells #[.bool a0_0, .slice (some ad201) l0_1.length c0_1] 56 (0, 0)) (by (with_reducible repeat (first | refine blk_drewN ?_ _ | refine blk_drew ?_ | refine blk_alloc ?_ _)); exact BK200.out)) : gb200 ≠ gb202)); have n6_ := Aside0.mk ((by rw [hg]; exact Nat.ne_of_gt (blk_lt (g := gb200) (o := .cells #[.bool a0_0, .slice (some ad201) l0_1.length c0_1] 56 (0, 0)) (by (with_reducible repeat (first | refine blk_drewN ?_ _ | refine blk_drew ?_ | refine blk_alloc ?_ _)); exact BK200.out)) : gb202 ≠ gb200)); clear BK200; clear HB; have BK200 := n0_; have HB := n1_; have BK202 := n2_; have GW202 := n3_; have GE202 := n4_; have NB200_202 := n5_; have NB202_200 := n6_; clear n0_ n1_ n2_ n3_ n4_ n5_ n6_; clear hb hbox hg; have hnb28 := NB202_200.out; have hnc28 := NB200_202.out; have hcz29_0 : w27.cell? ⟨gb202, 0, none⟩ = some (.int .i64 0) := (blk_cell BK202.out 0).trans rfl; have hcz29_1 : w27.cell? ⟨gb202, 1, none⟩ = some (.int .i64 0) := (blk_cell BK202.out 1).trans rfl; have hfz29_0 := blk_frozen BK202.out 0; have hfz29_1 := blk_frozen BK202.out 1))
                        repeat (go_quiet (first | ((with_reducible refine gate_dst (N := 4) rfl ?_); (try (refine gate_guard (by rfl) ?_; dsimp only)); refine box_event ?hg (N := 4) ?hd (cs := #[.int .i64 0, .int .i64 0]) (t := 78) ?hr ?_; (case hd => rfl); (case hg => rfl); (case hr => first | (go_simp; done) | (go_simp; rfl)); intro gb202 hg w27 hbox hb; have n0_ := Aside0.mk (blk_below (g := gb200) (o := .cells #[.bool a0_0, .slice (some ad201) l0_1.length c0_1] 56 (0, 0)) (by (with_reducible repeat (first | refine blk_drewN ?_ _ | refine blk_drew ?_ | refine blk_alloc ?_ _)); exact BK200.out) hb); have n1_ := Aside0.mk (below_step (by repeat (first | (with_reducible first | exact HB.out | apply below_alloc | apply pw_below_drewN | apply below_drew1 | refine below_set ?_ GE200.out) | exact HB.out)) hb); have n2_ := Aside0.mk (hbox); have n3_ := Aside0.mk ((by rw [hg]; exact (below_size (by repeat (first | (with_reducible first | exact HB.out | apply below_alloc | apply pw_below_drewN | apply below_drew1 | refine below_set ?_ GE200.out) | exact HB.out))) : w.heap.size ≤ gb202)); have n4_ := Aside0.mk ((by rw [hg]; exact (below_size (by repeat (first | (with_reducible first | exact HB.out | apply below_alloc | apply pw_below_drewN | apply below_drew1 | refine below_set ?_ GE200.out) | exact HB.out))) : w.heap.size ≤ gb202)); have n5_ := Aside0.mk ((by rw [hg]; exact Nat.ne_of_lt (blk_lt (g := gb200) (o := .cells #[.bool a0_0, .slice (some ad201) l0_1.length c0_1] 56 (0, 0)) (by (with_reducible repeat (first | refine blk_drewN ?_ _ | refine blk_drew ?_ | refine blk_alloc ?_ _)); exact BK200.out)) : gb200 ≠ gb202)); have n6_ := Aside0.mk ((by rw [hg]; exact Nat.ne_of_gt (blk_lt (g := gb200) (o := .cells #[.bool a0_0, .slice (some ad201) l0_1.length c0_1] 56 (0, 0)) (by (with_reducible repeat (first | refine blk_drewN ?_ _ | refine blk_drew ?_ | refine blk_alloc ?_ _)); exact BK200.out)) : gb202 ≠ gb200)); clear BK200; clear HB; have BK200 := n0_; have HB := n1_; have BK202 := n2_; have GW202 := n3_; have GE202 := n4_; have NB200_202 := n5_; have NB202_200 := n6_; clear n0_ n1_ n2_ n3_ n4_ n5_ n6_; clear hb hbox hg; have hnb28 := NB202_200.out; have hnc28 := NB200_202.out; have hcz29_0 : w27.cell? ⟨gb202, 0, none⟩ = some (.int .i64 0) := (blk_cell BK202.out 0).trans rfl; have hcz29_1 : w27.cell? ⟨gb202, 1, none⟩ = some (.int .i64 0) := (blk_cell BK202.out 1).trans rfl; have hfz29_0 := blk_frozen BK202.out 0; have hfz29_1 := blk_frozen BK202.out 1)); try go_wp2_with (first | ((with_reducible refine gate_dst (N := 4) rfl ?_); (try (refine gate_guard (by rfl) ?_; dsimp only)); refine box_event ?hg (N := 4) ?hd (cs := #[.int .i64 0, .int .i64 0]) (t := 78) ?hr ?_; (case hd => rfl); (case hg => rfl); (case hr => first | (go_simp; done) | (go_simp; rfl)); intro gb202 hg w27 hbox hb; have n0_ := Aside0.mk (blk_below (g := gb200) (o := .cells #[.bool a0_0, .slice (some ad201) l0_1.length c0_1] 56 (0, 0)) (by (with_reducible repeat (first | refine blk_drewN ?_ _ | refine blk_drew ?_ | refine blk_alloc ?_ _)); exact BK200.out) hb); have n1_ := Aside0.mk (below_step (by repeat (first | (with_reducible first | exact HB.out | apply below_alloc | apply pw_below_drewN | apply below_drew1 | refine below_set ?_ GE200.out) | exact HB.out)) hb); have n2_ := Aside0.mk (hbox); have n3_ := Aside0.mk ((by rw [hg]; exact (below_size (by repeat (first | (with_reducible first | exact HB.out | apply below_alloc | apply pw_below_drewN | apply below_drew1 | refine below_set ?_ GE200.out) | exact HB.out))) : w.heap.size ≤ gb202)); have n4_ := Aside0.mk ((by rw [hg]; exact (below_size (by repeat (first | (with_reducible first | exact HB.out | apply below_alloc | apply pw_below_drewN | apply below_drew1 | refine below_set ?_ GE200.out) | exact HB.out))) : w.heap.size ≤ gb202)); have n5_ := Aside0.mk ((by rw [hg]; exact Nat.ne_of_lt (blk_lt (g := gb200) (o := .cells #[.bool a0_0, .slice (some ad201) l0_1.length c0_1] 56 (0, 0)) (by (with_reducible repeat (first | refine blk_drewN ?_ _ | refine blk_drew ?_ | refine blk_alloc ?_ _)); exact BK200.out)) : gb200 ≠ gb202)); have n6_ := Aside0.mk ((by rw [hg]; exact Nat.ne_of_gt (blk_lt (g := gb200) (o := .cells #[.bool a0_0, .slice (some ad201) l0_1.length c0_1] 56 (0, 0)) (by (with_reducible repeat (first | refine blk_drewN ?_ _ | refine blk_drew ?_ | refine blk_alloc ?_ _)); exact BK200.out)) : gb202 ≠ gb200)); clear BK200; clear HB; have BK200 := n0_; have HB := n1_; have BK202 := n2_; have GW202 := n3_; have GE202 := n4_; have NB200_202 := n5_; have NB202_200 := n6_; clear n0_ n1_ n2_ n3_ n4_ n5_ n6_; clear hb hbox hg; have hnb28 := NB202_200.out; have hnc28 := NB200_202.out; have hcz29_0 : w27.cell? ⟨gb202, 0, none⟩ = some (.int .i64 0) := (blk_cell BK202.out 0).trans rfl; have hcz29_1 : w27.cell? ⟨gb202, 1, none⟩ = some (.int .i64 0) := (blk_cell BK202.out 1).trans rfl; have hfz29_0 := blk_frozen BK202.out 0; have hfz29_1 := blk_frozen BK202.out 1)))
                        go_ret
                        exact ⟨by first | rfl | (simp [errW_none, errW_some] <;> rfl) | (simp [*, errW_none, errW_some] <;> rfl), by repeat (first | (with_reducible first | exact HB.out | apply below_alloc | apply pw_below_drewN | apply below_drew1 | refine below_set ?_ GE200.out | refine below_set ?_ GE202.out) | exact HB.out)⟩
                      · rw [if_neg c25] at H
                        have c25b0 : decide (2147483647 < ((rd_T78 l0_1 x3_2).f1)) = false := decide_eq_false c25
                        clear c25
                        by_cases c30 : x3_2 > 0
                        · rw [if_pos c30] at H
                          have c30b0 : decide (0 < x3_2) = true := decide_eq_true c30
                          clear c30
                          obtain ⟨ji31, hji31⟩ : ∃ j_ : Int, (wrap64 (x3_2 - 1)) = j_ := ⟨_, rfl⟩
                          replace H : (if 0 ≤ (ji31) then (if (ji31) < (l0_1.length : Int) then (if ((rd_T78 l0_1 (ji31)).f0) ≥ ((rd_T78 l0_1 x3_2).f0) then (some false) else (assartref04_Right.l0 k2 (wrap64 (x3_2 + 1)) a0_0 l0_1)) else (none)) else (none)) = some r := by first | (rw [hji31] at H; exact H) | (simp only [hji31] at H ⊢; exact H)
                          have hji31w : (IntKind.i64.wrap (x3_2 - 1)) = ji31 := (i64_w _).trans hji31
                          by_cases c32 : 0 ≤ (ji31)
                          · rw [if_pos c32] at H
                            have c32b0 : decide (0 ≤ (ji31)) = true := decide_eq_true c32
                            clear c32
                            by_cases c33 : (ji31) < (l0_1.length : Int)
                            · rw [if_pos c33] at H
                              have c33b0 : decide ((ji31) < (l0_1.length : Int)) = true := decide_eq_true c33
                              clear c33
                              by_cases c34 : ((rd_T78 l0_1 (ji31)).f0) ≥ ((rd_T78 l0_1 x3_2).f0)
                              · rw [if_pos c34] at H
                                have c34b0 : decide (((rd_T78 l0_1 x3_2).f0) ≤ ((rd_T78 l0_1 (ji31)).f0)) = true := decide_eq_true c34
                                clear c34
                                obtain rfl := Option.some.inj H
                                have hcz35_0 : wr.cell? ⟨gb200, 0, none⟩ = some (.bool a0_0) := (blk_cell BK200.out 0).trans rfl
                                have hcz35_1 : wr.cell? ⟨gb200, 1, none⟩ = some (.slice A0_1 l0_1.length c0_1) := (blk_cell BK200.out 1).trans rfl
                                have hfz35_0 := blk_frozen BK200.out 0
                                have hfz35_1 := blk_frozen BK200.out 1
                                have p201 : 0 ≤ (x3_2 : Int) := of_decide_eq_true (by first | (with_reducible assumption) | assumption)
                                have q201 : x3_2 < (l0_1.length : Int) := of_decide_eq_true (by first | (with_reducible assumption) | assumption)
                                obtain ⟨ad201, e201, hx201_0, hx201_1⟩ := at_T78 HR0_1.out x3_2 p201 q201
                                cases e201
                                replace hx201_0 := (HB.out.cell (World.block_lt_of_cell? w _ hx201_0)).trans hx201_0
                                replace hx201_1 := (HB.out.cell (World.block_lt_of_cell? w _ hx201_1)).trans hx201_1
                                replace p201 := eq_true p201
                                replace q201 := eq_true q201
                                go_wp2_with (first | ((with_reducible refine gate_dst (N := 4) rfl ?_); (try (refine gate_guard (by rfl) ?_; dsimp only)); refine box_event ?hg (N := 4) ?hd (cs := #[.int .i64 0, .int .i64 0]) (t := 78) ?hr ?_; (case hd => rfl); (case hg => rfl); (case hr => first | (go_simp; done) | (go_simp; rfl)); intro gb202 hg w36 hbox hb; have n0_ := Aside0.mk (blk_below (g := gb200) (o := .cells #[.bool a0_0, .slice (some ad201) l0_1.length c0_1] 56 (0, 0)) (by (with_reducible repeat (first | refine blk_drewN ?_ _ | refine blk_drew ?_ | refine blk_alloc ?_ _)); exact BK200.out) hb); have n1_ := Aside0.mk (below_step (by repeat (first | (with_reducible first | exact HB.out | apply below_alloc | apply pw_below_drewN | apply below_drew1 | refine below_set ?_ GE200.out) | exact HB.out)) hb); have n2_ := Aside0.mk (hbox); have n3_ := Aside0.mk ((by rw [hg]; exact (below_size (by repeat (first | (with_reducible first | exact HB.out | apply below_alloc | apply pw_below_drewN | apply below_drew1 | refine below_set ?_ GE200.out) | exact HB.out))) : w.heap.size ≤ gb202)); have n4_ := Aside0.mk ((by rw [hg]; exact (below_size (by repeat (first | (with_reducible first | exact HB.out | apply below_alloc | apply pw_below_drewN | apply below_drew1 | refine below_set ?_ GE200.out) | exact HB.out))) : w.heap.size ≤ gb202)); have n5_ := Aside0.mk ((by rw [hg]; exact Nat.ne_of_lt (blk_lt (g := gb200) (o := .cells #[.bool a0_0, .slice (some ad201) l0_1.length c0_1] 56 (0, 0)) (by (with_reducible repeat (first | refine blk_drewN ?_ _ | refine blk_drew ?_ | refine blk_alloc ?_ _)); exact BK200.out)) : gb200 ≠ gb202)); have n6_ := Aside0.mk ((by rw [hg]; exact Nat.ne_of_gt (blk_lt (g := gb200) (o := .cells #[.bool a0_0, .slice (some ad201) l0_1.length c0_1] 56 (0, 0)) (by (with_reducible repeat (first | refine blk_drewN ?_ _ | refine blk_drew ?_ | refine blk_alloc ?_ _)); exact BK200.out)) : gb202 ≠ gb200)); clear BK200; clear HB; have BK200 := n0_; have HB := n1_; have BK202 := n2_; have GW202 := n3_; have GE202 := n4_; have NB200_202 := n5_; have NB202_200 := n6_; clear n0_ n1_ n2_ n3_ n4_ n5_ n6_; clear hb hbox hg; have hnb37 := NB202_200.out; have hnc37 := NB200_202.out; have hcz38_0 : w36.cell? ⟨gb202, 0, none⟩ = some (.int .i64 0) := (blk_cell BK202.out 0).trans rfl; have hcz38_1 : w36.cell? ⟨gb202, 1, none⟩ = some (.int .i64 0) := (blk_cell BK202.out 1).trans rfl; have hfz38_0 := blk_frozen BK202.out 0; have hfz38_1 := blk_frozen BK202.out 1; have hcz39_0 : w36.cell? ⟨gb200, 0, none⟩ = some (.bool a0_0) := (blk_cell BK200.out 0).trans rfl; have hcz39_1 : w36.cell? ⟨gb200, 1, none⟩ = some (.slice (some ad201) l0_1.length c0_1) := (blk_cell BK200.out 1).trans rfl; have hfz39_0 := blk_frozen BK200.out 0; have hfz39_1 := blk_frozen BK200.out 1; have p203 : 0 ≤ ((ji31) : Int) := of_decide_eq_true (by first | (with_reducible assumption) | assumption); have q203 : (ji31) < (l0_1.length : Int) := of_decide_eq_true (by first | (with_reducible assumption) | assumption); obtain ⟨ad203, e203, hx203_0, hx203_1⟩ := at_T78 HR0_1.out (ji31) p203 q203; obtain rfl : ad201 = ad203 := (by injection e203); have hn203_0 : ad201.block ≠ gb202 := Nat.ne_of_lt (Nat.lt_of_lt_of_le (by have := World.block_lt_of_cell? _ _ hx203_0; first | rwa [add_block] at this | exact this) GW202.out); have hn203_1 : ad201.block ≠ gb202 := Nat.ne_of_lt (Nat.lt_of_lt_of_le (by have := World.block_lt_of_cell? _ _ hx203_0; first | rwa [add_block] at this | exact this) GW202.out); replace hx203_0 := (HB.out.cell (World.block_lt_of_cell? w _ hx203_0)).trans hx203_0; replace hx203_1 := (HB.out.cell (World.block_lt_of_cell? w _ hx203_1)).trans hx203_1; replace hx203_0 := (cell_far (p := ⟨gb202, 0, none⟩) (by first | (rw [add_block]; exact hn203_0) | (show (Addr.add _ _).block ≠ _; rw [add_block]; exact hn203_0) | exact hn203_0) (.int .i64 ((rd_T78 l0_1 x3_2).f0))).trans hx203_0; replace hx203_1 := (cell_far (p := ⟨gb202, 0, none⟩) (by first | (rw [add_block]; exact hn203_0) | (show (Addr.add _ _).block ≠ _; rw [add_block]; exact hn203_0) | exact hn203_0) (.int .i64 ((rd_T78 l0_1 x3_2).f0))).trans hx203_1; replace hx203_0 := (cell_far (p := ⟨gb202, 1, none⟩) (by first | (rw [add_block]; exact hn203_1) | (show (Addr.add _ _).block ≠ _; rw [add_block]; exact hn203_1) | exact hn203_1) (.int .i64 ((rd_T78 l0_1 x3_2).f1))).trans hx203_0; replace hx203_1 := (cell_far (p := ⟨gb202, 1, none⟩) (by first | (rw [add_block]; exact hn203_1) | (show (Addr.add _ _).block ≠ _; rw [add_block]; exact hn203_1) | exact hn203_1) (.int .i64 ((rd_T78 l0_1 x3_2).f1))).trans hx203_1; (try have hy203_0 := fun (n_ : Nat) => (show ((((w36.drewN n_).setCell ⟨gb202, 0, none⟩ (.int .i64 ((rd_T78 l0_1 x3_2).f0))).setCell ⟨gb202, 1, none⟩ (.int .i64 ((rd_T78 l0_1 x3_2).f1)))).cell? _ = some _ from hx203_0)); (try have hy203_1 := fun (n_ : Nat) => (show ((((w36.drewN n_).setCell ⟨gb202, 0, none⟩ (.int .i64 ((rd_T78 l0_1 x3_2).f0))).setCell ⟨gb202, 1, none⟩ (.int .i64 ((rd_T78 l0_1 x3_2).f1)))).cell? _ = some _ from hx203_1)); clear hn203_0; clear hn203_1; replace p203 := eq_true p203; replace q203 := eq_true q203))
                                repeat (go_quiet (first | ((with_reducible refine gate_dst (N := 4) rfl ?_); (try (refine gate_guard (by rfl) ?_; dsimp only)); refine box_event ?hg (N := 4) ?hd (cs := #[.int .i64 0, .int .i64 0]) (t := 78) ?hr ?_; (case hd => rfl); (case hg => rfl); (case hr => first | (go_simp; done) | (go_simp; rfl)); intro gb202 hg w36 hbox hb; have n0_ := Aside0.mk (blk_below (g := gb200) (o := .cells #[.bool a0_0, .slice (some ad201) l0_1.length c0_1] 56 (0, 0)) (by (with_reducible repeat (first | refine blk_drewN ?_ _ | refine blk_drew ?_ | refine blk_alloc ?_ _)); exact BK200.out) hb); have n1_ := Aside0.mk (below_step (by repeat (first | (with_reducible first | exact HB.out | apply below_alloc | apply pw_below_drewN | apply below_drew1 | refine below_set ?_ GE200.out) | exact HB.out)) hb); have n2_ := Aside0.mk (hbox); have n3_ := Aside0.mk ((by rw [hg]; exact (below_size (by repeat (first | (with_reducible first | exact HB.out | apply below_alloc | apply pw_below_drewN | apply below_drew1 | refine below_set ?_ GE200.out) | exact HB.out))) : w.heap.size ≤ gb202)); have n4_ := Aside0.mk ((by rw [hg]; exact (below_size (by repeat (first | (with_reducible first | exact HB.out | apply below_alloc | apply pw_below_drewN | apply below_drew1 | refine below_set ?_ GE200.out) | exact HB.out))) : w.heap.size ≤ gb202)); have n5_ := Aside0.mk ((by rw [hg]; exact Nat.ne_of_lt (blk_lt (g := gb200) (o := .cells #[.bool a0_0, .slice (some ad201) l0_1.length c0_1] 56 (0, 0)) (by (with_reducible repeat (first | refine blk_drewN ?_ _ | refine blk_drew ?_ | refine blk_alloc ?_ _)); exact BK200.out)) : gb200 ≠ gb202)); have n6_ := Aside0.mk ((by rw [hg]; exact Nat.ne_of_gt (blk_lt (g := gb200) (o := .cells #[.bool a0_0, .slice (some ad201) l0_1.length c0_1] 56 (0, 0)) (by (with_reducible repeat (first | refine blk_drewN ?_ _ | refine blk_drew ?_ | refine blk_alloc ?_ _)); exact BK200.out)) : gb202 ≠ gb200)); clear BK200; clear HB; have BK200 := n0_; have HB := n1_; have BK202 := n2_; have GW202 := n3_; have GE202 := n4_; have NB200_202 := n5_; have NB202_200 := n6_; clear n0_ n1_ n2_ n3_ n4_ n5_ n6_; clear hb hbox hg; have hnb37 := NB202_200.out; have hnc37 := NB200_202.out; have hcz38_0 : w36.cell? ⟨gb202, 0, none⟩ = some (.int .i64 0) := (blk_cell BK202.out 0).trans rfl; have hcz38_1 : w36.cell? ⟨gb202, 1, none⟩ = some (.int .i64 0) := (blk_cell BK202.out 1).trans rfl; have hfz38_0 := blk_frozen BK202.out 0; have hfz38_1 := blk_frozen BK202.out 1; have hcz39_0 : w36.cell? ⟨gb200, 0, none⟩ = some (.bool a0_0) := (blk_cell BK200.out 0).trans rfl; have hcz39_1 : w36.cell? ⟨gb200, 1, none⟩ = some (.slice (some ad201) l0_1.length c0_1) := (blk_cell BK200.out 1).trans rfl; have hfz39_0 := blk_frozen BK200.out 0; have hfz39_1 := blk_frozen BK200.out 1; have p203 : 0 ≤ ((ji31) : Int) := of_decide_eq_true (by first | (with_reducible assumption) | assumption); have q203 : (ji31) < (l0_1.length : Int) := of_decide_eq_true (by first | (with_reducible assumption) | assumption); obtain ⟨ad203, e203, hx203_0, hx203_1⟩ := at_T78 HR0_1.out (ji31) p203 q203; obtain rfl : ad201 = ad203 := (by injection e203); have hn203_0 : ad201.block ≠ gb202 := Nat.ne_of_lt (Nat.lt_of_lt_of_le (by have := World.block_lt_of_cell? _ _ hx203_0; first | rwa [add_block] at this | exact this) GW202.out); have hn203_1 : ad201.block ≠ gb202 := Nat.ne_of_lt (Nat.lt_of_lt_of_le (by have := World.block_lt_of_cell? _ _ hx203_0; first | rwa [add_block] at this | exact this) GW202.out); replace hx203_0 := (HB.out.cell (World.block_lt_of_cell? w _ hx203_0)).trans hx203_0; replace hx203_1 := (HB.out.cell (World.block_lt_of_cell? w _ hx203_1)).trans hx203_1; replace hx203_0 := (cell_far (p := ⟨gb202, 0, none⟩) (by first | (rw [add_block]; exact hn203_0) | (show (Addr.add _ _).block ≠ _; rw [add_block]; exact hn203_0) | exact hn203_0) (.int .i64 ((rd_T78 l0_1 x3_2).f0))).trans hx203_0; replace hx203_1 := (cell_far (p := ⟨gb202, 0, none⟩) (by first | (rw [add_block]; exact hn203_0) | (show (Addr.add _ _).block ≠ _; rw [add_block]; exact hn203_0) | exact hn203_0) (.int .i64 ((rd_T78 l0_1 x3_2).f0))).trans hx203_1; replace hx203_0 := (cell_far (p := ⟨gb202, 1, none⟩) (by first | (rw [add_block]; exact hn203_1) | (show (Addr.add _ _).block ≠ _; rw [add_block]; exact hn203_1) | exact hn203_1) (.int .i64 ((rd_T78 l0_1 x3_2).f1))).trans hx203_0; replace hx203_1 := (cell_far (p := ⟨gb202, 1, none⟩) (by first | (rw [add_block]; exact hn203_1) | (show (Addr.add _ _).block ≠ _; rw [add_block]; exact hn203_1) | exact hn203_1) (.int .i64 ((rd_T78 l0_1 x3_2).f1))).trans hx203_1; (try have hy203_0 := fun (n_ : Nat) => (show ((((w36.drewN n_).setCell ⟨gb202, 0, none⟩ (.int .i64 ((rd_T78 l0_1 x3_2).f0))).setCell ⟨gb202, 1, none⟩ (.int .i64 ((rd_T78 l0_1 x3_2).f1)))).cell? _ = some _ from hx203_0)); (try have hy203_1 := fun (n_ : Nat) => (show ((((w36.drewN n_).setCell ⟨gb202, 0, none⟩ (.int .i64 ((rd_T78 l0_1 x3_2).f0))).setCell ⟨gb202, 1, none⟩ (.int .i64 ((rd_T78 l0_1 x3_2).f1)))).cell? _ = some _ from hx203_1)); clear hn203_0; clear hn203_1; replace p203 := eq_true p203; replace q203 := eq_true q203)); try go_wp2_with (first | ((with_reducible refine gate_dst (N := 4) rfl ?_); (try (refine gate_guard (by rfl) ?_; dsimp only)); refine box_event ?hg (N := 4) ?hd (cs := #[.int .i64 0, .int .i64 0]) (t := 78) ?hr ?_; (case hd => rfl); (case hg => rfl); (case hr => first | (go_simp; done) | (go_simp; rfl)); intro gb202 hg w36 hbox hb; have n0_ := Aside0.mk (blk_below (g := gb200) (o := .cells #[.bool a0_0, .slice (some ad201) l0_1.length c0_1] 56 (0, 0)) (by (with_reducible repeat (first | refine blk_drewN ?_ _ | refine blk_drew ?_ | refine blk_alloc ?_ _)); exact BK200.out) hb); have n1_ := Aside0.mk (below_step (by repeat (first | (with_reducible first | exact HB.out | apply below_alloc | apply pw_below_drewN | apply below_drew1 | refine below_set ?_ GE200.out) | exact HB.out)) hb); have n2_ := Aside0.mk (hbox); have n3_ := Aside0.mk ((by rw [hg]; exact (below_size (by repeat (first | (with_reducible first | exact HB.out | apply below_alloc | apply pw_below_drewN | apply below_drew1 | refine below_set ?_ GE200.out) | exact HB.out))) : w.heap.size ≤ gb202)); have n4_ := Aside0.mk ((by rw [hg]; exact (below_size (by repeat (first | (with_reducible first | exact HB.out | apply below_alloc | apply pw_below_drewN | apply below_drew1 | refine below_set ?_ GE200.out) | exact HB.out))) : w.heap.size ≤ gb202)); have n5_ := Aside0.mk ((by rw [hg]; exact Nat.ne_of_lt (blk_lt (g := gb200) (o := .cells #[.bool a0_0, .slice (some ad201) l0_1.length c0_1] 56 (0, 0)) (by (with_reducible repeat (first | refine blk_drewN ?_ _ | refine blk_drew ?_ | refine blk_alloc ?_ _)); exact BK200.out)) : gb200 ≠ gb202)); have n6_ := Aside0.mk ((by rw [hg]; exact Nat.ne_of_gt (blk_lt (g := gb200) (o := .cells #[.bool a0_0, .slice (some ad201) l0_1.length c0_1] 56 (0, 0)) (by (with_reducible repeat (first | refine blk_drewN ?_ _ | refine blk_drew ?_ | refine blk_alloc ?_ _)); exact BK200.out)) : gb202 ≠ gb200)); clear BK200; clear HB; have BK200 := n0_; have HB := n1_; have BK202 := n2_; have GW202 := n3_; have GE202 := n4_; have NB200_202 := n5_; have NB202_200 := n6_; clear n0_ n1_ n2_ n3_ n4_ n5_ n6_; clear hb hbox hg; have hnb37 := NB202_200.out; have hnc37 := NB200_202.out; have hcz38_0 : w36.cell? ⟨gb202, 0, none⟩ = some (.int .i64 0) := (blk_cell BK202.out 0).trans rfl; have hcz38_1 : w36.cell? ⟨gb202, 1, none⟩ = some (.int .i64 0) := (blk_cell BK202.out 1).trans rfl; have hfz38_0 := blk_frozen BK202.out 0; have hfz38_1 := blk_frozen BK202.out 1; have hcz39_0 : w36.cell? ⟨gb200, 0, none⟩ = some (.bool a0_0) := (blk_cell BK200.out 0).trans rfl; have hcz39_1 : w36.cell? ⟨gb200, 1, none⟩ = some (.slice (some ad201) l0_1.length c0_1) := (blk_cell BK200.out 1).trans rfl; have hfz39_0 := blk_frozen BK200.out 0; have hfz39_1 := blk_frozen BK200.out 1; have p203 : 0 ≤ ((ji31) : Int) := of_decide_eq_true (by first | (with_reducible assumption) | assumption); have q203 : (ji31) < (l0_1.length : Int) := of_decide_eq_true (by first | (with_reducible assumption) | assumption); obtain ⟨ad203, e203, hx203_0, hx203_1⟩ := at_T78 HR0_1.out (ji31) p203 q203; obtain rfl : ad201 = ad203 := (by injection e203); have hn203_0 : ad201.block ≠ gb202 := Nat.ne_of_lt (Nat.lt_of_lt_of_le (by have := World.block_lt_of_cell? _ _ hx203_0; first | rwa [add_block] at this | exact this) GW202.out); have hn203_1 : ad201.block ≠ gb202 := Nat.ne_of_lt (Nat.lt_of_lt_of_le (by have := World.block_lt_of_cell? _ _ hx203_0; first | rwa [add_block] at this | exact this) GW202.out); replace hx203_0 := (HB.out.cell (World.block_lt_of_cell? w _ hx203_0)).trans hx203_0; replace hx203_1 := (HB.out.cell (World.block_lt_of_cell? w _ hx203_1)).trans hx203_1; replace hx203_0 := (cell_far (p := ⟨gb202, 0, none⟩) (by first | (rw [add_block]; exact hn203_0) | (show (Addr.add _ _).block ≠ _; rw [add_block]; exact hn203_0) | exact hn203_0) (.int .i64 ((rd_T78 l0_1 x3_2).f0))).trans hx203_0; replace hx203_1 := (cell_far (p := ⟨gb202, 0, none⟩) (by first | (rw [add_block]; exact hn203_0) | (show (Addr.add _ _).block ≠ _; rw [add_block]; exact hn203_0) | exact hn203_0) (.int .i64 ((rd_T78 l0_1 x3_2).f0))).trans hx203_1; replace hx203_0 := (cell_far (p := ⟨gb202, 1, none⟩) (by first | (rw [add_block]; exact hn203_1) | (show (Addr.add _ _).block ≠ _; rw [add_block]; exact hn203_1) | exact hn203_1) (.int .i64 ((rd_T78 l0_1 x3_2).f1))).trans hx203_0; replace hx203_1 := (cell_far (p := ⟨gb202, 1, none⟩) (by first | (rw [add_block]; exact hn203_1) | (show (Addr.add _ _).block ≠ _; rw [add_block]; exact hn203_1) | exact hn203_1) (.int .i64 ((rd_T78 l0_1 x3_2).f1))).trans hx203_1; (try have hy203_0 := fun (n_ : Nat) => (show ((((w36.drewN n_).setCell ⟨gb202, 0, none⟩ (.int .i64 ((rd_T78 l0_1 x3_2).f0))).setCell ⟨gb202, 1, none⟩ (.int .i64 ((rd_T78 l0_1 x3_2).f1)))).cell? _ = some _ from hx203_0)); (try have hy203_1 := fun (n_ : Nat) => (show ((((w36.drewN n_).setCell ⟨gb202, 0, none⟩ (.int .i64 ((rd_T78 l0_1 x3_2).f0))).setCell ⟨gb202, 1, none⟩ (.int .i64 ((rd_T78 l0_1 x3_2).f1)))).cell? _ = some _ from hx203_1)); clear hn203_0; clear hn203_1; replace p203 := eq_true p203; replace q203 := eq_true q203)))
                                go_ret
                                exact ⟨by first | rfl | (simp [errW_none, errW_some] <;> rfl) | (simp only [← hji31]; first | rfl | (simp [errW_none, errW_some] <;> rfl)) | (simp [*, errW_none, errW_some] <;> rfl), by repeat (first | (with_reducible first | exact HB.out | apply below_alloc | apply pw_below_drewN | apply below_drew1 | refine below_set ?_ GE200.out | refine below_set ?_ GE202.out) | exact HB.out)⟩
                              · rw [if_neg c34] at H
                                have c34b0 : decide (((rd_T78 l0_1 x3_2).f0) ≤ ((rd_T78 l0_1 (ji31)).f0)) = false := decide_eq_false c34
                                clear c34
                                have H' := Aside0.mk H
                                clear H
                                have hcz40_0 : wr.cell? ⟨gb200, 0, none⟩ = some (.bool a0_0) := (blk_cell BK200.out 0).trans rfl
                                have hcz40_1 : wr.cell? ⟨gb200, 1, none⟩ = some (.slice A0_1 l0_1.length c0_1) := (blk_cell BK200.out 1).trans rfl
                                have hfz40_0 := blk_frozen BK200.out 0
                                have hfz40_1 := blk_frozen BK200.out 1
                                have p201 : 0 ≤ (x3_2 : Int) := of_decide_eq_true (by first | (with_reducible assumption) | assumption)
                                have q201 : x3_2 < (l0_1.length : Int) := of_decide_eq_true (by first | (with_reducible assumption) | assumption)
                                obtain ⟨ad201, e201, hx201_0, hx201_1⟩ := at_T78 HR0_1.out x3_2 p201 q201
                                cases e201
                                replace hx201_0 := (HB.out.cell (World.block_lt_of_cell? w _ hx201_0)).trans hx201_0
                                replace hx201_1 := (HB.out.cell (World.block_lt_of_cell? w _ hx201_1)).trans hx201_1
                                replace p201 := eq_true p201
                                replace q201 := eq_true q201
                                go_wp2_with (first | ((with_reducible refine gate_dst (N := 4) rfl ?_); (try (refine gate_guard (by rfl) ?_; dsimp only)); refine box_event ?hg (N := 4) ?hd (cs := #[.int .i64 0, .int .i64 0]) (t := 78) ?hr ?_; (case hd => rfl); (case hg => rfl); (case hr => first | (go_simp; done) | (go_simp; rfl)); intro gb202 hg w41 hbox hb; have n0_ := Aside0.mk (blk_below (g := gb200) (o := .cells #[.bool a0_0, .slice (some ad201) l0_1.length c0_1] 56 (0, 0)) (by (with_reducible repeat (first | refine blk_drewN ?_ _ | refine blk_drew ?_ | refine blk_alloc ?_ _)); exact BK200.out) hb); have n1_ := Aside0.mk (below_step (by repeat (first | (with_reducible first | exact HB.out | apply below_alloc | apply pw_below_drewN | apply below_drew1 | refine below_set ?_ GE200.out) | exact HB.out)) hb); have n2_ := Aside0.mk (hbox); have n3_ := Aside0.mk ((by rw [hg]; exact (below_size (by repeat (first | (with_reducible first | exact HB.out | apply below_alloc | apply pw_below_drewN | apply below_drew1 | refine below_set ?_ GE200.out) | exact HB.out))) : w.heap.size ≤ gb202)); have n4_ := Aside0.mk ((by rw [hg]; exact (below_size (by repeat (first | (with_reducible first | exact HB.out | apply below_alloc | apply pw_below_drewN | apply below_drew1 | refine below_set ?_ GE200.out) | exact HB.out))) : w.heap.size ≤ gb202)); have n5_ := Aside0.mk ((by rw [hg]; exact Nat.ne_of_lt (blk_lt (g := gb200) (o := .cells #[.bool a0_0, .slice (some ad201) l0_1.length c0_1] 56 (0, 0)) (by (with_reducible repeat (first | refine blk_drewN ?_ _ | refine blk_drew ?_ | refine blk_alloc ?_ _)); exact BK200.out)) : gb200 ≠ gb202)); have n6_ := Aside0.mk ((by rw [hg]; exact Nat.ne_of_gt (blk_lt (g := gb200) (o := .cells #[.bool a0_0, .slice (some ad201) l0_1.length c0_1] 56 (0, 0)) (by (with_reducible repeat (first | refine blk_drewN ?_ _ | refine blk_drew ?_ | refine blk_alloc ?_ _)); exact BK200.out)) : gb202 ≠ gb200)); clear BK200; clear HB; have BK200 := n0_; have HB := n1_; have BK202 := n2_; have GW202 := n3_; have GE202 := n4_; have NB200_202 := n5_; have NB202_200 := n6_; clear n0_ n1_ n2_ n3_ n4_ n5_ n6_; clear hb hbox hg; have hnb42 := NB202_200.out; have hnc42 := NB200_202.out; have hcz43_0 : w41.cell? ⟨gb202, 0, none⟩ = some (.int .i64 0) := (blk_cell BK202.out 0).trans rfl; have hcz43_1 : w41.cell? ⟨gb202, 1, none⟩ = some (.int .i64 0) := (blk_cell BK202.out 1).trans rfl; have hfz43_0 := blk_frozen BK202.out 0; have hfz43_1 := blk_frozen BK202.out 1; have hcz44_0 : w41.cell? ⟨gb200, 0, none⟩ = some (.bool a0_0) := (blk_cell BK200.out 0).trans rfl; have hcz44_1 : w41.cell? ⟨gb200, 1, none⟩ = some (.slice (some ad201) l0_1.length c0_1) := (blk_cell BK200.out 1).trans rfl; have hfz44_0 := blk_frozen BK200.out 0; have hfz44_1 := blk_frozen BK200.out 1; have p203 : 0 ≤ ((ji31) : Int) := of_decide_eq_true (by first | (with_reducible assumption) | assumption); have q203 : (ji31) < (l0_1.length : Int) := of_decide_eq_true (by first | (with_reducible assumption) | assumption); obtain ⟨ad203, e203, hx203_0, hx203_1⟩ := at_T78 HR0_1.out (ji31) p203 q203; obtain rfl : ad201 = ad203 := (by injection e203); have hn203_0 : ad201.block ≠ gb202 := Nat.ne_of_lt (Nat.lt_of_lt_of_le (by have := World.block_lt_of_cell? _ _ hx203_0; first | rwa [add_block] at this | exact this) GW202.out); have hn203_1 : ad201.block ≠ gb202 := Nat.ne_of_lt (Nat.lt_of_lt_of_le (by have := World.block_lt_of_cell? _ _ hx203_0; first | rwa [add_block] at this | exact this) GW202.out); replace hx203_0 := (HB.out.cell (World.block_lt_of_cell? w _ hx203_0)).trans hx203_0; replace hx203_1 := (HB.out.cell (World.block_lt_of_cell? w _ hx203_1)).trans hx203_1; replace hx203_0 := (cell_far (p := ⟨gb202, 0, none⟩) (by first | (rw [add_block]; exact hn203_0) | (show (Addr.add _ _).block ≠ _; rw [add_block]; exact hn203_0) | exact hn203_0) (.int .i64 ((rd_T78 l0_1 x3_2).f0))).trans hx203_0; replace hx203_1 := (cell_far (p := ⟨gb202, 0, none⟩) (by first | (rw [add_block]; exact hn203_0) | (show (Addr.add _ _).block ≠ _; rw [add_block]; exact hn203_0) | exact hn203_0) (.int .i64 ((rd_T78 l0_1 x3_2).f0))).trans hx203_1; replace hx203_0 := (cell_far (p := ⟨gb202, 1, none⟩) (by first | (rw [add_block]; exact hn203_1) | (show (Addr.add _ _).block ≠ _; rw [add_block]; exact hn203_1) | exact hn203_1) (.int .i64 ((rd_T78 l0_1 x3_2).f1))).trans hx203_0; replace hx203_1 := (cell_far (p := ⟨gb202, 1, none⟩) (by first | (rw [add_block]; exact hn203_1) | (show (Addr.add _ _).block ≠ _; rw [add_block]; exact hn203_1) | exact hn203_1) (.int .i64 ((rd_T78 l0_1 x3_2).f1))).trans hx203_1; (try have hy203_0 := fun (n_ : Nat) => (show ((((w41.drewN n_).setCell ⟨gb202, 0, none⟩ (.int .i64 ((rd_T78 l0_1 x3_2).f0))).setCell ⟨gb202, 1, none⟩ (.int .i64 ((rd_T78 l0_1 x3_2).f1)))).cell? _ = some _ from hx203_0)); (try have hy203_1 := fun (n_ : Nat) => (show ((((w41.drewN n_).setCell ⟨gb202, 0, none⟩ (.int .i64 ((rd_T78 l0_1 x3_2).f0))).setCell ⟨gb202, 1, none⟩ (.int .i64 ((rd_T78 l0_1 x3_2).f1)))).cell? _ = some _ from hx203_1)); clear hn203_0; clear hn203_1; replace p203 := eq_true p203; replace q203 := eq_true q203))
                                repeat (go_quiet (first | ((with_reducible refine gate_dst (N := 4) rfl ?_); (try (refine gate_guard (by rfl) ?_; dsimp only)); refine box_event ?hg (N := 4) ?hd (cs := #[.int .i64 0, .int .i64 0]) (t := 78) ?hr ?_; (case hd => rfl); (case hg => rfl); (case hr => first | (go_simp; done) | (go_simp; rfl)); intro gb202 hg w41 hbox hb; have n0_ := Aside0.mk (blk_below (g := gb200) (o := .cells #[.bool a0_0, .slice (some ad201) l0_1.length c0_1] 56 (0, 0)) (by (with_reducible repeat (first | refine blk_drewN ?_ _ | refine blk_drew ?_ | refine blk_alloc ?_ _)); exact BK200.out) hb); have n1_ := Aside0.mk (below_step (by repeat (first | (with_reducible first | exact HB.out | apply below_alloc | apply pw_below_drewN | apply below_drew1 | refine below_set ?_ GE200.out) | exact HB.out)) hb); have n2_ := Aside0.mk (hbox); have n3_ := Aside0.mk ((by rw [hg]; exact (below_size (by repeat (first | (with_reducible first | exact HB.out | apply below_alloc | apply pw_below_drewN | apply below_drew1 | refine below_set ?_ GE200.out) | exact HB.out))) : w.heap.size ≤ gb202)); have n4_ := Aside0.mk ((by rw [hg]; exact (below_size (by repeat (first | (with_reducible first | exact HB.out | apply below_alloc | apply pw_below_drewN | apply below_drew1 | refine below_set ?_ GE200.out) | exact HB.out))) : w.heap.size ≤ gb202)); have n5_ := Aside0.mk ((by rw [hg]; exact Nat.ne_of_lt (blk_lt (g := gb200) (o := .cells #[.bool a0_0, .slice (some ad201) l0_1.length c0_1] 56 (0, 0)) (by (with_reducible repeat (first | refine blk_drewN ?_ _ | refine blk_drew ?_ | refine blk_alloc ?_ _)); exact BK200.out)) : gb200 ≠ gb202)); have n6_ := Aside0.mk ((by rw [hg]; exact Nat.ne_of_gt (blk_lt (g := gb200) (o := .cells #[.bool a0_0, .slice (some ad201) l0_1.length c0_1] 56 (0, 0)) (by (with_reducible repeat (first | refine blk_drewN ?_ _ | refine blk_drew ?_ | refine blk_alloc ?_ _)); exact BK200.out)) : gb202 ≠ gb200)); clear BK200; clear HB; have BK200 := n0_; have HB := n1_; have BK202 := n2_; have GW202 := n3_; have GE202 := n4_; have NB200_202 := n5_; have NB202_200 := n6_; clear n0_ n1_ n2_ n3_ n4_ n5_ n6_; clear hb hbox hg; have hnb42 := NB202_200.out; have hnc42 := NB200_202.out; have hcz43_0 : w41.cell? ⟨gb202, 0, none⟩ = some (.int .i64 0) := (blk_cell BK202.out 0).trans rfl; have hcz43_1 : w41.cell? ⟨gb202, 1, none⟩ = some (.int .i64 0) := (blk_cell BK202.out 1).trans rfl; have hfz43_0 := blk_frozen BK202.out 0; have hfz43_1 := blk_frozen BK202.out 1; have hcz44_0 : w41.cell? ⟨gb200, 0, none⟩ = some (.bool a0_0) := (blk_cell BK200.out 0).trans rfl; have hcz44_1 : w41.cell? ⟨gb200, 1, none⟩ = some (.slice (some ad201) l0_1.length c0_1) := (blk_cell BK200.out 1).trans rfl; have hfz44_0 := blk_frozen BK200.out 0; have hfz44_1 := blk_frozen BK200.out 1; have p203 : 0 ≤ ((ji31) : Int) := of_decide_eq_true (by first | (with_reducible assumption) | assumption); have q203 : (ji31) < (l0_1.length : Int) := of_decide_eq_true (by first | (with_reducible assumption) | assumption); obtain ⟨ad203, e203, hx203_0, hx203_1⟩ := at_T78 HR0_1.out (ji31) p203 q203; obtain rfl : ad201 = ad203 := (by injection e203); have hn203_0 : ad201.block ≠ gb202 := Nat.ne_of_lt (Nat.lt_of_lt_of_le (by have := World.block_lt_of_cell? _ _ hx203_0; first | rwa [add_block] at this | exact this) GW202.out); have hn203_1 : ad201.block ≠ gb202 := Nat.ne_of_lt (Nat.lt_of_lt_of_le (by have := World.block_lt_of_cell? _ _ hx203_0; first | rwa [add_block] at this | exact this) GW202.out); replace hx203_0 := (HB.out.cell (World.block_lt_of_cell? w _ hx203_0)).trans hx203_0; replace hx203_1 := (HB.out.cell (World.block_lt_of_cell? w _ hx203_1)).trans hx203_1; replace hx203_0 := (cell_far (p := ⟨gb202, 0, none⟩) (by first | (rw [add_block]; exact hn203_0) | (show (Addr.add _ _).block ≠ _; rw [add_block]; exact hn203_0) | exact hn203_0) (.int .i64 ((rd_T78 l0_1 x3_2).f0))).trans hx203_0; replace hx203_1 := (cell_far (p := ⟨gb202, 0, none⟩) (by first | (rw [add_block]; exact hn203_0) | (show (Addr.add _ _).block ≠ _; rw [add_block]; exact hn203_0) | exact hn203_0) (.int .i64 ((rd_T78 l0_1 x3_2).f0))).trans hx203_1; replace hx203_0 := (cell_far (p := ⟨gb202, 1, none⟩) (by first | (rw [add_block]; exact hn203_1) | (show (Addr.add _ _).block ≠ _; rw [add_block]; exact hn203_1) | exact hn203_1) (.int .i64 ((rd_T78 l0_1 x3_2).f1))).trans hx203_0; replace hx203_1 := (cell_far (p := ⟨gb202, 1, none⟩) (by first | (rw [add_block]; exact hn203_1) | (show (Addr.add _ _).block ≠ _; rw [add_block]; exact hn203_1) | exact hn203_1) (.int .i64 ((rd_T78 l0_1 x3_2).f1))).trans hx203_1; (try have hy203_0 := fun (n_ : Nat) => (show ((((w41.drewN n_).setCell ⟨gb202, 0, none⟩ (.int .i64 ((rd_T78 l0_1 x3_2).f0))).setCell ⟨gb202, 1, none⟩ (.int .i64 ((rd_T78 l0_1 x3_2).f1)))).cell? _ = some _ from hx203_0)); (try have hy203_1 := fun (n_ : Nat) => (show ((((w41.drewN n_).setCell ⟨gb202, 0, none⟩ (.int .i64 ((rd_T78 l0_1 x3_2).f0))).setCell ⟨gb202, 1, none⟩ (.int .i64 ((rd_T78 l0_1 x3_2).f1)))).cell? _ = some _ from hx203_1)); clear hn203_0; clear hn203_1; replace p203 := eq_true p203; replace q203 := eq_true q203)); try go_wp2_with (first | ((with_reducible refine gate_dst (N := 4) rfl ?_); (try (refine gate_guard (by rfl) ?_; dsimp only)); refine box_event ?hg (N := 4) ?hd (cs := #[.int .i64 0, .int .i64 0]) (t := 78) ?hr ?_; (case hd => rfl); (case hg => rfl); (case hr => first | (go_simp; done) | (go_simp; rfl)); intro gb202 hg w41 hbox hb; have n0_ := Aside0.mk (blk_below (g := gb200) (o := .cells #[.bool a0_0, .slice (some ad201) l0_1.length c0_1] 56 (0, 0)) (by (with_reducible repeat (first | refine blk_drewN ?_ _ | refine blk_drew ?_ | refine blk_alloc ?_ _)); exact BK200.out) hb); have n1_ := Aside0.mk (below_step (by repeat (first | (with_reducible first | exact HB.out | apply below_alloc | apply pw_below_drewN | apply below_drew1 | refine below_set ?_ GE200.out) | exact HB.out)) hb); have n2_ := Aside0.mk (hbox); have n3_ := Aside0.mk ((by rw [hg]; exact (below_size (by repeat (first | (with_reducible first | exact HB.out | apply below_alloc | apply pw_below_drewN | apply below_drew1 | refine below_set ?_ GE200.out) | exact HB.out))) : w.heap.size ≤ gb202)); have n4_ := Aside0.mk ((by rw [hg]; exact (below_size (by repeat (first | (with_reducible first | exact HB.out | apply below_alloc | apply pw_below_drewN | apply below_drew1 | refine below_set ?_ GE200.out) | exact HB.out))) : w.heap.size ≤ gb202)); have n5_ := Aside0.mk ((by rw [hg]; exact Nat.ne_of_lt (blk_lt (g := gb200) (o := .cells #[.bool a0_0, .slice (some ad201) l0_1.length c0_1] 56 (0, 0)) (by (with_reducible repeat (first | refine blk_drewN ?_ _ | refine blk_drew ?_ | refine blk_alloc ?_ _)); exact BK200.out)) : gb200 ≠ gb202)); have n6_ := Aside0.mk ((by rw [hg]; exact Nat.ne_of_gt (blk_lt (g := gb200) (o := .cells #[.bool a0_0, .slice (some ad201) l0_1.length c0_1] 56 (0, 0)) (by (with_reducible repeat (first | refine blk_drewN ?_ _ | refine blk_drew ?_ | refine blk_alloc ?_ _)); exact BK200.out)) : gb202 ≠ gb200)); clear BK200; clear HB; have BK200 := n0_; have HB := n1_; have BK202 := n2_; have GW202 := n3_; have GE202 := n4_; have NB200_202 := n5_; have NB202_200 := n6_; clear n0_ n1_ n2_ n3_ n4_ n5_ n6_; clear hb hbox hg; have hnb42 := NB202_200.out; have hnc42 := NB200_202.out; have hcz43_0 : w41.cell? ⟨gb202, 0, none⟩ = some (.int .i64 0) := (blk_cell BK202.out 0).trans rfl; have hcz43_1 : w41.cell? ⟨gb202, 1, none⟩ = some (.int .i64 0) := (blk_cell BK202.out 1).trans rfl; have hfz43_0 := blk_frozen BK202.out 0; have hfz43_1 := blk_frozen BK202.out 1; have hcz44_0 : w41.cell? ⟨gb200, 0, none⟩ = some (.bool a0_0) := (blk_cell BK200.out 0).trans rfl; have hcz44_1 : w41.cell? ⟨gb200, 1, none⟩ = some (.slice (some ad201) l0_1.length c0_1) := (blk_cell BK200.out 1).trans rfl; have hfz44_0 := blk_frozen BK200.out 0; have hfz44_1 := blk_frozen BK200.out 1; have p203 : 0 ≤ ((ji31) : Int) := of_decide_eq_true (by first | (with_reducible assumption) | assumption); have q203 : (ji31) < (l0_1.length : Int) := of_decide_eq_true (by first | (with_reducible assumption) | assumption); obtain ⟨ad203, e203, hx203_0, hx203_1⟩ := at_T78 HR0_1.out (ji31) p203 q203; obtain rfl : ad201 = ad203 := (by injection e203); have hn203_0 : ad201.block ≠ gb202 := Nat.ne_of_lt (Nat.lt_of_lt_of_le (by have := World.block_lt_of_cell? _ _ hx203_0; first | rwa [add_block] at this | exact this) GW202.out); have hn203_1 : ad201.block ≠ gb202 := Nat.ne_of_lt (Nat.lt_of_lt_of_le (by have := World.block_lt_of_cell? _ _ hx203_0; first | rwa [add_block] at this | exact this) GW202.out); replace hx203_0 := (HB.out.cell (World.block_lt_of_cell? w _ hx203_0)).trans hx203_0; replace hx203_1 := (HB.out.cell (World.block_lt_of_cell? w _ hx203_1)).trans hx203_1; replace hx203_0 := (cell_far (p := ⟨gb202, 0, none⟩) (by first | (rw [add_block]; exact hn203_0) | (show (Addr.add _ _).block ≠ _; rw [add_block]; exact hn203_0) | exact hn203_0) (.int .i64 ((rd_T78 l0_1 x3_2).f0))).trans hx203_0; replace hx203_1 := (cell_far (p := ⟨gb202, 0, none⟩) (by first | (rw [add_block]; exact hn203_0) | (show (Addr.add _ _).block ≠ _; rw [add_block]; exact hn203_0) | exact hn203_0) (.int .i64 ((rd_T78 l0_1 x3_2).f0))).trans hx203_1; replace hx203_0 := (cell_far (p := ⟨gb202, 1, none⟩) (by first | (rw [add_block]; exact hn203_1) | (show (Addr.add _ _).block ≠ _; rw [add_block]; exact hn203_1) | exact hn203_1) (.int .i64 ((rd_T78 l0_1 x3_2).f1))).trans hx203_0; replace hx203_1 := (cell_far (p := ⟨gb202, 1, none⟩) (by first | (rw [add_block]; exact hn203_1) | (show (Addr.add _ _).block ≠ _; rw [add_block]; exact hn203_1) | exact hn203_1) (.int .i64 ((rd_T78 l0_1 x3_2).f1))).trans hx203_1; (try have hy203_0 := fun (n_ : Nat) => (show ((((w41.drewN n_).setCell ⟨gb202, 0, none⟩ (.int .i64 ((rd_T78 l0_1 x3_2).f0))).setCell ⟨gb202, 1, none⟩ (.int .i64 ((rd_T78 l0_1 x3_2).f1)))).cell? _ = some _ from hx203_0)); (try have hy203_1 := fun (n_ : Nat) => (show ((((w41.drewN n_).setCell ⟨gb202, 0, none⟩ (.int .i64 ((rd_T78 l0_1 x3_2).f0))).setCell ⟨gb202, 1, none⟩ (.int .i64 ((rd_T78 l0_1 x3_2).f1)))).cell? _ = some _ from hx203_1)); clear hn203_0; clear hn203_1; replace p203 := eq_true p203; replace q203 := eq_true q203)))
                                go_roundg k2
                                case measure => have := HJ1.out; have := HK2.out; omega
                                case rel => exact ⟨(wrap64 (x3_2 + 1)), (by first | rfl | (simp; done) | (simp [*]; done)), H', ⟨by have := HJ1.out; have := HK2.out; omega⟩, ⟨by (with_reducible repeat (first | refine blk_drewN ?_ _ | refine blk_drew ?_ | refine blk_alloc ?_ _)); refine blk_far ?_ NB200_202.out _; (with_reducible repeat (first | refine blk_drewN ?_ _ | refine blk_drew ?_ | refine blk_alloc ?_ _)); refine blk_far ?_ NB200_202.out _; (with_reducible repeat (first | refine blk_drewN ?_ _ | refine blk_drew ?_ | refine blk_alloc ?_ _)); exact BK200.out⟩, ⟨by repeat (first | (with_reducible first | exact HB.out | apply below_alloc | apply pw_below_drewN | apply below_drew1 | refine below_set ?_ GE200.out | refine below_set ?_ GE202.out) | exact HB.out)⟩⟩
                            · rw [if_neg c33] at H
                              exact absurd H (by simp)
                          · rw [if_neg c32] at H
                            exact absurd H (by simp)
                        · rw [if_neg c30] at H
                          have c30b0 : decide (0 < x3_2) = false := decide_eq_false c30
                          clear c30
                          have H' := Aside0.mk H
                          clear H
                          have hcz45_0 : wr.cell? ⟨gb200, 0, none⟩ = some (.bool a0_0) := (blk_cell BK200.out 0).trans rfl
                          have hcz45_1 : wr.cell? ⟨gb200, 1, none⟩ = some (.slice A0_1 l0_1.length c0_1) := (blk_cell BK200.out 1).trans rfl
                          have hfz45_0 := blk_frozen BK200.out 0
                          have hfz45_1 := blk_frozen BK200.out 1
                          have p201 : 0 ≤ (x3_2 : Int) := of_decide_eq_true (by first | (with_reducible assumption) | assumption)
                          have q201 : x3_2 < (l0_1.length : Int) := of_decide_eq_true (by first | (with_reducible assumption) | assumption)
                          obtain ⟨ad201, e201, hx201_0, hx201_1⟩ := at_T78 HR0_1.out x3_2 p201 q201
                          cases e201
                          replace hx201_0 := (HB.out.cell (World.block_lt_of_cell? w _ hx201_0)).trans hx201_0
                          replace hx201_1 := (HB.out.cell (World.block_lt_of_cell? w _ hx201_1)).trans hx201_1
                          replace p201 := eq_true p201
                          replace q201 := eq_true q201
                          go_wp2_with (first | ((with_reducible refine gate_dst (N := 4) rfl ?_); (try (refine gate_guard (by rfl) ?_; dsimp only)); refine box_event ?hg (N := 4) ?hd (cs := #[.int .i64 0, .int .i64 0]) (t := 78) ?hr ?_; (case hd => rfl); (case hg => rfl); (case hr => first | (go_simp; done) | (go_simp; rfl)); intro gb202 hg w46 hbox hb; have n0_ := Aside0.mk (blk_below (g := gb200) (o := .cells #[.bool a0_0, .slice (some ad201) l0_1.length c0_1] 56 (0, 0)) (by (with_reducible repeat (first | refine blk_drewN ?_ _ | refine blk_drew ?_ | refine blk_alloc ?_ _)); exact BK200.out) hb); have n1_ := Aside0.mk (below_step (by repeat (first | (with_reducible first | exact HB.out | apply below_alloc | apply pw_below_drewN | apply below_drew1 | refine below_set ?_ GE200.out) | exact HB.out)) hb); have n2_ := Aside0.mk (hbox); have n3_ := Aside0.mk ((by rw [hg]; exact (below_size (by repeat (first | (with_reducible first | exact HB.out | apply below_alloc | apply pw_below_drewN | apply below_drew1 | refine below_set ?_ GE200.out) | exact HB.out))) : w.heap.size ≤ gb202)); have n4_ := Aside0.mk ((by rw [hg]; exact (below_size (by repeat (first | (with_reducible first | exact HB.out | apply below_alloc | apply pw_below_drewN | apply below_drew1 | refine below_set ?_ GE200.out) | exact HB.out))) : w.heap.size ≤ gb202)); have n5_ := Aside0.mk ((by rw [hg]; exact Nat.ne_of_lt (blk_lt (g := gb200) (o := .cells #[.bool a0_0, .slice (some ad201) l0_1.length c0_1] 56 (0, 0)) (by (with_reducible repeat (first | refine blk_drewN ?_ _ | refine blk_drew ?_ | refine blk_alloc ?_ _)); exact BK200.out)) : gb200 ≠ gb202)); have n6_ := Aside0.mk ((by rw [hg]; exact Nat.ne_of_gt (blk_lt (g := gb200) (o := .cells #[.bool a0_0, .slice (some ad201) l0_1.length c0_1] 56 (0, 0)) (by (with_reducible repeat (first | refine blk_drewN ?_ _ | refine blk_drew ?_ | refine blk_alloc ?_ _)); exact BK200.out)) : gb202 ≠ gb200)); clear BK200; clear HB; have BK200 := n0_; have HB := n1_; have BK202 := n2_; have GW202 := n3_; have GE202 := n4_; have NB200_202 := n5_; have NB202_200 := n6_; clear n0_ n1_ n2_ n3_ n4_ n5_ n6_; clear hb hbox hg; have hnb47 := NB202_200.out; have hnc47 := NB200_202.out; have hcz48_0 : w46.cell? ⟨gb202, 0, none⟩ = some (.int .i64 0) := (blk_cell BK202.out 0).trans rfl; have hcz48_1 : w46.cell? ⟨gb202, 1, none⟩ = some (.int .i64 0) := (blk_cell BK202.out 1).trans rfl; have hfz48_0 := blk_frozen BK202.out 0; have hfz48_1 := blk_frozen BK202.out 1))
                          repeat (go_quiet (first | ((with_reducible refine gate_dst (N := 4) rfl ?_); (try (refine gate_guard (by rfl) ?_; dsimp only)); refine box_event ?hg (N := 4) ?hd (cs := #[.int .i64 0, .int .i64 0]) (t := 78) ?hr ?_; (case hd => rfl); (case hg => rfl); (case hr => first | (go_simp; done) | (go_simp; rfl)); intro gb202 hg w46 hbox hb; have n0_ := Aside0.mk (blk_below (g := gb200) (o := .cells #[.bool a0_0, .slice (some ad201) l0_1.length c0_1] 56 (0, 0)) (by (with_reducible repeat (first | refine blk_drewN ?_ _ | refine blk_drew ?_ | refine blk_alloc ?_ _)); exact BK200.out) hb); have n1_ := Aside0.mk (below_step (by repeat (first | (with_reducible first | exact HB.out | apply below_alloc | apply pw_below_drewN | apply below_drew1 | refine below_set ?_ GE200.out) | exact HB.out)) hb); have n2_ := Aside0.mk (hbox); have n3_ := Aside0.mk ((by rw [hg]; exact (below_size (by repeat (first | (with_reducible first | exact HB.out | apply below_alloc | apply pw_below_drewN | apply below_drew1 | refine below_set ?_ GE200.out) | exact HB.out))) : w.heap.size ≤ gb202)); have n4_ := Aside0.mk ((by rw [hg]; exact (below_size (by repeat (first | (with_reducible first | exact HB.out | apply below_alloc | apply pw_below_drewN | apply below_drew1 | refine below_set ?_ GE200.out) | exact HB.out))) : w.heap.size ≤ gb202)); have n5_ := Aside0.mk ((by rw [hg]; exact Nat.ne_of_lt (blk_lt (g := gb200) (o := .cells #[.bool a0_0, .slice (some ad201) l0_1.length c0_1] 56 (0, 0)) (by (with_reducible repeat (first | refine blk_drewN ?_ _ | refine blk_drew ?_ | refine blk_alloc ?_ _)); exact BK200.out)) : gb200 ≠ gb202)); have n6_ := Aside0.mk ((by rw [hg]; exact Nat.ne_of_gt (blk_lt (g := gb200) (o := .cells #[.bool a0_0, .slice (some ad201) l0_1.length c0_1] 56 (0, 0)) (by (with_reducible repeat (first | refine blk_drewN ?_ _ | refine blk_drew ?_ | refine blk_alloc ?_ _)); exact BK200.out)) : gb202 ≠ gb200)); clear BK200; clear HB; have BK200 := n0_; have HB := n1_; have BK202 := n2_; have GW202 := n3_; have GE202 := n4_; have NB200_202 := n5_; have NB202_200 := n6_; clear n0_ n1_ n2_ n3_ n4_ n5_ n6_; clear hb hbox hg; have hnb47 := NB202_200.out; have hnc47 := NB200_202.out; have hcz48_0 : w46.cell? ⟨gb202, 0, none⟩ = some (.int .i64 0) := (blk_cell BK202.out 0).trans rfl; have hcz48_1 : w46.cell? ⟨gb202, 1, none⟩ = some (.int .i64 0) := (blk_cell BK202.out 1).trans rfl; have hfz48_0 := blk_frozen BK202.out 0; have hfz48_1 := blk_frozen BK202.out 1)); try go_wp2_with (first | ((with_reducible refine gate_dst (N := 4) rfl ?_); (try (refine gate_guard (by rfl) ?_; dsimp only)); refine box_event ?hg (N := 4) ?hd (cs := #[.int .i64 0, .int .i64 0]) (t := 78) ?hr ?_; (case hd => rfl); (case hg => rfl); (case hr => first | (go_simp; done) | (go_simp; rfl)); intro gb202 hg w46 hbox hb; have n0_ := Aside0.mk (blk_below (g := gb200) (o := .cells #[.bool a0_0, .slice (some ad201) l0_1.length c0_1] 56 (0, 0)) (by (with_reducible repeat (first | refine blk_drewN ?_ _ | refine blk_drew ?_ | refine blk_alloc ?_ _)); exact BK200.out) hb); have n1_ := Aside0.mk (below_step (by repeat (first | (with_reducible first | exact HB.out | apply below_alloc | apply pw_below_drewN | apply below_drew1 | refine below_set ?_ GE200.out) | exact HB.out)) hb); have n2_ := Aside0.mk (hbox); have n3_ := Aside0.mk ((by rw [hg]; exact (below_size (by repeat (first | (with_reducible first | exact HB.out | apply below_alloc | apply pw_below_drewN | apply below_drew1 | refine below_set ?_ GE200.out) | exact HB.out))) : w.heap.size ≤ gb202)); have n4_ := Aside0.mk ((by rw [hg]; exact (below_size (by repeat (first | (with_reducible first | exact HB.out | apply below_alloc | apply pw_below_drewN | apply below_drew1 | refine below_set ?_ GE200.out) | exact HB.out))) : w.heap.size ≤ gb202)); have n5_ := Aside0.mk ((by rw [hg]; exact Nat.ne_of_lt (blk_lt (g := gb200) (o := .cells #[.bool a0_0, .slice (some ad201) l0_1.length c0_1] 56 (0, 0)) (by (with_reducible repeat (first | refine blk_drewN ?_ _ | refine blk_drew ?_ | refine blk_alloc ?_ _)); exact BK200.out)) : gb200 ≠ gb202)); have n6_ := Aside0.mk ((by rw [hg]; exact Nat.ne_of_gt (blk_lt (g := gb200) (o := .cells #[.bool a0_0, .slice (some ad201) l0_1.length c0_1] 56 (0, 0)) (by (with_reducible repeat (first | refine blk_drewN ?_ _ | refine blk_drew ?_ | refine blk_alloc ?_ _)); exact BK200.out)) : gb202 ≠ gb200)); clear BK200; clear HB; have BK200 := n0_; have HB := n1_; have BK202 := n2_; have GW202 := n3_; have GE202 := n4_; have NB200_202 := n5_; have NB202_200 := n6_; clear n0_ n1_ n2_ n3_ n4_ n5_ n6_; clear hb hbox hg; have hnb47 := NB202_200.out; have hnc47 := NB200_202.out; have hcz48_0 : w46.cell? ⟨gb202, 0, none⟩ = some (.int .i64 0) := (blk_cell BK202.out 0).trans rfl; have hcz48_1 : w46.cell? ⟨gb202, 1, none⟩ = some (.int .i64 0) := (blk_cell BK202.out 1).trans rfl; have hfz48_0 := blk_frozen BK202.out 0; have hfz48_1 := blk_frozen BK202.out 1)))
                          go_roundg k2
                          case measure => have := HJ1.out; have := HK2.out; omega
                          case rel => exact ⟨(wrap64 (x3_2 + 1)), (by first | rfl | (simp; done) | (simp [*]; done)), H', ⟨by have := HJ1.out; have := HK2.out; omega⟩, ⟨by (with_reducible repeat (first | refine blk_drewN ?_ _ | refine blk_drew ?_ | refine blk_alloc ?_ _)); refine blk_far ?_ NB200_202.out _; (with_reducible repeat (first | refine blk_drewN ?_ _ | refine blk_drew ?_ | refine blk_alloc ?_ _)); refine blk_far ?_ NB200_202.out _; (with_reducible repeat (first | refine blk_drewN ?_ _ | refine blk_drew ?_ | refine blk_alloc ?_ _)); exact BK200.out⟩, ⟨by repeat (first | (with_reducible first | exact HB.out | apply below_alloc | apply pw_below_drewN | apply below_drew1 | refine below_set ?_ GE200.out | refine below_set ?_ GE202.out) | exact HB.out)⟩⟩
              · rw [if_neg c9] at H
                exact absurd H (by simp)
            · rw [if_neg c8] at H
              have c8b0 : decide (x3_2 < (l0_1.length : Int)) = false := decide_eq_false c8
              clear c8
              obtain rfl := Option.some.inj H
              have hcz49_0 : wr.cell? ⟨gb200, 0, none⟩ = some (.bool a0_0) := (blk_cell BK200.out 0).trans rfl
              have hcz49_1 : wr.cell? ⟨gb200, 1, none⟩ = some (.slice A0_1 l0_1.length c0_1) := (blk_cell BK200.out 1).trans rfl
              have hfz49_0 := blk_frozen BK200.out 0
              have hfz49_1 := blk_frozen BK200.out 1
              go_wp2
              repeat (go_quiet (fail); try go_wp2)
              go_ret
              exact ⟨by first | rfl | (simp [errW_none, errW_some] <;> rfl) | (simp [*, errW_none, errW_some] <;> rfl), by repeat (first | (with_reducible first | exact HB.out | apply below_alloc | apply pw_below_drewN | apply below_drew1 | refine below_set ?_ GE200.out) | exact HB.out)⟩

end Go.Proofs.Ythjnkapkhphpeaa.P
end
section
-- Written by a program of this session (xprint.py, over the kit's print). Not trusted: Lean checks it.
namespace Go.Proofs.Ythjnkapkhphpeaa.P
open Go.RowKit Go.Proofs.YthjnkapkhphpeaaW.PrintWords Go.Proofs.YthjnkapkhphpeaaW.PrintLast Go.Proofs.YthjnkapkhphpeaaW.PrintMore
attribute [local go_sem] max2_int min2_int max_two min_two max_three min_three max_four min_four   -- for this text's walks alone
set_option linter.unusedVariables false
set_option linter.unusedSimpArgs false

/-! ### assartref04_At: function 36 -/
def assartref04_At.l0 : Nat → Int → Int → Int → Bool → List (S78) → Option (Int × Bool)
  | 0, _, _, _, _, _ => none
  | k + 1, x1, x6, x7, x308000, x308001 => if x7 < (x308001.length : Int) then (if 0 ≤ x7 then (if ((rd_T78 x308001 x7).f0) = x1 then (some (x7, true)) else (if ((rd_T78 x308001 x7).f0) < x1 then (assartref04_At.l0 k x1 (wrap64 (x6 + 1)) (wrap64 (x7 + 1)) x308000 x308001) else (assartref04_At.l0 k x1 x6 (wrap64 (x7 + 1)) x308000 x308001))) else (none)) else (if x308000 = true then (some (x6, false)) else (some (mx (wrap64 (x6 - 1)) 0, false)))
def assartref04_At.f (k : Nat) (a0_0 : Bool) (l0_1 : List (S78)) (a1 : Int) : Option (Int × Bool) := assartref04_At.l0 k a1 0 0 a0_0 l0_1
theorem assartref04_At.mono_l : ∀ k, (∀ y0 y1 y2 y3 y4, LeO (assartref04_At.l0 k y0 y1 y2 y3 y4) (assartref04_At.l0 (k + 1) y0 y1 y2 y3 y4))
  | 0 => fun _ _ _ _ _ r h => by simp [assartref04_At.l0] at h
  | k + 1 => by
    have ih0 := assartref04_At.mono_l k
    · intro y0 y1 y2 y3 y4
      unfold assartref04_At.l0
      repeat' first
      | (with_reducible exact ih0 _ _ _ _ _)
      | (with_reducible exact LeO.refl _)
      | (with_reducible exact LeO.none _)
      | (with_reducible refine LeO.ite ?_ ?_)
      | (with_reducible refine LeO.bind ?_ (fun _ => ?_))
      | exact ih0 _ _ _ _ _
      | exact LeO.none _
      | refine LeO.ite ?_ ?_
      | refine LeO.bind ?_ (fun _ => ?_)
theorem assartref04_At.mono : ∀ a0 a1 a2 k, LeO (assartref04_At.f k a0 a1 a2) (assartref04_At.f (k + 1) a0 a1 a2) := by
  intro a0 a1 a2 k
  have ih0 := assartref04_At.mono_l k
  unfold assartref04_At.f
  repeat' first
      | (with_reducible exact ih0 _ _ _ _ _)
      | (with_reducible exact LeO.refl _)
      | (with_reducible exact LeO.none _)
      | (with_reducible refine LeO.ite ?_ ?_)
      | (with_reducible refine LeO.bind ?_ (fun _ => ?_))
      | exact ih0 _ _ _ _ _
      | exact LeO.none _
      | refine LeO.ite ?_ ?_
      | refine LeO.bind ?_ (fun _ => ?_)
set_option maxHeartbeats 8000000 in
set_option maxRecDepth 100000 in
theorem assartref04_At.calls (k : Nat) (a0_0 : Bool) (A0_1 : Option Addr) (c0_1 : Nat) (l0_1 : List (S78)) (a1 : Int) (r1 : Int) (r2 : Bool) (w : World) (hr0_1 : Kd.C k78 w A0_1 l0_1.length l0_1) (hc0_1 : l0_1.length ≤ c0_1) (h : assartref04_At.f k a0_0 l0_1 a1 = some (r1, r2)) :
    Calls Try.prog 36 #[.agg #[.bool a0_0, .slice A0_1 l0_1.length c0_1], .int .i64 a1] w fun e w' => e = .returned (.tuple #[.int .i64 r1, .bool r2]) ∧ Below w.heap.size w w' := by
  have hu56 := Try.underlying56
  have HR0_1 := Aside0.mk hr0_1
  have HC0_1 := Aside0.mk hc0_1
  clear hr0_1 hc0_1
  have HB := Aside0.mk (Below.refl w.heap.size w)
  have H : (assartref04_At.l0 k a1 0 0 a0_0 l0_1) = some (r1, r2) := h
  clear h
  have H' := Aside0.mk H
  clear H
  go_enter Try.func36, Try.ntmps36
  go_wp2_with (first | ((with_reducible refine gate_dst (N := 2) rfl ?_); refine box_event ?hg (N := 2) ?hd (cs := #[.bool a0_0, .slice A0_1 l0_1.length c0_1]) (t := 56) ?hr ?_; (case hd => rfl); (case hg => rfl); (case hr => first | (go_simp; done) | (go_simp; rfl)); intro gb307 hg w3 hbox hb; have n0_ := Aside0.mk (below_step (by repeat (first | (with_reducible first | exact HB.out | apply below_alloc | apply pw_below_drewN | apply below_drew1) | exact HB.out)) hb); have n1_ := Aside0.mk (hbox); have n2_ := Aside0.mk ((by rw [hg]; exact (below_size (by repeat (first | (with_reducible first | exact HB.out | apply below_alloc | apply pw_below_drewN | apply below_drew1) | exact HB.out))) : w.heap.size ≤ gb307)); have n3_ := Aside0.mk ((by rw [hg]; exact (below_size (by repeat (first | (with_reducible first | exact HB.out | apply below_alloc | apply pw_below_drewN | apply below_drew1) | exact HB.out))) : w.heap.size ≤ gb307)); clear HB; have HB := n0_; have BK307 := n1_; have GW307 := n2_; have GE307 := n3_; clear n0_ n1_ n2_ n3_; clear hb hbox hg))
  go_loopg [6, 7] k (fun kq v6 v7 w' => ∃ (x6_1 : Int) (x7_1 : Int), v6 = .int .i64 x6_1 ∧ v7 = .int .i64 x7_1 ∧ Aside0 (assartref04_At.l0 kq a1 x6_1 x7_1 a0_0 l0_1 = some (r1, r2)) ∧ Aside0 (kq ≤ k) ∧ Aside0 (w'.heap[gb307]? = some (.cells #[.bool a0_0, (.slice A0_1 l0_1.length c0_1)] 56 (0, 0))) ∧ Aside0 (Below w.heap.size w w'))
  case atStart => exact ⟨(0), (0), (by first | rfl | (simp; done) | (simp [*]; done)), (by first | rfl | (simp; done) | (simp [*]; done)), H', ⟨Nat.le_refl _⟩, ⟨by (with_reducible repeat (first | refine blk_drewN ?_ _ | refine blk_drew ?_ | refine blk_alloc ?_ _)); exact BK307.out⟩, ⟨by repeat (first | (with_reducible first | exact HB.out | apply below_alloc | apply pw_below_drewN | apply below_drew1 | refine below_set ?_ GE307.out) | exact HB.out)⟩⟩
  case round =>
    clear H'
    try clear p2
    try clear c3
    obtain ⟨x6_1, x7_1, rfl, rfl, HA, HK1, BK307, HB⟩ := hrel
    cases gk with
    | zero => exact absurd HA.out (by simp [assartref04_At.l0])
    | succ k1 =>
      have H := HA.out
      clear HA
      simp only [assartref04_At.l0] at H
      by_cases c4 : x7_1 < (l0_1.length : Int)
      · rw [if_pos c4] at H
        have c4b0 : decide (x7_1 < (l0_1.length : Int)) = true := decide_eq_true c4
        clear c4
        by_cases c5 : 0 ≤ x7_1
        · rw [if_pos c5] at H
          have c5b0 : decide (0 ≤ x7_1) = true := decide_eq_true c5
          clear c5
          by_cases c6 : ((rd_T78 l0_1 x7_1).f0) = a1
          · rw [if_pos c6] at H
            have c6b0 : (((rd_T78 l0_1 x7_1).f0) == a1) = true := beq_iff_eq.mpr c6
            have c6b1 : (((rd_T78 l0_1 x7_1).f0) != a1) = false := bne_eq_false_iff_eq.mpr c6
            clear c6
            simp only [Option.some.injEq, Prod.mk.injEq] at H
            obtain ⟨rfl, rfl⟩ := H
            have hcz7_0 : wr.cell? ⟨gb307, 0, none⟩ = some (.bool a0_0) := (blk_cell BK307.out 0).trans rfl
            have hcz7_1 : wr.cell? ⟨gb307, 1, none⟩ = some (.slice A0_1 l0_1.length c0_1) := (blk_cell BK307.out 1).trans rfl
            have hfz7_0 := blk_frozen BK307.out 0
            have hfz7_1 := blk_frozen BK307.out 1
            have p308 : 0 ≤ (x7_1 : Int) := of_decide_eq_true (by first | (with_reducible assumption) | assumption)
            have q308 : x7_1 < (l0_1.length : Int) := of_decide_eq_true (by first | (with_reducible assumption) | assumption)
            obtain ⟨ad308, e308, hx308_0, hx308_1⟩ := at_T78 HR0_1.out x7_1 p308 q308
            cases e308
            replace hx308_0 := (HB.out.cell (World.block_lt_of_cell? w _ hx308_0)).trans hx308_0
            replace hx308_1 := (HB.out.cell (World.block_lt_of_cell? w _ hx308_1)).trans hx308_1
            replace p308 := eq_true p308
            replace q308 := eq_true q308
            go_wp2
            go_ret2
            exact ⟨by first | rfl | (simp [errW_none, errW_some] <;> rfl) | (simp [*, errW_none, errW_some] <;> rfl), by repeat (first | (with_reducible first | exact HB.out | apply below_alloc | apply pw_below_drewN | apply below_drew1 | refine below_set ?_ GE307.out) | exact HB.out)⟩
          · rw [if_neg c6] at H
            have c6b0 : (((rd_T78 l0_1 x7_1).f0) == a1) = false := beq_eq_false_iff_ne.mpr c6
            have c6b1 : (((rd_T78 l0_1 x7_1).f0) != a1) = true := bne_iff_ne.mpr c6
            by_cases c8 : ((rd_T78 l0_1 x7_1).f0) < a1
            · rw [if_pos c8] at H
              have c8b0 : decide (((rd_T78 l0_1 x7_1).f0) < a1) = true := decide_eq_true c8
              clear c8
              have H' := Aside0.mk H
              clear H
              have hcz9_0 : wr.cell? ⟨gb307, 0, none⟩ = some (.bool a0_0) := (blk_cell BK307.out 0).trans rfl
              have hcz9_1 : wr.cell? ⟨gb307, 1, none⟩ = some (.slice A0_1 l0_1.length c0_1) := (blk_cell BK307.out 1).trans rfl
              have hfz9_0 := blk_frozen BK307.out 0
              have hfz9_1 := blk_frozen BK307.out 1
              have p308 : 0 ≤ (x7_1 : Int) := of_decide_eq_true (by first | (with_reducible assumption) | assumption)
              have q308 : x7_1 < (l0_1.length : Int) := of_decide_eq_true (by first | (with_reducible assumption) | assumption)
              obtain ⟨ad308, e308, hx308_0, hx308_1⟩ := at_T78 HR0_1.out x7_1 p308 q308
              cases e308
              replace hx308_0 := (HB.out.cell (World.block_lt_of_cell? w _ hx308_0)).trans hx308_0
              replace hx308_1 := (HB.out.cell (World.block_lt_of_cell? w _ hx308_1)).trans hx308_1
              replace p308 := eq_true p308
              replace q308 := eq_true q308
              have p309 : 0 ≤ (x7_1 : Int) := of_decide_eq_true (by first | (with_reducible assumption) | assumption)
              have q309 : x7_1 < (l0_1.length : Int) := of_decide_eq_true (by first | (with_reducible assumption) | assumption)
              obtain ⟨ad309, e309, hx309_0, hx309_1⟩ := at_T78 HR0_1.out x7_1 p309 q309
              obtain rfl : ad308 = ad309 := (by injection e309)
              replace hx309_0 := (HB.out.cell (World.block_lt_of_cell? w _ hx309_0)).trans hx309_0
              replace hx309_1 := (HB.out.cell (World.block_lt_of_cell? w _ hx309_1)).trans hx309_1
              replace p309 := eq_true p309
              replace q309 := eq_true q309
              go_wp2
              go_roundg k1
              case measure => have := HK1.out; omega
              case rel => exact ⟨(wrap64 (x6_1 + 1)), (wrap64 (x7_1 + 1)), (by first | rfl | (simp; done) | (simp [*]; done)), (by first | rfl | (simp; done) | (simp [*]; done)), H', ⟨by have := HK1.out; omega⟩, ⟨by (with_reducible repeat (first | refine blk_drewN ?_ _ | refine blk_drew ?_ | refine blk_alloc ?_ _)); exact BK307.out⟩, ⟨by repeat (first | (with_reducible first | exact HB.out | apply below_alloc | apply pw_below_drewN | apply below_drew1 | refine below_set ?_ GE307.out) | exact HB.out)⟩⟩
            · rw [if_neg c8] at H
              have c8b0 : decide (((rd_T78 l0_1 x7_1).f0) < a1) = false := decide_eq_false c8
              clear c8
              have H' := Aside0.mk H
              clear H
              have hcz10_0 : wr.cell? ⟨gb307, 0, none⟩ = some (.bool a0_0) := (blk_cell BK307.out 0).trans rfl
              have hcz10_1 : wr.cell? ⟨gb307, 1, none⟩ = some (.slice A0_1 l0_1.length c0_1) := (blk_cell BK307.out 1).trans rfl
              have hfz10_0 := blk_frozen BK307.out 0
              have hfz10_1 := blk_frozen BK307.out 1
              have p308 : 0 ≤ (x7_1 : Int) := of_decide_eq_true (by first | (with_reducible assumption) | assumption)
              have q308 : x7_1 < (l0_1.length : Int) := of_decide_eq_true (by first | (with_reducible assumption) | assumption)
              obtain ⟨ad308, e308, hx308_0, hx308_1⟩ := at_T78 HR0_1.out x7_1 p308 q308
              cases e308
              replace hx308_0 := (HB.out.cell (World.block_lt_of_cell? w _ hx308_0)).trans hx308_0
              replace hx308_1 := (HB.out.cell (World.block_lt_of_cell? w _ hx308_1)).trans hx308_1
              replace p308 := eq_true p308
              replace q308 := eq_true q308
              have p309 : 0 ≤ (x7_1 : Int) := of_decide_eq_true (by first | (with_reducible assumption) | assumption)
              have q309 : x7_1 < (l0_1.length : Int) := of_decide_eq_true (by first | (with_reducible assumption) | assumption)
              obtain ⟨ad309, e309, hx309_0, hx309_1⟩ := at_T78 HR0_1.out x7_1 p309 q309
              obtain rfl : ad308 = ad309 := (by injection e309)
              replace hx309_0 := (HB.out.cell (World.block_lt_of_cell? w _ hx309_0)).trans hx309_0
              replace hx309_1 := (HB.out.cell (World.block_lt_of_cell? w _ hx309_1)).trans hx309_1
              replace p309 := eq_true p309
              replace q309 := eq_true q309
              go_wp2
              go_roundg k1
              case measure => have := HK1.out; omega
              case rel => exact ⟨(x6_1), (wrap64 (x7_1 + 1)), (by first | rfl | (simp; done) | (simp [*]; done)), (by first | rfl | (simp; done) | (simp [*]; done)), H', ⟨by have := HK1.out; omega⟩, ⟨by (with_reducible repeat (first | refine blk_drewN ?_ _ | refine blk_drew ?_ | refine blk_alloc ?_ _)); exact BK307.out⟩, ⟨by repeat (first | (with_reducible first | exact HB.out | apply below_alloc | apply pw_below_drewN | apply below_drew1 | refine below_set ?_ GE307.out) | exact HB.out)⟩⟩
        · rw [if_neg c5] at H
          exact absurd H (by simp)
      · rw [if_neg c4] at H
        have c4b0 : decide (x7_1 < (l0_1.length : Int)) = false := decide_eq_false c4
        clear c4
        by_cases c11 : a0_0 = true
        · subst c11
          have H1 : (some (x6_1, false)) = some (r1, r2) := by rw [if_pos rfl] at H; exact H
          clear H
          have H := H1
          clear H1
          simp only [Option.some.injEq, Prod.mk.injEq] at H
          obtain ⟨rfl, rfl⟩ := H
          have hcz12_0 : wr.cell? ⟨gb307, 0, none⟩ = some (.bool true) := (blk_cell BK307.out 0).trans rfl
          have hcz12_1 : wr.cell? ⟨gb307, 1, none⟩ = some (.slice A0_1 l0_1.length c0_1) := (blk_cell BK307.out 1).trans rfl
          have hfz12_0 := blk_frozen BK307.out 0
          have hfz12_1 := blk_frozen BK307.out 1
          go_wp2
          go_ret2
          exact ⟨by first | rfl | (simp [errW_none, errW_some] <;> rfl) | (simp [*, errW_none, errW_some] <;> rfl), by repeat (first | (with_reducible first | exact HB.out | apply below_alloc | apply pw_below_drewN | apply below_drew1 | refine below_set ?_ GE307.out) | exact HB.out)⟩
        · replace c11 := Bool.eq_false_iff.mpr c11
          subst c11
          have H1 : (some (mx (wrap64 (x6_1 - 1)) 0, false)) = some (r1, r2) := by rw [if_neg (show ¬ (false = true) by decide)] at H; exact H
          clear H
          have H := H1
          clear H1
          obtain ⟨ji13, hji13⟩ : ∃ j_ : Int, (mx (wrap64 (x6_1 - 1)) 0) = j_ := ⟨_, rfl⟩
          replace H : (some (ji13, false)) = some (r1, r2) := by first | (rw [hji13] at H; exact H) | (simp only [hji13] at H ⊢; exact H)
          have hji13_ : (if (wrap64 (x6_1 - 1)) < 0 then 0 else (wrap64 (x6_1 - 1))) = ji13 := hji13
          simp only [Option.some.injEq, Prod.mk.injEq] at H
          obtain ⟨rfl, rfl⟩ := H
          have hcz14_0 : wr.cell? ⟨gb307, 0, none⟩ = some (.bool false) := (blk_cell BK307.out 0).trans rfl
          have hcz14_1 : wr.cell? ⟨gb307, 1, none⟩ = some (.slice A0_1 l0_1.length c0_1) := (blk_cell BK307.out 1).trans rfl
          have hfz14_0 := blk_frozen BK307.out 0
          have hfz14_1 := blk_frozen BK307.out 1
          go_wp2
          go_ret2
          exact ⟨by first | rfl | (simp [errW_none, errW_some] <;> rfl) | (simp only [← hji13]; first | rfl | (simp [errW_none, errW_some] <;> rfl)) | (simp [*, errW_none, errW_some] <;> rfl), by repeat (first | (with_reducible first | exact HB.out | apply below_alloc | apply pw_below_drewN | apply below_drew1 | refine below_set ?_ GE307.out) | exact HB.out)⟩

end Go.Proofs.Ythjnkapkhphpeaa.P
end
section
-- Written by a program of this session (xprint.py, over the kit's print). Not trusted: Lean checks it.
namespace Go.Proofs.Ythjnkapkhphpeaa.P
open Go.RowKit Go.Proofs.YthjnkapkhphpeaaW.PrintWords Go.Proofs.YthjnkapkhphpeaaW.PrintLast Go.Proofs.YthjnkapkhphpeaaW.PrintMore
attribute [local go_sem] max2_int min2_int max_two min_two max_three min_three max_four min_four   -- for this text's walks alone
set_option linter.unusedVariables false
set_option linter.unusedSimpArgs false

/-! ### assartref04_Rows: function 37 -/
def assartref04_Rows.l0 : Nat → List (List (S78)) → List (List (S78)) → Int → Option (Bool)
  | 0, _, _, _ => none
  | k + 1, x0, x1, x5 => if x5 < (x0.length : Int) then (if 0 ≤ x5 then (if x5 < (x1.length : Int) then ((assartref04_Items.f k (rd_L7 x0 x5) (rd_L7 x1 x5)).bind fun t312 => (if t312 = true then (assartref04_Rows.l0 k x0 x1 (wrap64 (x5 + 1))) else (some false))) else (none)) else (none)) else (some true)
def assartref04_Rows.f (k : Nat) (l0 : List (List (S78))) (l1 : List (List (S78))) : Option (Bool) := if (l0.length : Int) = (l1.length : Int) then (assartref04_Rows.l0 k l0 l1 0) else (some false)
theorem assartref04_Rows.mono_l : ∀ k, (∀ y0 y1 y2, LeO (assartref04_Rows.l0 k y0 y1 y2) (assartref04_Rows.l0 (k + 1) y0 y1 y2))
  | 0 => fun _ _ _ r h => by simp [assartref04_Rows.l0] at h
  | k + 1 => by
    have ih0 := assartref04_Rows.mono_l k
    · intro y0 y1 y2
      unfold assartref04_Rows.l0
      repeat' first
      | (with_reducible exact ih0 _ _ _)
      | (with_reducible exact assartref04_Items.mono _ _ _)
      | (with_reducible exact LeO.refl _)
      | (with_reducible exact LeO.none _)
      | (with_reducible refine LeO.ite ?_ ?_)
      | (with_reducible refine LeO.bind ?_ (fun _ => ?_))
      | exact ih0 _ _ _
      | exact assartref04_Items.mono _ _ _
      | exact LeO.none _
      | refine LeO.ite ?_ ?_
      | refine LeO.bind ?_ (fun _ => ?_)
theorem assartref04_Rows.mono : ∀ a0 a1 k, LeO (assartref04_Rows.f k a0 a1) (assartref04_Rows.f (k + 1) a0 a1) := by
  intro a0 a1 k
  have ih0 := assartref04_Rows.mono_l k
  unfold assartref04_Rows.f
  repeat' first
      | (with_reducible exact ih0 _ _ _)
      | (with_reducible exact assartref04_Items.mono _ _ _)
      | (with_reducible exact LeO.refl _)
      | (with_reducible exact LeO.none _)
      | (with_reducible refine LeO.ite ?_ ?_)
      | (with_reducible refine LeO.bind ?_ (fun _ => ?_))
      | exact ih0 _ _ _
      | exact assartref04_Items.mono _ _ _
      | exact LeO.none _
      | refine LeO.ite ?_ ?_
      | refine LeO.bind ?_ (fun _ => ?_)
set_option maxHeartbeats 8000000 in
set_option maxRecDepth 100000 in
theorem assartref04_Rows.calls (k : Nat) (A0 : Option Addr) (c0 : Nat) (l0 : List (List (S78))) (A1 : Option Addr) (c1 : Nat) (l1 : List (List (S78))) (r : Bool) (w : World) (hr0 : Kd.C (Kd.slice 78 k78) w A0 l0.length l0) (hc0 : l0.length ≤ c0) (hr1 : Kd.C (Kd.slice 78 k78) w A1 l1.length l1) (hc1 : l1.length ≤ c1) (h : assartref04_Rows.f k l0 l1 = some r) :
    Calls Try.prog 37 #[.slice A0 l0.length c0, .slice A1 l1.length c1] w fun e w' => e = .returned (.bool r) ∧ Drawn0 w w' := by
  have HR0 := Aside0.mk hr0
  have HC0 := Aside0.mk hc0
  clear hr0 hc0
  have HR1 := Aside0.mk hr1
  have HC1 := Aside0.mk hc1
  clear hr1 hc1
  have H : (if (l0.length : Int) = (l1.length : Int) then (assartref04_Rows.l0 k l0 l1 0) else (some false)) = some r := h
  clear h
  by_cases c3 : (l0.length : Int) = (l1.length : Int)
  · rw [if_pos c3] at H
    have c3b0 : ((l0.length : Int) == (l1.length : Int)) = true := beq_iff_eq.mpr c3
    have c3b1 : ((l0.length : Int) != (l1.length : Int)) = false := bne_eq_false_iff_eq.mpr c3
    have c3b2 : (l0.length == l1.length) = true := by first | simpa using c3 | (simp at c3 ⊢; omega)
    clear c3
    have H' := Aside0.mk H
    clear H
    go_enter Try.func37, Try.ntmps37
    go_wp2
    repeat (go_quiet (fail); try go_wp2)
    go_loopg [5] k (fun kq v5 w' => ∃ (x5_1 : Int), v5 = .int .i64 x5_1 ∧ Aside0 (assartref04_Rows.l0 kq l0 l1 x5_1 = some r) ∧ Aside0 (kq ≤ k) ∧ Drawn0 w w')
    case atStart => exact ⟨(0), (by first | rfl | (simp; done) | (simp [*]; done)), H', ⟨Nat.le_refl _⟩, by repeat (first | exact Drawn0.refl _ | apply Drawn0.step)⟩
    case round =>
      clear H'
      try clear c1
      try clear p2
      try clear c3
      try clear c3b0
      try clear c3b1
      try clear c3b2
      obtain ⟨x5_1, rfl, HA, HK1, ⟨m1, rfl⟩⟩ := hrel
      cases gk with
      | zero => exact absurd HA.out (by simp [assartref04_Rows.l0])
      | succ k1 =>
        have H := HA.out
        clear HA
        simp only [assartref04_Rows.l0] at H
        by_cases c4 : x5_1 < (l0.length : Int)
        · rw [if_pos c4] at H
          have c4b0 : decide (x5_1 < (l0.length : Int)) = true := decide_eq_true c4
          clear c4
          by_cases c5 : 0 ≤ x5_1
          · rw [if_pos c5] at H
            have c5b0 : decide (0 ≤ x5_1) = true := decide_eq_true c5
            clear c5
            by_cases c6 : x5_1 < (l1.length : Int)
            · rw [if_pos c6] at H
              have c6b0 : decide (x5_1 < (l1.length : Int)) = true := decide_eq_true c6
              clear c6
              replace H := Option.bind_eq_some_iff.mp H
              obtain ⟨t312, A70, H⟩ := H
              replace H : (if t312 = true then (assartref04_Rows.l0 k1 l0 l1 (wrap64 (x5_1 + 1))) else (some false)) = some r := H
              have A7 := Aside0.mk A70
              clear A70
              by_cases c8 : t312 = true
              · subst c8
                have H1 : (assartref04_Rows.l0 k1 l0 l1 (wrap64 (x5_1 + 1))) = some r := by rw [if_pos rfl] at H; exact H
                clear H
                have H := H1
                clear H1
                have H' := Aside0.mk H
                clear H
                have p310 : 0 ≤ (x5_1 : Int) := of_decide_eq_true (by first | (with_reducible assumption) | assumption)
                have q310 : x5_1 < (l0.length : Int) := of_decide_eq_true (by first | (with_reducible assumption) | assumption)
                obtain ⟨ad310, A310_0, c310_0, e310, hx310_0, hl310_0, hi310_0⟩ := at_L7 HR0.out x5_1 p310 q310
                cases e310
                have HR310_0 := Aside0.mk hi310_0
                have HC310_0 := Aside0.mk hl310_0
                clear hi310_0 hl310_0
                replace p310 := eq_true p310
                replace q310 := eq_true q310
                have p311 : 0 ≤ (x5_1 : Int) := of_decide_eq_true (by first | (with_reducible assumption) | assumption)
                have q311 : x5_1 < (l1.length : Int) := of_decide_eq_true (by first | (with_reducible assumption) | assumption)
                obtain ⟨ad311, A311_0, c311_0, e311, hx311_0, hl311_0, hi311_0⟩ := at_L7 HR1.out x5_1 p311 q311
                cases e311
                have HR311_0 := Aside0.mk hi311_0
                have HC311_0 := Aside0.mk hl311_0
                clear hi311_0 hl311_0
                replace p311 := eq_true p311
                replace q311 := eq_true q311
                go_wp2_with (first | (go_at_call 40; (with_reducible refine (assartref04_Items.calls k1 _ _ (rd_L7 l0 x5_1) _ _ (rd_L7 l1 x5_1) true _ ?side1 ?side2 ?side3 ?side4 A7.out).mono ?_); (case side1 => repeat (first | exact HR310_0.out | (with_reducible refine Kd.C_alloc ?_ _) | (with_reducible refine Kd.C_drewN ?_ _) | (with_reducible refine Kd.C_drew ?_))); (case side2 => exact HC310_0.out); (case side3 => repeat (first | exact HR311_0.out | (with_reducible refine Kd.C_alloc ?_ _) | (with_reducible refine Kd.C_drewN ?_ _) | (with_reducible refine Kd.C_drew ?_))); (case side4 => exact HC311_0.out); rintro e w' ⟨rfl, ⟨nd, rfl⟩⟩; (try first | exact ⟨rfl, _, World.drewN_drewN _ _ _⟩ | exact ⟨rfl, _, Eq.trans (World.drewN_drewN _ _ _) (congrArg (World.drewN _) (Nat.add_assoc _ _ _))⟩)))
                repeat (go_quiet (first | (go_at_call 40; (with_reducible refine (assartref04_Items.calls k1 _ _ (rd_L7 l0 x5_1) _ _ (rd_L7 l1 x5_1) true _ ?side1 ?side2 ?side3 ?side4 A7.out).mono ?_); (case side1 => repeat (first | exact HR310_0.out | (with_reducible refine Kd.C_alloc ?_ _) | (with_reducible refine Kd.C_drewN ?_ _) | (with_reducible refine Kd.C_drew ?_))); (case side2 => exact HC310_0.out); (case side3 => repeat (first | exact HR311_0.out | (with_reducible refine Kd.C_alloc ?_ _) | (with_reducible refine Kd.C_drewN ?_ _) | (with_reducible refine Kd.C_drew ?_))); (case side4 => exact HC311_0.out); rintro e w' ⟨rfl, ⟨nd, rfl⟩⟩; (try first | exact ⟨rfl, _, World.drewN_drewN _ _ _⟩ | exact ⟨rfl, _, Eq.trans (World.drewN_drewN _ _ _) (congrArg (World.drewN _) (Nat.add_assoc _ _ _))⟩))); try go_wp2_with (first | (go_at_call 40; (with_reducible refine (assartref04_Items.calls k1 _ _ (rd_L7 l0 x5_1) _ _ (rd_L7 l1 x5_1) true _ ?side1 ?side2 ?side3 ?side4 A7.out).mono ?_); (case side1 => repeat (first | exact HR310_0.out | (with_reducible refine Kd.C_alloc ?_ _) | (with_reducible refine Kd.C_drewN ?_ _) | (with_reducible refine Kd.C_drew ?_))); (case side2 => exact HC310_0.out); (case side3 => repeat (first | exact HR311_0.out | (with_reducible refine Kd.C_alloc ?_ _) | (with_reducible refine Kd.C_drewN ?_ _) | (with_reducible refine Kd.C_drew ?_))); (case side4 => exact HC311_0.out); rintro e w' ⟨rfl, ⟨nd, rfl⟩⟩; (try first | exact ⟨rfl, _, World.drewN_drewN _ _ _⟩ | exact ⟨rfl, _, Eq.trans (World.drewN_drewN _ _ _) (congrArg (World.drewN _) (Nat.add_assoc _ _ _))⟩))))
                go_roundg k1
                case measure => have := HK1.out; omega
                case rel => exact ⟨(wrap64 (x5_1 + 1)), (by first | rfl | (simp; done) | (simp [*]; done)), H', ⟨by have := HK1.out; omega⟩, by repeat (first | exact Drawn0.refl _ | apply Drawn0.step)⟩
              · replace c8 := Bool.eq_false_iff.mpr c8
                subst c8
                have H1 : (some false) = some r := by rw [if_neg (show ¬ (false = true) by decide)] at H; exact H
                clear H
                have H := H1
                clear H1
                obtain rfl := Option.some.inj H
                have p310 : 0 ≤ (x5_1 : Int) := of_decide_eq_true (by first | (with_reducible assumption) | assumption)
                have q310 : x5_1 < (l0.length : Int) := of_decide_eq_true (by first | (with_reducible assumption) | assumption)
                obtain ⟨ad310, A310_0, c310_0, e310, hx310_0, hl310_0, hi310_0⟩ := at_L7 HR0.out x5_1 p310 q310
                cases e310
                have HR310_0 := Aside0.mk hi310_0
                have HC310_0 := Aside0.mk hl310_0
                clear hi310_0 hl310_0
                replace p310 := eq_true p310
                replace q310 := eq_true q310
                have p311 : 0 ≤ (x5_1 : Int) := of_decide_eq_true (by first | (with_reducible assumption) | assumption)
                have q311 : x5_1 < (l1.length : Int) := of_decide_eq_true (by first | (with_reducible assumption) | assumption)
                obtain ⟨ad311, A311_0, c311_0, e311, hx311_0, hl311_0, hi311_0⟩ := at_L7 HR1.out x5_1 p311 q311
                cases e311
                have HR311_0 := Aside0.mk hi311_0
                have HC311_0 := Aside0.mk hl311_0
                clear hi311_0 hl311_0
                replace p311 := eq_true p311
                replace q311 := eq_true q311
                go_wp2_with (first | (go_at_call 40; (with_reducible refine (assartref04_Items.calls k1 _ _ (rd_L7 l0 x5_1) _ _ (rd_L7 l1 x5_1) false _ ?side1 ?side2 ?side3 ?side4 A7.out).mono ?_); (case side1 => repeat (first | exact HR310_0.out | (with_reducible refine Kd.C_alloc ?_ _) | (with_reducible refine Kd.C_drewN ?_ _) | (with_reducible refine Kd.C_drew ?_))); (case side2 => exact HC310_0.out); (case side3 => repeat (first | exact HR311_0.out | (with_reducible refine Kd.C_alloc ?_ _) | (with_reducible refine Kd.C_drewN ?_ _) | (with_reducible refine Kd.C_drew ?_))); (case side4 => exact HC311_0.out); rintro e w' ⟨rfl, ⟨nd, rfl⟩⟩; (try first | exact ⟨rfl, _, World.drewN_drewN _ _ _⟩ | exact ⟨rfl, _, Eq.trans (World.drewN_drewN _ _ _) (congrArg (World.drewN _) (Nat.add_assoc _ _ _))⟩)))
                repeat (go_quiet (first | (go_at_call 40; (with_reducible refine (assartref04_Items.calls k1 _ _ (rd_L7 l0 x5_1) _ _ (rd_L7 l1 x5_1) false _ ?side1 ?side2 ?side3 ?side4 A7.out).mono ?_); (case side1 => repeat (first | exact HR310_0.out | (with_reducible refine Kd.C_alloc ?_ _) | (with_reducible refine Kd.C_drewN ?_ _) | (with_reducible refine Kd.C_drew ?_))); (case side2 => exact HC310_0.out); (case side3 => repeat (first | exact HR311_0.out | (with_reducible refine Kd.C_alloc ?_ _) | (with_reducible refine Kd.C_drewN ?_ _) | (with_reducible refine Kd.C_drew ?_))); (case side4 => exact HC311_0.out); rintro e w' ⟨rfl, ⟨nd, rfl⟩⟩; (try first | exact ⟨rfl, _, World.drewN_drewN _ _ _⟩ | exact ⟨rfl, _, Eq.trans (World.drewN_drewN _ _ _) (congrArg (World.drewN _) (Nat.add_assoc _ _ _))⟩))); try go_wp2_with (first | (go_at_call 40; (with_reducible refine (assartref04_Items.calls k1 _ _ (rd_L7 l0 x5_1) _ _ (rd_L7 l1 x5_1) false _ ?side1 ?side2 ?side3 ?side4 A7.out).mono ?_); (case side1 => repeat (first | exact HR310_0.out | (with_reducible refine Kd.C_alloc ?_ _) | (with_reducible refine Kd.C_drewN ?_ _) | (with_reducible refine Kd.C_drew ?_))); (case side2 => exact HC310_0.out); (case side3 => repeat (first | exact HR311_0.out | (with_reducible refine Kd.C_alloc ?_ _) | (with_reducible refine Kd.C_drewN ?_ _) | (with_reducible refine Kd.C_drew ?_))); (case side4 => exact HC311_0.out); rintro e w' ⟨rfl, ⟨nd, rfl⟩⟩; (try first | exact ⟨rfl, _, World.drewN_drewN _ _ _⟩ | exact ⟨rfl, _, Eq.trans (World.drewN_drewN _ _ _) (congrArg (World.drewN _) (Nat.add_assoc _ _ _))⟩))))
                go_ret
                exact ⟨by first | rfl | (simp; done) | (simp [*]; done), by repeat (first | exact Drawn0.refl _ | apply Drawn0.step)⟩
            · rw [if_neg c6] at H
              exact absurd H (by simp)
          · rw [if_neg c5] at H
            exact absurd H (by simp)
        · rw [if_neg c4] at H
          have c4b0 : decide (x5_1 < (l0.length : Int)) = false := decide_eq_false c4
          clear c4
          obtain rfl := Option.some.inj H
          go_wp2
          repeat (go_quiet (fail); try go_wp2)
          go_ret
          exact ⟨by first | rfl | (simp; done) | (simp [*]; done), by repeat (first | exact Drawn0.refl _ | apply Drawn0.step)⟩
  · rw [if_neg c3] at H
    have c3b0 : ((l0.length : Int) == (l1.length : Int)) = false := beq_eq_false_iff_ne.mpr c3
    have c3b1 : ((l0.length : Int) != (l1.length : Int)) = true := bne_iff_ne.mpr c3
    have c3b2 : (l0.length == l1.length) = false := by first | simpa using c3 | (simp at c3 ⊢; omega)
    obtain rfl := Option.some.inj H
    go_enter Try.func37, Try.ntmps37
    go_wp2
    repeat (go_quiet (fail); try go_wp2)
    go_ret
    exact ⟨by first | rfl | (simp; done) | (simp [*]; done), by repeat (first | exact Drawn0.refl _ | apply Drawn0.step)⟩

end Go.Proofs.Ythjnkapkhphpeaa.P
end
section
-- Written by a program of this session (xprint.py, over the kit's print). Not trusted: Lean checks it.
namespace Go.Proofs.Ythjnkapkhphpeaa.P
open Go.RowKit Go.Proofs.YthjnkapkhphpeaaW.PrintWords Go.Proofs.YthjnkapkhphpeaaW.PrintLast Go.Proofs.YthjnkapkhphpeaaW.PrintMore
attribute [local go_sem] max2_int min2_int max_two min_two max_three min_three max_four min_four   -- for this text's walks alone
set_option linter.unusedVariables false
set_option linter.unusedSimpArgs false

/-! ### assartref04_Split: function 39 -/
def assartref04_Split.f : Nat → List (S78) → Option ((List (List (S78))))
  | 0, _ => none
  | k + 1, l0 => if (l0.length : Int) = 0 then (some ([] : List (List (S78)))) else (if (l0.length : Int) ≤ 4 then (some (([l0] : List (List (S78))))) else (if 3 ≤ (l0.length : Int) then ((some (([(l0.take 3)] : List (List (S78))) : List (List (S78)))).bind fun y321 => ((assartref04_Split.f k (l0.drop 3)).bind fun t329 => (if y321.length + t329.length < 5864062014805 then (some (y321 ++ t329)) else (none)))) else (none)))
theorem assartref04_Split.mono_l : ∀ k, (∀ y0, LeO (assartref04_Split.f k y0) (assartref04_Split.f (k + 1) y0))
  | 0 => fun _ r h => by simp [assartref04_Split.f] at h
  | k + 1 => by
    have ih0 := assartref04_Split.mono_l k
    · intro y0
      unfold assartref04_Split.f
      repeat' first
      | (with_reducible exact ih0 _)
      | (with_reducible exact LeO.refl _)
      | (with_reducible exact LeO.none _)
      | (with_reducible refine LeO.ite ?_ ?_)
      | (with_reducible refine LeO.bind ?_ (fun _ => ?_))
      | exact ih0 _
      | exact LeO.none _
      | refine LeO.ite ?_ ?_
      | refine LeO.bind ?_ (fun _ => ?_)
theorem assartref04_Split.mono : ∀ a0 k, LeO (assartref04_Split.f k a0) (assartref04_Split.f (k + 1) a0) := by
  intro a0 k
  have ih0 := assartref04_Split.mono_l k
  exact ih0 a0
def assartref04_Split.T5 : Bool × List (List Nat × List Nat) := (true, [([], []), ([0], [0]), ([1], [1]), ([], []), ([3], [3]), ([4], [4]), ([2, 5, 5], [2, 5]), ([6, 6, 0, 1, 2, 3, 4, 5, 6], [6])])
def assartref04_Split.B5 : List Nat := [0, 1, 3, 0, 8, 24, 63, 127]
theorem assartref04_Split.tab5 : rtab .any (opsOf Try.f39 5) = assartref04_Split.T5 := by kernel_rfl
theorem assartref04_Split.bits5 : waitsOk assartref04_Split.T5.2 assartref04_Split.B5 = true := by kernel_rfl
set_option maxHeartbeats 8000000 in
set_option maxRecDepth 100000 in
theorem assartref04_Split.calls (k : Nat) : ∀ (P0_ : Nat → Prop) (A0 : Option Addr) (c0 : Nat) (l0 : List (S78)) (r : List (List (S78))) (w : World) (hs0 : Kd.V k78 78 w w.heap.size (fun k_ => P0_ k_) (.slice A0 l0.length c0) l0) (h : assartref04_Split.f k l0 = some r),
    Calls Try.prog 39 #[.slice A0 l0.length c0] w fun e w' => ∃ v0_ : Value, e = .returned (v0_) ∧ Kd.N (Kd.slice 78 k78) 54 w' w.heap.size (fun k_ => (P0_ k_ ∨ w.heap.size ≤ k_)) v0_ r ∧ Below w.heap.size w w' := by
  induction k using Nat.strongRecOn with
  | _ k ih =>
  intro P0_ A0 c0 l0 r w hs0 h
  cases k with
  | zero => exact absurd h (by simp [assartref04_Split.f])
  | succ k =>
  simp only [assartref04_Split.f] at h
  have HO0 := Aside0.mk (show Kd.V k78 78 w w.heap.size (fun k_ => (P0_ k_ ∨ w.heap.size ≤ k_)) (.slice A0 l0.length c0) l0 from Kd.V_mono hs0 (fun k_ hk => .inl hk))
  have HB := Aside0.mk (Below.refl w.heap.size w)
  have H : (if (l0.length : Int) = 0 then (some ([] : List (List (S78)))) else (if (l0.length : Int) ≤ 4 then (some (([l0] : List (List (S78))))) else (if 3 ≤ (l0.length : Int) then ((some (([(l0.take 3)] : List (List (S78))) : List (List (S78)))).bind fun y321 => ((assartref04_Split.f k (l0.drop 3)).bind fun t329 => (if y321.length + t329.length < 5864062014805 then (some (y321 ++ t329)) else (none)))) else (none)))) = some r := h
  clear h
  by_cases c2 : (l0.length : Int) = 0
  · rw [if_pos c2] at H
    have c2b0 : ((l0.length : Int) == 0) = true := beq_iff_eq.mpr c2
    have c2b1 : ((l0.length : Int) != 0) = false := bne_eq_false_iff_eq.mpr c2
    clear c2
    obtain rfl := Option.some.inj H
    go_enter Try.func39, Try.ntmps39
    go_wp2
    go_ret
    exact ⟨_, by first | rfl | (simp [errW_none, errW_some] <;> rfl) | (simp [*, errW_none, errW_some] <;> rfl), by first | exact Kd.S_nil _ _ _ _ _ | exact Kd.N_nil _ _ _ _ _ | exact Kd.V_nil _ _ _ _ _ | exact Kd.Q_nil _ _ _ _ _ | exact Kd.R_nil _ _ _ _ _, by repeat (first | (with_reducible first | exact HB.out | apply below_alloc | apply pw_below_drewN | apply below_drew1) | exact HB.out)⟩
  · rw [if_neg c2] at H
    have c2b0 : ((l0.length : Int) == 0) = false := beq_eq_false_iff_ne.mpr c2
    have c2b1 : ((l0.length : Int) != 0) = true := bne_iff_ne.mpr c2
    have c2b2 : ¬ (l0 = []) := fun h_ => c2 (by rw [h_]; rfl)
    by_cases c3 : (l0.length : Int) ≤ 4
    · rw [if_pos c3] at H
      have c3b0 : decide ((l0.length : Int) ≤ 4) = true := decide_eq_true c3
      have c3b1 : decide (l0.length ≤ 4) = true := decide_eq_true (by omega)
      clear c3
      obtain ⟨y313, hy313⟩ : ∃ y_ : List (List (S78)), y_ = (([l0] : List (List (S78)))) := ⟨_, rfl⟩
      replace H : (some y313) = some r := by first | (rw [hy313]; with_reducible exact H) | (have H2_ := (Option.bind_some _ _).symm.trans H; rw [hy313]; with_reducible exact H2_) | (have H2_ := (Option.bind_some _ _).symm.trans H; with_reducible exact H2_) | with_reducible exact H | (rw [hy313]; exact H) | exact H
      have Ny313 := Aside0.mk hy313
      clear hy313
      obtain rfl := Option.some.inj H
      go_enter Try.func39, Try.ntmps39
      go_wp2_with (first | ((with_reducible refine gate_dst (N := 10) rfl ?_); refine Kd.N_lit (Kd.slice 78 k78) _ 54 ?hg (N' := 10) ?hd (xs := ([l0] : List (List (S78)))) (inner := [.slice A0 l0.length c0]) (ok := (fun k_ => (P0_ k_ ∨ w.heap.size ≤ k_))) (okp := (fun k_ => (P0_ k_ ∨ w.heap.size ≤ k_))) ?hr ?hp (fun _ hk => hk) ((show ∀ k_, w.heap.size ≤ k_ → (fun k_ => (P0_ k_ ∨ w.heap.size ≤ k_)) k_ from fun k_ hk => (.inr (Nat.le_trans (below_size (by repeat (first | (with_reducible first | exact HB.out | apply below_alloc | apply pw_below_drewN | apply below_drew1) | exact HB.out))) hk))) _ (Nat.le_refl _)) (Below.refl _ _) (Nat.le_refl _) (by simp) ?_; (case hd => rfl); (case hg => rfl); (case hr => first | (go_simp; done) | (go_simp; rfl)); (case hp => exact (Reps.one (show Kd.FK (Kd.slice 78 k78) _ _ l0 [.slice A0 l0.length c0] from (Kd.FK_slice_mk (Kd.V_reads' (Kd.V_mono (ok' := (fun k_ => (P0_ k_ ∨ w.heap.size ≤ k_))) (HO0.out) (fun k_ hk => hk))).2.1 (Kd.V_F (Kd.V_mono (ok' := (fun k_ => (P0_ k_ ∨ w.heap.size ≤ k_))) (HO0.out) (fun k_ hk => hk))))) (Reps.none _ _))); intro v314 w4 ho5 hb hg_ hnew_; clear hg_ hnew_; (first | rw [← Ny313.out] at ho5 | (simp only [Int.reduceToNat] at ho5; rw [← Ny313.out] at ho5)); have n0_ := Aside0.mk (Kd.V_elder' (by (with_reducible repeat (first | apply Kd.V_alloc | apply Kd.V_drewN | apply Kd.V_drew)); exact HO0.out) (Kd.N_base ho5) hb); have n1_ := Aside0.mk (Kd.N_lower ho5 (below_size (by repeat (first | (with_reducible first | exact HB.out | apply below_alloc | apply pw_below_drewN | apply below_drew1) | exact HB.out)))); have n2_ := Aside0.mk (below_step (by repeat (first | (with_reducible first | exact HB.out | apply below_alloc | apply pw_below_drewN | apply below_drew1) | exact HB.out)) hb); clear HO0; clear HB; have HO0 := n0_; have HO315 := n1_; have HB := n2_; clear n0_ n1_ n2_; clear hb ho5))
      go_ret
      exact ⟨_, by first | rfl | (simp [errW_none, errW_some] <;> rfl) | (simp [*, errW_none, errW_some] <;> rfl), by (with_reducible repeat (first | apply Kd.N_alloc | apply Kd.N_drewN | apply Kd.N_drew)); exact HO315.out, by repeat (first | (with_reducible first | exact HB.out | apply below_alloc | apply pw_below_drewN | apply below_drew1) | exact HB.out)⟩
    · rw [if_neg c3] at H
      have c3b0 : decide ((l0.length : Int) ≤ 4) = false := decide_eq_false c3
      have c3b1 : decide (l0.length ≤ 4) = false := decide_eq_false (by omega)
      clear c3
      by_cases c6 : 3 ≤ (l0.length : Int)
      · rw [if_pos c6] at H
        have c6b0 := eq_true c6
        have c6b1 : decide (3 ≤ (l0.length : Int)) = true := decide_eq_true c6
        clear c6
        obtain ⟨y316, hy316⟩ : ∃ y_ : List (S78), y_ = (l0.take 3) := ⟨_, rfl⟩
        replace H : ((some (([y316] : List (List (S78))) : List (List (S78)))).bind fun y321 => ((assartref04_Split.f k (l0.drop 3)).bind fun t329 => (if y321.length + t329.length < 5864062014805 then (some (y321 ++ t329)) else (none)))) = some r := by first | (rw [hy316]; with_reducible exact H) | (have H2_ := (Option.bind_some _ _).symm.trans H; rw [hy316]; with_reducible exact H2_) | (have H2_ := (Option.bind_some _ _).symm.trans H; with_reducible exact H2_) | with_reducible exact H | (rw [hy316]; exact H) | exact H
        have Ny316 := Aside0.mk hy316
        clear hy316
        obtain ⟨y321, hy321⟩ : ∃ y_ : List (List (S78)), y_ = (([y316] : List (List (S78)))) := ⟨_, rfl⟩
        replace H : ((assartref04_Split.f k (l0.drop 3)).bind fun t329 => (if y321.length + t329.length < 5864062014805 then (some (y321 ++ t329)) else (none))) = some r := by first | (rw [hy321]; with_reducible exact H) | (have H2_ := (Option.bind_some _ _).symm.trans H; rw [hy321]; with_reducible exact H2_) | (have H2_ := (Option.bind_some _ _).symm.trans H; with_reducible exact H2_) | with_reducible exact H | (rw [hy321]; exact H) | exact H
        have Ny321 := Aside0.mk hy321
        clear hy321
        have c7b0 := eq_true (of_decide_eq_true (by first | (with_reducible assumption) | assumption) : 3 ≤ (l0.length : Int))
        obtain ⟨y324, hy324⟩ : ∃ y_ : List (S78), y_ = (l0.drop 3) := ⟨_, rfl⟩
        replace H : ((assartref04_Split.f k y324).bind fun t329 => (if y321.length + t329.length < 5864062014805 then (some (y321 ++ t329)) else (none))) = some r := by first | (rw [hy324]; with_reducible exact H) | (have H2_ := (Option.bind_some _ _).symm.trans H; rw [hy324]; with_reducible exact H2_) | (have H2_ := (Option.bind_some _ _).symm.trans H; with_reducible exact H2_) | with_reducible exact H | (rw [hy324]; exact H) | exact H
        have Ny324 := Aside0.mk hy324
        clear hy324
        replace H := Option.bind_eq_some_iff.mp H
        obtain ⟨t329, A80, H⟩ := H
        replace H : (if y321.length + t329.length < 5864062014805 then (some (y321 ++ t329)) else (none)) = some r := H
        have A8 := Aside0.mk A80
        clear A80
        by_cases c9 : y321.length + t329.length < 5864062014805
        · rw [if_pos c9] at H
          have LMc9 := Aside0.mk c9
          clear c9
          obtain ⟨y332, hy332⟩ : ∃ y_ : List (List (S78)), y_ = (y321 ++ t329) := ⟨_, rfl⟩
          replace H : (some y332) = some r := by first | (rw [hy332]; with_reducible exact H) | (have H2_ := (Option.bind_some _ _).symm.trans H; rw [hy332]; with_reducible exact H2_) | (have H2_ := (Option.bind_some _ _).symm.trans H; with_reducible exact H2_) | with_reducible exact H | (rw [hy332]; exact H) | exact H
          have Ny332 := Aside0.mk hy332
          clear hy332
          obtain rfl := Option.some.inj H
          go_enter Try.func39, Try.ntmps39
          try go_wp2
          have n0_ := Aside0.mk (Kd.V_drew HO0.out)
          have n1_ := Aside0.mk (below_drew1 HB.out)
          clear HO0
          clear HB
          have HO0 := n0_
          have HB := n1_
          clear n0_ n1_
          have q11 : (3 : Int) ≤ ((l0.length : Int) : Int) := of_decide_eq_true (by first | (with_reducible assumption) | assumption)
          obtain ⟨i011, hi011, _, hsz11, _⟩ := info_parts info78
          have hroom11 : l0.length ≤ c0 := (Kd.V_reads' HO0.out).2.1
          have hC11 : Kd.F k78 _ _ A0 l0.length l0 := (Kd.V_at (base := w.heap.size) HO0.out).2.2
          have hcut11 := cut_to (P := Try.prog) 54 78 .i64 Try.underlying54 hi011 A0 l0.length c0 3 (by omega) q11 hroom11
          have hr11 := Kd.F_take (m := 3) hC11 (by omega)
          have hy11 : y316.length = (3 : Int).toNat := (by rw [Ny316.out, List.length_take]; omega)
          rw [← Ny316.out] at hr11
          rw [← hy11] at hcut11
          have HO320 := Aside0.mk (show Kd.V k78 78 _ w.heap.size _ (.slice A0 y316.length c0) y316 from Kd.V_mk (by omega) hr11)
          have HC320 := Aside0.mk (show y316.length ≤ c0 from by omega)
          clear hr11 hC11 hroom11 hi011 hsz11
          have KY11 := Aside0.mk hy11
          clear hy11
          replace q11 := eq_true q11
          have q12 : (3 : Int) ≤ ((l0.length : Int) : Int) := of_decide_eq_true (by first | (with_reducible assumption) | assumption)
          obtain ⟨i012, hi012, _, hsz12, _⟩ := info_parts info78
          have hroom12 : l0.length ≤ c0 := (Kd.V_reads' HO0.out).2.1
          have hC12 : Kd.F k78 _ _ A0 l0.length l0 := (Kd.V_at (base := w.heap.size) HO0.out).2.2
          have hcut12 := cut_from (P := Try.prog) 54 78 .i64 Try.underlying54 hi012 2 hsz12 A0 l0.length c0 3 (by omega) q12
          have hr12 := Kd.F_cut (m := (3 : Int).toNat) (c := c0) hC12 (by omega) hroom12
          obtain ⟨A12, hA12⟩ : ∃ A1, A1 = (if c0 = (3 : Int).toNat then A0 else (A0 : Option Addr).map (·.add ((3 : Int).toNat * 2))) := ⟨_, rfl⟩
          obtain ⟨c12, hc12⟩ : ∃ c1, c1 = c0 - (3 : Int).toNat := ⟨_, rfl⟩
          have hy12 : y324.length = l0.length - (3 : Int).toNat := (by rw [Ny324.out, List.length_drop] <;> omega)
          rw [show (l0).drop (3 : Int).toNat = y324 from Ny324.out.symm] at hr12
          replace hr12 : Kd.F k78 _ _ A12 y324.length y324 := (by rw [hA12]; exact hr12)
          rw [← hy12, ← hA12, ← hc12] at hcut12
          have HO328 := Aside0.mk (show Kd.V k78 78 _ w.heap.size _ (.slice A12 y324.length c12) y324 from Kd.V_mk (by rw [hy12, hc12]; exact Nat.sub_le_sub_right hroom12 _) hr12)
          have HC328 := Aside0.mk (show y324.length ≤ c12 from by rw [hy12, hc12]; exact Nat.sub_le_sub_right hroom12 _)
          clear hr12 hC12 hroom12 hi012 hsz12 hc12
          have KY12 := Aside0.mk hy12
          have KA12 := Aside0.mk hA12
          clear hy12 hA12
          replace q12 := eq_true q12
          refine start_ (n := 8) (S := fun w' => True) (ds := []) #[false, false, false, false, false, false, false, false] (by kernel_rfl) rfl rfl trivial (fun hHeld => ?_); refine with_tabW assartref04_Split.tab5 assartref04_Split.bits5 (fun HT_ HW_ => ?_)
          generalize w.drew = w10 at HO0 HB HO320 HO328 hHeld ⊢
          refine pure_ (i := 0) (N := some 11) (v := ?_) (a' := ?_) #[true, false, false, false, false, false, false, false] rfl rfl (any_of HT_.out (by kernel_rfl)) (fun _ _ _ h => h) (Or.inl ⟨by rfl, ?_⟩) ?_ ?_
          rotate_left
          · intro w'
            go_simp
            with_reducible rfl
          rotate_left
          · simp only [Act.put, List.setIfInBounds_toArray, List.set_cons_zero, List.set_cons_succ, i64_w, i32_w]
            rfl
          refine pure_ (i := 1) (N := some 12) (v := ?_) (a' := ?_) #[true, true, false, false, false, false, false, false] rfl rfl (any_of HT_.out (by kernel_rfl)) (fun _ _ _ h => h) (Or.inl ⟨by rfl, ?_⟩) ?_ ?_
          rotate_left
          · intro w'
            go_simp
            with_reducible rfl
          rotate_left
          · simp only [Act.put, List.setIfInBounds_toArray, List.set_cons_zero, List.set_cons_succ, i64_w, i32_w]
            rfl
          refine pure_ (i := 3) (N := some 14) (v := ?_) (a' := ?_) #[true, true, false, true, false, false, false, false] rfl rfl (any_of HT_.out (by kernel_rfl)) (fun _ _ _ h => h) (Or.inl ⟨by rfl, ?_⟩) ?_ ?_
          rotate_left
          · intro w'
            go_simp
            with_reducible rfl
          rotate_left
          · simp only [Act.put, List.setIfInBounds_toArray, List.set_cons_zero, List.set_cons_succ, i64_w, i32_w]
            rfl
          refine pure_ (i := 4) (N := some 15) (v := ?_) (a' := ?_) #[true, true, false, true, true, false, false, false] rfl rfl (any_of HT_.out (by kernel_rfl)) (fun _ _ _ h => h) (Or.inl ⟨by rfl, ?_⟩) ?_ ?_
          rotate_left
          · intro w'
            go_simp
            with_reducible rfl
          rotate_left
          · simp only [Act.put, List.setIfInBounds_toArray, List.set_cons_zero, List.set_cons_succ, i64_w, i32_w]
            rfl
          refine join_ (σ := Value × Value) 2 #[true, true, true, true, true, true, false, false] (fun s_ => [(13, s_.1), (16, s_.2)]) (fun s_ w' => (Kd.V k78 78 w' w.heap.size (fun k_ => (P0_ k_ ∨ w.heap.size ≤ k_) ∧ some k_ ≠ (s_.1 : Value).ownBlock ∧ some k_ ≠ (s_.2 : Value).ownBlock) (.slice A0 l0.length c0) l0) ∧ (Kd.V k78 78 w' w.heap.size (fun k_ => (P0_ k_ ∨ w.heap.size ≤ k_) ∧ some k_ ≠ (s_.1 : Value).ownBlock ∧ some k_ ≠ (s_.2 : Value).ownBlock) (.slice A0 y316.length c0) y316) ∧ (Kd.N (Kd.slice 78 k78) 54 w' w.heap.size (fun k_ => (P0_ k_ ∨ w.heap.size ≤ k_) ∧ some k_ ≠ (s_.2 : Value).ownBlock) s_.1 y321) ∧ (Kd.V k78 78 w' w.heap.size (fun k_ => (P0_ k_ ∨ w.heap.size ≤ k_) ∧ some k_ ≠ (s_.1 : Value).ownBlock ∧ some k_ ≠ (s_.2 : Value).ownBlock) (.slice A12 y324.length c12) y324) ∧ (Kd.N (Kd.slice 78 k78) 54 w' w.heap.size (fun k_ => (P0_ k_ ∨ w.heap.size ≤ k_) ∧ some k_ ≠ (s_.1 : Value).ownBlock) s_.2 t329) ∧ (Below w.heap.size w w')) ?_ ?_
          rotate_left
          · intro hCont
            refine two_ (i := 2) (j := 5) (Ni := some 13) (Nj := some 16) #[true, true, true, true, true, false, false, false] #[true, true, false, true, true, true, false, false] rfl rfl rfl rfl (two_of HT_.out (by kernel_rfl)) (by decide) (by decide) (fun K hK => ?_) (fun K hK => ?_)
            · skip
              refine Kd.N_lit_step (Kd.slice 78 k78) _ 54 ?hg (N' := 13) ?hd (xs := ([y316] : List (List (S78)))) (inner := [.slice A0 y316.length c0]) (ok := (fun k_ => (P0_ k_ ∨ w.heap.size ≤ k_))) (okp := (fun k_ => (P0_ k_ ∨ w.heap.size ≤ k_))) ?hr ?hp (fun _ hk => hk) ((show ∀ k_, w10.heap.size ≤ k_ → (fun k_ => (P0_ k_ ∨ w.heap.size ≤ k_)) k_ from fun k_ hk => (.inr (Nat.le_trans (below_size (by repeat (first | (with_reducible first | exact HB.out | apply below_alloc | apply pw_below_drewN | apply below_drew1) | exact HB.out))) hk))) _ (Nat.le_refl _)) (Below.refl _ _) (Nat.le_refl _) (by simp) ?_; (case hd => rfl); (case hg => rfl); (case hr => first | (go_simp; done) | (go_simp; rfl)); (case hp => exact (Reps.one (show Kd.FK (Kd.slice 78 k78) _ _ y316 [.slice A0 y316.length c0] from (Kd.FK_slice_mk (Kd.V_reads' (Kd.V_mono (ok' := (fun k_ => (P0_ k_ ∨ w.heap.size ≤ k_))) (HO320.out) (fun k_ hk => hk))).2.1 (Kd.V_F (Kd.V_mono (ok' := (fun k_ => (P0_ k_ ∨ w.heap.size ≤ k_))) (HO320.out) (fun k_ hk => hk))))) (Reps.none _ _)))
              intro v322 w13 ho14 hb hg_ hnew_
              clear hg_ hnew_
              (first | rw [← Ny321.out] at ho14 | (simp only [Int.reduceToNat] at ho14; rw [← Ny321.out] at ho14))
              have n0_ := Aside0.mk (Kd.V_elder' (by (with_reducible repeat (first | apply Kd.V_alloc | apply Kd.V_drewN | apply Kd.V_drew)); exact HO0.out) (Kd.N_base ho14) hb)
              have n1_ := Aside0.mk (Kd.V_elder' (by (with_reducible repeat (first | apply Kd.V_alloc | apply Kd.V_drewN | apply Kd.V_drew)); exact HO320.out) (Kd.N_base ho14) hb)
              have n2_ := Aside0.mk (Kd.V_elder' (by (with_reducible repeat (first | apply Kd.V_alloc | apply Kd.V_drewN | apply Kd.V_drew)); exact HO328.out) (Kd.N_base ho14) hb)
              have n3_ := Aside0.mk (Kd.N_lower ho14 (below_size (by repeat (first | (with_reducible first | exact HB.out | apply below_alloc | apply pw_below_drewN | apply below_drew1) | exact HB.out))))
              have n4_ := Aside0.mk (below_step (by repeat (first | (with_reducible first | exact HB.out | apply below_alloc | apply pw_below_drewN | apply below_drew1) | exact HB.out)) hb)
              clear HO0
              clear HO320
              clear HO328
              clear HB
              have HO0 := n0_
              have HO320 := n1_
              have HO328 := n2_
              have HO323 := n3_
              have HB := n4_
              clear n0_ n1_ n2_ n3_ n4_
              clear hb ho14
              refine hK.out _ _ trivial (fun hHeld => ?_)
              clear hK K
              refine norm_ (a' := ?_) ?_ ?_
              rotate_left
              · show Act.put _ (some 13) _ = _
                simp only [Act.put, List.setIfInBounds_toArray, List.set_cons_zero, List.set_cons_succ, i64_w, i32_w]
                rfl
              refine one_ (i := 5) (N := some 16) #[true, true, true, true, true, true, false, false] rfl rfl (one_of HT_.out (by kernel_rfl)) (by decide) (fun K hK => ?_)
              refine goes_ Try.func39 (by kernel_rfl) rfl #[.slice A12 y324.length c12] (by rfl) rfl rfl (by (try simp only [List.map_toArray, List.map_cons, List.map_nil]); first | done | rfl | (simp only [List.length_drop, List.length_take]; rfl)) ?_
              with_reducible refine (ih k (by omega) (fun k_ => ((P0_ k_ ∨ w.heap.size ≤ k_) ∧ some k_ ≠ (v322 : Value).ownBlock)) _ _ y324 t329 _ ?side1 A8.out).mono ?_
              (case side1 => exact HO328.out)
              rintro e w15 ⟨v330, rfl, ho0, hb⟩
              refine ⟨_, rfl, ?_⟩
              have n0_ := Aside0.mk (Kd.V_elder' (by (with_reducible repeat (first | apply Kd.V_alloc | apply Kd.V_drewN | apply Kd.V_drew)); exact HO0.out) (Kd.N_base ho0) hb)
              have n1_ := Aside0.mk (Kd.V_elder' (by (with_reducible repeat (first | apply Kd.V_alloc | apply Kd.V_drewN | apply Kd.V_drew)); exact HO320.out) (Kd.N_base ho0) hb)
              have n2_ := Aside0.mk (Kd.V_elder' (by (with_reducible repeat (first | apply Kd.V_alloc | apply Kd.V_drewN | apply Kd.V_drew)); exact HO328.out) (Kd.N_base ho0) hb)
              have n3_ := Aside0.mk (Kd.N_elder' (by (with_reducible repeat (first | apply Kd.N_alloc | apply Kd.N_drewN | apply Kd.N_drew)); exact HO323.out) (Kd.N_base ho0) hb)
              have n4_ := Aside0.mk (Kd.N_lower (Kd.N_mono (ok' := fun k_ => (P0_ k_ ∨ w.heap.size ≤ k_) ∧ some k_ ≠ (v322 : Value).ownBlock) ho0 (fun k_ hk_ => ⟨Or.elim hk_ (fun hs_ => hs_.1) (fun hn_ => (.inr (Nat.le_trans (below_size (by repeat (first | (with_reducible first | exact HB.out | apply below_alloc | apply pw_below_drewN | apply below_drew1) | exact HB.out))) hn_))), Or.elim hk_ (fun hs_ => hs_.2) (fun hn_ => (Kd.fresh' (Kd.N_lt (by (with_reducible repeat (first | apply Kd.N_alloc | apply Kd.N_drewN | apply Kd.N_drew)); exact HO323.out)) k_ hn_))⟩)) (below_size (by repeat (first | (with_reducible first | exact HB.out | apply below_alloc | apply pw_below_drewN | apply below_drew1) | exact HB.out))))
              have n5_ := Aside0.mk (below_step (by repeat (first | (with_reducible first | exact HB.out | apply below_alloc | apply pw_below_drewN | apply below_drew1) | exact HB.out)) hb)
              clear HO0
              clear HO320
              clear HO328
              clear HO323
              clear HB
              have HO0 := n0_
              have HO320 := n1_
              have HO328 := n2_
              have HO323 := n3_
              have HO331 := n4_
              have HB := n5_
              clear n0_ n1_ n2_ n3_ n4_ n5_
              (try clear hb)
              (try clear hb2)
              (try clear hk)
              (try clear hi)
              (try clear ho0)
              refine hK.out _ _ trivial (fun hHeld => ?_)
              clear hK K
              refine norm_ (a' := ?_) ?_ ?_
              rotate_left
              · show Act.put _ (some 16) _ = _
                simp only [Act.put, List.setIfInBounds_toArray, List.set_cons_zero, List.set_cons_succ, i64_w, i32_w]
                rfl
              exact norm_ (by simp only [putAll, Act.put, List.setIfInBounds_toArray, List.set_cons_zero, List.set_cons_succ]) (hCont (v322, v330) _ ⟨(by (with_reducible repeat (first | apply Kd.V_alloc | apply Kd.V_drewN | apply Kd.V_drew)); exact Kd.V_mono HO0.out (fun _ hk => ⟨hk.1.1, ⟨hk.1.2, hk.2⟩⟩)), (by (with_reducible repeat (first | apply Kd.V_alloc | apply Kd.V_drewN | apply Kd.V_drew)); exact Kd.V_mono HO320.out (fun _ hk => ⟨hk.1.1, ⟨hk.1.2, hk.2⟩⟩)), (by (with_reducible repeat (first | apply Kd.N_alloc | apply Kd.N_drewN | apply Kd.N_drew)); exact HO323.out), (by (with_reducible repeat (first | apply Kd.V_alloc | apply Kd.V_drewN | apply Kd.V_drew)); exact Kd.V_mono HO328.out (fun _ hk => ⟨hk.1.1, ⟨hk.1.2, hk.2⟩⟩)), (by (with_reducible repeat (first | apply Kd.N_alloc | apply Kd.N_drewN | apply Kd.N_drew)); exact HO331.out), (by repeat (first | (with_reducible first | exact HB.out | apply below_alloc | apply pw_below_drewN | apply below_drew1) | exact HB.out))⟩)
            · skip
              refine goes_ Try.func39 (by kernel_rfl) rfl #[.slice A12 y324.length c12] (by rfl) rfl rfl (by (try simp only [List.map_toArray, List.map_cons, List.map_nil]); first | done | rfl | (simp only [List.length_drop, List.length_take]; rfl)) ?_
              with_reducible refine (ih k (by omega) (fun k_ => (P0_ k_ ∨ w.heap.size ≤ k_)) _ _ y324 t329 _ ?side1 A8.out).mono ?_
              (case side1 => exact HO328.out)
              rintro e w13 ⟨v330, rfl, ho0, hb⟩
              refine ⟨_, rfl, ?_⟩
              have n0_ := Aside0.mk (Kd.V_elder' (by (with_reducible repeat (first | apply Kd.V_alloc | apply Kd.V_drewN | apply Kd.V_drew)); exact HO0.out) (Kd.N_base ho0) hb)
              have n1_ := Aside0.mk (Kd.V_elder' (by (with_reducible repeat (first | apply Kd.V_alloc | apply Kd.V_drewN | apply Kd.V_drew)); exact HO320.out) (Kd.N_base ho0) hb)
              have n2_ := Aside0.mk (Kd.V_elder' (by (with_reducible repeat (first | apply Kd.V_alloc | apply Kd.V_drewN | apply Kd.V_drew)); exact HO328.out) (Kd.N_base ho0) hb)
              have n3_ := Aside0.mk (Kd.N_lower (Kd.N_mono (ok' := fun k_ => (P0_ k_ ∨ w.heap.size ≤ k_)) ho0 (fun k_ hk_ => Or.elim hk_ (fun hs_ => hs_) (fun hn_ => (.inr (Nat.le_trans (below_size (by repeat (first | (with_reducible first | exact HB.out | apply below_alloc | apply pw_below_drewN | apply below_drew1) | exact HB.out))) hn_))))) (below_size (by repeat (first | (with_reducible first | exact HB.out | apply below_alloc | apply pw_below_drewN | apply below_drew1) | exact HB.out))))
              have n4_ := Aside0.mk (below_step (by repeat (first | (with_reducible first | exact HB.out | apply below_alloc | apply pw_below_drewN | apply below_drew1) | exact HB.out)) hb)
              clear HO0
              clear HO320
              clear HO328
              clear HB
              have HO0 := n0_
              have HO320 := n1_
              have HO328 := n2_
              have HO331 := n3_
              have HB := n4_
              clear n0_ n1_ n2_ n3_ n4_
              (try clear hb)
              (try clear hb2)
              (try clear hk)
              (try clear hi)
              (try clear ho0)
              refine hK.out _ _ trivial (fun hHeld => ?_)
              clear hK K
              refine norm_ (a' := ?_) ?_ ?_
              rotate_left
              · show Act.put _ (some 16) _ = _
                simp only [Act.put, List.setIfInBounds_toArray, List.set_cons_zero, List.set_cons_succ, i64_w, i32_w]
                rfl
              refine one_ (i := 2) (N := some 13) #[true, true, true, true, true, true, false, false] rfl rfl (one_of HT_.out (by kernel_rfl)) (by decide) (fun K hK => ?_)
              refine Kd.N_lit_step (Kd.slice 78 k78) _ 54 ?hg (N' := 13) ?hd (xs := ([y316] : List (List (S78)))) (inner := [.slice A0 y316.length c0]) (ok := (fun k_ => (P0_ k_ ∨ w.heap.size ≤ k_) ∧ some k_ ≠ (v330 : Value).ownBlock)) (okp := (fun k_ => (P0_ k_ ∨ w.heap.size ≤ k_) ∧ some k_ ≠ (v330 : Value).ownBlock)) ?hr ?hp (fun _ hk => hk) ((show ∀ k_, w13.heap.size ≤ k_ → (fun k_ => (P0_ k_ ∨ w.heap.size ≤ k_) ∧ some k_ ≠ (v330 : Value).ownBlock) k_ from fun k_ hk => ⟨(.inr (Nat.le_trans (below_size (by repeat (first | (with_reducible first | exact HB.out | apply below_alloc | apply pw_below_drewN | apply below_drew1) | exact HB.out))) hk)), Kd.fresh' (Kd.N_lt (by (with_reducible repeat (first | apply Kd.N_alloc | apply Kd.N_drewN | apply Kd.N_drew)); exact HO331.out)) k_ hk⟩) _ (Nat.le_refl _)) (Below.refl _ _) (Nat.le_refl _) (by simp) ?_; (case hd => rfl); (case hg => rfl); (case hr => first | (go_simp; done) | (go_simp; rfl)); (case hp => exact (Reps.one (show Kd.FK (Kd.slice 78 k78) _ _ y316 [.slice A0 y316.length c0] from (Kd.FK_slice_mk (Kd.V_reads' (Kd.V_mono (ok' := (fun k_ => (P0_ k_ ∨ w.heap.size ≤ k_) ∧ some k_ ≠ (v330 : Value).ownBlock)) (HO320.out) (fun k_ hk => ⟨hk.1, hk.2⟩))).2.1 (Kd.V_F (Kd.V_mono (ok' := (fun k_ => (P0_ k_ ∨ w.heap.size ≤ k_) ∧ some k_ ≠ (v330 : Value).ownBlock)) (HO320.out) (fun k_ hk => ⟨hk.1, hk.2⟩))))) (Reps.none _ _)))
              intro v322 w14 ho15 hb hg_ hnew_
              clear hg_ hnew_
              (first | rw [← Ny321.out] at ho15 | (simp only [Int.reduceToNat] at ho15; rw [← Ny321.out] at ho15))
              have n0_ := Aside0.mk (Kd.V_elder' (by (with_reducible repeat (first | apply Kd.V_alloc | apply Kd.V_drewN | apply Kd.V_drew)); exact HO0.out) (Kd.N_base ho15) hb)
              have n1_ := Aside0.mk (Kd.V_elder' (by (with_reducible repeat (first | apply Kd.V_alloc | apply Kd.V_drewN | apply Kd.V_drew)); exact HO320.out) (Kd.N_base ho15) hb)
              have n2_ := Aside0.mk (Kd.V_elder' (by (with_reducible repeat (first | apply Kd.V_alloc | apply Kd.V_drewN | apply Kd.V_drew)); exact HO328.out) (Kd.N_base ho15) hb)
              have n3_ := Aside0.mk (Kd.N_elder' (by (with_reducible repeat (first | apply Kd.N_alloc | apply Kd.N_drewN | apply Kd.N_drew)); exact HO331.out) (Kd.N_base ho15) hb)
              have n4_ := Aside0.mk (Kd.N_lower ho15 (below_size (by repeat (first | (with_reducible first | exact HB.out | apply below_alloc | apply pw_below_drewN | apply below_drew1) | exact HB.out))))
              have n5_ := Aside0.mk (below_step (by repeat (first | (with_reducible first | exact HB.out | apply below_alloc | apply pw_below_drewN | apply below_drew1) | exact HB.out)) hb)
              clear HO0
              clear HO320
              clear HO328
              clear HO331
              clear HB
              have HO0 := n0_
              have HO320 := n1_
              have HO328 := n2_
              have HO331 := n3_
              have HO323 := n4_
              have HB := n5_
              clear n0_ n1_ n2_ n3_ n4_ n5_
              clear hb ho15
              refine hK.out _ _ trivial (fun hHeld => ?_)
              clear hK K
              refine norm_ (a' := ?_) ?_ ?_
              rotate_left
              · show Act.put _ (some 13) _ = _
                simp only [Act.put, List.setIfInBounds_toArray, List.set_cons_zero, List.set_cons_succ, i64_w, i32_w]
                rfl
              exact norm_ (by simp only [putAll, Act.put, List.setIfInBounds_toArray, List.set_cons_zero, List.set_cons_succ]) (hCont (v322, v330) _ ⟨(by (with_reducible repeat (first | apply Kd.V_alloc | apply Kd.V_drewN | apply Kd.V_drew)); exact Kd.V_mono HO0.out (fun _ hk => ⟨hk.1.1, ⟨hk.2, hk.1.2⟩⟩)), (by (with_reducible repeat (first | apply Kd.V_alloc | apply Kd.V_drewN | apply Kd.V_drew)); exact Kd.V_mono HO320.out (fun _ hk => ⟨hk.1.1, ⟨hk.2, hk.1.2⟩⟩)), (by (with_reducible repeat (first | apply Kd.N_alloc | apply Kd.N_drewN | apply Kd.N_drew)); exact HO323.out), (by (with_reducible repeat (first | apply Kd.V_alloc | apply Kd.V_drewN | apply Kd.V_drew)); exact Kd.V_mono HO328.out (fun _ hk => ⟨hk.1.1, ⟨hk.2, hk.1.2⟩⟩)), (by (with_reducible repeat (first | apply Kd.N_alloc | apply Kd.N_drewN | apply Kd.N_drew)); exact HO331.out), (by repeat (first | (with_reducible first | exact HB.out | apply below_alloc | apply pw_below_drewN | apply below_drew1) | exact HB.out))⟩)
          rintro ⟨v322, v330⟩ w16 ⟨h0_, h1_, h2_, h3_, h4_, h5_⟩
          have n0_ : Aside0 (Kd.V k78 78 w16 w.heap.size (fun k_ => (P0_ k_ ∨ w.heap.size ≤ k_) ∧ some k_ ≠ (v322 : Value).ownBlock ∧ some k_ ≠ (v330 : Value).ownBlock) (.slice A0 l0.length c0) l0) := ⟨h0_⟩
          have n1_ : Aside0 (Kd.V k78 78 w16 w.heap.size (fun k_ => (P0_ k_ ∨ w.heap.size ≤ k_) ∧ some k_ ≠ (v322 : Value).ownBlock ∧ some k_ ≠ (v330 : Value).ownBlock) (.slice A0 y316.length c0) y316) := ⟨h1_⟩
          have n2_ : Aside0 (Kd.N (Kd.slice 78 k78) 54 w16 w.heap.size (fun k_ => (P0_ k_ ∨ w.heap.size ≤ k_) ∧ some k_ ≠ (v330 : Value).ownBlock) v322 y321) := ⟨h2_⟩
          have n3_ : Aside0 (Kd.V k78 78 w16 w.heap.size (fun k_ => (P0_ k_ ∨ w.heap.size ≤ k_) ∧ some k_ ≠ (v322 : Value).ownBlock ∧ some k_ ≠ (v330 : Value).ownBlock) (.slice A12 y324.length c12) y324) := ⟨h3_⟩
          have n4_ : Aside0 (Kd.N (Kd.slice 78 k78) 54 w16 w.heap.size (fun k_ => (P0_ k_ ∨ w.heap.size ≤ k_) ∧ some k_ ≠ (v322 : Value).ownBlock) v330 t329) := ⟨h4_⟩
          have n5_ : Aside0 (Below w.heap.size w w16) := ⟨h5_⟩
          clear HO0
          clear HB
          clear h0_ h1_ h2_ h3_ h4_ h5_
          have HO0 := n0_
          have HO320 := n1_
          have HO323 := n2_
          have HO328 := n3_
          have HO331 := n4_
          have HB := n5_
          clear n0_ n1_ n2_ n3_ n4_ n5_
          have hHeld := trivial
          obtain ⟨Ao18, co18, eo18⟩ := Kd.N_slice HO331.out
          (first | subst eo18 | (injection eo18 with f1_ f2_ f3_; have f4_ := f1_.symm; have f5_ := f3_.symm; clear f1_ f2_ f3_; subst f4_; subst f5_))
          refine norm_ (a' := ?_) ?_ ?_
          rotate_left
          · simp only [putAll, Act.put, List.setIfInBounds_toArray, List.set_cons_zero, List.set_cons_succ]
            rfl
          refine one_ (i := 6) (N := some 17) #[true, true, true, true, true, true, true, false] rfl rfl (one_of HT_.out (by kernel_rfl)) (by decide) (fun K hK => ?_)
          refine Kd.N_append_rows_step (Kd.slice 78 k78) (w0 := w) w.heap.size (by rfl) (.tmp 13) (.tmp 16) 71 54 (.slice none 0 0) 24 rfl Try.underlying71 info54 rfl (by decide) (by omega) v322 y321 t329 _ _ _ (fun k_ => (P0_ k_ ∨ w.heap.size ≤ k_)) (fun k_ => ((fun k_ => (P0_ k_ ∨ w.heap.size ≤ k_))) k_ ∧ some k_ ≠ (v322 : Value).ownBlock) rfl rfl ?aO ?aR (fun _ hk => hk) ?aF ?aB ?aS ?aL ?_
          (case aR => exact (by skip; exact Kd.N_F (Kd.N_mono (ok' := (fun k_ => ((fun k_ => (P0_ k_ ∨ w.heap.size ≤ k_))) k_ ∧ some k_ ≠ (v322 : Value).ownBlock)) (HO331.out) (fun k_ hk => ⟨hk.1, hk.2⟩))))
          (case aB => exact (by repeat (first | (with_reducible first | exact HB.out | apply below_alloc | apply pw_below_drewN | apply below_drew1) | exact HB.out)))
          (case aF => exact (fun k_ hk => (.inr (Nat.le_trans (below_size (by repeat (first | (with_reducible first | exact HB.out | apply below_alloc | apply pw_below_drewN | apply below_drew1) | exact HB.out))) hk))))
          (case aO => exact (by (with_reducible repeat (first | apply Kd.N_alloc | apply Kd.N_drewN | apply Kd.N_drew)); exact Kd.N_mono HO323.out (fun _ hk => hk.1)))
          (case aS => exact (below_size (by repeat (first | (with_reducible first | exact HB.out | apply below_alloc | apply pw_below_drewN | apply below_drew1) | exact HB.out))))
          (case aL => have := LMc9.out; omega)
          intro v333 w17 ho hb hg hat
          rw [← Ny332.out] at ho
          have n0_ := Aside0.mk (Kd.V_afterv (ok := (fun k_ => (P0_ k_ ∨ w.heap.size ≤ k_) ∧ some k_ ≠ (.slice Ao18 t329.length co18 : Value).ownBlock)) (by (with_reducible repeat (first | apply Kd.V_alloc | apply Kd.V_drewN | apply Kd.V_drew)); exact Kd.V_mono HO0.out (fun _ hk => ⟨⟨hk.1, hk.2.2⟩, hk.2.1⟩)) hg hat)
          have n1_ := Aside0.mk (Kd.V_afterv (ok := (fun k_ => (P0_ k_ ∨ w.heap.size ≤ k_) ∧ some k_ ≠ (.slice Ao18 t329.length co18 : Value).ownBlock)) (by (with_reducible repeat (first | apply Kd.V_alloc | apply Kd.V_drewN | apply Kd.V_drew)); exact Kd.V_mono HO320.out (fun _ hk => ⟨⟨hk.1, hk.2.2⟩, hk.2.1⟩)) hg hat)
          have n2_ := Aside0.mk (Kd.V_afterv (ok := (fun k_ => (P0_ k_ ∨ w.heap.size ≤ k_) ∧ some k_ ≠ (.slice Ao18 t329.length co18 : Value).ownBlock)) (by (with_reducible repeat (first | apply Kd.V_alloc | apply Kd.V_drewN | apply Kd.V_drew)); exact Kd.V_mono HO328.out (fun _ hk => ⟨⟨hk.1, hk.2.2⟩, hk.2.1⟩)) hg hat)
          have n3_ := Aside0.mk (Kd.N_afterv (ok := (fun k_ => (P0_ k_ ∨ w.heap.size ≤ k_))) (by (with_reducible repeat (first | apply Kd.N_alloc | apply Kd.N_drewN | apply Kd.N_drew)); exact HO331.out) hg hat)
          have n4_ := Aside0.mk (hb)
          have n5_ := Aside0.mk (ho)
          clear HO0
          clear HO320
          clear HO328
          clear HO331
          clear HB
          clear HO323
          have HO0 := n0_
          have HO320 := n1_
          have HO328 := n2_
          have HO331 := n3_
          have HB := n4_
          have HO334 := n5_
          clear n0_ n1_ n2_ n3_ n4_ n5_
          clear ho hb hg hat
          refine hK.out _ _ trivial (fun hHeld => ?_)
          clear hK K
          refine norm_ (a' := ?_) ?_ ?_
          rotate_left
          · show Act.put _ (some 17) _ = _
            simp only [Act.put, List.setIfInBounds_toArray, List.set_cons_zero, List.set_cons_succ, i64_w, i32_w]
            rfl
          refine pure_ (i := 7) (N := some 2) (v := ?_) (a' := ?_) #[true, true, true, true, true, true, true, true] rfl rfl (any_of HT_.out (by kernel_rfl)) (fun _ _ _ h => h) (Or.inl ⟨by rfl, ?_⟩) ?_ ?_
          rotate_left
          · intro w'
            go_simp
            with_reducible rfl
          rotate_left
          · simp only [Act.put, List.setIfInBounds_toArray, List.set_cons_zero, List.set_cons_succ, i64_w, i32_w]
            rfl
          refine done_ (done_of HT_.out (by kernel_rfl)) ?_
          try go_wp2
          go_ret
          exact ⟨_, by first | rfl | (simp [errW_none, errW_some] <;> rfl) | (simp [*, errW_none, errW_some] <;> rfl), by (with_reducible repeat (first | apply Kd.N_alloc | apply Kd.N_drewN | apply Kd.N_drew)); exact HO334.out, by repeat (first | (with_reducible first | exact HB.out | apply below_alloc | apply pw_below_drewN | apply below_drew1) | exact HB.out)⟩
        · rw [if_neg c9] at H
          exact absurd H (by simp)
      · rw [if_neg c6] at H
        exact absurd H (by simp)

end Go.Proofs.Ythjnkapkhphpeaa.P
end
