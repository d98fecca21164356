/- Texts of this claim's proof put together: F29, PNodeB, F28, HOpenR, F30, PNodeC, F55, F32, F33, F38. -/
import Derived.Test.YthjnkapkhphpeaaBNodeTells0
import Derived.Test.YthjnkapkhphpeaaBNodeTells1
section
namespace Go.Proofs.Ythjnkapkhphpeaa.P
open Go.RowKit Go.Proofs.YthjnkapkhphpeaaW.PrintWords Go.Proofs.YthjnkapkhphpeaaW.PrintLast Go.Proofs.YthjnkapkhphpeaaW.PrintMore
attribute [local go_sem] max2_int min2_int max_two min_two max_three min_three max_four min_four
set_option linter.unusedVariables false
set_option linter.unusedSimpArgs false

/-! ### node_Parse: function 29 -/
theorem size_drewN_ (W : World) (n : Nat) : (W.drewN n).heap.size = W.heap.size := rfl
mutual
def node_Parse.j0 : Nat → ByteArray → List Int → Bool → Option (Bool × (List (S78)) × Int)
  | 0, _, _, _ => none
  | k + 1, x0, x4, x23 => if x23 = true then (some (false, ([] : List (S78)), 2)) else (if 0 < (x4.length : Int) then (if 1 < (x4.length : Int) then (node_Parse.l0 k x0 x4 2 (rd x4 1) 0 ((rd x4 0) == 1) ([] : List (S78))) else (none)) else (none))
def node_Parse.l0 : Nat → ByteArray → List Int → Int → Int → Int → Bool → List (S78) → Option (Bool × (List (S78)) × Int)
  | 0, _, _, _, _, _, _, _ => none
  | k + 1, x0, x4, x7, x32, x33, x144000, x144001 => if x33 < x32 then ((num_Take.f k x4 x7 4).bind fun bt146 => ((num_Take.f k x4 bt146.2.1 4).bind fun bt149 => (if x144001.length < 8796093022208 then (node_Parse.l0 k x0 x4 bt149.2.1 x32 ((x33 + 1) % 256) x144000 (x144001 ++ [(⟨bt146.1, bt149.1⟩ : S78)])) else (none)))) else ((node_Print.f k x144000 x144001).bind fun bt155 => (if bt155.2 = 0 then (if bt155.1.toList = x0.toList then (some (x144000, x144001, 0)) else (some (false, ([] : List (S78)), 2))) else (some (false, ([] : List (S78)), 2))))
end
def node_Parse.f (k : Nat) (a0 : ByteArray) : Option (Bool × (List (S78)) × Int) := (num_Open.f a0).bind fun bt137 => (if bt137.2 = 0 then (if 1 < (bt137.1.length : Int) then (node_Parse.j0 k a0 bt137.1 (decide ((rd bt137.1 1) > 4))) else (none)) else (node_Parse.j0 k a0 bt137.1 true))
theorem node_Parse.mono_l : ∀ k, (∀ y0 y1 y2, LeO (node_Parse.j0 k y0 y1 y2) (node_Parse.j0 (k + 1) y0 y1 y2)) ∧ (∀ y0 y1 y2 y3 y4 y5 y6, LeO (node_Parse.l0 k y0 y1 y2 y3 y4 y5 y6) (node_Parse.l0 (k + 1) y0 y1 y2 y3 y4 y5 y6))
  | 0 => ⟨fun _ _ _ r h => by simp [node_Parse.j0] at h, fun _ _ _ _ _ _ _ r h => by simp [node_Parse.l0] at h⟩
  | k + 1 => by
    obtain ⟨ih0, ih1⟩ := node_Parse.mono_l k
    refine ⟨?_, ?_⟩
    · intro y0 y1 y2
      unfold node_Parse.j0
      repeat' first
      | (with_reducible exact ih0 _ _ _)
      | (with_reducible exact ih1 _ _ _ _ _ _ _)
      | (with_reducible exact node_Print.mono _ _ _)
      | (with_reducible exact num_Take.mono _ _ _ _)
      | (with_reducible exact LeO.refl _)
      | (with_reducible exact LeO.none _)
      | (with_reducible refine LeO.ite ?_ ?_)
      | (with_reducible refine LeO.bind ?_ (fun _ => ?_))
      | exact ih0 _ _ _
      | exact ih1 _ _ _ _ _ _ _
      | exact node_Print.mono _ _ _
      | exact num_Take.mono _ _ _ _
      | exact LeO.none _
      | refine LeO.ite ?_ ?_
      | refine LeO.bind ?_ (fun _ => ?_)
    · intro y0 y1 y2 y3 y4 y5 y6
      unfold node_Parse.l0
      repeat' first
      | (with_reducible exact ih0 _ _ _)
      | (with_reducible exact ih1 _ _ _ _ _ _ _)
      | (with_reducible exact node_Print.mono _ _ _)
      | (with_reducible exact num_Take.mono _ _ _ _)
      | (with_reducible exact LeO.refl _)
      | (with_reducible exact LeO.none _)
      | (with_reducible refine LeO.ite ?_ ?_)
      | (with_reducible refine LeO.bind ?_ (fun _ => ?_))
      | exact ih0 _ _ _
      | exact ih1 _ _ _ _ _ _ _
      | exact node_Print.mono _ _ _
      | exact num_Take.mono _ _ _ _
      | exact LeO.none _
      | refine LeO.ite ?_ ?_
      | refine LeO.bind ?_ (fun _ => ?_)
theorem node_Parse.mono : ∀ a0 k, LeO (node_Parse.f k a0) (node_Parse.f (k + 1) a0) := by
  intro a0 k
  obtain ⟨ih0, ih1⟩ := node_Parse.mono_l k
  unfold node_Parse.f
  repeat' first
      | (with_reducible exact ih0 _ _ _)
      | (with_reducible exact ih1 _ _ _ _ _ _ _)
      | (with_reducible exact node_Print.mono _ _ _)
      | (with_reducible exact num_Take.mono _ _ _ _)
      | (with_reducible exact LeO.refl _)
      | (with_reducible exact LeO.none _)
      | (with_reducible refine LeO.ite ?_ ?_)
      | (with_reducible refine LeO.bind ?_ (fun _ => ?_))
      | exact ih0 _ _ _
      | exact ih1 _ _ _ _ _ _ _
      | exact node_Print.mono _ _ _
      | exact num_Take.mono _ _ _ _
      | exact LeO.none _
      | refine LeO.ite ?_ ?_
      | refine LeO.bind ?_ (fun _ => ?_)
set_option maxHeartbeats 8000000 in
set_option maxRecDepth 100000 in
theorem node_Parse.calls (k : Nat) (a0 : ByteArray) (r1 : Bool) (r2 : List (S78)) (r3 : Int) (w : World) (h : node_Parse.f k a0 = some (r1, r2, r3)) :
    Calls Try.prog 29 #[.string a0] w fun e w' => ∃ v1_ : Value, e = .returned (.tuple #[.agg #[.bool r1, v1_], .int .i64 r3]) ∧ Kd.R k78 78 w' w.heap.size (fun _ => True) v1_ r2 ∧ Below w.heap.size w w' := by
  have hu56 := Try.underlying56
  have hu78 := Try.underlying78
  have HB := Aside0.mk (Below.refl w.heap.size w)
  have H : ((num_Open.f a0).bind fun bt137 => (if bt137.2 = 0 then (if 1 < (bt137.1.length : Int) then (node_Parse.j0 k a0 bt137.1 (decide ((rd bt137.1 1) > 4))) else (none)) else (node_Parse.j0 k a0 bt137.1 true))) = some (r1, r2, r3) := h
  clear h
  replace H := Option.bind_eq_some_iff.mp H
  obtain ⟨⟨t137, t140⟩, A20, H⟩ := H
  replace H : (if t140 = 0 then (if 1 < (t137.length : Int) then (node_Parse.j0 k a0 t137 (decide ((rd t137 1) > 4))) else (none)) else (node_Parse.j0 k a0 t137 true)) = some (r1, r2, r3) := H
  have A2 := Aside0.mk A20
  clear A20
  have HC3 := Aside0.mk H
  clear H
  go_enter Try.func29, Try.ntmps29
  go_upto_region 2 with (first | ((with_reducible refine gate_dst (N := 2) rfl ?_); refine box_event ?hg (N := 2) ?hd (cs := #[.bool false, .slice none 0 0]) (t := 56) ?hr ?_; (case hd => rfl); (case hg => rfl); (case hr => first | (go_simp; done) | (go_simp; rfl)); intro gb136 hg w4 hbox hb; have n0_ := Aside0.mk (below_step (by repeat (first | (with_reducible first | exact HB.out | apply below_alloc | apply pw_below_drewN | apply below_drew1) | exact HB.out)) hb); have n1_ := Aside0.mk (hbox); have n2_ := Aside0.mk ((by rw [hg]; exact (below_size (by repeat (first | (with_reducible first | exact HB.out | apply below_alloc | apply pw_below_drewN | apply below_drew1) | exact HB.out))) : w.heap.size ≤ gb136)); have n3_ := Aside0.mk ((by rw [hg]; exact (below_size (by repeat (first | (with_reducible first | exact HB.out | apply below_alloc | apply pw_below_drewN | apply below_drew1) | exact HB.out))) : w.heap.size ≤ gb136)); clear HB; have HB := n0_; have BK136 := n1_; have GW136 := n2_; have GE136 := n3_; clear n0_ n1_ n2_ n3_; clear hb hbox hg) | ((with_reducible refine gate_callee (f := 47) rfl ?_); refine goesL_ (some 13) rfl rfl Try.func47 (by kernel_rfl) rfl #[.string a0] rfl (by (try simp only [List.map_toArray, List.map_cons, List.map_nil]); first | done | rfl | (simp only [List.length_drop, List.length_take]; rfl)) ?_; (with_reducible refine (num_Open.calls a0 t137 t140 _ A2.out).mono ?_); rintro e w5 ⟨v138, rfl, ho0, hb⟩; refine ⟨_, rfl, ?_⟩; have n0_ := Aside0.mk (Kd.V_lower (Kd.V_mono (ok' := fun k_ => k_ ≠ gb136) ho0 (fun k_ hk_ => (Kd.freshB (g := gb136) (o := .cells #[.bool false, .slice none 0 0] 56 (0, 0)) (by (with_reducible repeat (first | refine blk_drewN ?_ _ | refine blk_drew ?_ | refine blk_alloc ?_ _)); exact BK136.out) k_ hk_))) (below_size (by repeat (first | (with_reducible first | exact HB.out | apply below_alloc | apply pw_below_drewN | apply below_drew1 | refine below_set ?_ GE136.out) | exact HB.out)))); have n1_ := Aside0.mk (blk_below (g := gb136) (o := .cells #[.bool false, .slice none 0 0] 56 (0, 0)) (by (with_reducible repeat (first | refine blk_drewN ?_ _ | refine blk_drew ?_ | refine blk_alloc ?_ _)); exact BK136.out) hb); have n2_ := Aside0.mk (below_step (by repeat (first | (with_reducible first | exact HB.out | apply below_alloc | apply pw_below_drewN | apply below_drew1 | refine below_set ?_ GE136.out) | exact HB.out)) hb); clear BK136; clear HB; have HO139 := n0_; have BK136 := n1_; have HB := n2_; clear n0_ n1_ n2_; (try clear hb); (try clear hb2); (try clear hk); (try clear hi); (try clear ho0)))
  (try simp only [Act.put, List.setIfInBounds_toArray, List.set_cons_zero, List.set_cons_succ])
  go_cut [23] (fun v23 wc => ∃ (kq : Nat) (x23_2 : Bool), v23 = .bool x23_2 ∧ Aside0 (node_Parse.j0 kq a0 t137 x23_2 = some (r1, r2, r3)) ∧ Aside0 (kq ≤ k) ∧ Aside0 (Kd.V (Kd.int .u8) 5 wc w.heap.size (fun k_ => k_ ≠ gb136) v138 t137) ∧ Aside0 (wc.heap[gb136]? = some (.cells #[.bool false, (.slice none 0 0)] 56 (0, 0))) ∧ Aside0 (Below w.heap.size w wc))
  case first =>
    have H := HC3.out
    clear HC3
    by_cases c6 : t140 = 0
    · rw [if_pos c6] at H
      have c6b0 : (t140 == 0) = true := beq_iff_eq.mpr c6
      have c6b1 : (t140 != 0) = false := bne_eq_false_iff_eq.mpr c6
      clear c6
      (first | rw [c6b0] | (simp only [i64_w, i32_w]; rw [c6b0]) | skip)
      by_cases c7 : 1 < (t137.length : Int)
      · rw [if_pos c7] at H
        have c7b0 : decide (1 < (t137.length : Int)) = true := decide_eq_true c7
        have c7b1 : decide (1 < t137.length) = true := decide_eq_true (by omega)
        clear c7
        have H' := Aside0.mk H
        clear H
        obtain ⟨Ao8, co8, eo8⟩ := Kd.V_slice HO139.out
        subst eo8
        have p141 : 0 ≤ (1 : Int) := (by omega)
        have q141 : 1 < (t137.length : Int) := of_decide_eq_true (by first | (with_reducible assumption) | assumption)
        obtain ⟨ad141, e141, hx141_0⟩ := Kd.at_int (Kd.V_reads' HO139.out).2.2 1 p141 q141
        cases e141
        (try simp only [show (1 : Int).toNat = 1 from rfl, Nat.reduceMul, Nat.reduceEqDiff, Go.Addr.add, ↓reduceIte] at hx141_0)
        have qi141 : (1 < t137.length) = True := eq_true (by omega)
        (try rw [show ((1 : Int)).toNat = 1 from rfl] at hx141_0)
        replace p141 := eq_true p141
        replace q141 := eq_true q141
        go_wp2
        go_meet
        case rel => exact ⟨_, (decide ((rd t137 1) > 4)), (by first | rfl | (simp; done) | (simp [*]; done)), H', ⟨by first | omega | exact Nat.le_refl _⟩, ⟨by (with_reducible repeat (first | apply Kd.V_alloc | apply Kd.V_drewN | apply Kd.V_drew)); exact HO139.out⟩, ⟨by (with_reducible repeat (first | refine blk_drewN ?_ _ | refine blk_drew ?_ | refine blk_alloc ?_ _)); exact BK136.out⟩, ⟨by repeat (first | (with_reducible first | exact HB.out | apply below_alloc | apply pw_below_drewN | apply below_drew1 | refine below_set ?_ GE136.out) | exact HB.out)⟩⟩
      · rw [if_neg c7] at H
        exact absurd H (by simp)
    · rw [if_neg c6] at H
      have c6b0 : (t140 == 0) = false := beq_eq_false_iff_ne.mpr c6
      have c6b1 : (t140 != 0) = true := bne_iff_ne.mpr c6
      (first | rw [c6b0] | (simp only [i64_w, i32_w]; rw [c6b0]) | skip)
      have H' := Aside0.mk H
      clear H
      go_wp2
      go_meet
      case rel => exact ⟨_, (true), (by first | rfl | (simp; done) | (simp [*]; done)), H', ⟨by first | omega | exact Nat.le_refl _⟩, ⟨by (with_reducible repeat (first | apply Kd.V_alloc | apply Kd.V_drewN | apply Kd.V_drew)); exact HO139.out⟩, ⟨by (with_reducible repeat (first | refine blk_drewN ?_ _ | refine blk_drew ?_ | refine blk_alloc ?_ _)); exact BK136.out⟩, ⟨by repeat (first | (with_reducible first | exact HB.out | apply below_alloc | apply pw_below_drewN | apply below_drew1 | refine below_set ?_ GE136.out) | exact HB.out)⟩⟩
  case rest =>
    clear HC3
    try clear p1
    try clear q1
    try clear hx1
    try clear qi1
    try clear c2
    try clear p2
    try clear c4
    try clear c6
    try clear c6b0
    try clear c6b1
    try clear c7
    try clear c7b0
    try clear c7b1
    try clear hx141_0
    try clear p141
    try clear q141
    obtain ⟨kq, x23_2, rfl, HA, HJ2, HO_4, BK136, HB⟩ := hcut
    cases kq with
    | zero => exact absurd HA.out (by simp [node_Parse.j0])
    | succ kj2 =>
      have H := HA.out
      clear HA
      simp only [node_Parse.j0] at H
      by_cases c9 : x23_2 = true
      · subst c9
        have H1 : (some (false, ([] : List (S78)), 2)) = some (r1, r2, r3) := by rw [if_pos rfl] at H; exact H
        clear H
        have H := H1
        clear H1
        simp only [Option.some.injEq, Prod.mk.injEq] at H
        obtain ⟨rfl, rfl, rfl⟩ := H
        have hcz10_0 : wc.cell? ⟨gb136, 0, none⟩ = some (.bool false) := (blk_cell BK136.out 0).trans rfl
        have hcz10_1 : wc.cell? ⟨gb136, 1, none⟩ = some (.slice none 0 0) := (blk_cell BK136.out 1).trans rfl
        have hfz10_0 := blk_frozen BK136.out 0
        have hfz10_1 := blk_frozen BK136.out 1
        go_wp2
        refine bodyPost_ret (results_ct rfl _ _ gb136 56 #[.bool false, .slice none 0 0] (0, 0) _ rfl (by (with_reducible repeat (first | refine blk_drewN ?_ _ | refine blk_drew ?_ | refine blk_alloc ?_ _)); refine blk_put (cs := #[.bool false, .slice none 0 0]) ?_ 1 _ rfl; (with_reducible repeat (first | refine blk_drewN ?_ _ | refine blk_drew ?_ | refine blk_alloc ?_ _)); refine blk_put (cs := #[.bool false, .slice none 0 0]) ?_ 0 _ rfl; (with_reducible repeat (first | refine blk_drewN ?_ _ | refine blk_drew ?_ | refine blk_alloc ?_ _)); exact BK136.out) Try.underlying56 rfl (by kernel_rfl)) rfl ?_
        exact ⟨_, by first | rfl | (simp [errW_none, errW_some] <;> rfl) | (simp [*, errW_none, errW_some] <;> rfl), by first | exact Kd.R_nil _ _ _ _ _ | exact Kd.N_nil _ _ _ _ _ | exact Kd.V_nil _ _ _ _ _ | exact Kd.Q_nil _ _ _ _ _ | exact Kd.S_nil _ _ _ _ _, by repeat (first | (with_reducible first | exact HB.out | apply below_alloc | apply pw_below_drewN | apply below_drew1 | refine below_set ?_ GE136.out) | exact HB.out)⟩
      · replace c9 := Bool.eq_false_iff.mpr c9
        subst c9
        have H1 : (if 0 < (t137.length : Int) then (if 1 < (t137.length : Int) then (node_Parse.l0 kj2 a0 t137 2 (rd t137 1) 0 ((rd t137 0) == 1) ([] : List (S78))) else (none)) else (none)) = some (r1, r2, r3) := by rw [if_neg (show ¬ (false = true) by decide)] at H; exact H
        clear H
        have H := H1
        clear H1
        by_cases c11 : 0 < (t137.length : Int)
        · rw [if_pos c11] at H
          have c11b0 : decide (0 < (t137.length : Int)) = true := decide_eq_true c11
          have c11b1 : decide (0 < t137.length) = true := decide_eq_true (by omega)
          clear c11
          by_cases c12 : 1 < (t137.length : Int)
          · rw [if_pos c12] at H
            have c12b0 : decide (1 < (t137.length : Int)) = true := decide_eq_true c12
            have c12b1 : decide (1 < t137.length) = true := decide_eq_true (by omega)
            clear c12
            have H' := Aside0.mk H
            clear H
            obtain ⟨Ao13, co13, eo13⟩ := Kd.V_slice HO_4.out
            subst eo13
            have p142 : 0 ≤ (0 : Int) := (by omega)
            have q142 : 0 < (t137.length : Int) := of_decide_eq_true (by first | (with_reducible assumption) | assumption)
            obtain ⟨ad142, e142, hx142_0⟩ := Kd.at_int (Kd.V_reads' HO_4.out).2.2 0 p142 q142
            cases e142
            have qi142 : (0 < t137.length) = True := eq_true (by omega)
            (try rw [show ((0 : Int)).toNat = 0 from rfl] at hx142_0)
            (try rw [Addr.add_zero'] at hx142_0)
            replace p142 := eq_true p142
            replace q142 := eq_true q142
            go_wp2_with (first | ((with_reducible refine gate_dst (N := 6) rfl ?_); refine box_event ?hg (N := 6) ?hd (cs := #[.bool false, .slice none 0 0]) (t := 56) ?hr ?_; (case hd => rfl); (case hg => rfl); (case hr => first | (go_simp; done) | (go_simp; rfl)); intro gb143 hg w14 hbox hb; have n0_ := Aside0.mk (Kd.V_below (Kd.V_elderB (by (with_reducible repeat (first | apply Kd.V_alloc | apply Kd.V_drewN | apply Kd.V_drew)); exact HO_4.out) gb143 (Nat.le_of_eq hg.symm)) hb); have n1_ := Aside0.mk (blk_below (g := gb136) (o := .cells #[.bool false, .slice none 0 0] 56 (0, 0)) (by (with_reducible repeat (first | refine blk_drewN ?_ _ | refine blk_drew ?_ | refine blk_alloc ?_ _)); exact BK136.out) hb); have n2_ := Aside0.mk (below_step (by repeat (first | (with_reducible first | exact HB.out | apply below_alloc | apply pw_below_drewN | apply below_drew1 | refine below_set ?_ GE136.out) | exact HB.out)) hb); have n3_ := Aside0.mk (hbox); have n4_ := Aside0.mk ((by rw [hg]; exact (below_size (by repeat (first | (with_reducible first | exact HB.out | apply below_alloc | apply pw_below_drewN | apply below_drew1 | refine below_set ?_ GE136.out) | exact HB.out))) : w.heap.size ≤ gb143)); have n5_ := Aside0.mk ((by rw [hg]; exact (below_size (by repeat (first | (with_reducible first | exact HB.out | apply below_alloc | apply pw_below_drewN | apply below_drew1 | refine below_set ?_ GE136.out) | exact HB.out))) : w.heap.size ≤ gb143)); have n6_ := Aside0.mk ((by rw [hg]; exact Nat.ne_of_lt (blk_lt (g := gb136) (o := .cells #[.bool false, .slice none 0 0] 56 (0, 0)) (by (with_reducible repeat (first | refine blk_drewN ?_ _ | refine blk_drew ?_ | refine blk_alloc ?_ _)); exact BK136.out)) : gb136 ≠ gb143)); have n7_ := Aside0.mk ((by rw [hg]; exact Nat.ne_of_gt (blk_lt (g := gb136) (o := .cells #[.bool false, .slice none 0 0] 56 (0, 0)) (by (with_reducible repeat (first | refine blk_drewN ?_ _ | refine blk_drew ?_ | refine blk_alloc ?_ _)); exact BK136.out)) : gb143 ≠ gb136)); clear HO_4; clear BK136; clear HB; have HO_4 := n0_; have BK136 := n1_; have HB := n2_; have BK143 := n3_; have GW143 := n4_; have GE143 := n5_; have NB136_143 := n6_; have NB143_136 := n7_; clear n0_ n1_ n2_ n3_ n4_ n5_ n6_ n7_; clear hb hbox hg; have hnb15 := NB143_136.out; have hnc15 := NB136_143.out; have hcz16_0 : w14.cell? ⟨gb143, 0, none⟩ = some (.bool false) := (blk_cell BK143.out 0).trans rfl; have hcz16_1 : w14.cell? ⟨gb143, 1, none⟩ = some (.slice none 0 0) := (blk_cell BK143.out 1).trans rfl; have hfz16_0 := blk_frozen BK143.out 0; have hfz16_1 := blk_frozen BK143.out 1; have p144 : 0 ≤ (1 : Int) := (by omega); have q144 : 1 < (t137.length : Int) := of_decide_eq_true (by first | (with_reducible assumption) | assumption); obtain ⟨ad144, e144, hx144_0⟩ := Kd.at_int (Kd.V_reads' (Kd.V_far (p := ⟨gb143, 1, none⟩) (Kd.V_far (p := ⟨gb143, 0, none⟩) HO_4.out (fun _ hk => hk.2) (.bool ((rd t137 0) == 1))) (fun _ hk => hk.2) (.slice none 0 0))).2.2 1 p144 q144; obtain rfl : ad142 = ad144 := (by injection e144); (try simp only [show (1 : Int).toNat = 1 from rfl, Nat.reduceMul, Nat.reduceEqDiff, Go.Addr.add, ↓reduceIte] at hx144_0); have qi144 : (1 < t137.length) = True := eq_true (by omega); (try rw [show ((1 : Int)).toNat = 1 from rfl] at hx144_0); replace p144 := eq_true p144; replace q144 := eq_true q144))
            go_loopg [7, 33] kj2 (fun kq v7 v33 w' => ∃ (x7_2 : Int) (x33_2 : Int) (x144001_2 : List (S78)) (u144001 : Value), v7 = .int .i64 x7_2 ∧ v33 = .int .u8 x33_2 ∧ Aside0 (node_Parse.l0 kq a0 t137 x7_2 (rd t137 1) x33_2 ((rd t137 0) == 1) x144001_2 = some (r1, r2, r3)) ∧ Aside0 (kq ≤ kj2) ∧ Aside0 (Kd.V (Kd.int .u8) 5 w' w.heap.size (fun k_ => some k_ ≠ (u144001 : Value).ownBlock ∧ k_ ≠ gb136 ∧ k_ ≠ gb143) (.slice (some ad142) t137.length co13) t137) ∧ Aside0 (Kd.R k78 78 w' w.heap.size (fun _ => True) u144001 x144001_2) ∧ Aside0 (w'.heap[gb136]? = some (.cells #[.bool false, (.slice none 0 0)] 56 (0, 0))) ∧ Aside0 (w'.heap[gb143]? = some (.cells #[.bool ((rd t137 0) == 1), u144001] 56 (0, 0))) ∧ Aside0 (Below w.heap.size w w'))
            case atStart => exact ⟨(2), (0), (([] : List (S78))), (.slice none 0 0), (by first | rfl | (simp; done) | (simp [*]; done)), (by first | rfl | (simp; done) | (simp [*]; done)), H', ⟨Nat.le_refl _⟩, ⟨by (with_reducible repeat (first | apply Kd.V_alloc | apply Kd.V_drewN | apply Kd.V_drew)); exact Kd.V_mono (Kd.V_far (p := ⟨gb143, 1, none⟩) (Kd.V_far (p := ⟨gb143, 0, none⟩) (Kd.V_mono HO_4.out (fun k_ hk => (⟨hk, hk.2⟩ : _ ∧ k_ ≠ gb143))) (fun _ hk => hk.2) (.bool ((rd t137 0) == 1))) (fun _ hk => hk.2) (.slice none 0 0)) (fun _ hk => ⟨(by simp [Value.ownBlock]), ⟨hk.1.1, hk.1.2⟩⟩)⟩, ⟨by first | exact Kd.R_nil _ _ _ _ _ | exact Kd.N_nil _ _ _ _ _ | exact Kd.V_nil _ _ _ _ _ | exact Kd.Q_nil _ _ _ _ _ | exact Kd.S_nil _ _ _ _ _⟩, ⟨by (with_reducible repeat (first | refine blk_drewN ?_ _ | refine blk_drew ?_ | refine blk_alloc ?_ _)); refine blk_far ?_ NB136_143.out _; (with_reducible repeat (first | refine blk_drewN ?_ _ | refine blk_drew ?_ | refine blk_alloc ?_ _)); refine blk_far ?_ NB136_143.out _; (with_reducible repeat (first | refine blk_drewN ?_ _ | refine blk_drew ?_ | refine blk_alloc ?_ _)); exact BK136.out⟩, ⟨by (with_reducible repeat (first | refine blk_drewN ?_ _ | refine blk_drew ?_ | refine blk_alloc ?_ _)); refine blk_put (cs := #[.bool ((rd t137 0) == 1), .slice none 0 0]) ?_ 1 _ rfl; (with_reducible repeat (first | refine blk_drewN ?_ _ | refine blk_drew ?_ | refine blk_alloc ?_ _)); refine blk_put (cs := #[.bool false, .slice none 0 0]) ?_ 0 _ rfl; (with_reducible repeat (first | refine blk_drewN ?_ _ | refine blk_drew ?_ | refine blk_alloc ?_ _)); exact BK143.out⟩, ⟨by repeat (first | (with_reducible first | exact HB.out | apply below_alloc | apply pw_below_drewN | apply below_drew1 | refine below_set ?_ GE136.out | refine below_set ?_ GE143.out) | exact HB.out)⟩⟩
            case round =>
              clear H'
              try clear c1
              try clear p1
              try clear q1
              try clear hx1
              try clear qi1
              try clear c2
              try clear p2
              try clear c4
              try clear c6
              try clear c6b0
              try clear c6b1
              try clear c7
              try clear c7b0
              try clear c7b1
              try clear c9
              try clear c11
              try clear c11b0
              try clear c11b1
              try clear c12
              try clear c12b0
              try clear c12b1
              try clear p14
              try clear q14
              try clear hx14
              try clear qi14
              try clear c15
              try clear hcz10_0
              try clear hcz10_1
              try clear hcz16_0
              try clear hcz16_1
              try clear hfz10_0
              try clear hfz10_1
              try clear hfz16_0
              try clear hfz16_1
              try clear hx141_0
              try clear hx142_0
              try clear hx144_0
              try clear p1
              try clear p141
              try clear p142
              try clear p144
              try clear p2
              try clear q1
              try clear q141
              try clear q142
              try clear q144
              obtain ⟨x7_2, x33_2, x144001_2, u144001, rfl, rfl, HA, HK2, HO_4, HO_144001, BK136, BK143, HB⟩ := hrel
              cases gk with
              | zero => exact absurd HA.out (by simp [node_Parse.l0])
              | succ k2 =>
                have H := HA.out
                clear HA
                simp only [node_Parse.l0] at H
                by_cases c17 : x33_2 < (rd t137 1)
                · rw [if_pos c17] at H
                  have c17b0 : decide (x33_2 < (rd t137 1)) = true := decide_eq_true c17
                  clear c17
                  replace H := Option.bind_eq_some_iff.mp H
                  obtain ⟨⟨t146, t147, t148⟩, A180, H⟩ := H
                  replace H : ((num_Take.f k2 t137 t147 4).bind fun bt149 => (if x144001_2.length < 8796093022208 then (node_Parse.l0 k2 a0 t137 bt149.2.1 (rd t137 1) ((x33_2 + 1) % 256) ((rd t137 0) == 1) (x144001_2 ++ [(⟨t146, bt149.1⟩ : S78)])) else (none))) = some (r1, r2, r3) := H
                  have A18 := Aside0.mk A180
                  clear A180
                  replace H := Option.bind_eq_some_iff.mp H
                  obtain ⟨⟨t149, t150, t151⟩, A190, H⟩ := H
                  replace H : (if x144001_2.length < 8796093022208 then (node_Parse.l0 k2 a0 t137 t150 (rd t137 1) ((x33_2 + 1) % 256) ((rd t137 0) == 1) (x144001_2 ++ [(⟨t146, t149⟩ : S78)])) else (none)) = some (r1, r2, r3) := H
                  have A19 := Aside0.mk A190
                  clear A190
                  by_cases c20 : x144001_2.length < 8796093022208
                  · rw [if_pos c20] at H
                    have LMc20 := Aside0.mk c20
                    clear c20
                    obtain ⟨y152, hy152⟩ : ∃ y_ : List (S78), y_ = (x144001_2 ++ [(⟨t146, t149⟩ : S78)]) := ⟨_, rfl⟩
                    replace H : (node_Parse.l0 k2 a0 t137 t150 (rd t137 1) ((x33_2 + 1) % 256) ((rd t137 0) == 1) y152) = some (r1, r2, r3) := by first | (rw [hy152]; with_reducible exact H) | (have H2_ := (Option.bind_some _ _).symm.trans H; rw [hy152]; with_reducible exact H2_) | (have H2_ := (Option.bind_some _ _).symm.trans H; with_reducible exact H2_) | with_reducible exact H | (rw [hy152]; exact H) | exact H
                    have Ny152 := Aside0.mk hy152
                    clear hy152
                    have H' := Aside0.mk H
                    clear H
                    go_wp2_with (first | ((with_reducible refine gate_dst (N := 8) rfl ?_); refine box_event ?hg (N := 8) ?hd (cs := #[.int .i64 0, .int .i64 0]) (t := 78) ?hr ?_; (case hd => rfl); (case hg => rfl); (case hr => first | (go_simp; done) | (go_simp; rfl)); intro gb145 hg w21 hbox hb; have n0_ := Aside0.mk (Kd.V_below (Kd.V_elderB (by (with_reducible repeat (first | apply Kd.V_alloc | apply Kd.V_drewN | apply Kd.V_drew)); exact HO_4.out) gb145 (Nat.le_of_eq hg.symm)) hb); have n1_ := Aside0.mk (Kd.R_below (Kd.R_elderB (by (with_reducible repeat (first | apply Kd.R_alloc | apply Kd.R_drewN | apply Kd.R_drew)); exact HO_144001.out) gb145 (Nat.le_of_eq hg.symm)) hb); have n2_ := Aside0.mk (blk_below (g := gb136) (o := .cells #[.bool false, .slice none 0 0] 56 (0, 0)) (by (with_reducible repeat (first | refine blk_drewN ?_ _ | refine blk_drew ?_ | refine blk_alloc ?_ _)); exact BK136.out) hb); have n3_ := Aside0.mk (blk_below (g := gb143) (o := .cells #[.bool ((rd t137 0) == 1), u144001] 56 (0, 0)) (by (with_reducible repeat (first | refine blk_drewN ?_ _ | refine blk_drew ?_ | refine blk_alloc ?_ _)); exact BK143.out) hb); have n4_ := Aside0.mk (below_step (by repeat (first | (with_reducible first | exact HB.out | apply below_alloc | apply pw_below_drewN | apply below_drew1 | refine below_set ?_ GE136.out | refine below_set ?_ GE143.out) | exact HB.out)) hb); have n5_ := Aside0.mk (hbox); have n6_ := Aside0.mk ((by rw [hg]; exact (below_size (by repeat (first | (with_reducible first | exact HB.out | apply below_alloc | apply pw_below_drewN | apply below_drew1 | refine below_set ?_ GE136.out | refine below_set ?_ GE143.out) | exact HB.out))) : w.heap.size ≤ gb145)); have n7_ := Aside0.mk ((by rw [hg]; exact (below_size (by repeat (first | (with_reducible first | exact HB.out | apply below_alloc | apply pw_below_drewN | apply below_drew1 | refine below_set ?_ GE136.out | refine below_set ?_ GE143.out) | exact HB.out))) : w.heap.size ≤ gb145)); have n8_ := Aside0.mk ((by rw [hg]; exact Nat.ne_of_lt (blk_lt (g := gb136) (o := .cells #[.bool false, .slice none 0 0] 56 (0, 0)) (by (with_reducible repeat (first | refine blk_drewN ?_ _ | refine blk_drew ?_ | refine blk_alloc ?_ _)); exact BK136.out)) : gb136 ≠ gb145)); have n9_ := Aside0.mk ((by rw [hg]; exact Nat.ne_of_gt (blk_lt (g := gb136) (o := .cells #[.bool false, .slice none 0 0] 56 (0, 0)) (by (with_reducible repeat (first | refine blk_drewN ?_ _ | refine blk_drew ?_ | refine blk_alloc ?_ _)); exact BK136.out)) : gb145 ≠ gb136)); have n10_ := Aside0.mk ((by rw [hg]; exact Nat.ne_of_lt (blk_lt (g := gb143) (o := .cells #[.bool ((rd t137 0) == 1), u144001] 56 (0, 0)) (by (with_reducible repeat (first | refine blk_drewN ?_ _ | refine blk_drew ?_ | refine blk_alloc ?_ _)); exact BK143.out)) : gb143 ≠ gb145)); have n11_ := Aside0.mk ((by rw [hg]; exact Nat.ne_of_gt (blk_lt (g := gb143) (o := .cells #[.bool ((rd t137 0) == 1), u144001] 56 (0, 0)) (by (with_reducible repeat (first | refine blk_drewN ?_ _ | refine blk_drew ?_ | refine blk_alloc ?_ _)); exact BK143.out)) : gb145 ≠ gb143)); clear HO_4; clear HO_144001; clear BK136; clear BK143; clear HB; have HO_4 := n0_; have HO_144001 := n1_; have BK136 := n2_; have BK143 := n3_; have HB := n4_; have BK145 := n5_; have GW145 := n6_; have GE145 := n7_; have NB136_145 := n8_; have NB145_136 := n9_; have NB143_145 := n10_; have NB145_143 := n11_; clear n0_ n1_ n2_ n3_ n4_ n5_ n6_ n7_ n8_ n9_ n10_ n11_; clear hb hbox hg) | ((with_reducible refine gate_callee (f := 49) rfl ?_); refine goesL_ (some 38) rfl rfl Try.func49 (by kernel_rfl) rfl #[.slice (some ad142) t137.length co13, .int .i64 x7_2, .int .i64 4] rfl (by (try simp only [List.map_toArray, List.map_cons, List.map_nil]); first | done | rfl | (simp only [List.length_drop, List.length_take]; rfl)) ?_; (with_reducible refine (num_Take.calls k2 _ _ t137 x7_2 4 t146 t147 t148 _ ?side1 ?side2 A18.out).mono ?_); (case side1 => repeat (first | exact (Kd.V_reads' HO_4.out).2.2 | (with_reducible refine Kd.C_alloc ?_ _) | (with_reducible refine Kd.C_drewN ?_ _) | (with_reducible refine Kd.C_drew ?_))); (case side2 => exact (Kd.V_reads' HO_4.out).2.1); rintro e w' ⟨rfl, ⟨nd, rfl⟩⟩; refine ⟨_, rfl, ?_⟩; (try (rw [drewN_self w21]; generalize hq_ : World.drewN w21 _ = w21; have n0_ : Aside0 (Kd.R k78 78 w21 w.heap.size (fun k_ => k_ ≠ gb145) u144001 x144001_2) := ⟨by rw [← hq_]; exact (by (with_reducible repeat (first | apply Kd.R_alloc | apply Kd.R_drewN | apply Kd.R_drew)); exact Kd.R_mono HO_144001.out (fun _ hk => hk.2))⟩; have n1_ : Aside0 (Kd.V (Kd.int .u8) 5 w21 w.heap.size (fun k_ => some k_ ≠ (u144001 : Value).ownBlock ∧ k_ ≠ gb136 ∧ k_ ≠ gb143 ∧ k_ ≠ gb145) (.slice (some ad142) t137.length co13) t137) := ⟨by rw [← hq_]; exact (by (with_reducible repeat (first | apply Kd.V_alloc | apply Kd.V_drewN | apply Kd.V_drew)); exact Kd.V_mono HO_4.out (fun _ hk => ⟨hk.1.1, ⟨hk.1.2.1, ⟨hk.1.2.2, hk.2⟩⟩⟩))⟩; have n2_ : Aside0 (w21.heap[gb136]? = some (.cells #[.bool false, .slice none 0 0] 56 (0, 0))) := ⟨by rw [← hq_]; exact (by (with_reducible repeat (first | refine blk_drewN ?_ _ | refine blk_drew ?_ | refine blk_alloc ?_ _)); exact BK136.out)⟩; have n3_ : Aside0 (w21.heap[gb143]? = some (.cells #[.bool ((rd t137 0) == 1), u144001] 56 (0, 0))) := ⟨by rw [← hq_]; exact (by (with_reducible repeat (first | refine blk_drewN ?_ _ | refine blk_drew ?_ | refine blk_alloc ?_ _)); exact BK143.out)⟩; have n4_ : Aside0 (w21.heap[gb145]? = some (.cells #[.int .i64 0, .int .i64 0] 78 (0, 0))) := ⟨by rw [← hq_]; exact (by (with_reducible repeat (first | refine blk_drewN ?_ _ | refine blk_drew ?_ | refine blk_alloc ?_ _)); exact BK145.out)⟩; have n5_ : Aside0 (Below w.heap.size w w21) := ⟨by rw [← hq_]; exact (by repeat (first | (with_reducible first | exact HB.out | apply below_alloc | apply pw_below_drewN | apply below_drew1 | refine below_set ?_ GE136.out | refine below_set ?_ GE143.out | refine below_set ?_ GE145.out) | exact HB.out))⟩; clear HO_144001 HO_4 BK136 BK143 BK145 HB hq_; have HO_144001 := n0_; have HO_4 := n1_; have BK136 := n2_; have BK143 := n3_; have BK145 := n4_; have HB := n5_; clear n0_ n1_ n2_ n3_ n4_ n5_)); have hnb22 := NB145_136.out; have hnc22 := NB136_145.out; have hnb23 := NB145_143.out; have hnc23 := NB143_145.out; have hcz24_0 : w21.cell? ⟨gb145, 0, none⟩ = some (.int .i64 0) := (blk_cell BK145.out 0).trans rfl; have hcz24_1 : w21.cell? ⟨gb145, 1, none⟩ = some (.int .i64 0) := (blk_cell BK145.out 1).trans rfl; have hfz24_0 := blk_frozen BK145.out 0; have hfz24_1 := blk_frozen BK145.out 1) | ((with_reducible refine gate_callee (f := 49) rfl ?_); refine goesL_ (some 46) rfl rfl Try.func49 (by kernel_rfl) rfl #[.slice (some ad142) t137.length co13, .int .i64 t147, .int .i64 4] rfl (by (try simp only [List.map_toArray, List.map_cons, List.map_nil]); first | done | rfl | (simp only [List.length_drop, List.length_take]; rfl)) ?_; (with_reducible refine (num_Take.calls k2 _ _ t137 t147 4 t149 t150 t151 _ ?side1 ?side2 A19.out).mono ?_); (case side1 => refine (Kd.V_reads' (e := 5) (base := w.heap.size) (ok := fun k_ => ((some k_ ≠ (u144001 : Value).ownBlock ∧ (k_ ≠ gb136 ∧ k_ ≠ gb143)) ∧ k_ ≠ gb145)) (n := t137.length) (c := co13) ?_).2.2; exact (by (with_reducible repeat (first | apply Kd.V_alloc | apply Kd.V_drewN | apply Kd.V_drew)); exact (Kd.V_mono (Kd.V_far (p := ⟨gb145, 0, none⟩) (Kd.V_mono HO_4.out (fun k_ hk => (⟨⟨⟨hk.1, hk.2.1, hk.2.2.1⟩, hk.2.2.2⟩, hk.2.2.2⟩ : ((_ ∧ _ ∧ _) ∧ _) ∧ k_ ≠ gb145))) (fun _ hk => hk.2) (.int .i64 t146)) (fun _ h_ => h_.1)))); (case side2 => exact (Kd.V_reads' HO_4.out).2.1); rintro e w' ⟨rfl, ⟨nd, rfl⟩⟩; refine ⟨_, rfl, ?_⟩; have hnb25 := NB143_136.out; have hnc25 := NB136_143.out; have hcz26_0 : w21.cell? ⟨gb143, 0, none⟩ = some (.bool ((rd t137 0) == 1)) := (blk_cell BK143.out 0).trans rfl; have hcz26_1 : w21.cell? ⟨gb143, 1, none⟩ = some (u144001) := (blk_cell BK143.out 1).trans rfl; have hfz26_0 := blk_frozen BK143.out 0; have hfz26_1 := blk_frozen BK143.out 1) | ((with_reducible refine gate_builtin (b := .append) (xs := #[.tmp 52, .tmp 54]) rfl ?_); at_builtin; refine Kd.R_append k78 (w0 := w) w.heap.size rfl (.tmp 52) (.tmp 54) 54 78 (.agg #[(.int .i64 0), (.int .i64 0)]) 16 rfl Try.underlying54 info78 rfl (by decide) (by omega) u144001 x144001_2 (⟨t146, t149⟩ : S78) [.int .i64 t146, .int .i64 t149] (fun k_ => k_ ≠ gb145) (fun _ => False) rfl (by show Value.slice (some ⟨w21.heap.size, 0, none⟩) 1 1 = _; rw [World.size_setCell, size_drewN_, World.size_setCell]) ?aP (fun _ hk => hk.elim) ?aF ?aO ?aB ?aS ?aL ?_; (case aP => exact k78_mkM _ _ _ (⟨t146, t149⟩ : S78)); (case aB => exact (by repeat (first | (with_reducible first | exact HB.out | apply below_alloc | apply pw_below_drewN | apply below_drew1 | refine below_set ?_ GE136.out | refine below_set ?_ GE143.out | refine below_set ?_ GE145.out) | exact HB.out))); (case aF => exact (fun k_ hk => Kd.freshB (g := gb145) (o := .cells #[.int .i64 t146, .int .i64 t149] 78 (0, 0)) (by (with_reducible repeat (first | refine blk_drewN ?_ _ | refine blk_drew ?_ | refine blk_alloc ?_ _)); refine blk_put (cs := #[.int .i64 t146, .int .i64 0]) ?_ 1 _ rfl; (with_reducible repeat (first | refine blk_drewN ?_ _ | refine blk_drew ?_ | refine blk_alloc ?_ _)); refine blk_put (cs := #[.int .i64 0, .int .i64 0]) ?_ 0 _ rfl; (with_reducible repeat (first | refine blk_drewN ?_ _ | refine blk_drew ?_ | refine blk_alloc ?_ _)); exact BK145.out) k_ hk)); (case aO => exact (by (with_reducible repeat (first | apply Kd.R_alloc | apply Kd.R_drewN | apply Kd.R_drew)); exact Kd.R_mono (Kd.R_far (p := ⟨gb145, 1, none⟩) (Kd.R_far (p := ⟨gb145, 0, none⟩) (Kd.R_mono HO_144001.out (fun k_ hk => (⟨⟨trivial, hk⟩, hk⟩ : (True ∧ _) ∧ k_ ≠ gb145))) (fun _ hk => hk.2) (.int .i64 t146)) (fun _ hk => hk.2) (.int .i64 t149)) (fun _ hk => hk.1.2))); (case aS => exact (below_size (by repeat (first | (with_reducible first | exact HB.out | apply below_alloc | apply pw_below_drewN | apply below_drew1 | refine below_set ?_ GE136.out | refine below_set ?_ GE143.out | refine below_set ?_ GE145.out) | exact HB.out)))); (case aL => have := LMc20.out; omega); intro v153 w27 ho hb hg hat; rw [← Ny152.out] at ho; have n0_ := Aside0.mk (Kd.V_afterv (ok := (fun k_ => k_ ≠ gb136 ∧ k_ ≠ gb143 ∧ k_ ≠ gb145)) (by (with_reducible repeat (first | apply Kd.V_alloc | apply Kd.V_drewN | apply Kd.V_drew)); exact Kd.V_mono (Kd.V_far (p := ⟨gb145, 1, none⟩) (Kd.V_drewN (Kd.V_far (p := ⟨gb145, 0, none⟩) (Kd.V_mono HO_4.out (fun k_ hk => (⟨⟨⟨hk.1, hk.2.1, hk.2.2.1⟩, hk.2.2.2⟩, hk.2.2.2⟩ : ((_ ∧ _ ∧ _) ∧ _) ∧ k_ ≠ gb145))) (fun _ hk => hk.2) (.int .i64 t146)) nd) (fun _ hk => hk.2) (.int .i64 t149)) (fun _ hk => ⟨⟨hk.1.1.2.1, ⟨hk.1.1.2.2, hk.1.2⟩⟩, hk.1.1.1⟩)) hg hat); have n1_ := Aside0.mk (blk_grown (g := gb136) (o := .cells #[.bool false, .slice none 0 0] 56 (0, 0)) (by (with_reducible repeat (first | refine blk_drewN ?_ _ | refine blk_drew ?_ | refine blk_alloc ?_ _)); refine blk_far ?_ NB136_145.out _; (with_reducible repeat (first | refine blk_drewN ?_ _ | refine blk_drew ?_ | refine blk_alloc ?_ _)); refine blk_far ?_ NB136_145.out _; (with_reducible repeat (first | refine blk_drewN ?_ _ | refine blk_drew ?_ | refine blk_alloc ?_ _)); exact BK136.out) hg (Kd.R_ne HO_144001.out BK136.out (by decide))); have n2_ := Aside0.mk (blk_grown (g := gb143) (o := .cells #[.bool ((rd t137 0) == 1), u144001] 56 (0, 0)) (by (with_reducible repeat (first | refine blk_drewN ?_ _ | refine blk_drew ?_ | refine blk_alloc ?_ _)); refine blk_far ?_ NB143_145.out _; (with_reducible repeat (first | refine blk_drewN ?_ _ | refine blk_drew ?_ | refine blk_alloc ?_ _)); refine blk_far ?_ NB143_145.out _; (with_reducible repeat (first | refine blk_drewN ?_ _ | refine blk_drew ?_ | refine blk_alloc ?_ _)); exact BK143.out) hg (Kd.R_ne HO_144001.out BK143.out (by decide))); have n3_ := Aside0.mk (blk_grown (g := gb145) (o := .cells #[.int .i64 t146, .int .i64 t149] 78 (0, 0)) (by (with_reducible repeat (first | refine blk_drewN ?_ _ | refine blk_drew ?_ | refine blk_alloc ?_ _)); refine blk_put (cs := #[.int .i64 t146, .int .i64 0]) ?_ 1 _ rfl; (with_reducible repeat (first | refine blk_drewN ?_ _ | refine blk_drew ?_ | refine blk_alloc ?_ _)); refine blk_put (cs := #[.int .i64 0, .int .i64 0]) ?_ 0 _ rfl; (with_reducible repeat (first | refine blk_drewN ?_ _ | refine blk_drew ?_ | refine blk_alloc ?_ _)); exact BK145.out) hg (Kd.R_away HO_144001.out (fun _ hk => hk))); have n4_ := Aside0.mk (hb); have n5_ := Aside0.mk (ho); clear HO_4; clear BK136; clear BK143; clear BK145; clear HB; clear HO_144001; have HO_4 := n0_; have BK136 := n1_; have BK143 := n2_; have BK145 := n3_; have HB := n4_; have HO154 := n5_; clear n0_ n1_ n2_ n3_ n4_ n5_; clear ho hb hg hat; obtain ⟨Ao28, co28, eo28⟩ := Kd.R_slice HO154.out; subst eo28; have hcz29_0 : w27.cell? ⟨gb143, 0, none⟩ = some (.bool ((rd t137 0) == 1)) := (blk_cell BK143.out 0).trans rfl; have hcz29_1 : w27.cell? ⟨gb143, 1, none⟩ = some (u144001) := (blk_cell BK143.out 1).trans rfl; have hfz29_0 := blk_frozen BK143.out 0; have hfz29_1 := blk_frozen BK143.out 1))
                    go_roundg k2
                    case measure => have := HJ2.out; have := HK2.out; omega
                    case rel => exact ⟨(t150), ((x33_2 + 1) % 256), (y152), (.slice Ao28 y152.length co28), (by first | rfl | (simp; done) | (simp [*]; done)), (by first | rfl | (simp; done) | (simp [*]; done)), H', ⟨by have := HJ2.out; have := HK2.out; omega⟩, ⟨by (with_reducible repeat (first | apply Kd.V_alloc | apply Kd.V_drewN | apply Kd.V_drew)); exact Kd.V_mono (Kd.V_far (p := ⟨gb143, 1, none⟩) (Kd.V_mono HO_4.out (fun k_ hk => (⟨hk, hk.1.2.1⟩ : _ ∧ k_ ≠ gb143))) (fun _ hk => hk.2) (.slice Ao28 y152.length co28)) (fun _ hk => ⟨hk.1.2, ⟨hk.1.1.1, hk.1.1.2.1⟩⟩)⟩, ⟨by (with_reducible repeat (first | apply Kd.R_alloc | apply Kd.R_drewN | apply Kd.R_drew)); exact Kd.R_mono (Kd.R_far (p := ⟨gb143, 1, none⟩) (Kd.R_types HO154.out BK143.out (by decide)) (fun _ hk => hk.2) (.slice Ao28 y152.length co28)) (fun _ hk => trivial)⟩, ⟨by (with_reducible repeat (first | refine blk_drewN ?_ _ | refine blk_drew ?_ | refine blk_alloc ?_ _)); refine blk_far ?_ NB136_143.out _; (with_reducible repeat (first | refine blk_drewN ?_ _ | refine blk_drew ?_ | refine blk_alloc ?_ _)); exact BK136.out⟩, ⟨by (with_reducible repeat (first | refine blk_drewN ?_ _ | refine blk_drew ?_ | refine blk_alloc ?_ _)); refine blk_put (cs := #[.bool ((rd t137 0) == 1), u144001]) ?_ 1 _ rfl; (with_reducible repeat (first | refine blk_drewN ?_ _ | refine blk_drew ?_ | refine blk_alloc ?_ _)); exact BK143.out⟩, ⟨by repeat (first | (with_reducible first | exact HB.out | apply below_alloc | apply pw_below_drewN | apply below_drew1 | refine below_set ?_ GE136.out | refine below_set ?_ GE143.out | refine below_set ?_ GE145.out) | exact HB.out)⟩⟩
                  · rw [if_neg c20] at H
                    exact absurd H (by simp)
                · rw [if_neg c17] at H
                  have c17b0 : decide (x33_2 < (rd t137 1)) = false := decide_eq_false c17
                  clear c17
                  replace H := Option.bind_eq_some_iff.mp H
                  obtain ⟨⟨t155, t156⟩, A300, H⟩ := H
                  replace H : (if t156 = 0 then (if t155.toList = a0.toList then (some (((rd t137 0) == 1), x144001_2, 0)) else (some (false, ([] : List (S78)), 2))) else (some (false, ([] : List (S78)), 2))) = some (r1, r2, r3) := H
                  have A30 := Aside0.mk A300
                  clear A300
                  by_cases c31 : t156 = 0
                  · rw [if_pos c31] at H
                    have c31b0 : (t156 == 0) = true := beq_iff_eq.mpr c31
                    have c31b1 : (t156 != 0) = false := bne_eq_false_iff_eq.mpr c31
                    clear c31
                    by_cases c32 : t155.toList = a0.toList
                    · rw [if_pos c32] at H
                      have c32b0 : (t155.toList == a0.toList) = true := beq_iff_eq.mpr c32
                      have c32b1 : (t155.toList != a0.toList) = false := bne_eq_false_iff_eq.mpr c32
                      clear c32
                      simp only [Option.some.injEq, Prod.mk.injEq] at H
                      obtain ⟨rfl, rfl, rfl⟩ := H
                      have hnb33 := NB143_136.out
                      have hnc33 := NB136_143.out
                      have hcz34_0 : wr.cell? ⟨gb143, 0, none⟩ = some (.bool ((rd t137 0) == 1)) := (blk_cell BK143.out 0).trans rfl
                      have hcz34_1 : wr.cell? ⟨gb143, 1, none⟩ = some (u144001) := (blk_cell BK143.out 1).trans rfl
                      have hfz34_0 := blk_frozen BK143.out 0
                      have hfz34_1 := blk_frozen BK143.out 1
                      obtain ⟨Ao35, co35, eo35⟩ := Kd.R_slice HO_144001.out
                      subst eo35
                      go_wp2_with (first | ((with_reducible refine gate_callee (f := 27) rfl ?_); refine goesL_ (some 60) rfl rfl Try.func27 (by kernel_rfl) rfl #[.agg #[.bool ((rd t137 0) == 1), .slice Ao35 x144001_2.length co35]] rfl (by (try simp only [List.map_toArray, List.map_cons, List.map_nil]); first | done | rfl | (simp only [List.length_drop, List.length_take]; rfl)) ?_; (with_reducible refine (node_Print.calls k2 ((rd t137 0) == 1) _ _ x144001_2 t155 t156 _ ?side1 ?side2 A30.out).mono ?_); (case side1 => repeat (first | exact (Kd.R_reads' HO_144001.out).2.2 | (with_reducible refine Kd.C_alloc ?_ _) | (with_reducible refine Kd.C_drewN ?_ _) | (with_reducible refine Kd.C_drew ?_))); (case side2 => exact (Kd.R_reads' HO_144001.out).2.1); rintro e w36 ⟨rfl, hb⟩; refine ⟨_, rfl, ?_⟩; have n0_ := Aside0.mk (Kd.V_below (by (with_reducible repeat (first | apply Kd.V_alloc | apply Kd.V_drewN | apply Kd.V_drew)); exact HO_4.out) hb); have n1_ := Aside0.mk (Kd.R_below (by (with_reducible repeat (first | apply Kd.R_alloc | apply Kd.R_drewN | apply Kd.R_drew)); exact HO_144001.out) hb); have n2_ := Aside0.mk (blk_below (g := gb136) (o := .cells #[.bool false, .slice none 0 0] 56 (0, 0)) (by (with_reducible repeat (first | refine blk_drewN ?_ _ | refine blk_drew ?_ | refine blk_alloc ?_ _)); exact BK136.out) hb); have n3_ := Aside0.mk (blk_below (g := gb143) (o := .cells #[.bool ((rd t137 0) == 1), .slice Ao35 x144001_2.length co35] 56 (0, 0)) (by (with_reducible repeat (first | refine blk_drewN ?_ _ | refine blk_drew ?_ | refine blk_alloc ?_ _)); exact BK143.out) hb); have n4_ := Aside0.mk (below_step (by repeat (first | (with_reducible first | exact HB.out | apply below_alloc | apply pw_below_drewN | apply below_drew1 | refine below_set ?_ GE136.out | refine below_set ?_ GE143.out) | exact HB.out)) hb); clear HO_4; clear HO_144001; clear BK136; clear BK143; clear HB; have HO_4 := n0_; have HO_144001 := n1_; have BK136 := n2_; have BK143 := n3_; have HB := n4_; clear n0_ n1_ n2_ n3_ n4_; (try clear hb); (try clear hb2); (try clear hk); (try clear hi); have hcz37_0 : w36.cell? ⟨gb143, 0, none⟩ = some (.bool ((rd t137 0) == 1)) := (blk_cell BK143.out 0).trans rfl; have hcz37_1 : w36.cell? ⟨gb143, 1, none⟩ = some (.slice Ao35 x144001_2.length co35) := (blk_cell BK143.out 1).trans rfl; have hfz37_0 := blk_frozen BK143.out 0; have hfz37_1 := blk_frozen BK143.out 1; have hcz38_0 : w36.cell? ⟨gb136, 0, none⟩ = some (.bool false) := (blk_cell BK136.out 0).trans rfl; have hcz38_1 : w36.cell? ⟨gb136, 1, none⟩ = some (.slice none 0 0) := (blk_cell BK136.out 1).trans rfl; have hfz38_0 := blk_frozen BK136.out 0; have hfz38_1 := blk_frozen BK136.out 1))
                      refine bodyPost_ret (results_ct rfl _ _ gb136 56 #[.bool ((rd t137 0) == 1), .slice Ao35 x144001_2.length co35] (0, 0) _ rfl (by (with_reducible repeat (first | refine blk_drewN ?_ _ | refine blk_drew ?_ | refine blk_alloc ?_ _)); refine blk_put (cs := #[.bool ((rd t137 0) == 1), .slice none 0 0]) ?_ 1 _ rfl; (with_reducible repeat (first | refine blk_drewN ?_ _ | refine blk_drew ?_ | refine blk_alloc ?_ _)); refine blk_put (cs := #[.bool false, .slice none 0 0]) ?_ 0 _ rfl; (with_reducible repeat (first | refine blk_drewN ?_ _ | refine blk_drew ?_ | refine blk_alloc ?_ _)); exact BK136.out) Try.underlying56 rfl (by kernel_rfl)) rfl ?_
                      exact ⟨_, by first | rfl | (simp [errW_none, errW_some] <;> rfl) | (simp [*, errW_none, errW_some] <;> rfl), by (with_reducible repeat (first | apply Kd.R_alloc | apply Kd.R_drewN | apply Kd.R_drew)); exact Kd.R_mono (Kd.R_far (p := ⟨gb136, 1, none⟩) (Kd.R_far (p := ⟨gb136, 0, none⟩) (Kd.R_types HO_144001.out BK136.out (by decide)) (fun _ hk => hk.2) (.bool ((rd t137 0) == 1))) (fun _ hk => hk.2) (.slice Ao35 x144001_2.length co35)) (fun _ hk => trivial), by repeat (first | (with_reducible first | exact HB.out | apply below_alloc | apply pw_below_drewN | apply below_drew1 | refine below_set ?_ GE136.out | refine below_set ?_ GE143.out) | exact HB.out)⟩
                    · rw [if_neg c32] at H
                      have c32b0 : (t155.toList == a0.toList) = false := beq_eq_false_iff_ne.mpr c32
                      have c32b1 : (t155.toList != a0.toList) = true := bne_iff_ne.mpr c32
                      simp only [Option.some.injEq, Prod.mk.injEq] at H
                      obtain ⟨rfl, rfl, rfl⟩ := H
                      have hnb39 := NB143_136.out
                      have hnc39 := NB136_143.out
                      have hcz40_0 : wr.cell? ⟨gb143, 0, none⟩ = some (.bool ((rd t137 0) == 1)) := (blk_cell BK143.out 0).trans rfl
                      have hcz40_1 : wr.cell? ⟨gb143, 1, none⟩ = some (u144001) := (blk_cell BK143.out 1).trans rfl
                      have hfz40_0 := blk_frozen BK143.out 0
                      have hfz40_1 := blk_frozen BK143.out 1
                      obtain ⟨Ao41, co41, eo41⟩ := Kd.R_slice HO_144001.out
                      subst eo41
                      go_wp2_with (first | ((with_reducible refine gate_callee (f := 27) rfl ?_); refine goesL_ (some 60) rfl rfl Try.func27 (by kernel_rfl) rfl #[.agg #[.bool ((rd t137 0) == 1), .slice Ao41 x144001_2.length co41]] rfl (by (try simp only [List.map_toArray, List.map_cons, List.map_nil]); first | done | rfl | (simp only [List.length_drop, List.length_take]; rfl)) ?_; (with_reducible refine (node_Print.calls k2 ((rd t137 0) == 1) _ _ x144001_2 t155 t156 _ ?side1 ?side2 A30.out).mono ?_); (case side1 => repeat (first | exact (Kd.R_reads' HO_144001.out).2.2 | (with_reducible refine Kd.C_alloc ?_ _) | (with_reducible refine Kd.C_drewN ?_ _) | (with_reducible refine Kd.C_drew ?_))); (case side2 => exact (Kd.R_reads' HO_144001.out).2.1); rintro e w42 ⟨rfl, hb⟩; refine ⟨_, rfl, ?_⟩; have n0_ := Aside0.mk (Kd.V_below (by (with_reducible repeat (first | apply Kd.V_alloc | apply Kd.V_drewN | apply Kd.V_drew)); exact HO_4.out) hb); have n1_ := Aside0.mk (Kd.R_below (by (with_reducible repeat (first | apply Kd.R_alloc | apply Kd.R_drewN | apply Kd.R_drew)); exact HO_144001.out) hb); have n2_ := Aside0.mk (blk_below (g := gb136) (o := .cells #[.bool false, .slice none 0 0] 56 (0, 0)) (by (with_reducible repeat (first | refine blk_drewN ?_ _ | refine blk_drew ?_ | refine blk_alloc ?_ _)); exact BK136.out) hb); have n3_ := Aside0.mk (blk_below (g := gb143) (o := .cells #[.bool ((rd t137 0) == 1), .slice Ao41 x144001_2.length co41] 56 (0, 0)) (by (with_reducible repeat (first | refine blk_drewN ?_ _ | refine blk_drew ?_ | refine blk_alloc ?_ _)); exact BK143.out) hb); have n4_ := Aside0.mk (below_step (by repeat (first | (with_reducible first | exact HB.out | apply below_alloc | apply pw_below_drewN | apply below_drew1 | refine below_set ?_ GE136.out | refine below_set ?_ GE143.out) | exact HB.out)) hb); clear HO_4; clear HO_144001; clear BK136; clear BK143; clear HB; have HO_4 := n0_; have HO_144001 := n1_; have BK136 := n2_; have BK143 := n3_; have HB := n4_; clear n0_ n1_ n2_ n3_ n4_; (try clear hb); (try clear hb2); (try clear hk); (try clear hi); have hcz43_0 : w42.cell? ⟨gb136, 0, none⟩ = some (.bool false) := (blk_cell BK136.out 0).trans rfl; have hcz43_1 : w42.cell? ⟨gb136, 1, none⟩ = some (.slice none 0 0) := (blk_cell BK136.out 1).trans rfl; have hfz43_0 := blk_frozen BK136.out 0; have hfz43_1 := blk_frozen BK136.out 1))
                      refine bodyPost_ret (results_ct rfl _ _ gb136 56 #[.bool false, .slice none 0 0] (0, 0) _ rfl (by (with_reducible repeat (first | refine blk_drewN ?_ _ | refine blk_drew ?_ | refine blk_alloc ?_ _)); refine blk_put (cs := #[.bool false, .slice none 0 0]) ?_ 1 _ rfl; (with_reducible repeat (first | refine blk_drewN ?_ _ | refine blk_drew ?_ | refine blk_alloc ?_ _)); refine blk_put (cs := #[.bool false, .slice none 0 0]) ?_ 0 _ rfl; (with_reducible repeat (first | refine blk_drewN ?_ _ | refine blk_drew ?_ | refine blk_alloc ?_ _)); exact BK136.out) Try.underlying56 rfl (by kernel_rfl)) rfl ?_
                      exact ⟨_, by first | rfl | (simp [errW_none, errW_some] <;> rfl) | (simp [*, errW_none, errW_some] <;> rfl), by first | exact Kd.R_nil _ _ _ _ _ | exact Kd.N_nil _ _ _ _ _ | exact Kd.V_nil _ _ _ _ _ | exact Kd.Q_nil _ _ _ _ _ | exact Kd.S_nil _ _ _ _ _, by repeat (first | (with_reducible first | exact HB.out | apply below_alloc | apply pw_below_drewN | apply below_drew1 | refine below_set ?_ GE136.out | refine below_set ?_ GE143.out) | exact HB.out)⟩
                  · rw [if_neg c31] at H
                    have c31b0 : (t156 == 0) = false := beq_eq_false_iff_ne.mpr c31
                    have c31b1 : (t156 != 0) = true := bne_iff_ne.mpr c31
                    simp only [Option.some.injEq, Prod.mk.injEq] at H
                    obtain ⟨rfl, rfl, rfl⟩ := H
                    have hnb44 := NB143_136.out
                    have hnc44 := NB136_143.out
                    have hcz45_0 : wr.cell? ⟨gb143, 0, none⟩ = some (.bool ((rd t137 0) == 1)) := (blk_cell BK143.out 0).trans rfl
                    have hcz45_1 : wr.cell? ⟨gb143, 1, none⟩ = some (u144001) := (blk_cell BK143.out 1).trans rfl
                    have hfz45_0 := blk_frozen BK143.out 0
                    have hfz45_1 := blk_frozen BK143.out 1
                    obtain ⟨Ao46, co46, eo46⟩ := Kd.R_slice HO_144001.out
                    subst eo46
                    go_wp2_with (first | ((with_reducible refine gate_callee (f := 27) rfl ?_); refine goesL_ (some 60) rfl rfl Try.func27 (by kernel_rfl) rfl #[.agg #[.bool ((rd t137 0) == 1), .slice Ao46 x144001_2.length co46]] rfl (by (try simp only [List.map_toArray, List.map_cons, List.map_nil]); first | done | rfl | (simp only [List.length_drop, List.length_take]; rfl)) ?_; (with_reducible refine (node_Print.calls k2 ((rd t137 0) == 1) _ _ x144001_2 t155 t156 _ ?side1 ?side2 A30.out).mono ?_); (case side1 => repeat (first | exact (Kd.R_reads' HO_144001.out).2.2 | (with_reducible refine Kd.C_alloc ?_ _) | (with_reducible refine Kd.C_drewN ?_ _) | (with_reducible refine Kd.C_drew ?_))); (case side2 => exact (Kd.R_reads' HO_144001.out).2.1); rintro e w47 ⟨rfl, hb⟩; refine ⟨_, rfl, ?_⟩; have n0_ := Aside0.mk (Kd.V_below (by (with_reducible repeat (first | apply Kd.V_alloc | apply Kd.V_drewN | apply Kd.V_drew)); exact HO_4.out) hb); have n1_ := Aside0.mk (Kd.R_below (by (with_reducible repeat (first | apply Kd.R_alloc | apply Kd.R_drewN | apply Kd.R_drew)); exact HO_144001.out) hb); have n2_ := Aside0.mk (blk_below (g := gb136) (o := .cells #[.bool false, .slice none 0 0] 56 (0, 0)) (by (with_reducible repeat (first | refine blk_drewN ?_ _ | refine blk_drew ?_ | refine blk_alloc ?_ _)); exact BK136.out) hb); have n3_ := Aside0.mk (blk_below (g := gb143) (o := .cells #[.bool ((rd t137 0) == 1), .slice Ao46 x144001_2.length co46] 56 (0, 0)) (by (with_reducible repeat (first | refine blk_drewN ?_ _ | refine blk_drew ?_ | refine blk_alloc ?_ _)); exact BK143.out) hb); have n4_ := Aside0.mk (below_step (by repeat (first | (with_reducible first | exact HB.out | apply below_alloc | apply pw_below_drewN | apply below_drew1 | refine below_set ?_ GE136.out | refine below_set ?_ GE143.out) | exact HB.out)) hb); clear HO_4; clear HO_144001; clear BK136; clear BK143; clear HB; have HO_4 := n0_; have HO_144001 := n1_; have BK136 := n2_; have BK143 := n3_; have HB := n4_; clear n0_ n1_ n2_ n3_ n4_; (try clear hb); (try clear hb2); (try clear hk); (try clear hi); have hcz48_0 : w47.cell? ⟨gb136, 0, none⟩ = some (.bool false) := (blk_cell BK136.out 0).trans rfl; have hcz48_1 : w47.cell? ⟨gb136, 1, none⟩ = some (.slice none 0 0) := (blk_cell BK136.out 1).trans rfl; have hfz48_0 := blk_frozen BK136.out 0; have hfz48_1 := blk_frozen BK136.out 1))
                    refine bodyPost_ret (results_ct rfl _ _ gb136 56 #[.bool false, .slice none 0 0] (0, 0) _ rfl (by (with_reducible repeat (first | refine blk_drewN ?_ _ | refine blk_drew ?_ | refine blk_alloc ?_ _)); refine blk_put (cs := #[.bool false, .slice none 0 0]) ?_ 1 _ rfl; (with_reducible repeat (first | refine blk_drewN ?_ _ | refine blk_drew ?_ | refine blk_alloc ?_ _)); refine blk_put (cs := #[.bool false, .slice none 0 0]) ?_ 0 _ rfl; (with_reducible repeat (first | refine blk_drewN ?_ _ | refine blk_drew ?_ | refine blk_alloc ?_ _)); exact BK136.out) Try.underlying56 rfl (by kernel_rfl)) rfl ?_
                    exact ⟨_, by first | rfl | (simp [errW_none, errW_some] <;> rfl) | (simp [*, errW_none, errW_some] <;> rfl), by first | exact Kd.R_nil _ _ _ _ _ | exact Kd.N_nil _ _ _ _ _ | exact Kd.V_nil _ _ _ _ _ | exact Kd.Q_nil _ _ _ _ _ | exact Kd.S_nil _ _ _ _ _, by repeat (first | (with_reducible first | exact HB.out | apply below_alloc | apply pw_below_drewN | apply below_drew1 | refine below_set ?_ GE136.out | refine below_set ?_ GE143.out) | exact HB.out)⟩
          · rw [if_neg c12] at H
            exact absurd H (by simp)
        · rw [if_neg c11] at H
          exact absurd H (by simp)

end Go.Proofs.Ythjnkapkhphpeaa.P
end
section
/- The plain laws of node's blocks: what is printed, and what a block tells. -/
namespace Go.Proofs.Ythjnkapkhphpeaa.P
open Go.RowKit Go.Proofs.YthjnkapkhphpeaaW.PrintWords Go.Proofs.YthjnkapkhphpeaaW.PrintLast Go.Proofs.YthjnkapkhphpeaaW.PrintMore
set_option linter.unusedVariables false
set_option linter.unusedSimpArgs false
theorem toListN_inj {x y : ByteArray} (h : x.toList = y.toList) : x = y := by
  rw [ByteArray.toList_eq, ByteArray.toList_eq] at h
  cases x; cases y
  simp at h
  rw [h]
def bodyN (l : List S78) : List Int := (l.map fun x => le x.f0 4 ++ le x.f1 4).flatten
def rowN (leaf : Bool) (l : List S78) : List Int := [if leaf = true then 1 else 2, (l.length : Int) % 256] ++ bodyN l
theorem le4_length (n : Int) : (le n 4).length = 4 := by simp [le, le4]
theorem bodyN_len (l : List S78) : (bodyN l).length = 8 * l.length := by
  induction l with
  | nil => rfl
  | cons x l ih =>
    show (le x.f0 4 ++ le x.f1 4 ++ bodyN l).length = _
    rw [List.length_append, List.length_append, le4_length, le4_length, ih, List.length_cons]
    omega
theorem rowN_len (leaf : Bool) (l : List S78) : (rowN leaf l).length = 2 + 8 * l.length := by
  unfold rowN
  rw [List.length_append, bodyN_len]
  simp
theorem le_bd (n : Int) : ∀ x ∈ le n 4, 0 ≤ x ∧ x < 256 := by
  intro x hx
  simp only [le, le4] at hx
  have : x ∈ le4 n := List.mem_of_mem_take hx
  simp only [le4, List.mem_cons, List.not_mem_nil, or_false] at this
  omega
theorem rowN_bd (leaf : Bool) (l : List S78) : ∀ x ∈ rowN leaf l, 0 ≤ x ∧ x < 256 := by
  intro x hx
  unfold rowN bodyN at hx
  rcases List.mem_append.1 hx with hx | hx
  · simp only [List.mem_cons, List.not_mem_nil, or_false] at hx
    rcases hx with rfl | rfl
    · split <;> omega
    · omega
  · obtain ⟨y, hy, hx⟩ := List.mem_flatten.1 hx
    obtain ⟨z, _, rfl⟩ := List.mem_map.1 hy
    rcases List.mem_append.1 hx with hx | hx <;> exact le_bd _ x hx
def Fit4 (l : List S78) : Prop := ∀ y ∈ l, 0 ≤ y.f0 ∧ y.f0 ≤ 2147483647 ∧ 0 ≤ y.f1 ∧ y.f1 ≤ 2147483647
theorem fit4_right {l : List S78} (h : RtN l) : Fit4 l := by
  intro y hy
  obtain ⟨i, hi, rfl⟩ := List.getElem_of_mem hy
  have := h.2.2 i hi (by omega)
  unfold okAt kAt vAt at this
  rw [rd_eq l i hi] at this
  exact ⟨this.1, this.2.1, this.2.2.1, this.2.2.2.1⟩
theorem put4 (k : Nat) (n : Int) (h0 : 0 ≤ n) (h1 : n ≤ 2147483647) (hk : 6 ≤ k) : num_Put.f k n 4 = some (le n 4) := by
  obtain ⟨k, rfl⟩ : ∃ m, k = m + 6 := ⟨k - 6, by omega⟩
  have h256 : ((256 : Int) ^ (4 : Int).toNat) = 4294967296 := rfl
  exact Put_val k n 4 (by omega) (by omega) h0 (by omega)
theorem take4 (k : Nat) (l : List Int) (a : Int) (hl : l.length ≤ 1000) (hb : ∀ x ∈ l, 0 ≤ x ∧ x < 256) (h0 : 0 ≤ a) (ha : a + 4 ≤ l.length) (hk : 6 ≤ k) : num_Take.f k l a 4 = some (lev l a 4, a + 4, 0) := by
  obtain ⟨k, rfl⟩ : ∃ m, k = m + 6 := ⟨k - 6, by omega⟩
  exact Take_val k l a 4 (by omega) hb (by omega) (by omega) h0 ha
theorem bodyN_step (l : List S78) (j : Nat) (h : j < l.length) : bodyN (l.drop j) = le l[j].f0 4 ++ le l[j].f1 4 ++ bodyN (l.drop (j + 1)) := by
  rw [List.drop_eq_getElem_cons h]
  rfl
theorem print04_l0 (l : List S78) (hf : Fit4 l) (hl : l.length ≤ 4) : ∀ (d k j : Nat) (acc : List Int), j + d = l.length → d + 10 < k → acc.length + 8 * d ≤ 100 →
    node_Print.l0 k acc l (l.length : Int) (j : Int) = (num_Seal.f (acc ++ bodyN (l.drop j))).bind fun b => some (b.1, b.2) := by
  intro d
  induction d with
  | zero =>
    intro k j acc hj hk ha
    obtain ⟨k, rfl⟩ : ∃ m, k = m + 1 := ⟨k - 1, by omega⟩
    obtain rfl : j = l.length := by omega
    simp only [node_Print.l0]
    rw [if_neg (by omega), List.drop_length]
    simp [bodyN]
  | succ d ih =>
    intro k j acc hj hk ha
    obtain ⟨k, rfl⟩ : ∃ m, k = m + 1 := ⟨k - 1, by omega⟩
    have hlt : j < l.length := by omega
    have hb := hf l[j] (List.getElem_mem hlt)
    simp only [node_Print.l0]
    rw [if_pos (by omega), if_pos (by omega), if_pos (by omega), rd_eq l j hlt, put4 k _ hb.1 hb.2.1 (by omega), Option.bind_some, put4 k _ hb.2.2.1 hb.2.2.2 (by omega), Option.bind_some]
    have hfl : [acc, le l[j].f0 4, le l[j].f1 4].flatten = acc ++ le l[j].f0 4 ++ le l[j].f1 4 := by simp
    have hlen : (acc ++ le l[j].f0 4 ++ le l[j].f1 4).length = acc.length + 8 := by rw [List.length_append, List.length_append, le4_length, le4_length]
    unfold slices_Concat_byte_byte.f
    rw [hfl, if_pos (by rw [hlen]; simp; omega), Option.bind_some, wsucc j (by omega), ih k (j + 1) _ (by omega) (by omega) (by rw [hlen]; omega), bodyN_step l j hlt]
    simp only [List.append_assoc]
def blkN (leaf : Bool) (l : List S78) : ByteArray := strOfNums (pad (rowN leaf l) ++ le (crc (pad (rowN leaf l))) 4)
theorem seal_rowN (leaf : Bool) (l : List S78) (h : l.length ≤ 4) : num_Seal.f (rowN leaf l) = some (blkN leaf l, 0) := by
  unfold num_Seal.f
  rw [if_neg (by rw [rowN_len]; omega)]
  rfl
theorem printN_ok (leaf : Bool) {l : List S78} (h : RtN l) (k : Nat) (hk : 30 < k) : node_Print.f k leaf l = some (blkN leaf l, 0) := by
  have hlen := h.2.1
  have key : ∀ acc : List Int, acc.length = 2 → acc ++ bodyN l = rowN leaf l → node_Print.j0 k acc leaf l = some (blkN leaf l, 0) := by
    intro acc ha he
    obtain ⟨k, rfl⟩ : ∃ m, k = m + 1 := ⟨k - 1, by omega⟩
    simp only [node_Print.j0]
    have := print04_l0 l (fit4_right h) hlen l.length k 0 acc (by omega) (by omega) (by omega)
    rw [show ((0 : Nat) : Int) = 0 from rfl, List.drop_zero, he, seal_rowN leaf l hlen] at this
    rw [this]
    rfl
  unfold node_Print.f
  rw [right04_val leaf l k (by omega), Option.bind_some, if_pos (decide_eq_true h), Option.bind_some]
  cases leaf with
  | true =>
    rw [if_pos rfl, if_pos (by simp)]
    exact key _ (by simp) rfl
  | false =>
    rw [if_neg (by simp)]
    exact key _ (by simp) rfl
theorem printN_bad (leaf : Bool) {l : List S78} (h : ¬ RtN l) (k : Nat) (hk : 6 ≤ k) : node_Print.f k leaf l = some (⟨#[]⟩, 1) := by
  unfold node_Print.f
  rw [right04_val leaf l k hk, Option.bind_some, if_neg (by simpa using h)]
/-- The items that a block's bytes tell. -/
def itemsOf (own : List Int) (n : Nat) : List S78 := (List.range n).map fun i => ⟨lev own (2 + 8 * (i : Nat)) 4, lev own (6 + 8 * (i : Nat)) 4⟩
theorem itemsOf_succ (own : List Int) (n : Nat) : itemsOf own (n + 1) = itemsOf own n ++ [⟨lev own (2 + 8 * (n : Nat)) 4, lev own (6 + 8 * (n : Nat)) 4⟩] := by
  unfold itemsOf
  rw [List.range_succ, List.map_append]
  rfl
theorem itemsOf_len (own : List Int) (n : Nat) : (itemsOf own n).length = n := by simp [itemsOf]
def endN (s : ByteArray) (leaf : Bool) (it : List S78) : Option (Bool × List S78 × Int) :=
  if RtN it ∧ (blkN leaf it).toList = s.toList then some (leaf, it, 0) else some (false, [], 2)
theorem parse04_l0 (s : ByteArray) (own : List Int) (leaf : Bool) (hown : own.length = 36) (hb : ∀ x ∈ own, 0 ≤ x ∧ x < 256) (n : Nat) (hn : n ≤ 4) : ∀ (d k i : Nat), i + d = n → d + 50 < k →
    node_Parse.l0 k s own (2 + 8 * (i : Nat)) (n : Int) (i : Int) leaf (itemsOf own i) = endN s leaf (itemsOf own n) := by
  intro d
  induction d with
  | zero =>
    intro k i hi hk
    obtain ⟨k, rfl⟩ : ∃ m, k = m + 1 := ⟨k - 1, by omega⟩
    obtain rfl : i = n := by omega
    simp only [node_Parse.l0]
    rw [if_neg (by omega)]
    unfold endN
    by_cases hr : RtN (itemsOf own i)
    · rw [printN_ok leaf hr k (by omega), Option.bind_some, if_pos rfl]
      by_cases hs : (blkN leaf (itemsOf own i)).toList = s.toList
      · rw [if_pos hs, if_pos ⟨hr, hs⟩]
      · rw [if_neg hs, if_neg fun h => hs h.2]
    · rw [printN_bad leaf hr k (by omega), Option.bind_some, if_neg (by simp), if_neg fun h => hr h.1]
  | succ d ih =>
    intro k i hi hk
    obtain ⟨k, rfl⟩ : ∃ m, k = m + 1 := ⟨k - 1, by omega⟩
    have hm : ((i : Int) + 1) % 256 = ((i + 1 : Nat) : Int) := by omega
    have ha : (2 : Int) + 8 * ((i : Nat) : Int) + 4 + 4 = 2 + 8 * ((i + 1 : Nat) : Int) := by omega
    have hb6 : (2 : Int) + 8 * ((i : Nat) : Int) + 4 = 6 + 8 * ((i : Nat) : Int) := by omega
    have hi2 := itemsOf_succ own i
    have hil := itemsOf_len own i
    have ih' := ih k (i + 1) (by omega) (by omega)
    simp only [node_Parse.l0]
    rw [if_pos (by omega), take4 k own _ (by omega) hb (by omega) (by omega) (by omega), Option.bind_some]
    dsimp only
    rw [take4 k own _ (by omega) hb (by omega) (by omega) (by omega), Option.bind_some]
    dsimp only
    rw [if_pos (by omega), hm, ha, hb6, ← hi2, ih']
/-- What any block tells. -/
def parseN (s : ByteArray) : Option (Bool × List S78 × Int) :=
  if isSealed (bytesOf s) = true ∧ rd ((bytesOf s).take 36) 1 ≤ 4 then endN s (rd ((bytesOf s).take 36) 0 == 1) (itemsOf ((bytesOf s).take 36) (rd ((bytesOf s).take 36) 1).toNat) else some (false, [], 2)
theorem own_facts {s : ByteArray} (hs : isSealed (bytesOf s) = true) : ((bytesOf s).take 36).length = 36 ∧ (∀ x ∈ (bytesOf s).take 36, 0 ≤ x ∧ x < 256) := by
  refine ⟨?_, fun x hx => bytesOf_bd s x (List.mem_of_mem_take hx)⟩
  unfold isSealed at hs
  simp only [Bool.and_eq_true, decide_eq_true_eq] at hs
  rw [List.length_take, hs.1]
  rfl
theorem rd_own {own : List Int} (hl : own.length = 36) (hb : ∀ x ∈ own, 0 ≤ x ∧ x < 256) : 0 ≤ rd own 1 ∧ rd own 1 < 256 := by
  have : rd own 1 = own[1] := by simp [rd, hl]
  rw [this]
  exact hb _ (List.getElem_mem _)
theorem parseN_val (s : ByteArray) (k : Nat) (hk : 100 < k) : node_Parse.f k s = parseN s := by
  unfold node_Parse.f parseN
  obtain ⟨k, rfl⟩ : ∃ m, k = m + 1 := ⟨k - 1, by omega⟩
  by_cases hs : isSealed (bytesOf s) = true
  · have ho : num_Open.f s = some ((bytesOf s).take 36, 0) := by unfold num_Open.f; rw [if_pos hs]
    obtain ⟨hl, hb⟩ := own_facts hs
    rw [ho, Option.bind_some, if_pos rfl]
    generalize (bytesOf s).take 36 = own at hl hb ⊢
    obtain ⟨h0, h1⟩ := rd_own hl hb
    rw [if_pos (by show 1 < (own.length : Int); omega)]
    simp only [node_Parse.j0]
    by_cases h4 : rd own 1 ≤ 4
    · rw [decide_eq_false (by omega), if_neg (by simp), if_pos (by omega), if_pos (by omega), if_pos ⟨hs, h4⟩]
      have := parse04_l0 s own (rd own 0 == 1) hl hb (rd own 1).toNat (by omega) (rd own 1).toNat k 0 (by omega) (by omega)
      rw [Int.toNat_of_nonneg h0] at this
      exact this
    · rw [decide_eq_true (by omega), if_pos rfl, if_neg fun h => h4 h.2]
  · have ho : num_Open.f s = some ([], 2) := by unfold num_Open.f; rw [if_neg hs]
    rw [ho, Option.bind_some, if_neg (by simp), if_neg fun h => hs h.1]
    simp only [node_Parse.j0]
    rw [if_pos trivial]
theorem parseN_cases (s : ByteArray) : parseN s = some (false, [], 2) ∨ ∃ leaf it, RtN it ∧ blkN leaf it = s ∧ parseN s = some (leaf, it, 0) := by
  unfold parseN
  split
  · unfold endN
    split
    · rename_i h
      exact .inr ⟨_, _, h.1, toListN_inj h.2, rfl⟩
    · exact .inl rfl
  · exact .inl rfl
theorem open_blkN (leaf : Bool) {l : List S78} (h : l.length ≤ 4) : num_Open.f (blkN leaf l) = some (pad (rowN leaf l), 0) := open_seal (by rw [rowN_len]; omega) (rowN_bd leaf l)
theorem sealed_blkN (leaf : Bool) {l : List S78} (h : l.length ≤ 4) : isSealed (bytesOf (blkN leaf l)) = true ∧ (bytesOf (blkN leaf l)).take 36 = pad (rowN leaf l) := by
  have := open_blkN leaf h
  unfold num_Open.f at this
  by_cases hs : isSealed (bytesOf (blkN leaf l)) = true
  · rw [if_pos hs] at this
    simp only [Option.some.injEq, Prod.mk.injEq] at this
    exact ⟨hs, this.1⟩
  · rw [if_neg hs] at this
    simp at this
theorem blkN_size (leaf : Bool) {l : List S78} (h : l.length ≤ 4) : (blkN leaf l).size = 40 := seal_size (by rw [rowN_len]; omega)
theorem le4_back (n : Int) (h0 : 0 ≤ n) (h1 : n ≤ 2147483647) : n % 256 + 256 * (n / 256 % 256) + 65536 * (n / 65536 % 256) + 16777216 * (n / 16777216 % 256) = n := by omega
theorem items_row (leaf : Bool) (l : List S78) (h : l.length ≤ 4) (hf : Fit4 l) : itemsOf (pad (rowN leaf l)) l.length = l := by
  unfold Fit4 at hf
  match l, h with
  | [], _ => rfl
  | [a], _ =>
    obtain ⟨a0, a1, a2, a3⟩ := hf a (by simp)
    cases a with | mk x y =>
    simp only at a0 a1 a2 a3
    simp [itemsOf, rowN, bodyN, le, le4, pad, lev, rd, List.range_succ, le4_back _ a0 a1, le4_back _ a2 a3]
  | [a, b], _ =>
    obtain ⟨a0, a1, a2, a3⟩ := hf a (by simp)
    obtain ⟨b0, b1, b2, b3⟩ := hf b (by simp)
    cases a with | mk x y =>
    cases b with | mk x' y' =>
    simp only at a0 a1 a2 a3 b0 b1 b2 b3
    simp [itemsOf, rowN, bodyN, le, le4, pad, lev, rd, List.range_succ, le4_back _ a0 a1, le4_back _ a2 a3, le4_back _ b0 b1, le4_back _ b2 b3]
  | [a, b, c], _ =>
    obtain ⟨a0, a1, a2, a3⟩ := hf a (by simp)
    obtain ⟨b0, b1, b2, b3⟩ := hf b (by simp)
    obtain ⟨c0, c1, c2, c3⟩ := hf c (by simp)
    cases a with | mk x y =>
    cases b with | mk x' y' =>
    cases c with | mk x'' y'' =>
    simp only at a0 a1 a2 a3 b0 b1 b2 b3 c0 c1 c2 c3
    simp [itemsOf, rowN, bodyN, le, le4, pad, lev, rd, List.range_succ, le4_back _ a0 a1, le4_back _ a2 a3, le4_back _ b0 b1, le4_back _ b2 b3, le4_back _ c0 c1, le4_back _ c2 c3]
  | [a, b, c, d], _ =>
    obtain ⟨a0, a1, a2, a3⟩ := hf a (by simp)
    obtain ⟨b0, b1, b2, b3⟩ := hf b (by simp)
    obtain ⟨c0, c1, c2, c3⟩ := hf c (by simp)
    obtain ⟨d0, d1, d2, d3⟩ := hf d (by simp)
    cases a with | mk x y =>
    cases b with | mk x' y' =>
    cases c with | mk x'' y'' =>
    cases d with | mk u v =>
    simp only at a0 a1 a2 a3 b0 b1 b2 b3 c0 c1 c2 c3 d0 d1 d2 d3
    simp [itemsOf, rowN, bodyN, le, le4, pad, lev, rd, List.range_succ, le4_back _ a0 a1, le4_back _ a2 a3, le4_back _ b0 b1, le4_back _ b2 b3, le4_back _ c0 c1, le4_back _ c2 c3, le4_back _ d0 d1, le4_back _ d2 d3]
  | _ :: _ :: _ :: _ :: _ :: l, h => simp at h
theorem parseN_blk (leaf : Bool) {l : List S78} (h : RtN l) : parseN (blkN leaf l) = some (leaf, l, 0) := by
  have hlen := h.2.1
  obtain ⟨hs, ht⟩ := sealed_blkN leaf hlen
  have r0 : (rd (pad (rowN leaf l)) 0 == 1) = leaf := by
    cases leaf <;> simp [rowN, pad, rd]
  have r1 : rd (pad (rowN leaf l)) 1 = (l.length : Int) := by
    simp [rowN, pad, rd]
    omega
  unfold parseN
  rw [if_pos ⟨hs, by rw [ht, r1]; omega⟩, ht, r0, r1, Int.toNat_natCast, items_row leaf l hlen (fit4_right h)]
  unfold endN
  rw [if_pos ⟨h, rfl⟩]
theorem blkN_inj {leaf leaf' : Bool} {l l' : List S78} (h : RtN l) (h' : RtN l') (e : blkN leaf l = blkN leaf' l') : leaf = leaf' ∧ l = l' := by
  have h1 := parseN_blk leaf h
  rw [e, parseN_blk leaf' h'] at h1
  simp only [Option.some.injEq, Prod.mk.injEq] at h1
  exact ⟨h1.1.symm, h1.2.1.symm⟩
end Go.Proofs.Ythjnkapkhphpeaa.P
end
section
namespace Go.Proofs.Ythjnkapkhphpeaa.P
open Go.RowKit Go.Proofs.YthjnkapkhphpeaaW.PrintWords Go.Proofs.YthjnkapkhphpeaaW.PrintLast Go.Proofs.YthjnkapkhphpeaaW.PrintMore
attribute [local go_sem] max2_int min2_int max_two min_two max_three min_three max_four min_four
set_option linter.unusedVariables false
set_option linter.unusedSimpArgs false

/-! ### assartref04_Print: function 28 -/
mutual
def assartref04_Print.j0 : Nat → List Int → Bool → List (S78) → Option (ByteArray × Int)
  | 0, _, _, _ => none
  | k + 1, x5, x229000, x229001 => assartref04_Print.l0 k x5 0 x229000 x229001
def assartref04_Print.l0 : Nat → List Int → Int → Bool → List (S78) → Option (ByteArray × Int)
  | 0, _, _, _, _ => none
  | k + 1, x5, x6, x229000, x229001 => if x6 < (x229001.length : Int) then (if 0 ≤ x6 then ((assartref01_Put.f k ((rd_T78 x229001 x6).f0) 4).bind fun t237 => (if x5.length + t237.length < 140737488355328 then ((some (x5 ++ t237 : List Int)).bind fun y240 => ((assartref01_Put.f k ((rd_T78 x229001 x6).f1) 4).bind fun t244 => (if y240.length + t244.length < 140737488355328 then (assartref04_Print.l0 k (y240 ++ t244) (wrap64 (x6 + 1)) x229000 x229001) else (none)))) else (none))) else (none)) else ((assartref01_Seal.f k x5).bind fun bt250 => (some (bt250.1, bt250.2)))
end
def assartref04_Print.f (k : Nat) (a0_0 : Bool) (l0_1 : List (S78)) : Option (ByteArray × Int) := (assartref04_Right.f k a0_0 l0_1).bind fun t229 => (if t229 = true then (if a0_0 = true then (assartref04_Print.j0 k (([1, ((l0_1.length : Int)) % 256] : List Int)) a0_0 l0_1) else (assartref04_Print.j0 k (([2, ((l0_1.length : Int)) % 256] : List Int)) a0_0 l0_1)) else (some ((⟨#[]⟩ : ByteArray), 1)))
theorem assartref04_Print.mono_l : ∀ k, (∀ y0 y1 y2, LeO (assartref04_Print.j0 k y0 y1 y2) (assartref04_Print.j0 (k + 1) y0 y1 y2)) ∧ (∀ y0 y1 y2 y3, LeO (assartref04_Print.l0 k y0 y1 y2 y3) (assartref04_Print.l0 (k + 1) y0 y1 y2 y3))
  | 0 => ⟨fun _ _ _ r h => by simp [assartref04_Print.j0] at h, fun _ _ _ _ r h => by simp [assartref04_Print.l0] at h⟩
  | k + 1 => by
    obtain ⟨ih0, ih1⟩ := assartref04_Print.mono_l k
    refine ⟨?_, ?_⟩
    · intro y0 y1 y2
      unfold assartref04_Print.j0
      repeat' first
      | (with_reducible exact ih0 _ _ _)
      | (with_reducible exact ih1 _ _ _ _)
      | (with_reducible exact assartref01_Put.mono _ _ _)
      | (with_reducible exact assartref01_Seal.mono _ _)
      | (with_reducible exact assartref04_Right.mono _ _ _)
      | (with_reducible exact LeO.refl _)
      | (with_reducible exact LeO.none _)
      | (with_reducible refine LeO.ite ?_ ?_)
      | (with_reducible refine LeO.bind ?_ (fun _ => ?_))
      | exact ih0 _ _ _
      | exact ih1 _ _ _ _
      | exact assartref01_Put.mono _ _ _
      | exact assartref01_Seal.mono _ _
      | exact assartref04_Right.mono _ _ _
      | exact LeO.none _
      | refine LeO.ite ?_ ?_
      | refine LeO.bind ?_ (fun _ => ?_)
    · intro y0 y1 y2 y3
      unfold assartref04_Print.l0
      repeat' first
      | (with_reducible exact ih0 _ _ _)
      | (with_reducible exact ih1 _ _ _ _)
      | (with_reducible exact assartref01_Put.mono _ _ _)
      | (with_reducible exact assartref01_Seal.mono _ _)
      | (with_reducible exact assartref04_Right.mono _ _ _)
      | (with_reducible exact LeO.refl _)
      | (with_reducible exact LeO.none _)
      | (with_reducible refine LeO.ite ?_ ?_)
      | (with_reducible refine LeO.bind ?_ (fun _ => ?_))
      | exact ih0 _ _ _
      | exact ih1 _ _ _ _
      | exact assartref01_Put.mono _ _ _
      | exact assartref01_Seal.mono _ _
      | exact assartref04_Right.mono _ _ _
      | exact LeO.none _
      | refine LeO.ite ?_ ?_
      | refine LeO.bind ?_ (fun _ => ?_)
theorem assartref04_Print.mono : ∀ a0 a1 k, LeO (assartref04_Print.f k a0 a1) (assartref04_Print.f (k + 1) a0 a1) := by
  intro a0 a1 k
  obtain ⟨ih0, ih1⟩ := assartref04_Print.mono_l k
  unfold assartref04_Print.f
  repeat' first
      | (with_reducible exact ih0 _ _ _)
      | (with_reducible exact ih1 _ _ _ _)
      | (with_reducible exact assartref01_Put.mono _ _ _)
      | (with_reducible exact assartref01_Seal.mono _ _)
      | (with_reducible exact assartref04_Right.mono _ _ _)
      | (with_reducible exact LeO.refl _)
      | (with_reducible exact LeO.none _)
      | (with_reducible refine LeO.ite ?_ ?_)
      | (with_reducible refine LeO.bind ?_ (fun _ => ?_))
      | exact ih0 _ _ _
      | exact ih1 _ _ _ _
      | exact assartref01_Put.mono _ _ _
      | exact assartref01_Seal.mono _ _
      | exact assartref04_Right.mono _ _ _
      | exact LeO.none _
      | refine LeO.ite ?_ ?_
      | refine LeO.bind ?_ (fun _ => ?_)
set_option maxHeartbeats 8000000 in
set_option maxRecDepth 100000 in
theorem assartref04_Print.calls (k : Nat) (a0_0 : Bool) (A0_1 : Option Addr) (c0_1 : Nat) (l0_1 : List (S78)) (r1 : ByteArray) (r2 : Int) (w : World) (hr0_1 : Kd.C k78 w A0_1 l0_1.length l0_1) (hc0_1 : l0_1.length ≤ c0_1) (h : assartref04_Print.f k a0_0 l0_1 = some (r1, r2)) :
    Calls Try.prog 28 #[.agg #[.bool a0_0, .slice A0_1 l0_1.length c0_1]] w fun e w' => e = .returned (.tuple #[.string r1, .int .i64 r2]) ∧ Below w.heap.size w w' := by
  have hu56 := Try.underlying56
  have HR0_1 := Aside0.mk hr0_1
  have HC0_1 := Aside0.mk hc0_1
  clear hr0_1 hc0_1
  have HB := Aside0.mk (Below.refl w.heap.size w)
  have H : ((assartref04_Right.f k a0_0 l0_1).bind fun t229 => (if t229 = true then (if a0_0 = true then (assartref04_Print.j0 k (([1, ((l0_1.length : Int)) % 256] : List Int)) a0_0 l0_1) else (assartref04_Print.j0 k (([2, ((l0_1.length : Int)) % 256] : List Int)) a0_0 l0_1)) else (some ((⟨#[]⟩ : ByteArray), 1)))) = some (r1, r2) := h
  clear h
  replace H := Option.bind_eq_some_iff.mp H
  obtain ⟨t229, A20, H⟩ := H
  replace H : (if t229 = true then (if a0_0 = true then (assartref04_Print.j0 k (([1, ((l0_1.length : Int)) % 256] : List Int)) a0_0 l0_1) else (assartref04_Print.j0 k (([2, ((l0_1.length : Int)) % 256] : List Int)) a0_0 l0_1)) else (some ((⟨#[]⟩ : ByteArray), 1))) = some (r1, r2) := H
  have A2 := Aside0.mk A20
  clear A20
  by_cases c3 : t229 = true
  · subst c3
    have H1 : (if a0_0 = true then (assartref04_Print.j0 k (([1, ((l0_1.length : Int)) % 256] : List Int)) a0_0 l0_1) else (assartref04_Print.j0 k (([2, ((l0_1.length : Int)) % 256] : List Int)) a0_0 l0_1)) = some (r1, r2) := by rw [if_pos rfl] at H; exact H
    clear H
    have H := H1
    clear H1
    obtain ⟨y230, hy230⟩ : ∃ y_ : List Int, y_ = (([2, ((l0_1.length : Int)) % 256] : List Int)) := ⟨_, rfl⟩
    replace H : (if a0_0 = true then (assartref04_Print.j0 k (([1, ((l0_1.length : Int)) % 256] : List Int)) a0_0 l0_1) else (assartref04_Print.j0 k y230 a0_0 l0_1)) = some (r1, r2) := by first | (rw [hy230]; with_reducible exact H) | (have H2_ := (Option.bind_some _ _).symm.trans H; rw [hy230]; with_reducible exact H2_) | (have H2_ := (Option.bind_some _ _).symm.trans H; with_reducible exact H2_) | with_reducible exact H | (rw [hy230]; exact H) | exact H
    have Ny230 := Aside0.mk hy230
    clear hy230
    have HC4 := Aside0.mk H
    clear H
    go_enter Try.func28, Try.ntmps28
    go_upto_if 17 with (first | ((with_reducible refine gate_dst (N := 1) rfl ?_); refine box_event ?hg (N := 1) ?hd (cs := #[.bool a0_0, .slice A0_1 l0_1.length c0_1]) (t := 56) ?hr ?_; (case hd => rfl); (case hg => rfl); (case hr => first | (go_simp; done) | (go_simp; rfl)); intro gb228 hg w5 hbox hb; have n0_ := Aside0.mk (below_step (by repeat (first | (with_reducible first | exact HB.out | apply below_alloc | apply pw_below_drewN | apply below_drew1) | exact HB.out)) hb); have n1_ := Aside0.mk (hbox); have n2_ := Aside0.mk ((by rw [hg]; exact (below_size (by repeat (first | (with_reducible first | exact HB.out | apply below_alloc | apply pw_below_drewN | apply below_drew1) | exact HB.out))) : w.heap.size ≤ gb228)); have n3_ := Aside0.mk ((by rw [hg]; exact (below_size (by repeat (first | (with_reducible first | exact HB.out | apply below_alloc | apply pw_below_drewN | apply below_drew1) | exact HB.out))) : w.heap.size ≤ gb228)); clear HB; have HB := n0_; have BK228 := n1_; have GW228 := n2_; have GE228 := n3_; clear n0_ n1_ n2_ n3_; clear hb hbox hg; have hcz6_0 : w5.cell? ⟨gb228, 0, none⟩ = some (.bool a0_0) := (blk_cell BK228.out 0).trans rfl; have hcz6_1 : w5.cell? ⟨gb228, 1, none⟩ = some (.slice A0_1 l0_1.length c0_1) := (blk_cell BK228.out 1).trans rfl; have hfz6_0 := blk_frozen BK228.out 0; have hfz6_1 := blk_frozen BK228.out 1) | ((with_reducible refine gate_callee (f := 31) rfl ?_); refine goesL_ (some 8) rfl rfl Try.func31 (by kernel_rfl) rfl #[.agg #[.bool a0_0, .slice A0_1 l0_1.length c0_1]] rfl (by (try simp only [List.map_toArray, List.map_cons, List.map_nil]); first | done | rfl | (simp only [List.length_drop, List.length_take]; rfl)) ?_; (with_reducible refine (assartref04_Right.calls k a0_0 _ _ l0_1 true _ ?side1 ?side2 A2.out).mono ?_); (case side1 => repeat (first | exact (Kd.C_below HR0_1.out HB.out) | (with_reducible refine Kd.C_alloc ?_ _) | (with_reducible refine Kd.C_drewN ?_ _) | (with_reducible refine Kd.C_drew ?_))); (case side2 => exact HC0_1.out); rintro e w7 ⟨rfl, hb⟩; refine ⟨_, rfl, ?_⟩; have n0_ := Aside0.mk (blk_below (g := gb228) (o := .cells #[.bool a0_0, .slice A0_1 l0_1.length c0_1] 56 (0, 0)) (by (with_reducible repeat (first | refine blk_drewN ?_ _ | refine blk_drew ?_ | refine blk_alloc ?_ _)); exact BK228.out) hb); have n1_ := Aside0.mk (below_step (by repeat (first | (with_reducible first | exact HB.out | apply below_alloc | apply pw_below_drewN | apply below_drew1 | refine below_set ?_ GE228.out) | exact HB.out)) hb); clear BK228; clear HB; have BK228 := n0_; have HB := n1_; clear n0_ n1_; (try clear hb); (try clear hb2); (try clear hk); (try clear hi); have hcz8_0 : w7.cell? ⟨gb228, 0, none⟩ = some (.bool a0_0) := (blk_cell BK228.out 0).trans rfl; have hcz8_1 : w7.cell? ⟨gb228, 1, none⟩ = some (.slice A0_1 l0_1.length c0_1) := (blk_cell BK228.out 1).trans rfl; have hfz8_0 := blk_frozen BK228.out 0; have hfz8_1 := blk_frozen BK228.out 1) | ((with_reducible refine gate_dst (N := 15) rfl ?_); refine Kd.R_lit (Kd.int .u8) _ 5 ?hg (N := 15) ?hd (xs := ([2, ((l0_1.length : Int)) % 256] : List Int)) (inner := [.int .u8 2, .int .u8 (((l0_1.length : Int)) % 256)]) (ok := fun _ => True) (okp := fun _ => True) ?hr ?hp (fun _ hk => hk) trivial (Below.refl _ _) (Nat.le_refl _) (by simp) ?_; (case hd => rfl); (case hg => rfl); (case hr => first | (go_simp; done) | (go_simp; rfl)); (case hp => exact (Reps.one (show Kd.M (Kd.int .u8) _ _ _ 2 [.int .u8 2] from rfl) (Reps.one (show Kd.M (Kd.int .u8) _ _ _ (((l0_1.length : Int)) % 256) [.int .u8 (((l0_1.length : Int)) % 256)] from rfl) (Reps.none _ _)))); intro v231 w9 ho10 hb hg_ hnew_; clear hg_ hnew_; (first | rw [← Ny230.out] at ho10 | (simp only [Int.reduceToNat] at ho10; rw [← Ny230.out] at ho10)); have n0_ := Aside0.mk (Kd.R_lower ho10 (below_size (by repeat (first | (with_reducible first | exact HB.out | apply below_alloc | apply pw_below_drewN | apply below_drew1 | refine below_set ?_ GE228.out) | exact HB.out)))); have n1_ := Aside0.mk (blk_below (g := gb228) (o := .cells #[.bool a0_0, .slice A0_1 l0_1.length c0_1] 56 (0, 0)) (by (with_reducible repeat (first | refine blk_drewN ?_ _ | refine blk_drew ?_ | refine blk_alloc ?_ _)); exact BK228.out) hb); have n2_ := Aside0.mk (below_step (by repeat (first | (with_reducible first | exact HB.out | apply below_alloc | apply pw_below_drewN | apply below_drew1 | refine below_set ?_ GE228.out) | exact HB.out)) hb); clear BK228; clear HB; have HO232 := n0_; have BK228 := n1_; have HB := n2_; clear n0_ n1_ n2_; clear hb ho10; have hcz11_0 : w9.cell? ⟨gb228, 0, none⟩ = some (.bool a0_0) := (blk_cell BK228.out 0).trans rfl; have hcz11_1 : w9.cell? ⟨gb228, 1, none⟩ = some (.slice A0_1 l0_1.length c0_1) := (blk_cell BK228.out 1).trans rfl; have hfz11_0 := blk_frozen BK228.out 0; have hfz11_1 := blk_frozen BK228.out 1))
    (try simp only [Act.put, List.setIfInBounds_toArray, List.set_cons_zero, List.set_cons_succ])
    go_cut [5] (fun v5 wc => ∃ (kq : Nat) (x5_3 : List Int), Aside0 (assartref04_Print.j0 kq x5_3 a0_0 l0_1 = some (r1, r2)) ∧ Aside0 (kq ≤ k) ∧ Aside0 (Kd.R (Kd.int .u8) 5 wc w.heap.size (fun _ => True) v5 x5_3) ∧ Aside0 (wc.heap[gb228]? = some (.cells #[.bool a0_0, (.slice A0_1 l0_1.length c0_1)] 56 (0, 0))) ∧ Aside0 (Below w.heap.size w wc))
    case first =>
      have H := HC4.out
      clear HC4
      by_cases c12 : a0_0 = true
      · subst c12
        have H1 : (assartref04_Print.j0 k (([1, ((l0_1.length : Int)) % 256] : List Int)) true l0_1) = some (r1, r2) := by rw [if_pos rfl] at H; exact H
        clear H
        have H := H1
        clear H1
        obtain ⟨y233, hy233⟩ : ∃ y_ : List Int, y_ = (([1, ((l0_1.length : Int)) % 256] : List Int)) := ⟨_, rfl⟩
        replace H : (assartref04_Print.j0 k y233 true l0_1) = some (r1, r2) := by first | (rw [hy233]; with_reducible exact H) | (have H2_ := (Option.bind_some _ _).symm.trans H; rw [hy233]; with_reducible exact H2_) | (have H2_ := (Option.bind_some _ _).symm.trans H; with_reducible exact H2_) | with_reducible exact H | (rw [hy233]; exact H) | exact H
        have Ny233 := Aside0.mk hy233
        clear hy233
        have H' := Aside0.mk H
        clear H
        have hcz13_0 : w9.cell? ⟨gb228, 0, none⟩ = some (.bool true) := (blk_cell BK228.out 0).trans rfl
        have hcz13_1 : w9.cell? ⟨gb228, 1, none⟩ = some (.slice A0_1 l0_1.length c0_1) := (blk_cell BK228.out 1).trans rfl
        have hfz13_0 := blk_frozen BK228.out 0
        have hfz13_1 := blk_frozen BK228.out 1
        go_wp2_with (first | ((with_reducible refine gate_dst (N := 22) rfl ?_); refine Kd.R_lit (Kd.int .u8) _ 5 ?hg (N := 22) ?hd (xs := ([1, ((l0_1.length : Int)) % 256] : List Int)) (inner := [.int .u8 1, .int .u8 (((l0_1.length : Int)) % 256)]) (ok := fun _ => True) (okp := fun _ => True) ?hr ?hp (fun _ hk => hk) trivial (Below.refl _ _) (Nat.le_refl _) (by simp) ?_; (case hd => rfl); (case hg => rfl); (case hr => first | (go_simp; done) | (go_simp; rfl)); (case hp => exact (Reps.one (show Kd.M (Kd.int .u8) _ _ _ 1 [.int .u8 1] from rfl) (Reps.one (show Kd.M (Kd.int .u8) _ _ _ (((l0_1.length : Int)) % 256) [.int .u8 (((l0_1.length : Int)) % 256)] from rfl) (Reps.none _ _)))); intro v234 w14 ho15 hb hg_ hnew_; clear hg_ hnew_; (first | rw [← Ny233.out] at ho15 | (simp only [Int.reduceToNat] at ho15; rw [← Ny233.out] at ho15)); have n0_ := Aside0.mk (Kd.R_elder' (by (with_reducible repeat (first | apply Kd.R_alloc | apply Kd.R_drewN | apply Kd.R_drew)); exact HO232.out) (Kd.R_base ho15) hb); have n1_ := Aside0.mk (Kd.R_lower (Kd.R_new' ho15 (Kd.R_lt (by (with_reducible repeat (first | apply Kd.R_alloc | apply Kd.R_drewN | apply Kd.R_drew)); exact HO232.out))) (below_size (by repeat (first | (with_reducible first | exact HB.out | apply below_alloc | apply pw_below_drewN | apply below_drew1 | refine below_set ?_ GE228.out) | exact HB.out)))); have n2_ := Aside0.mk (blk_below (g := gb228) (o := .cells #[.bool true, .slice A0_1 l0_1.length c0_1] 56 (0, 0)) (by (with_reducible repeat (first | refine blk_drewN ?_ _ | refine blk_drew ?_ | refine blk_alloc ?_ _)); exact BK228.out) hb); have n3_ := Aside0.mk (below_step (by repeat (first | (with_reducible first | exact HB.out | apply below_alloc | apply pw_below_drewN | apply below_drew1 | refine below_set ?_ GE228.out) | exact HB.out)) hb); clear HO232; clear BK228; clear HB; have HO232 := n0_; have HO235 := n1_; have BK228 := n2_; have HB := n3_; clear n0_ n1_ n2_ n3_; clear hb ho15))
        go_meet
        case rel => exact ⟨_, (y233), H', ⟨by first | omega | exact Nat.le_refl _⟩, ⟨by (with_reducible repeat (first | apply Kd.R_alloc | apply Kd.R_drewN | apply Kd.R_drew)); exact Kd.R_mono HO235.out (fun _ hk => trivial)⟩, ⟨by (with_reducible repeat (first | refine blk_drewN ?_ _ | refine blk_drew ?_ | refine blk_alloc ?_ _)); exact BK228.out⟩, ⟨by repeat (first | (with_reducible first | exact HB.out | apply below_alloc | apply pw_below_drewN | apply below_drew1 | refine below_set ?_ GE228.out) | exact HB.out)⟩⟩
      · replace c12 := Bool.eq_false_iff.mpr c12
        subst c12
        have H1 : (assartref04_Print.j0 k y230 false l0_1) = some (r1, r2) := by rw [if_neg (show ¬ (false = true) by decide)] at H; exact H
        clear H
        have H := H1
        clear H1
        have H' := Aside0.mk H
        clear H
        go_wp2
        go_meet
        case rel => exact ⟨_, (y230), H', ⟨by first | omega | exact Nat.le_refl _⟩, ⟨by (with_reducible repeat (first | apply Kd.R_alloc | apply Kd.R_drewN | apply Kd.R_drew)); exact HO232.out⟩, ⟨by (with_reducible repeat (first | refine blk_drewN ?_ _ | refine blk_drew ?_ | refine blk_alloc ?_ _)); exact BK228.out⟩, ⟨by repeat (first | (with_reducible first | exact HB.out | apply below_alloc | apply pw_below_drewN | apply below_drew1 | refine below_set ?_ GE228.out) | exact HB.out)⟩⟩
    case rest =>
      clear HC4
      try clear c1
      try clear c2
      try clear p2
      try clear c3
      try clear c12
      try clear hcz11_0
      try clear hcz11_1
      try clear hcz13_0
      try clear hcz13_1
      try clear hcz6_0
      try clear hcz6_1
      try clear hcz8_0
      try clear hcz8_1
      try clear hfz11_0
      try clear hfz11_1
      try clear hfz13_0
      try clear hfz13_1
      try clear hfz6_0
      try clear hfz6_1
      try clear hfz8_0
      try clear hfz8_1
      obtain ⟨kq, x5_3, HA, HJ3, HO_5, BK228, HB⟩ := hcut
      cases kq with
      | zero => exact absurd HA.out (by simp [assartref04_Print.j0])
      | succ kj3 =>
        have H := HA.out
        clear HA
        simp only [assartref04_Print.j0] at H
        have H' := Aside0.mk H
        clear H
        go_wp2
        go_loopg [5, 6] kj3 (fun kq v5 v6 w' => ∃ (x5_2 : List Int) (x6_2 : Int), v6 = .int .i64 x6_2 ∧ Aside0 (assartref04_Print.l0 kq x5_2 x6_2 a0_0 l0_1 = some (r1, r2)) ∧ Aside0 (kq ≤ kj3) ∧ Aside0 (Kd.R (Kd.int .u8) 5 w' w.heap.size (fun _ => True) v5 x5_2) ∧ Aside0 (w'.heap[gb228]? = some (.cells #[.bool a0_0, (.slice A0_1 l0_1.length c0_1)] 56 (0, 0))) ∧ Aside0 (Below w.heap.size w w'))
        case atStart => exact ⟨(x5_3), (0), (by first | rfl | (simp; done) | (simp [*]; done)), H', ⟨Nat.le_refl _⟩, ⟨by (with_reducible repeat (first | apply Kd.R_alloc | apply Kd.R_drewN | apply Kd.R_drew)); exact HO_5.out⟩, ⟨by (with_reducible repeat (first | refine blk_drewN ?_ _ | refine blk_drew ?_ | refine blk_alloc ?_ _)); exact BK228.out⟩, ⟨by repeat (first | (with_reducible first | exact HB.out | apply below_alloc | apply pw_below_drewN | apply below_drew1 | refine below_set ?_ GE228.out) | exact HB.out)⟩⟩
        case round =>
          clear H'
          try clear c1
          try clear c2
          try clear p2
          try clear c3
          try clear c12
          try clear hcz11_0
          try clear hcz11_1
          try clear hcz13_0
          try clear hcz13_1
          try clear hcz6_0
          try clear hcz6_1
          try clear hcz8_0
          try clear hcz8_1
          try clear hfz11_0
          try clear hfz11_1
          try clear hfz13_0
          try clear hfz13_1
          try clear hfz6_0
          try clear hfz6_1
          try clear hfz8_0
          try clear hfz8_1
          try clear p2
          obtain ⟨x5_2, x6_2, rfl, HA, HK2, HO_5, BK228, HB⟩ := hrel
          cases gk with
          | zero => exact absurd HA.out (by simp [assartref04_Print.l0])
          | succ k2 =>
            have H := HA.out
            clear HA
            simp only [assartref04_Print.l0] at H
            by_cases c16 : x6_2 < (l0_1.length : Int)
            · rw [if_pos c16] at H
              have c16b0 : decide (x6_2 < (l0_1.length : Int)) = true := decide_eq_true c16
              clear c16
              by_cases c17 : 0 ≤ x6_2
              · rw [if_pos c17] at H
                have c17b0 : decide (0 ≤ x6_2) = true := decide_eq_true c17
                clear c17
                replace H := Option.bind_eq_some_iff.mp H
                obtain ⟨t237, A180, H⟩ := H
                replace H : (if x5_2.length + t237.length < 140737488355328 then ((some (x5_2 ++ t237 : List Int)).bind fun y240 => ((assartref01_Put.f k2 ((rd_T78 l0_1 x6_2).f1) 4).bind fun t244 => (if y240.length + t244.length < 140737488355328 then (assartref04_Print.l0 k2 (y240 ++ t244) (wrap64 (x6_2 + 1)) a0_0 l0_1) else (none)))) else (none)) = some (r1, r2) := H
                have A18 := Aside0.mk A180
                clear A180
                by_cases c19 : x5_2.length + t237.length < 140737488355328
                · rw [if_pos c19] at H
                  have LMc19 := Aside0.mk c19
                  clear c19
                  obtain ⟨y240, hy240⟩ : ∃ y_ : List Int, y_ = (x5_2 ++ t237) := ⟨_, rfl⟩
                  replace H : ((assartref01_Put.f k2 ((rd_T78 l0_1 x6_2).f1) 4).bind fun t244 => (if y240.length + t244.length < 140737488355328 then (assartref04_Print.l0 k2 (y240 ++ t244) (wrap64 (x6_2 + 1)) a0_0 l0_1) else (none))) = some (r1, r2) := by first | (rw [hy240]; with_reducible exact H) | (have H2_ := (Option.bind_some _ _).symm.trans H; rw [hy240]; with_reducible exact H2_) | (have H2_ := (Option.bind_some _ _).symm.trans H; with_reducible exact H2_) | with_reducible exact H | (rw [hy240]; exact H) | exact H
                  have Ny240 := Aside0.mk hy240
                  clear hy240
                  replace H := Option.bind_eq_some_iff.mp H
                  obtain ⟨t244, A200, H⟩ := H
                  replace H : (if y240.length + t244.length < 140737488355328 then (assartref04_Print.l0 k2 (y240 ++ t244) (wrap64 (x6_2 + 1)) a0_0 l0_1) else (none)) = some (r1, r2) := H
                  have A20 := Aside0.mk A200
                  clear A200
                  by_cases c21 : y240.length + t244.length < 140737488355328
                  · rw [if_pos c21] at H
                    have LMc21 := Aside0.mk c21
                    clear c21
                    obtain ⟨y247, hy247⟩ : ∃ y_ : List Int, y_ = (y240 ++ t244) := ⟨_, rfl⟩
                    replace H : (assartref04_Print.l0 k2 y247 (wrap64 (x6_2 + 1)) a0_0 l0_1) = some (r1, r2) := by first | (rw [hy247]; with_reducible exact H) | (have H2_ := (Option.bind_some _ _).symm.trans H; rw [hy247]; with_reducible exact H2_) | (have H2_ := (Option.bind_some _ _).symm.trans H; with_reducible exact H2_) | with_reducible exact H | (rw [hy247]; exact H) | exact H
                    have Ny247 := Aside0.mk hy247
                    clear hy247
                    have H' := Aside0.mk H
                    clear H
                    have hcz22_0 : wr.cell? ⟨gb228, 0, none⟩ = some (.bool a0_0) := (blk_cell BK228.out 0).trans rfl
                    have hcz22_1 : wr.cell? ⟨gb228, 1, none⟩ = some (.slice A0_1 l0_1.length c0_1) := (blk_cell BK228.out 1).trans rfl
                    have hfz22_0 := blk_frozen BK228.out 0
                    have hfz22_1 := blk_frozen BK228.out 1
                    have p236 : 0 ≤ (x6_2 : Int) := of_decide_eq_true (by first | (with_reducible assumption) | assumption)
                    have q236 : x6_2 < (l0_1.length : Int) := of_decide_eq_true (by first | (with_reducible assumption) | assumption)
                    obtain ⟨ad236, e236, hx236_0, hx236_1⟩ := at_T78 HR0_1.out x6_2 p236 q236
                    cases e236
                    replace hx236_0 := (HB.out.cell (World.block_lt_of_cell? w _ hx236_0)).trans hx236_0
                    replace hx236_1 := (HB.out.cell (World.block_lt_of_cell? w _ hx236_1)).trans hx236_1
                    replace p236 := eq_true p236
                    replace q236 := eq_true q236
                    go_wp2_with (first | ((with_reducible refine gate_callee (f := 45) rfl ?_); refine goesL_ (some 37) rfl rfl Try.func45 (by kernel_rfl) rfl #[.int .i64 ((rd_T78 l0_1 x6_2).f0), .int .i64 4] rfl (by (try simp only [List.map_toArray, List.map_cons, List.map_nil]); first | done | rfl | (simp only [List.length_drop, List.length_take]; rfl)) ?_; (with_reducible refine (assartref01_Put.calls k2 ((rd_T78 l0_1 x6_2).f0) 4 t237 _ A18.out).mono ?_); rintro e w23 ⟨v238, rfl, ho0, hb⟩; refine ⟨_, rfl, ?_⟩; have n0_ := Aside0.mk (Kd.R_elder' (by (with_reducible repeat (first | apply Kd.R_alloc | apply Kd.R_drewN | apply Kd.R_drew)); exact HO_5.out) (Kd.R_base ho0) hb); have n1_ := Aside0.mk (Kd.R_lower (Kd.R_new' ho0 (Kd.R_lt (by (with_reducible repeat (first | apply Kd.R_alloc | apply Kd.R_drewN | apply Kd.R_drew)); exact HO_5.out))) (below_size (by repeat (first | (with_reducible first | exact HB.out | apply below_alloc | apply pw_below_drewN | apply below_drew1 | refine below_set ?_ GE228.out) | exact HB.out)))); have n2_ := Aside0.mk (blk_below (g := gb228) (o := .cells #[.bool a0_0, .slice (some ad236) l0_1.length c0_1] 56 (0, 0)) (by (with_reducible repeat (first | refine blk_drewN ?_ _ | refine blk_drew ?_ | refine blk_alloc ?_ _)); exact BK228.out) hb); have n3_ := Aside0.mk (below_step (by repeat (first | (with_reducible first | exact HB.out | apply below_alloc | apply pw_below_drewN | apply below_drew1 | refine below_set ?_ GE228.out) | exact HB.out)) hb); clear HO_5; clear BK228; clear HB; have HO_5 := n0_; have HO239 := n1_; have BK228 := n2_; have HB := n3_; clear n0_ n1_ n2_ n3_; (try clear hb); (try clear hb2); (try clear hk); (try clear hi); (try clear ho0); obtain ⟨Ao25, co25, eo25⟩ := Kd.R_slice HO239.out; subst eo25) | ((with_reducible refine gate_builtin (b := .append) (xs := #[.tmp 30, .tmp 37]) rfl ?_); at_builtin; refine Kd.R_append_rows (Kd.int .u8) (w0 := w) w.heap.size rfl (.tmp 30) (.tmp 37) 24 5 (.int .u8 0) 1 rfl Try.underlying24 info5 rfl (by decide) (by omega) u5 x5_2 t237 _ _ _ (fun k_ => some k_ ≠ (.slice Ao25 t237.length co25 : Value).ownBlock) (fun _ => False) rfl rfl ?aO ?aR (fun _ _ h => h) (fun _ h => h.elim) ?aF ?aB ?aS ?aL ?_; (case aR => repeat (first | exact (Kd.R_reads' HO239.out).2.2 | (with_reducible refine Kd.C_alloc ?_ _) | (with_reducible refine Kd.C_drewN ?_ _) | (with_reducible refine Kd.C_drew ?_))); (case aB => exact (by repeat (first | (with_reducible first | exact HB.out | apply below_alloc | apply pw_below_drewN | apply below_drew1 | refine below_set ?_ GE228.out) | exact HB.out))); (case aF => exact (fun k_ hk => Kd.fresh' (Kd.R_lt (by (with_reducible repeat (first | apply Kd.R_alloc | apply Kd.R_drewN | apply Kd.R_drew)); exact HO239.out)) k_ hk)); (case aO => exact (by (with_reducible repeat (first | apply Kd.R_alloc | apply Kd.R_drewN | apply Kd.R_drew)); exact Kd.R_mono HO_5.out (fun _ hk => hk.2))); (case aS => exact (below_size (by repeat (first | (with_reducible first | exact HB.out | apply below_alloc | apply pw_below_drewN | apply below_drew1 | refine below_set ?_ GE228.out) | exact HB.out)))); (case aL => have := LMc19.out; omega); intro v241 w24 ho hb hg hat; rw [← Ny240.out] at ho; have n0_ := Aside0.mk (blk_grown (g := gb228) (o := .cells #[.bool a0_0, .slice (some ad236) l0_1.length c0_1] 56 (0, 0)) (by (with_reducible repeat (first | refine blk_drewN ?_ _ | refine blk_drew ?_ | refine blk_alloc ?_ _)); exact BK228.out) hg (Kd.R_ne HO_5.out BK228.out (by decide))); have n1_ := Aside0.mk (Kd.R_after (ok := (fun _ => True)) (by (with_reducible repeat (first | apply Kd.R_alloc | apply Kd.R_drewN | apply Kd.R_drew)); exact HO239.out) hg hat); have n2_ := Aside0.mk (hb); have n3_ := Aside0.mk (ho); clear BK228; clear HO239; clear HB; clear HO_5; have BK228 := n0_; have HO239 := n1_; have HB := n2_; have HO242 := n3_; clear n0_ n1_ n2_ n3_; clear ho hb hg hat; have hcz26_0 : w24.cell? ⟨gb228, 0, none⟩ = some (.bool a0_0) := (blk_cell BK228.out 0).trans rfl; have hcz26_1 : w24.cell? ⟨gb228, 1, none⟩ = some (.slice (some ad236) l0_1.length c0_1) := (blk_cell BK228.out 1).trans rfl; have hfz26_0 := blk_frozen BK228.out 0; have hfz26_1 := blk_frozen BK228.out 1; have p243 : 0 ≤ (x6_2 : Int) := of_decide_eq_true (by first | (with_reducible assumption) | assumption); have q243 : x6_2 < (l0_1.length : Int) := of_decide_eq_true (by first | (with_reducible assumption) | assumption); obtain ⟨ad243, e243, hx243_0, hx243_1⟩ := at_T78 HR0_1.out x6_2 p243 q243; obtain rfl : ad236 = ad243 := (by injection e243); replace hx243_0 := (HB.out.cell (World.block_lt_of_cell? w _ hx243_0)).trans hx243_0; replace hx243_1 := (HB.out.cell (World.block_lt_of_cell? w _ hx243_1)).trans hx243_1; replace p243 := eq_true p243; replace q243 := eq_true q243) | ((with_reducible refine gate_callee (f := 45) rfl ?_); refine goesL_ (some 46) rfl rfl Try.func45 (by kernel_rfl) rfl #[.int .i64 ((rd_T78 l0_1 x6_2).f1), .int .i64 4] rfl (by (try simp only [List.map_toArray, List.map_cons, List.map_nil]); first | done | rfl | (simp only [List.length_drop, List.length_take]; rfl)) ?_; (with_reducible refine (assartref01_Put.calls k2 ((rd_T78 l0_1 x6_2).f1) 4 t244 _ A20.out).mono ?_); rintro e w27 ⟨v245, rfl, ho0, hb⟩; refine ⟨_, rfl, ?_⟩; have n0_ := Aside0.mk (Kd.R_elder' (by (with_reducible repeat (first | apply Kd.R_alloc | apply Kd.R_drewN | apply Kd.R_drew)); exact HO239.out) (Kd.R_base ho0) hb); have n1_ := Aside0.mk (Kd.R_elder' (by (with_reducible repeat (first | apply Kd.R_alloc | apply Kd.R_drewN | apply Kd.R_drew)); exact HO242.out) (Kd.R_base ho0) hb); have n2_ := Aside0.mk (Kd.R_lower (Kd.R_new' (Kd.R_new' ho0 (Kd.R_lt (by (with_reducible repeat (first | apply Kd.R_alloc | apply Kd.R_drewN | apply Kd.R_drew)); exact HO239.out))) (Kd.R_lt (by (with_reducible repeat (first | apply Kd.R_alloc | apply Kd.R_drewN | apply Kd.R_drew)); exact HO242.out))) (below_size (by repeat (first | (with_reducible first | exact HB.out | apply below_alloc | apply pw_below_drewN | apply below_drew1 | refine below_set ?_ GE228.out) | exact HB.out)))); have n3_ := Aside0.mk (blk_below (g := gb228) (o := .cells #[.bool a0_0, .slice (some ad236) l0_1.length c0_1] 56 (0, 0)) (by (with_reducible repeat (first | refine blk_drewN ?_ _ | refine blk_drew ?_ | refine blk_alloc ?_ _)); exact BK228.out) hb); have n4_ := Aside0.mk (below_step (by repeat (first | (with_reducible first | exact HB.out | apply below_alloc | apply pw_below_drewN | apply below_drew1 | refine below_set ?_ GE228.out) | exact HB.out)) hb); clear HO239; clear HO242; clear BK228; clear HB; have HO239 := n0_; have HO242 := n1_; have HO246 := n2_; have BK228 := n3_; have HB := n4_; clear n0_ n1_ n2_ n3_ n4_; (try clear hb); (try clear hb2); (try clear hk); (try clear hi); (try clear ho0); obtain ⟨Ao29, co29, eo29⟩ := Kd.R_slice HO246.out; subst eo29) | ((with_reducible refine gate_builtin (b := .append) (xs := #[.tmp 39, .tmp 46]) rfl ?_); at_builtin; refine Kd.R_append_rows (Kd.int .u8) (w0 := w) w.heap.size rfl (.tmp 39) (.tmp 46) 24 5 (.int .u8 0) 1 rfl Try.underlying24 info5 rfl (by decide) (by omega) v241 y240 t244 _ _ _ (fun k_ => some k_ ≠ (.slice Ao25 t237.length co25 : Value).ownBlock ∧ some k_ ≠ (.slice Ao29 t244.length co29 : Value).ownBlock) (fun _ => False) rfl rfl ?aO ?aR (fun _ _ h => h) (fun _ h => h.elim) ?aF ?aB ?aS ?aL ?_; (case aR => repeat (first | exact (Kd.R_reads' HO246.out).2.2 | (with_reducible refine Kd.C_alloc ?_ _) | (with_reducible refine Kd.C_drewN ?_ _) | (with_reducible refine Kd.C_drew ?_))); (case aB => exact (by repeat (first | (with_reducible first | exact HB.out | apply below_alloc | apply pw_below_drewN | apply below_drew1 | refine below_set ?_ GE228.out) | exact HB.out))); (case aF => exact (fun k_ hk => ⟨Kd.fresh' (Kd.R_lt (by (with_reducible repeat (first | apply Kd.R_alloc | apply Kd.R_drewN | apply Kd.R_drew)); exact HO239.out)) k_ hk, Kd.fresh' (Kd.R_lt (by (with_reducible repeat (first | apply Kd.R_alloc | apply Kd.R_drewN | apply Kd.R_drew)); exact HO246.out)) k_ hk⟩)); (case aO => exact (by (with_reducible repeat (first | apply Kd.R_alloc | apply Kd.R_drewN | apply Kd.R_drew)); exact HO242.out)); (case aS => exact (below_size (by repeat (first | (with_reducible first | exact HB.out | apply below_alloc | apply pw_below_drewN | apply below_drew1 | refine below_set ?_ GE228.out) | exact HB.out)))); (case aL => have := LMc21.out; omega); intro v248 w28 ho hb hg hat; rw [← Ny247.out] at ho; have n0_ := Aside0.mk (blk_grown (g := gb228) (o := .cells #[.bool a0_0, .slice (some ad236) l0_1.length c0_1] 56 (0, 0)) (by (with_reducible repeat (first | refine blk_drewN ?_ _ | refine blk_drew ?_ | refine blk_alloc ?_ _)); exact BK228.out) hg (Kd.R_ne HO242.out BK228.out (by decide))); have n1_ := Aside0.mk (Kd.R_after (ok := (fun k_ => some k_ ≠ (.slice Ao29 t244.length co29 : Value).ownBlock)) (by (with_reducible repeat (first | apply Kd.R_alloc | apply Kd.R_drewN | apply Kd.R_drew)); exact Kd.R_mono HO239.out (fun _ hk => ⟨hk.2, hk.1.2⟩)) hg hat); have n2_ := Aside0.mk (Kd.R_after (ok := (fun k_ => some k_ ≠ (.slice Ao25 t237.length co25 : Value).ownBlock)) (by (with_reducible repeat (first | apply Kd.R_alloc | apply Kd.R_drewN | apply Kd.R_drew)); exact Kd.R_mono HO246.out (fun _ hk => ⟨hk.1.2, hk.2⟩)) hg hat); have n3_ := Aside0.mk (hb); have n4_ := Aside0.mk (ho); clear BK228; clear HO239; clear HO246; clear HB; clear HO242; have BK228 := n0_; have HO239 := n1_; have HO246 := n2_; have HB := n3_; have HO249 := n4_; clear n0_ n1_ n2_ n3_ n4_; clear ho hb hg hat))
                    go_roundg k2
                    case measure => have := HJ3.out; have := HK2.out; omega
                    case rel => exact ⟨(y247), (wrap64 (x6_2 + 1)), (by first | rfl | (simp; done) | (simp [*]; done)), H', ⟨by have := HJ3.out; have := HK2.out; omega⟩, ⟨by (with_reducible repeat (first | apply Kd.R_alloc | apply Kd.R_drewN | apply Kd.R_drew)); exact Kd.R_mono HO249.out (fun _ hk => trivial)⟩, ⟨by (with_reducible repeat (first | refine blk_drewN ?_ _ | refine blk_drew ?_ | refine blk_alloc ?_ _)); exact BK228.out⟩, ⟨by repeat (first | (with_reducible first | exact HB.out | apply below_alloc | apply pw_below_drewN | apply below_drew1 | refine below_set ?_ GE228.out) | exact HB.out)⟩⟩
                  · rw [if_neg c21] at H
                    exact absurd H (by simp)
                · rw [if_neg c19] at H
                  exact absurd H (by simp)
              · rw [if_neg c17] at H
                exact absurd H (by simp)
            · rw [if_neg c16] at H
              have c16b0 : decide (x6_2 < (l0_1.length : Int)) = false := decide_eq_false c16
              clear c16
              replace H := Option.bind_eq_some_iff.mp H
              obtain ⟨⟨t250, t251⟩, A300, H⟩ := H
              replace H : (some (t250, t251)) = some (r1, r2) := H
              have A30 := Aside0.mk A300
              clear A300
              simp only [Option.some.injEq, Prod.mk.injEq] at H
              obtain ⟨rfl, rfl⟩ := H
              have hcz31_0 : wr.cell? ⟨gb228, 0, none⟩ = some (.bool a0_0) := (blk_cell BK228.out 0).trans rfl
              have hcz31_1 : wr.cell? ⟨gb228, 1, none⟩ = some (.slice A0_1 l0_1.length c0_1) := (blk_cell BK228.out 1).trans rfl
              have hfz31_0 := blk_frozen BK228.out 0
              have hfz31_1 := blk_frozen BK228.out 1
              obtain ⟨Ao32, co32, eo32⟩ := Kd.R_slice HO_5.out
              subst eo32
              go_wp2_with (first | ((with_reducible refine gate_callee (f := 46) rfl ?_); refine goesL_ (some 49) rfl rfl Try.func46 (by kernel_rfl) rfl #[.slice Ao32 x5_2.length co32] rfl (by (try simp only [List.map_toArray, List.map_cons, List.map_nil]); first | done | rfl | (simp only [List.length_drop, List.length_take]; rfl)) ?_; (with_reducible refine (assartref01_Seal.calls k2 _ _ x5_2 t250 t251 _ ?side1 ?side2 A30.out).mono ?_); (case side1 => repeat (first | exact (Kd.R_reads' HO_5.out).2.2 | (with_reducible refine Kd.C_alloc ?_ _) | (with_reducible refine Kd.C_drewN ?_ _) | (with_reducible refine Kd.C_drew ?_))); (case side2 => exact (Kd.R_reads' HO_5.out).2.1); rintro e w33 ⟨rfl, hb⟩; refine ⟨_, rfl, ?_⟩; have n0_ := Aside0.mk (Kd.R_below (by (with_reducible repeat (first | apply Kd.R_alloc | apply Kd.R_drewN | apply Kd.R_drew)); exact HO_5.out) hb); have n1_ := Aside0.mk (blk_below (g := gb228) (o := .cells #[.bool a0_0, .slice A0_1 l0_1.length c0_1] 56 (0, 0)) (by (with_reducible repeat (first | refine blk_drewN ?_ _ | refine blk_drew ?_ | refine blk_alloc ?_ _)); exact BK228.out) hb); have n2_ := Aside0.mk (below_step (by repeat (first | (with_reducible first | exact HB.out | apply below_alloc | apply pw_below_drewN | apply below_drew1 | refine below_set ?_ GE228.out) | exact HB.out)) hb); clear HO_5; clear BK228; clear HB; have HO_5 := n0_; have BK228 := n1_; have HB := n2_; clear n0_ n1_ n2_; (try clear hb); (try clear hb2); (try clear hk); (try clear hi)))
              go_ret2
              exact ⟨by first | rfl | (simp [errW_none, errW_some] <;> rfl) | (simp [*, errW_none, errW_some] <;> rfl), by repeat (first | (with_reducible first | exact HB.out | apply below_alloc | apply pw_below_drewN | apply below_drew1 | refine below_set ?_ GE228.out) | exact HB.out)⟩
  · replace c3 := Bool.eq_false_iff.mpr c3
    subst c3
    have H1 : (some ((⟨#[]⟩ : ByteArray), 1)) = some (r1, r2) := by rw [if_neg (show ¬ (false = true) by decide)] at H; exact H
    clear H
    have H := H1
    clear H1
    simp only [Option.some.injEq, Prod.mk.injEq] at H
    obtain ⟨rfl, rfl⟩ := H
    go_enter Try.func28, Try.ntmps28
    go_wp2_with (first | ((with_reducible refine gate_dst (N := 1) rfl ?_); refine box_event ?hg (N := 1) ?hd (cs := #[.bool a0_0, .slice A0_1 l0_1.length c0_1]) (t := 56) ?hr ?_; (case hd => rfl); (case hg => rfl); (case hr => first | (go_simp; done) | (go_simp; rfl)); intro gb228 hg w34 hbox hb; have n0_ := Aside0.mk (below_step (by repeat (first | (with_reducible first | exact HB.out | apply below_alloc | apply pw_below_drewN | apply below_drew1) | exact HB.out)) hb); have n1_ := Aside0.mk (hbox); have n2_ := Aside0.mk ((by rw [hg]; exact (below_size (by repeat (first | (with_reducible first | exact HB.out | apply below_alloc | apply pw_below_drewN | apply below_drew1) | exact HB.out))) : w.heap.size ≤ gb228)); have n3_ := Aside0.mk ((by rw [hg]; exact (below_size (by repeat (first | (with_reducible first | exact HB.out | apply below_alloc | apply pw_below_drewN | apply below_drew1) | exact HB.out))) : w.heap.size ≤ gb228)); clear HB; have HB := n0_; have BK228 := n1_; have GW228 := n2_; have GE228 := n3_; clear n0_ n1_ n2_ n3_; clear hb hbox hg; have hcz35_0 : w34.cell? ⟨gb228, 0, none⟩ = some (.bool a0_0) := (blk_cell BK228.out 0).trans rfl; have hcz35_1 : w34.cell? ⟨gb228, 1, none⟩ = some (.slice A0_1 l0_1.length c0_1) := (blk_cell BK228.out 1).trans rfl; have hfz35_0 := blk_frozen BK228.out 0; have hfz35_1 := blk_frozen BK228.out 1) | ((with_reducible refine gate_callee (f := 31) rfl ?_); refine goesL_ (some 8) rfl rfl Try.func31 (by kernel_rfl) rfl #[.agg #[.bool a0_0, .slice A0_1 l0_1.length c0_1]] rfl (by (try simp only [List.map_toArray, List.map_cons, List.map_nil]); first | done | rfl | (simp only [List.length_drop, List.length_take]; rfl)) ?_; (with_reducible refine (assartref04_Right.calls k a0_0 _ _ l0_1 false _ ?side1 ?side2 A2.out).mono ?_); (case side1 => repeat (first | exact (Kd.C_below HR0_1.out HB.out) | (with_reducible refine Kd.C_alloc ?_ _) | (with_reducible refine Kd.C_drewN ?_ _) | (with_reducible refine Kd.C_drew ?_))); (case side2 => exact HC0_1.out); rintro e w36 ⟨rfl, hb⟩; refine ⟨_, rfl, ?_⟩; have n0_ := Aside0.mk (blk_below (g := gb228) (o := .cells #[.bool a0_0, .slice A0_1 l0_1.length c0_1] 56 (0, 0)) (by (with_reducible repeat (first | refine blk_drewN ?_ _ | refine blk_drew ?_ | refine blk_alloc ?_ _)); exact BK228.out) hb); have n1_ := Aside0.mk (below_step (by repeat (first | (with_reducible first | exact HB.out | apply below_alloc | apply pw_below_drewN | apply below_drew1 | refine below_set ?_ GE228.out) | exact HB.out)) hb); clear BK228; clear HB; have BK228 := n0_; have HB := n1_; clear n0_ n1_; (try clear hb); (try clear hb2); (try clear hk); (try clear hi)))
    go_ret2
    exact ⟨by first | rfl | (simp [errW_none, errW_some] <;> rfl) | (simp [*, errW_none, errW_some] <;> rfl), by repeat (first | (with_reducible first | exact HB.out | apply below_alloc | apply pw_below_drewN | apply below_drew1 | refine below_set ?_ GE228.out) | exact HB.out)⟩

end Go.Proofs.Ythjnkapkhphpeaa.P
end
section
namespace Go.Proofs.Ythjnkapkhphpeaa.P
open Go.RowKit Go.Proofs.YthjnkapkhphpeaaW.PrintWords Go.Proofs.YthjnkapkhphpeaaW.PrintLast Go.Proofs.YthjnkapkhphpeaaW.PrintMore
set_option linter.unusedVariables false
set_option linter.unusedSimpArgs false
def assartref01_Open.f (a0 : ByteArray) : Option (List Int × Int) := num_Open.f a0
set_option maxHeartbeats 4000000 in
set_option maxRecDepth 100000 in
theorem assartref01_Open.calls (a0 : ByteArray) (r1 : List Int) (r2 : Int) (w : World) (h : assartref01_Open.f a0 = some (r1, r2)) :
    Calls Try.prog 50 #[.string a0] w fun e w' => ∃ v0_ : Value, e = .returned (.tuple #[v0_, .int .i64 r2]) ∧ Kd.V (Kd.int .u8) 5 w' w.heap.size (fun k_ => w.heap.size ≤ k_) v0_ r1 ∧ Below w.heap.size w w' := by
  have HH := Aside0.mk h
  clear h
  by_cases h40 : a0.size = 40
  · have hb : (bytesOf a0).length = 40 := by rw [bytesOf_length]; exact h40
    have h40b : ((a0.size : Int) != 40) = false := by rw [h40]; rfl
    go_enter Try.func50, Try.ntmps50
    go_wp2_with ((with_reducible refine gate_dst (N := 12) rfl ?_); refine V_conv (w0 := w) w.heap.size rfl 9 24 5 (.tmp 11) rfl a0 rfl Try.underlying9 Try.underlying24 Try.underlying5 (by omega) (Below.refl _ _) (Nat.le_refl _) ?_)
    intro v1 w1 hV hB hg
    clear hg
    obtain ⟨A1, c1, rfl, hc1, hF⟩ := hV
    have HF := Aside0.mk hF
    have HB := Aside0.mk hB
    clear hF hB
    rw [hb] at hc1
    have HC := Aside0.mk (Kd.F_now HF.out)
    have hbd := bytesOf_bd a0
    have htk := assartref01_Take.calls 6 A1 c1 (bytesOf a0) 36 4 _ _ _ w1 HC.out (by omega) (refTake_val 0 _ 36 4 (by omega) hbd (by omega) (by omega) (by omega) (by omega))
    obtain ⟨x, hx⟩ : ∃ x, lev (bytesOf a0) 36 4 = x := ⟨_, rfl⟩
    rw [hx] at htk
    have HX := Aside0.mk hx
    clear hx hbd
    rw [hb]
    rw [hb] at htk
    go_wp2_with fail
    refine htk.mono ?_
    rintro e w2 ⟨rfl, ⟨nd, rfl⟩⟩
    clear htk
    have hlt : ((bytesOf a0).take 36).length = 36 := by rw [List.length_take, hb]; rfl
    have hsm := assartref01_Sum.calls 400 A1 c1 ((bytesOf a0).take 36) _ (w1.drewN nd) (Kd.C_drewN (Kd.C_take HC.out (by omega)) nd) (by omega) (refSum_val _ (by omega) (fun x hx => bytesOf_bd a0 x (List.mem_of_mem_take hx)) 400 (by omega))
    rw [hlt] at hsm
    obtain ⟨y, hy⟩ : ∃ y, crc ((bytesOf a0).take 36) = y := ⟨_, rfl⟩
    have HY := Aside0.mk hy
    have hsm' : Calls Try.prog 53 #[.slice A1 36 c1] (w1.drewN nd) fun e w' => e = .returned (.int .i64 y) ∧ Drawn0 (w1.drewN nd) w' := by rw [← hy]; exact hsm
    clear hsm hy hlt hb
    go_wp2_with fail
    refine hsm'.mono ?_
    rintro e w2 ⟨rfl, ⟨nd2, rfl⟩⟩
    clear hsm'
    by_cases hxy : x = y
    · have hxb : (x != y) = false := by rw [hxy]; simp
      have HXY := Aside0.mk hxy
      clear hxy
      go_wp2
      have H := HH.out
      have hb : (bytesOf a0).length = 40 := by rw [bytesOf_length]; exact h40
      have hlt : ((bytesOf a0).take 36).length = 36 := by rw [List.length_take, hb]; rfl
      have hns : isSealed (bytesOf a0) = true := by simp [isSealed, HX.out, HY.out, HXY.out, hb]
      simp only [assartref01_Open.f, num_Open.f, hns, if_true, Option.some.injEq, Prod.mk.injEq] at H
      obtain ⟨rfl, rfl⟩ := H
      have hV : Kd.V (Kd.int .u8) 5 w1 w.heap.size (fun k_ => w.heap.size ≤ k_) (.slice A1 ((bytesOf a0).take 36).length c1) ((bytesOf a0).take 36) := Kd.V_mk (by omega) (Kd.F_take HF.out (by omega))
      rw [hlt] at hV
      go_ret2
      exact ⟨_, rfl, Kd.V_drewN hV _, pw_below_drewN HB.out _⟩
    · have hxb : (x != y) = true := by rw [bne_iff_ne]; exact hxy
      have HXY := Aside0.mk hxy
      clear hxy
      go_wp2
      have H := HH.out
      have hns : isSealed (bytesOf a0) = false := by simp [isSealed, HX.out, HY.out, HXY.out]
      simp only [assartref01_Open.f, num_Open.f, hns, Bool.false_eq_true, if_false, Option.some.injEq, Prod.mk.injEq] at H
      obtain ⟨rfl, rfl⟩ := H
      go_ret2
      exact ⟨_, rfl, Kd.V_nil _ _ _ _ _, pw_below_drewN HB.out _⟩
  · have h40b : ((a0.size : Int) != 40) = true := by rw [bne_iff_ne]; omega
    go_enter Try.func50, Try.ntmps50
    go_wp2
    have H := HH.out
    have hns : isSealed (bytesOf a0) = false := by simp [isSealed, bytesOf_length, h40]
    simp only [assartref01_Open.f, num_Open.f, hns, Bool.false_eq_true, if_false, Option.some.injEq, Prod.mk.injEq] at H
    obtain ⟨rfl, rfl⟩ := H
    go_ret2
    exact ⟨_, rfl, Kd.V_nil _ _ _ _ _, Below.refl _ _⟩
end Go.Proofs.Ythjnkapkhphpeaa.P
end
section
namespace Go.Proofs.Ythjnkapkhphpeaa.P
open Go.RowKit Go.Proofs.YthjnkapkhphpeaaW.PrintWords Go.Proofs.YthjnkapkhphpeaaW.PrintLast Go.Proofs.YthjnkapkhphpeaaW.PrintMore
attribute [local go_sem] max2_int min2_int max_two min_two max_three min_three max_four min_four
set_option linter.unusedVariables false
set_option linter.unusedSimpArgs false

/-! ### assartref04_Parse: function 30 -/
mutual
def assartref04_Parse.j0 : Nat → ByteArray → List Int → Bool → Option (Bool × (List (S78)) × Int)
  | 0, _, _, _ => none
  | k + 1, x0, x4, x28 => if x28 = true then (some (false, ([] : List (S78)), 2)) else (if 0 < (x4.length : Int) then (assartref04_Parse.l0 k x0 x4 0 ((rd x4 0) == 1) ([] : List (S78))) else (none))
def assartref04_Parse.l0 : Nat → ByteArray → List Int → Int → Bool → List (S78) → Option (Bool × (List (S78)) × Int)
  | 0, _, _, _, _, _ => none
  | k + 1, x0, x4, x7, x261000, x261001 => if 1 < (x4.length : Int) then (if x7 < (wrap64 (rd x4 1)) then ((assartref01_Take.f k x4 (wrap64 (2 + (wrap64 (8 * x7)))) 4).bind fun bt262 => ((assartref01_Take.f k x4 (wrap64 (6 + (wrap64 (8 * x7)))) 4).bind fun bt265 => (if x261001.length < 8796093022208 then (assartref04_Parse.l0 k x0 x4 (wrap64 (x7 + 1)) x261000 (x261001 ++ [(⟨bt262.1, bt265.1⟩ : S78)])) else (none)))) else ((assartref04_Print.f k x261000 x261001).bind fun bt271 => (if bt271.2 = 0 then (if bt271.1.toList = x0.toList then (some (x261000, x261001, 0)) else (some (false, ([] : List (S78)), 2))) else (some (false, ([] : List (S78)), 2))))) else (none)
end
def assartref04_Parse.f (k : Nat) (a0 : ByteArray) : Option (Bool × (List (S78)) × Int) := (assartref01_Open.f a0).bind fun bt254 => (if bt254.2 = 0 then (if 1 < (bt254.1.length : Int) then (assartref04_Parse.j0 k a0 bt254.1 (decide ((rd bt254.1 1) > 4))) else (none)) else (assartref04_Parse.j0 k a0 bt254.1 true))
theorem assartref04_Parse.mono_l : ∀ k, (∀ y0 y1 y2, LeO (assartref04_Parse.j0 k y0 y1 y2) (assartref04_Parse.j0 (k + 1) y0 y1 y2)) ∧ (∀ y0 y1 y2 y3 y4, LeO (assartref04_Parse.l0 k y0 y1 y2 y3 y4) (assartref04_Parse.l0 (k + 1) y0 y1 y2 y3 y4))
  | 0 => ⟨fun _ _ _ r h => by simp [assartref04_Parse.j0] at h, fun _ _ _ _ _ r h => by simp [assartref04_Parse.l0] at h⟩
  | k + 1 => by
    obtain ⟨ih0, ih1⟩ := assartref04_Parse.mono_l k
    refine ⟨?_, ?_⟩
    · intro y0 y1 y2
      unfold assartref04_Parse.j0
      repeat' first
      | (with_reducible exact ih0 _ _ _)
      | (with_reducible exact ih1 _ _ _ _ _)
      | (with_reducible exact assartref01_Take.mono _ _ _ _)
      | (with_reducible exact assartref04_Print.mono _ _ _)
      | (with_reducible exact LeO.refl _)
      | (with_reducible exact LeO.none _)
      | (with_reducible refine LeO.ite ?_ ?_)
      | (with_reducible refine LeO.bind ?_ (fun _ => ?_))
      | exact ih0 _ _ _
      | exact ih1 _ _ _ _ _
      | exact assartref01_Take.mono _ _ _ _
      | exact assartref04_Print.mono _ _ _
      | exact LeO.none _
      | refine LeO.ite ?_ ?_
      | refine LeO.bind ?_ (fun _ => ?_)
    · intro y0 y1 y2 y3 y4
      unfold assartref04_Parse.l0
      repeat' first
      | (with_reducible exact ih0 _ _ _)
      | (with_reducible exact ih1 _ _ _ _ _)
      | (with_reducible exact assartref01_Take.mono _ _ _ _)
      | (with_reducible exact assartref04_Print.mono _ _ _)
      | (with_reducible exact LeO.refl _)
      | (with_reducible exact LeO.none _)
      | (with_reducible refine LeO.ite ?_ ?_)
      | (with_reducible refine LeO.bind ?_ (fun _ => ?_))
      | exact ih0 _ _ _
      | exact ih1 _ _ _ _ _
      | exact assartref01_Take.mono _ _ _ _
      | exact assartref04_Print.mono _ _ _
      | exact LeO.none _
      | refine LeO.ite ?_ ?_
      | refine LeO.bind ?_ (fun _ => ?_)
theorem assartref04_Parse.mono : ∀ a0 k, LeO (assartref04_Parse.f k a0) (assartref04_Parse.f (k + 1) a0) := by
  intro a0 k
  obtain ⟨ih0, ih1⟩ := assartref04_Parse.mono_l k
  unfold assartref04_Parse.f
  repeat' first
      | (with_reducible exact ih0 _ _ _)
      | (with_reducible exact ih1 _ _ _ _ _)
      | (with_reducible exact assartref01_Take.mono _ _ _ _)
      | (with_reducible exact assartref04_Print.mono _ _ _)
      | (with_reducible exact LeO.refl _)
      | (with_reducible exact LeO.none _)
      | (with_reducible refine LeO.ite ?_ ?_)
      | (with_reducible refine LeO.bind ?_ (fun _ => ?_))
      | exact ih0 _ _ _
      | exact ih1 _ _ _ _ _
      | exact assartref01_Take.mono _ _ _ _
      | exact assartref04_Print.mono _ _ _
      | exact LeO.none _
      | refine LeO.ite ?_ ?_
      | refine LeO.bind ?_ (fun _ => ?_)
set_option maxHeartbeats 8000000 in
set_option maxRecDepth 100000 in
theorem assartref04_Parse.calls (k : Nat) (a0 : ByteArray) (r1 : Bool) (r2 : List (S78)) (r3 : Int) (w : World) (h : assartref04_Parse.f k a0 = some (r1, r2, r3)) :
    Calls Try.prog 30 #[.string a0] w fun e w' => ∃ v1_ : Value, e = .returned (.tuple #[.agg #[.bool r1, v1_], .int .i64 r3]) ∧ Kd.R k78 78 w' w.heap.size (fun _ => True) v1_ r2 ∧ Below w.heap.size w w' := by
  have hu56 := Try.underlying56
  have hu78 := Try.underlying78
  have HB := Aside0.mk (Below.refl w.heap.size w)
  have H : ((assartref01_Open.f a0).bind fun bt254 => (if bt254.2 = 0 then (if 1 < (bt254.1.length : Int) then (assartref04_Parse.j0 k a0 bt254.1 (decide ((rd bt254.1 1) > 4))) else (none)) else (assartref04_Parse.j0 k a0 bt254.1 true))) = some (r1, r2, r3) := h
  clear h
  replace H := Option.bind_eq_some_iff.mp H
  obtain ⟨⟨t254, t257⟩, A20, H⟩ := H
  replace H : (if t257 = 0 then (if 1 < (t254.length : Int) then (assartref04_Parse.j0 k a0 t254 (decide ((rd t254 1) > 4))) else (none)) else (assartref04_Parse.j0 k a0 t254 true)) = some (r1, r2, r3) := H
  have A2 := Aside0.mk A20
  clear A20
  have HC3 := Aside0.mk H
  clear H
  go_enter Try.func30, Try.ntmps30
  go_upto_region 2 with (first | ((with_reducible refine gate_dst (N := 2) rfl ?_); refine box_event ?hg (N := 2) ?hd (cs := #[.bool false, .slice none 0 0]) (t := 56) ?hr ?_; (case hd => rfl); (case hg => rfl); (case hr => first | (go_simp; done) | (go_simp; rfl)); intro gb253 hg w4 hbox hb; have n0_ := Aside0.mk (below_step (by repeat (first | (with_reducible first | exact HB.out | apply below_alloc | apply pw_below_drewN | apply below_drew1) | exact HB.out)) hb); have n1_ := Aside0.mk (hbox); have n2_ := Aside0.mk ((by rw [hg]; exact (below_size (by repeat (first | (with_reducible first | exact HB.out | apply below_alloc | apply pw_below_drewN | apply below_drew1) | exact HB.out))) : w.heap.size ≤ gb253)); have n3_ := Aside0.mk ((by rw [hg]; exact (below_size (by repeat (first | (with_reducible first | exact HB.out | apply below_alloc | apply pw_below_drewN | apply below_drew1) | exact HB.out))) : w.heap.size ≤ gb253)); clear HB; have HB := n0_; have BK253 := n1_; have GW253 := n2_; have GE253 := n3_; clear n0_ n1_ n2_ n3_; clear hb hbox hg) | ((with_reducible refine gate_callee (f := 50) rfl ?_); refine goesL_ (some 18) rfl rfl Try.func50 (by kernel_rfl) rfl #[.string a0] rfl (by (try simp only [List.map_toArray, List.map_cons, List.map_nil]); first | done | rfl | (simp only [List.length_drop, List.length_take]; rfl)) ?_; (with_reducible refine (assartref01_Open.calls a0 t254 t257 _ A2.out).mono ?_); rintro e w5 ⟨v255, rfl, ho0, hb⟩; refine ⟨_, rfl, ?_⟩; have n0_ := Aside0.mk (Kd.V_lower (Kd.V_mono (ok' := fun k_ => k_ ≠ gb253) ho0 (fun k_ hk_ => (Kd.freshB (g := gb253) (o := .cells #[.bool false, .slice none 0 0] 56 (0, 0)) (by (with_reducible repeat (first | refine blk_drewN ?_ _ | refine blk_drew ?_ | refine blk_alloc ?_ _)); exact BK253.out) k_ hk_))) (below_size (by repeat (first | (with_reducible first | exact HB.out | apply below_alloc | apply pw_below_drewN | apply below_drew1 | refine below_set ?_ GE253.out) | exact HB.out)))); have n1_ := Aside0.mk (blk_below (g := gb253) (o := .cells #[.bool false, .slice none 0 0] 56 (0, 0)) (by (with_reducible repeat (first | refine blk_drewN ?_ _ | refine blk_drew ?_ | refine blk_alloc ?_ _)); exact BK253.out) hb); have n2_ := Aside0.mk (below_step (by repeat (first | (with_reducible first | exact HB.out | apply below_alloc | apply pw_below_drewN | apply below_drew1 | refine below_set ?_ GE253.out) | exact HB.out)) hb); clear BK253; clear HB; have HO256 := n0_; have BK253 := n1_; have HB := n2_; clear n0_ n1_ n2_; (try clear hb); (try clear hb2); (try clear hk); (try clear hi); (try clear ho0)))
  (try simp only [Act.put, List.setIfInBounds_toArray, List.set_cons_zero, List.set_cons_succ])
  go_cut [28] (fun v28 wc => ∃ (kq : Nat) (x28_2 : Bool), v28 = .bool x28_2 ∧ Aside0 (assartref04_Parse.j0 kq a0 t254 x28_2 = some (r1, r2, r3)) ∧ Aside0 (kq ≤ k) ∧ Aside0 (Kd.V (Kd.int .u8) 5 wc w.heap.size (fun k_ => k_ ≠ gb253) v255 t254) ∧ Aside0 (wc.heap[gb253]? = some (.cells #[.bool false, (.slice none 0 0)] 56 (0, 0))) ∧ Aside0 (Below w.heap.size w wc))
  case first =>
    have H := HC3.out
    clear HC3
    by_cases c6 : t257 = 0
    · rw [if_pos c6] at H
      have c6b0 : (t257 == 0) = true := beq_iff_eq.mpr c6
      have c6b1 : (t257 != 0) = false := bne_eq_false_iff_eq.mpr c6
      clear c6
      (first | rw [c6b0] | (simp only [i64_w, i32_w]; rw [c6b0]) | skip)
      by_cases c7 : 1 < (t254.length : Int)
      · rw [if_pos c7] at H
        have c7b0 : decide (1 < (t254.length : Int)) = true := decide_eq_true c7
        have c7b1 : decide (1 < t254.length) = true := decide_eq_true (by omega)
        clear c7
        have H' := Aside0.mk H
        clear H
        obtain ⟨Ao8, co8, eo8⟩ := Kd.V_slice HO256.out
        subst eo8
        have p258 : 0 ≤ (1 : Int) := (by omega)
        have q258 : 1 < (t254.length : Int) := of_decide_eq_true (by first | (with_reducible assumption) | assumption)
        obtain ⟨ad258, e258, hx258_0⟩ := Kd.at_int (Kd.V_reads' HO256.out).2.2 1 p258 q258
        cases e258
        (try simp only [show (1 : Int).toNat = 1 from rfl, Nat.reduceMul, Nat.reduceEqDiff, Go.Addr.add, ↓reduceIte] at hx258_0)
        have qi258 : (1 < t254.length) = True := eq_true (by omega)
        (try rw [show ((1 : Int)).toNat = 1 from rfl] at hx258_0)
        replace p258 := eq_true p258
        replace q258 := eq_true q258
        go_wp2
        go_meet
        case rel => exact ⟨_, (decide ((rd t254 1) > 4)), (by first | rfl | (simp; done) | (simp [*]; done)), H', ⟨by first | omega | exact Nat.le_refl _⟩, ⟨by (with_reducible repeat (first | apply Kd.V_alloc | apply Kd.V_drewN | apply Kd.V_drew)); exact HO256.out⟩, ⟨by (with_reducible repeat (first | refine blk_drewN ?_ _ | refine blk_drew ?_ | refine blk_alloc ?_ _)); exact BK253.out⟩, ⟨by repeat (first | (with_reducible first | exact HB.out | apply below_alloc | apply pw_below_drewN | apply below_drew1 | refine below_set ?_ GE253.out) | exact HB.out)⟩⟩
      · rw [if_neg c7] at H
        exact absurd H (by simp)
    · rw [if_neg c6] at H
      have c6b0 : (t257 == 0) = false := beq_eq_false_iff_ne.mpr c6
      have c6b1 : (t257 != 0) = true := bne_iff_ne.mpr c6
      (first | rw [c6b0] | (simp only [i64_w, i32_w]; rw [c6b0]) | skip)
      have H' := Aside0.mk H
      clear H
      go_wp2
      go_meet
      case rel => exact ⟨_, (true), (by first | rfl | (simp; done) | (simp [*]; done)), H', ⟨by first | omega | exact Nat.le_refl _⟩, ⟨by (with_reducible repeat (first | apply Kd.V_alloc | apply Kd.V_drewN | apply Kd.V_drew)); exact HO256.out⟩, ⟨by (with_reducible repeat (first | refine blk_drewN ?_ _ | refine blk_drew ?_ | refine blk_alloc ?_ _)); exact BK253.out⟩, ⟨by repeat (first | (with_reducible first | exact HB.out | apply below_alloc | apply pw_below_drewN | apply below_drew1 | refine below_set ?_ GE253.out) | exact HB.out)⟩⟩
  case rest =>
    clear HC3
    try clear p2
    try clear q2
    try clear hx2
    try clear qi2
    try clear c3
    try clear c5
    try clear c6
    try clear c6b0
    try clear c6b1
    try clear c7
    try clear c7b0
    try clear c7b1
    try clear hx258_0
    try clear p258
    try clear q258
    obtain ⟨kq, x28_2, rfl, HA, HJ2, HO_4, BK253, HB⟩ := hcut
    cases kq with
    | zero => exact absurd HA.out (by simp [assartref04_Parse.j0])
    | succ kj2 =>
      have H := HA.out
      clear HA
      simp only [assartref04_Parse.j0] at H
      by_cases c9 : x28_2 = true
      · subst c9
        have H1 : (some (false, ([] : List (S78)), 2)) = some (r1, r2, r3) := by rw [if_pos rfl] at H; exact H
        clear H
        have H := H1
        clear H1
        simp only [Option.some.injEq, Prod.mk.injEq] at H
        obtain ⟨rfl, rfl, rfl⟩ := H
        have hcz10_0 : wc.cell? ⟨gb253, 0, none⟩ = some (.bool false) := (blk_cell BK253.out 0).trans rfl
        have hcz10_1 : wc.cell? ⟨gb253, 1, none⟩ = some (.slice none 0 0) := (blk_cell BK253.out 1).trans rfl
        have hfz10_0 := blk_frozen BK253.out 0
        have hfz10_1 := blk_frozen BK253.out 1
        go_wp2
        refine bodyPost_ret (results_ct rfl _ _ gb253 56 #[.bool false, .slice none 0 0] (0, 0) _ rfl (by (with_reducible repeat (first | refine blk_drewN ?_ _ | refine blk_drew ?_ | refine blk_alloc ?_ _)); refine blk_put (cs := #[.bool false, .slice none 0 0]) ?_ 1 _ rfl; (with_reducible repeat (first | refine blk_drewN ?_ _ | refine blk_drew ?_ | refine blk_alloc ?_ _)); refine blk_put (cs := #[.bool false, .slice none 0 0]) ?_ 0 _ rfl; (with_reducible repeat (first | refine blk_drewN ?_ _ | refine blk_drew ?_ | refine blk_alloc ?_ _)); exact BK253.out) Try.underlying56 rfl (by kernel_rfl)) rfl ?_
        exact ⟨_, by first | rfl | (simp [errW_none, errW_some] <;> rfl) | (simp [*, errW_none, errW_some] <;> rfl), by first | exact Kd.R_nil _ _ _ _ _ | exact Kd.N_nil _ _ _ _ _ | exact Kd.V_nil _ _ _ _ _ | exact Kd.Q_nil _ _ _ _ _ | exact Kd.S_nil _ _ _ _ _, by repeat (first | (with_reducible first | exact HB.out | apply below_alloc | apply pw_below_drewN | apply below_drew1 | refine below_set ?_ GE253.out) | exact HB.out)⟩
      · replace c9 := Bool.eq_false_iff.mpr c9
        subst c9
        have H1 : (if 0 < (t254.length : Int) then (assartref04_Parse.l0 kj2 a0 t254 0 ((rd t254 0) == 1) ([] : List (S78))) else (none)) = some (r1, r2, r3) := by rw [if_neg (show ¬ (false = true) by decide)] at H; exact H
        clear H
        have H := H1
        clear H1
        by_cases c11 : 0 < (t254.length : Int)
        · rw [if_pos c11] at H
          have c11b0 : decide (0 < (t254.length : Int)) = true := decide_eq_true c11
          have c11b1 : decide (0 < t254.length) = true := decide_eq_true (by omega)
          clear c11
          have H' := Aside0.mk H
          clear H
          obtain ⟨Ao12, co12, eo12⟩ := Kd.V_slice HO_4.out
          subst eo12
          have p259 : 0 ≤ (0 : Int) := (by omega)
          have q259 : 0 < (t254.length : Int) := of_decide_eq_true (by first | (with_reducible assumption) | assumption)
          obtain ⟨ad259, e259, hx259_0⟩ := Kd.at_int (Kd.V_reads' HO_4.out).2.2 0 p259 q259
          cases e259
          have qi259 : (0 < t254.length) = True := eq_true (by omega)
          (try rw [show ((0 : Int)).toNat = 0 from rfl] at hx259_0)
          (try rw [Addr.add_zero'] at hx259_0)
          replace p259 := eq_true p259
          replace q259 := eq_true q259
          go_wp2_with (first | ((with_reducible refine gate_dst (N := 6) rfl ?_); refine box_event ?hg (N := 6) ?hd (cs := #[.bool false, .slice none 0 0]) (t := 56) ?hr ?_; (case hd => rfl); (case hg => rfl); (case hr => first | (go_simp; done) | (go_simp; rfl)); intro gb260 hg w13 hbox hb; have n0_ := Aside0.mk (Kd.V_below (Kd.V_elderB (by (with_reducible repeat (first | apply Kd.V_alloc | apply Kd.V_drewN | apply Kd.V_drew)); exact HO_4.out) gb260 (Nat.le_of_eq hg.symm)) hb); have n1_ := Aside0.mk (blk_below (g := gb253) (o := .cells #[.bool false, .slice none 0 0] 56 (0, 0)) (by (with_reducible repeat (first | refine blk_drewN ?_ _ | refine blk_drew ?_ | refine blk_alloc ?_ _)); exact BK253.out) hb); have n2_ := Aside0.mk (below_step (by repeat (first | (with_reducible first | exact HB.out | apply below_alloc | apply pw_below_drewN | apply below_drew1 | refine below_set ?_ GE253.out) | exact HB.out)) hb); have n3_ := Aside0.mk (hbox); have n4_ := Aside0.mk ((by rw [hg]; exact (below_size (by repeat (first | (with_reducible first | exact HB.out | apply below_alloc | apply pw_below_drewN | apply below_drew1 | refine below_set ?_ GE253.out) | exact HB.out))) : w.heap.size ≤ gb260)); have n5_ := Aside0.mk ((by rw [hg]; exact (below_size (by repeat (first | (with_reducible first | exact HB.out | apply below_alloc | apply pw_below_drewN | apply below_drew1 | refine below_set ?_ GE253.out) | exact HB.out))) : w.heap.size ≤ gb260)); have n6_ := Aside0.mk ((by rw [hg]; exact Nat.ne_of_lt (blk_lt (g := gb253) (o := .cells #[.bool false, .slice none 0 0] 56 (0, 0)) (by (with_reducible repeat (first | refine blk_drewN ?_ _ | refine blk_drew ?_ | refine blk_alloc ?_ _)); exact BK253.out)) : gb253 ≠ gb260)); have n7_ := Aside0.mk ((by rw [hg]; exact Nat.ne_of_gt (blk_lt (g := gb253) (o := .cells #[.bool false, .slice none 0 0] 56 (0, 0)) (by (with_reducible repeat (first | refine blk_drewN ?_ _ | refine blk_drew ?_ | refine blk_alloc ?_ _)); exact BK253.out)) : gb260 ≠ gb253)); clear HO_4; clear BK253; clear HB; have HO_4 := n0_; have BK253 := n1_; have HB := n2_; have BK260 := n3_; have GW260 := n4_; have GE260 := n5_; have NB253_260 := n6_; have NB260_253 := n7_; clear n0_ n1_ n2_ n3_ n4_ n5_ n6_ n7_; clear hb hbox hg; have hnb14 := NB260_253.out; have hnc14 := NB253_260.out; have hcz15_0 : w13.cell? ⟨gb260, 0, none⟩ = some (.bool false) := (blk_cell BK260.out 0).trans rfl; have hcz15_1 : w13.cell? ⟨gb260, 1, none⟩ = some (.slice none 0 0) := (blk_cell BK260.out 1).trans rfl; have hfz15_0 := blk_frozen BK260.out 0; have hfz15_1 := blk_frozen BK260.out 1))
          go_loopg [7] kj2 (fun kq v7 w' => ∃ (x7_2 : Int) (x261001_2 : List (S78)) (u261001 : Value), v7 = .int .i64 x7_2 ∧ Aside0 (assartref04_Parse.l0 kq a0 t254 x7_2 ((rd t254 0) == 1) x261001_2 = some (r1, r2, r3)) ∧ Aside0 (kq ≤ kj2) ∧ Aside0 (Kd.V (Kd.int .u8) 5 w' w.heap.size (fun k_ => some k_ ≠ (u261001 : Value).ownBlock ∧ k_ ≠ gb253 ∧ k_ ≠ gb260) (.slice (some ad259) t254.length co12) t254) ∧ Aside0 (Kd.R k78 78 w' w.heap.size (fun _ => True) u261001 x261001_2) ∧ Aside0 (w'.heap[gb253]? = some (.cells #[.bool false, (.slice none 0 0)] 56 (0, 0))) ∧ Aside0 (w'.heap[gb260]? = some (.cells #[.bool ((rd t254 0) == 1), u261001] 56 (0, 0))) ∧ Aside0 (Below w.heap.size w w'))
          case atStart => exact ⟨(0), (([] : List (S78))), (.slice none 0 0), (by first | rfl | (simp; done) | (simp [*]; done)), H', ⟨Nat.le_refl _⟩, ⟨by (with_reducible repeat (first | apply Kd.V_alloc | apply Kd.V_drewN | apply Kd.V_drew)); exact Kd.V_mono (Kd.V_far (p := ⟨gb260, 1, none⟩) (Kd.V_far (p := ⟨gb260, 0, none⟩) (Kd.V_mono HO_4.out (fun k_ hk => (⟨hk, hk.2⟩ : _ ∧ k_ ≠ gb260))) (fun _ hk => hk.2) (.bool ((rd t254 0) == 1))) (fun _ hk => hk.2) (.slice none 0 0)) (fun _ hk => ⟨(by simp [Value.ownBlock]), ⟨hk.1.1, hk.1.2⟩⟩)⟩, ⟨by first | exact Kd.R_nil _ _ _ _ _ | exact Kd.N_nil _ _ _ _ _ | exact Kd.V_nil _ _ _ _ _ | exact Kd.Q_nil _ _ _ _ _ | exact Kd.S_nil _ _ _ _ _⟩, ⟨by (with_reducible repeat (first | refine blk_drewN ?_ _ | refine blk_drew ?_ | refine blk_alloc ?_ _)); refine blk_far ?_ NB253_260.out _; (with_reducible repeat (first | refine blk_drewN ?_ _ | refine blk_drew ?_ | refine blk_alloc ?_ _)); refine blk_far ?_ NB253_260.out _; (with_reducible repeat (first | refine blk_drewN ?_ _ | refine blk_drew ?_ | refine blk_alloc ?_ _)); exact BK253.out⟩, ⟨by (with_reducible repeat (first | refine blk_drewN ?_ _ | refine blk_drew ?_ | refine blk_alloc ?_ _)); refine blk_put (cs := #[.bool ((rd t254 0) == 1), .slice none 0 0]) ?_ 1 _ rfl; (with_reducible repeat (first | refine blk_drewN ?_ _ | refine blk_drew ?_ | refine blk_alloc ?_ _)); refine blk_put (cs := #[.bool false, .slice none 0 0]) ?_ 0 _ rfl; (with_reducible repeat (first | refine blk_drewN ?_ _ | refine blk_drew ?_ | refine blk_alloc ?_ _)); exact BK260.out⟩, ⟨by repeat (first | (with_reducible first | exact HB.out | apply below_alloc | apply pw_below_drewN | apply below_drew1 | refine below_set ?_ GE253.out | refine below_set ?_ GE260.out) | exact HB.out)⟩⟩
          case round =>
            clear H'
            try clear c1
            try clear p2
            try clear q2
            try clear hx2
            try clear qi2
            try clear c3
            try clear c5
            try clear c6
            try clear c6b0
            try clear c6b1
            try clear c7
            try clear c7b0
            try clear c7b1
            try clear c9
            try clear c11
            try clear c11b0
            try clear c11b1
            try clear c14
            try clear hcz10_0
            try clear hcz10_1
            try clear hcz15_0
            try clear hcz15_1
            try clear hfz10_0
            try clear hfz10_1
            try clear hfz15_0
            try clear hfz15_1
            try clear hx258_0
            try clear hx259_0
            try clear p2
            try clear p258
            try clear p259
            try clear q2
            try clear q258
            try clear q259
            obtain ⟨x7_2, x261001_2, u261001, rfl, HA, HK2, HO_4, HO_261001, BK253, BK260, HB⟩ := hrel
            cases gk with
            | zero => exact absurd HA.out (by simp [assartref04_Parse.l0])
            | succ k2 =>
              have H := HA.out
              clear HA
              simp only [assartref04_Parse.l0] at H
              by_cases c16 : 1 < (t254.length : Int)
              · rw [if_pos c16] at H
                have c16b0 : decide (1 < (t254.length : Int)) = true := decide_eq_true c16
                have c16b1 : decide (1 < t254.length) = true := decide_eq_true (by omega)
                clear c16
                by_cases c17 : x7_2 < (wrap64 (rd t254 1))
                · rw [if_pos c17] at H
                  have c17b0 : decide (x7_2 < (wrap64 (rd t254 1))) = true := decide_eq_true c17
                  clear c17
                  replace H := Option.bind_eq_some_iff.mp H
                  obtain ⟨⟨t262, t263, t264⟩, A180, H⟩ := H
                  replace H : ((assartref01_Take.f k2 t254 (wrap64 (6 + (wrap64 (8 * x7_2)))) 4).bind fun bt265 => (if x261001_2.length < 8796093022208 then (assartref04_Parse.l0 k2 a0 t254 (wrap64 (x7_2 + 1)) ((rd t254 0) == 1) (x261001_2 ++ [(⟨t262, bt265.1⟩ : S78)])) else (none))) = some (r1, r2, r3) := H
                  have A18 := Aside0.mk A180
                  clear A180
                  replace H := Option.bind_eq_some_iff.mp H
                  obtain ⟨⟨t265, t266, t267⟩, A190, H⟩ := H
                  replace H : (if x261001_2.length < 8796093022208 then (assartref04_Parse.l0 k2 a0 t254 (wrap64 (x7_2 + 1)) ((rd t254 0) == 1) (x261001_2 ++ [(⟨t262, t265⟩ : S78)])) else (none)) = some (r1, r2, r3) := H
                  have A19 := Aside0.mk A190
                  clear A190
                  by_cases c20 : x261001_2.length < 8796093022208
                  · rw [if_pos c20] at H
                    have LMc20 := Aside0.mk c20
                    clear c20
                    obtain ⟨y268, hy268⟩ : ∃ y_ : List (S78), y_ = (x261001_2 ++ [(⟨t262, t265⟩ : S78)]) := ⟨_, rfl⟩
                    replace H : (assartref04_Parse.l0 k2 a0 t254 (wrap64 (x7_2 + 1)) ((rd t254 0) == 1) y268) = some (r1, r2, r3) := by first | (rw [hy268]; with_reducible exact H) | (have H2_ := (Option.bind_some _ _).symm.trans H; rw [hy268]; with_reducible exact H2_) | (have H2_ := (Option.bind_some _ _).symm.trans H; with_reducible exact H2_) | with_reducible exact H | (rw [hy268]; exact H) | exact H
                    have Ny268 := Aside0.mk hy268
                    clear hy268
                    have H' := Aside0.mk H
                    clear H
                    have p261 : 0 ≤ (1 : Int) := (by omega)
                    have q261 : 1 < (t254.length : Int) := of_decide_eq_true (by first | (with_reducible assumption) | assumption)
                    obtain ⟨ad261, e261, hx261_0⟩ := Kd.at_int (Kd.V_reads' HO_4.out).2.2 1 p261 q261
                    obtain rfl : ad259 = ad261 := (by injection e261)
                    (try simp only [show (1 : Int).toNat = 1 from rfl, Nat.reduceMul, Nat.reduceEqDiff, Go.Addr.add, ↓reduceIte] at hx261_0)
                    have qi261 : (1 < t254.length) = True := eq_true (by omega)
                    (try rw [show ((1 : Int)).toNat = 1 from rfl] at hx261_0)
                    replace p261 := eq_true p261
                    replace q261 := eq_true q261
                    go_wp2_with (first | ((with_reducible refine gate_callee (f := 51) rfl ?_); refine goesL_ (some 48) rfl rfl Try.func51 (by kernel_rfl) rfl #[.slice (some ad259) t254.length co12, .int .i64 (wrap64 (2 + (wrap64 (8 * x7_2)))), .int .i64 4] rfl (by (try simp only [List.map_toArray, List.map_cons, List.map_nil]); first | done | rfl | (simp only [List.length_drop, List.length_take]; rfl)) ?_; (with_reducible refine (assartref01_Take.calls k2 _ _ t254 (wrap64 (2 + (wrap64 (8 * x7_2)))) 4 t262 t263 t264 _ ?side1 ?side2 A18.out).mono ?_); (case side1 => repeat (first | exact (Kd.V_reads' HO_4.out).2.2 | (with_reducible refine Kd.C_alloc ?_ _) | (with_reducible refine Kd.C_drewN ?_ _) | (with_reducible refine Kd.C_drew ?_))); (case side2 => exact (Kd.V_reads' HO_4.out).2.1); rintro e w' ⟨rfl, ⟨nd, rfl⟩⟩; refine ⟨_, rfl, ?_⟩; (try (rw [drewN_self wr]; generalize hq_ : World.drewN wr _ = wr; have n0_ : Aside0 (Kd.R k78 78 wr w.heap.size (fun _ => True) u261001 x261001_2) := ⟨by rw [← hq_]; exact (by (with_reducible repeat (first | apply Kd.R_alloc | apply Kd.R_drewN | apply Kd.R_drew)); exact HO_261001.out)⟩; have n1_ : Aside0 (Kd.V (Kd.int .u8) 5 wr w.heap.size (fun k_ => some k_ ≠ (u261001 : Value).ownBlock ∧ k_ ≠ gb253 ∧ k_ ≠ gb260) (.slice (some ad259) t254.length co12) t254) := ⟨by rw [← hq_]; exact (by (with_reducible repeat (first | apply Kd.V_alloc | apply Kd.V_drewN | apply Kd.V_drew)); exact HO_4.out)⟩; have n2_ : Aside0 (wr.heap[gb253]? = some (.cells #[.bool false, .slice none 0 0] 56 (0, 0))) := ⟨by rw [← hq_]; exact (by (with_reducible repeat (first | refine blk_drewN ?_ _ | refine blk_drew ?_ | refine blk_alloc ?_ _)); exact BK253.out)⟩; have n3_ : Aside0 (wr.heap[gb260]? = some (.cells #[.bool ((rd t254 0) == 1), u261001] 56 (0, 0))) := ⟨by rw [← hq_]; exact (by (with_reducible repeat (first | refine blk_drewN ?_ _ | refine blk_drew ?_ | refine blk_alloc ?_ _)); exact BK260.out)⟩; have n4_ : Aside0 (Below w.heap.size w wr) := ⟨by rw [← hq_]; exact (by repeat (first | (with_reducible first | exact HB.out | apply below_alloc | apply pw_below_drewN | apply below_drew1 | refine below_set ?_ GE253.out | refine below_set ?_ GE260.out) | exact HB.out))⟩; clear HO_261001 HO_4 BK253 BK260 HB hq_; have HO_261001 := n0_; have HO_4 := n1_; have BK253 := n2_; have BK260 := n3_; have HB := n4_; clear n0_ n1_ n2_ n3_ n4_))) | ((with_reducible refine gate_callee (f := 51) rfl ?_); refine goesL_ (some 57) rfl rfl Try.func51 (by kernel_rfl) rfl #[.slice (some ad259) t254.length co12, .int .i64 (wrap64 (6 + (wrap64 (8 * x7_2)))), .int .i64 4] rfl (by (try simp only [List.map_toArray, List.map_cons, List.map_nil]); first | done | rfl | (simp only [List.length_drop, List.length_take]; rfl)) ?_; (with_reducible refine (assartref01_Take.calls k2 _ _ t254 (wrap64 (6 + (wrap64 (8 * x7_2)))) 4 t265 t266 t267 _ ?side1 ?side2 A19.out).mono ?_); (case side1 => repeat (first | exact (Kd.V_reads' HO_4.out).2.2 | (with_reducible refine Kd.C_alloc ?_ _) | (with_reducible refine Kd.C_drewN ?_ _) | (with_reducible refine Kd.C_drew ?_))); (case side2 => exact (Kd.V_reads' HO_4.out).2.1); rintro e w' ⟨rfl, ⟨nd, rfl⟩⟩; refine ⟨_, rfl, ?_⟩; (try (rw [drewN_self wr]; generalize hq_ : World.drewN wr _ = wr; have n0_ : Aside0 (Kd.R k78 78 wr w.heap.size (fun _ => True) u261001 x261001_2) := ⟨by rw [← hq_]; exact (by (with_reducible repeat (first | apply Kd.R_alloc | apply Kd.R_drewN | apply Kd.R_drew)); exact HO_261001.out)⟩; have n1_ : Aside0 (Kd.V (Kd.int .u8) 5 wr w.heap.size (fun k_ => some k_ ≠ (u261001 : Value).ownBlock ∧ k_ ≠ gb253 ∧ k_ ≠ gb260) (.slice (some ad259) t254.length co12) t254) := ⟨by rw [← hq_]; exact (by (with_reducible repeat (first | apply Kd.V_alloc | apply Kd.V_drewN | apply Kd.V_drew)); exact HO_4.out)⟩; have n2_ : Aside0 (wr.heap[gb253]? = some (.cells #[.bool false, .slice none 0 0] 56 (0, 0))) := ⟨by rw [← hq_]; exact (by (with_reducible repeat (first | refine blk_drewN ?_ _ | refine blk_drew ?_ | refine blk_alloc ?_ _)); exact BK253.out)⟩; have n3_ : Aside0 (wr.heap[gb260]? = some (.cells #[.bool ((rd t254 0) == 1), u261001] 56 (0, 0))) := ⟨by rw [← hq_]; exact (by (with_reducible repeat (first | refine blk_drewN ?_ _ | refine blk_drew ?_ | refine blk_alloc ?_ _)); exact BK260.out)⟩; have n4_ : Aside0 (Below w.heap.size w wr) := ⟨by rw [← hq_]; exact (by repeat (first | (with_reducible first | exact HB.out | apply below_alloc | apply pw_below_drewN | apply below_drew1 | refine below_set ?_ GE253.out | refine below_set ?_ GE260.out) | exact HB.out))⟩; clear HO_261001 HO_4 BK253 BK260 HB hq_; have HO_261001 := n0_; have HO_4 := n1_; have BK253 := n2_; have BK260 := n3_; have HB := n4_; clear n0_ n1_ n2_ n3_ n4_)); have hnb21 := NB260_253.out; have hnc21 := NB253_260.out; have hcz22_0 : wr.cell? ⟨gb260, 0, none⟩ = some (.bool ((rd t254 0) == 1)) := (blk_cell BK260.out 0).trans rfl; have hcz22_1 : wr.cell? ⟨gb260, 1, none⟩ = some (u261001) := (blk_cell BK260.out 1).trans rfl; have hfz22_0 := blk_frozen BK260.out 0; have hfz22_1 := blk_frozen BK260.out 1) | ((with_reducible refine gate_builtin (b := .append) (xs := #[.tmp 62, .tmp 66]) rfl ?_); at_builtin; refine Kd.R_append k78 (w0 := w) w.heap.size rfl (.tmp 62) (.tmp 66) 54 78 (.agg #[(.int .i64 0), (.int .i64 0)]) 16 rfl Try.underlying54 info78 rfl (by decide) (by omega) u261001 x261001_2 (⟨t262, t265⟩ : S78) [.int .i64 t262, .int .i64 t265] (fun _ => True) (fun _ => False) rfl rfl ?aP (fun _ hk => hk.elim) ?aF ?aO ?aB ?aS ?aL ?_; (case aP => exact k78_mkM _ _ _ (⟨t262, t265⟩ : S78)); (case aB => exact (by repeat (first | (with_reducible first | exact HB.out | apply below_alloc | apply pw_below_drewN | apply below_drew1 | refine below_set ?_ GE253.out | refine below_set ?_ GE260.out) | exact HB.out))); (case aF => exact (fun _ _ => trivial)); (case aO => exact (by (with_reducible repeat (first | apply Kd.R_alloc | apply Kd.R_drewN | apply Kd.R_drew)); exact HO_261001.out)); (case aS => exact (below_size (by repeat (first | (with_reducible first | exact HB.out | apply below_alloc | apply pw_below_drewN | apply below_drew1 | refine below_set ?_ GE253.out | refine below_set ?_ GE260.out) | exact HB.out)))); (case aL => have := LMc20.out; omega); intro v269 w23 ho hb hg hat; rw [← Ny268.out] at ho; have n0_ := Aside0.mk (Kd.V_afterv (ok := (fun k_ => k_ ≠ gb253 ∧ k_ ≠ gb260)) (by (with_reducible repeat (first | apply Kd.V_alloc | apply Kd.V_drewN | apply Kd.V_drew)); exact Kd.V_mono HO_4.out (fun _ hk => ⟨⟨hk.2.1, hk.2.2⟩, hk.1⟩)) hg hat); have n1_ := Aside0.mk (blk_grown (g := gb253) (o := .cells #[.bool false, .slice none 0 0] 56 (0, 0)) (by (with_reducible repeat (first | refine blk_drewN ?_ _ | refine blk_drew ?_ | refine blk_alloc ?_ _)); exact BK253.out) hg (Kd.R_ne HO_261001.out BK253.out (by decide))); have n2_ := Aside0.mk (blk_grown (g := gb260) (o := .cells #[.bool ((rd t254 0) == 1), u261001] 56 (0, 0)) (by (with_reducible repeat (first | refine blk_drewN ?_ _ | refine blk_drew ?_ | refine blk_alloc ?_ _)); exact BK260.out) hg (Kd.R_ne HO_261001.out BK260.out (by decide))); have n3_ := Aside0.mk (hb); have n4_ := Aside0.mk (ho); clear HO_4; clear BK253; clear BK260; clear HB; clear HO_261001; have HO_4 := n0_; have BK253 := n1_; have BK260 := n2_; have HB := n3_; have HO270 := n4_; clear n0_ n1_ n2_ n3_ n4_; clear ho hb hg hat; obtain ⟨Ao24, co24, eo24⟩ := Kd.R_slice HO270.out; subst eo24; have hcz25_0 : w23.cell? ⟨gb260, 0, none⟩ = some (.bool ((rd t254 0) == 1)) := (blk_cell BK260.out 0).trans rfl; have hcz25_1 : w23.cell? ⟨gb260, 1, none⟩ = some (u261001) := (blk_cell BK260.out 1).trans rfl; have hfz25_0 := blk_frozen BK260.out 0; have hfz25_1 := blk_frozen BK260.out 1))
                    go_roundg k2
                    case measure => have := HJ2.out; have := HK2.out; omega
                    case rel => exact ⟨(wrap64 (x7_2 + 1)), (y268), (.slice Ao24 y268.length co24), (by first | rfl | (simp; done) | (simp [*]; done)), H', ⟨by have := HJ2.out; have := HK2.out; omega⟩, ⟨by (with_reducible repeat (first | apply Kd.V_alloc | apply Kd.V_drewN | apply Kd.V_drew)); exact Kd.V_mono (Kd.V_far (p := ⟨gb260, 1, none⟩) (Kd.V_mono HO_4.out (fun k_ hk => (⟨hk, hk.1.2⟩ : _ ∧ k_ ≠ gb260))) (fun _ hk => hk.2) (.slice Ao24 y268.length co24)) (fun _ hk => ⟨hk.1.2, ⟨hk.1.1.1, hk.1.1.2⟩⟩)⟩, ⟨by (with_reducible repeat (first | apply Kd.R_alloc | apply Kd.R_drewN | apply Kd.R_drew)); exact Kd.R_mono (Kd.R_far (p := ⟨gb260, 1, none⟩) (Kd.R_types HO270.out BK260.out (by decide)) (fun _ hk => hk.2) (.slice Ao24 y268.length co24)) (fun _ hk => trivial)⟩, ⟨by (with_reducible repeat (first | refine blk_drewN ?_ _ | refine blk_drew ?_ | refine blk_alloc ?_ _)); refine blk_far ?_ NB253_260.out _; (with_reducible repeat (first | refine blk_drewN ?_ _ | refine blk_drew ?_ | refine blk_alloc ?_ _)); exact BK253.out⟩, ⟨by (with_reducible repeat (first | refine blk_drewN ?_ _ | refine blk_drew ?_ | refine blk_alloc ?_ _)); refine blk_put (cs := #[.bool ((rd t254 0) == 1), u261001]) ?_ 1 _ rfl; (with_reducible repeat (first | refine blk_drewN ?_ _ | refine blk_drew ?_ | refine blk_alloc ?_ _)); exact BK260.out⟩, ⟨by repeat (first | (with_reducible first | exact HB.out | apply below_alloc | apply pw_below_drewN | apply below_drew1 | refine below_set ?_ GE253.out | refine below_set ?_ GE260.out) | exact HB.out)⟩⟩
                  · rw [if_neg c20] at H
                    exact absurd H (by simp)
                · rw [if_neg c17] at H
                  have c17b0 : decide (x7_2 < (wrap64 (rd t254 1))) = false := decide_eq_false c17
                  clear c17
                  replace H := Option.bind_eq_some_iff.mp H
                  obtain ⟨⟨t271, t272⟩, A260, H⟩ := H
                  replace H : (if t272 = 0 then (if t271.toList = a0.toList then (some (((rd t254 0) == 1), x261001_2, 0)) else (some (false, ([] : List (S78)), 2))) else (some (false, ([] : List (S78)), 2))) = some (r1, r2, r3) := H
                  have A26 := Aside0.mk A260
                  clear A260
                  by_cases c27 : t272 = 0
                  · rw [if_pos c27] at H
                    have c27b0 : (t272 == 0) = true := beq_iff_eq.mpr c27
                    have c27b1 : (t272 != 0) = false := bne_eq_false_iff_eq.mpr c27
                    clear c27
                    by_cases c28 : t271.toList = a0.toList
                    · rw [if_pos c28] at H
                      have c28b0 : (t271.toList == a0.toList) = true := beq_iff_eq.mpr c28
                      have c28b1 : (t271.toList != a0.toList) = false := bne_eq_false_iff_eq.mpr c28
                      clear c28
                      simp only [Option.some.injEq, Prod.mk.injEq] at H
                      obtain ⟨rfl, rfl, rfl⟩ := H
                      have p261 : 0 ≤ (1 : Int) := (by omega)
                      have q261 : 1 < (t254.length : Int) := of_decide_eq_true (by first | (with_reducible assumption) | assumption)
                      obtain ⟨ad261, e261, hx261_0⟩ := Kd.at_int (Kd.V_reads' HO_4.out).2.2 1 p261 q261
                      obtain rfl : ad259 = ad261 := (by injection e261)
                      (try simp only [show (1 : Int).toNat = 1 from rfl, Nat.reduceMul, Nat.reduceEqDiff, Go.Addr.add, ↓reduceIte] at hx261_0)
                      have qi261 : (1 < t254.length) = True := eq_true (by omega)
                      (try rw [show ((1 : Int)).toNat = 1 from rfl] at hx261_0)
                      replace p261 := eq_true p261
                      replace q261 := eq_true q261
                      have hnb29 := NB260_253.out
                      have hnc29 := NB253_260.out
                      have hcz30_0 : wr.cell? ⟨gb260, 0, none⟩ = some (.bool ((rd t254 0) == 1)) := (blk_cell BK260.out 0).trans rfl
                      have hcz30_1 : wr.cell? ⟨gb260, 1, none⟩ = some (u261001) := (blk_cell BK260.out 1).trans rfl
                      have hfz30_0 := blk_frozen BK260.out 0
                      have hfz30_1 := blk_frozen BK260.out 1
                      obtain ⟨Ao31, co31, eo31⟩ := Kd.R_slice HO_261001.out
                      subst eo31
                      go_wp2_with (first | ((with_reducible refine gate_callee (f := 28) rfl ?_); refine goesL_ (some 71) rfl rfl Try.func28 (by kernel_rfl) rfl #[.agg #[.bool ((rd t254 0) == 1), .slice Ao31 x261001_2.length co31]] rfl (by (try simp only [List.map_toArray, List.map_cons, List.map_nil]); first | done | rfl | (simp only [List.length_drop, List.length_take]; rfl)) ?_; (with_reducible refine (assartref04_Print.calls k2 ((rd t254 0) == 1) _ _ x261001_2 t271 t272 _ ?side1 ?side2 A26.out).mono ?_); (case side1 => repeat (first | exact (Kd.R_reads' HO_261001.out).2.2 | (with_reducible refine Kd.C_alloc ?_ _) | (with_reducible refine Kd.C_drewN ?_ _) | (with_reducible refine Kd.C_drew ?_))); (case side2 => exact (Kd.R_reads' HO_261001.out).2.1); rintro e w32 ⟨rfl, hb⟩; refine ⟨_, rfl, ?_⟩; have n0_ := Aside0.mk (Kd.V_below (by (with_reducible repeat (first | apply Kd.V_alloc | apply Kd.V_drewN | apply Kd.V_drew)); exact HO_4.out) hb); have n1_ := Aside0.mk (Kd.R_below (by (with_reducible repeat (first | apply Kd.R_alloc | apply Kd.R_drewN | apply Kd.R_drew)); exact HO_261001.out) hb); have n2_ := Aside0.mk (blk_below (g := gb253) (o := .cells #[.bool false, .slice none 0 0] 56 (0, 0)) (by (with_reducible repeat (first | refine blk_drewN ?_ _ | refine blk_drew ?_ | refine blk_alloc ?_ _)); exact BK253.out) hb); have n3_ := Aside0.mk (blk_below (g := gb260) (o := .cells #[.bool ((rd t254 0) == 1), .slice Ao31 x261001_2.length co31] 56 (0, 0)) (by (with_reducible repeat (first | refine blk_drewN ?_ _ | refine blk_drew ?_ | refine blk_alloc ?_ _)); exact BK260.out) hb); have n4_ := Aside0.mk (below_step (by repeat (first | (with_reducible first | exact HB.out | apply below_alloc | apply pw_below_drewN | apply below_drew1 | refine below_set ?_ GE253.out | refine below_set ?_ GE260.out) | exact HB.out)) hb); clear HO_4; clear HO_261001; clear BK253; clear BK260; clear HB; have HO_4 := n0_; have HO_261001 := n1_; have BK253 := n2_; have BK260 := n3_; have HB := n4_; clear n0_ n1_ n2_ n3_ n4_; (try clear hb); (try clear hb2); (try clear hk); (try clear hi); have hcz33_0 : w32.cell? ⟨gb260, 0, none⟩ = some (.bool ((rd t254 0) == 1)) := (blk_cell BK260.out 0).trans rfl; have hcz33_1 : w32.cell? ⟨gb260, 1, none⟩ = some (.slice Ao31 x261001_2.length co31) := (blk_cell BK260.out 1).trans rfl; have hfz33_0 := blk_frozen BK260.out 0; have hfz33_1 := blk_frozen BK260.out 1; have hcz34_0 : w32.cell? ⟨gb253, 0, none⟩ = some (.bool false) := (blk_cell BK253.out 0).trans rfl; have hcz34_1 : w32.cell? ⟨gb253, 1, none⟩ = some (.slice none 0 0) := (blk_cell BK253.out 1).trans rfl; have hfz34_0 := blk_frozen BK253.out 0; have hfz34_1 := blk_frozen BK253.out 1))
                      refine bodyPost_ret (results_ct rfl _ _ gb253 56 #[.bool ((rd t254 0) == 1), .slice Ao31 x261001_2.length co31] (0, 0) _ rfl (by (with_reducible repeat (first | refine blk_drewN ?_ _ | refine blk_drew ?_ | refine blk_alloc ?_ _)); refine blk_put (cs := #[.bool ((rd t254 0) == 1), .slice none 0 0]) ?_ 1 _ rfl; (with_reducible repeat (first | refine blk_drewN ?_ _ | refine blk_drew ?_ | refine blk_alloc ?_ _)); refine blk_put (cs := #[.bool false, .slice none 0 0]) ?_ 0 _ rfl; (with_reducible repeat (first | refine blk_drewN ?_ _ | refine blk_drew ?_ | refine blk_alloc ?_ _)); exact BK253.out) Try.underlying56 rfl (by kernel_rfl)) rfl ?_
                      exact ⟨_, by first | rfl | (simp [errW_none, errW_some] <;> rfl) | (simp [*, errW_none, errW_some] <;> rfl), by (with_reducible repeat (first | apply Kd.R_alloc | apply Kd.R_drewN | apply Kd.R_drew)); exact Kd.R_mono (Kd.R_far (p := ⟨gb253, 1, none⟩) (Kd.R_far (p := ⟨gb253, 0, none⟩) (Kd.R_types HO_261001.out BK253.out (by decide)) (fun _ hk => hk.2) (.bool ((rd t254 0) == 1))) (fun _ hk => hk.2) (.slice Ao31 x261001_2.length co31)) (fun _ hk => trivial), by repeat (first | (with_reducible first | exact HB.out | apply below_alloc | apply pw_below_drewN | apply below_drew1 | refine below_set ?_ GE253.out | refine below_set ?_ GE260.out) | exact HB.out)⟩
                    · rw [if_neg c28] at H
                      have c28b0 : (t271.toList == a0.toList) = false := beq_eq_false_iff_ne.mpr c28
                      have c28b1 : (t271.toList != a0.toList) = true := bne_iff_ne.mpr c28
                      simp only [Option.some.injEq, Prod.mk.injEq] at H
                      obtain ⟨rfl, rfl, rfl⟩ := H
                      have p261 : 0 ≤ (1 : Int) := (by omega)
                      have q261 : 1 < (t254.length : Int) := of_decide_eq_true (by first | (with_reducible assumption) | assumption)
                      obtain ⟨ad261, e261, hx261_0⟩ := Kd.at_int (Kd.V_reads' HO_4.out).2.2 1 p261 q261
                      obtain rfl : ad259 = ad261 := (by injection e261)
                      (try simp only [show (1 : Int).toNat = 1 from rfl, Nat.reduceMul, Nat.reduceEqDiff, Go.Addr.add, ↓reduceIte] at hx261_0)
                      have qi261 : (1 < t254.length) = True := eq_true (by omega)
                      (try rw [show ((1 : Int)).toNat = 1 from rfl] at hx261_0)
                      replace p261 := eq_true p261
                      replace q261 := eq_true q261
                      have hnb35 := NB260_253.out
                      have hnc35 := NB253_260.out
                      have hcz36_0 : wr.cell? ⟨gb260, 0, none⟩ = some (.bool ((rd t254 0) == 1)) := (blk_cell BK260.out 0).trans rfl
                      have hcz36_1 : wr.cell? ⟨gb260, 1, none⟩ = some (u261001) := (blk_cell BK260.out 1).trans rfl
                      have hfz36_0 := blk_frozen BK260.out 0
                      have hfz36_1 := blk_frozen BK260.out 1
                      obtain ⟨Ao37, co37, eo37⟩ := Kd.R_slice HO_261001.out
                      subst eo37
                      go_wp2_with (first | ((with_reducible refine gate_callee (f := 28) rfl ?_); refine goesL_ (some 71) rfl rfl Try.func28 (by kernel_rfl) rfl #[.agg #[.bool ((rd t254 0) == 1), .slice Ao37 x261001_2.length co37]] rfl (by (try simp only [List.map_toArray, List.map_cons, List.map_nil]); first | done | rfl | (simp only [List.length_drop, List.length_take]; rfl)) ?_; (with_reducible refine (assartref04_Print.calls k2 ((rd t254 0) == 1) _ _ x261001_2 t271 t272 _ ?side1 ?side2 A26.out).mono ?_); (case side1 => repeat (first | exact (Kd.R_reads' HO_261001.out).2.2 | (with_reducible refine Kd.C_alloc ?_ _) | (with_reducible refine Kd.C_drewN ?_ _) | (with_reducible refine Kd.C_drew ?_))); (case side2 => exact (Kd.R_reads' HO_261001.out).2.1); rintro e w38 ⟨rfl, hb⟩; refine ⟨_, rfl, ?_⟩; have n0_ := Aside0.mk (Kd.V_below (by (with_reducible repeat (first | apply Kd.V_alloc | apply Kd.V_drewN | apply Kd.V_drew)); exact HO_4.out) hb); have n1_ := Aside0.mk (Kd.R_below (by (with_reducible repeat (first | apply Kd.R_alloc | apply Kd.R_drewN | apply Kd.R_drew)); exact HO_261001.out) hb); have n2_ := Aside0.mk (blk_below (g := gb253) (o := .cells #[.bool false, .slice none 0 0] 56 (0, 0)) (by (with_reducible repeat (first | refine blk_drewN ?_ _ | refine blk_drew ?_ | refine blk_alloc ?_ _)); exact BK253.out) hb); have n3_ := Aside0.mk (blk_below (g := gb260) (o := .cells #[.bool ((rd t254 0) == 1), .slice Ao37 x261001_2.length co37] 56 (0, 0)) (by (with_reducible repeat (first | refine blk_drewN ?_ _ | refine blk_drew ?_ | refine blk_alloc ?_ _)); exact BK260.out) hb); have n4_ := Aside0.mk (below_step (by repeat (first | (with_reducible first | exact HB.out | apply below_alloc | apply pw_below_drewN | apply below_drew1 | refine below_set ?_ GE253.out | refine below_set ?_ GE260.out) | exact HB.out)) hb); clear HO_4; clear HO_261001; clear BK253; clear BK260; clear HB; have HO_4 := n0_; have HO_261001 := n1_; have BK253 := n2_; have BK260 := n3_; have HB := n4_; clear n0_ n1_ n2_ n3_ n4_; (try clear hb); (try clear hb2); (try clear hk); (try clear hi); have hcz39_0 : w38.cell? ⟨gb253, 0, none⟩ = some (.bool false) := (blk_cell BK253.out 0).trans rfl; have hcz39_1 : w38.cell? ⟨gb253, 1, none⟩ = some (.slice none 0 0) := (blk_cell BK253.out 1).trans rfl; have hfz39_0 := blk_frozen BK253.out 0; have hfz39_1 := blk_frozen BK253.out 1))
                      refine bodyPost_ret (results_ct rfl _ _ gb253 56 #[.bool false, .slice none 0 0] (0, 0) _ rfl (by (with_reducible repeat (first | refine blk_drewN ?_ _ | refine blk_drew ?_ | refine blk_alloc ?_ _)); refine blk_put (cs := #[.bool false, .slice none 0 0]) ?_ 1 _ rfl; (with_reducible repeat (first | refine blk_drewN ?_ _ | refine blk_drew ?_ | refine blk_alloc ?_ _)); refine blk_put (cs := #[.bool false, .slice none 0 0]) ?_ 0 _ rfl; (with_reducible repeat (first | refine blk_drewN ?_ _ | refine blk_drew ?_ | refine blk_alloc ?_ _)); exact BK253.out) Try.underlying56 rfl (by kernel_rfl)) rfl ?_
                      exact ⟨_, by first | rfl | (simp [errW_none, errW_some] <;> rfl) | (simp [*, errW_none, errW_some] <;> rfl), by first | exact Kd.R_nil _ _ _ _ _ | exact Kd.N_nil _ _ _ _ _ | exact Kd.V_nil _ _ _ _ _ | exact Kd.Q_nil _ _ _ _ _ | exact Kd.S_nil _ _ _ _ _, by repeat (first | (with_reducible first | exact HB.out | apply below_alloc | apply pw_below_drewN | apply below_drew1 | refine below_set ?_ GE253.out | refine below_set ?_ GE260.out) | exact HB.out)⟩
                  · rw [if_neg c27] at H
                    have c27b0 : (t272 == 0) = false := beq_eq_false_iff_ne.mpr c27
                    have c27b1 : (t272 != 0) = true := bne_iff_ne.mpr c27
                    simp only [Option.some.injEq, Prod.mk.injEq] at H
                    obtain ⟨rfl, rfl, rfl⟩ := H
                    have p261 : 0 ≤ (1 : Int) := (by omega)
                    have q261 : 1 < (t254.length : Int) := of_decide_eq_true (by first | (with_reducible assumption) | assumption)
                    obtain ⟨ad261, e261, hx261_0⟩ := Kd.at_int (Kd.V_reads' HO_4.out).2.2 1 p261 q261
                    obtain rfl : ad259 = ad261 := (by injection e261)
                    (try simp only [show (1 : Int).toNat = 1 from rfl, Nat.reduceMul, Nat.reduceEqDiff, Go.Addr.add, ↓reduceIte] at hx261_0)
                    have qi261 : (1 < t254.length) = True := eq_true (by omega)
                    (try rw [show ((1 : Int)).toNat = 1 from rfl] at hx261_0)
                    replace p261 := eq_true p261
                    replace q261 := eq_true q261
                    have hnb40 := NB260_253.out
                    have hnc40 := NB253_260.out
                    have hcz41_0 : wr.cell? ⟨gb260, 0, none⟩ = some (.bool ((rd t254 0) == 1)) := (blk_cell BK260.out 0).trans rfl
                    have hcz41_1 : wr.cell? ⟨gb260, 1, none⟩ = some (u261001) := (blk_cell BK260.out 1).trans rfl
                    have hfz41_0 := blk_frozen BK260.out 0
                    have hfz41_1 := blk_frozen BK260.out 1
                    obtain ⟨Ao42, co42, eo42⟩ := Kd.R_slice HO_261001.out
                    subst eo42
                    go_wp2_with (first | ((with_reducible refine gate_callee (f := 28) rfl ?_); refine goesL_ (some 71) rfl rfl Try.func28 (by kernel_rfl) rfl #[.agg #[.bool ((rd t254 0) == 1), .slice Ao42 x261001_2.length co42]] rfl (by (try simp only [List.map_toArray, List.map_cons, List.map_nil]); first | done | rfl | (simp only [List.length_drop, List.length_take]; rfl)) ?_; (with_reducible refine (assartref04_Print.calls k2 ((rd t254 0) == 1) _ _ x261001_2 t271 t272 _ ?side1 ?side2 A26.out).mono ?_); (case side1 => repeat (first | exact (Kd.R_reads' HO_261001.out).2.2 | (with_reducible refine Kd.C_alloc ?_ _) | (with_reducible refine Kd.C_drewN ?_ _) | (with_reducible refine Kd.C_drew ?_))); (case side2 => exact (Kd.R_reads' HO_261001.out).2.1); rintro e w43 ⟨rfl, hb⟩; refine ⟨_, rfl, ?_⟩; have n0_ := Aside0.mk (Kd.V_below (by (with_reducible repeat (first | apply Kd.V_alloc | apply Kd.V_drewN | apply Kd.V_drew)); exact HO_4.out) hb); have n1_ := Aside0.mk (Kd.R_below (by (with_reducible repeat (first | apply Kd.R_alloc | apply Kd.R_drewN | apply Kd.R_drew)); exact HO_261001.out) hb); have n2_ := Aside0.mk (blk_below (g := gb253) (o := .cells #[.bool false, .slice none 0 0] 56 (0, 0)) (by (with_reducible repeat (first | refine blk_drewN ?_ _ | refine blk_drew ?_ | refine blk_alloc ?_ _)); exact BK253.out) hb); have n3_ := Aside0.mk (blk_below (g := gb260) (o := .cells #[.bool ((rd t254 0) == 1), .slice Ao42 x261001_2.length co42] 56 (0, 0)) (by (with_reducible repeat (first | refine blk_drewN ?_ _ | refine blk_drew ?_ | refine blk_alloc ?_ _)); exact BK260.out) hb); have n4_ := Aside0.mk (below_step (by repeat (first | (with_reducible first | exact HB.out | apply below_alloc | apply pw_below_drewN | apply below_drew1 | refine below_set ?_ GE253.out | refine below_set ?_ GE260.out) | exact HB.out)) hb); clear HO_4; clear HO_261001; clear BK253; clear BK260; clear HB; have HO_4 := n0_; have HO_261001 := n1_; have BK253 := n2_; have BK260 := n3_; have HB := n4_; clear n0_ n1_ n2_ n3_ n4_; (try clear hb); (try clear hb2); (try clear hk); (try clear hi); have hcz44_0 : w43.cell? ⟨gb253, 0, none⟩ = some (.bool false) := (blk_cell BK253.out 0).trans rfl; have hcz44_1 : w43.cell? ⟨gb253, 1, none⟩ = some (.slice none 0 0) := (blk_cell BK253.out 1).trans rfl; have hfz44_0 := blk_frozen BK253.out 0; have hfz44_1 := blk_frozen BK253.out 1))
                    refine bodyPost_ret (results_ct rfl _ _ gb253 56 #[.bool false, .slice none 0 0] (0, 0) _ rfl (by (with_reducible repeat (first | refine blk_drewN ?_ _ | refine blk_drew ?_ | refine blk_alloc ?_ _)); refine blk_put (cs := #[.bool false, .slice none 0 0]) ?_ 1 _ rfl; (with_reducible repeat (first | refine blk_drewN ?_ _ | refine blk_drew ?_ | refine blk_alloc ?_ _)); refine blk_put (cs := #[.bool false, .slice none 0 0]) ?_ 0 _ rfl; (with_reducible repeat (first | refine blk_drewN ?_ _ | refine blk_drew ?_ | refine blk_alloc ?_ _)); exact BK253.out) Try.underlying56 rfl (by kernel_rfl)) rfl ?_
                    exact ⟨_, by first | rfl | (simp [errW_none, errW_some] <;> rfl) | (simp [*, errW_none, errW_some] <;> rfl), by first | exact Kd.R_nil _ _ _ _ _ | exact Kd.N_nil _ _ _ _ _ | exact Kd.V_nil _ _ _ _ _ | exact Kd.Q_nil _ _ _ _ _ | exact Kd.S_nil _ _ _ _ _, by repeat (first | (with_reducible first | exact HB.out | apply below_alloc | apply pw_below_drewN | apply below_drew1 | refine below_set ?_ GE253.out | refine below_set ?_ GE260.out) | exact HB.out)⟩
              · rw [if_neg c16] at H
                exact absurd H (by simp)
        · rw [if_neg c11] at H
          exact absurd H (by simp)

end Go.Proofs.Ythjnkapkhphpeaa.P
end
section
/- The document's answers for node's blocks are node's. -/
namespace Go.Proofs.Ythjnkapkhphpeaa.P
open Go.RowKit Go.Proofs.YthjnkapkhphpeaaW.PrintWords Go.Proofs.YthjnkapkhphpeaaW.PrintLast Go.Proofs.YthjnkapkhphpeaaW.PrintMore
set_option linter.unusedVariables false
set_option linter.unusedSimpArgs false
theorem refPut4 (k : Nat) (n : Int) (h0 : 0 ≤ n) (h1 : n ≤ 2147483647) (hk : 6 ≤ k) : assartref01_Put.f k n 4 = some (le n 4) := by
  obtain ⟨k, rfl⟩ : ∃ m, k = m + 6 := ⟨k - 6, by omega⟩
  have h256 : ((256 : Int) ^ (4 : Int).toNat) = 4294967296 := rfl
  exact refPut_val k n 4 (by omega) (by omega) h0 (by omega)
theorem refTake4 (k : Nat) (l : List Int) (a : Int) (hl : l.length ≤ 1000) (hb : ∀ x ∈ l, 0 ≤ x ∧ x < 256) (h0 : 0 ≤ a) (ha : a + 4 ≤ l.length) (hk : 6 ≤ k) : assartref01_Take.f k l a 4 = some (lev l a 4, a + 4, 0) := by
  obtain ⟨k, rfl⟩ : ∃ m, k = m + 6 := ⟨k - 6, by omega⟩
  exact refTake_val k l a 4 (by omega) hb (by omega) (by omega) h0 ha
theorem refPrint04_l0 (leaf : Bool) (l : List S78) (hf : Fit4 l) (hl : l.length ≤ 4) : ∀ (d k j : Nat) (acc : List Int), j + d = l.length → d + 600 < k → acc.length + 8 * d ≤ 100 → (∀ x ∈ acc, 0 ≤ x ∧ x < 256) →
    assartref04_Print.l0 k acc (j : Int) leaf l = (num_Seal.f (acc ++ bodyN (l.drop j))).bind fun b => some (b.1, b.2) := by
  intro d
  induction d with
  | zero =>
    intro k j acc hj hk ha hab
    obtain ⟨k, rfl⟩ : ∃ m, k = m + 1 := ⟨k - 1, by omega⟩
    obtain rfl : j = l.length := by omega
    simp only [assartref04_Print.l0]
    rw [if_neg (by omega), List.drop_length, refSeal_val acc (by omega) hab k (by omega)]
    simp [bodyN]
  | succ d ih =>
    intro k j acc hj hk ha hab
    obtain ⟨k, rfl⟩ : ∃ m, k = m + 1 := ⟨k - 1, by omega⟩
    have hlt : j < l.length := by omega
    have hb := hf l[j] (List.getElem_mem hlt)
    have hlen : (acc ++ le l[j].f0 4 ++ le l[j].f1 4).length = acc.length + 8 := by rw [List.length_append, List.length_append, le4_length, le4_length]
    have hab2 : ∀ x ∈ acc ++ le l[j].f0 4 ++ le l[j].f1 4, 0 ≤ x ∧ x < 256 := by
      intro x hx
      rcases List.mem_append.1 hx with hx | hx
      · rcases List.mem_append.1 hx with hx | hx
        · exact hab x hx
        · exact le_bd _ x hx
      · exact le_bd _ x hx
    simp only [assartref04_Print.l0]
    rw [if_pos (by omega), if_pos (by omega), rd_eq l j hlt, refPut4 k _ hb.1 hb.2.1 (by omega), Option.bind_some, if_pos (by rw [le4_length]; omega), Option.bind_some, refPut4 k _ hb.2.2.1 hb.2.2.2 (by omega), Option.bind_some, if_pos (by rw [List.length_append, le4_length, le4_length]; omega), wsucc j (by omega), ih k (j + 1) _ (by omega) (by omega) (by rw [hlen]; omega) hab2, bodyN_step l j hlt]
    simp only [List.append_assoc]
theorem refPrintN_ok (leaf : Bool) {l : List S78} (h : RtN l) (k : Nat) (hk : 700 < k) : assartref04_Print.f k leaf l = some (blkN leaf l, 0) := by
  have hlen := h.2.1
  have key : ∀ acc : List Int, acc.length = 2 → (∀ x ∈ acc, 0 ≤ x ∧ x < 256) → acc ++ bodyN l = rowN leaf l → assartref04_Print.j0 k acc leaf l = some (blkN leaf l, 0) := by
    intro acc ha hab he
    obtain ⟨k, rfl⟩ : ∃ m, k = m + 1 := ⟨k - 1, by omega⟩
    simp only [assartref04_Print.j0]
    have := refPrint04_l0 leaf l (fit4_right h) hlen l.length k 0 acc (by omega) (by omega) (by omega) hab
    rw [show ((0 : Nat) : Int) = 0 from rfl, List.drop_zero, he, seal_rowN leaf l hlen] at this
    rw [this]
    rfl
  have hbd := rowN_bd leaf l
  have hbd2 : ∀ x ∈ [if leaf = true then (1 : Int) else 2, (l.length : Int) % 256], 0 ≤ x ∧ x < 256 := fun x hx => hbd x (by unfold rowN; exact List.mem_append_left _ hx)
  unfold assartref04_Print.f
  rw [refRight04_val leaf l k (by omega), Option.bind_some, if_pos (decide_eq_true h)]
  cases leaf with
  | true =>
    rw [if_pos rfl]
    exact key _ (by simp) hbd2 rfl
  | false =>
    rw [if_neg (by simp)]
    exact key _ (by simp) hbd2 rfl
theorem refPrintN_bad (leaf : Bool) {l : List S78} (h : ¬ RtN l) (k : Nat) (hk : 6 ≤ k) : assartref04_Print.f k leaf l = some (⟨#[]⟩, 1) := by
  unfold assartref04_Print.f
  rw [refRight04_val leaf l k (by omega), Option.bind_some, if_neg (by simpa using h)]
theorem refParse04_l0 (s : ByteArray) (own : List Int) (leaf : Bool) (hown : own.length = 36) (hb : ∀ x ∈ own, 0 ≤ x ∧ x < 256) (n : Nat) (hn : n ≤ 4) (hn1 : rd own 1 = (n : Int)) : ∀ (d k i : Nat), i + d = n → d + 800 < k →
    assartref04_Parse.l0 k s own (i : Int) leaf (itemsOf own i) = endN s leaf (itemsOf own n) := by
  have hw1 : wrap64 (n : Int) = (n : Int) := by unfold wrap64; omega
  intro d
  induction d with
  | zero =>
    intro k i hi hk
    obtain ⟨k, rfl⟩ : ∃ m, k = m + 1 := ⟨k - 1, by omega⟩
    obtain rfl : i = n := by omega
    simp only [assartref04_Parse.l0]
    rw [if_pos (by omega), hn1, hw1, if_neg (by omega)]
    unfold endN
    by_cases hr : RtN (itemsOf own i)
    · rw [refPrintN_ok leaf hr k (by omega), Option.bind_some, if_pos rfl]
      by_cases hs : (blkN leaf (itemsOf own i)).toList = s.toList
      · rw [if_pos hs, if_pos ⟨hr, hs⟩]
      · rw [if_neg hs, if_neg fun h => hs h.2]
    · rw [refPrintN_bad leaf hr k (by omega), Option.bind_some, if_neg (by simp), if_neg fun h => hr h.1]
  | succ d ih =>
    intro k i hi hk
    obtain ⟨k, rfl⟩ : ∃ m, k = m + 1 := ⟨k - 1, by omega⟩
    have hw2 : wrap64 (2 + wrap64 (8 * (i : Int))) = 2 + 8 * (i : Int) := by
      have : wrap64 (8 * (i : Int)) = 8 * (i : Int) := by unfold wrap64; omega
      rw [this]; unfold wrap64; omega
    have hw6 : wrap64 (6 + wrap64 (8 * (i : Int))) = 6 + 8 * (i : Int) := by
      have : wrap64 (8 * (i : Int)) = 8 * (i : Int) := by unfold wrap64; omega
      rw [this]; unfold wrap64; omega
    have hi2 := itemsOf_succ own i
    have hil := itemsOf_len own i
    have ih' := ih k (i + 1) (by omega) (by omega)
    simp only [assartref04_Parse.l0]
    rw [if_pos (by omega), hn1, hw1, if_pos (by omega), hw2, hw6, refTake4 k own _ (by omega) hb (by omega) (by omega) (by omega), Option.bind_some, refTake4 k own _ (by omega) hb (by omega) (by omega) (by omega), Option.bind_some, if_pos (by omega), wsucc i (by omega), ← hi2, ih']
theorem refParseN_val (s : ByteArray) (k : Nat) (hk : 900 < k) : assartref04_Parse.f k s = parseN s := by
  unfold assartref04_Parse.f parseN
  obtain ⟨k, rfl⟩ : ∃ m, k = m + 1 := ⟨k - 1, by omega⟩
  have hO : assartref01_Open.f s = num_Open.f s := rfl
  rw [hO]
  by_cases hs : isSealed (bytesOf s) = true
  · have ho : num_Open.f s = some ((bytesOf s).take 36, 0) := by unfold num_Open.f; rw [if_pos hs]
    obtain ⟨hl, hb⟩ := own_facts hs
    rw [ho, Option.bind_some, if_pos rfl]
    generalize (bytesOf s).take 36 = own at hl hb ⊢
    obtain ⟨h0, h1⟩ := rd_own hl hb
    rw [if_pos (by show 1 < (own.length : Int); omega)]
    simp only [assartref04_Parse.j0]
    by_cases h4 : rd own 1 ≤ 4
    · rw [decide_eq_false (by omega), if_neg (by simp), if_pos (by omega), if_pos ⟨hs, h4⟩]
      exact refParse04_l0 s own (rd own 0 == 1) hl hb (rd own 1).toNat (by omega) (by omega) (rd own 1).toNat k 0 (by omega) (by omega)
    · rw [decide_eq_true (by omega), if_pos rfl, if_neg fun h => h4 h.2]
  · have ho : num_Open.f s = some ([], 2) := by unfold num_Open.f; rw [if_neg hs]
    rw [ho, Option.bind_some, if_neg (by simp), if_neg fun h => hs h.1]
    simp only [assartref04_Parse.j0]
    rw [if_pos trivial]
end Go.Proofs.Ythjnkapkhphpeaa.P
end
section
namespace Go.Proofs.Ythjnkapkhphpeaa.P
open Go.RowKit Go.Proofs.YthjnkapkhphpeaaW.PrintWords Go.Proofs.YthjnkapkhphpeaaW.PrintLast Go.Proofs.YthjnkapkhphpeaaW.PrintMore
attribute [local go_sem] max2_int min2_int max_two min_two max_three min_three max_four min_four
set_option linter.unusedVariables false
set_option linter.unusedSimpArgs false

attribute [local go_sem high] eqA78
/-! ### api_Item_55: function 55 -/
def api_Item_55.l0 : Nat → List (S78) → List (S78) → Int → Int → Option (Bool)
  | 0, _, _, _, _ => none
  | k + 1, x0, x1, x12, x13 => if x13 < x12 then (if 0 ≤ x13 then (if x13 < (x0.length : Int) then (if x13 < (x1.length : Int) then (if (!(((rd_T78 x0 x13).f0) == ((rd_T78 x1 x13).f0)) || (!(((rd_T78 x0 x13).f1) == ((rd_T78 x1 x13).f1)))) = true then (some false) else (api_Item_55.l0 k x0 x1 x12 (wrap64 (x13 + 1)))) else (none)) else (none)) else (none)) else (some true)
def api_Item_55.f (k : Nat) (l0 : List (S78)) (l1 : List (S78)) : Option (Bool) := if (l0.length : Int) = (l1.length : Int) then (api_Item_55.l0 k l0 l1 (l0.length : Int) 0) else (some false)
theorem api_Item_55.mono_l : ∀ k, (∀ y0 y1 y2 y3, LeO (api_Item_55.l0 k y0 y1 y2 y3) (api_Item_55.l0 (k + 1) y0 y1 y2 y3))
  | 0 => fun _ _ _ _ r h => by simp [api_Item_55.l0] at h
  | k + 1 => by
    have ih0 := api_Item_55.mono_l k
    · intro y0 y1 y2 y3
      unfold api_Item_55.l0
      repeat' first
      | (with_reducible exact ih0 _ _ _ _)
      | (with_reducible exact LeO.refl _)
      | (with_reducible exact LeO.none _)
      | (with_reducible refine LeO.ite ?_ ?_)
      | (with_reducible refine LeO.bind ?_ (fun _ => ?_))
      | exact ih0 _ _ _ _
      | exact LeO.none _
      | refine LeO.ite ?_ ?_
      | refine LeO.bind ?_ (fun _ => ?_)
theorem api_Item_55.mono : ∀ a0 a1 k, LeO (api_Item_55.f k a0 a1) (api_Item_55.f (k + 1) a0 a1) := by
  intro a0 a1 k
  have ih0 := api_Item_55.mono_l k
  unfold api_Item_55.f
  repeat' first
      | (with_reducible exact ih0 _ _ _ _)
      | (with_reducible exact LeO.refl _)
      | (with_reducible exact LeO.none _)
      | (with_reducible refine LeO.ite ?_ ?_)
      | (with_reducible refine LeO.bind ?_ (fun _ => ?_))
      | exact ih0 _ _ _ _
      | exact LeO.none _
      | refine LeO.ite ?_ ?_
      | refine LeO.bind ?_ (fun _ => ?_)
set_option maxHeartbeats 8000000 in
set_option maxRecDepth 100000 in
theorem api_Item_55.calls (k : Nat) (A0 : Option Addr) (c0 : Nat) (l0 : List (S78)) (A1 : Option Addr) (c1 : Nat) (l1 : List (S78)) (r : Bool) (w : World) (hr0 : Kd.C k78 w A0 l0.length l0) (hc0 : l0.length ≤ c0) (hr1 : Kd.C k78 w A1 l1.length l1) (hc1 : l1.length ≤ c1) (h : api_Item_55.f k l0 l1 = some r) :
    Calls Try.prog 55 #[.slice A0 l0.length c0, .slice A1 l1.length c1] w fun e w' => e = .returned (.bool r) ∧ Drawn0 w w' := by
  have hu78 := Try.underlying78
  have HR0 := Aside0.mk hr0
  have HC0 := Aside0.mk hc0
  clear hr0 hc0
  have HR1 := Aside0.mk hr1
  have HC1 := Aside0.mk hc1
  clear hr1 hc1
  have H : (if (l0.length : Int) = (l1.length : Int) then (api_Item_55.l0 k l0 l1 (l0.length : Int) 0) else (some false)) = some r := h
  clear h
  by_cases c3 : (l0.length : Int) = (l1.length : Int)
  · rw [if_pos c3] at H
    have c3b0 : ((l0.length : Int) == (l1.length : Int)) = true := beq_iff_eq.mpr c3
    have c3b1 : ((l0.length : Int) != (l1.length : Int)) = false := bne_eq_false_iff_eq.mpr c3
    have c3b2 : (l0.length == l1.length) = true := by first | simpa using c3 | (simp at c3 ⊢; omega)
    clear c3
    have H' := Aside0.mk H
    clear H
    go_enter Try.func55, Try.ntmps55
    go_wp2
    repeat (go_quiet (fail); try go_wp2)
    go_loopg [13] k (fun kq v13 w' => ∃ (x13_1 : Int), v13 = .int .i64 x13_1 ∧ Aside0 (api_Item_55.l0 kq l0 l1 (l0.length : Int) x13_1 = some r) ∧ Aside0 (kq ≤ k) ∧ Drawn0 w w')
    case atStart => exact ⟨(0), (by first | rfl | (simp; done) | (simp [*]; done)), H', ⟨Nat.le_refl _⟩, by repeat (first | exact Drawn0.refl _ | apply Drawn0.step)⟩
    case round =>
      clear H'
      try clear c1
      try clear p2
      try clear c3
      try clear c3b0
      try clear c3b1
      try clear c3b2
      obtain ⟨x13_1, rfl, HA, HK1, ⟨m1, rfl⟩⟩ := hrel
      cases gk with
      | zero => exact absurd HA.out (by simp [api_Item_55.l0])
      | succ k1 =>
        have H := HA.out
        clear HA
        simp only [api_Item_55.l0] at H
        by_cases c4 : x13_1 < (l0.length : Int)
        · rw [if_pos c4] at H
          have c4b0 : decide (x13_1 < (l0.length : Int)) = true := decide_eq_true c4
          clear c4
          by_cases c5 : 0 ≤ x13_1
          · rw [if_pos c5] at H
            have c5b0 : decide (0 ≤ x13_1) = true := decide_eq_true c5
            clear c5
            by_cases c6 : x13_1 < (l0.length : Int)
            · rw [if_pos c6] at H
              have c6b0 : decide (x13_1 < (l0.length : Int)) = true := decide_eq_true c6
              clear c6
              by_cases c7 : x13_1 < (l1.length : Int)
              · rw [if_pos c7] at H
                have c7b0 : decide (x13_1 < (l1.length : Int)) = true := decide_eq_true c7
                clear c7
                by_cases c8 : (!(((rd_T78 l0 x13_1).f0) == ((rd_T78 l1 x13_1).f0)) || (!(((rd_T78 l0 x13_1).f1) == ((rd_T78 l1 x13_1).f1)))) = true
                · rw [if_pos c8] at H
                  have c8b0 : (!(((rd_T78 l0 x13_1).f0) == ((rd_T78 l1 x13_1).f0)) || (!(((rd_T78 l0 x13_1).f1) == ((rd_T78 l1 x13_1).f1)))) = true := c8
                  clear c8
                  obtain rfl := Option.some.inj H
                  have p157 : 0 ≤ (x13_1 : Int) := of_decide_eq_true (by first | (with_reducible assumption) | assumption)
                  have q157 : x13_1 < (l0.length : Int) := of_decide_eq_true (by first | (with_reducible assumption) | assumption)
                  obtain ⟨ad157, e157, hx157_0, hx157_1⟩ := at_T78 HR0.out x13_1 p157 q157
                  cases e157
                  replace p157 := eq_true p157
                  replace q157 := eq_true q157
                  have p158 : 0 ≤ (x13_1 : Int) := of_decide_eq_true (by first | (with_reducible assumption) | assumption)
                  have q158 : x13_1 < (l1.length : Int) := of_decide_eq_true (by first | (with_reducible assumption) | assumption)
                  obtain ⟨ad158, e158, hx158_0, hx158_1⟩ := at_T78 HR1.out x13_1 p158 q158
                  cases e158
                  replace p158 := eq_true p158
                  replace q158 := eq_true q158
                  go_wp2
                  repeat (go_quiet (fail); try go_wp2)
                  go_ret
                  exact ⟨by first | rfl | (simp; done) | (simp [*]; done), by repeat (first | exact Drawn0.refl _ | apply Drawn0.step)⟩
                · rw [if_neg c8] at H
                  have c8b0 : (!(((rd_T78 l0 x13_1).f0) == ((rd_T78 l1 x13_1).f0)) || (!(((rd_T78 l0 x13_1).f1) == ((rd_T78 l1 x13_1).f1)))) = false := by simpa using c8
                  clear c8
                  have H' := Aside0.mk H
                  clear H
                  have p157 : 0 ≤ (x13_1 : Int) := of_decide_eq_true (by first | (with_reducible assumption) | assumption)
                  have q157 : x13_1 < (l0.length : Int) := of_decide_eq_true (by first | (with_reducible assumption) | assumption)
                  obtain ⟨ad157, e157, hx157_0, hx157_1⟩ := at_T78 HR0.out x13_1 p157 q157
                  cases e157
                  replace p157 := eq_true p157
                  replace q157 := eq_true q157
                  have p158 : 0 ≤ (x13_1 : Int) := of_decide_eq_true (by first | (with_reducible assumption) | assumption)
                  have q158 : x13_1 < (l1.length : Int) := of_decide_eq_true (by first | (with_reducible assumption) | assumption)
                  obtain ⟨ad158, e158, hx158_0, hx158_1⟩ := at_T78 HR1.out x13_1 p158 q158
                  cases e158
                  replace p158 := eq_true p158
                  replace q158 := eq_true q158
                  go_wp2
                  repeat (go_quiet (fail); try go_wp2)
                  go_roundg k1
                  case measure => have := HK1.out; omega
                  case rel => exact ⟨(wrap64 (x13_1 + 1)), (by first | rfl | (simp; done) | (simp [*]; done)), H', ⟨by have := HK1.out; omega⟩, by repeat (first | exact Drawn0.refl _ | apply Drawn0.step)⟩
              · rw [if_neg c7] at H
                exact absurd H (by simp)
            · rw [if_neg c6] at H
              exact absurd H (by simp)
          · rw [if_neg c5] at H
            exact absurd H (by simp)
        · rw [if_neg c4] at H
          have c4b0 : decide (x13_1 < (l0.length : Int)) = false := decide_eq_false c4
          clear c4
          obtain rfl := Option.some.inj H
          go_wp2
          repeat (go_quiet (fail); try go_wp2)
          go_ret
          exact ⟨by first | rfl | (simp; done) | (simp [*]; done), by repeat (first | exact Drawn0.refl _ | apply Drawn0.step)⟩
  · rw [if_neg c3] at H
    have c3b0 : ((l0.length : Int) == (l1.length : Int)) = false := beq_eq_false_iff_ne.mpr c3
    have c3b1 : ((l0.length : Int) != (l1.length : Int)) = true := bne_iff_ne.mpr c3
    have c3b2 : (l0.length == l1.length) = false := by first | simpa using c3 | (simp at c3 ⊢; omega)
    obtain rfl := Option.some.inj H
    go_enter Try.func55, Try.ntmps55
    go_wp2
    repeat (go_quiet (fail); try go_wp2)
    go_ret
    exact ⟨by first | rfl | (simp; done) | (simp [*]; done), by repeat (first | exact Drawn0.refl _ | apply Drawn0.step)⟩

end Go.Proofs.Ythjnkapkhphpeaa.P
end
section
namespace Go.Proofs.Ythjnkapkhphpeaa.P
open Go.RowKit Go.Proofs.YthjnkapkhphpeaaW.PrintWords Go.Proofs.YthjnkapkhphpeaaW.PrintLast Go.Proofs.YthjnkapkhphpeaaW.PrintMore
attribute [local go_sem] max2_int min2_int max_two min_two max_three min_three max_four min_four
set_option linter.unusedVariables false
set_option linter.unusedSimpArgs false

/-! ### node_Same: function 32 -/
def node_Same.f (k : Nat) (a0_0 : Bool) (l0_1 : List (S78)) (a1_0 : Bool) (l1_1 : List (S78)) : Option (Bool) := if (a0_0 == a1_0) = true then ((api_Item_55.f k l0_1 l1_1).bind fun t161 => (some t161)) else (some false)
theorem node_Same.mono : ∀ a0 a1 a2 a3 k, LeO (node_Same.f k a0 a1 a2 a3) (node_Same.f (k + 1) a0 a1 a2 a3) := by
  intro a0 a1 a2 a3 k
  unfold node_Same.f
  repeat' first
      | (with_reducible exact api_Item_55.mono _ _ _)
      | (with_reducible exact LeO.refl _)
      | (with_reducible exact LeO.none _)
      | (with_reducible refine LeO.ite ?_ ?_)
      | (with_reducible refine LeO.bind ?_ (fun _ => ?_))
      | exact api_Item_55.mono _ _ _
      | exact LeO.none _
      | refine LeO.ite ?_ ?_
      | refine LeO.bind ?_ (fun _ => ?_)
set_option maxHeartbeats 8000000 in
set_option maxRecDepth 100000 in
theorem node_Same.calls (k : Nat) (a0_0 : Bool) (A0_1 : Option Addr) (c0_1 : Nat) (l0_1 : List (S78)) (a1_0 : Bool) (A1_1 : Option Addr) (c1_1 : Nat) (l1_1 : List (S78)) (r : Bool) (w : World) (hr0_1 : Kd.C k78 w A0_1 l0_1.length l0_1) (hc0_1 : l0_1.length ≤ c0_1) (hr1_1 : Kd.C k78 w A1_1 l1_1.length l1_1) (hc1_1 : l1_1.length ≤ c1_1) (h : node_Same.f k a0_0 l0_1 a1_0 l1_1 = some r) :
    Calls Try.prog 32 #[.agg #[.bool a0_0, .slice A0_1 l0_1.length c0_1], .agg #[.bool a1_0, .slice A1_1 l1_1.length c1_1]] w fun e w' => e = .returned (.bool r) ∧ Below w.heap.size w w' := by
  have hu56 := Try.underlying56
  have HR0_1 := Aside0.mk hr0_1
  have HC0_1 := Aside0.mk hc0_1
  clear hr0_1 hc0_1
  have HR1_1 := Aside0.mk hr1_1
  have HC1_1 := Aside0.mk hc1_1
  clear hr1_1 hc1_1
  have HB := Aside0.mk (Below.refl w.heap.size w)
  have H : (if (a0_0 == a1_0) = true then ((api_Item_55.f k l0_1 l1_1).bind fun t161 => (some t161)) else (some false)) = some r := h
  clear h
  by_cases c3 : (a0_0 == a1_0) = true
  · rw [if_pos c3] at H
    have c3b0 : (a0_0 == a1_0) = true := c3
    (try (have c3b1 : decide (a0_0 = a1_0) = true := by simpa using c3))
    (try (have c3b2 : (a0_0 == a1_0) = true := by simpa using c3))
    clear c3
    replace H := Option.bind_eq_some_iff.mp H
    obtain ⟨t161, A40, H⟩ := H
    replace H : (some t161) = some r := H
    have A4 := Aside0.mk A40
    clear A40
    obtain rfl := Option.some.inj H
    go_enter Try.func32, Try.ntmps32
    go_wp2_with (first | ((with_reducible refine gate_dst (N := 2) rfl ?_); refine box_event ?hg (N := 2) ?hd (cs := #[.bool a0_0, .slice A0_1 l0_1.length c0_1]) (t := 56) ?hr ?_; (case hd => rfl); (case hg => rfl); (case hr => first | (go_simp; done) | (go_simp; rfl)); intro gb159 hg w5 hbox hb; have n0_ := Aside0.mk (below_step (by repeat (first | (with_reducible first | exact HB.out | apply below_alloc | apply pw_below_drewN | apply below_drew1) | exact HB.out)) hb); have n1_ := Aside0.mk (hbox); have n2_ := Aside0.mk ((by rw [hg]; exact (below_size (by repeat (first | (with_reducible first | exact HB.out | apply below_alloc | apply pw_below_drewN | apply below_drew1) | exact HB.out))) : w.heap.size ≤ gb159)); have n3_ := Aside0.mk ((by rw [hg]; exact (below_size (by repeat (first | (with_reducible first | exact HB.out | apply below_alloc | apply pw_below_drewN | apply below_drew1) | exact HB.out))) : w.heap.size ≤ gb159)); clear HB; have HB := n0_; have BK159 := n1_; have GW159 := n2_; have GE159 := n3_; clear n0_ n1_ n2_ n3_; clear hb hbox hg) | ((with_reducible refine gate_dst (N := 3) rfl ?_); refine box_event ?hg (N := 3) ?hd (cs := #[.bool a1_0, .slice A1_1 l1_1.length c1_1]) (t := 56) ?hr ?_; (case hd => rfl); (case hg => rfl); (case hr => first | (go_simp; done) | (go_simp; rfl)); intro gb160 hg w6 hbox hb; have n0_ := Aside0.mk (blk_below (g := gb159) (o := .cells #[.bool a0_0, .slice A0_1 l0_1.length c0_1] 56 (0, 0)) (by (with_reducible repeat (first | refine blk_drewN ?_ _ | refine blk_drew ?_ | refine blk_alloc ?_ _)); exact BK159.out) hb); have n1_ := Aside0.mk (below_step (by repeat (first | (with_reducible first | exact HB.out | apply below_alloc | apply pw_below_drewN | apply below_drew1 | refine below_set ?_ GE159.out) | exact HB.out)) hb); have n2_ := Aside0.mk (hbox); have n3_ := Aside0.mk ((by rw [hg]; exact (below_size (by repeat (first | (with_reducible first | exact HB.out | apply below_alloc | apply pw_below_drewN | apply below_drew1 | refine below_set ?_ GE159.out) | exact HB.out))) : w.heap.size ≤ gb160)); have n4_ := Aside0.mk ((by rw [hg]; exact (below_size (by repeat (first | (with_reducible first | exact HB.out | apply below_alloc | apply pw_below_drewN | apply below_drew1 | refine below_set ?_ GE159.out) | exact HB.out))) : w.heap.size ≤ gb160)); have n5_ := Aside0.mk ((by rw [hg]; exact Nat.ne_of_lt (blk_lt (g := gb159) (o := .cells #[.bool a0_0, .slice A0_1 l0_1.length c0_1] 56 (0, 0)) (by (with_reducible repeat (first | refine blk_drewN ?_ _ | refine blk_drew ?_ | refine blk_alloc ?_ _)); exact BK159.out)) : gb159 ≠ gb160)); have n6_ := Aside0.mk ((by rw [hg]; exact Nat.ne_of_gt (blk_lt (g := gb159) (o := .cells #[.bool a0_0, .slice A0_1 l0_1.length c0_1] 56 (0, 0)) (by (with_reducible repeat (first | refine blk_drewN ?_ _ | refine blk_drew ?_ | refine blk_alloc ?_ _)); exact BK159.out)) : gb160 ≠ gb159)); clear BK159; clear HB; have BK159 := n0_; have HB := n1_; have BK160 := n2_; have GW160 := n3_; have GE160 := n4_; have NB159_160 := n5_; have NB160_159 := n6_; clear n0_ n1_ n2_ n3_ n4_ n5_ n6_; clear hb hbox hg; have hnb7 := NB159_160.out; have hnc7 := NB160_159.out; have hcz8_0 : w6.cell? ⟨gb159, 0, none⟩ = some (.bool a0_0) := (blk_cell BK159.out 0).trans rfl; have hcz8_1 : w6.cell? ⟨gb159, 1, none⟩ = some (.slice A0_1 l0_1.length c0_1) := (blk_cell BK159.out 1).trans rfl; have hfz8_0 := blk_frozen BK159.out 0; have hfz8_1 := blk_frozen BK159.out 1; have hcz9_0 : w6.cell? ⟨gb160, 0, none⟩ = some (.bool a1_0) := (blk_cell BK160.out 0).trans rfl; have hcz9_1 : w6.cell? ⟨gb160, 1, none⟩ = some (.slice A1_1 l1_1.length c1_1) := (blk_cell BK160.out 1).trans rfl; have hfz9_0 := blk_frozen BK160.out 0; have hfz9_1 := blk_frozen BK160.out 1) | (go_at_call 55; (with_reducible refine (api_Item_55.calls k _ _ l0_1 _ _ l1_1 t161 _ ?side1 ?side2 ?side3 ?side4 A4.out).mono ?_); (case side1 => repeat (first | exact (Kd.C_below HR0_1.out HB.out) | (with_reducible refine Kd.C_alloc ?_ _) | (with_reducible refine Kd.C_drewN ?_ _) | (with_reducible refine Kd.C_drew ?_))); (case side2 => exact HC0_1.out); (case side3 => repeat (first | exact (Kd.C_below HR1_1.out HB.out) | (with_reducible refine Kd.C_alloc ?_ _) | (with_reducible refine Kd.C_drewN ?_ _) | (with_reducible refine Kd.C_drew ?_))); (case side4 => exact HC1_1.out); rintro e w' ⟨rfl, ⟨nd, rfl⟩⟩))
    go_ret
    exact ⟨by first | rfl | (simp [errW_none, errW_some] <;> rfl) | (simp [*, errW_none, errW_some] <;> rfl), by repeat (first | (with_reducible first | exact HB.out | apply below_alloc | apply pw_below_drewN | apply below_drew1 | refine below_set ?_ GE159.out | refine below_set ?_ GE160.out) | exact HB.out)⟩
  · rw [if_neg c3] at H
    have c3b0 : (a0_0 == a1_0) = false := by simpa using c3
    (try (have c3b1 : decide (a0_0 = a1_0) = false := by simpa using c3))
    (try (have c3b2 : (a0_0 == a1_0) = false := by simpa using c3))
    (try (have c3b3 : ¬ (a0_0 = a1_0) := by simpa using c3))
    clear c3
    obtain rfl := Option.some.inj H
    go_enter Try.func32, Try.ntmps32
    go_wp2_with (first | ((with_reducible refine gate_dst (N := 2) rfl ?_); refine box_event ?hg (N := 2) ?hd (cs := #[.bool a0_0, .slice A0_1 l0_1.length c0_1]) (t := 56) ?hr ?_; (case hd => rfl); (case hg => rfl); (case hr => first | (go_simp; done) | (go_simp; rfl)); intro gb159 hg w10 hbox hb; have n0_ := Aside0.mk (below_step (by repeat (first | (with_reducible first | exact HB.out | apply below_alloc | apply pw_below_drewN | apply below_drew1) | exact HB.out)) hb); have n1_ := Aside0.mk (hbox); have n2_ := Aside0.mk ((by rw [hg]; exact (below_size (by repeat (first | (with_reducible first | exact HB.out | apply below_alloc | apply pw_below_drewN | apply below_drew1) | exact HB.out))) : w.heap.size ≤ gb159)); have n3_ := Aside0.mk ((by rw [hg]; exact (below_size (by repeat (first | (with_reducible first | exact HB.out | apply below_alloc | apply pw_below_drewN | apply below_drew1) | exact HB.out))) : w.heap.size ≤ gb159)); clear HB; have HB := n0_; have BK159 := n1_; have GW159 := n2_; have GE159 := n3_; clear n0_ n1_ n2_ n3_; clear hb hbox hg) | ((with_reducible refine gate_dst (N := 3) rfl ?_); refine box_event ?hg (N := 3) ?hd (cs := #[.bool a1_0, .slice A1_1 l1_1.length c1_1]) (t := 56) ?hr ?_; (case hd => rfl); (case hg => rfl); (case hr => first | (go_simp; done) | (go_simp; rfl)); intro gb160 hg w11 hbox hb; have n0_ := Aside0.mk (blk_below (g := gb159) (o := .cells #[.bool a0_0, .slice A0_1 l0_1.length c0_1] 56 (0, 0)) (by (with_reducible repeat (first | refine blk_drewN ?_ _ | refine blk_drew ?_ | refine blk_alloc ?_ _)); exact BK159.out) hb); have n1_ := Aside0.mk (below_step (by repeat (first | (with_reducible first | exact HB.out | apply below_alloc | apply pw_below_drewN | apply below_drew1 | refine below_set ?_ GE159.out) | exact HB.out)) hb); have n2_ := Aside0.mk (hbox); have n3_ := Aside0.mk ((by rw [hg]; exact (below_size (by repeat (first | (with_reducible first | exact HB.out | apply below_alloc | apply pw_below_drewN | apply below_drew1 | refine below_set ?_ GE159.out) | exact HB.out))) : w.heap.size ≤ gb160)); have n4_ := Aside0.mk ((by rw [hg]; exact (below_size (by repeat (first | (with_reducible first | exact HB.out | apply below_alloc | apply pw_below_drewN | apply below_drew1 | refine below_set ?_ GE159.out) | exact HB.out))) : w.heap.size ≤ gb160)); have n5_ := Aside0.mk ((by rw [hg]; exact Nat.ne_of_lt (blk_lt (g := gb159) (o := .cells #[.bool a0_0, .slice A0_1 l0_1.length c0_1] 56 (0, 0)) (by (with_reducible repeat (first | refine blk_drewN ?_ _ | refine blk_drew ?_ | refine blk_alloc ?_ _)); exact BK159.out)) : gb159 ≠ gb160)); have n6_ := Aside0.mk ((by rw [hg]; exact Nat.ne_of_gt (blk_lt (g := gb159) (o := .cells #[.bool a0_0, .slice A0_1 l0_1.length c0_1] 56 (0, 0)) (by (with_reducible repeat (first | refine blk_drewN ?_ _ | refine blk_drew ?_ | refine blk_alloc ?_ _)); exact BK159.out)) : gb160 ≠ gb159)); clear BK159; clear HB; have BK159 := n0_; have HB := n1_; have BK160 := n2_; have GW160 := n3_; have GE160 := n4_; have NB159_160 := n5_; have NB160_159 := n6_; clear n0_ n1_ n2_ n3_ n4_ n5_ n6_; clear hb hbox hg; have hnb12 := NB159_160.out; have hnc12 := NB160_159.out; have hcz13_0 : w11.cell? ⟨gb159, 0, none⟩ = some (.bool a0_0) := (blk_cell BK159.out 0).trans rfl; have hcz13_1 : w11.cell? ⟨gb159, 1, none⟩ = some (.slice A0_1 l0_1.length c0_1) := (blk_cell BK159.out 1).trans rfl; have hfz13_0 := blk_frozen BK159.out 0; have hfz13_1 := blk_frozen BK159.out 1; have hcz14_0 : w11.cell? ⟨gb160, 0, none⟩ = some (.bool a1_0) := (blk_cell BK160.out 0).trans rfl; have hcz14_1 : w11.cell? ⟨gb160, 1, none⟩ = some (.slice A1_1 l1_1.length c1_1) := (blk_cell BK160.out 1).trans rfl; have hfz14_0 := blk_frozen BK160.out 0; have hfz14_1 := blk_frozen BK160.out 1))
    go_ret
    exact ⟨by first | rfl | (simp [errW_none, errW_some] <;> rfl) | (simp [*, errW_none, errW_some] <;> rfl), by repeat (first | (with_reducible first | exact HB.out | apply below_alloc | apply pw_below_drewN | apply below_drew1 | refine below_set ?_ GE159.out | refine below_set ?_ GE160.out) | exact HB.out)⟩

end Go.Proofs.Ythjnkapkhphpeaa.P
end
section
namespace Go.Proofs.Ythjnkapkhphpeaa.P
open Go.RowKit Go.Proofs.YthjnkapkhphpeaaW.PrintWords Go.Proofs.YthjnkapkhphpeaaW.PrintLast Go.Proofs.YthjnkapkhphpeaaW.PrintMore
attribute [local go_sem] max2_int min2_int max_two min_two max_three min_three max_four min_four
set_option linter.unusedVariables false
set_option linter.unusedSimpArgs false

/-! ### assartref04_Same: function 33 -/
def assartref04_Same.f (k : Nat) (a0_0 : Bool) (l0_1 : List (S78)) (a1_0 : Bool) (l1_1 : List (S78)) : Option (Bool) := if (a0_0 == a1_0) = true then ((assartref04_Items.f k l0_1 l1_1).bind fun t277 => (some t277)) else (some false)
theorem assartref04_Same.mono : ∀ a0 a1 a2 a3 k, LeO (assartref04_Same.f k a0 a1 a2 a3) (assartref04_Same.f (k + 1) a0 a1 a2 a3) := by
  intro a0 a1 a2 a3 k
  unfold assartref04_Same.f
  repeat' first
      | (with_reducible exact assartref04_Items.mono _ _ _)
      | (with_reducible exact LeO.refl _)
      | (with_reducible exact LeO.none _)
      | (with_reducible refine LeO.ite ?_ ?_)
      | (with_reducible refine LeO.bind ?_ (fun _ => ?_))
      | exact assartref04_Items.mono _ _ _
      | exact LeO.none _
      | refine LeO.ite ?_ ?_
      | refine LeO.bind ?_ (fun _ => ?_)
set_option maxHeartbeats 8000000 in
set_option maxRecDepth 100000 in
theorem assartref04_Same.calls (k : Nat) (a0_0 : Bool) (A0_1 : Option Addr) (c0_1 : Nat) (l0_1 : List (S78)) (a1_0 : Bool) (A1_1 : Option Addr) (c1_1 : Nat) (l1_1 : List (S78)) (r : Bool) (w : World) (hr0_1 : Kd.C k78 w A0_1 l0_1.length l0_1) (hc0_1 : l0_1.length ≤ c0_1) (hr1_1 : Kd.C k78 w A1_1 l1_1.length l1_1) (hc1_1 : l1_1.length ≤ c1_1) (h : assartref04_Same.f k a0_0 l0_1 a1_0 l1_1 = some r) :
    Calls Try.prog 33 #[.agg #[.bool a0_0, .slice A0_1 l0_1.length c0_1], .agg #[.bool a1_0, .slice A1_1 l1_1.length c1_1]] w fun e w' => e = .returned (.bool r) ∧ Below w.heap.size w w' := by
  have hu56 := Try.underlying56
  have HR0_1 := Aside0.mk hr0_1
  have HC0_1 := Aside0.mk hc0_1
  clear hr0_1 hc0_1
  have HR1_1 := Aside0.mk hr1_1
  have HC1_1 := Aside0.mk hc1_1
  clear hr1_1 hc1_1
  have HB := Aside0.mk (Below.refl w.heap.size w)
  have H : (if (a0_0 == a1_0) = true then ((assartref04_Items.f k l0_1 l1_1).bind fun t277 => (some t277)) else (some false)) = some r := h
  clear h
  by_cases c3 : (a0_0 == a1_0) = true
  · rw [if_pos c3] at H
    have c3b0 : (a0_0 == a1_0) = true := c3
    (try (have c3b1 : decide (a0_0 = a1_0) = true := by simpa using c3))
    (try (have c3b2 : (a0_0 == a1_0) = true := by simpa using c3))
    clear c3
    replace H := Option.bind_eq_some_iff.mp H
    obtain ⟨t277, A40, H⟩ := H
    replace H : (some t277) = some r := H
    have A4 := Aside0.mk A40
    clear A40
    obtain rfl := Option.some.inj H
    go_enter Try.func33, Try.ntmps33
    go_wp2_with (first | ((with_reducible refine gate_dst (N := 2) rfl ?_); refine box_event ?hg (N := 2) ?hd (cs := #[.bool a0_0, .slice A0_1 l0_1.length c0_1]) (t := 56) ?hr ?_; (case hd => rfl); (case hg => rfl); (case hr => first | (go_simp; done) | (go_simp; rfl)); intro gb275 hg w5 hbox hb; have n0_ := Aside0.mk (below_step (by repeat (first | (with_reducible first | exact HB.out | apply below_alloc | apply pw_below_drewN | apply below_drew1) | exact HB.out)) hb); have n1_ := Aside0.mk (hbox); have n2_ := Aside0.mk ((by rw [hg]; exact (below_size (by repeat (first | (with_reducible first | exact HB.out | apply below_alloc | apply pw_below_drewN | apply below_drew1) | exact HB.out))) : w.heap.size ≤ gb275)); have n3_ := Aside0.mk ((by rw [hg]; exact (below_size (by repeat (first | (with_reducible first | exact HB.out | apply below_alloc | apply pw_below_drewN | apply below_drew1) | exact HB.out))) : w.heap.size ≤ gb275)); clear HB; have HB := n0_; have BK275 := n1_; have GW275 := n2_; have GE275 := n3_; clear n0_ n1_ n2_ n3_; clear hb hbox hg) | ((with_reducible refine gate_dst (N := 3) rfl ?_); refine box_event ?hg (N := 3) ?hd (cs := #[.bool a1_0, .slice A1_1 l1_1.length c1_1]) (t := 56) ?hr ?_; (case hd => rfl); (case hg => rfl); (case hr => first | (go_simp; done) | (go_simp; rfl)); intro gb276 hg w6 hbox hb; have n0_ := Aside0.mk (blk_below (g := gb275) (o := .cells #[.bool a0_0, .slice A0_1 l0_1.length c0_1] 56 (0, 0)) (by (with_reducible repeat (first | refine blk_drewN ?_ _ | refine blk_drew ?_ | refine blk_alloc ?_ _)); exact BK275.out) hb); have n1_ := Aside0.mk (below_step (by repeat (first | (with_reducible first | exact HB.out | apply below_alloc | apply pw_below_drewN | apply below_drew1 | refine below_set ?_ GE275.out) | exact HB.out)) hb); have n2_ := Aside0.mk (hbox); have n3_ := Aside0.mk ((by rw [hg]; exact (below_size (by repeat (first | (with_reducible first | exact HB.out | apply below_alloc | apply pw_below_drewN | apply below_drew1 | refine below_set ?_ GE275.out) | exact HB.out))) : w.heap.size ≤ gb276)); have n4_ := Aside0.mk ((by rw [hg]; exact (below_size (by repeat (first | (with_reducible first | exact HB.out | apply below_alloc | apply pw_below_drewN | apply below_drew1 | refine below_set ?_ GE275.out) | exact HB.out))) : w.heap.size ≤ gb276)); have n5_ := Aside0.mk ((by rw [hg]; exact Nat.ne_of_lt (blk_lt (g := gb275) (o := .cells #[.bool a0_0, .slice A0_1 l0_1.length c0_1] 56 (0, 0)) (by (with_reducible repeat (first | refine blk_drewN ?_ _ | refine blk_drew ?_ | refine blk_alloc ?_ _)); exact BK275.out)) : gb275 ≠ gb276)); have n6_ := Aside0.mk ((by rw [hg]; exact Nat.ne_of_gt (blk_lt (g := gb275) (o := .cells #[.bool a0_0, .slice A0_1 l0_1.length c0_1] 56 (0, 0)) (by (with_reducible repeat (first | refine blk_drewN ?_ _ | refine blk_drew ?_ | refine blk_alloc ?_ _)); exact BK275.out)) : gb276 ≠ gb275)); clear BK275; clear HB; have BK275 := n0_; have HB := n1_; have BK276 := n2_; have GW276 := n3_; have GE276 := n4_; have NB275_276 := n5_; have NB276_275 := n6_; clear n0_ n1_ n2_ n3_ n4_ n5_ n6_; clear hb hbox hg; have hnb7 := NB275_276.out; have hnc7 := NB276_275.out; have hcz8_0 : w6.cell? ⟨gb275, 0, none⟩ = some (.bool a0_0) := (blk_cell BK275.out 0).trans rfl; have hcz8_1 : w6.cell? ⟨gb275, 1, none⟩ = some (.slice A0_1 l0_1.length c0_1) := (blk_cell BK275.out 1).trans rfl; have hfz8_0 := blk_frozen BK275.out 0; have hfz8_1 := blk_frozen BK275.out 1; have hcz9_0 : w6.cell? ⟨gb276, 0, none⟩ = some (.bool a1_0) := (blk_cell BK276.out 0).trans rfl; have hcz9_1 : w6.cell? ⟨gb276, 1, none⟩ = some (.slice A1_1 l1_1.length c1_1) := (blk_cell BK276.out 1).trans rfl; have hfz9_0 := blk_frozen BK276.out 0; have hfz9_1 := blk_frozen BK276.out 1) | (go_at_call 40; (with_reducible refine (assartref04_Items.calls k _ _ l0_1 _ _ l1_1 t277 _ ?side1 ?side2 ?side3 ?side4 A4.out).mono ?_); (case side1 => repeat (first | exact (Kd.C_below HR0_1.out HB.out) | (with_reducible refine Kd.C_alloc ?_ _) | (with_reducible refine Kd.C_drewN ?_ _) | (with_reducible refine Kd.C_drew ?_))); (case side2 => exact HC0_1.out); (case side3 => repeat (first | exact (Kd.C_below HR1_1.out HB.out) | (with_reducible refine Kd.C_alloc ?_ _) | (with_reducible refine Kd.C_drewN ?_ _) | (with_reducible refine Kd.C_drew ?_))); (case side4 => exact HC1_1.out); rintro e w' ⟨rfl, ⟨nd, rfl⟩⟩))
    go_ret
    exact ⟨by first | rfl | (simp [errW_none, errW_some] <;> rfl) | (simp [*, errW_none, errW_some] <;> rfl), by repeat (first | (with_reducible first | exact HB.out | apply below_alloc | apply pw_below_drewN | apply below_drew1 | refine below_set ?_ GE275.out | refine below_set ?_ GE276.out) | exact HB.out)⟩
  · rw [if_neg c3] at H
    have c3b0 : (a0_0 == a1_0) = false := by simpa using c3
    (try (have c3b1 : decide (a0_0 = a1_0) = false := by simpa using c3))
    (try (have c3b2 : (a0_0 == a1_0) = false := by simpa using c3))
    (try (have c3b3 : ¬ (a0_0 = a1_0) := by simpa using c3))
    clear c3
    obtain rfl := Option.some.inj H
    go_enter Try.func33, Try.ntmps33
    go_wp2_with (first | ((with_reducible refine gate_dst (N := 2) rfl ?_); refine box_event ?hg (N := 2) ?hd (cs := #[.bool a0_0, .slice A0_1 l0_1.length c0_1]) (t := 56) ?hr ?_; (case hd => rfl); (case hg => rfl); (case hr => first | (go_simp; done) | (go_simp; rfl)); intro gb275 hg w10 hbox hb; have n0_ := Aside0.mk (below_step (by repeat (first | (with_reducible first | exact HB.out | apply below_alloc | apply pw_below_drewN | apply below_drew1) | exact HB.out)) hb); have n1_ := Aside0.mk (hbox); have n2_ := Aside0.mk ((by rw [hg]; exact (below_size (by repeat (first | (with_reducible first | exact HB.out | apply below_alloc | apply pw_below_drewN | apply below_drew1) | exact HB.out))) : w.heap.size ≤ gb275)); have n3_ := Aside0.mk ((by rw [hg]; exact (below_size (by repeat (first | (with_reducible first | exact HB.out | apply below_alloc | apply pw_below_drewN | apply below_drew1) | exact HB.out))) : w.heap.size ≤ gb275)); clear HB; have HB := n0_; have BK275 := n1_; have GW275 := n2_; have GE275 := n3_; clear n0_ n1_ n2_ n3_; clear hb hbox hg) | ((with_reducible refine gate_dst (N := 3) rfl ?_); refine box_event ?hg (N := 3) ?hd (cs := #[.bool a1_0, .slice A1_1 l1_1.length c1_1]) (t := 56) ?hr ?_; (case hd => rfl); (case hg => rfl); (case hr => first | (go_simp; done) | (go_simp; rfl)); intro gb276 hg w11 hbox hb; have n0_ := Aside0.mk (blk_below (g := gb275) (o := .cells #[.bool a0_0, .slice A0_1 l0_1.length c0_1] 56 (0, 0)) (by (with_reducible repeat (first | refine blk_drewN ?_ _ | refine blk_drew ?_ | refine blk_alloc ?_ _)); exact BK275.out) hb); have n1_ := Aside0.mk (below_step (by repeat (first | (with_reducible first | exact HB.out | apply below_alloc | apply pw_below_drewN | apply below_drew1 | refine below_set ?_ GE275.out) | exact HB.out)) hb); have n2_ := Aside0.mk (hbox); have n3_ := Aside0.mk ((by rw [hg]; exact (below_size (by repeat (first | (with_reducible first | exact HB.out | apply below_alloc | apply pw_below_drewN | apply below_drew1 | refine below_set ?_ GE275.out) | exact HB.out))) : w.heap.size ≤ gb276)); have n4_ := Aside0.mk ((by rw [hg]; exact (below_size (by repeat (first | (with_reducible first | exact HB.out | apply below_alloc | apply pw_below_drewN | apply below_drew1 | refine below_set ?_ GE275.out) | exact HB.out))) : w.heap.size ≤ gb276)); have n5_ := Aside0.mk ((by rw [hg]; exact Nat.ne_of_lt (blk_lt (g := gb275) (o := .cells #[.bool a0_0, .slice A0_1 l0_1.length c0_1] 56 (0, 0)) (by (with_reducible repeat (first | refine blk_drewN ?_ _ | refine blk_drew ?_ | refine blk_alloc ?_ _)); exact BK275.out)) : gb275 ≠ gb276)); have n6_ := Aside0.mk ((by rw [hg]; exact Nat.ne_of_gt (blk_lt (g := gb275) (o := .cells #[.bool a0_0, .slice A0_1 l0_1.length c0_1] 56 (0, 0)) (by (with_reducible repeat (first | refine blk_drewN ?_ _ | refine blk_drew ?_ | refine blk_alloc ?_ _)); exact BK275.out)) : gb276 ≠ gb275)); clear BK275; clear HB; have BK275 := n0_; have HB := n1_; have BK276 := n2_; have GW276 := n3_; have GE276 := n4_; have NB275_276 := n5_; have NB276_275 := n6_; clear n0_ n1_ n2_ n3_ n4_ n5_ n6_; clear hb hbox hg; have hnb12 := NB275_276.out; have hnc12 := NB276_275.out; have hcz13_0 : w11.cell? ⟨gb275, 0, none⟩ = some (.bool a0_0) := (blk_cell BK275.out 0).trans rfl; have hcz13_1 : w11.cell? ⟨gb275, 1, none⟩ = some (.slice A0_1 l0_1.length c0_1) := (blk_cell BK275.out 1).trans rfl; have hfz13_0 := blk_frozen BK275.out 0; have hfz13_1 := blk_frozen BK275.out 1; have hcz14_0 : w11.cell? ⟨gb276, 0, none⟩ = some (.bool a1_0) := (blk_cell BK276.out 0).trans rfl; have hcz14_1 : w11.cell? ⟨gb276, 1, none⟩ = some (.slice A1_1 l1_1.length c1_1) := (blk_cell BK276.out 1).trans rfl; have hfz14_0 := blk_frozen BK276.out 0; have hfz14_1 := blk_frozen BK276.out 1))
    go_ret
    exact ⟨by first | rfl | (simp [errW_none, errW_some] <;> rfl) | (simp [*, errW_none, errW_some] <;> rfl), by repeat (first | (with_reducible first | exact HB.out | apply below_alloc | apply pw_below_drewN | apply below_drew1 | refine below_set ?_ GE275.out | refine below_set ?_ GE276.out) | exact HB.out)⟩

end Go.Proofs.Ythjnkapkhphpeaa.P
end
section
/- node.Split: items in rows that nodes can have (drafted by xprint.py, mended by mend.py). -/
namespace Go.Proofs.Ythjnkapkhphpeaa.P
open Go.RowKit Go.Proofs.YthjnkapkhphpeaaW.PrintWords Go.Proofs.YthjnkapkhphpeaaW.PrintLast Go.Proofs.YthjnkapkhphpeaaW.PrintMore
attribute [local go_sem] max2_int min2_int max_two min_two max_three min_three max_four min_four
set_option linter.unusedVariables false
set_option linter.unusedSimpArgs false

/-! ### node_Split: function 38 -/
def node_Split.f : Nat → List (S78) → Option ((List (List (S78))))
  | 0, _ => none
  | k + 1, l0 => if (l0.length : Int) = 0 then (some ([] : List (List (S78)))) else (if (l0.length : Int) ≤ 4 then (some (([l0] : List (List (S78))))) else (if 3 ≤ (l0.length : Int) then ((some (([(l0.take 3)] : List (List (S78))) : List (List (S78)))).bind fun y170 => ((node_Split.f k (l0.drop 3)).bind fun t178 => (if y170.length + t178.length < 5864062014805 then (some (y170 ++ t178)) else (none)))) else (none)))
theorem node_Split.mono_l : ∀ k, (∀ y0, LeO (node_Split.f k y0) (node_Split.f (k + 1) y0))
  | 0 => fun _ r h => by simp [node_Split.f] at h
  | k + 1 => by
    have ih0 := node_Split.mono_l k
    · intro y0
      unfold node_Split.f
      repeat' first
      | (with_reducible exact ih0 _)
      | (with_reducible exact LeO.refl _)
      | (with_reducible exact LeO.none _)
      | (with_reducible refine LeO.ite ?_ ?_)
      | (with_reducible refine LeO.bind ?_ (fun _ => ?_))
      | exact ih0 _
      | exact LeO.none _
      | refine LeO.ite ?_ ?_
      | refine LeO.bind ?_ (fun _ => ?_)
theorem node_Split.mono : ∀ a0 k, LeO (node_Split.f k a0) (node_Split.f (k + 1) a0) := by
  intro a0 k
  have ih0 := node_Split.mono_l k
  exact ih0 a0
def node_Split.T5 : Bool × List (List Nat × List Nat) := (true, [([], []), ([0], [0]), ([1], [1]), ([], []), ([3], [3]), ([4], [4]), ([2, 5, 5], [2, 5]), ([6, 6, 0, 1, 2, 3, 4, 5, 6], [6])])
def node_Split.B5 : List Nat := [0, 1, 3, 0, 8, 24, 63, 127]
theorem node_Split.tab5 : rtab .any (opsOf Try.f38 5) = node_Split.T5 := by kernel_rfl
theorem node_Split.bits5 : waitsOk node_Split.T5.2 node_Split.B5 = true := by kernel_rfl
set_option maxHeartbeats 8000000 in
set_option maxRecDepth 100000 in
theorem node_Split.calls (k : Nat) : ∀ (P0_ : Nat → Prop) (A0 : Option Addr) (c0 : Nat) (l0 : List (S78)) (r : List (List (S78))) (w : World) (hs0 : Kd.V k78 78 w w.heap.size (fun k_ => P0_ k_) (.slice A0 l0.length c0) l0) (h : node_Split.f k l0 = some r),
    Calls Try.prog 38 #[.slice A0 l0.length c0] w fun e w' => ∃ v0_ : Value, e = .returned (v0_) ∧ Kd.N (Kd.slice 78 k78) 54 w' w.heap.size (fun k_ => (P0_ k_ ∨ w.heap.size ≤ k_)) v0_ r ∧ Below w.heap.size w w' := by
  induction k using Nat.strongRecOn with
  | _ k ih =>
  intro P0_ A0 c0 l0 r w hs0 h
  cases k with
  | zero => exact absurd h (by simp [node_Split.f])
  | succ k =>
  simp only [node_Split.f] at h
  have HO0 := Aside0.mk (show Kd.V k78 78 w w.heap.size (fun k_ => (P0_ k_ ∨ w.heap.size ≤ k_)) (.slice A0 l0.length c0) l0 from Kd.V_mono hs0 (fun k_ hk => .inl hk))
  have HB := Aside0.mk (Below.refl w.heap.size w)
  have H : (if (l0.length : Int) = 0 then (some ([] : List (List (S78)))) else (if (l0.length : Int) ≤ 4 then (some (([l0] : List (List (S78))))) else (if 3 ≤ (l0.length : Int) then ((some (([(l0.take 3)] : List (List (S78))) : List (List (S78)))).bind fun y170 => ((node_Split.f k (l0.drop 3)).bind fun t178 => (if y170.length + t178.length < 5864062014805 then (some (y170 ++ t178)) else (none)))) else (none)))) = some r := h
  clear h
  by_cases c2 : (l0.length : Int) = 0
  · rw [if_pos c2] at H
    have c2b0 : ((l0.length : Int) == 0) = true := beq_iff_eq.mpr c2
    have c2b1 : ((l0.length : Int) != 0) = false := bne_eq_false_iff_eq.mpr c2
    clear c2
    obtain rfl := Option.some.inj H
    go_enter Try.func38, Try.ntmps38
    go_wp2
    go_ret
    exact ⟨_, by first | rfl | (simp [errW_none, errW_some] <;> rfl) | (simp [*, errW_none, errW_some] <;> rfl), by first | exact Kd.S_nil _ _ _ _ _ | exact Kd.N_nil _ _ _ _ _ | exact Kd.V_nil _ _ _ _ _ | exact Kd.Q_nil _ _ _ _ _ | exact Kd.R_nil _ _ _ _ _, by repeat (first | (with_reducible first | exact HB.out | apply below_alloc | apply pw_below_drewN | apply below_drew1) | exact HB.out)⟩
  · rw [if_neg c2] at H
    have c2b0 : ((l0.length : Int) == 0) = false := beq_eq_false_iff_ne.mpr c2
    have c2b1 : ((l0.length : Int) != 0) = true := bne_iff_ne.mpr c2
    have c2b2 : ¬ (l0 = []) := fun h_ => c2 (by rw [h_]; rfl)
    by_cases c3 : (l0.length : Int) ≤ 4
    · rw [if_pos c3] at H
      have c3b0 : decide ((l0.length : Int) ≤ 4) = true := decide_eq_true c3
      have c3b1 : decide (l0.length ≤ 4) = true := decide_eq_true (by omega)
      clear c3
      obtain ⟨y162, hy162⟩ : ∃ y_ : List (List (S78)), y_ = (([l0] : List (List (S78)))) := ⟨_, rfl⟩
      replace H : (some y162) = some r := by first | (rw [hy162]; with_reducible exact H) | (have H2_ := (Option.bind_some _ _).symm.trans H; rw [hy162]; with_reducible exact H2_) | (have H2_ := (Option.bind_some _ _).symm.trans H; with_reducible exact H2_) | with_reducible exact H | (rw [hy162]; exact H) | exact H
      have Ny162 := Aside0.mk hy162
      clear hy162
      obtain rfl := Option.some.inj H
      go_enter Try.func38, Try.ntmps38
      go_wp2_with (first | ((with_reducible refine gate_dst (N := 12) rfl ?_); refine Kd.N_lit (Kd.slice 78 k78) _ 54 ?hg (N' := 12) ?hd (xs := ([l0] : List (List (S78)))) (inner := [.slice A0 l0.length c0]) (ok := (fun k_ => (P0_ k_ ∨ w.heap.size ≤ k_))) (okp := (fun k_ => (P0_ k_ ∨ w.heap.size ≤ k_))) ?hr ?hp (fun _ hk => hk) ((show ∀ k_, w.heap.size ≤ k_ → (fun k_ => (P0_ k_ ∨ w.heap.size ≤ k_)) k_ from fun k_ hk => (.inr (Nat.le_trans (below_size (by repeat (first | (with_reducible first | exact HB.out | apply below_alloc | apply pw_below_drewN | apply below_drew1) | exact HB.out))) hk))) _ (Nat.le_refl _)) (Below.refl _ _) (Nat.le_refl _) (by simp) ?_; (case hd => rfl); (case hg => rfl); (case hr => first | (go_simp; done) | (go_simp; rfl)); (case hp => exact (Reps.one (show Kd.FK (Kd.slice 78 k78) _ _ l0 [.slice A0 l0.length c0] from (Kd.FK_slice_mk (Kd.V_reads' (Kd.V_mono (ok' := (fun k_ => (P0_ k_ ∨ w.heap.size ≤ k_))) (HO0.out) (fun k_ hk => hk))).2.1 (Kd.V_F (Kd.V_mono (ok' := (fun k_ => (P0_ k_ ∨ w.heap.size ≤ k_))) (HO0.out) (fun k_ hk => hk))))) (Reps.none _ _))); intro v163 w4 ho5 hb hg_ hnew_; clear hg_ hnew_; (first | rw [← Ny162.out] at ho5 | (simp only [Int.reduceToNat] at ho5; rw [← Ny162.out] at ho5)); have n0_ := Aside0.mk (Kd.V_elder' (by (with_reducible repeat (first | apply Kd.V_alloc | apply Kd.V_drewN | apply Kd.V_drew)); exact HO0.out) (Kd.N_base ho5) hb); have n1_ := Aside0.mk (Kd.N_lower ho5 (below_size (by repeat (first | (with_reducible first | exact HB.out | apply below_alloc | apply pw_below_drewN | apply below_drew1) | exact HB.out)))); have n2_ := Aside0.mk (below_step (by repeat (first | (with_reducible first | exact HB.out | apply below_alloc | apply pw_below_drewN | apply below_drew1) | exact HB.out)) hb); clear HO0; clear HB; have HO0 := n0_; have HO164 := n1_; have HB := n2_; clear n0_ n1_ n2_; clear hb ho5))
      go_ret
      exact ⟨_, by first | rfl | (simp [errW_none, errW_some] <;> rfl) | (simp [*, errW_none, errW_some] <;> rfl), by (with_reducible repeat (first | apply Kd.N_alloc | apply Kd.N_drewN | apply Kd.N_drew)); exact HO164.out, by repeat (first | (with_reducible first | exact HB.out | apply below_alloc | apply pw_below_drewN | apply below_drew1) | exact HB.out)⟩
    · rw [if_neg c3] at H
      have c3b0 : decide ((l0.length : Int) ≤ 4) = false := decide_eq_false c3
      have c3b1 : decide (l0.length ≤ 4) = false := decide_eq_false (by omega)
      clear c3
      by_cases c6 : 3 ≤ (l0.length : Int)
      · rw [if_pos c6] at H
        have c6b0 := eq_true c6
        have c6b1 : decide (3 ≤ (l0.length : Int)) = true := decide_eq_true c6
        clear c6
        obtain ⟨y165, hy165⟩ : ∃ y_ : List (S78), y_ = (l0.take 3) := ⟨_, rfl⟩
        replace H : ((some (([y165] : List (List (S78))) : List (List (S78)))).bind fun y170 => ((node_Split.f k (l0.drop 3)).bind fun t178 => (if y170.length + t178.length < 5864062014805 then (some (y170 ++ t178)) else (none)))) = some r := by first | (rw [hy165]; with_reducible exact H) | (have H2_ := (Option.bind_some _ _).symm.trans H; rw [hy165]; with_reducible exact H2_) | (have H2_ := (Option.bind_some _ _).symm.trans H; with_reducible exact H2_) | with_reducible exact H | (rw [hy165]; exact H) | exact H
        have Ny165 := Aside0.mk hy165
        clear hy165
        obtain ⟨y170, hy170⟩ : ∃ y_ : List (List (S78)), y_ = (([y165] : List (List (S78)))) := ⟨_, rfl⟩
        replace H : ((node_Split.f k (l0.drop 3)).bind fun t178 => (if y170.length + t178.length < 5864062014805 then (some (y170 ++ t178)) else (none))) = some r := by first | (rw [hy170]; with_reducible exact H) | (have H2_ := (Option.bind_some _ _).symm.trans H; rw [hy170]; with_reducible exact H2_) | (have H2_ := (Option.bind_some _ _).symm.trans H; with_reducible exact H2_) | with_reducible exact H | (rw [hy170]; exact H) | exact H
        have Ny170 := Aside0.mk hy170
        clear hy170
        have c7b0 := eq_true (of_decide_eq_true (by first | (with_reducible assumption) | assumption) : 3 ≤ (l0.length : Int))
        obtain ⟨y173, hy173⟩ : ∃ y_ : List (S78), y_ = (l0.drop 3) := ⟨_, rfl⟩
        replace H : ((node_Split.f k y173).bind fun t178 => (if y170.length + t178.length < 5864062014805 then (some (y170 ++ t178)) else (none))) = some r := by first | (rw [hy173]; with_reducible exact H) | (have H2_ := (Option.bind_some _ _).symm.trans H; rw [hy173]; with_reducible exact H2_) | (have H2_ := (Option.bind_some _ _).symm.trans H; with_reducible exact H2_) | with_reducible exact H | (rw [hy173]; exact H) | exact H
        have Ny173 := Aside0.mk hy173
        clear hy173
        replace H := Option.bind_eq_some_iff.mp H
        obtain ⟨t178, A80, H⟩ := H
        replace H : (if y170.length + t178.length < 5864062014805 then (some (y170 ++ t178)) else (none)) = some r := H
        have A8 := Aside0.mk A80
        clear A80
        by_cases c9 : y170.length + t178.length < 5864062014805
        · rw [if_pos c9] at H
          have LMc9 := Aside0.mk c9
          clear c9
          obtain ⟨y181, hy181⟩ : ∃ y_ : List (List (S78)), y_ = (y170 ++ t178) := ⟨_, rfl⟩
          replace H : (some y181) = some r := by first | (rw [hy181]; with_reducible exact H) | (have H2_ := (Option.bind_some _ _).symm.trans H; rw [hy181]; with_reducible exact H2_) | (have H2_ := (Option.bind_some _ _).symm.trans H; with_reducible exact H2_) | with_reducible exact H | (rw [hy181]; exact H) | exact H
          have Ny181 := Aside0.mk hy181
          clear hy181
          obtain rfl := Option.some.inj H
          go_enter Try.func38, Try.ntmps38
          try go_wp2
          have n0_ := Aside0.mk (Kd.V_drew HO0.out)
          have n1_ := Aside0.mk (below_drew1 HB.out)
          clear HO0
          clear HB
          have HO0 := n0_
          have HB := n1_
          clear n0_ n1_
          have q11 : (3 : Int) ≤ ((l0.length : Int) : Int) := of_decide_eq_true (by first | (with_reducible assumption) | assumption)
          obtain ⟨i011, hi011, _, hsz11, _⟩ := info_parts info78
          have hroom11 : l0.length ≤ c0 := (Kd.V_reads' HO0.out).2.1
          have hC11 : Kd.F k78 _ _ A0 l0.length l0 := (Kd.V_at (base := w.heap.size) HO0.out).2.2
          have hcut11 := cut_hm (P := Try.prog) 54 78 .i64 Try.underlying54 hi011 A0 l0.length c0 3 (by omega) q11 hroom11
          have hr11 := Kd.F_take (m := 3) hC11 (by omega)
          have hy11 : y165.length = (3 : Int).toNat := (by rw [Ny165.out, List.length_take]; omega)
          rw [← Ny165.out] at hr11
          rw [← hy11] at hcut11
          have HO169 := Aside0.mk (show Kd.V k78 78 _ w.heap.size _ (.slice A0 y165.length y165.length) y165 from Kd.V_mk (by omega) hr11)
          have HC169 := Aside0.mk (show y165.length ≤ y165.length from by omega)
          clear hr11 hC11 hroom11 hi011 hsz11
          have KY11 := Aside0.mk hy11
          clear hy11
          replace q11 := eq_true q11
          have q12 : (3 : Int) ≤ ((l0.length : Int) : Int) := of_decide_eq_true (by first | (with_reducible assumption) | assumption)
          obtain ⟨i012, hi012, _, hsz12, _⟩ := info_parts info78
          have hroom12 : l0.length ≤ c0 := (Kd.V_reads' HO0.out).2.1
          have hC12 : Kd.F k78 _ _ A0 l0.length l0 := (Kd.V_at (base := w.heap.size) HO0.out).2.2
          have hcut12 := cut_from (P := Try.prog) 54 78 .i64 Try.underlying54 hi012 2 hsz12 A0 l0.length c0 3 (by omega) q12
          have hr12 := Kd.F_cut (m := (3 : Int).toNat) (c := c0) hC12 (by omega) hroom12
          obtain ⟨A12, hA12⟩ : ∃ A1, A1 = (if c0 = (3 : Int).toNat then A0 else (A0 : Option Addr).map (·.add ((3 : Int).toNat * 2))) := ⟨_, rfl⟩
          obtain ⟨c12, hc12⟩ : ∃ c1, c1 = c0 - (3 : Int).toNat := ⟨_, rfl⟩
          have hy12 : y173.length = l0.length - (3 : Int).toNat := (by rw [Ny173.out, List.length_drop] <;> omega)
          rw [show (l0).drop (3 : Int).toNat = y173 from Ny173.out.symm] at hr12
          replace hr12 : Kd.F k78 _ _ A12 y173.length y173 := (by rw [hA12]; exact hr12)
          rw [← hy12, ← hA12, ← hc12] at hcut12
          have HO177 := Aside0.mk (show Kd.V k78 78 _ w.heap.size _ (.slice A12 y173.length c12) y173 from Kd.V_mk (by rw [hy12, hc12]; exact Nat.sub_le_sub_right hroom12 _) hr12)
          have HC177 := Aside0.mk (show y173.length ≤ c12 from by rw [hy12, hc12]; exact Nat.sub_le_sub_right hroom12 _)
          clear hr12 hC12 hroom12 hi012 hsz12 hc12
          have KY12 := Aside0.mk hy12
          have KA12 := Aside0.mk hA12
          clear hy12 hA12
          replace q12 := eq_true q12
          refine start_ (n := 8) (S := fun w' => True) (ds := []) #[false, false, false, false, false, false, false, false] (by kernel_rfl) rfl rfl trivial (fun hHeld => ?_); refine with_tabW node_Split.tab5 node_Split.bits5 (fun HT_ HW_ => ?_)
          generalize w.drew = w10 at HO0 HB HO169 HO177 hHeld ⊢
          refine pure_ (i := 0) (N := some 13) (v := ?_) (a' := ?_) #[true, false, false, false, false, false, false, false] rfl rfl (any_of HT_.out (by kernel_rfl)) (fun _ _ _ h => h) (Or.inl ⟨by rfl, ?_⟩) ?_ ?_
          rotate_left
          · intro w'
            go_simp
            with_reducible rfl
          rotate_left
          · simp only [Act.put, List.setIfInBounds_toArray, List.set_cons_zero, List.set_cons_succ, i64_w, i32_w]
            rfl
          refine pure_ (i := 1) (N := some 14) (v := ?_) (a' := ?_) #[true, true, false, false, false, false, false, false] rfl rfl (any_of HT_.out (by kernel_rfl)) (fun _ _ _ h => h) (Or.inl ⟨by rfl, ?_⟩) ?_ ?_
          rotate_left
          · intro w'
            go_simp
            with_reducible rfl
          rotate_left
          · simp only [Act.put, List.setIfInBounds_toArray, List.set_cons_zero, List.set_cons_succ, i64_w, i32_w]
            rfl
          refine pure_ (i := 3) (N := some 16) (v := ?_) (a' := ?_) #[true, true, false, true, false, false, false, false] rfl rfl (any_of HT_.out (by kernel_rfl)) (fun _ _ _ h => h) (Or.inl ⟨by rfl, ?_⟩) ?_ ?_
          rotate_left
          · intro w'
            go_simp
            with_reducible rfl
          rotate_left
          · simp only [Act.put, List.setIfInBounds_toArray, List.set_cons_zero, List.set_cons_succ, i64_w, i32_w]
            rfl
          refine pure_ (i := 4) (N := some 17) (v := ?_) (a' := ?_) #[true, true, false, true, true, false, false, false] rfl rfl (any_of HT_.out (by kernel_rfl)) (fun _ _ _ h => h) (Or.inl ⟨by rfl, ?_⟩) ?_ ?_
          rotate_left
          · intro w'
            go_simp
            with_reducible rfl
          rotate_left
          · simp only [Act.put, List.setIfInBounds_toArray, List.set_cons_zero, List.set_cons_succ, i64_w, i32_w]
            rfl
          refine join_ (σ := Value × Value) 2 #[true, true, true, true, true, true, false, false] (fun s_ => [(15, s_.1), (18, s_.2)]) (fun s_ w' => (Kd.V k78 78 w' w.heap.size (fun k_ => (P0_ k_ ∨ w.heap.size ≤ k_) ∧ some k_ ≠ (s_.1 : Value).ownBlock ∧ some k_ ≠ (s_.2 : Value).ownBlock) (.slice A0 l0.length c0) l0) ∧ (Kd.V k78 78 w' w.heap.size (fun k_ => (P0_ k_ ∨ w.heap.size ≤ k_) ∧ some k_ ≠ (s_.1 : Value).ownBlock ∧ some k_ ≠ (s_.2 : Value).ownBlock) (.slice A0 y165.length y165.length) y165) ∧ (Kd.N (Kd.slice 78 k78) 54 w' w.heap.size (fun k_ => (P0_ k_ ∨ w.heap.size ≤ k_) ∧ some k_ ≠ (s_.2 : Value).ownBlock) s_.1 y170) ∧ (Kd.V k78 78 w' w.heap.size (fun k_ => (P0_ k_ ∨ w.heap.size ≤ k_) ∧ some k_ ≠ (s_.1 : Value).ownBlock ∧ some k_ ≠ (s_.2 : Value).ownBlock) (.slice A12 y173.length c12) y173) ∧ (Kd.N (Kd.slice 78 k78) 54 w' w.heap.size (fun k_ => (P0_ k_ ∨ w.heap.size ≤ k_) ∧ some k_ ≠ (s_.1 : Value).ownBlock) s_.2 t178) ∧ (Below w.heap.size w w')) ?_ ?_
          rotate_left
          · intro hCont
            refine two_ (i := 2) (j := 5) (Ni := some 15) (Nj := some 18) #[true, true, true, true, true, false, false, false] #[true, true, false, true, true, true, false, false] rfl rfl rfl rfl (two_of HT_.out (by kernel_rfl)) (by decide) (by decide) (fun K hK => ?_) (fun K hK => ?_)
            · skip
              refine Kd.N_lit_step (Kd.slice 78 k78) _ 54 ?hg (N' := 15) ?hd (xs := ([y165] : List (List (S78)))) (inner := [.slice A0 y165.length y165.length]) (ok := (fun k_ => (P0_ k_ ∨ w.heap.size ≤ k_))) (okp := (fun k_ => (P0_ k_ ∨ w.heap.size ≤ k_))) ?hr ?hp (fun _ hk => hk) ((show ∀ k_, w10.heap.size ≤ k_ → (fun k_ => (P0_ k_ ∨ w.heap.size ≤ k_)) k_ from fun k_ hk => (.inr (Nat.le_trans (below_size (by repeat (first | (with_reducible first | exact HB.out | apply below_alloc | apply pw_below_drewN | apply below_drew1) | exact HB.out))) hk))) _ (Nat.le_refl _)) (Below.refl _ _) (Nat.le_refl _) (by simp) ?_; (case hd => rfl); (case hg => rfl); (case hr => first | (go_simp; done) | (go_simp; rfl)); (case hp => exact (Reps.one (show Kd.FK (Kd.slice 78 k78) _ _ y165 [.slice A0 y165.length y165.length] from (Kd.FK_slice_mk (Kd.V_reads' (Kd.V_mono (ok' := (fun k_ => (P0_ k_ ∨ w.heap.size ≤ k_))) (HO169.out) (fun k_ hk => hk))).2.1 (Kd.V_F (Kd.V_mono (ok' := (fun k_ => (P0_ k_ ∨ w.heap.size ≤ k_))) (HO169.out) (fun k_ hk => hk))))) (Reps.none _ _)))
              intro v171 w13 ho14 hb hg_ hnew_
              clear hg_ hnew_
              (first | rw [← Ny170.out] at ho14 | (simp only [Int.reduceToNat] at ho14; rw [← Ny170.out] at ho14))
              have n0_ := Aside0.mk (Kd.V_elder' (by (with_reducible repeat (first | apply Kd.V_alloc | apply Kd.V_drewN | apply Kd.V_drew)); exact HO0.out) (Kd.N_base ho14) hb)
              have n1_ := Aside0.mk (Kd.V_elder' (by (with_reducible repeat (first | apply Kd.V_alloc | apply Kd.V_drewN | apply Kd.V_drew)); exact HO169.out) (Kd.N_base ho14) hb)
              have n2_ := Aside0.mk (Kd.V_elder' (by (with_reducible repeat (first | apply Kd.V_alloc | apply Kd.V_drewN | apply Kd.V_drew)); exact HO177.out) (Kd.N_base ho14) hb)
              have n3_ := Aside0.mk (Kd.N_lower ho14 (below_size (by repeat (first | (with_reducible first | exact HB.out | apply below_alloc | apply pw_below_drewN | apply below_drew1) | exact HB.out))))
              have n4_ := Aside0.mk (below_step (by repeat (first | (with_reducible first | exact HB.out | apply below_alloc | apply pw_below_drewN | apply below_drew1) | exact HB.out)) hb)
              clear HO0
              clear HO169
              clear HO177
              clear HB
              have HO0 := n0_
              have HO169 := n1_
              have HO177 := n2_
              have HO172 := n3_
              have HB := n4_
              clear n0_ n1_ n2_ n3_ n4_
              clear hb ho14
              refine hK.out _ _ trivial (fun hHeld => ?_)
              clear hK K
              refine norm_ (a' := ?_) ?_ ?_
              rotate_left
              · show Act.put _ (some 15) _ = _
                simp only [Act.put, List.setIfInBounds_toArray, List.set_cons_zero, List.set_cons_succ, i64_w, i32_w]
                rfl
              refine one_ (i := 5) (N := some 18) #[true, true, true, true, true, true, false, false] rfl rfl (one_of HT_.out (by kernel_rfl)) (by decide) (fun K hK => ?_)
              refine goes_ Try.func38 (by kernel_rfl) rfl #[.slice A12 y173.length c12] (by rfl) rfl rfl (by (try simp only [List.map_toArray, List.map_cons, List.map_nil]); first | done | rfl | (simp only [List.length_drop, List.length_take]; rfl)) ?_
              with_reducible refine (ih k (by omega) (fun k_ => ((P0_ k_ ∨ w.heap.size ≤ k_) ∧ some k_ ≠ (v171 : Value).ownBlock)) _ _ y173 t178 _ ?side1 A8.out).mono ?_
              (case side1 => exact HO177.out)
              rintro e w15 ⟨v179, rfl, ho0, hb⟩
              refine ⟨_, rfl, ?_⟩
              have n0_ := Aside0.mk (Kd.V_elder' (by (with_reducible repeat (first | apply Kd.V_alloc | apply Kd.V_drewN | apply Kd.V_drew)); exact HO0.out) (Kd.N_base ho0) hb)
              have n1_ := Aside0.mk (Kd.V_elder' (by (with_reducible repeat (first | apply Kd.V_alloc | apply Kd.V_drewN | apply Kd.V_drew)); exact HO169.out) (Kd.N_base ho0) hb)
              have n2_ := Aside0.mk (Kd.V_elder' (by (with_reducible repeat (first | apply Kd.V_alloc | apply Kd.V_drewN | apply Kd.V_drew)); exact HO177.out) (Kd.N_base ho0) hb)
              have n3_ := Aside0.mk (Kd.N_elder' (by (with_reducible repeat (first | apply Kd.N_alloc | apply Kd.N_drewN | apply Kd.N_drew)); exact HO172.out) (Kd.N_base ho0) hb)
              have n4_ := Aside0.mk (Kd.N_lower (Kd.N_mono (ok' := fun k_ => (P0_ k_ ∨ w.heap.size ≤ k_) ∧ some k_ ≠ (v171 : Value).ownBlock) ho0 (fun k_ hk_ => ⟨Or.elim hk_ (fun hs_ => hs_.1) (fun hn_ => (.inr (Nat.le_trans (below_size (by repeat (first | (with_reducible first | exact HB.out | apply below_alloc | apply pw_below_drewN | apply below_drew1) | exact HB.out))) hn_))), Or.elim hk_ (fun hs_ => hs_.2) (fun hn_ => (Kd.fresh' (Kd.N_lt (by (with_reducible repeat (first | apply Kd.N_alloc | apply Kd.N_drewN | apply Kd.N_drew)); exact HO172.out)) k_ hn_))⟩)) (below_size (by repeat (first | (with_reducible first | exact HB.out | apply below_alloc | apply pw_below_drewN | apply below_drew1) | exact HB.out))))
              have n5_ := Aside0.mk (below_step (by repeat (first | (with_reducible first | exact HB.out | apply below_alloc | apply pw_below_drewN | apply below_drew1) | exact HB.out)) hb)
              clear HO0
              clear HO169
              clear HO177
              clear HO172
              clear HB
              have HO0 := n0_
              have HO169 := n1_
              have HO177 := n2_
              have HO172 := n3_
              have HO180 := n4_
              have HB := n5_
              clear n0_ n1_ n2_ n3_ n4_ n5_
              (try clear hb)
              (try clear hb2)
              (try clear hk)
              (try clear hi)
              (try clear ho0)
              refine hK.out _ _ trivial (fun hHeld => ?_)
              clear hK K
              refine norm_ (a' := ?_) ?_ ?_
              rotate_left
              · show Act.put _ (some 18) _ = _
                simp only [Act.put, List.setIfInBounds_toArray, List.set_cons_zero, List.set_cons_succ, i64_w, i32_w]
                rfl
              exact norm_ (by simp only [putAll, Act.put, List.setIfInBounds_toArray, List.set_cons_zero, List.set_cons_succ]) (hCont (v171, v179) _ ⟨(by (with_reducible repeat (first | apply Kd.V_alloc | apply Kd.V_drewN | apply Kd.V_drew)); exact Kd.V_mono HO0.out (fun _ hk => ⟨hk.1.1, ⟨hk.1.2, hk.2⟩⟩)), (by (with_reducible repeat (first | apply Kd.V_alloc | apply Kd.V_drewN | apply Kd.V_drew)); exact Kd.V_mono HO169.out (fun _ hk => ⟨hk.1.1, ⟨hk.1.2, hk.2⟩⟩)), (by (with_reducible repeat (first | apply Kd.N_alloc | apply Kd.N_drewN | apply Kd.N_drew)); exact HO172.out), (by (with_reducible repeat (first | apply Kd.V_alloc | apply Kd.V_drewN | apply Kd.V_drew)); exact Kd.V_mono HO177.out (fun _ hk => ⟨hk.1.1, ⟨hk.1.2, hk.2⟩⟩)), (by (with_reducible repeat (first | apply Kd.N_alloc | apply Kd.N_drewN | apply Kd.N_drew)); exact HO180.out), (by repeat (first | (with_reducible first | exact HB.out | apply below_alloc | apply pw_below_drewN | apply below_drew1) | exact HB.out))⟩)
            · skip
              refine goes_ Try.func38 (by kernel_rfl) rfl #[.slice A12 y173.length c12] (by rfl) rfl rfl (by (try simp only [List.map_toArray, List.map_cons, List.map_nil]); first | done | rfl | (simp only [List.length_drop, List.length_take]; rfl)) ?_
              with_reducible refine (ih k (by omega) (fun k_ => (P0_ k_ ∨ w.heap.size ≤ k_)) _ _ y173 t178 _ ?side1 A8.out).mono ?_
              (case side1 => exact HO177.out)
              rintro e w13 ⟨v179, rfl, ho0, hb⟩
              refine ⟨_, rfl, ?_⟩
              have n0_ := Aside0.mk (Kd.V_elder' (by (with_reducible repeat (first | apply Kd.V_alloc | apply Kd.V_drewN | apply Kd.V_drew)); exact HO0.out) (Kd.N_base ho0) hb)
              have n1_ := Aside0.mk (Kd.V_elder' (by (with_reducible repeat (first | apply Kd.V_alloc | apply Kd.V_drewN | apply Kd.V_drew)); exact HO169.out) (Kd.N_base ho0) hb)
              have n2_ := Aside0.mk (Kd.V_elder' (by (with_reducible repeat (first | apply Kd.V_alloc | apply Kd.V_drewN | apply Kd.V_drew)); exact HO177.out) (Kd.N_base ho0) hb)
              have n3_ := Aside0.mk (Kd.N_lower (Kd.N_mono (ok' := fun k_ => (P0_ k_ ∨ w.heap.size ≤ k_)) ho0 (fun k_ hk_ => Or.elim hk_ (fun hs_ => hs_) (fun hn_ => (.inr (Nat.le_trans (below_size (by repeat (first | (with_reducible first | exact HB.out | apply below_alloc | apply pw_below_drewN | apply below_drew1) | exact HB.out))) hn_))))) (below_size (by repeat (first | (with_reducible first | exact HB.out | apply below_alloc | apply pw_below_drewN | apply below_drew1) | exact HB.out))))
              have n4_ := Aside0.mk (below_step (by repeat (first | (with_reducible first | exact HB.out | apply below_alloc | apply pw_below_drewN | apply below_drew1) | exact HB.out)) hb)
              clear HO0
              clear HO169
              clear HO177
              clear HB
              have HO0 := n0_
              have HO169 := n1_
              have HO177 := n2_
              have HO180 := n3_
              have HB := n4_
              clear n0_ n1_ n2_ n3_ n4_
              (try clear hb)
              (try clear hb2)
              (try clear hk)
              (try clear hi)
              (try clear ho0)
              refine hK.out _ _ trivial (fun hHeld => ?_)
              clear hK K
              refine norm_ (a' := ?_) ?_ ?_
              rotate_left
              · show Act.put _ (some 18) _ = _
                simp only [Act.put, List.setIfInBounds_toArray, List.set_cons_zero, List.set_cons_succ, i64_w, i32_w]
                rfl
              refine one_ (i := 2) (N := some 15) #[true, true, true, true, true, true, false, false] rfl rfl (one_of HT_.out (by kernel_rfl)) (by decide) (fun K hK => ?_)
              refine Kd.N_lit_step (Kd.slice 78 k78) _ 54 ?hg (N' := 15) ?hd (xs := ([y165] : List (List (S78)))) (inner := [.slice A0 y165.length y165.length]) (ok := (fun k_ => (P0_ k_ ∨ w.heap.size ≤ k_) ∧ some k_ ≠ (v179 : Value).ownBlock)) (okp := (fun k_ => (P0_ k_ ∨ w.heap.size ≤ k_) ∧ some k_ ≠ (v179 : Value).ownBlock)) ?hr ?hp (fun _ hk => hk) ((show ∀ k_, w13.heap.size ≤ k_ → (fun k_ => (P0_ k_ ∨ w.heap.size ≤ k_) ∧ some k_ ≠ (v179 : Value).ownBlock) k_ from fun k_ hk => ⟨(.inr (Nat.le_trans (below_size (by repeat (first | (with_reducible first | exact HB.out | apply below_alloc | apply pw_below_drewN | apply below_drew1) | exact HB.out))) hk)), Kd.fresh' (Kd.N_lt (by (with_reducible repeat (first | apply Kd.N_alloc | apply Kd.N_drewN | apply Kd.N_drew)); exact HO180.out)) k_ hk⟩) _ (Nat.le_refl _)) (Below.refl _ _) (Nat.le_refl _) (by simp) ?_; (case hd => rfl); (case hg => rfl); (case hr => first | (go_simp; done) | (go_simp; rfl)); (case hp => exact (Reps.one (show Kd.FK (Kd.slice 78 k78) _ _ y165 [.slice A0 y165.length y165.length] from (Kd.FK_slice_mk (Kd.V_reads' (Kd.V_mono (ok' := (fun k_ => (P0_ k_ ∨ w.heap.size ≤ k_) ∧ some k_ ≠ (v179 : Value).ownBlock)) (HO169.out) (fun k_ hk => ⟨hk.1, hk.2⟩))).2.1 (Kd.V_F (Kd.V_mono (ok' := (fun k_ => (P0_ k_ ∨ w.heap.size ≤ k_) ∧ some k_ ≠ (v179 : Value).ownBlock)) (HO169.out) (fun k_ hk => ⟨hk.1, hk.2⟩))))) (Reps.none _ _)))
              intro v171 w14 ho15 hb hg_ hnew_
              clear hg_ hnew_
              (first | rw [← Ny170.out] at ho15 | (simp only [Int.reduceToNat] at ho15; rw [← Ny170.out] at ho15))
              have n0_ := Aside0.mk (Kd.V_elder' (by (with_reducible repeat (first | apply Kd.V_alloc | apply Kd.V_drewN | apply Kd.V_drew)); exact HO0.out) (Kd.N_base ho15) hb)
              have n1_ := Aside0.mk (Kd.V_elder' (by (with_reducible repeat (first | apply Kd.V_alloc | apply Kd.V_drewN | apply Kd.V_drew)); exact HO169.out) (Kd.N_base ho15) hb)
              have n2_ := Aside0.mk (Kd.V_elder' (by (with_reducible repeat (first | apply Kd.V_alloc | apply Kd.V_drewN | apply Kd.V_drew)); exact HO177.out) (Kd.N_base ho15) hb)
              have n3_ := Aside0.mk (Kd.N_elder' (by (with_reducible repeat (first | apply Kd.N_alloc | apply Kd.N_drewN | apply Kd.N_drew)); exact HO180.out) (Kd.N_base ho15) hb)
              have n4_ := Aside0.mk (Kd.N_lower ho15 (below_size (by repeat (first | (with_reducible first | exact HB.out | apply below_alloc | apply pw_below_drewN | apply below_drew1) | exact HB.out))))
              have n5_ := Aside0.mk (below_step (by repeat (first | (with_reducible first | exact HB.out | apply below_alloc | apply pw_below_drewN | apply below_drew1) | exact HB.out)) hb)
              clear HO0
              clear HO169
              clear HO177
              clear HO180
              clear HB
              have HO0 := n0_
              have HO169 := n1_
              have HO177 := n2_
              have HO180 := n3_
              have HO172 := n4_
              have HB := n5_
              clear n0_ n1_ n2_ n3_ n4_ n5_
              clear hb ho15
              refine hK.out _ _ trivial (fun hHeld => ?_)
              clear hK K
              refine norm_ (a' := ?_) ?_ ?_
              rotate_left
              · show Act.put _ (some 15) _ = _
                simp only [Act.put, List.setIfInBounds_toArray, List.set_cons_zero, List.set_cons_succ, i64_w, i32_w]
                rfl
              exact norm_ (by simp only [putAll, Act.put, List.setIfInBounds_toArray, List.set_cons_zero, List.set_cons_succ]) (hCont (v171, v179) _ ⟨(by (with_reducible repeat (first | apply Kd.V_alloc | apply Kd.V_drewN | apply Kd.V_drew)); exact Kd.V_mono HO0.out (fun _ hk => ⟨hk.1.1, ⟨hk.2, hk.1.2⟩⟩)), (by (with_reducible repeat (first | apply Kd.V_alloc | apply Kd.V_drewN | apply Kd.V_drew)); exact Kd.V_mono HO169.out (fun _ hk => ⟨hk.1.1, ⟨hk.2, hk.1.2⟩⟩)), (by (with_reducible repeat (first | apply Kd.N_alloc | apply Kd.N_drewN | apply Kd.N_drew)); exact HO172.out), (by (with_reducible repeat (first | apply Kd.V_alloc | apply Kd.V_drewN | apply Kd.V_drew)); exact Kd.V_mono HO177.out (fun _ hk => ⟨hk.1.1, ⟨hk.2, hk.1.2⟩⟩)), (by (with_reducible repeat (first | apply Kd.N_alloc | apply Kd.N_drewN | apply Kd.N_drew)); exact HO180.out), (by repeat (first | (with_reducible first | exact HB.out | apply below_alloc | apply pw_below_drewN | apply below_drew1) | exact HB.out))⟩)
          rintro ⟨v171, v179⟩ w16 ⟨h0_, h1_, h2_, h3_, h4_, h5_⟩
          have n0_ : Aside0 (Kd.V k78 78 w16 w.heap.size (fun k_ => (P0_ k_ ∨ w.heap.size ≤ k_) ∧ some k_ ≠ (v171 : Value).ownBlock ∧ some k_ ≠ (v179 : Value).ownBlock) (.slice A0 l0.length c0) l0) := ⟨h0_⟩
          have n1_ : Aside0 (Kd.V k78 78 w16 w.heap.size (fun k_ => (P0_ k_ ∨ w.heap.size ≤ k_) ∧ some k_ ≠ (v171 : Value).ownBlock ∧ some k_ ≠ (v179 : Value).ownBlock) (.slice A0 y165.length y165.length) y165) := ⟨h1_⟩
          have n2_ : Aside0 (Kd.N (Kd.slice 78 k78) 54 w16 w.heap.size (fun k_ => (P0_ k_ ∨ w.heap.size ≤ k_) ∧ some k_ ≠ (v179 : Value).ownBlock) v171 y170) := ⟨h2_⟩
          have n3_ : Aside0 (Kd.V k78 78 w16 w.heap.size (fun k_ => (P0_ k_ ∨ w.heap.size ≤ k_) ∧ some k_ ≠ (v171 : Value).ownBlock ∧ some k_ ≠ (v179 : Value).ownBlock) (.slice A12 y173.length c12) y173) := ⟨h3_⟩
          have n4_ : Aside0 (Kd.N (Kd.slice 78 k78) 54 w16 w.heap.size (fun k_ => (P0_ k_ ∨ w.heap.size ≤ k_) ∧ some k_ ≠ (v171 : Value).ownBlock) v179 t178) := ⟨h4_⟩
          have n5_ : Aside0 (Below w.heap.size w w16) := ⟨h5_⟩
          clear HO0
          clear HB
          clear h0_ h1_ h2_ h3_ h4_ h5_
          have HO0 := n0_
          have HO169 := n1_
          have HO172 := n2_
          have HO177 := n3_
          have HO180 := n4_
          have HB := n5_
          clear n0_ n1_ n2_ n3_ n4_ n5_
          have hHeld := trivial
          obtain ⟨Ao18, co18, eo18⟩ := Kd.N_slice HO180.out
          (first | subst eo18 | (injection eo18 with f1_ f2_ f3_; have f4_ := f1_.symm; have f5_ := f3_.symm; clear f1_ f2_ f3_; subst f4_; subst f5_))
          refine norm_ (a' := ?_) ?_ ?_
          rotate_left
          · simp only [putAll, Act.put, List.setIfInBounds_toArray, List.set_cons_zero, List.set_cons_succ]
            rfl
          refine one_ (i := 6) (N := some 19) #[true, true, true, true, true, true, true, false] rfl rfl (one_of HT_.out (by kernel_rfl)) (by decide) (fun K hK => ?_)
          refine Kd.N_append_rows_step (Kd.slice 78 k78) (w0 := w) w.heap.size (by rfl) (.tmp 15) (.tmp 18) 71 54 (.slice none 0 0) 24 rfl Try.underlying71 info54 rfl (by decide) (by omega) v171 y170 t178 _ _ _ (fun k_ => (P0_ k_ ∨ w.heap.size ≤ k_)) (fun k_ => ((fun k_ => (P0_ k_ ∨ w.heap.size ≤ k_))) k_ ∧ some k_ ≠ (v171 : Value).ownBlock) rfl rfl ?aO ?aR (fun _ hk => hk) ?aF ?aB ?aS ?aL ?_
          (case aR => exact (by skip; exact Kd.N_F (Kd.N_mono (ok' := (fun k_ => ((fun k_ => (P0_ k_ ∨ w.heap.size ≤ k_))) k_ ∧ some k_ ≠ (v171 : Value).ownBlock)) (HO180.out) (fun k_ hk => ⟨hk.1, hk.2⟩))))
          (case aB => exact (by repeat (first | (with_reducible first | exact HB.out | apply below_alloc | apply pw_below_drewN | apply below_drew1) | exact HB.out)))
          (case aF => exact (fun k_ hk => (.inr (Nat.le_trans (below_size (by repeat (first | (with_reducible first | exact HB.out | apply below_alloc | apply pw_below_drewN | apply below_drew1) | exact HB.out))) hk))))
          (case aO => exact (by (with_reducible repeat (first | apply Kd.N_alloc | apply Kd.N_drewN | apply Kd.N_drew)); exact Kd.N_mono HO172.out (fun _ hk => hk.1)))
          (case aS => exact (below_size (by repeat (first | (with_reducible first | exact HB.out | apply below_alloc | apply pw_below_drewN | apply below_drew1) | exact HB.out))))
          (case aL => have := LMc9.out; omega)
          intro v182 w17 ho hb hg hat
          rw [← Ny181.out] at ho
          have n0_ := Aside0.mk (Kd.V_afterv (ok := (fun k_ => (P0_ k_ ∨ w.heap.size ≤ k_) ∧ some k_ ≠ (.slice Ao18 t178.length co18 : Value).ownBlock)) (by (with_reducible repeat (first | apply Kd.V_alloc | apply Kd.V_drewN | apply Kd.V_drew)); exact Kd.V_mono HO0.out (fun _ hk => ⟨⟨hk.1, hk.2.2⟩, hk.2.1⟩)) hg hat)
          have n1_ := Aside0.mk (Kd.V_afterv (ok := (fun k_ => (P0_ k_ ∨ w.heap.size ≤ k_) ∧ some k_ ≠ (.slice Ao18 t178.length co18 : Value).ownBlock)) (by (with_reducible repeat (first | apply Kd.V_alloc | apply Kd.V_drewN | apply Kd.V_drew)); exact Kd.V_mono HO169.out (fun _ hk => ⟨⟨hk.1, hk.2.2⟩, hk.2.1⟩)) hg hat)
          have n2_ := Aside0.mk (Kd.V_afterv (ok := (fun k_ => (P0_ k_ ∨ w.heap.size ≤ k_) ∧ some k_ ≠ (.slice Ao18 t178.length co18 : Value).ownBlock)) (by (with_reducible repeat (first | apply Kd.V_alloc | apply Kd.V_drewN | apply Kd.V_drew)); exact Kd.V_mono HO177.out (fun _ hk => ⟨⟨hk.1, hk.2.2⟩, hk.2.1⟩)) hg hat)
          have n3_ := Aside0.mk (Kd.N_afterv (ok := (fun k_ => (P0_ k_ ∨ w.heap.size ≤ k_))) (by (with_reducible repeat (first | apply Kd.N_alloc | apply Kd.N_drewN | apply Kd.N_drew)); exact HO180.out) hg hat)
          have n4_ := Aside0.mk (hb)
          have n5_ := Aside0.mk (ho)
          clear HO0
          clear HO169
          clear HO177
          clear HO180
          clear HB
          clear HO172
          have HO0 := n0_
          have HO169 := n1_
          have HO177 := n2_
          have HO180 := n3_
          have HB := n4_
          have HO183 := n5_
          clear n0_ n1_ n2_ n3_ n4_ n5_
          clear ho hb hg hat
          refine hK.out _ _ trivial (fun hHeld => ?_)
          clear hK K
          refine norm_ (a' := ?_) ?_ ?_
          rotate_left
          · show Act.put _ (some 19) _ = _
            simp only [Act.put, List.setIfInBounds_toArray, List.set_cons_zero, List.set_cons_succ, i64_w, i32_w]
            rfl
          refine pure_ (i := 7) (N := some 2) (v := ?_) (a' := ?_) #[true, true, true, true, true, true, true, true] rfl rfl (any_of HT_.out (by kernel_rfl)) (fun _ _ _ h => h) (Or.inl ⟨by rfl, ?_⟩) ?_ ?_
          rotate_left
          · intro w'
            go_simp
            with_reducible rfl
          rotate_left
          · simp only [Act.put, List.setIfInBounds_toArray, List.set_cons_zero, List.set_cons_succ, i64_w, i32_w]
            rfl
          refine done_ (done_of HT_.out (by kernel_rfl)) ?_
          try go_wp2
          go_ret
          exact ⟨_, by first | rfl | (simp [errW_none, errW_some] <;> rfl) | (simp [*, errW_none, errW_some] <;> rfl), by (with_reducible repeat (first | apply Kd.N_alloc | apply Kd.N_drewN | apply Kd.N_drew)); exact HO183.out, by repeat (first | (with_reducible first | exact HB.out | apply below_alloc | apply pw_below_drewN | apply below_drew1) | exact HB.out)⟩
        · rw [if_neg c9] at H
          exact absurd H (by simp)
      · rw [if_neg c6] at H
        exact absurd H (by simp)

end Go.Proofs.Ythjnkapkhphpeaa.P
end
