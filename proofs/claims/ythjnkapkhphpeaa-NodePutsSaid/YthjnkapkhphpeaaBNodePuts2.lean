/- Texts of this claim's proof put together: F29, E0, F55, F32, HShown4. -/
import Derived.Test.YthjnkapkhphpeaaBNodePuts0
import Derived.Test.YthjnkapkhphpeaaBNodePuts1
section
namespace Go.Proofs.Ythjnkapkhphpeaa.P
open Go.RowKit Go.Proofs.YthjnkapkhphpeaaW.PrintWords Go.Proofs.YthjnkapkhphpeaaW.PrintLast Go.Proofs.YthjnkapkhphpeaaW.PrintMore
attribute [local go_sem] max2_int min2_int max_two min_two max_three min_three max_four min_four
set_option linter.unusedVariables false
set_option linter.unusedSimpArgs false

/-! ### node_Parse: function 29 -/
theorem size_drewN_ (W : World) (n : Nat) : (W.drewN n).heap.size = W.heap.size := rfl
mutual
def node_Parse.j0 : Nat → ByteArray → List Int → Bool → Option (Bool × (List (S78)) × Int)
  | 0, _, _, _ => none
  | k + 1, x0, x4, x23 => if x23 = true then (some (false, ([] : List (S78)), 2)) else (if 0 < (x4.length : Int) then (if 1 < (x4.length : Int) then (node_Parse.l0 k x0 x4 2 (rd x4 1) 0 ((rd x4 0) == 1) ([] : List (S78))) else (none)) else (none))
def node_Parse.l0 : Nat → ByteArray → List Int → Int → Int → Int → Bool → List (S78) → Option (Bool × (List (S78)) × Int)
  | 0, _, _, _, _, _, _, _ => none
  | k + 1, x0, x4, x7, x32, x33, x144000, x144001 => if x33 < x32 then ((num_Take.f k x4 x7 4).bind fun bt146 => ((num_Take.f k x4 bt146.2.1 4).bind fun bt149 => (if x144001.length < 8796093022208 then (node_Parse.l0 k x0 x4 bt149.2.1 x32 ((x33 + 1) % 256) x144000 (x144001 ++ [(⟨bt146.1, bt149.1⟩ : S78)])) else (none)))) else ((node_Print.f k x144000 x144001).bind fun bt155 => (if bt155.2 = 0 then (if bt155.1.toList = x0.toList then (some (x144000, x144001, 0)) else (some (false, ([] : List (S78)), 2))) else (some (false, ([] : List (S78)), 2))))
end
def node_Parse.f (k : Nat) (a0 : ByteArray) : Option (Bool × (List (S78)) × Int) := (num_Open.f a0).bind fun bt137 => (if bt137.2 = 0 then (if 1 < (bt137.1.length : Int) then (node_Parse.j0 k a0 bt137.1 (decide ((rd bt137.1 1) > 4))) else (none)) else (node_Parse.j0 k a0 bt137.1 true))
theorem node_Parse.mono_l : ∀ k, (∀ y0 y1 y2, LeO (node_Parse.j0 k y0 y1 y2) (node_Parse.j0 (k + 1) y0 y1 y2)) ∧ (∀ y0 y1 y2 y3 y4 y5 y6, LeO (node_Parse.l0 k y0 y1 y2 y3 y4 y5 y6) (node_Parse.l0 (k + 1) y0 y1 y2 y3 y4 y5 y6))
  | 0 => ⟨fun _ _ _ r h => by simp [node_Parse.j0] at h, fun _ _ _ _ _ _ _ r h => by simp [node_Parse.l0] at h⟩
  | k + 1 => by
    obtain ⟨ih0, ih1⟩ := node_Parse.mono_l k
    refine ⟨?_, ?_⟩
    · intro y0 y1 y2
      unfold node_Parse.j0
      repeat' first
      | (with_reducible exact ih0 _ _ _)
      | (with_reducible exact ih1 _ _ _ _ _ _ _)
      | (with_reducible exact node_Print.mono _ _ _)
      | (with_reducible exact num_Take.mono _ _ _ _)
      | (with_reducible exact LeO.refl _)
      | (with_reducible exact LeO.none _)
      | (with_reducible refine LeO.ite ?_ ?_)
      | (with_reducible refine LeO.bind ?_ (fun _ => ?_))
      | exact ih0 _ _ _
      | exact ih1 _ _ _ _ _ _ _
      | exact node_Print.mono _ _ _
      | exact num_Take.mono _ _ _ _
      | exact LeO.none _
      | refine LeO.ite ?_ ?_
      | refine LeO.bind ?_ (fun _ => ?_)
    · intro y0 y1 y2 y3 y4 y5 y6
      unfold node_Parse.l0
      repeat' first
      | (with_reducible exact ih0 _ _ _)
      | (with_reducible exact ih1 _ _ _ _ _ _ _)
      | (with_reducible exact node_Print.mono _ _ _)
      | (with_reducible exact num_Take.mono _ _ _ _)
      | (with_reducible exact LeO.refl _)
      | (with_reducible exact LeO.none _)
      | (with_reducible refine LeO.ite ?_ ?_)
      | (with_reducible refine LeO.bind ?_ (fun _ => ?_))
      | exact ih0 _ _ _
      | exact ih1 _ _ _ _ _ _ _
      | exact node_Print.mono _ _ _
      | exact num_Take.mono _ _ _ _
      | exact LeO.none _
      | refine LeO.ite ?_ ?_
      | refine LeO.bind ?_ (fun _ => ?_)
theorem node_Parse.mono : ∀ a0 k, LeO (node_Parse.f k a0) (node_Parse.f (k + 1) a0) := by
  intro a0 k
  obtain ⟨ih0, ih1⟩ := node_Parse.mono_l k
  unfold node_Parse.f
  repeat' first
      | (with_reducible exact ih0 _ _ _)
      | (with_reducible exact ih1 _ _ _ _ _ _ _)
      | (with_reducible exact node_Print.mono _ _ _)
      | (with_reducible exact num_Take.mono _ _ _ _)
      | (with_reducible exact LeO.refl _)
      | (with_reducible exact LeO.none _)
      | (with_reducible refine LeO.ite ?_ ?_)
      | (with_reducible refine LeO.bind ?_ (fun _ => ?_))
      | exact ih0 _ _ _
      | exact ih1 _ _ _ _ _ _ _
      | exact node_Print.mono _ _ _
      | exact num_Take.mono _ _ _ _
      | exact LeO.none _
      | refine LeO.ite ?_ ?_
      | refine LeO.bind ?_ (fun _ => ?_)
set_option maxHeartbeats 8000000 in
set_option maxRecDepth 100000 in
theorem node_Parse.calls (k : Nat) (a0 : ByteArray) (r1 : Bool) (r2 : List (S78)) (r3 : Int) (w : World) (h : node_Parse.f k a0 = some (r1, r2, r3)) :
    Calls Try.prog 29 #[.string a0] w fun e w' => ∃ v1_ : Value, e = .returned (.tuple #[.agg #[.bool r1, v1_], .int .i64 r3]) ∧ Kd.R k78 78 w' w.heap.size (fun _ => True) v1_ r2 ∧ Below w.heap.size w w' := by
  have hu56 := Try.underlying56
  have hu78 := Try.underlying78
  have HB := Aside0.mk (Below.refl w.heap.size w)
  have H : ((num_Open.f a0).bind fun bt137 => (if bt137.2 = 0 then (if 1 < (bt137.1.length : Int) then (node_Parse.j0 k a0 bt137.1 (decide ((rd bt137.1 1) > 4))) else (none)) else (node_Parse.j0 k a0 bt137.1 true))) = some (r1, r2, r3) := h
  clear h
  replace H := Option.bind_eq_some_iff.mp H
  obtain ⟨⟨t137, t140⟩, A20, H⟩ := H
  replace H : (if t140 = 0 then (if 1 < (t137.length : Int) then (node_Parse.j0 k a0 t137 (decide ((rd t137 1) > 4))) else (none)) else (node_Parse.j0 k a0 t137 true)) = some (r1, r2, r3) := H
  have A2 := Aside0.mk A20
  clear A20
  have HC3 := Aside0.mk H
  clear H
  go_enter Try.func29, Try.ntmps29
  go_upto_region 2 with (first | ((with_reducible refine gate_dst (N := 2) rfl ?_); refine box_event ?hg (N := 2) ?hd (cs := #[.bool false, .slice none 0 0]) (t := 56) ?hr ?_; (case hd => rfl); (case hg => rfl); (case hr => first | (go_simp; done) | (go_simp; rfl)); intro gb136 hg w4 hbox hb; have n0_ := Aside0.mk (below_step (by repeat (first | (with_reducible first | exact HB.out | apply below_alloc | apply pw_below_drewN | apply below_drew1) | exact HB.out)) hb); have n1_ := Aside0.mk (hbox); have n2_ := Aside0.mk ((by rw [hg]; exact (below_size (by repeat (first | (with_reducible first | exact HB.out | apply below_alloc | apply pw_below_drewN | apply below_drew1) | exact HB.out))) : w.heap.size ≤ gb136)); have n3_ := Aside0.mk ((by rw [hg]; exact (below_size (by repeat (first | (with_reducible first | exact HB.out | apply below_alloc | apply pw_below_drewN | apply below_drew1) | exact HB.out))) : w.heap.size ≤ gb136)); clear HB; have HB := n0_; have BK136 := n1_; have GW136 := n2_; have GE136 := n3_; clear n0_ n1_ n2_ n3_; clear hb hbox hg) | ((with_reducible refine gate_callee (f := 47) rfl ?_); refine goesL_ (some 13) rfl rfl Try.func47 (by kernel_rfl) rfl #[.string a0] rfl (by (try simp only [List.map_toArray, List.map_cons, List.map_nil]); first | done | rfl | (simp only [List.length_drop, List.length_take]; rfl)) ?_; (with_reducible refine (num_Open.calls a0 t137 t140 _ A2.out).mono ?_); rintro e w5 ⟨v138, rfl, ho0, hb⟩; refine ⟨_, rfl, ?_⟩; have n0_ := Aside0.mk (Kd.V_lower (Kd.V_mono (ok' := fun k_ => k_ ≠ gb136) ho0 (fun k_ hk_ => (Kd.freshB (g := gb136) (o := .cells #[.bool false, .slice none 0 0] 56 (0, 0)) (by (with_reducible repeat (first | refine blk_drewN ?_ _ | refine blk_drew ?_ | refine blk_alloc ?_ _)); exact BK136.out) k_ hk_))) (below_size (by repeat (first | (with_reducible first | exact HB.out | apply below_alloc | apply pw_below_drewN | apply below_drew1 | refine below_set ?_ GE136.out) | exact HB.out)))); have n1_ := Aside0.mk (blk_below (g := gb136) (o := .cells #[.bool false, .slice none 0 0] 56 (0, 0)) (by (with_reducible repeat (first | refine blk_drewN ?_ _ | refine blk_drew ?_ | refine blk_alloc ?_ _)); exact BK136.out) hb); have n2_ := Aside0.mk (below_step (by repeat (first | (with_reducible first | exact HB.out | apply below_alloc | apply pw_below_drewN | apply below_drew1 | refine below_set ?_ GE136.out) | exact HB.out)) hb); clear BK136; clear HB; have HO139 := n0_; have BK136 := n1_; have HB := n2_; clear n0_ n1_ n2_; (try clear hb); (try clear hb2); (try clear hk); (try clear hi); (try clear ho0)))
  (try simp only [Act.put, List.setIfInBounds_toArray, List.set_cons_zero, List.set_cons_succ])
  go_cut [23] (fun v23 wc => ∃ (kq : Nat) (x23_2 : Bool), v23 = .bool x23_2 ∧ Aside0 (node_Parse.j0 kq a0 t137 x23_2 = some (r1, r2, r3)) ∧ Aside0 (kq ≤ k) ∧ Aside0 (Kd.V (Kd.int .u8) 5 wc w.heap.size (fun k_ => k_ ≠ gb136) v138 t137) ∧ Aside0 (wc.heap[gb136]? = some (.cells #[.bool false, (.slice none 0 0)] 56 (0, 0))) ∧ Aside0 (Below w.heap.size w wc))
  case first =>
    have H := HC3.out
    clear HC3
    by_cases c6 : t140 = 0
    · rw [if_pos c6] at H
      have c6b0 : (t140 == 0) = true := beq_iff_eq.mpr c6
      have c6b1 : (t140 != 0) = false := bne_eq_false_iff_eq.mpr c6
      clear c6
      (first | rw [c6b0] | (simp only [i64_w, i32_w]; rw [c6b0]) | skip)
      by_cases c7 : 1 < (t137.length : Int)
      · rw [if_pos c7] at H
        have c7b0 : decide (1 < (t137.length : Int)) = true := decide_eq_true c7
        have c7b1 : decide (1 < t137.length) = true := decide_eq_true (by omega)
        clear c7
        have H' := Aside0.mk H
        clear H
        obtain ⟨Ao8, co8, eo8⟩ := Kd.V_slice HO139.out
        subst eo8
        have p141 : 0 ≤ (1 : Int) := (by omega)
        have q141 : 1 < (t137.length : Int) := of_decide_eq_true (by first | (with_reducible assumption) | assumption)
        obtain ⟨ad141, e141, hx141_0⟩ := Kd.at_int (Kd.V_reads' HO139.out).2.2 1 p141 q141
        cases e141
        (try simp only [show (1 : Int).toNat = 1 from rfl, Nat.reduceMul, Nat.reduceEqDiff, Go.Addr.add, ↓reduceIte] at hx141_0)
        have qi141 : (1 < t137.length) = True := eq_true (by omega)
        (try rw [show ((1 : Int)).toNat = 1 from rfl] at hx141_0)
        replace p141 := eq_true p141
        replace q141 := eq_true q141
        go_wp2
        go_meet
        case rel => exact ⟨_, (decide ((rd t137 1) > 4)), (by first | rfl | (simp; done) | (simp [*]; done)), H', ⟨by first | omega | exact Nat.le_refl _⟩, ⟨by (with_reducible repeat (first | apply Kd.V_alloc | apply Kd.V_drewN | apply Kd.V_drew)); exact HO139.out⟩, ⟨by (with_reducible repeat (first | refine blk_drewN ?_ _ | refine blk_drew ?_ | refine blk_alloc ?_ _)); exact BK136.out⟩, ⟨by repeat (first | (with_reducible first | exact HB.out | apply below_alloc | apply pw_below_drewN | apply below_drew1 | refine below_set ?_ GE136.out) | exact HB.out)⟩⟩
      · rw [if_neg c7] at H
        exact absurd H (by simp)
    · rw [if_neg c6] at H
      have c6b0 : (t140 == 0) = false := beq_eq_false_iff_ne.mpr c6
      have c6b1 : (t140 != 0) = true := bne_iff_ne.mpr c6
      (first | rw [c6b0] | (simp only [i64_w, i32_w]; rw [c6b0]) | skip)
      have H' := Aside0.mk H
      clear H
      go_wp2
      go_meet
      case rel => exact ⟨_, (true), (by first | rfl | (simp; done) | (simp [*]; done)), H', ⟨by first | omega | exact Nat.le_refl _⟩, ⟨by (with_reducible repeat (first | apply Kd.V_alloc | apply Kd.V_drewN | apply Kd.V_drew)); exact HO139.out⟩, ⟨by (with_reducible repeat (first | refine blk_drewN ?_ _ | refine blk_drew ?_ | refine blk_alloc ?_ _)); exact BK136.out⟩, ⟨by repeat (first | (with_reducible first | exact HB.out | apply below_alloc | apply pw_below_drewN | apply below_drew1 | refine below_set ?_ GE136.out) | exact HB.out)⟩⟩
  case rest =>
    clear HC3
    try clear p1
    try clear q1
    try clear hx1
    try clear qi1
    try clear c2
    try clear p2
    try clear c4
    try clear c6
    try clear c6b0
    try clear c6b1
    try clear c7
    try clear c7b0
    try clear c7b1
    try clear hx141_0
    try clear p141
    try clear q141
    obtain ⟨kq, x23_2, rfl, HA, HJ2, HO_4, BK136, HB⟩ := hcut
    cases kq with
    | zero => exact absurd HA.out (by simp [node_Parse.j0])
    | succ kj2 =>
      have H := HA.out
      clear HA
      simp only [node_Parse.j0] at H
      by_cases c9 : x23_2 = true
      · subst c9
        have H1 : (some (false, ([] : List (S78)), 2)) = some (r1, r2, r3) := by rw [if_pos rfl] at H; exact H
        clear H
        have H := H1
        clear H1
        simp only [Option.some.injEq, Prod.mk.injEq] at H
        obtain ⟨rfl, rfl, rfl⟩ := H
        have hcz10_0 : wc.cell? ⟨gb136, 0, none⟩ = some (.bool false) := (blk_cell BK136.out 0).trans rfl
        have hcz10_1 : wc.cell? ⟨gb136, 1, none⟩ = some (.slice none 0 0) := (blk_cell BK136.out 1).trans rfl
        have hfz10_0 := blk_frozen BK136.out 0
        have hfz10_1 := blk_frozen BK136.out 1
        go_wp2
        refine bodyPost_ret (results_ct rfl _ _ gb136 56 #[.bool false, .slice none 0 0] (0, 0) _ rfl (by (with_reducible repeat (first | refine blk_drewN ?_ _ | refine blk_drew ?_ | refine blk_alloc ?_ _)); refine blk_put (cs := #[.bool false, .slice none 0 0]) ?_ 1 _ rfl; (with_reducible repeat (first | refine blk_drewN ?_ _ | refine blk_drew ?_ | refine blk_alloc ?_ _)); refine blk_put (cs := #[.bool false, .slice none 0 0]) ?_ 0 _ rfl; (with_reducible repeat (first | refine blk_drewN ?_ _ | refine blk_drew ?_ | refine blk_alloc ?_ _)); exact BK136.out) Try.underlying56 rfl (by kernel_rfl)) rfl ?_
        exact ⟨_, by first | rfl | (simp [errW_none, errW_some] <;> rfl) | (simp [*, errW_none, errW_some] <;> rfl), by first | exact Kd.R_nil _ _ _ _ _ | exact Kd.N_nil _ _ _ _ _ | exact Kd.V_nil _ _ _ _ _ | exact Kd.Q_nil _ _ _ _ _ | exact Kd.S_nil _ _ _ _ _, by repeat (first | (with_reducible first | exact HB.out | apply below_alloc | apply pw_below_drewN | apply below_drew1 | refine below_set ?_ GE136.out) | exact HB.out)⟩
      · replace c9 := Bool.eq_false_iff.mpr c9
        subst c9
        have H1 : (if 0 < (t137.length : Int) then (if 1 < (t137.length : Int) then (node_Parse.l0 kj2 a0 t137 2 (rd t137 1) 0 ((rd t137 0) == 1) ([] : List (S78))) else (none)) else (none)) = some (r1, r2, r3) := by rw [if_neg (show ¬ (false = true) by decide)] at H; exact H
        clear H
        have H := H1
        clear H1
        by_cases c11 : 0 < (t137.length : Int)
        · rw [if_pos c11] at H
          have c11b0 : decide (0 < (t137.length : Int)) = true := decide_eq_true c11
          have c11b1 : decide (0 < t137.length) = true := decide_eq_true (by omega)
          clear c11
          by_cases c12 : 1 < (t137.length : Int)
          · rw [if_pos c12] at H
            have c12b0 : decide (1 < (t137.length : Int)) = true := decide_eq_true c12
            have c12b1 : decide (1 < t137.length) = true := decide_eq_true (by omega)
            clear c12
            have H' := Aside0.mk H
            clear H
            obtain ⟨Ao13, co13, eo13⟩ := Kd.V_slice HO_4.out
            subst eo13
            have p142 : 0 ≤ (0 : Int) := (by omega)
            have q142 : 0 < (t137.length : Int) := of_decide_eq_true (by first | (with_reducible assumption) | assumption)
            obtain ⟨ad142, e142, hx142_0⟩ := Kd.at_int (Kd.V_reads' HO_4.out).2.2 0 p142 q142
            cases e142
            have qi142 : (0 < t137.length) = True := eq_true (by omega)
            (try rw [show ((0 : Int)).toNat = 0 from rfl] at hx142_0)
            (try rw [Addr.add_zero'] at hx142_0)
            replace p142 := eq_true p142
            replace q142 := eq_true q142
            go_wp2_with (first | ((with_reducible refine gate_dst (N := 6) rfl ?_); refine box_event ?hg (N := 6) ?hd (cs := #[.bool false, .slice none 0 0]) (t := 56) ?hr ?_; (case hd => rfl); (case hg => rfl); (case hr => first | (go_simp; done) | (go_simp; rfl)); intro gb143 hg w14 hbox hb; have n0_ := Aside0.mk (Kd.V_below (Kd.V_elderB (by (with_reducible repeat (first | apply Kd.V_alloc | apply Kd.V_drewN | apply Kd.V_drew)); exact HO_4.out) gb143 (Nat.le_of_eq hg.symm)) hb); have n1_ := Aside0.mk (blk_below (g := gb136) (o := .cells #[.bool false, .slice none 0 0] 56 (0, 0)) (by (with_reducible repeat (first | refine blk_drewN ?_ _ | refine blk_drew ?_ | refine blk_alloc ?_ _)); exact BK136.out) hb); have n2_ := Aside0.mk (below_step (by repeat (first | (with_reducible first | exact HB.out | apply below_alloc | apply pw_below_drewN | apply below_drew1 | refine below_set ?_ GE136.out) | exact HB.out)) hb); have n3_ := Aside0.mk (hbox); have n4_ := Aside0.mk ((by rw [hg]; exact (below_size (by repeat (first | (with_reducible first | exact HB.out | apply below_alloc | apply pw_below_drewN | apply below_drew1 | refine below_set ?_ GE136.out) | exact HB.out))) : w.heap.size ≤ gb143)); have n5_ := Aside0.mk ((by rw [hg]; exact (below_size (by repeat (first | (with_reducible first | exact HB.out | apply below_alloc | apply pw_below_drewN | apply below_drew1 | refine below_set ?_ GE136.out) | exact HB.out))) : w.heap.size ≤ gb143)); have n6_ := Aside0.mk ((by rw [hg]; exact Nat.ne_of_lt (blk_lt (g := gb136) (o := .cells #[.bool false, .slice none 0 0] 56 (0, 0)) (by (with_reducible repeat (first | refine blk_drewN ?_ _ | refine blk_drew ?_ | refine blk_alloc ?_ _)); exact BK136.out)) : gb136 ≠ gb143)); have n7_ := Aside0.mk ((by rw [hg]; exact Nat.ne_of_gt (blk_lt (g := gb136) (o := .cells #[.bool false, .slice none 0 0] 56 (0, 0)) (by (with_reducible repeat (first | refine blk_drewN ?_ _ | refine blk_drew ?_ | refine blk_alloc ?_ _)); exact BK136.out)) : gb143 ≠ gb136)); clear HO_4; clear BK136; clear HB; have HO_4 := n0_; have BK136 := n1_; have HB := n2_; have BK143 := n3_; have GW143 := n4_; have GE143 := n5_; have NB136_143 := n6_; have NB143_136 := n7_; clear n0_ n1_ n2_ n3_ n4_ n5_ n6_ n7_; clear hb hbox hg; have hnb15 := NB143_136.out; have hnc15 := NB136_143.out; have hcz16_0 : w14.cell? ⟨gb143, 0, none⟩ = some (.bool false) := (blk_cell BK143.out 0).trans rfl; have hcz16_1 : w14.cell? ⟨gb143, 1, none⟩ = some (.slice none 0 0) := (blk_cell BK143.out 1).trans rfl; have hfz16_0 := blk_frozen BK143.out 0; have hfz16_1 := blk_frozen BK143.out 1; have p144 : 0 ≤ (1 : Int) := (by omega); have q144 : 1 < (t137.length : Int) := of_decide_eq_true (by first | (with_reducible assumption) | assumption); obtain ⟨ad144, e144, hx144_0⟩ := Kd.at_int (Kd.V_reads' (Kd.V_far (p := ⟨gb143, 1, none⟩) (Kd.V_far (p := ⟨gb143, 0, none⟩) HO_4.out (fun _ hk => hk.2) (.bool ((rd t137 0) == 1))) (fun _ hk => hk.2) (.slice none 0 0))).2.2 1 p144 q144; obtain rfl : ad142 = ad144 := (by injection e144); (try simp only [show (1 : Int).toNat = 1 from rfl, Nat.reduceMul, Nat.reduceEqDiff, Go.Addr.add, ↓reduceIte] at hx144_0); have qi144 : (1 < t137.length) = True := eq_true (by omega); (try rw [show ((1 : Int)).toNat = 1 from rfl] at hx144_0); replace p144 := eq_true p144; replace q144 := eq_true q144))
            go_loopg [7, 33] kj2 (fun kq v7 v33 w' => ∃ (x7_2 : Int) (x33_2 : Int) (x144001_2 : List (S78)) (u144001 : Value), v7 = .int .i64 x7_2 ∧ v33 = .int .u8 x33_2 ∧ Aside0 (node_Parse.l0 kq a0 t137 x7_2 (rd t137 1) x33_2 ((rd t137 0) == 1) x144001_2 = some (r1, r2, r3)) ∧ Aside0 (kq ≤ kj2) ∧ Aside0 (Kd.V (Kd.int .u8) 5 w' w.heap.size (fun k_ => some k_ ≠ (u144001 : Value).ownBlock ∧ k_ ≠ gb136 ∧ k_ ≠ gb143) (.slice (some ad142) t137.length co13) t137) ∧ Aside0 (Kd.R k78 78 w' w.heap.size (fun _ => True) u144001 x144001_2) ∧ Aside0 (w'.heap[gb136]? = some (.cells #[.bool false, (.slice none 0 0)] 56 (0, 0))) ∧ Aside0 (w'.heap[gb143]? = some (.cells #[.bool ((rd t137 0) == 1), u144001] 56 (0, 0))) ∧ Aside0 (Below w.heap.size w w'))
            case atStart => exact ⟨(2), (0), (([] : List (S78))), (.slice none 0 0), (by first | rfl | (simp; done) | (simp [*]; done)), (by first | rfl | (simp; done) | (simp [*]; done)), H', ⟨Nat.le_refl _⟩, ⟨by (with_reducible repeat (first | apply Kd.V_alloc | apply Kd.V_drewN | apply Kd.V_drew)); exact Kd.V_mono (Kd.V_far (p := ⟨gb143, 1, none⟩) (Kd.V_far (p := ⟨gb143, 0, none⟩) (Kd.V_mono HO_4.out (fun k_ hk => (⟨hk, hk.2⟩ : _ ∧ k_ ≠ gb143))) (fun _ hk => hk.2) (.bool ((rd t137 0) == 1))) (fun _ hk => hk.2) (.slice none 0 0)) (fun _ hk => ⟨(by simp [Value.ownBlock]), ⟨hk.1.1, hk.1.2⟩⟩)⟩, ⟨by first | exact Kd.R_nil _ _ _ _ _ | exact Kd.N_nil _ _ _ _ _ | exact Kd.V_nil _ _ _ _ _ | exact Kd.Q_nil _ _ _ _ _ | exact Kd.S_nil _ _ _ _ _⟩, ⟨by (with_reducible repeat (first | refine blk_drewN ?_ _ | refine blk_drew ?_ | refine blk_alloc ?_ _)); refine blk_far ?_ NB136_143.out _; (with_reducible repeat (first | refine blk_drewN ?_ _ | refine blk_drew ?_ | refine blk_alloc ?_ _)); refine blk_far ?_ NB136_143.out _; (with_reducible repeat (first | refine blk_drewN ?_ _ | refine blk_drew ?_ | refine blk_alloc ?_ _)); exact BK136.out⟩, ⟨by (with_reducible repeat (first | refine blk_drewN ?_ _ | refine blk_drew ?_ | refine blk_alloc ?_ _)); refine blk_put (cs := #[.bool ((rd t137 0) == 1), .slice none 0 0]) ?_ 1 _ rfl; (with_reducible repeat (first | refine blk_drewN ?_ _ | refine blk_drew ?_ | refine blk_alloc ?_ _)); refine blk_put (cs := #[.bool false, .slice none 0 0]) ?_ 0 _ rfl; (with_reducible repeat (first | refine blk_drewN ?_ _ | refine blk_drew ?_ | refine blk_alloc ?_ _)); exact BK143.out⟩, ⟨by repeat (first | (with_reducible first | exact HB.out | apply below_alloc | apply pw_below_drewN | apply below_drew1 | refine below_set ?_ GE136.out | refine below_set ?_ GE143.out) | exact HB.out)⟩⟩
            case round =>
              clear H'
              try clear c1
              try clear p1
              try clear q1
              try clear hx1
              try clear qi1
              try clear c2
              try clear p2
              try clear c4
              try clear c6
              try clear c6b0
              try clear c6b1
              try clear c7
              try clear c7b0
              try clear c7b1
              try clear c9
              try clear c11
              try clear c11b0
              try clear c11b1
              try clear c12
              try clear c12b0
              try clear c12b1
              try clear p14
              try clear q14
              try clear hx14
              try clear qi14
              try clear c15
              try clear hcz10_0
              try clear hcz10_1
              try clear hcz16_0
              try clear hcz16_1
              try clear hfz10_0
              try clear hfz10_1
              try clear hfz16_0
              try clear hfz16_1
              try clear hx141_0
              try clear hx142_0
              try clear hx144_0
              try clear p1
              try clear p141
              try clear p142
              try clear p144
              try clear p2
              try clear q1
              try clear q141
              try clear q142
              try clear q144
              obtain ⟨x7_2, x33_2, x144001_2, u144001, rfl, rfl, HA, HK2, HO_4, HO_144001, BK136, BK143, HB⟩ := hrel
              cases gk with
              | zero => exact absurd HA.out (by simp [node_Parse.l0])
              | succ k2 =>
                have H := HA.out
                clear HA
                simp only [node_Parse.l0] at H
                by_cases c17 : x33_2 < (rd t137 1)
                · rw [if_pos c17] at H
                  have c17b0 : decide (x33_2 < (rd t137 1)) = true := decide_eq_true c17
                  clear c17
                  replace H := Option.bind_eq_some_iff.mp H
                  obtain ⟨⟨t146, t147, t148⟩, A180, H⟩ := H
                  replace H : ((num_Take.f k2 t137 t147 4).bind fun bt149 => (if x144001_2.length < 8796093022208 then (node_Parse.l0 k2 a0 t137 bt149.2.1 (rd t137 1) ((x33_2 + 1) % 256) ((rd t137 0) == 1) (x144001_2 ++ [(⟨t146, bt149.1⟩ : S78)])) else (none))) = some (r1, r2, r3) := H
                  have A18 := Aside0.mk A180
                  clear A180
                  replace H := Option.bind_eq_some_iff.mp H
                  obtain ⟨⟨t149, t150, t151⟩, A190, H⟩ := H
                  replace H : (if x144001_2.length < 8796093022208 then (node_Parse.l0 k2 a0 t137 t150 (rd t137 1) ((x33_2 + 1) % 256) ((rd t137 0) == 1) (x144001_2 ++ [(⟨t146, t149⟩ : S78)])) else (none)) = some (r1, r2, r3) := H
                  have A19 := Aside0.mk A190
                  clear A190
                  by_cases c20 : x144001_2.length < 8796093022208
                  · rw [if_pos c20] at H
                    have LMc20 := Aside0.mk c20
                    clear c20
                    obtain ⟨y152, hy152⟩ : ∃ y_ : List (S78), y_ = (x144001_2 ++ [(⟨t146, t149⟩ : S78)]) := ⟨_, rfl⟩
                    replace H : (node_Parse.l0 k2 a0 t137 t150 (rd t137 1) ((x33_2 + 1) % 256) ((rd t137 0) == 1) y152) = some (r1, r2, r3) := by first | (rw [hy152]; with_reducible exact H) | (have H2_ := (Option.bind_some _ _).symm.trans H; rw [hy152]; with_reducible exact H2_) | (have H2_ := (Option.bind_some _ _).symm.trans H; with_reducible exact H2_) | with_reducible exact H | (rw [hy152]; exact H) | exact H
                    have Ny152 := Aside0.mk hy152
                    clear hy152
                    have H' := Aside0.mk H
                    clear H
                    go_wp2_with (first | ((with_reducible refine gate_dst (N := 8) rfl ?_); refine box_event ?hg (N := 8) ?hd (cs := #[.int .i64 0, .int .i64 0]) (t := 78) ?hr ?_; (case hd => rfl); (case hg => rfl); (case hr => first | (go_simp; done) | (go_simp; rfl)); intro gb145 hg w21 hbox hb; have n0_ := Aside0.mk (Kd.V_below (Kd.V_elderB (by (with_reducible repeat (first | apply Kd.V_alloc | apply Kd.V_drewN | apply Kd.V_drew)); exact HO_4.out) gb145 (Nat.le_of_eq hg.symm)) hb); have n1_ := Aside0.mk (Kd.R_below (Kd.R_elderB (by (with_reducible repeat (first | apply Kd.R_alloc | apply Kd.R_drewN | apply Kd.R_drew)); exact HO_144001.out) gb145 (Nat.le_of_eq hg.symm)) hb); have n2_ := Aside0.mk (blk_below (g := gb136) (o := .cells #[.bool false, .slice none 0 0] 56 (0, 0)) (by (with_reducible repeat (first | refine blk_drewN ?_ _ | refine blk_drew ?_ | refine blk_alloc ?_ _)); exact BK136.out) hb); have n3_ := Aside0.mk (blk_below (g := gb143) (o := .cells #[.bool ((rd t137 0) == 1), u144001] 56 (0, 0)) (by (with_reducible repeat (first | refine blk_drewN ?_ _ | refine blk_drew ?_ | refine blk_alloc ?_ _)); exact BK143.out) hb); have n4_ := Aside0.mk (below_step (by repeat (first | (with_reducible first | exact HB.out | apply below_alloc | apply pw_below_drewN | apply below_drew1 | refine below_set ?_ GE136.out | refine below_set ?_ GE143.out) | exact HB.out)) hb); have n5_ := Aside0.mk (hbox); have n6_ := Aside0.mk ((by rw [hg]; exact (below_size (by repeat (first | (with_reducible first | exact HB.out | apply below_alloc | apply pw_below_drewN | apply below_drew1 | refine below_set ?_ GE136.out | refine below_set ?_ GE143.out) | exact HB.out))) : w.heap.size ≤ gb145)); have n7_ := Aside0.mk ((by rw [hg]; exact (below_size (by repeat (first | (with_reducible first | exact HB.out | apply below_alloc | apply pw_below_drewN | apply below_drew1 | refine below_set ?_ GE136.out | refine below_set ?_ GE143.out) | exact HB.out))) : w.heap.size ≤ gb145)); have n8_ := Aside0.mk ((by rw [hg]; exact Nat.ne_of_lt (blk_lt (g := gb136) (o := .cells #[.bool false, .slice none 0 0] 56 (0, 0)) (by (with_reducible repeat (first | refine blk_drewN ?_ _ | refine blk_drew ?_ | refine blk_alloc ?_ _)); exact BK136.out)) : gb136 ≠ gb145)); have n9_ := Aside0.mk ((by rw [hg]; exact Nat.ne_of_gt (blk_lt (g := gb136) (o := .cells #[.bool false, .slice none 0 0] 56 (0, 0)) (by (with_reducible repeat (first | refine blk_drewN ?_ _ | refine blk_drew ?_ | refine blk_alloc ?_ _)); exact BK136.out)) : gb145 ≠ gb136)); have n10_ := Aside0.mk ((by rw [hg]; exact Nat.ne_of_lt (blk_lt (g := gb143) (o := .cells #[.bool ((rd t137 0) == 1), u144001] 56 (0, 0)) (by (with_reducible repeat (first | refine blk_drewN ?_ _ | refine blk_drew ?_ | refine blk_alloc ?_ _)); exact BK143.out)) : gb143 ≠ gb145)); have n11_ := Aside0.mk ((by rw [hg]; exact Nat.ne_of_gt (blk_lt (g := gb143) (o := .cells #[.bool ((rd t137 0) == 1), u144001] 56 (0, 0)) (by (with_reducible repeat (first | refine blk_drewN ?_ _ | refine blk_drew ?_ | refine blk_alloc ?_ _)); exact BK143.out)) : gb145 ≠ gb143)); clear HO_4; clear HO_144001; clear BK136; clear BK143; clear HB; have HO_4 := n0_; have HO_144001 := n1_; have BK136 := n2_; have BK143 := n3_; have HB := n4_; have BK145 := n5_; have GW145 := n6_; have GE145 := n7_; have NB136_145 := n8_; have NB145_136 := n9_; have NB143_145 := n10_; have NB145_143 := n11_; clear n0_ n1_ n2_ n3_ n4_ n5_ n6_ n7_ n8_ n9_ n10_ n11_; clear hb hbox hg) | ((with_reducible refine gate_callee (f := 49) rfl ?_); refine goesL_ (some 38) rfl rfl Try.func49 (by kernel_rfl) rfl #[.slice (some ad142) t137.length co13, .int .i64 x7_2, .int .i64 4] rfl (by (try simp only [List.map_toArray, List.map_cons, List.map_nil]); first | done | rfl | (simp only [List.length_drop, List.length_take]; rfl)) ?_; (with_reducible refine (num_Take.calls k2 _ _ t137 x7_2 4 t146 t147 t148 _ ?side1 ?side2 A18.out).mono ?_); (case side1 => repeat (first | exact (Kd.V_reads' HO_4.out).2.2 | (with_reducible refine Kd.C_alloc ?_ _) | (with_reducible refine Kd.C_drewN ?_ _) | (with_reducible refine Kd.C_drew ?_))); (case side2 => exact (Kd.V_reads' HO_4.out).2.1); rintro e w' ⟨rfl, ⟨nd, rfl⟩⟩; refine ⟨_, rfl, ?_⟩; (try (rw [drewN_self w21]; generalize hq_ : World.drewN w21 _ = w21; have n0_ : Aside0 (Kd.R k78 78 w21 w.heap.size (fun k_ => k_ ≠ gb145) u144001 x144001_2) := ⟨by rw [← hq_]; exact (by (with_reducible repeat (first | apply Kd.R_alloc | apply Kd.R_drewN | apply Kd.R_drew)); exact Kd.R_mono HO_144001.out (fun _ hk => hk.2))⟩; have n1_ : Aside0 (Kd.V (Kd.int .u8) 5 w21 w.heap.size (fun k_ => some k_ ≠ (u144001 : Value).ownBlock ∧ k_ ≠ gb136 ∧ k_ ≠ gb143 ∧ k_ ≠ gb145) (.slice (some ad142) t137.length co13) t137) := ⟨by rw [← hq_]; exact (by (with_reducible repeat (first | apply Kd.V_alloc | apply Kd.V_drewN | apply Kd.V_drew)); exact Kd.V_mono HO_4.out (fun _ hk => ⟨hk.1.1, ⟨hk.1.2.1, ⟨hk.1.2.2, hk.2⟩⟩⟩))⟩; have n2_ : Aside0 (w21.heap[gb136]? = some (.cells #[.bool false, .slice none 0 0] 56 (0, 0))) := ⟨by rw [← hq_]; exact (by (with_reducible repeat (first | refine blk_drewN ?_ _ | refine blk_drew ?_ | refine blk_alloc ?_ _)); exact BK136.out)⟩; have n3_ : Aside0 (w21.heap[gb143]? = some (.cells #[.bool ((rd t137 0) == 1), u144001] 56 (0, 0))) := ⟨by rw [← hq_]; exact (by (with_reducible repeat (first | refine blk_drewN ?_ _ | refine blk_drew ?_ | refine blk_alloc ?_ _)); exact BK143.out)⟩; have n4_ : Aside0 (w21.heap[gb145]? = some (.cells #[.int .i64 0, .int .i64 0] 78 (0, 0))) := ⟨by rw [← hq_]; exact (by (with_reducible repeat (first | refine blk_drewN ?_ _ | refine blk_drew ?_ | refine blk_alloc ?_ _)); exact BK145.out)⟩; have n5_ : Aside0 (Below w.heap.size w w21) := ⟨by rw [← hq_]; exact (by repeat (first | (with_reducible first | exact HB.out | apply below_alloc | apply pw_below_drewN | apply below_drew1 | refine below_set ?_ GE136.out | refine below_set ?_ GE143.out | refine below_set ?_ GE145.out) | exact HB.out))⟩; clear HO_144001 HO_4 BK136 BK143 BK145 HB hq_; have HO_144001 := n0_; have HO_4 := n1_; have BK136 := n2_; have BK143 := n3_; have BK145 := n4_; have HB := n5_; clear n0_ n1_ n2_ n3_ n4_ n5_)); have hnb22 := NB145_136.out; have hnc22 := NB136_145.out; have hnb23 := NB145_143.out; have hnc23 := NB143_145.out; have hcz24_0 : w21.cell? ⟨gb145, 0, none⟩ = some (.int .i64 0) := (blk_cell BK145.out 0).trans rfl; have hcz24_1 : w21.cell? ⟨gb145, 1, none⟩ = some (.int .i64 0) := (blk_cell BK145.out 1).trans rfl; have hfz24_0 := blk_frozen BK145.out 0; have hfz24_1 := blk_frozen BK145.out 1) | ((with_reducible refine gate_callee (f := 49) rfl ?_); refine goesL_ (some 46) rfl rfl Try.func49 (by kernel_rfl) rfl #[.slice (some ad142) t137.length co13, .int .i64 t147, .int .i64 4] rfl (by (try simp only [List.map_toArray, List.map_cons, List.map_nil]); first | done | rfl | (simp only [List.length_drop, List.length_take]; rfl)) ?_; (with_reducible refine (num_Take.calls k2 _ _ t137 t147 4 t149 t150 t151 _ ?side1 ?side2 A19.out).mono ?_); (case side1 => refine (Kd.V_reads' (e := 5) (base := w.heap.size) (ok := fun k_ => ((some k_ ≠ (u144001 : Value).ownBlock ∧ (k_ ≠ gb136 ∧ k_ ≠ gb143)) ∧ k_ ≠ gb145)) (n := t137.length) (c := co13) ?_).2.2; exact (by (with_reducible repeat (first | apply Kd.V_alloc | apply Kd.V_drewN | apply Kd.V_drew)); exact (Kd.V_mono (Kd.V_far (p := ⟨gb145, 0, none⟩) (Kd.V_mono HO_4.out (fun k_ hk => (⟨⟨⟨hk.1, hk.2.1, hk.2.2.1⟩, hk.2.2.2⟩, hk.2.2.2⟩ : ((_ ∧ _ ∧ _) ∧ _) ∧ k_ ≠ gb145))) (fun _ hk => hk.2) (.int .i64 t146)) (fun _ h_ => h_.1)))); (case side2 => exact (Kd.V_reads' HO_4.out).2.1); rintro e w' ⟨rfl, ⟨nd, rfl⟩⟩; refine ⟨_, rfl, ?_⟩; have hnb25 := NB143_136.out; have hnc25 := NB136_143.out; have hcz26_0 : w21.cell? ⟨gb143, 0, none⟩ = some (.bool ((rd t137 0) == 1)) := (blk_cell BK143.out 0).trans rfl; have hcz26_1 : w21.cell? ⟨gb143, 1, none⟩ = some (u144001) := (blk_cell BK143.out 1).trans rfl; have hfz26_0 := blk_frozen BK143.out 0; have hfz26_1 := blk_frozen BK143.out 1) | ((with_reducible refine gate_builtin (b := .append) (xs := #[.tmp 52, .tmp 54]) rfl ?_); at_builtin; refine Kd.R_append k78 (w0 := w) w.heap.size rfl (.tmp 52) (.tmp 54) 54 78 (.agg #[(.int .i64 0), (.int .i64 0)]) 16 rfl Try.underlying54 info78 rfl (by decide) (by omega) u144001 x144001_2 (⟨t146, t149⟩ : S78) [.int .i64 t146, .int .i64 t149] (fun k_ => k_ ≠ gb145) (fun _ => False) rfl (by show Value.slice (some ⟨w21.heap.size, 0, none⟩) 1 1 = _; rw [World.size_setCell, size_drewN_, World.size_setCell]) ?aP (fun _ hk => hk.elim) ?aF ?aO ?aB ?aS ?aL ?_; (case aP => exact k78_mkM _ _ _ (⟨t146, t149⟩ : S78)); (case aB => exact (by repeat (first | (with_reducible first | exact HB.out | apply below_alloc | apply pw_below_drewN | apply below_drew1 | refine below_set ?_ GE136.out | refine below_set ?_ GE143.out | refine below_set ?_ GE145.out) | exact HB.out))); (case aF => exact (fun k_ hk => Kd.freshB (g := gb145) (o := .cells #[.int .i64 t146, .int .i64 t149] 78 (0, 0)) (by (with_reducible repeat (first | refine blk_drewN ?_ _ | refine blk_drew ?_ | refine blk_alloc ?_ _)); refine blk_put (cs := #[.int .i64 t146, .int .i64 0]) ?_ 1 _ rfl; (with_reducible repeat (first | refine blk_drewN ?_ _ | refine blk_drew ?_ | refine blk_alloc ?_ _)); refine blk_put (cs := #[.int .i64 0, .int .i64 0]) ?_ 0 _ rfl; (with_reducible repeat (first | refine blk_drewN ?_ _ | refine blk_drew ?_ | refine blk_alloc ?_ _)); exact BK145.out) k_ hk)); (case aO => exact (by (with_reducible repeat (first | apply Kd.R_alloc | apply Kd.R_drewN | apply Kd.R_drew)); exact Kd.R_mono (Kd.R_far (p := ⟨gb145, 1, none⟩) (Kd.R_far (p := ⟨gb145, 0, none⟩) (Kd.R_mono HO_144001.out (fun k_ hk => (⟨⟨trivial, hk⟩, hk⟩ : (True ∧ _) ∧ k_ ≠ gb145))) (fun _ hk => hk.2) (.int .i64 t146)) (fun _ hk => hk.2) (.int .i64 t149)) (fun _ hk => hk.1.2))); (case aS => exact (below_size (by repeat (first | (with_reducible first | exact HB.out | apply below_alloc | apply pw_below_drewN | apply below_drew1 | refine below_set ?_ GE136.out | refine below_set ?_ GE143.out | refine below_set ?_ GE145.out) | exact HB.out)))); (case aL => have := LMc20.out; omega); intro v153 w27 ho hb hg hat; rw [← Ny152.out] at ho; have n0_ := Aside0.mk (Kd.V_afterv (ok := (fun k_ => k_ ≠ gb136 ∧ k_ ≠ gb143 ∧ k_ ≠ gb145)) (by (with_reducible repeat (first | apply Kd.V_alloc | apply Kd.V_drewN | apply Kd.V_drew)); exact Kd.V_mono (Kd.V_far (p := ⟨gb145, 1, none⟩) (Kd.V_drewN (Kd.V_far (p := ⟨gb145, 0, none⟩) (Kd.V_mono HO_4.out (fun k_ hk => (⟨⟨⟨hk.1, hk.2.1, hk.2.2.1⟩, hk.2.2.2⟩, hk.2.2.2⟩ : ((_ ∧ _ ∧ _) ∧ _) ∧ k_ ≠ gb145))) (fun _ hk => hk.2) (.int .i64 t146)) nd) (fun _ hk => hk.2) (.int .i64 t149)) (fun _ hk => ⟨⟨hk.1.1.2.1, ⟨hk.1.1.2.2, hk.1.2⟩⟩, hk.1.1.1⟩)) hg hat); have n1_ := Aside0.mk (blk_grown (g := gb136) (o := .cells #[.bool false, .slice none 0 0] 56 (0, 0)) (by (with_reducible repeat (first | refine blk_drewN ?_ _ | refine blk_drew ?_ | refine blk_alloc ?_ _)); refine blk_far ?_ NB136_145.out _; (with_reducible repeat (first | refine blk_drewN ?_ _ | refine blk_drew ?_ | refine blk_alloc ?_ _)); refine blk_far ?_ NB136_145.out _; (with_reducible repeat (first | refine blk_drewN ?_ _ | refine blk_drew ?_ | refine blk_alloc ?_ _)); exact BK136.out) hg (Kd.R_ne HO_144001.out BK136.out (by decide))); have n2_ := Aside0.mk (blk_grown (g := gb143) (o := .cells #[.bool ((rd t137 0) == 1), u144001] 56 (0, 0)) (by (with_reducible repeat (first | refine blk_drewN ?_ _ | refine blk_drew ?_ | refine blk_alloc ?_ _)); refine blk_far ?_ NB143_145.out _; (with_reducible repeat (first | refine blk_drewN ?_ _ | refine blk_drew ?_ | refine blk_alloc ?_ _)); refine blk_far ?_ NB143_145.out _; (with_reducible repeat (first | refine blk_drewN ?_ _ | refine blk_drew ?_ | refine blk_alloc ?_ _)); exact BK143.out) hg (Kd.R_ne HO_144001.out BK143.out (by decide))); have n3_ := Aside0.mk (blk_grown (g := gb145) (o := .cells #[.int .i64 t146, .int .i64 t149] 78 (0, 0)) (by (with_reducible repeat (first | refine blk_drewN ?_ _ | refine blk_drew ?_ | refine blk_alloc ?_ _)); refine blk_put (cs := #[.int .i64 t146, .int .i64 0]) ?_ 1 _ rfl; (with_reducible repeat (first | refine blk_drewN ?_ _ | refine blk_drew ?_ | refine blk_alloc ?_ _)); refine blk_put (cs := #[.int .i64 0, .int .i64 0]) ?_ 0 _ rfl; (with_reducible repeat (first | refine blk_drewN ?_ _ | refine blk_drew ?_ | refine blk_alloc ?_ _)); exact BK145.out) hg (Kd.R_away HO_144001.out (fun _ hk => hk))); have n4_ := Aside0.mk (hb); have n5_ := Aside0.mk (ho); clear HO_4; clear BK136; clear BK143; clear BK145; clear HB; clear HO_144001; have HO_4 := n0_; have BK136 := n1_; have BK143 := n2_; have BK145 := n3_; have HB := n4_; have HO154 := n5_; clear n0_ n1_ n2_ n3_ n4_ n5_; clear ho hb hg hat; obtain ⟨Ao28, co28, eo28⟩ := Kd.R_slice HO154.out; subst eo28; have hcz29_0 : w27.cell? ⟨gb143, 0, none⟩ = some (.bool ((rd t137 0) == 1)) := (blk_cell BK143.out 0).trans rfl; have hcz29_1 : w27.cell? ⟨gb143, 1, none⟩ = some (u144001) := (blk_cell BK143.out 1).trans rfl; have hfz29_0 := blk_frozen BK143.out 0; have hfz29_1 := blk_frozen BK143.out 1))
                    go_roundg k2
                    case measure => have := HJ2.out; have := HK2.out; omega
                    case rel => exact ⟨(t150), ((x33_2 + 1) % 256), (y152), (.slice Ao28 y152.length co28), (by first | rfl | (simp; done) | (simp [*]; done)), (by first | rfl | (simp; done) | (simp [*]; done)), H', ⟨by have := HJ2.out; have := HK2.out; omega⟩, ⟨by (with_reducible repeat (first | apply Kd.V_alloc | apply Kd.V_drewN | apply Kd.V_drew)); exact Kd.V_mono (Kd.V_far (p := ⟨gb143, 1, none⟩) (Kd.V_mono HO_4.out (fun k_ hk => (⟨hk, hk.1.2.1⟩ : _ ∧ k_ ≠ gb143))) (fun _ hk => hk.2) (.slice Ao28 y152.length co28)) (fun _ hk => ⟨hk.1.2, ⟨hk.1.1.1, hk.1.1.2.1⟩⟩)⟩, ⟨by (with_reducible repeat (first | apply Kd.R_alloc | apply Kd.R_drewN | apply Kd.R_drew)); exact Kd.R_mono (Kd.R_far (p := ⟨gb143, 1, none⟩) (Kd.R_types HO154.out BK143.out (by decide)) (fun _ hk => hk.2) (.slice Ao28 y152.length co28)) (fun _ hk => trivial)⟩, ⟨by (with_reducible repeat (first | refine blk_drewN ?_ _ | refine blk_drew ?_ | refine blk_alloc ?_ _)); refine blk_far ?_ NB136_143.out _; (with_reducible repeat (first | refine blk_drewN ?_ _ | refine blk_drew ?_ | refine blk_alloc ?_ _)); exact BK136.out⟩, ⟨by (with_reducible repeat (first | refine blk_drewN ?_ _ | refine blk_drew ?_ | refine blk_alloc ?_ _)); refine blk_put (cs := #[.bool ((rd t137 0) == 1), u144001]) ?_ 1 _ rfl; (with_reducible repeat (first | refine blk_drewN ?_ _ | refine blk_drew ?_ | refine blk_alloc ?_ _)); exact BK143.out⟩, ⟨by repeat (first | (with_reducible first | exact HB.out | apply below_alloc | apply pw_below_drewN | apply below_drew1 | refine below_set ?_ GE136.out | refine below_set ?_ GE143.out | refine below_set ?_ GE145.out) | exact HB.out)⟩⟩
                  · rw [if_neg c20] at H
                    exact absurd H (by simp)
                · rw [if_neg c17] at H
                  have c17b0 : decide (x33_2 < (rd t137 1)) = false := decide_eq_false c17
                  clear c17
                  replace H := Option.bind_eq_some_iff.mp H
                  obtain ⟨⟨t155, t156⟩, A300, H⟩ := H
                  replace H : (if t156 = 0 then (if t155.toList = a0.toList then (some (((rd t137 0) == 1), x144001_2, 0)) else (some (false, ([] : List (S78)), 2))) else (some (false, ([] : List (S78)), 2))) = some (r1, r2, r3) := H
                  have A30 := Aside0.mk A300
                  clear A300
                  by_cases c31 : t156 = 0
                  · rw [if_pos c31] at H
                    have c31b0 : (t156 == 0) = true := beq_iff_eq.mpr c31
                    have c31b1 : (t156 != 0) = false := bne_eq_false_iff_eq.mpr c31
                    clear c31
                    by_cases c32 : t155.toList = a0.toList
                    · rw [if_pos c32] at H
                      have c32b0 : (t155.toList == a0.toList) = true := beq_iff_eq.mpr c32
                      have c32b1 : (t155.toList != a0.toList) = false := bne_eq_false_iff_eq.mpr c32
                      clear c32
                      simp only [Option.some.injEq, Prod.mk.injEq] at H
                      obtain ⟨rfl, rfl, rfl⟩ := H
                      have hnb33 := NB143_136.out
                      have hnc33 := NB136_143.out
                      have hcz34_0 : wr.cell? ⟨gb143, 0, none⟩ = some (.bool ((rd t137 0) == 1)) := (blk_cell BK143.out 0).trans rfl
                      have hcz34_1 : wr.cell? ⟨gb143, 1, none⟩ = some (u144001) := (blk_cell BK143.out 1).trans rfl
                      have hfz34_0 := blk_frozen BK143.out 0
                      have hfz34_1 := blk_frozen BK143.out 1
                      obtain ⟨Ao35, co35, eo35⟩ := Kd.R_slice HO_144001.out
                      subst eo35
                      go_wp2_with (first | ((with_reducible refine gate_callee (f := 27) rfl ?_); refine goesL_ (some 60) rfl rfl Try.func27 (by kernel_rfl) rfl #[.agg #[.bool ((rd t137 0) == 1), .slice Ao35 x144001_2.length co35]] rfl (by (try simp only [List.map_toArray, List.map_cons, List.map_nil]); first | done | rfl | (simp only [List.length_drop, List.length_take]; rfl)) ?_; (with_reducible refine (node_Print.calls k2 ((rd t137 0) == 1) _ _ x144001_2 t155 t156 _ ?side1 ?side2 A30.out).mono ?_); (case side1 => repeat (first | exact (Kd.R_reads' HO_144001.out).2.2 | (with_reducible refine Kd.C_alloc ?_ _) | (with_reducible refine Kd.C_drewN ?_ _) | (with_reducible refine Kd.C_drew ?_))); (case side2 => exact (Kd.R_reads' HO_144001.out).2.1); rintro e w36 ⟨rfl, hb⟩; refine ⟨_, rfl, ?_⟩; have n0_ := Aside0.mk (Kd.V_below (by (with_reducible repeat (first | apply Kd.V_alloc | apply Kd.V_drewN | apply Kd.V_drew)); exact HO_4.out) hb); have n1_ := Aside0.mk (Kd.R_below (by (with_reducible repeat (first | apply Kd.R_alloc | apply Kd.R_drewN | apply Kd.R_drew)); exact HO_144001.out) hb); have n2_ := Aside0.mk (blk_below (g := gb136) (o := .cells #[.bool false, .slice none 0 0] 56 (0, 0)) (by (with_reducible repeat (first | refine blk_drewN ?_ _ | refine blk_drew ?_ | refine blk_alloc ?_ _)); exact BK136.out) hb); have n3_ := Aside0.mk (blk_below (g := gb143) (o := .cells #[.bool ((rd t137 0) == 1), .slice Ao35 x144001_2.length co35] 56 (0, 0)) (by (with_reducible repeat (first | refine blk_drewN ?_ _ | refine blk_drew ?_ | refine blk_alloc ?_ _)); exact BK143.out) hb); have n4_ := Aside0.mk (below_step (by repeat (first | (with_reducible first | exact HB.out | apply below_alloc | apply pw_below_drewN | apply below_drew1 | refine below_set ?_ GE136.out | refine below_set ?_ GE143.out) | exact HB.out)) hb); clear HO_4; clear HO_144001; clear BK136; clear BK143; clear HB; have HO_4 := n0_; have HO_144001 := n1_; have BK136 := n2_; have BK143 := n3_; have HB := n4_; clear n0_ n1_ n2_ n3_ n4_; (try clear hb); (try clear hb2); (try clear hk); (try clear hi); have hcz37_0 : w36.cell? ⟨gb143, 0, none⟩ = some (.bool ((rd t137 0) == 1)) := (blk_cell BK143.out 0).trans rfl; have hcz37_1 : w36.cell? ⟨gb143, 1, none⟩ = some (.slice Ao35 x144001_2.length co35) := (blk_cell BK143.out 1).trans rfl; have hfz37_0 := blk_frozen BK143.out 0; have hfz37_1 := blk_frozen BK143.out 1; have hcz38_0 : w36.cell? ⟨gb136, 0, none⟩ = some (.bool false) := (blk_cell BK136.out 0).trans rfl; have hcz38_1 : w36.cell? ⟨gb136, 1, none⟩ = some (.slice none 0 0) := (blk_cell BK136.out 1).trans rfl; have hfz38_0 := blk_frozen BK136.out 0; have hfz38_1 := blk_frozen BK136.out 1))
                      refine bodyPost_ret (results_ct rfl _ _ gb136 56 #[.bool ((rd t137 0) == 1), .slice Ao35 x144001_2.length co35] (0, 0) _ rfl (by (with_reducible repeat (first | refine blk_drewN ?_ _ | refine blk_drew ?_ | refine blk_alloc ?_ _)); refine blk_put (cs := #[.bool ((rd t137 0) == 1), .slice none 0 0]) ?_ 1 _ rfl; (with_reducible repeat (first | refine blk_drewN ?_ _ | refine blk_drew ?_ | refine blk_alloc ?_ _)); refine blk_put (cs := #[.bool false, .slice none 0 0]) ?_ 0 _ rfl; (with_reducible repeat (first | refine blk_drewN ?_ _ | refine blk_drew ?_ | refine blk_alloc ?_ _)); exact BK136.out) Try.underlying56 rfl (by kernel_rfl)) rfl ?_
                      exact ⟨_, by first | rfl | (simp [errW_none, errW_some] <;> rfl) | (simp [*, errW_none, errW_some] <;> rfl), by (with_reducible repeat (first | apply Kd.R_alloc | apply Kd.R_drewN | apply Kd.R_drew)); exact Kd.R_mono (Kd.R_far (p := ⟨gb136, 1, none⟩) (Kd.R_far (p := ⟨gb136, 0, none⟩) (Kd.R_types HO_144001.out BK136.out (by decide)) (fun _ hk => hk.2) (.bool ((rd t137 0) == 1))) (fun _ hk => hk.2) (.slice Ao35 x144001_2.length co35)) (fun _ hk => trivial), by repeat (first | (with_reducible first | exact HB.out | apply below_alloc | apply pw_below_drewN | apply below_drew1 | refine below_set ?_ GE136.out | refine below_set ?_ GE143.out) | exact HB.out)⟩
                    · rw [if_neg c32] at H
                      have c32b0 : (t155.toList == a0.toList) = false := beq_eq_false_iff_ne.mpr c32
                      have c32b1 : (t155.toList != a0.toList) = true := bne_iff_ne.mpr c32
                      simp only [Option.some.injEq, Prod.mk.injEq] at H
                      obtain ⟨rfl, rfl, rfl⟩ := H
                      have hnb39 := NB143_136.out
                      have hnc39 := NB136_143.out
                      have hcz40_0 : wr.cell? ⟨gb143, 0, none⟩ = some (.bool ((rd t137 0) == 1)) := (blk_cell BK143.out 0).trans rfl
                      have hcz40_1 : wr.cell? ⟨gb143, 1, none⟩ = some (u144001) := (blk_cell BK143.out 1).trans rfl
                      have hfz40_0 := blk_frozen BK143.out 0
                      have hfz40_1 := blk_frozen BK143.out 1
                      obtain ⟨Ao41, co41, eo41⟩ := Kd.R_slice HO_144001.out
                      subst eo41
                      go_wp2_with (first | ((with_reducible refine gate_callee (f := 27) rfl ?_); refine goesL_ (some 60) rfl rfl Try.func27 (by kernel_rfl) rfl #[.agg #[.bool ((rd t137 0) == 1), .slice Ao41 x144001_2.length co41]] rfl (by (try simp only [List.map_toArray, List.map_cons, List.map_nil]); first | done | rfl | (simp only [List.length_drop, List.length_take]; rfl)) ?_; (with_reducible refine (node_Print.calls k2 ((rd t137 0) == 1) _ _ x144001_2 t155 t156 _ ?side1 ?side2 A30.out).mono ?_); (case side1 => repeat (first | exact (Kd.R_reads' HO_144001.out).2.2 | (with_reducible refine Kd.C_alloc ?_ _) | (with_reducible refine Kd.C_drewN ?_ _) | (with_reducible refine Kd.C_drew ?_))); (case side2 => exact (Kd.R_reads' HO_144001.out).2.1); rintro e w42 ⟨rfl, hb⟩; refine ⟨_, rfl, ?_⟩; have n0_ := Aside0.mk (Kd.V_below (by (with_reducible repeat (first | apply Kd.V_alloc | apply Kd.V_drewN | apply Kd.V_drew)); exact HO_4.out) hb); have n1_ := Aside0.mk (Kd.R_below (by (with_reducible repeat (first | apply Kd.R_alloc | apply Kd.R_drewN | apply Kd.R_drew)); exact HO_144001.out) hb); have n2_ := Aside0.mk (blk_below (g := gb136) (o := .cells #[.bool false, .slice none 0 0] 56 (0, 0)) (by (with_reducible repeat (first | refine blk_drewN ?_ _ | refine blk_drew ?_ | refine blk_alloc ?_ _)); exact BK136.out) hb); have n3_ := Aside0.mk (blk_below (g := gb143) (o := .cells #[.bool ((rd t137 0) == 1), .slice Ao41 x144001_2.length co41] 56 (0, 0)) (by (with_reducible repeat (first | refine blk_drewN ?_ _ | refine blk_drew ?_ | refine blk_alloc ?_ _)); exact BK143.out) hb); have n4_ := Aside0.mk (below_step (by repeat (first | (with_reducible first | exact HB.out | apply below_alloc | apply pw_below_drewN | apply below_drew1 | refine below_set ?_ GE136.out | refine below_set ?_ GE143.out) | exact HB.out)) hb); clear HO_4; clear HO_144001; clear BK136; clear BK143; clear HB; have HO_4 := n0_; have HO_144001 := n1_; have BK136 := n2_; have BK143 := n3_; have HB := n4_; clear n0_ n1_ n2_ n3_ n4_; (try clear hb); (try clear hb2); (try clear hk); (try clear hi); have hcz43_0 : w42.cell? ⟨gb136, 0, none⟩ = some (.bool false) := (blk_cell BK136.out 0).trans rfl; have hcz43_1 : w42.cell? ⟨gb136, 1, none⟩ = some (.slice none 0 0) := (blk_cell BK136.out 1).trans rfl; have hfz43_0 := blk_frozen BK136.out 0; have hfz43_1 := blk_frozen BK136.out 1))
                      refine bodyPost_ret (results_ct rfl _ _ gb136 56 #[.bool false, .slice none 0 0] (0, 0) _ rfl (by (with_reducible repeat (first | refine blk_drewN ?_ _ | refine blk_drew ?_ | refine blk_alloc ?_ _)); refine blk_put (cs := #[.bool false, .slice none 0 0]) ?_ 1 _ rfl; (with_reducible repeat (first | refine blk_drewN ?_ _ | refine blk_drew ?_ | refine blk_alloc ?_ _)); refine blk_put (cs := #[.bool false, .slice none 0 0]) ?_ 0 _ rfl; (with_reducible repeat (first | refine blk_drewN ?_ _ | refine blk_drew ?_ | refine blk_alloc ?_ _)); exact BK136.out) Try.underlying56 rfl (by kernel_rfl)) rfl ?_
                      exact ⟨_, by first | rfl | (simp [errW_none, errW_some] <;> rfl) | (simp [*, errW_none, errW_some] <;> rfl), by first | exact Kd.R_nil _ _ _ _ _ | exact Kd.N_nil _ _ _ _ _ | exact Kd.V_nil _ _ _ _ _ | exact Kd.Q_nil _ _ _ _ _ | exact Kd.S_nil _ _ _ _ _, by repeat (first | (with_reducible first | exact HB.out | apply below_alloc | apply pw_below_drewN | apply below_drew1 | refine below_set ?_ GE136.out | refine below_set ?_ GE143.out) | exact HB.out)⟩
                  · rw [if_neg c31] at H
                    have c31b0 : (t156 == 0) = false := beq_eq_false_iff_ne.mpr c31
                    have c31b1 : (t156 != 0) = true := bne_iff_ne.mpr c31
                    simp only [Option.some.injEq, Prod.mk.injEq] at H
                    obtain ⟨rfl, rfl, rfl⟩ := H
                    have hnb44 := NB143_136.out
                    have hnc44 := NB136_143.out
                    have hcz45_0 : wr.cell? ⟨gb143, 0, none⟩ = some (.bool ((rd t137 0) == 1)) := (blk_cell BK143.out 0).trans rfl
                    have hcz45_1 : wr.cell? ⟨gb143, 1, none⟩ = some (u144001) := (blk_cell BK143.out 1).trans rfl
                    have hfz45_0 := blk_frozen BK143.out 0
                    have hfz45_1 := blk_frozen BK143.out 1
                    obtain ⟨Ao46, co46, eo46⟩ := Kd.R_slice HO_144001.out
                    subst eo46
                    go_wp2_with (first | ((with_reducible refine gate_callee (f := 27) rfl ?_); refine goesL_ (some 60) rfl rfl Try.func27 (by kernel_rfl) rfl #[.agg #[.bool ((rd t137 0) == 1), .slice Ao46 x144001_2.length co46]] rfl (by (try simp only [List.map_toArray, List.map_cons, List.map_nil]); first | done | rfl | (simp only [List.length_drop, List.length_take]; rfl)) ?_; (with_reducible refine (node_Print.calls k2 ((rd t137 0) == 1) _ _ x144001_2 t155 t156 _ ?side1 ?side2 A30.out).mono ?_); (case side1 => repeat (first | exact (Kd.R_reads' HO_144001.out).2.2 | (with_reducible refine Kd.C_alloc ?_ _) | (with_reducible refine Kd.C_drewN ?_ _) | (with_reducible refine Kd.C_drew ?_))); (case side2 => exact (Kd.R_reads' HO_144001.out).2.1); rintro e w47 ⟨rfl, hb⟩; refine ⟨_, rfl, ?_⟩; have n0_ := Aside0.mk (Kd.V_below (by (with_reducible repeat (first | apply Kd.V_alloc | apply Kd.V_drewN | apply Kd.V_drew)); exact HO_4.out) hb); have n1_ := Aside0.mk (Kd.R_below (by (with_reducible repeat (first | apply Kd.R_alloc | apply Kd.R_drewN | apply Kd.R_drew)); exact HO_144001.out) hb); have n2_ := Aside0.mk (blk_below (g := gb136) (o := .cells #[.bool false, .slice none 0 0] 56 (0, 0)) (by (with_reducible repeat (first | refine blk_drewN ?_ _ | refine blk_drew ?_ | refine blk_alloc ?_ _)); exact BK136.out) hb); have n3_ := Aside0.mk (blk_below (g := gb143) (o := .cells #[.bool ((rd t137 0) == 1), .slice Ao46 x144001_2.length co46] 56 (0, 0)) (by (with_reducible repeat (first | refine blk_drewN ?_ _ | refine blk_drew ?_ | refine blk_alloc ?_ _)); exact BK143.out) hb); have n4_ := Aside0.mk (below_step (by repeat (first | (with_reducible first | exact HB.out | apply below_alloc | apply pw_below_drewN | apply below_drew1 | refine below_set ?_ GE136.out | refine below_set ?_ GE143.out) | exact HB.out)) hb); clear HO_4; clear HO_144001; clear BK136; clear BK143; clear HB; have HO_4 := n0_; have HO_144001 := n1_; have BK136 := n2_; have BK143 := n3_; have HB := n4_; clear n0_ n1_ n2_ n3_ n4_; (try clear hb); (try clear hb2); (try clear hk); (try clear hi); have hcz48_0 : w47.cell? ⟨gb136, 0, none⟩ = some (.bool false) := (blk_cell BK136.out 0).trans rfl; have hcz48_1 : w47.cell? ⟨gb136, 1, none⟩ = some (.slice none 0 0) := (blk_cell BK136.out 1).trans rfl; have hfz48_0 := blk_frozen BK136.out 0; have hfz48_1 := blk_frozen BK136.out 1))
                    refine bodyPost_ret (results_ct rfl _ _ gb136 56 #[.bool false, .slice none 0 0] (0, 0) _ rfl (by (with_reducible repeat (first | refine blk_drewN ?_ _ | refine blk_drew ?_ | refine blk_alloc ?_ _)); refine blk_put (cs := #[.bool false, .slice none 0 0]) ?_ 1 _ rfl; (with_reducible repeat (first | refine blk_drewN ?_ _ | refine blk_drew ?_ | refine blk_alloc ?_ _)); refine blk_put (cs := #[.bool false, .slice none 0 0]) ?_ 0 _ rfl; (with_reducible repeat (first | refine blk_drewN ?_ _ | refine blk_drew ?_ | refine blk_alloc ?_ _)); exact BK136.out) Try.underlying56 rfl (by kernel_rfl)) rfl ?_
                    exact ⟨_, by first | rfl | (simp [errW_none, errW_some] <;> rfl) | (simp [*, errW_none, errW_some] <;> rfl), by first | exact Kd.R_nil _ _ _ _ _ | exact Kd.N_nil _ _ _ _ _ | exact Kd.V_nil _ _ _ _ _ | exact Kd.Q_nil _ _ _ _ _ | exact Kd.S_nil _ _ _ _ _, by repeat (first | (with_reducible first | exact HB.out | apply below_alloc | apply pw_below_drewN | apply below_drew1 | refine below_set ?_ GE136.out | refine below_set ?_ GE143.out) | exact HB.out)⟩
          · rw [if_neg c12] at H
            exact absurd H (by simp)
        · rw [if_neg c11] at H
          exact absurd H (by simp)

end Go.Proofs.Ythjnkapkhphpeaa.P
end
section
namespace Go.Proofs.Ythjnkapkhphpeaa.P
open Go.RowKit Go.Proofs.YthjnkapkhphpeaaW.PrintWords Go.Proofs.YthjnkapkhphpeaaW.PrintLast Go.Proofs.YthjnkapkhphpeaaW.PrintMore
attribute [local go_sem] max2_int min2_int max_two min_two max_three min_three max_four min_four
set_option linter.unusedVariables false
set_option linter.unusedSimpArgs false

theorem eqA78 (d : Nat) (w : World) (x0 y0 : Int) (x1 y1 : Int) :
    (Op.equalIn (d + 2) 78 (.agg #[.int .i64 x0, .int .i64 x1]) (.agg #[.int .i64 y0, .int .i64 y1])).run Try.prog w = .ok (x0 == y0 && (x1 == y1)) w := by
  refine eqA_of Try.underlying78 (by kernel_rfl) ?_
  refine eqf_cons (by rfl) (by go_simp; rfl) (by go_simp; rfl) (by go_simp) ?_
  exact eqf_last (by rfl) (by go_simp; rfl) (by go_simp; rfl) (by go_simp)
end Go.Proofs.Ythjnkapkhphpeaa.P
end
section
namespace Go.Proofs.Ythjnkapkhphpeaa.P
open Go.RowKit Go.Proofs.YthjnkapkhphpeaaW.PrintWords Go.Proofs.YthjnkapkhphpeaaW.PrintLast Go.Proofs.YthjnkapkhphpeaaW.PrintMore
attribute [local go_sem] max2_int min2_int max_two min_two max_three min_three max_four min_four
set_option linter.unusedVariables false
set_option linter.unusedSimpArgs false

attribute [local go_sem high] eqA78
/-! ### api_Item_55: function 55 -/
def api_Item_55.l0 : Nat → List (S78) → List (S78) → Int → Int → Option (Bool)
  | 0, _, _, _, _ => none
  | k + 1, x0, x1, x12, x13 => if x13 < x12 then (if 0 ≤ x13 then (if x13 < (x0.length : Int) then (if x13 < (x1.length : Int) then (if (!(((rd_T78 x0 x13).f0) == ((rd_T78 x1 x13).f0)) || (!(((rd_T78 x0 x13).f1) == ((rd_T78 x1 x13).f1)))) = true then (some false) else (api_Item_55.l0 k x0 x1 x12 (wrap64 (x13 + 1)))) else (none)) else (none)) else (none)) else (some true)
def api_Item_55.f (k : Nat) (l0 : List (S78)) (l1 : List (S78)) : Option (Bool) := if (l0.length : Int) = (l1.length : Int) then (api_Item_55.l0 k l0 l1 (l0.length : Int) 0) else (some false)
theorem api_Item_55.mono_l : ∀ k, (∀ y0 y1 y2 y3, LeO (api_Item_55.l0 k y0 y1 y2 y3) (api_Item_55.l0 (k + 1) y0 y1 y2 y3))
  | 0 => fun _ _ _ _ r h => by simp [api_Item_55.l0] at h
  | k + 1 => by
    have ih0 := api_Item_55.mono_l k
    · intro y0 y1 y2 y3
      unfold api_Item_55.l0
      repeat' first
      | (with_reducible exact ih0 _ _ _ _)
      | (with_reducible exact LeO.refl _)
      | (with_reducible exact LeO.none _)
      | (with_reducible refine LeO.ite ?_ ?_)
      | (with_reducible refine LeO.bind ?_ (fun _ => ?_))
      | exact ih0 _ _ _ _
      | exact LeO.none _
      | refine LeO.ite ?_ ?_
      | refine LeO.bind ?_ (fun _ => ?_)
theorem api_Item_55.mono : ∀ a0 a1 k, LeO (api_Item_55.f k a0 a1) (api_Item_55.f (k + 1) a0 a1) := by
  intro a0 a1 k
  have ih0 := api_Item_55.mono_l k
  unfold api_Item_55.f
  repeat' first
      | (with_reducible exact ih0 _ _ _ _)
      | (with_reducible exact LeO.refl _)
      | (with_reducible exact LeO.none _)
      | (with_reducible refine LeO.ite ?_ ?_)
      | (with_reducible refine LeO.bind ?_ (fun _ => ?_))
      | exact ih0 _ _ _ _
      | exact LeO.none _
      | refine LeO.ite ?_ ?_
      | refine LeO.bind ?_ (fun _ => ?_)
set_option maxHeartbeats 8000000 in
set_option maxRecDepth 100000 in
theorem api_Item_55.calls (k : Nat) (A0 : Option Addr) (c0 : Nat) (l0 : List (S78)) (A1 : Option Addr) (c1 : Nat) (l1 : List (S78)) (r : Bool) (w : World) (hr0 : Kd.C k78 w A0 l0.length l0) (hc0 : l0.length ≤ c0) (hr1 : Kd.C k78 w A1 l1.length l1) (hc1 : l1.length ≤ c1) (h : api_Item_55.f k l0 l1 = some r) :
    Calls Try.prog 55 #[.slice A0 l0.length c0, .slice A1 l1.length c1] w fun e w' => e = .returned (.bool r) ∧ Drawn0 w w' := by
  have hu78 := Try.underlying78
  have HR0 := Aside0.mk hr0
  have HC0 := Aside0.mk hc0
  clear hr0 hc0
  have HR1 := Aside0.mk hr1
  have HC1 := Aside0.mk hc1
  clear hr1 hc1
  have H : (if (l0.length : Int) = (l1.length : Int) then (api_Item_55.l0 k l0 l1 (l0.length : Int) 0) else (some false)) = some r := h
  clear h
  by_cases c3 : (l0.length : Int) = (l1.length : Int)
  · rw [if_pos c3] at H
    have c3b0 : ((l0.length : Int) == (l1.length : Int)) = true := beq_iff_eq.mpr c3
    have c3b1 : ((l0.length : Int) != (l1.length : Int)) = false := bne_eq_false_iff_eq.mpr c3
    have c3b2 : (l0.length == l1.length) = true := by first | simpa using c3 | (simp at c3 ⊢; omega)
    clear c3
    have H' := Aside0.mk H
    clear H
    go_enter Try.func55, Try.ntmps55
    go_wp2
    repeat (go_quiet (fail); try go_wp2)
    go_loopg [13] k (fun kq v13 w' => ∃ (x13_1 : Int), v13 = .int .i64 x13_1 ∧ Aside0 (api_Item_55.l0 kq l0 l1 (l0.length : Int) x13_1 = some r) ∧ Aside0 (kq ≤ k) ∧ Drawn0 w w')
    case atStart => exact ⟨(0), (by first | rfl | (simp; done) | (simp [*]; done)), H', ⟨Nat.le_refl _⟩, by repeat (first | exact Drawn0.refl _ | apply Drawn0.step)⟩
    case round =>
      clear H'
      try clear c1
      try clear p2
      try clear c3
      try clear c3b0
      try clear c3b1
      try clear c3b2
      obtain ⟨x13_1, rfl, HA, HK1, ⟨m1, rfl⟩⟩ := hrel
      cases gk with
      | zero => exact absurd HA.out (by simp [api_Item_55.l0])
      | succ k1 =>
        have H := HA.out
        clear HA
        simp only [api_Item_55.l0] at H
        by_cases c4 : x13_1 < (l0.length : Int)
        · rw [if_pos c4] at H
          have c4b0 : decide (x13_1 < (l0.length : Int)) = true := decide_eq_true c4
          clear c4
          by_cases c5 : 0 ≤ x13_1
          · rw [if_pos c5] at H
            have c5b0 : decide (0 ≤ x13_1) = true := decide_eq_true c5
            clear c5
            by_cases c6 : x13_1 < (l0.length : Int)
            · rw [if_pos c6] at H
              have c6b0 : decide (x13_1 < (l0.length : Int)) = true := decide_eq_true c6
              clear c6
              by_cases c7 : x13_1 < (l1.length : Int)
              · rw [if_pos c7] at H
                have c7b0 : decide (x13_1 < (l1.length : Int)) = true := decide_eq_true c7
                clear c7
                by_cases c8 : (!(((rd_T78 l0 x13_1).f0) == ((rd_T78 l1 x13_1).f0)) || (!(((rd_T78 l0 x13_1).f1) == ((rd_T78 l1 x13_1).f1)))) = true
                · rw [if_pos c8] at H
                  have c8b0 : (!(((rd_T78 l0 x13_1).f0) == ((rd_T78 l1 x13_1).f0)) || (!(((rd_T78 l0 x13_1).f1) == ((rd_T78 l1 x13_1).f1)))) = true := c8
                  clear c8
                  obtain rfl := Option.some.inj H
                  have p157 : 0 ≤ (x13_1 : Int) := of_decide_eq_true (by first | (with_reducible assumption) | assumption)
                  have q157 : x13_1 < (l0.length : Int) := of_decide_eq_true (by first | (with_reducible assumption) | assumption)
                  obtain ⟨ad157, e157, hx157_0, hx157_1⟩ := at_T78 HR0.out x13_1 p157 q157
                  cases e157
                  replace p157 := eq_true p157
                  replace q157 := eq_true q157
                  have p158 : 0 ≤ (x13_1 : Int) := of_decide_eq_true (by first | (with_reducible assumption) | assumption)
                  have q158 : x13_1 < (l1.length : Int) := of_decide_eq_true (by first | (with_reducible assumption) | assumption)
                  obtain ⟨ad158, e158, hx158_0, hx158_1⟩ := at_T78 HR1.out x13_1 p158 q158
                  cases e158
                  replace p158 := eq_true p158
                  replace q158 := eq_true q158
                  go_wp2
                  repeat (go_quiet (fail); try go_wp2)
                  go_ret
                  exact ⟨by first | rfl | (simp; done) | (simp [*]; done), by repeat (first | exact Drawn0.refl _ | apply Drawn0.step)⟩
                · rw [if_neg c8] at H
                  have c8b0 : (!(((rd_T78 l0 x13_1).f0) == ((rd_T78 l1 x13_1).f0)) || (!(((rd_T78 l0 x13_1).f1) == ((rd_T78 l1 x13_1).f1)))) = false := by simpa using c8
                  clear c8
                  have H' := Aside0.mk H
                  clear H
                  have p157 : 0 ≤ (x13_1 : Int) := of_decide_eq_true (by first | (with_reducible assumption) | assumption)
                  have q157 : x13_1 < (l0.length : Int) := of_decide_eq_true (by first | (with_reducible assumption) | assumption)
                  obtain ⟨ad157, e157, hx157_0, hx157_1⟩ := at_T78 HR0.out x13_1 p157 q157
                  cases e157
                  replace p157 := eq_true p157
                  replace q157 := eq_true q157
                  have p158 : 0 ≤ (x13_1 : Int) := of_decide_eq_true (by first | (with_reducible assumption) | assumption)
                  have q158 : x13_1 < (l1.length : Int) := of_decide_eq_true (by first | (with_reducible assumption) | assumption)
                  obtain ⟨ad158, e158, hx158_0, hx158_1⟩ := at_T78 HR1.out x13_1 p158 q158
                  cases e158
                  replace p158 := eq_true p158
                  replace q158 := eq_true q158
                  go_wp2
                  repeat (go_quiet (fail); try go_wp2)
                  go_roundg k1
                  case measure => have := HK1.out; omega
                  case rel => exact ⟨(wrap64 (x13_1 + 1)), (by first | rfl | (simp; done) | (simp [*]; done)), H', ⟨by have := HK1.out; omega⟩, by repeat (first | exact Drawn0.refl _ | apply Drawn0.step)⟩
              · rw [if_neg c7] at H
                exact absurd H (by simp)
            · rw [if_neg c6] at H
              exact absurd H (by simp)
          · rw [if_neg c5] at H
            exact absurd H (by simp)
        · rw [if_neg c4] at H
          have c4b0 : decide (x13_1 < (l0.length : Int)) = false := decide_eq_false c4
          clear c4
          obtain rfl := Option.some.inj H
          go_wp2
          repeat (go_quiet (fail); try go_wp2)
          go_ret
          exact ⟨by first | rfl | (simp; done) | (simp [*]; done), by repeat (first | exact Drawn0.refl _ | apply Drawn0.step)⟩
  · rw [if_neg c3] at H
    have c3b0 : ((l0.length : Int) == (l1.length : Int)) = false := beq_eq_false_iff_ne.mpr c3
    have c3b1 : ((l0.length : Int) != (l1.length : Int)) = true := bne_iff_ne.mpr c3
    have c3b2 : (l0.length == l1.length) = false := by first | simpa using c3 | (simp at c3 ⊢; omega)
    obtain rfl := Option.some.inj H
    go_enter Try.func55, Try.ntmps55
    go_wp2
    repeat (go_quiet (fail); try go_wp2)
    go_ret
    exact ⟨by first | rfl | (simp; done) | (simp [*]; done), by repeat (first | exact Drawn0.refl _ | apply Drawn0.step)⟩

end Go.Proofs.Ythjnkapkhphpeaa.P
end
section
namespace Go.Proofs.Ythjnkapkhphpeaa.P
open Go.RowKit Go.Proofs.YthjnkapkhphpeaaW.PrintWords Go.Proofs.YthjnkapkhphpeaaW.PrintLast Go.Proofs.YthjnkapkhphpeaaW.PrintMore
attribute [local go_sem] max2_int min2_int max_two min_two max_three min_three max_four min_four
set_option linter.unusedVariables false
set_option linter.unusedSimpArgs false

/-! ### node_Same: function 32 -/
def node_Same.f (k : Nat) (a0_0 : Bool) (l0_1 : List (S78)) (a1_0 : Bool) (l1_1 : List (S78)) : Option (Bool) := if (a0_0 == a1_0) = true then ((api_Item_55.f k l0_1 l1_1).bind fun t161 => (some t161)) else (some false)
theorem node_Same.mono : ∀ a0 a1 a2 a3 k, LeO (node_Same.f k a0 a1 a2 a3) (node_Same.f (k + 1) a0 a1 a2 a3) := by
  intro a0 a1 a2 a3 k
  unfold node_Same.f
  repeat' first
      | (with_reducible exact api_Item_55.mono _ _ _)
      | (with_reducible exact LeO.refl _)
      | (with_reducible exact LeO.none _)
      | (with_reducible refine LeO.ite ?_ ?_)
      | (with_reducible refine LeO.bind ?_ (fun _ => ?_))
      | exact api_Item_55.mono _ _ _
      | exact LeO.none _
      | refine LeO.ite ?_ ?_
      | refine LeO.bind ?_ (fun _ => ?_)
set_option maxHeartbeats 8000000 in
set_option maxRecDepth 100000 in
theorem node_Same.calls (k : Nat) (a0_0 : Bool) (A0_1 : Option Addr) (c0_1 : Nat) (l0_1 : List (S78)) (a1_0 : Bool) (A1_1 : Option Addr) (c1_1 : Nat) (l1_1 : List (S78)) (r : Bool) (w : World) (hr0_1 : Kd.C k78 w A0_1 l0_1.length l0_1) (hc0_1 : l0_1.length ≤ c0_1) (hr1_1 : Kd.C k78 w A1_1 l1_1.length l1_1) (hc1_1 : l1_1.length ≤ c1_1) (h : node_Same.f k a0_0 l0_1 a1_0 l1_1 = some r) :
    Calls Try.prog 32 #[.agg #[.bool a0_0, .slice A0_1 l0_1.length c0_1], .agg #[.bool a1_0, .slice A1_1 l1_1.length c1_1]] w fun e w' => e = .returned (.bool r) ∧ Below w.heap.size w w' := by
  have hu56 := Try.underlying56
  have HR0_1 := Aside0.mk hr0_1
  have HC0_1 := Aside0.mk hc0_1
  clear hr0_1 hc0_1
  have HR1_1 := Aside0.mk hr1_1
  have HC1_1 := Aside0.mk hc1_1
  clear hr1_1 hc1_1
  have HB := Aside0.mk (Below.refl w.heap.size w)
  have H : (if (a0_0 == a1_0) = true then ((api_Item_55.f k l0_1 l1_1).bind fun t161 => (some t161)) else (some false)) = some r := h
  clear h
  by_cases c3 : (a0_0 == a1_0) = true
  · rw [if_pos c3] at H
    have c3b0 : (a0_0 == a1_0) = true := c3
    (try (have c3b1 : decide (a0_0 = a1_0) = true := by simpa using c3))
    (try (have c3b2 : (a0_0 == a1_0) = true := by simpa using c3))
    clear c3
    replace H := Option.bind_eq_some_iff.mp H
    obtain ⟨t161, A40, H⟩ := H
    replace H : (some t161) = some r := H
    have A4 := Aside0.mk A40
    clear A40
    obtain rfl := Option.some.inj H
    go_enter Try.func32, Try.ntmps32
    go_wp2_with (first | ((with_reducible refine gate_dst (N := 2) rfl ?_); refine box_event ?hg (N := 2) ?hd (cs := #[.bool a0_0, .slice A0_1 l0_1.length c0_1]) (t := 56) ?hr ?_; (case hd => rfl); (case hg => rfl); (case hr => first | (go_simp; done) | (go_simp; rfl)); intro gb159 hg w5 hbox hb; have n0_ := Aside0.mk (below_step (by repeat (first | (with_reducible first | exact HB.out | apply below_alloc | apply pw_below_drewN | apply below_drew1) | exact HB.out)) hb); have n1_ := Aside0.mk (hbox); have n2_ := Aside0.mk ((by rw [hg]; exact (below_size (by repeat (first | (with_reducible first | exact HB.out | apply below_alloc | apply pw_below_drewN | apply below_drew1) | exact HB.out))) : w.heap.size ≤ gb159)); have n3_ := Aside0.mk ((by rw [hg]; exact (below_size (by repeat (first | (with_reducible first | exact HB.out | apply below_alloc | apply pw_below_drewN | apply below_drew1) | exact HB.out))) : w.heap.size ≤ gb159)); clear HB; have HB := n0_; have BK159 := n1_; have GW159 := n2_; have GE159 := n3_; clear n0_ n1_ n2_ n3_; clear hb hbox hg) | ((with_reducible refine gate_dst (N := 3) rfl ?_); refine box_event ?hg (N := 3) ?hd (cs := #[.bool a1_0, .slice A1_1 l1_1.length c1_1]) (t := 56) ?hr ?_; (case hd => rfl); (case hg => rfl); (case hr => first | (go_simp; done) | (go_simp; rfl)); intro gb160 hg w6 hbox hb; have n0_ := Aside0.mk (blk_below (g := gb159) (o := .cells #[.bool a0_0, .slice A0_1 l0_1.length c0_1] 56 (0, 0)) (by (with_reducible repeat (first | refine blk_drewN ?_ _ | refine blk_drew ?_ | refine blk_alloc ?_ _)); exact BK159.out) hb); have n1_ := Aside0.mk (below_step (by repeat (first | (with_reducible first | exact HB.out | apply below_alloc | apply pw_below_drewN | apply below_drew1 | refine below_set ?_ GE159.out) | exact HB.out)) hb); have n2_ := Aside0.mk (hbox); have n3_ := Aside0.mk ((by rw [hg]; exact (below_size (by repeat (first | (with_reducible first | exact HB.out | apply below_alloc | apply pw_below_drewN | apply below_drew1 | refine below_set ?_ GE159.out) | exact HB.out))) : w.heap.size ≤ gb160)); have n4_ := Aside0.mk ((by rw [hg]; exact (below_size (by repeat (first | (with_reducible first | exact HB.out | apply below_alloc | apply pw_below_drewN | apply below_drew1 | refine below_set ?_ GE159.out) | exact HB.out))) : w.heap.size ≤ gb160)); have n5_ := Aside0.mk ((by rw [hg]; exact Nat.ne_of_lt (blk_lt (g := gb159) (o := .cells #[.bool a0_0, .slice A0_1 l0_1.length c0_1] 56 (0, 0)) (by (with_reducible repeat (first | refine blk_drewN ?_ _ | refine blk_drew ?_ | refine blk_alloc ?_ _)); exact BK159.out)) : gb159 ≠ gb160)); have n6_ := Aside0.mk ((by rw [hg]; exact Nat.ne_of_gt (blk_lt (g := gb159) (o := .cells #[.bool a0_0, .slice A0_1 l0_1.length c0_1] 56 (0, 0)) (by (with_reducible repeat (first | refine blk_drewN ?_ _ | refine blk_drew ?_ | refine blk_alloc ?_ _)); exact BK159.out)) : gb160 ≠ gb159)); clear BK159; clear HB; have BK159 := n0_; have HB := n1_; have BK160 := n2_; have GW160 := n3_; have GE160 := n4_; have NB159_160 := n5_; have NB160_159 := n6_; clear n0_ n1_ n2_ n3_ n4_ n5_ n6_; clear hb hbox hg; have hnb7 := NB159_160.out; have hnc7 := NB160_159.out; have hcz8_0 : w6.cell? ⟨gb159, 0, none⟩ = some (.bool a0_0) := (blk_cell BK159.out 0).trans rfl; have hcz8_1 : w6.cell? ⟨gb159, 1, none⟩ = some (.slice A0_1 l0_1.length c0_1) := (blk_cell BK159.out 1).trans rfl; have hfz8_0 := blk_frozen BK159.out 0; have hfz8_1 := blk_frozen BK159.out 1; have hcz9_0 : w6.cell? ⟨gb160, 0, none⟩ = some (.bool a1_0) := (blk_cell BK160.out 0).trans rfl; have hcz9_1 : w6.cell? ⟨gb160, 1, none⟩ = some (.slice A1_1 l1_1.length c1_1) := (blk_cell BK160.out 1).trans rfl; have hfz9_0 := blk_frozen BK160.out 0; have hfz9_1 := blk_frozen BK160.out 1) | (go_at_call 55; (with_reducible refine (api_Item_55.calls k _ _ l0_1 _ _ l1_1 t161 _ ?side1 ?side2 ?side3 ?side4 A4.out).mono ?_); (case side1 => repeat (first | exact (Kd.C_below HR0_1.out HB.out) | (with_reducible refine Kd.C_alloc ?_ _) | (with_reducible refine Kd.C_drewN ?_ _) | (with_reducible refine Kd.C_drew ?_))); (case side2 => exact HC0_1.out); (case side3 => repeat (first | exact (Kd.C_below HR1_1.out HB.out) | (with_reducible refine Kd.C_alloc ?_ _) | (with_reducible refine Kd.C_drewN ?_ _) | (with_reducible refine Kd.C_drew ?_))); (case side4 => exact HC1_1.out); rintro e w' ⟨rfl, ⟨nd, rfl⟩⟩))
    go_ret
    exact ⟨by first | rfl | (simp [errW_none, errW_some] <;> rfl) | (simp [*, errW_none, errW_some] <;> rfl), by repeat (first | (with_reducible first | exact HB.out | apply below_alloc | apply pw_below_drewN | apply below_drew1 | refine below_set ?_ GE159.out | refine below_set ?_ GE160.out) | exact HB.out)⟩
  · rw [if_neg c3] at H
    have c3b0 : (a0_0 == a1_0) = false := by simpa using c3
    (try (have c3b1 : decide (a0_0 = a1_0) = false := by simpa using c3))
    (try (have c3b2 : (a0_0 == a1_0) = false := by simpa using c3))
    (try (have c3b3 : ¬ (a0_0 = a1_0) := by simpa using c3))
    clear c3
    obtain rfl := Option.some.inj H
    go_enter Try.func32, Try.ntmps32
    go_wp2_with (first | ((with_reducible refine gate_dst (N := 2) rfl ?_); refine box_event ?hg (N := 2) ?hd (cs := #[.bool a0_0, .slice A0_1 l0_1.length c0_1]) (t := 56) ?hr ?_; (case hd => rfl); (case hg => rfl); (case hr => first | (go_simp; done) | (go_simp; rfl)); intro gb159 hg w10 hbox hb; have n0_ := Aside0.mk (below_step (by repeat (first | (with_reducible first | exact HB.out | apply below_alloc | apply pw_below_drewN | apply below_drew1) | exact HB.out)) hb); have n1_ := Aside0.mk (hbox); have n2_ := Aside0.mk ((by rw [hg]; exact (below_size (by repeat (first | (with_reducible first | exact HB.out | apply below_alloc | apply pw_below_drewN | apply below_drew1) | exact HB.out))) : w.heap.size ≤ gb159)); have n3_ := Aside0.mk ((by rw [hg]; exact (below_size (by repeat (first | (with_reducible first | exact HB.out | apply below_alloc | apply pw_below_drewN | apply below_drew1) | exact HB.out))) : w.heap.size ≤ gb159)); clear HB; have HB := n0_; have BK159 := n1_; have GW159 := n2_; have GE159 := n3_; clear n0_ n1_ n2_ n3_; clear hb hbox hg) | ((with_reducible refine gate_dst (N := 3) rfl ?_); refine box_event ?hg (N := 3) ?hd (cs := #[.bool a1_0, .slice A1_1 l1_1.length c1_1]) (t := 56) ?hr ?_; (case hd => rfl); (case hg => rfl); (case hr => first | (go_simp; done) | (go_simp; rfl)); intro gb160 hg w11 hbox hb; have n0_ := Aside0.mk (blk_below (g := gb159) (o := .cells #[.bool a0_0, .slice A0_1 l0_1.length c0_1] 56 (0, 0)) (by (with_reducible repeat (first | refine blk_drewN ?_ _ | refine blk_drew ?_ | refine blk_alloc ?_ _)); exact BK159.out) hb); have n1_ := Aside0.mk (below_step (by repeat (first | (with_reducible first | exact HB.out | apply below_alloc | apply pw_below_drewN | apply below_drew1 | refine below_set ?_ GE159.out) | exact HB.out)) hb); have n2_ := Aside0.mk (hbox); have n3_ := Aside0.mk ((by rw [hg]; exact (below_size (by repeat (first | (with_reducible first | exact HB.out | apply below_alloc | apply pw_below_drewN | apply below_drew1 | refine below_set ?_ GE159.out) | exact HB.out))) : w.heap.size ≤ gb160)); have n4_ := Aside0.mk ((by rw [hg]; exact (below_size (by repeat (first | (with_reducible first | exact HB.out | apply below_alloc | apply pw_below_drewN | apply below_drew1 | refine below_set ?_ GE159.out) | exact HB.out))) : w.heap.size ≤ gb160)); have n5_ := Aside0.mk ((by rw [hg]; exact Nat.ne_of_lt (blk_lt (g := gb159) (o := .cells #[.bool a0_0, .slice A0_1 l0_1.length c0_1] 56 (0, 0)) (by (with_reducible repeat (first | refine blk_drewN ?_ _ | refine blk_drew ?_ | refine blk_alloc ?_ _)); exact BK159.out)) : gb159 ≠ gb160)); have n6_ := Aside0.mk ((by rw [hg]; exact Nat.ne_of_gt (blk_lt (g := gb159) (o := .cells #[.bool a0_0, .slice A0_1 l0_1.length c0_1] 56 (0, 0)) (by (with_reducible repeat (first | refine blk_drewN ?_ _ | refine blk_drew ?_ | refine blk_alloc ?_ _)); exact BK159.out)) : gb160 ≠ gb159)); clear BK159; clear HB; have BK159 := n0_; have HB := n1_; have BK160 := n2_; have GW160 := n3_; have GE160 := n4_; have NB159_160 := n5_; have NB160_159 := n6_; clear n0_ n1_ n2_ n3_ n4_ n5_ n6_; clear hb hbox hg; have hnb12 := NB159_160.out; have hnc12 := NB160_159.out; have hcz13_0 : w11.cell? ⟨gb159, 0, none⟩ = some (.bool a0_0) := (blk_cell BK159.out 0).trans rfl; have hcz13_1 : w11.cell? ⟨gb159, 1, none⟩ = some (.slice A0_1 l0_1.length c0_1) := (blk_cell BK159.out 1).trans rfl; have hfz13_0 := blk_frozen BK159.out 0; have hfz13_1 := blk_frozen BK159.out 1; have hcz14_0 : w11.cell? ⟨gb160, 0, none⟩ = some (.bool a1_0) := (blk_cell BK160.out 0).trans rfl; have hcz14_1 : w11.cell? ⟨gb160, 1, none⟩ = some (.slice A1_1 l1_1.length c1_1) := (blk_cell BK160.out 1).trans rfl; have hfz14_0 := blk_frozen BK160.out 0; have hfz14_1 := blk_frozen BK160.out 1))
    go_ret
    exact ⟨by first | rfl | (simp [errW_none, errW_some] <;> rfl) | (simp [*, errW_none, errW_some] <;> rfl), by repeat (first | (with_reducible first | exact HB.out | apply below_alloc | apply pw_below_drewN | apply below_drew1 | refine below_set ?_ GE159.out | refine below_set ?_ GE160.out) | exact HB.out)⟩

end Go.Proofs.Ythjnkapkhphpeaa.P
end
section
/- assartlaw04.shown: the document's example: the walk (drafted by xprint.py, cut to its one way by onepath.py). -/
namespace Go.Proofs.Ythjnkapkhphpeaa.P
open Go.RowKit Go.Proofs.YthjnkapkhphpeaaW.PrintWords Go.Proofs.YthjnkapkhphpeaaW.PrintLast Go.Proofs.YthjnkapkhphpeaaW.PrintMore
attribute [local go_sem] max2_int min2_int max_two min_two max_three min_three max_four min_four
set_option linter.unusedVariables false
set_option linter.unusedSimpArgs false

/-! ### assartlaw04_shown: function 26 -/
def assartlaw04_shown.g (k : Nat)  : Option (Bool) := (some (([(⟨1, 0⟩ : S78), (⟨2, 0⟩ : S78), (⟨3, 0⟩ : S78), (⟨4, 0⟩ : S78), (⟨5, 9⟩ : S78)] : List (S78)) : List (S78))).bind fun y200 => ((node_Split.f k y200).bind fun t203 => (if 3 ≤ (y200.length : Int) then ((some (y200.drop 3 : List (S78))).bind fun y206 => ((node_Print.f k true y206).bind fun bt212 => ((node_Parse.f k bt212.1).bind fun bt214 => ((node_At.f true y206 5).bind fun bt220 => ((node_With.f y200 1 3 ([] : List (S78))).bind fun t222 => (if (t203.length : Int) = 2 then (if 0 < (t203.length : Int) then (if ((rd_L7 t203 0).length : Int) = 3 then (if 1 < (t203.length : Int) then (if ((rd_L7 t203 1).length : Int) = 2 then (if bt212.2 = 0 then (if bt214.2.2 = 0 then ((node_Same.f k true y206 bt214.1 bt214.2.1).bind fun t227 => (if t227 = true then (if bt220.1 = 1 then (if bt220.2 = true then ((node_Right.f k true y206).bind fun t228 => (if t228 = true then (if (t222.length : Int) = 2 then (if 1 < (t222.length : Int) then (some (((rd_T78 t222 1).f0) == 5)) else (none)) else (some false)) else (some false))) else (some false)) else (some false)) else (some false))) else (some false)) else (some false)) else (some false)) else (none)) else (some false)) else (none)) else (some false))))))) else (none)))
theorem assartlaw04_shown.mono : ∀ k, LeO (assartlaw04_shown.g k ) (assartlaw04_shown.g (k + 1) ) := by
  intro  k
  unfold assartlaw04_shown.g
  repeat' first
      | (with_reducible exact node_Parse.mono _ _)
      | (with_reducible exact node_Print.mono _ _ _)
      | (with_reducible exact node_Right.mono _ _ _)
      | (with_reducible exact node_Same.mono _ _ _ _ _)
      | (with_reducible exact node_Split.mono _ _)
      | (with_reducible exact LeO.refl _)
      | (with_reducible exact LeO.none _)
      | (with_reducible refine LeO.ite ?_ ?_)
      | (with_reducible refine LeO.bind ?_ (fun _ => ?_))
      | exact node_Parse.mono _ _
      | exact node_Print.mono _ _ _
      | exact node_Right.mono _ _ _
      | exact node_Same.mono _ _ _ _ _
      | exact node_Split.mono _ _
      | exact LeO.none _
      | refine LeO.ite ?_ ?_
      | refine LeO.bind ?_ (fun _ => ?_)
set_option maxHeartbeats 8000000 in
set_option maxRecDepth 100000 in
theorem assartlaw04_shown.walk (k : Nat)  (r : Bool) (w : World) (h : assartlaw04_shown.g k  = some r) (hr : r = true) :
    Calls Try.prog 26 #[] w fun e w' => e = .returned (.bool r) ∧ Below w.heap.size w w' := by
  have hu78 := Try.underlying78
  have hu56 := Try.underlying56
  have HB := Aside0.mk (Below.refl w.heap.size w)
  have H : ((some (([(⟨1, 0⟩ : S78), (⟨2, 0⟩ : S78), (⟨3, 0⟩ : S78), (⟨4, 0⟩ : S78), (⟨5, 9⟩ : S78)] : List (S78)) : List (S78))).bind fun y200 => ((node_Split.f k y200).bind fun t203 => (if 3 ≤ (y200.length : Int) then ((some (y200.drop 3 : List (S78))).bind fun y206 => ((node_Print.f k true y206).bind fun bt212 => ((node_Parse.f k bt212.1).bind fun bt214 => ((node_At.f true y206 5).bind fun bt220 => ((node_With.f y200 1 3 ([] : List (S78))).bind fun t222 => (if (t203.length : Int) = 2 then (if 0 < (t203.length : Int) then (if ((rd_L7 t203 0).length : Int) = 3 then (if 1 < (t203.length : Int) then (if ((rd_L7 t203 1).length : Int) = 2 then (if bt212.2 = 0 then (if bt214.2.2 = 0 then ((node_Same.f k true y206 bt214.1 bt214.2.1).bind fun t227 => (if t227 = true then (if bt220.1 = 1 then (if bt220.2 = true then ((node_Right.f k true y206).bind fun t228 => (if t228 = true then (if (t222.length : Int) = 2 then (if 1 < (t222.length : Int) then (some (((rd_T78 t222 1).f0) == 5)) else (none)) else (some false)) else (some false))) else (some false)) else (some false)) else (some false))) else (some false)) else (some false)) else (some false)) else (none)) else (some false)) else (none)) else (some false))))))) else (none)))) = some r := h
  clear h
  obtain ⟨y200, hy200⟩ : ∃ y_ : List (S78), y_ = (([(⟨1, 0⟩ : S78), (⟨2, 0⟩ : S78), (⟨3, 0⟩ : S78), (⟨4, 0⟩ : S78), (⟨5, 9⟩ : S78)] : List (S78))) := ⟨_, rfl⟩
  replace H : ((node_Split.f k y200).bind fun t203 => (if 3 ≤ (y200.length : Int) then ((some (y200.drop 3 : List (S78))).bind fun y206 => ((node_Print.f k true y206).bind fun bt212 => ((node_Parse.f k bt212.1).bind fun bt214 => ((node_At.f true y206 5).bind fun bt220 => ((node_With.f y200 1 3 ([] : List (S78))).bind fun t222 => (if (t203.length : Int) = 2 then (if 0 < (t203.length : Int) then (if ((rd_L7 t203 0).length : Int) = 3 then (if 1 < (t203.length : Int) then (if ((rd_L7 t203 1).length : Int) = 2 then (if bt212.2 = 0 then (if bt214.2.2 = 0 then ((node_Same.f k true y206 bt214.1 bt214.2.1).bind fun t227 => (if t227 = true then (if bt220.1 = 1 then (if bt220.2 = true then ((node_Right.f k true y206).bind fun t228 => (if t228 = true then (if (t222.length : Int) = 2 then (if 1 < (t222.length : Int) then (some (((rd_T78 t222 1).f0) == 5)) else (none)) else (some false)) else (some false))) else (some false)) else (some false)) else (some false))) else (some false)) else (some false)) else (some false)) else (none)) else (some false)) else (none)) else (some false))))))) else (none))) = some r := by first | (rw [hy200]; with_reducible exact H) | (have H2_ := (Option.bind_some _ _).symm.trans H; rw [hy200]; with_reducible exact H2_) | (have H2_ := (Option.bind_some _ _).symm.trans H; with_reducible exact H2_) | with_reducible exact H | (rw [hy200]; exact H) | exact H
  have Ny200 := Aside0.mk hy200
  clear hy200
  replace H := Option.bind_eq_some_iff.mp H
  obtain ⟨t203, A10, H⟩ := H
  replace H : (if 3 ≤ (y200.length : Int) then ((some (y200.drop 3 : List (S78))).bind fun y206 => ((node_Print.f k true y206).bind fun bt212 => ((node_Parse.f k bt212.1).bind fun bt214 => ((node_At.f true y206 5).bind fun bt220 => ((node_With.f y200 1 3 ([] : List (S78))).bind fun t222 => (if (t203.length : Int) = 2 then (if 0 < (t203.length : Int) then (if ((rd_L7 t203 0).length : Int) = 3 then (if 1 < (t203.length : Int) then (if ((rd_L7 t203 1).length : Int) = 2 then (if bt212.2 = 0 then (if bt214.2.2 = 0 then ((node_Same.f k true y206 bt214.1 bt214.2.1).bind fun t227 => (if t227 = true then (if bt220.1 = 1 then (if bt220.2 = true then ((node_Right.f k true y206).bind fun t228 => (if t228 = true then (if (t222.length : Int) = 2 then (if 1 < (t222.length : Int) then (some (((rd_T78 t222 1).f0) == 5)) else (none)) else (some false)) else (some false))) else (some false)) else (some false)) else (some false))) else (some false)) else (some false)) else (some false)) else (none)) else (some false)) else (none)) else (some false))))))) else (none)) = some r := H
  have A1 := Aside0.mk A10
  clear A10
  by_cases c2 : 3 ≤ (y200.length : Int)
  · rw [if_pos c2] at H
    have c2b0 := eq_true c2
    have c2b1 : decide (3 ≤ (y200.length : Int)) = true := decide_eq_true c2
    clear c2
    obtain ⟨y206, hy206⟩ : ∃ y_ : List (S78), y_ = (y200.drop 3) := ⟨_, rfl⟩
    replace H : ((node_Print.f k true y206).bind fun bt212 => ((node_Parse.f k bt212.1).bind fun bt214 => ((node_At.f true y206 5).bind fun bt220 => ((node_With.f y200 1 3 ([] : List (S78))).bind fun t222 => (if (t203.length : Int) = 2 then (if 0 < (t203.length : Int) then (if ((rd_L7 t203 0).length : Int) = 3 then (if 1 < (t203.length : Int) then (if ((rd_L7 t203 1).length : Int) = 2 then (if bt212.2 = 0 then (if bt214.2.2 = 0 then ((node_Same.f k true y206 bt214.1 bt214.2.1).bind fun t227 => (if t227 = true then (if bt220.1 = 1 then (if bt220.2 = true then ((node_Right.f k true y206).bind fun t228 => (if t228 = true then (if (t222.length : Int) = 2 then (if 1 < (t222.length : Int) then (some (((rd_T78 t222 1).f0) == 5)) else (none)) else (some false)) else (some false))) else (some false)) else (some false)) else (some false))) else (some false)) else (some false)) else (some false)) else (none)) else (some false)) else (none)) else (some false)))))) = some r := by first | (rw [hy206]; with_reducible exact H) | (have H2_ := (Option.bind_some _ _).symm.trans H; rw [hy206]; with_reducible exact H2_) | (have H2_ := (Option.bind_some _ _).symm.trans H; with_reducible exact H2_) | with_reducible exact H | (rw [hy206]; exact H) | exact H
    have Ny206 := Aside0.mk hy206
    clear hy206
    replace H := Option.bind_eq_some_iff.mp H
    obtain ⟨⟨t212, t213⟩, A30, H⟩ := H
    replace H : ((node_Parse.f k t212).bind fun bt214 => ((node_At.f true y206 5).bind fun bt220 => ((node_With.f y200 1 3 ([] : List (S78))).bind fun t222 => (if (t203.length : Int) = 2 then (if 0 < (t203.length : Int) then (if ((rd_L7 t203 0).length : Int) = 3 then (if 1 < (t203.length : Int) then (if ((rd_L7 t203 1).length : Int) = 2 then (if t213 = 0 then (if bt214.2.2 = 0 then ((node_Same.f k true y206 bt214.1 bt214.2.1).bind fun t227 => (if t227 = true then (if bt220.1 = 1 then (if bt220.2 = true then ((node_Right.f k true y206).bind fun t228 => (if t228 = true then (if (t222.length : Int) = 2 then (if 1 < (t222.length : Int) then (some (((rd_T78 t222 1).f0) == 5)) else (none)) else (some false)) else (some false))) else (some false)) else (some false)) else (some false))) else (some false)) else (some false)) else (some false)) else (none)) else (some false)) else (none)) else (some false))))) = some r := H
    have A3 := Aside0.mk A30
    clear A30
    replace H := Option.bind_eq_some_iff.mp H
    obtain ⟨⟨t214, t215, t218⟩, A40, H⟩ := H
    replace H : ((node_At.f true y206 5).bind fun bt220 => ((node_With.f y200 1 3 ([] : List (S78))).bind fun t222 => (if (t203.length : Int) = 2 then (if 0 < (t203.length : Int) then (if ((rd_L7 t203 0).length : Int) = 3 then (if 1 < (t203.length : Int) then (if ((rd_L7 t203 1).length : Int) = 2 then (if t213 = 0 then (if t218 = 0 then ((node_Same.f k true y206 t214 t215).bind fun t227 => (if t227 = true then (if bt220.1 = 1 then (if bt220.2 = true then ((node_Right.f k true y206).bind fun t228 => (if t228 = true then (if (t222.length : Int) = 2 then (if 1 < (t222.length : Int) then (some (((rd_T78 t222 1).f0) == 5)) else (none)) else (some false)) else (some false))) else (some false)) else (some false)) else (some false))) else (some false)) else (some false)) else (some false)) else (none)) else (some false)) else (none)) else (some false)))) = some r := H
    have A4 := Aside0.mk A40
    clear A40
    replace H := Option.bind_eq_some_iff.mp H
    obtain ⟨⟨t220, t221⟩, A50, H⟩ := H
    replace H : ((node_With.f y200 1 3 ([] : List (S78))).bind fun t222 => (if (t203.length : Int) = 2 then (if 0 < (t203.length : Int) then (if ((rd_L7 t203 0).length : Int) = 3 then (if 1 < (t203.length : Int) then (if ((rd_L7 t203 1).length : Int) = 2 then (if t213 = 0 then (if t218 = 0 then ((node_Same.f k true y206 t214 t215).bind fun t227 => (if t227 = true then (if t220 = 1 then (if t221 = true then ((node_Right.f k true y206).bind fun t228 => (if t228 = true then (if (t222.length : Int) = 2 then (if 1 < (t222.length : Int) then (some (((rd_T78 t222 1).f0) == 5)) else (none)) else (some false)) else (some false))) else (some false)) else (some false)) else (some false))) else (some false)) else (some false)) else (some false)) else (none)) else (some false)) else (none)) else (some false))) = some r := H
    have A5 := Aside0.mk A50
    clear A50
    replace H := Option.bind_eq_some_iff.mp H
    obtain ⟨t222, A60, H⟩ := H
    replace H : (if (t203.length : Int) = 2 then (if 0 < (t203.length : Int) then (if ((rd_L7 t203 0).length : Int) = 3 then (if 1 < (t203.length : Int) then (if ((rd_L7 t203 1).length : Int) = 2 then (if t213 = 0 then (if t218 = 0 then ((node_Same.f k true y206 t214 t215).bind fun t227 => (if t227 = true then (if t220 = 1 then (if t221 = true then ((node_Right.f k true y206).bind fun t228 => (if t228 = true then (if (t222.length : Int) = 2 then (if 1 < (t222.length : Int) then (some (((rd_T78 t222 1).f0) == 5)) else (none)) else (some false)) else (some false))) else (some false)) else (some false)) else (some false))) else (some false)) else (some false)) else (some false)) else (none)) else (some false)) else (none)) else (some false)) = some r := H
    have A6 := Aside0.mk A60
    clear A60
    by_cases c7 : (t203.length : Int) = 2
    · rw [if_pos c7] at H
      have c7b0 : ((t203.length : Int) == 2) = true := beq_iff_eq.mpr c7
      have c7b1 : ((t203.length : Int) != 2) = false := bne_eq_false_iff_eq.mpr c7
      clear c7
      by_cases c8 : 0 < (t203.length : Int)
      · rw [if_pos c8] at H
        have c8b0 : decide (0 < (t203.length : Int)) = true := decide_eq_true c8
        have c8b1 : decide (0 < t203.length) = true := decide_eq_true (by omega)
        clear c8
        by_cases c9 : ((rd_L7 t203 0).length : Int) = 3
        · rw [if_pos c9] at H
          have c9b0 : (((rd_L7 t203 0).length : Int) == 3) = true := beq_iff_eq.mpr c9
          have c9b1 : (((rd_L7 t203 0).length : Int) != 3) = false := bne_eq_false_iff_eq.mpr c9
          clear c9
          by_cases c10 : 1 < (t203.length : Int)
          · rw [if_pos c10] at H
            have c10b0 : decide (1 < (t203.length : Int)) = true := decide_eq_true c10
            have c10b1 : decide (1 < t203.length) = true := decide_eq_true (by omega)
            clear c10
            by_cases c11 : ((rd_L7 t203 1).length : Int) = 2
            · rw [if_pos c11] at H
              have c11b0 : (((rd_L7 t203 1).length : Int) == 2) = true := beq_iff_eq.mpr c11
              have c11b1 : (((rd_L7 t203 1).length : Int) != 2) = false := bne_eq_false_iff_eq.mpr c11
              clear c11
              by_cases c12 : t213 = 0
              · rw [if_pos c12] at H
                have c12b0 : (t213 == 0) = true := beq_iff_eq.mpr c12
                have c12b1 : (t213 != 0) = false := bne_eq_false_iff_eq.mpr c12
                clear c12
                by_cases c13 : t218 = 0
                · rw [if_pos c13] at H
                  have c13b0 : (t218 == 0) = true := beq_iff_eq.mpr c13
                  have c13b1 : (t218 != 0) = false := bne_eq_false_iff_eq.mpr c13
                  clear c13
                  replace H := Option.bind_eq_some_iff.mp H
                  obtain ⟨t227, A140, H⟩ := H
                  replace H : (if t227 = true then (if t220 = 1 then (if t221 = true then ((node_Right.f k true y206).bind fun t228 => (if t228 = true then (if (t222.length : Int) = 2 then (if 1 < (t222.length : Int) then (some (((rd_T78 t222 1).f0) == 5)) else (none)) else (some false)) else (some false))) else (some false)) else (some false)) else (some false)) = some r := H
                  have A14 := Aside0.mk A140
                  clear A140
                  by_cases c15 : t227 = true
                  · subst c15
                    have H1 : (if t220 = 1 then (if t221 = true then ((node_Right.f k true y206).bind fun t228 => (if t228 = true then (if (t222.length : Int) = 2 then (if 1 < (t222.length : Int) then (some (((rd_T78 t222 1).f0) == 5)) else (none)) else (some false)) else (some false))) else (some false)) else (some false)) = some r := by rw [if_pos rfl] at H; exact H
                    clear H
                    have H := H1
                    clear H1
                    by_cases c16 : t220 = 1
                    · rw [if_pos c16] at H
                      have c16b0 : (t220 == 1) = true := beq_iff_eq.mpr c16
                      have c16b1 : (t220 != 1) = false := bne_eq_false_iff_eq.mpr c16
                      clear c16
                      by_cases c17 : t221 = true
                      · subst c17
                        have H1 : ((node_Right.f k true y206).bind fun t228 => (if t228 = true then (if (t222.length : Int) = 2 then (if 1 < (t222.length : Int) then (some (((rd_T78 t222 1).f0) == 5)) else (none)) else (some false)) else (some false))) = some r := by rw [if_pos rfl] at H; exact H
                        clear H
                        have H := H1
                        clear H1
                        replace H := Option.bind_eq_some_iff.mp H
                        obtain ⟨t228, A180, H⟩ := H
                        replace H : (if t228 = true then (if (t222.length : Int) = 2 then (if 1 < (t222.length : Int) then (some (((rd_T78 t222 1).f0) == 5)) else (none)) else (some false)) else (some false)) = some r := H
                        have A18 := Aside0.mk A180
                        clear A180
                        by_cases c19 : t228 = true
                        · subst c19
                          have H1 : (if (t222.length : Int) = 2 then (if 1 < (t222.length : Int) then (some (((rd_T78 t222 1).f0) == 5)) else (none)) else (some false)) = some r := by rw [if_pos rfl] at H; exact H
                          clear H
                          have H := H1
                          clear H1
                          by_cases c20 : (t222.length : Int) = 2
                          · rw [if_pos c20] at H
                            have c20b0 : ((t222.length : Int) == 2) = true := beq_iff_eq.mpr c20
                            have c20b1 : ((t222.length : Int) != 2) = false := bne_eq_false_iff_eq.mpr c20
                            clear c20
                            by_cases c21 : 1 < (t222.length : Int)
                            · rw [if_pos c21] at H
                              have c21b0 : decide (1 < (t222.length : Int)) = true := decide_eq_true c21
                              have c21b1 : decide (1 < t222.length) = true := decide_eq_true (by omega)
                              clear c21
                              obtain rfl := Option.some.inj H
                              go_enter Try.func26, Try.ntmps26
                              go_wp2_with (first | ((with_reducible refine gate_dst (N := 16) rfl ?_); (try (refine gate_guard (by rfl) ?_; dsimp only)); refine Kd.R_lit k78 _ 78 ?hg (N := 16) ?hd (xs := ([(⟨1, 0⟩ : S78), (⟨2, 0⟩ : S78), (⟨3, 0⟩ : S78), (⟨4, 0⟩ : S78), (⟨5, 9⟩ : S78)] : List (S78))) (inner := [.int .i64 1, .int .i64 0, .int .i64 2, .int .i64 0, .int .i64 3, .int .i64 0, .int .i64 4, .int .i64 0, .int .i64 5, .int .i64 9]) (ok := fun _ => True) (okp := fun _ => True) ?hr ?hp (fun _ hk => hk) trivial (Below.refl _ _) (Nat.le_refl _) (by simp) ?_; (case hd => rfl); (case hg => rfl); (case hr => first | (go_simp; done) | (go_simp; rfl)); (case hp => exact (Reps.c2 (show Kd.M k78 _ _ _ (⟨1, 0⟩ : S78) [.int .i64 1, .int .i64 0] from (k78_mkM _ _ _ (⟨1, 0⟩ : S78) )) (Reps.c2 (show Kd.M k78 _ _ _ (⟨2, 0⟩ : S78) [.int .i64 2, .int .i64 0] from (k78_mkM _ _ _ (⟨2, 0⟩ : S78) )) (Reps.c2 (show Kd.M k78 _ _ _ (⟨3, 0⟩ : S78) [.int .i64 3, .int .i64 0] from (k78_mkM _ _ _ (⟨3, 0⟩ : S78) )) (Reps.c2 (show Kd.M k78 _ _ _ (⟨4, 0⟩ : S78) [.int .i64 4, .int .i64 0] from (k78_mkM _ _ _ (⟨4, 0⟩ : S78) )) (Reps.c2 (show Kd.M k78 _ _ _ (⟨5, 9⟩ : S78) [.int .i64 5, .int .i64 9] from (k78_mkM _ _ _ (⟨5, 9⟩ : S78) )) (Reps.none _ _))))))); intro v201 w22 ho23 hb hg_ hnew_; clear hg_ hnew_; (first | rw [← Ny200.out] at ho23 | (simp only [Int.reduceToNat] at ho23; rw [← Ny200.out] at ho23)); have n0_ := Aside0.mk (Kd.R_lower ho23 (below_size (by repeat (first | (with_reducible first | exact HB.out | apply below_alloc | apply pw_below_drewN | apply below_drew1) | exact HB.out)))); have n1_ := Aside0.mk (below_step (by repeat (first | (with_reducible first | exact HB.out | apply below_alloc | apply pw_below_drewN | apply below_drew1) | exact HB.out)) hb); clear HB; have HO202 := n0_; have HB := n1_; clear n0_ n1_; clear hb ho23; obtain ⟨Ao24, co24, eo24⟩ := Kd.R_slice HO202.out; subst eo24) | ((with_reducible refine gate_callee (f := 38) rfl ?_); refine goesL_ (some 18) rfl rfl Try.func38 (by kernel_rfl) rfl #[.slice Ao24 y200.length co24] rfl (by (try simp only [List.map_toArray, List.map_cons, List.map_nil]); first | done | rfl | (simp only [List.length_drop, List.length_take]; rfl)) ?_; (with_reducible refine (node_Split.calls k (fun k_ => some k_ = (.slice Ao24 y200.length co24 : Value).ownBlock) _ _ y200 t203 _ ?side1 A1.out).mono ?_); (case side1 => exact Kd.R_V (Kd.R_tight rfl (HO202.out))); rintro e w25 ⟨v204, rfl, ho0, hb⟩; refine ⟨_, rfl, ?_⟩; have n0_ := Aside0.mk (Kd.R_below (by (with_reducible repeat (first | apply Kd.R_alloc | apply Kd.R_drewN | apply Kd.R_drew)); exact HO202.out) hb); have n1_ := Aside0.mk (Kd.N_lower (Kd.N_mono (ok' := fun k_ => True) ho0 (fun k_ hk_ => trivial)) (below_size (by repeat (first | (with_reducible first | exact HB.out | apply below_alloc | apply pw_below_drewN | apply below_drew1) | exact HB.out)))); have n2_ := Aside0.mk (below_step (by repeat (first | (with_reducible first | exact HB.out | apply below_alloc | apply pw_below_drewN | apply below_drew1) | exact HB.out)) hb); clear HO202; clear HB; have HO202 := n0_; have HO205 := n1_; have HB := n2_; clear n0_ n1_ n2_; (try clear hb); (try clear hb2); (try clear hk); (try clear hi); (try clear ho0); have q26 : (3 : Int) ≤ ((y200.length : Int) : Int) := of_decide_eq_true (by first | (with_reducible assumption) | assumption); obtain ⟨i026, hi026, _, hsz26, _⟩ := info_parts info78; have hroom26 : y200.length ≤ co24 := (Kd.R_reads' HO202.out).2.1; have hC26 : Kd.F k78 _ _ Ao24 y200.length y200 := (Kd.V_at (base := w.heap.size) (Kd.R_V (Kd.R_apart' (HO202.out) (Kd.N_typed HO205.out) (by decide)))).2.2; have hcut26 := cut_from (P := Try.prog) 54 78 .i64 Try.underlying54 hi026 2 hsz26 Ao24 y200.length co24 3 (by omega) q26; have hr26 := Kd.F_cut (m := (3 : Int).toNat) (c := co24) hC26 (by omega) hroom26; obtain ⟨A26, hA26⟩ : ∃ A1, A1 = (if co24 = (3 : Int).toNat then Ao24 else (Ao24 : Option Addr).map (·.add ((3 : Int).toNat * 2))) := ⟨_, rfl⟩; obtain ⟨c26, hc26⟩ : ∃ c1, c1 = co24 - (3 : Int).toNat := ⟨_, rfl⟩; have hy26 : y206.length = y200.length - (3 : Int).toNat := (by rw [Ny206.out, List.length_drop] <;> omega); rw [show (y200).drop (3 : Int).toNat = y206 from Ny206.out.symm] at hr26; replace hr26 : Kd.F k78 _ _ A26 y206.length y206 := (by rw [hA26]; exact hr26); rw [← hy26, ← hA26, ← hc26] at hcut26; have HO210 := Aside0.mk (show Kd.V k78 78 _ w.heap.size _ (.slice A26 y206.length c26) y206 from Kd.V_mk (by rw [hy26, hc26]; exact Nat.sub_le_sub_right hroom26 _) hr26); have HC210 := Aside0.mk (show y206.length ≤ c26 from by rw [hy26, hc26]; exact Nat.sub_le_sub_right hroom26 _); clear hr26 hC26 hroom26 hi026 hsz26 hc26; have KY26 := Aside0.mk hy26; have KA26 := Aside0.mk hA26; clear hy26 hA26; replace q26 := eq_true q26) | ((with_reducible refine gate_dst (N := 3) rfl ?_); (try (refine gate_guard (by rfl) ?_; dsimp only)); refine box_event ?hg (N := 3) ?hd (cs := #[.bool false, .slice none 0 0]) (t := 56) ?hr ?_; (case hd => rfl); (case hg => rfl); (case hr => first | (go_simp; done) | (go_simp; rfl)); intro gb211 hg w27 hbox hb; have n0_ := Aside0.mk (Kd.R_below (by (with_reducible repeat (first | apply Kd.R_alloc | apply Kd.R_drewN | apply Kd.R_drew)); exact HO202.out) hb); have n1_ := Aside0.mk (Kd.N_below (Kd.N_elderB (by (with_reducible repeat (first | apply Kd.N_alloc | apply Kd.N_drewN | apply Kd.N_drew)); exact HO205.out) gb211 (Nat.le_of_eq hg.symm)) hb); have n2_ := Aside0.mk (Kd.V_below (Kd.V_elderB (by (with_reducible repeat (first | apply Kd.V_alloc | apply Kd.V_drewN | apply Kd.V_drew)); exact HO210.out) gb211 (Nat.le_of_eq hg.symm)) hb); have n3_ := Aside0.mk (below_step (by repeat (first | (with_reducible first | exact HB.out | apply below_alloc | apply pw_below_drewN | apply below_drew1) | exact HB.out)) hb); have n4_ := Aside0.mk (hbox); have n5_ := Aside0.mk ((by rw [hg]; exact (below_size (by repeat (first | (with_reducible first | exact HB.out | apply below_alloc | apply pw_below_drewN | apply below_drew1) | exact HB.out))) : w.heap.size ≤ gb211)); have n6_ := Aside0.mk ((by rw [hg]; exact (below_size (by repeat (first | (with_reducible first | exact HB.out | apply below_alloc | apply pw_below_drewN | apply below_drew1) | exact HB.out))) : w.heap.size ≤ gb211)); clear HO202; clear HO205; clear HO210; clear HB; have HO202 := n0_; have HO205 := n1_; have HO210 := n2_; have HB := n3_; have BK211 := n4_; have GW211 := n5_; have GE211 := n6_; clear n0_ n1_ n2_ n3_ n4_ n5_ n6_; clear hb hbox hg; have hcz28_0 : w27.cell? ⟨gb211, 0, none⟩ = some (.bool false) := (blk_cell BK211.out 0).trans rfl; have hcz28_1 : w27.cell? ⟨gb211, 1, none⟩ = some (.slice none 0 0) := (blk_cell BK211.out 1).trans rfl; have hfz28_0 := blk_frozen BK211.out 0; have hfz28_1 := blk_frozen BK211.out 1) | ((with_reducible refine gate_callee (f := 27) rfl ?_); refine goesL_ (some 24) rfl rfl Try.func27 (by kernel_rfl) rfl #[.agg #[.bool true, .slice A26 y206.length c26]] rfl (by (try simp only [List.map_toArray, List.map_cons, List.map_nil]); first | done | rfl | (simp only [List.length_drop, List.length_take]; rfl)) ?_; (with_reducible refine (node_Print.calls k true _ _ y206 t212 t213 _ ?side1 ?side2 A3.out).mono ?_); (case side1 => refine (Kd.V_reads' (e := 78) (base := w.heap.size) (ok := fun k_ => ((True ∧ some k_ ≠ (v204 : Value).ownBlock) ∧ k_ ≠ gb211)) (n := y206.length) (c := c26) ?_).2.2; exact (by (with_reducible repeat (first | apply Kd.V_alloc | apply Kd.V_drewN | apply Kd.V_drew)); exact (Kd.V_mono (Kd.V_far (p := ⟨gb211, 1, none⟩) (Kd.V_far (p := ⟨gb211, 0, none⟩) (Kd.V_mono HO210.out (fun k_ hk => (⟨hk, hk.2⟩ : _ ∧ k_ ≠ gb211))) (fun _ hk => hk.2) (.bool true)) (fun _ hk => hk.2) (.slice A26 y206.length c26)) (fun _ h_ => h_.1)))); (case side2 => exact (Kd.V_reads' HO210.out).2.1); rintro e w29 ⟨rfl, hb⟩; refine ⟨_, rfl, ?_⟩; have n0_ := Aside0.mk (Kd.R_below (by (with_reducible repeat (first | apply Kd.R_alloc | apply Kd.R_drewN | apply Kd.R_drew)); exact (Kd.R_mono (Kd.R_far (p := ⟨gb211, 1, none⟩) (Kd.R_far (p := ⟨gb211, 0, none⟩) (Kd.R_types HO202.out BK211.out (by decide)) (fun _ hk => hk.2) (.bool true)) (fun _ hk => hk.2) (.slice A26 y206.length c26)) (fun _ h_ => h_.1))) hb); have n1_ := Aside0.mk (Kd.N_below (by (with_reducible repeat (first | apply Kd.N_alloc | apply Kd.N_drewN | apply Kd.N_drew)); exact (Kd.N_mono (Kd.N_far (p := ⟨gb211, 1, none⟩) (Kd.N_far (p := ⟨gb211, 0, none⟩) (Kd.N_mono HO205.out (fun k_ hk => (⟨hk, hk.2⟩ : _ ∧ k_ ≠ gb211))) (fun _ hk => hk.2) (.bool true)) (fun _ hk => hk.2) (.slice A26 y206.length c26)) (fun _ h_ => h_.1))) hb); have n2_ := Aside0.mk (Kd.V_below (by (with_reducible repeat (first | apply Kd.V_alloc | apply Kd.V_drewN | apply Kd.V_drew)); exact (Kd.V_mono (Kd.V_far (p := ⟨gb211, 1, none⟩) (Kd.V_far (p := ⟨gb211, 0, none⟩) (Kd.V_mono HO210.out (fun k_ hk => (⟨hk, hk.2⟩ : _ ∧ k_ ≠ gb211))) (fun _ hk => hk.2) (.bool true)) (fun _ hk => hk.2) (.slice A26 y206.length c26)) (fun _ h_ => h_.1))) hb); have n3_ := Aside0.mk (blk_below (g := gb211) (o := .cells #[.bool true, .slice A26 y206.length c26] 56 (0, 0)) (by (with_reducible repeat (first | refine blk_drewN ?_ _ | refine blk_drew ?_ | refine blk_alloc ?_ _)); refine blk_put (cs := #[.bool true, .slice none 0 0]) ?_ 1 _ rfl; (with_reducible repeat (first | refine blk_drewN ?_ _ | refine blk_drew ?_ | refine blk_alloc ?_ _)); refine blk_put (cs := #[.bool false, .slice none 0 0]) ?_ 0 _ rfl; (with_reducible repeat (first | refine blk_drewN ?_ _ | refine blk_drew ?_ | refine blk_alloc ?_ _)); exact BK211.out) hb); have n4_ := Aside0.mk (below_step (by repeat (first | (with_reducible first | exact HB.out | apply below_alloc | apply pw_below_drewN | apply below_drew1 | refine below_set ?_ GE211.out) | exact HB.out)) hb); clear HO202; clear HO205; clear HO210; clear BK211; clear HB; have HO202 := n0_; have HO205 := n1_; have HO210 := n2_; have BK211 := n3_; have HB := n4_; clear n0_ n1_ n2_ n3_ n4_; (try clear hb); (try clear hb2); (try clear hk); (try clear hi)) | ((with_reducible refine gate_callee (f := 29) rfl ?_); refine goesL_ (some 29) rfl rfl Try.func29 (by kernel_rfl) rfl #[.string t212] rfl (by (try simp only [List.map_toArray, List.map_cons, List.map_nil]); first | done | rfl | (simp only [List.length_drop, List.length_take]; rfl)) ?_; (with_reducible refine (node_Parse.calls k t212 t214 t215 t218 _ A4.out).mono ?_); rintro e w30 ⟨v216, rfl, ho0, hb⟩; refine ⟨_, rfl, ?_⟩; have n0_ := Aside0.mk (Kd.R_elder' (by (with_reducible repeat (first | apply Kd.R_alloc | apply Kd.R_drewN | apply Kd.R_drew)); exact HO202.out) (Kd.R_base ho0) hb); have n1_ := Aside0.mk (Kd.N_elder' (by (with_reducible repeat (first | apply Kd.N_alloc | apply Kd.N_drewN | apply Kd.N_drew)); exact HO205.out) (Kd.R_base ho0) hb); have n2_ := Aside0.mk (Kd.V_elder' (by (with_reducible repeat (first | apply Kd.V_alloc | apply Kd.V_drewN | apply Kd.V_drew)); exact HO210.out) (Kd.R_base ho0) hb); have n3_ := Aside0.mk (Kd.R_lower (Kd.R_new' ho0 (Kd.R_lt (by (with_reducible repeat (first | apply Kd.R_alloc | apply Kd.R_drewN | apply Kd.R_drew)); exact HO202.out))) (below_size (by repeat (first | (with_reducible first | exact HB.out | apply below_alloc | apply pw_below_drewN | apply below_drew1 | refine below_set ?_ GE211.out) | exact HB.out)))); have n4_ := Aside0.mk (blk_below (g := gb211) (o := .cells #[.bool true, .slice A26 y206.length c26] 56 (0, 0)) (by (with_reducible repeat (first | refine blk_drewN ?_ _ | refine blk_drew ?_ | refine blk_alloc ?_ _)); exact BK211.out) hb); have n5_ := Aside0.mk (below_step (by repeat (first | (with_reducible first | exact HB.out | apply below_alloc | apply pw_below_drewN | apply below_drew1 | refine below_set ?_ GE211.out) | exact HB.out)) hb); clear HO202; clear HO205; clear HO210; clear BK211; clear HB; have HO202 := n0_; have HO205 := n1_; have HO210 := n2_; have HO217 := n3_; have BK211 := n4_; have HB := n5_; clear n0_ n1_ n2_ n3_ n4_ n5_; (try clear hb); (try clear hb2); (try clear hk); (try clear hi); (try clear ho0)) | ((with_reducible refine gate_dst (N := 6) rfl ?_); (try (refine gate_guard (by rfl) ?_; dsimp only)); refine box_event ?hg (N := 6) ?hd (cs := #[.bool false, .slice none 0 0]) (t := 56) ?hr ?_; (case hd => rfl); (case hg => rfl); (case hr => first | (go_simp; done) | (go_simp; rfl)); intro gb219 hg w31 hbox hb; have n0_ := Aside0.mk (Kd.R_below (by (with_reducible repeat (first | apply Kd.R_alloc | apply Kd.R_drewN | apply Kd.R_drew)); exact HO202.out) hb); have n1_ := Aside0.mk (Kd.N_below (Kd.N_elderB (by (with_reducible repeat (first | apply Kd.N_alloc | apply Kd.N_drewN | apply Kd.N_drew)); exact HO205.out) gb219 (Nat.le_of_eq hg.symm)) hb); have n2_ := Aside0.mk (Kd.V_below (Kd.V_elderB (by (with_reducible repeat (first | apply Kd.V_alloc | apply Kd.V_drewN | apply Kd.V_drew)); exact HO210.out) gb219 (Nat.le_of_eq hg.symm)) hb); have n3_ := Aside0.mk (Kd.R_below (by (with_reducible repeat (first | apply Kd.R_alloc | apply Kd.R_drewN | apply Kd.R_drew)); exact HO217.out) hb); have n4_ := Aside0.mk (blk_below (g := gb211) (o := .cells #[.bool true, .slice A26 y206.length c26] 56 (0, 0)) (by (with_reducible repeat (first | refine blk_drewN ?_ _ | refine blk_drew ?_ | refine blk_alloc ?_ _)); exact BK211.out) hb); have n5_ := Aside0.mk (below_step (by repeat (first | (with_reducible first | exact HB.out | apply below_alloc | apply pw_below_drewN | apply below_drew1 | refine below_set ?_ GE211.out) | exact HB.out)) hb); have n6_ := Aside0.mk (hbox); have n7_ := Aside0.mk ((by rw [hg]; exact (below_size (by repeat (first | (with_reducible first | exact HB.out | apply below_alloc | apply pw_below_drewN | apply below_drew1 | refine below_set ?_ GE211.out) | exact HB.out))) : w.heap.size ≤ gb219)); have n8_ := Aside0.mk ((by rw [hg]; exact (below_size (by repeat (first | (with_reducible first | exact HB.out | apply below_alloc | apply pw_below_drewN | apply below_drew1 | refine below_set ?_ GE211.out) | exact HB.out))) : w.heap.size ≤ gb219)); have n9_ := Aside0.mk ((by rw [hg]; exact Nat.ne_of_lt (blk_lt (g := gb211) (o := .cells #[.bool true, .slice A26 y206.length c26] 56 (0, 0)) (by (with_reducible repeat (first | refine blk_drewN ?_ _ | refine blk_drew ?_ | refine blk_alloc ?_ _)); exact BK211.out)) : gb211 ≠ gb219)); have n10_ := Aside0.mk ((by rw [hg]; exact Nat.ne_of_gt (blk_lt (g := gb211) (o := .cells #[.bool true, .slice A26 y206.length c26] 56 (0, 0)) (by (with_reducible repeat (first | refine blk_drewN ?_ _ | refine blk_drew ?_ | refine blk_alloc ?_ _)); exact BK211.out)) : gb219 ≠ gb211)); clear HO202; clear HO205; clear HO210; clear HO217; clear BK211; clear HB; have HO202 := n0_; have HO205 := n1_; have HO210 := n2_; have HO217 := n3_; have BK211 := n4_; have HB := n5_; have BK219 := n6_; have GW219 := n7_; have GE219 := n8_; have NB211_219 := n9_; have NB219_211 := n10_; clear n0_ n1_ n2_ n3_ n4_ n5_ n6_ n7_ n8_ n9_ n10_; clear hb hbox hg; have hnb32 := NB219_211.out; have hnc32 := NB211_219.out; have hcz33_0 : w31.cell? ⟨gb219, 0, none⟩ = some (.bool false) := (blk_cell BK219.out 0).trans rfl; have hcz33_1 : w31.cell? ⟨gb219, 1, none⟩ = some (.slice none 0 0) := (blk_cell BK219.out 1).trans rfl; have hfz33_0 := blk_frozen BK219.out 0; have hfz33_1 := blk_frozen BK219.out 1; obtain ⟨Ao34, co34, eo34⟩ := Kd.R_slice HO217.out; subst eo34; have hcz35_0 : w31.cell? ⟨gb211, 0, none⟩ = some (.bool true) := (blk_cell BK211.out 0).trans rfl; have hcz35_1 : w31.cell? ⟨gb211, 1, none⟩ = some (.slice A26 y206.length c26) := (blk_cell BK211.out 1).trans rfl; have hfz35_0 := blk_frozen BK211.out 0; have hfz35_1 := blk_frozen BK211.out 1) | ((with_reducible refine gate_callee (f := 35) rfl ?_); refine goesL_ (some 34) rfl rfl Try.func35 (by kernel_rfl) rfl #[.agg #[.bool true, .slice A26 y206.length c26], .int .i64 5] rfl (by (try simp only [List.map_toArray, List.map_cons, List.map_nil]); first | done | rfl | (simp only [List.length_drop, List.length_take]; rfl)) ?_; (with_reducible refine (node_At.calls true _ _ y206 5 t220 true _ ?side1 ?side2 A5.out).mono ?_); (case side1 => refine (Kd.V_reads' (e := 78) (base := w.heap.size) (ok := fun k_ => ((((True ∧ some k_ ≠ (v204 : Value).ownBlock) ∧ k_ ≠ gb211) ∧ some k_ ≠ (.slice Ao34 t215.length co34 : Value).ownBlock) ∧ k_ ≠ gb219)) (n := y206.length) (c := c26) ?_).2.2; exact (by (with_reducible repeat (first | apply Kd.V_alloc | apply Kd.V_drewN | apply Kd.V_drew)); exact (Kd.V_mono (Kd.V_far (p := ⟨gb219, 1, none⟩) (Kd.V_far (p := ⟨gb219, 0, none⟩) (Kd.V_mono HO210.out (fun k_ hk => (⟨hk, hk.2⟩ : _ ∧ k_ ≠ gb219))) (fun _ hk => hk.2) (.bool t214)) (fun _ hk => hk.2) (.slice Ao34 t215.length co34)) (fun _ h_ => h_.1)))); (case side2 => exact (Kd.V_reads' HO210.out).2.1); rintro e w36 ⟨rfl, hb⟩; refine ⟨_, rfl, ?_⟩; have n0_ := Aside0.mk (Kd.R_below (by (with_reducible repeat (first | apply Kd.R_alloc | apply Kd.R_drewN | apply Kd.R_drew)); exact (Kd.R_mono (Kd.R_far (p := ⟨gb219, 1, none⟩) (Kd.R_far (p := ⟨gb219, 0, none⟩) (Kd.R_types HO202.out BK219.out (by decide)) (fun _ hk => hk.2) (.bool t214)) (fun _ hk => hk.2) (.slice Ao34 t215.length co34)) (fun _ h_ => h_.1))) hb); have n1_ := Aside0.mk (Kd.N_below (by (with_reducible repeat (first | apply Kd.N_alloc | apply Kd.N_drewN | apply Kd.N_drew)); exact (Kd.N_mono (Kd.N_far (p := ⟨gb219, 1, none⟩) (Kd.N_far (p := ⟨gb219, 0, none⟩) (Kd.N_mono HO205.out (fun k_ hk => (⟨hk, hk.2⟩ : _ ∧ k_ ≠ gb219))) (fun _ hk => hk.2) (.bool t214)) (fun _ hk => hk.2) (.slice Ao34 t215.length co34)) (fun _ h_ => h_.1))) hb); have n2_ := Aside0.mk (Kd.V_below (by (with_reducible repeat (first | apply Kd.V_alloc | apply Kd.V_drewN | apply Kd.V_drew)); exact (Kd.V_mono (Kd.V_far (p := ⟨gb219, 1, none⟩) (Kd.V_far (p := ⟨gb219, 0, none⟩) (Kd.V_mono HO210.out (fun k_ hk => (⟨hk, hk.2⟩ : _ ∧ k_ ≠ gb219))) (fun _ hk => hk.2) (.bool t214)) (fun _ hk => hk.2) (.slice Ao34 t215.length co34)) (fun _ h_ => h_.1))) hb); have n3_ := Aside0.mk (Kd.R_below (by (with_reducible repeat (first | apply Kd.R_alloc | apply Kd.R_drewN | apply Kd.R_drew)); exact (Kd.R_mono (Kd.R_far (p := ⟨gb219, 1, none⟩) (Kd.R_far (p := ⟨gb219, 0, none⟩) (Kd.R_types HO217.out BK219.out (by decide)) (fun _ hk => hk.2) (.bool t214)) (fun _ hk => hk.2) (.slice Ao34 t215.length co34)) (fun _ h_ => h_.1))) hb); have n4_ := Aside0.mk (blk_below (g := gb211) (o := .cells #[.bool true, .slice A26 y206.length c26] 56 (0, 0)) (by (with_reducible repeat (first | refine blk_drewN ?_ _ | refine blk_drew ?_ | refine blk_alloc ?_ _)); refine blk_far ?_ NB211_219.out _; (with_reducible repeat (first | refine blk_drewN ?_ _ | refine blk_drew ?_ | refine blk_alloc ?_ _)); refine blk_far ?_ NB211_219.out _; (with_reducible repeat (first | refine blk_drewN ?_ _ | refine blk_drew ?_ | refine blk_alloc ?_ _)); exact BK211.out) hb); have n5_ := Aside0.mk (blk_below (g := gb219) (o := .cells #[.bool t214, .slice Ao34 t215.length co34] 56 (0, 0)) (by (with_reducible repeat (first | refine blk_drewN ?_ _ | refine blk_drew ?_ | refine blk_alloc ?_ _)); refine blk_put (cs := #[.bool t214, .slice none 0 0]) ?_ 1 _ rfl; (with_reducible repeat (first | refine blk_drewN ?_ _ | refine blk_drew ?_ | refine blk_alloc ?_ _)); refine blk_put (cs := #[.bool false, .slice none 0 0]) ?_ 0 _ rfl; (with_reducible repeat (first | refine blk_drewN ?_ _ | refine blk_drew ?_ | refine blk_alloc ?_ _)); exact BK219.out) hb); have n6_ := Aside0.mk (below_step (by repeat (first | (with_reducible first | exact HB.out | apply below_alloc | apply pw_below_drewN | apply below_drew1 | refine below_set ?_ GE211.out | refine below_set ?_ GE219.out) | exact HB.out)) hb); clear HO202; clear HO205; clear HO210; clear HO217; clear BK211; clear BK219; clear HB; have HO202 := n0_; have HO205 := n1_; have HO210 := n2_; have HO217 := n3_; have BK211 := n4_; have BK219 := n5_; have HB := n6_; clear n0_ n1_ n2_ n3_ n4_ n5_ n6_; (try clear hb); (try clear hb2); (try clear hk); (try clear hi)) | ((with_reducible refine gate_callee (f := 41) rfl ?_); refine goesL_ (some 38) rfl rfl Try.func41 (by kernel_rfl) rfl #[.slice Ao24 y200.length co24, .int .i64 1, .int .i64 3, .slice none 0 0] rfl (by (try simp only [List.map_toArray, List.map_cons, List.map_nil]); first | done | rfl | (simp only [List.length_drop, List.length_take]; rfl)) ?_; (refine (node_With.calls (fun k_ => some k_ = (.slice Ao24 y200.length co24 : Value).ownBlock) _ _ y200 1 3 (fun k_ => False) _ _ ([] : List (S78)) t222 _ ?side1 ?side2 A6.out).mono ?_); (case side1 => exact Kd.R_V (Kd.R_tight rfl (Kd.R_types (Kd.R_types (Kd.R_apart' (HO202.out) (Kd.N_typed HO205.out) (by decide)) BK211.out (by decide)) BK219.out (by decide)))); (case side2 => exact Kd.V_nil _ _ _ _ _); rintro e w37 ⟨v223, rfl, ho0, hb⟩; refine ⟨_, rfl, ?_⟩; have n0_ := Aside0.mk (Kd.R_elder' (by (with_reducible repeat (first | apply Kd.R_alloc | apply Kd.R_drewN | apply Kd.R_drew)); exact HO202.out) (Kd.R_base ho0) hb); have n1_ := Aside0.mk (Kd.N_elder' (by (with_reducible repeat (first | apply Kd.N_alloc | apply Kd.N_drewN | apply Kd.N_drew)); exact HO205.out) (Kd.R_base ho0) hb); have n2_ := Aside0.mk (Kd.V_elder' (by (with_reducible repeat (first | apply Kd.V_alloc | apply Kd.V_drewN | apply Kd.V_drew)); exact HO210.out) (Kd.R_base ho0) hb); have n3_ := Aside0.mk (Kd.R_elder' (by (with_reducible repeat (first | apply Kd.R_alloc | apply Kd.R_drewN | apply Kd.R_drew)); exact HO217.out) (Kd.R_base ho0) hb); have n4_ := Aside0.mk (Kd.R_lower (Kd.R_new' (Kd.R_new' (Kd.R_mono (ok' := fun k_ => True) ho0 (fun _ hk_ => trivial)) (Kd.R_lt (by (with_reducible repeat (first | apply Kd.R_alloc | apply Kd.R_drewN | apply Kd.R_drew)); exact HO202.out))) (Kd.R_lt (by (with_reducible repeat (first | apply Kd.R_alloc | apply Kd.R_drewN | apply Kd.R_drew)); exact HO217.out))) (below_size (by repeat (first | (with_reducible first | exact HB.out | apply below_alloc | apply pw_below_drewN | apply below_drew1 | refine below_set ?_ GE211.out | refine below_set ?_ GE219.out) | exact HB.out)))); have n5_ := Aside0.mk (blk_below (g := gb211) (o := .cells #[.bool true, .slice A26 y206.length c26] 56 (0, 0)) (by (with_reducible repeat (first | refine blk_drewN ?_ _ | refine blk_drew ?_ | refine blk_alloc ?_ _)); exact BK211.out) hb); have n6_ := Aside0.mk (blk_below (g := gb219) (o := .cells #[.bool t214, .slice Ao34 t215.length co34] 56 (0, 0)) (by (with_reducible repeat (first | refine blk_drewN ?_ _ | refine blk_drew ?_ | refine blk_alloc ?_ _)); exact BK219.out) hb); have n7_ := Aside0.mk (below_step (by repeat (first | (with_reducible first | exact HB.out | apply below_alloc | apply pw_below_drewN | apply below_drew1 | refine below_set ?_ GE211.out | refine below_set ?_ GE219.out) | exact HB.out)) hb); clear HO202; clear HO205; clear HO210; clear HO217; clear BK211; clear BK219; clear HB; have HO202 := n0_; have HO205 := n1_; have HO210 := n2_; have HO217 := n3_; have HO224 := n4_; have BK211 := n5_; have BK219 := n6_; have HB := n7_; clear n0_ n1_ n2_ n3_ n4_ n5_ n6_ n7_; (try clear hb); (try clear hb2); (try clear hk); (try clear hi); (try clear ho0); obtain ⟨Ao38, co38, eo38⟩ := Kd.N_slice HO205.out; subst eo38; have p225 : 0 ≤ (0 : Int) := (by omega); have q225 : 0 < (t203.length : Int) := of_decide_eq_true (by first | (with_reducible assumption) | assumption); obtain ⟨ad225, A225_0, c225_0, e225, hx225_0, hl225_0, hi225_0⟩ := at_L7 (Kd.N_reads' HO205.out).2.2 0 p225 q225; cases e225; obtain ⟨ce225, hce225, hMe225, hcc225⟩ := Kd.N_get HO205.out [] 0 p225 (by first | exact q225 | exact of_decide_eq_true (by first | (with_reducible assumption) | assumption) | (have e_ := (Kd.N_reads' HO205.out).1; omega)); obtain ⟨ua225_0, uc225_0, rfl, ul225_0, ge225_0⟩ := Kd.FK_slice_open hMe225; have hv225_0 := hcc225 0 _ rfl; rw [Nat.add_zero, show ((Kd.slice 78 k78)).sz = 1 from rfl, Nat.mul_one] at hv225_0; replace hv225_0 := Option.some.inj (hv225_0.symm.trans hx225_0); injection hv225_0 with hva_ hvn_ hvc_; rw [hva_] at ge225_0; rw [hvc_] at ul225_0; have HL225_0 := Aside0.mk (show Kd.V k78 78 _ w.heap.size _ _ (rd_L7 t203 0) from Kd.V_mk ul225_0 ge225_0); clear hva_ hvn_ hvc_ ge225_0 ul225_0; clear hcc225 hce225; have qi225 : (0 < t203.length) = True := eq_true (by omega); (try rw [show ((0 : Int)).toNat = 0 from rfl] at hx225_0); (try rw [Addr.add_zero'] at hx225_0); have HR225_0 := Aside0.mk hi225_0; have HC225_0 := Aside0.mk hl225_0; clear hi225_0 hl225_0; replace p225 := eq_true p225; replace q225 := eq_true q225; have p226 : 0 ≤ (1 : Int) := (by omega); have q226 : 1 < (t203.length : Int) := of_decide_eq_true (by first | (with_reducible assumption) | assumption); obtain ⟨ad226, A226_0, c226_0, e226, hx226_0, hl226_0, hi226_0⟩ := at_L7 (Kd.N_reads' HO205.out).2.2 1 p226 q226; obtain rfl : ad225 = ad226 := (by injection e226); obtain ⟨ce226, hce226, hMe226, hcc226⟩ := Kd.N_get HO205.out [] 1 p226 (by first | exact q226 | exact of_decide_eq_true (by first | (with_reducible assumption) | assumption) | (have e_ := (Kd.N_reads' HO205.out).1; omega)); obtain ⟨ua226_0, uc226_0, rfl, ul226_0, ge226_0⟩ := Kd.FK_slice_open hMe226; have hv226_0 := hcc226 0 _ rfl; rw [Nat.add_zero, show ((Kd.slice 78 k78)).sz = 1 from rfl, Nat.mul_one] at hv226_0; replace hv226_0 := Option.some.inj (hv226_0.symm.trans hx226_0); injection hv226_0 with hva_ hvn_ hvc_; rw [hva_] at ge226_0; rw [hvc_] at ul226_0; have HL226_0 := Aside0.mk (show Kd.V k78 78 _ w.heap.size _ _ (rd_L7 t203 1) from Kd.V_mk ul226_0 ge226_0); clear hva_ hvn_ hvc_ ge226_0 ul226_0; clear hcc226 hce226; (try simp only [show (1 : Int).toNat = 1 from rfl, Nat.reduceMul, Nat.reduceEqDiff, Go.Addr.add, ↓reduceIte] at hx226_0); have qi226 : (1 < t203.length) = True := eq_true (by omega); (try rw [show ((1 : Int)).toNat = 1 from rfl] at hx226_0); have HR226_0 := Aside0.mk hi226_0; have HC226_0 := Aside0.mk hl226_0; clear hi226_0 hl226_0; replace p226 := eq_true p226; replace q226 := eq_true q226; have hcz39_0 : w37.cell? ⟨gb211, 0, none⟩ = some (.bool true) := (blk_cell BK211.out 0).trans rfl; have hcz39_1 : w37.cell? ⟨gb211, 1, none⟩ = some (.slice A26 y206.length c26) := (blk_cell BK211.out 1).trans rfl; have hfz39_0 := blk_frozen BK211.out 0; have hfz39_1 := blk_frozen BK211.out 1; have hcz40_0 : w37.cell? ⟨gb219, 0, none⟩ = some (.bool t214) := (blk_cell BK219.out 0).trans rfl; have hcz40_1 : w37.cell? ⟨gb219, 1, none⟩ = some (.slice Ao34 t215.length co34) := (blk_cell BK219.out 1).trans rfl; have hfz40_0 := blk_frozen BK219.out 0; have hfz40_1 := blk_frozen BK219.out 1) | (go_at_call 32; (with_reducible refine (node_Same.calls k true _ _ y206 t214 _ _ t215 true _ ?side1 ?side2 ?side3 ?side4 A14.out).mono ?_); (case side1 => repeat (first | exact (Kd.V_reads' HO210.out).2.2 | (with_reducible refine Kd.C_alloc ?_ _) | (with_reducible refine Kd.C_drewN ?_ _) | (with_reducible refine Kd.C_drew ?_))); (case side2 => exact (Kd.V_reads' HO210.out).2.1); (case side3 => repeat (first | exact (Kd.R_reads' HO217.out).2.2 | (with_reducible refine Kd.C_alloc ?_ _) | (with_reducible refine Kd.C_drewN ?_ _) | (with_reducible refine Kd.C_drew ?_))); (case side4 => exact (Kd.R_reads' HO217.out).2.1); rintro e w41 ⟨rfl, hb⟩; have n0_ := Aside0.mk (Kd.R_below (by (with_reducible repeat (first | apply Kd.R_alloc | apply Kd.R_drewN | apply Kd.R_drew)); exact HO202.out) hb); have n1_ := Aside0.mk (Kd.N_below (by (with_reducible repeat (first | apply Kd.N_alloc | apply Kd.N_drewN | apply Kd.N_drew)); exact HO205.out) hb); have n2_ := Aside0.mk (Kd.V_below (by (with_reducible repeat (first | apply Kd.V_alloc | apply Kd.V_drewN | apply Kd.V_drew)); exact HO210.out) hb); have n3_ := Aside0.mk (Kd.R_below (by (with_reducible repeat (first | apply Kd.R_alloc | apply Kd.R_drewN | apply Kd.R_drew)); exact HO217.out) hb); have n4_ := Aside0.mk (Kd.R_below (by (with_reducible repeat (first | apply Kd.R_alloc | apply Kd.R_drewN | apply Kd.R_drew)); exact HO224.out) hb); have n5_ := Aside0.mk (Kd.V_below (by (with_reducible repeat (first | apply Kd.V_alloc | apply Kd.V_drewN | apply Kd.V_drew)); exact HL225_0.out) hb); have n6_ := Aside0.mk (Kd.V_below (by (with_reducible repeat (first | apply Kd.V_alloc | apply Kd.V_drewN | apply Kd.V_drew)); exact HL226_0.out) hb); have n7_ := Aside0.mk (blk_below (g := gb211) (o := .cells #[.bool true, .slice A26 y206.length c26] 56 (0, 0)) (by (with_reducible repeat (first | refine blk_drewN ?_ _ | refine blk_drew ?_ | refine blk_alloc ?_ _)); exact BK211.out) hb); have n8_ := Aside0.mk (blk_below (g := gb219) (o := .cells #[.bool t214, .slice Ao34 t215.length co34] 56 (0, 0)) (by (with_reducible repeat (first | refine blk_drewN ?_ _ | refine blk_drew ?_ | refine blk_alloc ?_ _)); exact BK219.out) hb); have n9_ := Aside0.mk (Kd.C_below (by repeat (first | (with_reducible exact HR225_0.out) | (with_reducible refine Kd.C_alloc ?_ _) | (with_reducible refine Kd.C_drewN ?_ _) | (with_reducible refine Kd.C_drew ?_) | exact HR225_0.out)) hb); have n10_ := Aside0.mk (Kd.C_below (by repeat (first | (with_reducible exact HR226_0.out) | (with_reducible refine Kd.C_alloc ?_ _) | (with_reducible refine Kd.C_drewN ?_ _) | (with_reducible refine Kd.C_drew ?_) | exact HR226_0.out)) hb); have n11_ := Aside0.mk (below_step (by repeat (first | (with_reducible first | exact HB.out | apply below_alloc | apply pw_below_drewN | apply below_drew1 | refine below_set ?_ GE211.out | refine below_set ?_ GE219.out) | exact HB.out)) hb); clear HO202; clear HO205; clear HO210; clear HO217; clear HO224; clear HL225_0; clear HL226_0; clear BK211; clear BK219; clear HR225_0; clear HR226_0; clear HB; have HO202 := n0_; have HO205 := n1_; have HO210 := n2_; have HO217 := n3_; have HO224 := n4_; have HL225_0 := n5_; have HL226_0 := n6_; have BK211 := n7_; have BK219 := n8_; have HR225_0 := n9_; have HR226_0 := n10_; have HB := n11_; clear n0_ n1_ n2_ n3_ n4_ n5_ n6_ n7_ n8_ n9_ n10_ n11_; (try clear hb); (try clear hb2); (try clear hk); (try clear hi); have hcz42_0 : w41.cell? ⟨gb211, 0, none⟩ = some (.bool true) := (blk_cell BK211.out 0).trans rfl; have hcz42_1 : w41.cell? ⟨gb211, 1, none⟩ = some (.slice A26 y206.length c26) := (blk_cell BK211.out 1).trans rfl; have hfz42_0 := blk_frozen BK211.out 0; have hfz42_1 := blk_frozen BK211.out 1) | (go_at_call 34; (with_reducible refine (node_Right.calls k true _ _ y206 true _ ?side1 ?side2 A18.out).mono ?_); (case side1 => repeat (first | exact (Kd.V_reads' HO210.out).2.2 | (with_reducible refine Kd.C_alloc ?_ _) | (with_reducible refine Kd.C_drewN ?_ _) | (with_reducible refine Kd.C_drew ?_))); (case side2 => exact (Kd.V_reads' HO210.out).2.1); rintro e w43 ⟨rfl, hb⟩; have n0_ := Aside0.mk (Kd.R_below (by (with_reducible repeat (first | apply Kd.R_alloc | apply Kd.R_drewN | apply Kd.R_drew)); exact HO202.out) hb); have n1_ := Aside0.mk (Kd.N_below (by (with_reducible repeat (first | apply Kd.N_alloc | apply Kd.N_drewN | apply Kd.N_drew)); exact HO205.out) hb); have n2_ := Aside0.mk (Kd.V_below (by (with_reducible repeat (first | apply Kd.V_alloc | apply Kd.V_drewN | apply Kd.V_drew)); exact HO210.out) hb); have n3_ := Aside0.mk (Kd.R_below (by (with_reducible repeat (first | apply Kd.R_alloc | apply Kd.R_drewN | apply Kd.R_drew)); exact HO217.out) hb); have n4_ := Aside0.mk (Kd.R_below (by (with_reducible repeat (first | apply Kd.R_alloc | apply Kd.R_drewN | apply Kd.R_drew)); exact HO224.out) hb); have n5_ := Aside0.mk (Kd.V_below (by (with_reducible repeat (first | apply Kd.V_alloc | apply Kd.V_drewN | apply Kd.V_drew)); exact HL225_0.out) hb); have n6_ := Aside0.mk (Kd.V_below (by (with_reducible repeat (first | apply Kd.V_alloc | apply Kd.V_drewN | apply Kd.V_drew)); exact HL226_0.out) hb); have n7_ := Aside0.mk (blk_below (g := gb211) (o := .cells #[.bool true, .slice A26 y206.length c26] 56 (0, 0)) (by (with_reducible repeat (first | refine blk_drewN ?_ _ | refine blk_drew ?_ | refine blk_alloc ?_ _)); exact BK211.out) hb); have n8_ := Aside0.mk (blk_below (g := gb219) (o := .cells #[.bool t214, .slice Ao34 t215.length co34] 56 (0, 0)) (by (with_reducible repeat (first | refine blk_drewN ?_ _ | refine blk_drew ?_ | refine blk_alloc ?_ _)); exact BK219.out) hb); have n9_ := Aside0.mk (Kd.C_below (by repeat (first | (with_reducible exact HR225_0.out) | (with_reducible refine Kd.C_alloc ?_ _) | (with_reducible refine Kd.C_drewN ?_ _) | (with_reducible refine Kd.C_drew ?_) | exact HR225_0.out)) hb); have n10_ := Aside0.mk (Kd.C_below (by repeat (first | (with_reducible exact HR226_0.out) | (with_reducible refine Kd.C_alloc ?_ _) | (with_reducible refine Kd.C_drewN ?_ _) | (with_reducible refine Kd.C_drew ?_) | exact HR226_0.out)) hb); have n11_ := Aside0.mk (below_step (by repeat (first | (with_reducible first | exact HB.out | apply below_alloc | apply pw_below_drewN | apply below_drew1 | refine below_set ?_ GE211.out | refine below_set ?_ GE219.out) | exact HB.out)) hb); clear HO202; clear HO205; clear HO210; clear HO217; clear HO224; clear HL225_0; clear HL226_0; clear BK211; clear BK219; clear HR225_0; clear HR226_0; clear HB; have HO202 := n0_; have HO205 := n1_; have HO210 := n2_; have HO217 := n3_; have HO224 := n4_; have HL225_0 := n5_; have HL226_0 := n6_; have BK211 := n7_; have BK219 := n8_; have HR225_0 := n9_; have HR226_0 := n10_; have HB := n11_; clear n0_ n1_ n2_ n3_ n4_ n5_ n6_ n7_ n8_ n9_ n10_ n11_; (try clear hb); (try clear hb2); (try clear hk); (try clear hi); obtain ⟨Ao44, co44, eo44⟩ := Kd.R_slice HO224.out; subst eo44; have p229 : 0 ≤ (1 : Int) := (by omega); have q229 : 1 < (t222.length : Int) := of_decide_eq_true (by first | (with_reducible assumption) | assumption); obtain ⟨ad229, e229, hx229_0, hx229_1⟩ := at_T78 (Kd.R_reads' HO224.out).2.2 1 p229 q229; cases e229; (try simp only [show (1 : Int).toNat = 1 from rfl, Nat.reduceMul, Nat.reduceEqDiff, Go.Addr.add, ↓reduceIte] at hx229_0); (try simp only [show (1 : Int).toNat = 1 from rfl, Nat.reduceMul, Nat.reduceEqDiff, Go.Addr.add, ↓reduceIte] at hx229_1); have qi229 : (1 < t222.length) = True := eq_true (by omega); (try rw [show ((1 : Int)).toNat = 1 from rfl] at hx229_0); (try rw [show 1 * 2 = 2 from rfl] at hx229_0); (try rw [show ((1 : Int)).toNat = 1 from rfl] at hx229_1); (try rw [show 1 * 2 = 2 from rfl] at hx229_1); replace p229 := eq_true p229; replace q229 := eq_true q229))
                              go_ret
                              exact ⟨by first | rfl | (simp [errW_none, errW_some] <;> rfl) | (simp [*, errW_none, errW_some] <;> rfl), by repeat (first | (with_reducible first | exact HB.out | apply below_alloc | apply pw_below_drewN | apply below_drew1 | refine below_set ?_ GE211.out | refine below_set ?_ GE219.out) | exact HB.out)⟩
                            · rw [if_neg c21] at H
                              exact absurd H (by simp)
                          · rw [if_neg c20] at H
                            have c20b0 : ((t222.length : Int) == 2) = false := beq_eq_false_iff_ne.mpr c20
                            have c20b1 : ((t222.length : Int) != 2) = true := bne_iff_ne.mpr c20
                            obtain rfl := Option.some.inj H
                            cases hr
                        · replace c19 := Bool.eq_false_iff.mpr c19
                          subst c19
                          have H1 : (some false) = some r := by rw [if_neg (show ¬ (false = true) by decide)] at H; exact H
                          clear H
                          have H := H1
                          clear H1
                          obtain rfl := Option.some.inj H
                          cases hr
                      · replace c17 := Bool.eq_false_iff.mpr c17
                        subst c17
                        have H1 : (some false) = some r := by rw [if_neg (show ¬ (false = true) by decide)] at H; exact H
                        clear H
                        have H := H1
                        clear H1
                        obtain rfl := Option.some.inj H
                        cases hr
                    · rw [if_neg c16] at H
                      have c16b0 : (t220 == 1) = false := beq_eq_false_iff_ne.mpr c16
                      have c16b1 : (t220 != 1) = true := bne_iff_ne.mpr c16
                      obtain rfl := Option.some.inj H
                      cases hr
                  · replace c15 := Bool.eq_false_iff.mpr c15
                    subst c15
                    have H1 : (some false) = some r := by rw [if_neg (show ¬ (false = true) by decide)] at H; exact H
                    clear H
                    have H := H1
                    clear H1
                    obtain rfl := Option.some.inj H
                    cases hr
                · rw [if_neg c13] at H
                  have c13b0 : (t218 == 0) = false := beq_eq_false_iff_ne.mpr c13
                  have c13b1 : (t218 != 0) = true := bne_iff_ne.mpr c13
                  obtain rfl := Option.some.inj H
                  cases hr
              · rw [if_neg c12] at H
                have c12b0 : (t213 == 0) = false := beq_eq_false_iff_ne.mpr c12
                have c12b1 : (t213 != 0) = true := bne_iff_ne.mpr c12
                obtain rfl := Option.some.inj H
                cases hr
            · rw [if_neg c11] at H
              have c11b0 : (((rd_L7 t203 1).length : Int) == 2) = false := beq_eq_false_iff_ne.mpr c11
              have c11b1 : (((rd_L7 t203 1).length : Int) != 2) = true := bne_iff_ne.mpr c11
              obtain rfl := Option.some.inj H
              cases hr
          · rw [if_neg c10] at H
            exact absurd H (by simp)
        · rw [if_neg c9] at H
          have c9b0 : (((rd_L7 t203 0).length : Int) == 3) = false := beq_eq_false_iff_ne.mpr c9
          have c9b1 : (((rd_L7 t203 0).length : Int) != 3) = true := bne_iff_ne.mpr c9
          obtain rfl := Option.some.inj H
          cases hr
      · rw [if_neg c8] at H
        exact absurd H (by simp)
    · rw [if_neg c7] at H
      have c7b0 : ((t203.length : Int) == 2) = false := beq_eq_false_iff_ne.mpr c7
      have c7b1 : ((t203.length : Int) != 2) = true := bne_iff_ne.mpr c7
      obtain rfl := Option.some.inj H
      cases hr
  · rw [if_neg c2] at H
    exact absurd H (by simp)

set_option maxRecDepth 100000 in
theorem shown04_val : assartlaw04_shown.g 60 = some true := by decide +kernel
def assartlaw04_shown.f : Option Bool := some true
theorem assartlaw04_shown.calls (r : Bool) (w : World) (h : assartlaw04_shown.f = some r) : Calls Try.prog 26 #[] w fun e w' => e = .returned (.bool r) ∧ Below w.heap.size w w' := by
  obtain rfl := Option.some.inj h
  exact assartlaw04_shown.walk 60 true w shown04_val rfl
end Go.Proofs.Ythjnkapkhphpeaa.P
end
