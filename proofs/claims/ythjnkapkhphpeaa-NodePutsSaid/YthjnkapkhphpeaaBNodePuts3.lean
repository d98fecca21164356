/- Texts of this claim's proof put together: F14, HRow, QNodePuts, F36, F40, F37. -/
import Derived.Test.YthjnkapkhphpeaaBNodePuts0
import Derived.Test.YthjnkapkhphpeaaBNodePuts2
import Derived.ChangeArms
import Derived.DataReads
import Derived.DataElems
import Derived.SizedLaws
section
namespace Go.Proofs.Ythjnkapkhphpeaa.P
open Go.RowKit Go.Proofs.YthjnkapkhphpeaaW.PrintWords Go.Proofs.YthjnkapkhphpeaaW.PrintLast Go.Proofs.YthjnkapkhphpeaaW.PrintMore
attribute [local go_sem] max2_int min2_int max_two min_two max_three min_three max_four min_four
set_option linter.unusedVariables false
set_option linter.unusedSimpArgs false

/-! ### assartlaw04_NodePuts: function 14 -/
mutual
def assartlaw04_NodePuts.j0 : Nat → Bool → Bool → Bool → List (S78) → Int → Int → Option (Bool)
  | 0, _, _, _, _, _, _ => none
  | k + 1, x5, x41, x470000, x470001, x471000, x471001 => if x41 = true then (some x5) else ((node_At.f x470000 x470001 x471000).bind fun bt473 => (if bt473.2 = true then (assartlaw04_NodePuts.j1 k x5 bt473.1 1 x470000 x470001 x471000 x471001) else (assartlaw04_NodePuts.j1 k x5 bt473.1 0 x470000 x470001 x471000 x471001)))
def assartlaw04_NodePuts.j1 : Nat → Bool → Int → Int → Bool → List (S78) → Int → Int → Option (Bool)
  | 0, _, _, _, _, _, _, _ => none
  | k + 1, x5, x6, x8, x470000, x470001, x471000, x471001 => if x6 < 0 then (assartlaw04_NodePuts.j2 k x5 x6 x8 true x470000 x470001 x471000 x471001) else (assartlaw04_NodePuts.j2 k x5 x6 x8 (decide (x6 > (wrap64 ((x470001.length : Int) - x8)))) x470000 x470001 x471000 x471001)
def assartlaw04_NodePuts.j2 : Nat → Bool → Int → Int → Bool → Bool → List (S78) → Int → Int → Option (Bool)
  | 0, _, _, _, _, _, _, _, _ => none
  | k + 1, x5, x6, x8, x61, x470000, x470001, x471000, x471001 => if x61 = true then (some false) else ((node_With.f x470001 x6 x8 (([(⟨x471000, x471001⟩ : S78)] : List (S78)))).bind fun t478 => ((node_Split.f k t478).bind fun t481 => (assartlaw04_NodePuts.l0 k x5 t481 (-1) 0)))
def assartlaw04_NodePuts.l0 : Nat → Bool → List (List (S78)) → Int → Int → Option (Bool)
  | 0, _, _, _, _ => none
  | k + 1, x5, x9, x10, x11 => if x11 < (x9.length : Int) then (if 0 ≤ x11 then ((assartref04_Right.f k true (rd_L7 x9 x11)).bind fun t485 => (if t485 = true then (if 0 < ((rd_L7 x9 x11).length : Int) then (if ((rd_T78 (rd_L7 x9 x11) 0).f0) ≤ x10 then (some false) else (if 0 ≤ (wrap64 (((rd_L7 x9 x11).length : Int) - 1)) then (if (wrap64 (((rd_L7 x9 x11).length : Int) - 1)) < ((rd_L7 x9 x11).length : Int) then (assartlaw04_NodePuts.l0 k x5 x9 ((rd_T78 (rd_L7 x9 x11) (wrap64 (((rd_L7 x9 x11).length : Int) - 1))).f0) (wrap64 (x11 + 1))) else (none)) else (none))) else (none)) else (some false))) else (none)) else (if x5 = true then (if (x9.length : Int) ≥ 1 then (some (decide ((x9.length : Int) ≤ 2))) else (some false)) else (some false))
end
def assartlaw04_NodePuts.f (k : Nat) (a0_0 : Bool) (l0_1 : List (S78)) (a1_0 : Int) (a1_1 : Int) : Option (Bool) := (assartlaw04_shown.f).bind fun t471 => ((assartref04_Right.f k a0_0 l0_1).bind fun t472 => (if t472 = true then (if a0_0 = true then (if a1_0 < 0 then (assartlaw04_NodePuts.j0 k t471 true a0_0 l0_1 a1_0 a1_1) else (if a1_0 > 2147483647 then (assartlaw04_NodePuts.j0 k t471 true a0_0 l0_1 a1_0 a1_1) else (if a1_1 < 0 then (assartlaw04_NodePuts.j0 k t471 true a0_0 l0_1 a1_0 a1_1) else (assartlaw04_NodePuts.j0 k t471 (decide (a1_1 > 2147483647)) a0_0 l0_1 a1_0 a1_1)))) else (assartlaw04_NodePuts.j0 k t471 true a0_0 l0_1 a1_0 a1_1)) else (assartlaw04_NodePuts.j0 k t471 true a0_0 l0_1 a1_0 a1_1)))
theorem assartlaw04_NodePuts.mono_l : ∀ k, (∀ y0 y1 y2 y3 y4 y5, LeO (assartlaw04_NodePuts.j0 k y0 y1 y2 y3 y4 y5) (assartlaw04_NodePuts.j0 (k + 1) y0 y1 y2 y3 y4 y5)) ∧ (∀ y0 y1 y2 y3 y4 y5 y6, LeO (assartlaw04_NodePuts.j1 k y0 y1 y2 y3 y4 y5 y6) (assartlaw04_NodePuts.j1 (k + 1) y0 y1 y2 y3 y4 y5 y6)) ∧ (∀ y0 y1 y2 y3 y4 y5 y6 y7, LeO (assartlaw04_NodePuts.j2 k y0 y1 y2 y3 y4 y5 y6 y7) (assartlaw04_NodePuts.j2 (k + 1) y0 y1 y2 y3 y4 y5 y6 y7)) ∧ (∀ y0 y1 y2 y3, LeO (assartlaw04_NodePuts.l0 k y0 y1 y2 y3) (assartlaw04_NodePuts.l0 (k + 1) y0 y1 y2 y3))
  | 0 => ⟨fun _ _ _ _ _ _ r h => by simp [assartlaw04_NodePuts.j0] at h, fun _ _ _ _ _ _ _ r h => by simp [assartlaw04_NodePuts.j1] at h, fun _ _ _ _ _ _ _ _ r h => by simp [assartlaw04_NodePuts.j2] at h, fun _ _ _ _ r h => by simp [assartlaw04_NodePuts.l0] at h⟩
  | k + 1 => by
    obtain ⟨ih0, ih1, ih2, ih3⟩ := assartlaw04_NodePuts.mono_l k
    refine ⟨?_, ?_, ?_, ?_⟩
    · intro y0 y1 y2 y3 y4 y5
      unfold assartlaw04_NodePuts.j0
      repeat' first
      | (with_reducible exact ih0 _ _ _ _ _ _)
      | (with_reducible exact ih1 _ _ _ _ _ _ _)
      | (with_reducible exact ih2 _ _ _ _ _ _ _ _)
      | (with_reducible exact ih3 _ _ _ _)
      | (with_reducible exact assartref04_Right.mono _ _ _)
      | (with_reducible exact node_Split.mono _ _)
      | (with_reducible exact LeO.refl _)
      | (with_reducible exact LeO.none _)
      | (with_reducible refine LeO.ite ?_ ?_)
      | (with_reducible refine LeO.bind ?_ (fun _ => ?_))
      | exact ih0 _ _ _ _ _ _
      | exact ih1 _ _ _ _ _ _ _
      | exact ih2 _ _ _ _ _ _ _ _
      | exact ih3 _ _ _ _
      | exact assartref04_Right.mono _ _ _
      | exact node_Split.mono _ _
      | exact LeO.none _
      | refine LeO.ite ?_ ?_
      | refine LeO.bind ?_ (fun _ => ?_)
    · intro y0 y1 y2 y3 y4 y5 y6
      unfold assartlaw04_NodePuts.j1
      repeat' first
      | (with_reducible exact ih0 _ _ _ _ _ _)
      | (with_reducible exact ih1 _ _ _ _ _ _ _)
      | (with_reducible exact ih2 _ _ _ _ _ _ _ _)
      | (with_reducible exact ih3 _ _ _ _)
      | (with_reducible exact assartref04_Right.mono _ _ _)
      | (with_reducible exact node_Split.mono _ _)
      | (with_reducible exact LeO.refl _)
      | (with_reducible exact LeO.none _)
      | (with_reducible refine LeO.ite ?_ ?_)
      | (with_reducible refine LeO.bind ?_ (fun _ => ?_))
      | exact ih0 _ _ _ _ _ _
      | exact ih1 _ _ _ _ _ _ _
      | exact ih2 _ _ _ _ _ _ _ _
      | exact ih3 _ _ _ _
      | exact assartref04_Right.mono _ _ _
      | exact node_Split.mono _ _
      | exact LeO.none _
      | refine LeO.ite ?_ ?_
      | refine LeO.bind ?_ (fun _ => ?_)
    · intro y0 y1 y2 y3 y4 y5 y6 y7
      unfold assartlaw04_NodePuts.j2
      repeat' first
      | (with_reducible exact ih0 _ _ _ _ _ _)
      | (with_reducible exact ih1 _ _ _ _ _ _ _)
      | (with_reducible exact ih2 _ _ _ _ _ _ _ _)
      | (with_reducible exact ih3 _ _ _ _)
      | (with_reducible exact assartref04_Right.mono _ _ _)
      | (with_reducible exact node_Split.mono _ _)
      | (with_reducible exact LeO.refl _)
      | (with_reducible exact LeO.none _)
      | (with_reducible refine LeO.ite ?_ ?_)
      | (with_reducible refine LeO.bind ?_ (fun _ => ?_))
      | exact ih0 _ _ _ _ _ _
      | exact ih1 _ _ _ _ _ _ _
      | exact ih2 _ _ _ _ _ _ _ _
      | exact ih3 _ _ _ _
      | exact assartref04_Right.mono _ _ _
      | exact node_Split.mono _ _
      | exact LeO.none _
      | refine LeO.ite ?_ ?_
      | refine LeO.bind ?_ (fun _ => ?_)
    · intro y0 y1 y2 y3
      unfold assartlaw04_NodePuts.l0
      repeat' first
      | (with_reducible exact ih0 _ _ _ _ _ _)
      | (with_reducible exact ih1 _ _ _ _ _ _ _)
      | (with_reducible exact ih2 _ _ _ _ _ _ _ _)
      | (with_reducible exact ih3 _ _ _ _)
      | (with_reducible exact assartref04_Right.mono _ _ _)
      | (with_reducible exact node_Split.mono _ _)
      | (with_reducible exact LeO.refl _)
      | (with_reducible exact LeO.none _)
      | (with_reducible refine LeO.ite ?_ ?_)
      | (with_reducible refine LeO.bind ?_ (fun _ => ?_))
      | exact ih0 _ _ _ _ _ _
      | exact ih1 _ _ _ _ _ _ _
      | exact ih2 _ _ _ _ _ _ _ _
      | exact ih3 _ _ _ _
      | exact assartref04_Right.mono _ _ _
      | exact node_Split.mono _ _
      | exact LeO.none _
      | refine LeO.ite ?_ ?_
      | refine LeO.bind ?_ (fun _ => ?_)
theorem assartlaw04_NodePuts.mono : ∀ a0 a1 a2 a3 k, LeO (assartlaw04_NodePuts.f k a0 a1 a2 a3) (assartlaw04_NodePuts.f (k + 1) a0 a1 a2 a3) := by
  intro a0 a1 a2 a3 k
  obtain ⟨ih0, ih1, ih2, ih3⟩ := assartlaw04_NodePuts.mono_l k
  unfold assartlaw04_NodePuts.f
  repeat' first
      | (with_reducible exact ih0 _ _ _ _ _ _)
      | (with_reducible exact ih1 _ _ _ _ _ _ _)
      | (with_reducible exact ih2 _ _ _ _ _ _ _ _)
      | (with_reducible exact ih3 _ _ _ _)
      | (with_reducible exact assartref04_Right.mono _ _ _)
      | (with_reducible exact node_Split.mono _ _)
      | (with_reducible exact LeO.refl _)
      | (with_reducible exact LeO.none _)
      | (with_reducible refine LeO.ite ?_ ?_)
      | (with_reducible refine LeO.bind ?_ (fun _ => ?_))
      | exact ih0 _ _ _ _ _ _
      | exact ih1 _ _ _ _ _ _ _
      | exact ih2 _ _ _ _ _ _ _ _
      | exact ih3 _ _ _ _
      | exact assartref04_Right.mono _ _ _
      | exact node_Split.mono _ _
      | exact LeO.none _
      | refine LeO.ite ?_ ?_
      | refine LeO.bind ?_ (fun _ => ?_)
set_option maxHeartbeats 8000000 in
set_option maxRecDepth 100000 in
theorem assartlaw04_NodePuts.calls (k : Nat) (a0_0 : Bool) (A0_1 : Option Addr) (c0_1 : Nat) (l0_1 : List (S78)) (a1_0 : Int) (a1_1 : Int) (r : Bool) (w : World) (hr0_1 : Kd.C k78 w A0_1 l0_1.length l0_1) (hc0_1 : l0_1.length ≤ c0_1) (h : assartlaw04_NodePuts.f k a0_0 l0_1 a1_0 a1_1 = some r) :
    Calls Try.prog 14 #[.agg #[.bool a0_0, .slice A0_1 l0_1.length c0_1], .agg #[.int .i64 a1_0, .int .i64 a1_1]] w fun e w' => e = .returned (.bool r) ∧ Below w.heap.size w w' := by
  have hu56 := Try.underlying56
  have hu78 := Try.underlying78
  have HR0_1 := Aside0.mk hr0_1
  have HC0_1 := Aside0.mk hc0_1
  clear hr0_1 hc0_1
  have HB := Aside0.mk (Below.refl w.heap.size w)
  have H : ((assartlaw04_shown.f).bind fun t471 => ((assartref04_Right.f k a0_0 l0_1).bind fun t472 => (if t472 = true then (if a0_0 = true then (if a1_0 < 0 then (assartlaw04_NodePuts.j0 k t471 true a0_0 l0_1 a1_0 a1_1) else (if a1_0 > 2147483647 then (assartlaw04_NodePuts.j0 k t471 true a0_0 l0_1 a1_0 a1_1) else (if a1_1 < 0 then (assartlaw04_NodePuts.j0 k t471 true a0_0 l0_1 a1_0 a1_1) else (assartlaw04_NodePuts.j0 k t471 (decide (a1_1 > 2147483647)) a0_0 l0_1 a1_0 a1_1)))) else (assartlaw04_NodePuts.j0 k t471 true a0_0 l0_1 a1_0 a1_1)) else (assartlaw04_NodePuts.j0 k t471 true a0_0 l0_1 a1_0 a1_1)))) = some r := h
  clear h
  replace H := Option.bind_eq_some_iff.mp H
  obtain ⟨t471, A30, H⟩ := H
  replace H : ((assartref04_Right.f k a0_0 l0_1).bind fun t472 => (if t472 = true then (if a0_0 = true then (if a1_0 < 0 then (assartlaw04_NodePuts.j0 k t471 true a0_0 l0_1 a1_0 a1_1) else (if a1_0 > 2147483647 then (assartlaw04_NodePuts.j0 k t471 true a0_0 l0_1 a1_0 a1_1) else (if a1_1 < 0 then (assartlaw04_NodePuts.j0 k t471 true a0_0 l0_1 a1_0 a1_1) else (assartlaw04_NodePuts.j0 k t471 (decide (a1_1 > 2147483647)) a0_0 l0_1 a1_0 a1_1)))) else (assartlaw04_NodePuts.j0 k t471 true a0_0 l0_1 a1_0 a1_1)) else (assartlaw04_NodePuts.j0 k t471 true a0_0 l0_1 a1_0 a1_1))) = some r := H
  have A3 := Aside0.mk A30
  clear A30
  have HC4 := Aside0.mk H
  clear H
  go_enter Try.func14, Try.ntmps14
  go_upto_region 2 with (first | ((with_reducible refine gate_dst (N := 2) rfl ?_); (try (refine gate_guard (by rfl) ?_; dsimp only)); refine box_event ?hg (N := 2) ?hd (cs := #[.bool a0_0, .slice A0_1 l0_1.length c0_1]) (t := 56) ?hr ?_; (case hd => rfl); (case hg => rfl); (case hr => first | (go_simp; done) | (go_simp; rfl)); intro gb469 hg w5 hbox hb; have n0_ := Aside0.mk (below_step (by repeat (first | (with_reducible first | exact HB.out | apply below_alloc | apply pw_below_drewN | apply below_drew1) | exact HB.out)) hb); have n1_ := Aside0.mk (hbox); have n2_ := Aside0.mk ((by rw [hg]; exact (below_size (by repeat (first | (with_reducible first | exact HB.out | apply below_alloc | apply pw_below_drewN | apply below_drew1) | exact HB.out))) : w.heap.size ≤ gb469)); have n3_ := Aside0.mk ((by rw [hg]; exact (below_size (by repeat (first | (with_reducible first | exact HB.out | apply below_alloc | apply pw_below_drewN | apply below_drew1) | exact HB.out))) : w.heap.size ≤ gb469)); clear HB; have HB := n0_; have BK469 := n1_; have GW469 := n2_; have GE469 := n3_; clear n0_ n1_ n2_ n3_; clear hb hbox hg) | ((with_reducible refine gate_dst (N := 3) rfl ?_); (try (refine gate_guard (by rfl) ?_; dsimp only)); refine box_event ?hg (N := 3) ?hd (cs := #[.int .i64 a1_0, .int .i64 a1_1]) (t := 78) ?hr ?_; (case hd => rfl); (case hg => rfl); (case hr => first | (go_simp; done) | (go_simp; rfl)); intro gb470 hg w6 hbox hb; have n0_ := Aside0.mk (blk_below (g := gb469) (o := .cells #[.bool a0_0, .slice A0_1 l0_1.length c0_1] 56 (0, 0)) (by (with_reducible repeat (first | refine blk_drewN ?_ _ | refine blk_drew ?_ | refine blk_alloc ?_ _)); exact BK469.out) hb); have n1_ := Aside0.mk (below_step (by repeat (first | (with_reducible first | exact HB.out | apply below_alloc | apply pw_below_drewN | apply below_drew1 | refine below_set ?_ GE469.out) | exact HB.out)) hb); have n2_ := Aside0.mk (hbox); have n3_ := Aside0.mk ((by rw [hg]; exact (below_size (by repeat (first | (with_reducible first | exact HB.out | apply below_alloc | apply pw_below_drewN | apply below_drew1 | refine below_set ?_ GE469.out) | exact HB.out))) : w.heap.size ≤ gb470)); have n4_ := Aside0.mk ((by rw [hg]; exact (below_size (by repeat (first | (with_reducible first | exact HB.out | apply below_alloc | apply pw_below_drewN | apply below_drew1 | refine below_set ?_ GE469.out) | exact HB.out))) : w.heap.size ≤ gb470)); have n5_ := Aside0.mk ((by rw [hg]; exact Nat.ne_of_lt (blk_lt (g := gb469) (o := .cells #[.bool a0_0, .slice A0_1 l0_1.length c0_1] 56 (0, 0)) (by (with_reducible repeat (first | refine blk_drewN ?_ _ | refine blk_drew ?_ | refine blk_alloc ?_ _)); exact BK469.out)) : gb469 ≠ gb470)); have n6_ := Aside0.mk ((by rw [hg]; exact Nat.ne_of_gt (blk_lt (g := gb469) (o := .cells #[.bool a0_0, .slice A0_1 l0_1.length c0_1] 56 (0, 0)) (by (with_reducible repeat (first | refine blk_drewN ?_ _ | refine blk_drew ?_ | refine blk_alloc ?_ _)); exact BK469.out)) : gb470 ≠ gb469)); clear BK469; clear HB; have BK469 := n0_; have HB := n1_; have BK470 := n2_; have GW470 := n3_; have GE470 := n4_; have NB469_470 := n5_; have NB470_469 := n6_; clear n0_ n1_ n2_ n3_ n4_ n5_ n6_; clear hb hbox hg) | (go_at_call 26; (with_reducible refine (assartlaw04_shown.calls  t471 _ A3.out).mono ?_); rintro e w7 ⟨rfl, hb⟩; have n0_ := Aside0.mk (blk_below (g := gb469) (o := .cells #[.bool a0_0, .slice A0_1 l0_1.length c0_1] 56 (0, 0)) (by (with_reducible repeat (first | refine blk_drewN ?_ _ | refine blk_drew ?_ | refine blk_alloc ?_ _)); exact BK469.out) hb); have n1_ := Aside0.mk (blk_below (g := gb470) (o := .cells #[.int .i64 a1_0, .int .i64 a1_1] 78 (0, 0)) (by (with_reducible repeat (first | refine blk_drewN ?_ _ | refine blk_drew ?_ | refine blk_alloc ?_ _)); exact BK470.out) hb); have n2_ := Aside0.mk (below_step (by repeat (first | (with_reducible first | exact HB.out | apply below_alloc | apply pw_below_drewN | apply below_drew1 | refine below_set ?_ GE469.out | refine below_set ?_ GE470.out) | exact HB.out)) hb); clear BK469; clear BK470; clear HB; have BK469 := n0_; have BK470 := n1_; have HB := n2_; clear n0_ n1_ n2_; (try clear hb); (try clear hb2); (try clear hk); (try clear hi)))
  repeat (go_quiet (first | ((with_reducible refine gate_dst (N := 2) rfl ?_); (try (refine gate_guard (by rfl) ?_; dsimp only)); refine box_event ?hg (N := 2) ?hd (cs := #[.bool a0_0, .slice A0_1 l0_1.length c0_1]) (t := 56) ?hr ?_; (case hd => rfl); (case hg => rfl); (case hr => first | (go_simp; done) | (go_simp; rfl)); intro gb469 hg w5 hbox hb; have n0_ := Aside0.mk (below_step (by repeat (first | (with_reducible first | exact HB.out | apply below_alloc | apply pw_below_drewN | apply below_drew1) | exact HB.out)) hb); have n1_ := Aside0.mk (hbox); have n2_ := Aside0.mk ((by rw [hg]; exact (below_size (by repeat (first | (with_reducible first | exact HB.out | apply below_alloc | apply pw_below_drewN | apply below_drew1) | exact HB.out))) : w.heap.size ≤ gb469)); have n3_ := Aside0.mk ((by rw [hg]; exact (below_size (by repeat (first | (with_reducible first | exact HB.out | apply below_alloc | apply pw_below_drewN | apply below_drew1) | exact HB.out))) : w.heap.size ≤ gb469)); clear HB; have HB := n0_; have BK469 := n1_; have GW469 := n2_; have GE469 := n3_; clear n0_ n1_ n2_ n3_; clear hb hbox hg) | ((with_reducible refine gate_dst (N := 3) rfl ?_); (try (refine gate_guard (by rfl) ?_; dsimp only)); refine box_event ?hg (N := 3) ?hd (cs := #[.int .i64 a1_0, .int .i64 a1_1]) (t := 78) ?hr ?_; (case hd => rfl); (case hg => rfl); (case hr => first | (go_simp; done) | (go_simp; rfl)); intro gb470 hg w6 hbox hb; have n0_ := Aside0.mk (blk_below (g := gb469) (o := .cells #[.bool a0_0, .slice A0_1 l0_1.length c0_1] 56 (0, 0)) (by (with_reducible repeat (first | refine blk_drewN ?_ _ | refine blk_drew ?_ | refine blk_alloc ?_ _)); exact BK469.out) hb); have n1_ := Aside0.mk (below_step (by repeat (first | (with_reducible first | exact HB.out | apply below_alloc | apply pw_below_drewN | apply below_drew1 | refine below_set ?_ GE469.out) | exact HB.out)) hb); have n2_ := Aside0.mk (hbox); have n3_ := Aside0.mk ((by rw [hg]; exact (below_size (by repeat (first | (with_reducible first | exact HB.out | apply below_alloc | apply pw_below_drewN | apply below_drew1 | refine below_set ?_ GE469.out) | exact HB.out))) : w.heap.size ≤ gb470)); have n4_ := Aside0.mk ((by rw [hg]; exact (below_size (by repeat (first | (with_reducible first | exact HB.out | apply below_alloc | apply pw_below_drewN | apply below_drew1 | refine below_set ?_ GE469.out) | exact HB.out))) : w.heap.size ≤ gb470)); have n5_ := Aside0.mk ((by rw [hg]; exact Nat.ne_of_lt (blk_lt (g := gb469) (o := .cells #[.bool a0_0, .slice A0_1 l0_1.length c0_1] 56 (0, 0)) (by (with_reducible repeat (first | refine blk_drewN ?_ _ | refine blk_drew ?_ | refine blk_alloc ?_ _)); exact BK469.out)) : gb469 ≠ gb470)); have n6_ := Aside0.mk ((by rw [hg]; exact Nat.ne_of_gt (blk_lt (g := gb469) (o := .cells #[.bool a0_0, .slice A0_1 l0_1.length c0_1] 56 (0, 0)) (by (with_reducible repeat (first | refine blk_drewN ?_ _ | refine blk_drew ?_ | refine blk_alloc ?_ _)); exact BK469.out)) : gb470 ≠ gb469)); clear BK469; clear HB; have BK469 := n0_; have HB := n1_; have BK470 := n2_; have GW470 := n3_; have GE470 := n4_; have NB469_470 := n5_; have NB470_469 := n6_; clear n0_ n1_ n2_ n3_ n4_ n5_ n6_; clear hb hbox hg) | (go_at_call 26; (with_reducible refine (assartlaw04_shown.calls  t471 _ A3.out).mono ?_); rintro e w7 ⟨rfl, hb⟩; have n0_ := Aside0.mk (blk_below (g := gb469) (o := .cells #[.bool a0_0, .slice A0_1 l0_1.length c0_1] 56 (0, 0)) (by (with_reducible repeat (first | refine blk_drewN ?_ _ | refine blk_drew ?_ | refine blk_alloc ?_ _)); exact BK469.out) hb); have n1_ := Aside0.mk (blk_below (g := gb470) (o := .cells #[.int .i64 a1_0, .int .i64 a1_1] 78 (0, 0)) (by (with_reducible repeat (first | refine blk_drewN ?_ _ | refine blk_drew ?_ | refine blk_alloc ?_ _)); exact BK470.out) hb); have n2_ := Aside0.mk (below_step (by repeat (first | (with_reducible first | exact HB.out | apply below_alloc | apply pw_below_drewN | apply below_drew1 | refine below_set ?_ GE469.out | refine below_set ?_ GE470.out) | exact HB.out)) hb); clear BK469; clear BK470; clear HB; have BK469 := n0_; have BK470 := n1_; have HB := n2_; clear n0_ n1_ n2_; (try clear hb); (try clear hb2); (try clear hk); (try clear hi))); go_upto_region 2 with (first | ((with_reducible refine gate_dst (N := 2) rfl ?_); (try (refine gate_guard (by rfl) ?_; dsimp only)); refine box_event ?hg (N := 2) ?hd (cs := #[.bool a0_0, .slice A0_1 l0_1.length c0_1]) (t := 56) ?hr ?_; (case hd => rfl); (case hg => rfl); (case hr => first | (go_simp; done) | (go_simp; rfl)); intro gb469 hg w5 hbox hb; have n0_ := Aside0.mk (below_step (by repeat (first | (with_reducible first | exact HB.out | apply below_alloc | apply pw_below_drewN | apply below_drew1) | exact HB.out)) hb); have n1_ := Aside0.mk (hbox); have n2_ := Aside0.mk ((by rw [hg]; exact (below_size (by repeat (first | (with_reducible first | exact HB.out | apply below_alloc | apply pw_below_drewN | apply below_drew1) | exact HB.out))) : w.heap.size ≤ gb469)); have n3_ := Aside0.mk ((by rw [hg]; exact (below_size (by repeat (first | (with_reducible first | exact HB.out | apply below_alloc | apply pw_below_drewN | apply below_drew1) | exact HB.out))) : w.heap.size ≤ gb469)); clear HB; have HB := n0_; have BK469 := n1_; have GW469 := n2_; have GE469 := n3_; clear n0_ n1_ n2_ n3_; clear hb hbox hg) | ((with_reducible refine gate_dst (N := 3) rfl ?_); (try (refine gate_guard (by rfl) ?_; dsimp only)); refine box_event ?hg (N := 3) ?hd (cs := #[.int .i64 a1_0, .int .i64 a1_1]) (t := 78) ?hr ?_; (case hd => rfl); (case hg => rfl); (case hr => first | (go_simp; done) | (go_simp; rfl)); intro gb470 hg w6 hbox hb; have n0_ := Aside0.mk (blk_below (g := gb469) (o := .cells #[.bool a0_0, .slice A0_1 l0_1.length c0_1] 56 (0, 0)) (by (with_reducible repeat (first | refine blk_drewN ?_ _ | refine blk_drew ?_ | refine blk_alloc ?_ _)); exact BK469.out) hb); have n1_ := Aside0.mk (below_step (by repeat (first | (with_reducible first | exact HB.out | apply below_alloc | apply pw_below_drewN | apply below_drew1 | refine below_set ?_ GE469.out) | exact HB.out)) hb); have n2_ := Aside0.mk (hbox); have n3_ := Aside0.mk ((by rw [hg]; exact (below_size (by repeat (first | (with_reducible first | exact HB.out | apply below_alloc | apply pw_below_drewN | apply below_drew1 | refine below_set ?_ GE469.out) | exact HB.out))) : w.heap.size ≤ gb470)); have n4_ := Aside0.mk ((by rw [hg]; exact (below_size (by repeat (first | (with_reducible first | exact HB.out | apply below_alloc | apply pw_below_drewN | apply below_drew1 | refine below_set ?_ GE469.out) | exact HB.out))) : w.heap.size ≤ gb470)); have n5_ := Aside0.mk ((by rw [hg]; exact Nat.ne_of_lt (blk_lt (g := gb469) (o := .cells #[.bool a0_0, .slice A0_1 l0_1.length c0_1] 56 (0, 0)) (by (with_reducible repeat (first | refine blk_drewN ?_ _ | refine blk_drew ?_ | refine blk_alloc ?_ _)); exact BK469.out)) : gb469 ≠ gb470)); have n6_ := Aside0.mk ((by rw [hg]; exact Nat.ne_of_gt (blk_lt (g := gb469) (o := .cells #[.bool a0_0, .slice A0_1 l0_1.length c0_1] 56 (0, 0)) (by (with_reducible repeat (first | refine blk_drewN ?_ _ | refine blk_drew ?_ | refine blk_alloc ?_ _)); exact BK469.out)) : gb470 ≠ gb469)); clear BK469; clear HB; have BK469 := n0_; have HB := n1_; have BK470 := n2_; have GW470 := n3_; have GE470 := n4_; have NB469_470 := n5_; have NB470_469 := n6_; clear n0_ n1_ n2_ n3_ n4_ n5_ n6_; clear hb hbox hg) | (go_at_call 26; (with_reducible refine (assartlaw04_shown.calls  t471 _ A3.out).mono ?_); rintro e w7 ⟨rfl, hb⟩; have n0_ := Aside0.mk (blk_below (g := gb469) (o := .cells #[.bool a0_0, .slice A0_1 l0_1.length c0_1] 56 (0, 0)) (by (with_reducible repeat (first | refine blk_drewN ?_ _ | refine blk_drew ?_ | refine blk_alloc ?_ _)); exact BK469.out) hb); have n1_ := Aside0.mk (blk_below (g := gb470) (o := .cells #[.int .i64 a1_0, .int .i64 a1_1] 78 (0, 0)) (by (with_reducible repeat (first | refine blk_drewN ?_ _ | refine blk_drew ?_ | refine blk_alloc ?_ _)); exact BK470.out) hb); have n2_ := Aside0.mk (below_step (by repeat (first | (with_reducible first | exact HB.out | apply below_alloc | apply pw_below_drewN | apply below_drew1 | refine below_set ?_ GE469.out | refine below_set ?_ GE470.out) | exact HB.out)) hb); clear BK469; clear BK470; clear HB; have BK469 := n0_; have BK470 := n1_; have HB := n2_; clear n0_ n1_ n2_; (try clear hb); (try clear hb2); (try clear hk); (try clear hi))))
  (try simp only [Act.put, List.setIfInBounds_toArray, List.set_cons_zero, List.set_cons_succ])
  go_cut [41] (fun v41 wc => ∃ (kq : Nat) (x41_3 : Bool), v41 = .bool x41_3 ∧ Aside0 (assartlaw04_NodePuts.j0 kq t471 x41_3 a0_0 l0_1 a1_0 a1_1 = some r) ∧ Aside0 (kq ≤ k) ∧ Aside0 (wc.heap[gb469]? = some (.cells #[.bool a0_0, (.slice A0_1 l0_1.length c0_1)] 56 (0, 0))) ∧ Aside0 (wc.heap[gb470]? = some (.cells #[.int .i64 a1_0, .int .i64 a1_1] 78 (0, 0))) ∧ Aside0 (Below w.heap.size w wc))
  case first =>
    have H := HC4.out
    clear HC4
    replace H := Option.bind_eq_some_iff.mp H
    obtain ⟨t472, A80, H⟩ := H
    replace H : (if t472 = true then (if a0_0 = true then (if a1_0 < 0 then (assartlaw04_NodePuts.j0 k t471 true a0_0 l0_1 a1_0 a1_1) else (if a1_0 > 2147483647 then (assartlaw04_NodePuts.j0 k t471 true a0_0 l0_1 a1_0 a1_1) else (if a1_1 < 0 then (assartlaw04_NodePuts.j0 k t471 true a0_0 l0_1 a1_0 a1_1) else (assartlaw04_NodePuts.j0 k t471 (decide (a1_1 > 2147483647)) a0_0 l0_1 a1_0 a1_1)))) else (assartlaw04_NodePuts.j0 k t471 true a0_0 l0_1 a1_0 a1_1)) else (assartlaw04_NodePuts.j0 k t471 true a0_0 l0_1 a1_0 a1_1)) = some r := H
    have A8 := Aside0.mk A80
    clear A80
    by_cases c9 : t472 = true
    · subst c9
      have H1 : (if a0_0 = true then (if a1_0 < 0 then (assartlaw04_NodePuts.j0 k t471 true a0_0 l0_1 a1_0 a1_1) else (if a1_0 > 2147483647 then (assartlaw04_NodePuts.j0 k t471 true a0_0 l0_1 a1_0 a1_1) else (if a1_1 < 0 then (assartlaw04_NodePuts.j0 k t471 true a0_0 l0_1 a1_0 a1_1) else (assartlaw04_NodePuts.j0 k t471 (decide (a1_1 > 2147483647)) a0_0 l0_1 a1_0 a1_1)))) else (assartlaw04_NodePuts.j0 k t471 true a0_0 l0_1 a1_0 a1_1)) = some r := by rw [if_pos rfl] at H; exact H
      clear H
      have H := H1
      clear H1
      by_cases c10 : a0_0 = true
      · subst c10
        have H1 : (if a1_0 < 0 then (assartlaw04_NodePuts.j0 k t471 true true l0_1 a1_0 a1_1) else (if a1_0 > 2147483647 then (assartlaw04_NodePuts.j0 k t471 true true l0_1 a1_0 a1_1) else (if a1_1 < 0 then (assartlaw04_NodePuts.j0 k t471 true true l0_1 a1_0 a1_1) else (assartlaw04_NodePuts.j0 k t471 (decide (a1_1 > 2147483647)) true l0_1 a1_0 a1_1)))) = some r := by rw [if_pos rfl] at H; exact H
        clear H
        have H := H1
        clear H1
        by_cases c11 : a1_0 < 0
        · rw [if_pos c11] at H
          have c11b0 : decide (a1_0 < 0) = true := decide_eq_true c11
          clear c11
          (first | rw [c11b0] | (simp only [i64_w, i32_w]; rw [c11b0]) | skip)
          have H' := Aside0.mk H
          clear H
          have hnb12 := NB469_470.out
          have hnc12 := NB470_469.out
          have hcz13_0 : w7.cell? ⟨gb469, 0, none⟩ = some (.bool true) := (blk_cell BK469.out 0).trans rfl
          have hcz13_1 : w7.cell? ⟨gb469, 1, none⟩ = some (.slice A0_1 l0_1.length c0_1) := (blk_cell BK469.out 1).trans rfl
          have hfz13_0 := blk_frozen BK469.out 0
          have hfz13_1 := blk_frozen BK469.out 1
          go_wp2_with (first | (go_at_call 31; (with_reducible refine (assartref04_Right.calls k true _ _ l0_1 true _ ?side1 ?side2 A8.out).mono ?_); (case side1 => repeat (first | exact (Kd.C_below HR0_1.out HB.out) | (with_reducible refine Kd.C_alloc ?_ _) | (with_reducible refine Kd.C_drewN ?_ _) | (with_reducible refine Kd.C_drew ?_))); (case side2 => exact HC0_1.out); rintro e w14 ⟨rfl, hb⟩; have n0_ := Aside0.mk (blk_below (g := gb469) (o := .cells #[.bool true, .slice A0_1 l0_1.length c0_1] 56 (0, 0)) (by (with_reducible repeat (first | refine blk_drewN ?_ _ | refine blk_drew ?_ | refine blk_alloc ?_ _)); exact BK469.out) hb); have n1_ := Aside0.mk (blk_below (g := gb470) (o := .cells #[.int .i64 a1_0, .int .i64 a1_1] 78 (0, 0)) (by (with_reducible repeat (first | refine blk_drewN ?_ _ | refine blk_drew ?_ | refine blk_alloc ?_ _)); exact BK470.out) hb); have n2_ := Aside0.mk (below_step (by repeat (first | (with_reducible first | exact HB.out | apply below_alloc | apply pw_below_drewN | apply below_drew1 | refine below_set ?_ GE469.out | refine below_set ?_ GE470.out) | exact HB.out)) hb); clear BK469; clear BK470; clear HB; have BK469 := n0_; have BK470 := n1_; have HB := n2_; clear n0_ n1_ n2_; (try clear hb); (try clear hb2); (try clear hk); (try clear hi); have hcz15_0 : w14.cell? ⟨gb469, 0, none⟩ = some (.bool true) := (blk_cell BK469.out 0).trans rfl; have hcz15_1 : w14.cell? ⟨gb469, 1, none⟩ = some (.slice A0_1 l0_1.length c0_1) := (blk_cell BK469.out 1).trans rfl; have hfz15_0 := blk_frozen BK469.out 0; have hfz15_1 := blk_frozen BK469.out 1; have hcz16_0 : w14.cell? ⟨gb470, 0, none⟩ = some (.int .i64 a1_0) := (blk_cell BK470.out 0).trans rfl; have hcz16_1 : w14.cell? ⟨gb470, 1, none⟩ = some (.int .i64 a1_1) := (blk_cell BK470.out 1).trans rfl; have hfz16_0 := blk_frozen BK470.out 0; have hfz16_1 := blk_frozen BK470.out 1))
          repeat (go_quiet (first | (go_at_call 31; (with_reducible refine (assartref04_Right.calls k true _ _ l0_1 true _ ?side1 ?side2 A8.out).mono ?_); (case side1 => repeat (first | exact (Kd.C_below HR0_1.out HB.out) | (with_reducible refine Kd.C_alloc ?_ _) | (with_reducible refine Kd.C_drewN ?_ _) | (with_reducible refine Kd.C_drew ?_))); (case side2 => exact HC0_1.out); rintro e w14 ⟨rfl, hb⟩; have n0_ := Aside0.mk (blk_below (g := gb469) (o := .cells #[.bool true, .slice A0_1 l0_1.length c0_1] 56 (0, 0)) (by (with_reducible repeat (first | refine blk_drewN ?_ _ | refine blk_drew ?_ | refine blk_alloc ?_ _)); exact BK469.out) hb); have n1_ := Aside0.mk (blk_below (g := gb470) (o := .cells #[.int .i64 a1_0, .int .i64 a1_1] 78 (0, 0)) (by (with_reducible repeat (first | refine blk_drewN ?_ _ | refine blk_drew ?_ | refine blk_alloc ?_ _)); exact BK470.out) hb); have n2_ := Aside0.mk (below_step (by repeat (first | (with_reducible first | exact HB.out | apply below_alloc | apply pw_below_drewN | apply below_drew1 | refine below_set ?_ GE469.out | refine below_set ?_ GE470.out) | exact HB.out)) hb); clear BK469; clear BK470; clear HB; have BK469 := n0_; have BK470 := n1_; have HB := n2_; clear n0_ n1_ n2_; (try clear hb); (try clear hb2); (try clear hk); (try clear hi); have hcz15_0 : w14.cell? ⟨gb469, 0, none⟩ = some (.bool true) := (blk_cell BK469.out 0).trans rfl; have hcz15_1 : w14.cell? ⟨gb469, 1, none⟩ = some (.slice A0_1 l0_1.length c0_1) := (blk_cell BK469.out 1).trans rfl; have hfz15_0 := blk_frozen BK469.out 0; have hfz15_1 := blk_frozen BK469.out 1; have hcz16_0 : w14.cell? ⟨gb470, 0, none⟩ = some (.int .i64 a1_0) := (blk_cell BK470.out 0).trans rfl; have hcz16_1 : w14.cell? ⟨gb470, 1, none⟩ = some (.int .i64 a1_1) := (blk_cell BK470.out 1).trans rfl; have hfz16_0 := blk_frozen BK470.out 0; have hfz16_1 := blk_frozen BK470.out 1)); try go_wp2_with (first | (go_at_call 31; (with_reducible refine (assartref04_Right.calls k true _ _ l0_1 true _ ?side1 ?side2 A8.out).mono ?_); (case side1 => repeat (first | exact (Kd.C_below HR0_1.out HB.out) | (with_reducible refine Kd.C_alloc ?_ _) | (with_reducible refine Kd.C_drewN ?_ _) | (with_reducible refine Kd.C_drew ?_))); (case side2 => exact HC0_1.out); rintro e w14 ⟨rfl, hb⟩; have n0_ := Aside0.mk (blk_below (g := gb469) (o := .cells #[.bool true, .slice A0_1 l0_1.length c0_1] 56 (0, 0)) (by (with_reducible repeat (first | refine blk_drewN ?_ _ | refine blk_drew ?_ | refine blk_alloc ?_ _)); exact BK469.out) hb); have n1_ := Aside0.mk (blk_below (g := gb470) (o := .cells #[.int .i64 a1_0, .int .i64 a1_1] 78 (0, 0)) (by (with_reducible repeat (first | refine blk_drewN ?_ _ | refine blk_drew ?_ | refine blk_alloc ?_ _)); exact BK470.out) hb); have n2_ := Aside0.mk (below_step (by repeat (first | (with_reducible first | exact HB.out | apply below_alloc | apply pw_below_drewN | apply below_drew1 | refine below_set ?_ GE469.out | refine below_set ?_ GE470.out) | exact HB.out)) hb); clear BK469; clear BK470; clear HB; have BK469 := n0_; have BK470 := n1_; have HB := n2_; clear n0_ n1_ n2_; (try clear hb); (try clear hb2); (try clear hk); (try clear hi); have hcz15_0 : w14.cell? ⟨gb469, 0, none⟩ = some (.bool true) := (blk_cell BK469.out 0).trans rfl; have hcz15_1 : w14.cell? ⟨gb469, 1, none⟩ = some (.slice A0_1 l0_1.length c0_1) := (blk_cell BK469.out 1).trans rfl; have hfz15_0 := blk_frozen BK469.out 0; have hfz15_1 := blk_frozen BK469.out 1; have hcz16_0 : w14.cell? ⟨gb470, 0, none⟩ = some (.int .i64 a1_0) := (blk_cell BK470.out 0).trans rfl; have hcz16_1 : w14.cell? ⟨gb470, 1, none⟩ = some (.int .i64 a1_1) := (blk_cell BK470.out 1).trans rfl; have hfz16_0 := blk_frozen BK470.out 0; have hfz16_1 := blk_frozen BK470.out 1)))
          go_meet
          case rel => exact ⟨_, (true), (by first | rfl | (simp; done) | (simp [*]; done)), H', ⟨by first | omega | exact Nat.le_refl _⟩, ⟨by (with_reducible repeat (first | refine blk_drewN ?_ _ | refine blk_drew ?_ | refine blk_alloc ?_ _)); exact BK469.out⟩, ⟨by (with_reducible repeat (first | refine blk_drewN ?_ _ | refine blk_drew ?_ | refine blk_alloc ?_ _)); exact BK470.out⟩, ⟨by repeat (first | (with_reducible first | exact HB.out | apply below_alloc | apply pw_below_drewN | apply below_drew1 | refine below_set ?_ GE469.out | refine below_set ?_ GE470.out) | exact HB.out)⟩⟩
        · rw [if_neg c11] at H
          have c11b0 : decide (a1_0 < 0) = false := decide_eq_false c11
          clear c11
          (first | rw [c11b0] | (simp only [i64_w, i32_w]; rw [c11b0]) | skip)
          by_cases c17 : a1_0 > 2147483647
          · rw [if_pos c17] at H
            have c17b0 : decide (2147483647 < a1_0) = true := decide_eq_true c17
            clear c17
            have H' := Aside0.mk H
            clear H
            have hnb18 := NB469_470.out
            have hnc18 := NB470_469.out
            have hcz19_0 : w7.cell? ⟨gb469, 0, none⟩ = some (.bool true) := (blk_cell BK469.out 0).trans rfl
            have hcz19_1 : w7.cell? ⟨gb469, 1, none⟩ = some (.slice A0_1 l0_1.length c0_1) := (blk_cell BK469.out 1).trans rfl
            have hfz19_0 := blk_frozen BK469.out 0
            have hfz19_1 := blk_frozen BK469.out 1
            go_wp2_with (first | (go_at_call 31; (with_reducible refine (assartref04_Right.calls k true _ _ l0_1 true _ ?side1 ?side2 A8.out).mono ?_); (case side1 => repeat (first | exact (Kd.C_below HR0_1.out HB.out) | (with_reducible refine Kd.C_alloc ?_ _) | (with_reducible refine Kd.C_drewN ?_ _) | (with_reducible refine Kd.C_drew ?_))); (case side2 => exact HC0_1.out); rintro e w20 ⟨rfl, hb⟩; have n0_ := Aside0.mk (blk_below (g := gb469) (o := .cells #[.bool true, .slice A0_1 l0_1.length c0_1] 56 (0, 0)) (by (with_reducible repeat (first | refine blk_drewN ?_ _ | refine blk_drew ?_ | refine blk_alloc ?_ _)); exact BK469.out) hb); have n1_ := Aside0.mk (blk_below (g := gb470) (o := .cells #[.int .i64 a1_0, .int .i64 a1_1] 78 (0, 0)) (by (with_reducible repeat (first | refine blk_drewN ?_ _ | refine blk_drew ?_ | refine blk_alloc ?_ _)); exact BK470.out) hb); have n2_ := Aside0.mk (below_step (by repeat (first | (with_reducible first | exact HB.out | apply below_alloc | apply pw_below_drewN | apply below_drew1 | refine below_set ?_ GE469.out | refine below_set ?_ GE470.out) | exact HB.out)) hb); clear BK469; clear BK470; clear HB; have BK469 := n0_; have BK470 := n1_; have HB := n2_; clear n0_ n1_ n2_; (try clear hb); (try clear hb2); (try clear hk); (try clear hi); have hcz21_0 : w20.cell? ⟨gb469, 0, none⟩ = some (.bool true) := (blk_cell BK469.out 0).trans rfl; have hcz21_1 : w20.cell? ⟨gb469, 1, none⟩ = some (.slice A0_1 l0_1.length c0_1) := (blk_cell BK469.out 1).trans rfl; have hfz21_0 := blk_frozen BK469.out 0; have hfz21_1 := blk_frozen BK469.out 1; have hcz22_0 : w20.cell? ⟨gb470, 0, none⟩ = some (.int .i64 a1_0) := (blk_cell BK470.out 0).trans rfl; have hcz22_1 : w20.cell? ⟨gb470, 1, none⟩ = some (.int .i64 a1_1) := (blk_cell BK470.out 1).trans rfl; have hfz22_0 := blk_frozen BK470.out 0; have hfz22_1 := blk_frozen BK470.out 1))
            repeat (go_quiet (first | (go_at_call 31; (with_reducible refine (assartref04_Right.calls k true _ _ l0_1 true _ ?side1 ?side2 A8.out).mono ?_); (case side1 => repeat (first | exact (Kd.C_below HR0_1.out HB.out) | (with_reducible refine Kd.C_alloc ?_ _) | (with_reducible refine Kd.C_drewN ?_ _) | (with_reducible refine Kd.C_drew ?_))); (case side2 => exact HC0_1.out); rintro e w20 ⟨rfl, hb⟩; have n0_ := Aside0.mk (blk_below (g := gb469) (o := .cells #[.bool true, .slice A0_1 l0_1.length c0_1] 56 (0, 0)) (by (with_reducible repeat (first | refine blk_drewN ?_ _ | refine blk_drew ?_ | refine blk_alloc ?_ _)); exact BK469.out) hb); have n1_ := Aside0.mk (blk_below (g := gb470) (o := .cells #[.int .i64 a1_0, .int .i64 a1_1] 78 (0, 0)) (by (with_reducible repeat (first | refine blk_drewN ?_ _ | refine blk_drew ?_ | refine blk_alloc ?_ _)); exact BK470.out) hb); have n2_ := Aside0.mk (below_step (by repeat (first | (with_reducible first | exact HB.out | apply below_alloc | apply pw_below_drewN | apply below_drew1 | refine below_set ?_ GE469.out | refine below_set ?_ GE470.out) | exact HB.out)) hb); clear BK469; clear BK470; clear HB; have BK469 := n0_; have BK470 := n1_; have HB := n2_; clear n0_ n1_ n2_; (try clear hb); (try clear hb2); (try clear hk); (try clear hi); have hcz21_0 : w20.cell? ⟨gb469, 0, none⟩ = some (.bool true) := (blk_cell BK469.out 0).trans rfl; have hcz21_1 : w20.cell? ⟨gb469, 1, none⟩ = some (.slice A0_1 l0_1.length c0_1) := (blk_cell BK469.out 1).trans rfl; have hfz21_0 := blk_frozen BK469.out 0; have hfz21_1 := blk_frozen BK469.out 1; have hcz22_0 : w20.cell? ⟨gb470, 0, none⟩ = some (.int .i64 a1_0) := (blk_cell BK470.out 0).trans rfl; have hcz22_1 : w20.cell? ⟨gb470, 1, none⟩ = some (.int .i64 a1_1) := (blk_cell BK470.out 1).trans rfl; have hfz22_0 := blk_frozen BK470.out 0; have hfz22_1 := blk_frozen BK470.out 1)); try go_wp2_with (first | (go_at_call 31; (with_reducible refine (assartref04_Right.calls k true _ _ l0_1 true _ ?side1 ?side2 A8.out).mono ?_); (case side1 => repeat (first | exact (Kd.C_below HR0_1.out HB.out) | (with_reducible refine Kd.C_alloc ?_ _) | (with_reducible refine Kd.C_drewN ?_ _) | (with_reducible refine Kd.C_drew ?_))); (case side2 => exact HC0_1.out); rintro e w20 ⟨rfl, hb⟩; have n0_ := Aside0.mk (blk_below (g := gb469) (o := .cells #[.bool true, .slice A0_1 l0_1.length c0_1] 56 (0, 0)) (by (with_reducible repeat (first | refine blk_drewN ?_ _ | refine blk_drew ?_ | refine blk_alloc ?_ _)); exact BK469.out) hb); have n1_ := Aside0.mk (blk_below (g := gb470) (o := .cells #[.int .i64 a1_0, .int .i64 a1_1] 78 (0, 0)) (by (with_reducible repeat (first | refine blk_drewN ?_ _ | refine blk_drew ?_ | refine blk_alloc ?_ _)); exact BK470.out) hb); have n2_ := Aside0.mk (below_step (by repeat (first | (with_reducible first | exact HB.out | apply below_alloc | apply pw_below_drewN | apply below_drew1 | refine below_set ?_ GE469.out | refine below_set ?_ GE470.out) | exact HB.out)) hb); clear BK469; clear BK470; clear HB; have BK469 := n0_; have BK470 := n1_; have HB := n2_; clear n0_ n1_ n2_; (try clear hb); (try clear hb2); (try clear hk); (try clear hi); have hcz21_0 : w20.cell? ⟨gb469, 0, none⟩ = some (.bool true) := (blk_cell BK469.out 0).trans rfl; have hcz21_1 : w20.cell? ⟨gb469, 1, none⟩ = some (.slice A0_1 l0_1.length c0_1) := (blk_cell BK469.out 1).trans rfl; have hfz21_0 := blk_frozen BK469.out 0; have hfz21_1 := blk_frozen BK469.out 1; have hcz22_0 : w20.cell? ⟨gb470, 0, none⟩ = some (.int .i64 a1_0) := (blk_cell BK470.out 0).trans rfl; have hcz22_1 : w20.cell? ⟨gb470, 1, none⟩ = some (.int .i64 a1_1) := (blk_cell BK470.out 1).trans rfl; have hfz22_0 := blk_frozen BK470.out 0; have hfz22_1 := blk_frozen BK470.out 1)))
            go_meet
            case rel => exact ⟨_, (true), (by first | rfl | (simp; done) | (simp [*]; done)), H', ⟨by first | omega | exact Nat.le_refl _⟩, ⟨by (with_reducible repeat (first | refine blk_drewN ?_ _ | refine blk_drew ?_ | refine blk_alloc ?_ _)); exact BK469.out⟩, ⟨by (with_reducible repeat (first | refine blk_drewN ?_ _ | refine blk_drew ?_ | refine blk_alloc ?_ _)); exact BK470.out⟩, ⟨by repeat (first | (with_reducible first | exact HB.out | apply below_alloc | apply pw_below_drewN | apply below_drew1 | refine below_set ?_ GE469.out | refine below_set ?_ GE470.out) | exact HB.out)⟩⟩
          · rw [if_neg c17] at H
            have c17b0 : decide (2147483647 < a1_0) = false := decide_eq_false c17
            clear c17
            by_cases c23 : a1_1 < 0
            · rw [if_pos c23] at H
              have c23b0 : decide (a1_1 < 0) = true := decide_eq_true c23
              clear c23
              have H' := Aside0.mk H
              clear H
              have hnb24 := NB469_470.out
              have hnc24 := NB470_469.out
              have hcz25_0 : w7.cell? ⟨gb469, 0, none⟩ = some (.bool true) := (blk_cell BK469.out 0).trans rfl
              have hcz25_1 : w7.cell? ⟨gb469, 1, none⟩ = some (.slice A0_1 l0_1.length c0_1) := (blk_cell BK469.out 1).trans rfl
              have hfz25_0 := blk_frozen BK469.out 0
              have hfz25_1 := blk_frozen BK469.out 1
              go_wp2_with (first | (go_at_call 31; (with_reducible refine (assartref04_Right.calls k true _ _ l0_1 true _ ?side1 ?side2 A8.out).mono ?_); (case side1 => repeat (first | exact (Kd.C_below HR0_1.out HB.out) | (with_reducible refine Kd.C_alloc ?_ _) | (with_reducible refine Kd.C_drewN ?_ _) | (with_reducible refine Kd.C_drew ?_))); (case side2 => exact HC0_1.out); rintro e w26 ⟨rfl, hb⟩; have n0_ := Aside0.mk (blk_below (g := gb469) (o := .cells #[.bool true, .slice A0_1 l0_1.length c0_1] 56 (0, 0)) (by (with_reducible repeat (first | refine blk_drewN ?_ _ | refine blk_drew ?_ | refine blk_alloc ?_ _)); exact BK469.out) hb); have n1_ := Aside0.mk (blk_below (g := gb470) (o := .cells #[.int .i64 a1_0, .int .i64 a1_1] 78 (0, 0)) (by (with_reducible repeat (first | refine blk_drewN ?_ _ | refine blk_drew ?_ | refine blk_alloc ?_ _)); exact BK470.out) hb); have n2_ := Aside0.mk (below_step (by repeat (first | (with_reducible first | exact HB.out | apply below_alloc | apply pw_below_drewN | apply below_drew1 | refine below_set ?_ GE469.out | refine below_set ?_ GE470.out) | exact HB.out)) hb); clear BK469; clear BK470; clear HB; have BK469 := n0_; have BK470 := n1_; have HB := n2_; clear n0_ n1_ n2_; (try clear hb); (try clear hb2); (try clear hk); (try clear hi); have hcz27_0 : w26.cell? ⟨gb469, 0, none⟩ = some (.bool true) := (blk_cell BK469.out 0).trans rfl; have hcz27_1 : w26.cell? ⟨gb469, 1, none⟩ = some (.slice A0_1 l0_1.length c0_1) := (blk_cell BK469.out 1).trans rfl; have hfz27_0 := blk_frozen BK469.out 0; have hfz27_1 := blk_frozen BK469.out 1; have hcz28_0 : w26.cell? ⟨gb470, 0, none⟩ = some (.int .i64 a1_0) := (blk_cell BK470.out 0).trans rfl; have hcz28_1 : w26.cell? ⟨gb470, 1, none⟩ = some (.int .i64 a1_1) := (blk_cell BK470.out 1).trans rfl; have hfz28_0 := blk_frozen BK470.out 0; have hfz28_1 := blk_frozen BK470.out 1))
              repeat (go_quiet (first | (go_at_call 31; (with_reducible refine (assartref04_Right.calls k true _ _ l0_1 true _ ?side1 ?side2 A8.out).mono ?_); (case side1 => repeat (first | exact (Kd.C_below HR0_1.out HB.out) | (with_reducible refine Kd.C_alloc ?_ _) | (with_reducible refine Kd.C_drewN ?_ _) | (with_reducible refine Kd.C_drew ?_))); (case side2 => exact HC0_1.out); rintro e w26 ⟨rfl, hb⟩; have n0_ := Aside0.mk (blk_below (g := gb469) (o := .cells #[.bool true, .slice A0_1 l0_1.length c0_1] 56 (0, 0)) (by (with_reducible repeat (first | refine blk_drewN ?_ _ | refine blk_drew ?_ | refine blk_alloc ?_ _)); exact BK469.out) hb); have n1_ := Aside0.mk (blk_below (g := gb470) (o := .cells #[.int .i64 a1_0, .int .i64 a1_1] 78 (0, 0)) (by (with_reducible repeat (first | refine blk_drewN ?_ _ | refine blk_drew ?_ | refine blk_alloc ?_ _)); exact BK470.out) hb); have n2_ := Aside0.mk (below_step (by repeat (first | (with_reducible first | exact HB.out | apply below_alloc | apply pw_below_drewN | apply below_drew1 | refine below_set ?_ GE469.out | refine below_set ?_ GE470.out) | exact HB.out)) hb); clear BK469; clear BK470; clear HB; have BK469 := n0_; have BK470 := n1_; have HB := n2_; clear n0_ n1_ n2_; (try clear hb); (try clear hb2); (try clear hk); (try clear hi); have hcz27_0 : w26.cell? ⟨gb469, 0, none⟩ = some (.bool true) := (blk_cell BK469.out 0).trans rfl; have hcz27_1 : w26.cell? ⟨gb469, 1, none⟩ = some (.slice A0_1 l0_1.length c0_1) := (blk_cell BK469.out 1).trans rfl; have hfz27_0 := blk_frozen BK469.out 0; have hfz27_1 := blk_frozen BK469.out 1; have hcz28_0 : w26.cell? ⟨gb470, 0, none⟩ = some (.int .i64 a1_0) := (blk_cell BK470.out 0).trans rfl; have hcz28_1 : w26.cell? ⟨gb470, 1, none⟩ = some (.int .i64 a1_1) := (blk_cell BK470.out 1).trans rfl; have hfz28_0 := blk_frozen BK470.out 0; have hfz28_1 := blk_frozen BK470.out 1)); try go_wp2_with (first | (go_at_call 31; (with_reducible refine (assartref04_Right.calls k true _ _ l0_1 true _ ?side1 ?side2 A8.out).mono ?_); (case side1 => repeat (first | exact (Kd.C_below HR0_1.out HB.out) | (with_reducible refine Kd.C_alloc ?_ _) | (with_reducible refine Kd.C_drewN ?_ _) | (with_reducible refine Kd.C_drew ?_))); (case side2 => exact HC0_1.out); rintro e w26 ⟨rfl, hb⟩; have n0_ := Aside0.mk (blk_below (g := gb469) (o := .cells #[.bool true, .slice A0_1 l0_1.length c0_1] 56 (0, 0)) (by (with_reducible repeat (first | refine blk_drewN ?_ _ | refine blk_drew ?_ | refine blk_alloc ?_ _)); exact BK469.out) hb); have n1_ := Aside0.mk (blk_below (g := gb470) (o := .cells #[.int .i64 a1_0, .int .i64 a1_1] 78 (0, 0)) (by (with_reducible repeat (first | refine blk_drewN ?_ _ | refine blk_drew ?_ | refine blk_alloc ?_ _)); exact BK470.out) hb); have n2_ := Aside0.mk (below_step (by repeat (first | (with_reducible first | exact HB.out | apply below_alloc | apply pw_below_drewN | apply below_drew1 | refine below_set ?_ GE469.out | refine below_set ?_ GE470.out) | exact HB.out)) hb); clear BK469; clear BK470; clear HB; have BK469 := n0_; have BK470 := n1_; have HB := n2_; clear n0_ n1_ n2_; (try clear hb); (try clear hb2); (try clear hk); (try clear hi); have hcz27_0 : w26.cell? ⟨gb469, 0, none⟩ = some (.bool true) := (blk_cell BK469.out 0).trans rfl; have hcz27_1 : w26.cell? ⟨gb469, 1, none⟩ = some (.slice A0_1 l0_1.length c0_1) := (blk_cell BK469.out 1).trans rfl; have hfz27_0 := blk_frozen BK469.out 0; have hfz27_1 := blk_frozen BK469.out 1; have hcz28_0 : w26.cell? ⟨gb470, 0, none⟩ = some (.int .i64 a1_0) := (blk_cell BK470.out 0).trans rfl; have hcz28_1 : w26.cell? ⟨gb470, 1, none⟩ = some (.int .i64 a1_1) := (blk_cell BK470.out 1).trans rfl; have hfz28_0 := blk_frozen BK470.out 0; have hfz28_1 := blk_frozen BK470.out 1)))
              go_meet
              case rel => exact ⟨_, (true), (by first | rfl | (simp; done) | (simp [*]; done)), H', ⟨by first | omega | exact Nat.le_refl _⟩, ⟨by (with_reducible repeat (first | refine blk_drewN ?_ _ | refine blk_drew ?_ | refine blk_alloc ?_ _)); exact BK469.out⟩, ⟨by (with_reducible repeat (first | refine blk_drewN ?_ _ | refine blk_drew ?_ | refine blk_alloc ?_ _)); exact BK470.out⟩, ⟨by repeat (first | (with_reducible first | exact HB.out | apply below_alloc | apply pw_below_drewN | apply below_drew1 | refine below_set ?_ GE469.out | refine below_set ?_ GE470.out) | exact HB.out)⟩⟩
            · rw [if_neg c23] at H
              have c23b0 : decide (a1_1 < 0) = false := decide_eq_false c23
              clear c23
              have H' := Aside0.mk H
              clear H
              have hnb29 := NB469_470.out
              have hnc29 := NB470_469.out
              have hcz30_0 : w7.cell? ⟨gb469, 0, none⟩ = some (.bool true) := (blk_cell BK469.out 0).trans rfl
              have hcz30_1 : w7.cell? ⟨gb469, 1, none⟩ = some (.slice A0_1 l0_1.length c0_1) := (blk_cell BK469.out 1).trans rfl
              have hfz30_0 := blk_frozen BK469.out 0
              have hfz30_1 := blk_frozen BK469.out 1
              go_wp2_with (first | (go_at_call 31; (with_reducible refine (assartref04_Right.calls k true _ _ l0_1 true _ ?side1 ?side2 A8.out).mono ?_); (case side1 => repeat (first | exact (Kd.C_below HR0_1.out HB.out) | (with_reducible refine Kd.C_alloc ?_ _) | (with_reducible refine Kd.C_drewN ?_ _) | (with_reducible refine Kd.C_drew ?_))); (case side2 => exact HC0_1.out); rintro e w31 ⟨rfl, hb⟩; have n0_ := Aside0.mk (blk_below (g := gb469) (o := .cells #[.bool true, .slice A0_1 l0_1.length c0_1] 56 (0, 0)) (by (with_reducible repeat (first | refine blk_drewN ?_ _ | refine blk_drew ?_ | refine blk_alloc ?_ _)); exact BK469.out) hb); have n1_ := Aside0.mk (blk_below (g := gb470) (o := .cells #[.int .i64 a1_0, .int .i64 a1_1] 78 (0, 0)) (by (with_reducible repeat (first | refine blk_drewN ?_ _ | refine blk_drew ?_ | refine blk_alloc ?_ _)); exact BK470.out) hb); have n2_ := Aside0.mk (below_step (by repeat (first | (with_reducible first | exact HB.out | apply below_alloc | apply pw_below_drewN | apply below_drew1 | refine below_set ?_ GE469.out | refine below_set ?_ GE470.out) | exact HB.out)) hb); clear BK469; clear BK470; clear HB; have BK469 := n0_; have BK470 := n1_; have HB := n2_; clear n0_ n1_ n2_; (try clear hb); (try clear hb2); (try clear hk); (try clear hi); have hcz32_0 : w31.cell? ⟨gb469, 0, none⟩ = some (.bool true) := (blk_cell BK469.out 0).trans rfl; have hcz32_1 : w31.cell? ⟨gb469, 1, none⟩ = some (.slice A0_1 l0_1.length c0_1) := (blk_cell BK469.out 1).trans rfl; have hfz32_0 := blk_frozen BK469.out 0; have hfz32_1 := blk_frozen BK469.out 1; have hcz33_0 : w31.cell? ⟨gb470, 0, none⟩ = some (.int .i64 a1_0) := (blk_cell BK470.out 0).trans rfl; have hcz33_1 : w31.cell? ⟨gb470, 1, none⟩ = some (.int .i64 a1_1) := (blk_cell BK470.out 1).trans rfl; have hfz33_0 := blk_frozen BK470.out 0; have hfz33_1 := blk_frozen BK470.out 1))
              repeat (go_quiet (first | (go_at_call 31; (with_reducible refine (assartref04_Right.calls k true _ _ l0_1 true _ ?side1 ?side2 A8.out).mono ?_); (case side1 => repeat (first | exact (Kd.C_below HR0_1.out HB.out) | (with_reducible refine Kd.C_alloc ?_ _) | (with_reducible refine Kd.C_drewN ?_ _) | (with_reducible refine Kd.C_drew ?_))); (case side2 => exact HC0_1.out); rintro e w31 ⟨rfl, hb⟩; have n0_ := Aside0.mk (blk_below (g := gb469) (o := .cells #[.bool true, .slice A0_1 l0_1.length c0_1] 56 (0, 0)) (by (with_reducible repeat (first | refine blk_drewN ?_ _ | refine blk_drew ?_ | refine blk_alloc ?_ _)); exact BK469.out) hb); have n1_ := Aside0.mk (blk_below (g := gb470) (o := .cells #[.int .i64 a1_0, .int .i64 a1_1] 78 (0, 0)) (by (with_reducible repeat (first | refine blk_drewN ?_ _ | refine blk_drew ?_ | refine blk_alloc ?_ _)); exact BK470.out) hb); have n2_ := Aside0.mk (below_step (by repeat (first | (with_reducible first | exact HB.out | apply below_alloc | apply pw_below_drewN | apply below_drew1 | refine below_set ?_ GE469.out | refine below_set ?_ GE470.out) | exact HB.out)) hb); clear BK469; clear BK470; clear HB; have BK469 := n0_; have BK470 := n1_; have HB := n2_; clear n0_ n1_ n2_; (try clear hb); (try clear hb2); (try clear hk); (try clear hi); have hcz32_0 : w31.cell? ⟨gb469, 0, none⟩ = some (.bool true) := (blk_cell BK469.out 0).trans rfl; have hcz32_1 : w31.cell? ⟨gb469, 1, none⟩ = some (.slice A0_1 l0_1.length c0_1) := (blk_cell BK469.out 1).trans rfl; have hfz32_0 := blk_frozen BK469.out 0; have hfz32_1 := blk_frozen BK469.out 1; have hcz33_0 : w31.cell? ⟨gb470, 0, none⟩ = some (.int .i64 a1_0) := (blk_cell BK470.out 0).trans rfl; have hcz33_1 : w31.cell? ⟨gb470, 1, none⟩ = some (.int .i64 a1_1) := (blk_cell BK470.out 1).trans rfl; have hfz33_0 := blk_frozen BK470.out 0; have hfz33_1 := blk_frozen BK470.out 1)); try go_wp2_with (first | (go_at_call 31; (with_reducible refine (assartref04_Right.calls k true _ _ l0_1 true _ ?side1 ?side2 A8.out).mono ?_); (case side1 => repeat (first | exact (Kd.C_below HR0_1.out HB.out) | (with_reducible refine Kd.C_alloc ?_ _) | (with_reducible refine Kd.C_drewN ?_ _) | (with_reducible refine Kd.C_drew ?_))); (case side2 => exact HC0_1.out); rintro e w31 ⟨rfl, hb⟩; have n0_ := Aside0.mk (blk_below (g := gb469) (o := .cells #[.bool true, .slice A0_1 l0_1.length c0_1] 56 (0, 0)) (by (with_reducible repeat (first | refine blk_drewN ?_ _ | refine blk_drew ?_ | refine blk_alloc ?_ _)); exact BK469.out) hb); have n1_ := Aside0.mk (blk_below (g := gb470) (o := .cells #[.int .i64 a1_0, .int .i64 a1_1] 78 (0, 0)) (by (with_reducible repeat (first | refine blk_drewN ?_ _ | refine blk_drew ?_ | refine blk_alloc ?_ _)); exact BK470.out) hb); have n2_ := Aside0.mk (below_step (by repeat (first | (with_reducible first | exact HB.out | apply below_alloc | apply pw_below_drewN | apply below_drew1 | refine below_set ?_ GE469.out | refine below_set ?_ GE470.out) | exact HB.out)) hb); clear BK469; clear BK470; clear HB; have BK469 := n0_; have BK470 := n1_; have HB := n2_; clear n0_ n1_ n2_; (try clear hb); (try clear hb2); (try clear hk); (try clear hi); have hcz32_0 : w31.cell? ⟨gb469, 0, none⟩ = some (.bool true) := (blk_cell BK469.out 0).trans rfl; have hcz32_1 : w31.cell? ⟨gb469, 1, none⟩ = some (.slice A0_1 l0_1.length c0_1) := (blk_cell BK469.out 1).trans rfl; have hfz32_0 := blk_frozen BK469.out 0; have hfz32_1 := blk_frozen BK469.out 1; have hcz33_0 : w31.cell? ⟨gb470, 0, none⟩ = some (.int .i64 a1_0) := (blk_cell BK470.out 0).trans rfl; have hcz33_1 : w31.cell? ⟨gb470, 1, none⟩ = some (.int .i64 a1_1) := (blk_cell BK470.out 1).trans rfl; have hfz33_0 := blk_frozen BK470.out 0; have hfz33_1 := blk_frozen BK470.out 1)))
              go_meet
              case rel => exact ⟨_, (decide (a1_1 > 2147483647)), (by first | rfl | (simp; done) | (simp [*]; done)), H', ⟨by first | omega | exact Nat.le_refl _⟩, ⟨by (with_reducible repeat (first | refine blk_drewN ?_ _ | refine blk_drew ?_ | refine blk_alloc ?_ _)); exact BK469.out⟩, ⟨by (with_reducible repeat (first | refine blk_drewN ?_ _ | refine blk_drew ?_ | refine blk_alloc ?_ _)); exact BK470.out⟩, ⟨by repeat (first | (with_reducible first | exact HB.out | apply below_alloc | apply pw_below_drewN | apply below_drew1 | refine below_set ?_ GE469.out | refine below_set ?_ GE470.out) | exact HB.out)⟩⟩
      · replace c10 := Bool.eq_false_iff.mpr c10
        subst c10
        have H1 : (assartlaw04_NodePuts.j0 k t471 true false l0_1 a1_0 a1_1) = some r := by rw [if_neg (show ¬ (false = true) by decide)] at H; exact H
        clear H
        have H := H1
        clear H1
        have H' := Aside0.mk H
        clear H
        have hnb34 := NB469_470.out
        have hnc34 := NB470_469.out
        have hcz35_0 : w7.cell? ⟨gb469, 0, none⟩ = some (.bool false) := (blk_cell BK469.out 0).trans rfl
        have hcz35_1 : w7.cell? ⟨gb469, 1, none⟩ = some (.slice A0_1 l0_1.length c0_1) := (blk_cell BK469.out 1).trans rfl
        have hfz35_0 := blk_frozen BK469.out 0
        have hfz35_1 := blk_frozen BK469.out 1
        go_wp2_with (first | (go_at_call 31; (with_reducible refine (assartref04_Right.calls k false _ _ l0_1 true _ ?side1 ?side2 A8.out).mono ?_); (case side1 => repeat (first | exact (Kd.C_below HR0_1.out HB.out) | (with_reducible refine Kd.C_alloc ?_ _) | (with_reducible refine Kd.C_drewN ?_ _) | (with_reducible refine Kd.C_drew ?_))); (case side2 => exact HC0_1.out); rintro e w36 ⟨rfl, hb⟩; have n0_ := Aside0.mk (blk_below (g := gb469) (o := .cells #[.bool false, .slice A0_1 l0_1.length c0_1] 56 (0, 0)) (by (with_reducible repeat (first | refine blk_drewN ?_ _ | refine blk_drew ?_ | refine blk_alloc ?_ _)); exact BK469.out) hb); have n1_ := Aside0.mk (blk_below (g := gb470) (o := .cells #[.int .i64 a1_0, .int .i64 a1_1] 78 (0, 0)) (by (with_reducible repeat (first | refine blk_drewN ?_ _ | refine blk_drew ?_ | refine blk_alloc ?_ _)); exact BK470.out) hb); have n2_ := Aside0.mk (below_step (by repeat (first | (with_reducible first | exact HB.out | apply below_alloc | apply pw_below_drewN | apply below_drew1 | refine below_set ?_ GE469.out | refine below_set ?_ GE470.out) | exact HB.out)) hb); clear BK469; clear BK470; clear HB; have BK469 := n0_; have BK470 := n1_; have HB := n2_; clear n0_ n1_ n2_; (try clear hb); (try clear hb2); (try clear hk); (try clear hi); have hcz37_0 : w36.cell? ⟨gb469, 0, none⟩ = some (.bool false) := (blk_cell BK469.out 0).trans rfl; have hcz37_1 : w36.cell? ⟨gb469, 1, none⟩ = some (.slice A0_1 l0_1.length c0_1) := (blk_cell BK469.out 1).trans rfl; have hfz37_0 := blk_frozen BK469.out 0; have hfz37_1 := blk_frozen BK469.out 1))
        repeat (go_quiet (first | (go_at_call 31; (with_reducible refine (assartref04_Right.calls k false _ _ l0_1 true _ ?side1 ?side2 A8.out).mono ?_); (case side1 => repeat (first | exact (Kd.C_below HR0_1.out HB.out) | (with_reducible refine Kd.C_alloc ?_ _) | (with_reducible refine Kd.C_drewN ?_ _) | (with_reducible refine Kd.C_drew ?_))); (case side2 => exact HC0_1.out); rintro e w36 ⟨rfl, hb⟩; have n0_ := Aside0.mk (blk_below (g := gb469) (o := .cells #[.bool false, .slice A0_1 l0_1.length c0_1] 56 (0, 0)) (by (with_reducible repeat (first | refine blk_drewN ?_ _ | refine blk_drew ?_ | refine blk_alloc ?_ _)); exact BK469.out) hb); have n1_ := Aside0.mk (blk_below (g := gb470) (o := .cells #[.int .i64 a1_0, .int .i64 a1_1] 78 (0, 0)) (by (with_reducible repeat (first | refine blk_drewN ?_ _ | refine blk_drew ?_ | refine blk_alloc ?_ _)); exact BK470.out) hb); have n2_ := Aside0.mk (below_step (by repeat (first | (with_reducible first | exact HB.out | apply below_alloc | apply pw_below_drewN | apply below_drew1 | refine below_set ?_ GE469.out | refine below_set ?_ GE470.out) | exact HB.out)) hb); clear BK469; clear BK470; clear HB; have BK469 := n0_; have BK470 := n1_; have HB := n2_; clear n0_ n1_ n2_; (try clear hb); (try clear hb2); (try clear hk); (try clear hi); have hcz37_0 : w36.cell? ⟨gb469, 0, none⟩ = some (.bool false) := (blk_cell BK469.out 0).trans rfl; have hcz37_1 : w36.cell? ⟨gb469, 1, none⟩ = some (.slice A0_1 l0_1.length c0_1) := (blk_cell BK469.out 1).trans rfl; have hfz37_0 := blk_frozen BK469.out 0; have hfz37_1 := blk_frozen BK469.out 1)); try go_wp2_with (first | (go_at_call 31; (with_reducible refine (assartref04_Right.calls k false _ _ l0_1 true _ ?side1 ?side2 A8.out).mono ?_); (case side1 => repeat (first | exact (Kd.C_below HR0_1.out HB.out) | (with_reducible refine Kd.C_alloc ?_ _) | (with_reducible refine Kd.C_drewN ?_ _) | (with_reducible refine Kd.C_drew ?_))); (case side2 => exact HC0_1.out); rintro e w36 ⟨rfl, hb⟩; have n0_ := Aside0.mk (blk_below (g := gb469) (o := .cells #[.bool false, .slice A0_1 l0_1.length c0_1] 56 (0, 0)) (by (with_reducible repeat (first | refine blk_drewN ?_ _ | refine blk_drew ?_ | refine blk_alloc ?_ _)); exact BK469.out) hb); have n1_ := Aside0.mk (blk_below (g := gb470) (o := .cells #[.int .i64 a1_0, .int .i64 a1_1] 78 (0, 0)) (by (with_reducible repeat (first | refine blk_drewN ?_ _ | refine blk_drew ?_ | refine blk_alloc ?_ _)); exact BK470.out) hb); have n2_ := Aside0.mk (below_step (by repeat (first | (with_reducible first | exact HB.out | apply below_alloc | apply pw_below_drewN | apply below_drew1 | refine below_set ?_ GE469.out | refine below_set ?_ GE470.out) | exact HB.out)) hb); clear BK469; clear BK470; clear HB; have BK469 := n0_; have BK470 := n1_; have HB := n2_; clear n0_ n1_ n2_; (try clear hb); (try clear hb2); (try clear hk); (try clear hi); have hcz37_0 : w36.cell? ⟨gb469, 0, none⟩ = some (.bool false) := (blk_cell BK469.out 0).trans rfl; have hcz37_1 : w36.cell? ⟨gb469, 1, none⟩ = some (.slice A0_1 l0_1.length c0_1) := (blk_cell BK469.out 1).trans rfl; have hfz37_0 := blk_frozen BK469.out 0; have hfz37_1 := blk_frozen BK469.out 1)))
        go_meet
        case rel => exact ⟨_, (true), (by first | rfl | (simp; done) | (simp [*]; done)), H', ⟨by first | omega | exact Nat.le_refl _⟩, ⟨by (with_reducible repeat (first | refine blk_drewN ?_ _ | refine blk_drew ?_ | refine blk_alloc ?_ _)); exact BK469.out⟩, ⟨by (with_reducible repeat (first | refine blk_drewN ?_ _ | refine blk_drew ?_ | refine blk_alloc ?_ _)); exact BK470.out⟩, ⟨by repeat (first | (with_reducible first | exact HB.out | apply below_alloc | apply pw_below_drewN | apply below_drew1 | refine below_set ?_ GE469.out | refine below_set ?_ GE470.out) | exact HB.out)⟩⟩
    · replace c9 := Bool.eq_false_iff.mpr c9
      subst c9
      have H1 : (assartlaw04_NodePuts.j0 k t471 true a0_0 l0_1 a1_0 a1_1) = some r := by rw [if_neg (show ¬ (false = true) by decide)] at H; exact H
      clear H
      have H := H1
      clear H1
      have H' := Aside0.mk H
      clear H
      have hnb38 := NB469_470.out
      have hnc38 := NB470_469.out
      have hcz39_0 : w7.cell? ⟨gb469, 0, none⟩ = some (.bool a0_0) := (blk_cell BK469.out 0).trans rfl
      have hcz39_1 : w7.cell? ⟨gb469, 1, none⟩ = some (.slice A0_1 l0_1.length c0_1) := (blk_cell BK469.out 1).trans rfl
      have hfz39_0 := blk_frozen BK469.out 0
      have hfz39_1 := blk_frozen BK469.out 1
      go_wp2_with (first | (go_at_call 31; (with_reducible refine (assartref04_Right.calls k a0_0 _ _ l0_1 false _ ?side1 ?side2 A8.out).mono ?_); (case side1 => repeat (first | exact (Kd.C_below HR0_1.out HB.out) | (with_reducible refine Kd.C_alloc ?_ _) | (with_reducible refine Kd.C_drewN ?_ _) | (with_reducible refine Kd.C_drew ?_))); (case side2 => exact HC0_1.out); rintro e w40 ⟨rfl, hb⟩; have n0_ := Aside0.mk (blk_below (g := gb469) (o := .cells #[.bool a0_0, .slice A0_1 l0_1.length c0_1] 56 (0, 0)) (by (with_reducible repeat (first | refine blk_drewN ?_ _ | refine blk_drew ?_ | refine blk_alloc ?_ _)); exact BK469.out) hb); have n1_ := Aside0.mk (blk_below (g := gb470) (o := .cells #[.int .i64 a1_0, .int .i64 a1_1] 78 (0, 0)) (by (with_reducible repeat (first | refine blk_drewN ?_ _ | refine blk_drew ?_ | refine blk_alloc ?_ _)); exact BK470.out) hb); have n2_ := Aside0.mk (below_step (by repeat (first | (with_reducible first | exact HB.out | apply below_alloc | apply pw_below_drewN | apply below_drew1 | refine below_set ?_ GE469.out | refine below_set ?_ GE470.out) | exact HB.out)) hb); clear BK469; clear BK470; clear HB; have BK469 := n0_; have BK470 := n1_; have HB := n2_; clear n0_ n1_ n2_; (try clear hb); (try clear hb2); (try clear hk); (try clear hi)))
      repeat (go_quiet (first | (go_at_call 31; (with_reducible refine (assartref04_Right.calls k a0_0 _ _ l0_1 false _ ?side1 ?side2 A8.out).mono ?_); (case side1 => repeat (first | exact (Kd.C_below HR0_1.out HB.out) | (with_reducible refine Kd.C_alloc ?_ _) | (with_reducible refine Kd.C_drewN ?_ _) | (with_reducible refine Kd.C_drew ?_))); (case side2 => exact HC0_1.out); rintro e w40 ⟨rfl, hb⟩; have n0_ := Aside0.mk (blk_below (g := gb469) (o := .cells #[.bool a0_0, .slice A0_1 l0_1.length c0_1] 56 (0, 0)) (by (with_reducible repeat (first | refine blk_drewN ?_ _ | refine blk_drew ?_ | refine blk_alloc ?_ _)); exact BK469.out) hb); have n1_ := Aside0.mk (blk_below (g := gb470) (o := .cells #[.int .i64 a1_0, .int .i64 a1_1] 78 (0, 0)) (by (with_reducible repeat (first | refine blk_drewN ?_ _ | refine blk_drew ?_ | refine blk_alloc ?_ _)); exact BK470.out) hb); have n2_ := Aside0.mk (below_step (by repeat (first | (with_reducible first | exact HB.out | apply below_alloc | apply pw_below_drewN | apply below_drew1 | refine below_set ?_ GE469.out | refine below_set ?_ GE470.out) | exact HB.out)) hb); clear BK469; clear BK470; clear HB; have BK469 := n0_; have BK470 := n1_; have HB := n2_; clear n0_ n1_ n2_; (try clear hb); (try clear hb2); (try clear hk); (try clear hi))); try go_wp2_with (first | (go_at_call 31; (with_reducible refine (assartref04_Right.calls k a0_0 _ _ l0_1 false _ ?side1 ?side2 A8.out).mono ?_); (case side1 => repeat (first | exact (Kd.C_below HR0_1.out HB.out) | (with_reducible refine Kd.C_alloc ?_ _) | (with_reducible refine Kd.C_drewN ?_ _) | (with_reducible refine Kd.C_drew ?_))); (case side2 => exact HC0_1.out); rintro e w40 ⟨rfl, hb⟩; have n0_ := Aside0.mk (blk_below (g := gb469) (o := .cells #[.bool a0_0, .slice A0_1 l0_1.length c0_1] 56 (0, 0)) (by (with_reducible repeat (first | refine blk_drewN ?_ _ | refine blk_drew ?_ | refine blk_alloc ?_ _)); exact BK469.out) hb); have n1_ := Aside0.mk (blk_below (g := gb470) (o := .cells #[.int .i64 a1_0, .int .i64 a1_1] 78 (0, 0)) (by (with_reducible repeat (first | refine blk_drewN ?_ _ | refine blk_drew ?_ | refine blk_alloc ?_ _)); exact BK470.out) hb); have n2_ := Aside0.mk (below_step (by repeat (first | (with_reducible first | exact HB.out | apply below_alloc | apply pw_below_drewN | apply below_drew1 | refine below_set ?_ GE469.out | refine below_set ?_ GE470.out) | exact HB.out)) hb); clear BK469; clear BK470; clear HB; have BK469 := n0_; have BK470 := n1_; have HB := n2_; clear n0_ n1_ n2_; (try clear hb); (try clear hb2); (try clear hk); (try clear hi))))
      go_meet
      case rel => exact ⟨_, (true), (by first | rfl | (simp; done) | (simp [*]; done)), H', ⟨by first | omega | exact Nat.le_refl _⟩, ⟨by (with_reducible repeat (first | refine blk_drewN ?_ _ | refine blk_drew ?_ | refine blk_alloc ?_ _)); exact BK469.out⟩, ⟨by (with_reducible repeat (first | refine blk_drewN ?_ _ | refine blk_drew ?_ | refine blk_alloc ?_ _)); exact BK470.out⟩, ⟨by repeat (first | (with_reducible first | exact HB.out | apply below_alloc | apply pw_below_drewN | apply below_drew1 | refine below_set ?_ GE469.out | refine below_set ?_ GE470.out) | exact HB.out)⟩⟩
  case rest =>
    clear HC4
    try clear c1
    try clear c2
    try clear p2
    try clear c3
    try clear c9
    try clear c10
    try clear c11
    try clear c11b0
    try clear c12
    try clear c14
    try clear c17
    try clear c17b0
    try clear c18
    try clear c23
    try clear c23b0
    try clear c24
    try clear c29
    try clear c34
    try clear c38
    try clear hcz13_0
    try clear hcz13_1
    try clear hcz15_0
    try clear hcz15_1
    try clear hcz16_0
    try clear hcz16_1
    try clear hcz19_0
    try clear hcz19_1
    try clear hcz21_0
    try clear hcz21_1
    try clear hcz22_0
    try clear hcz22_1
    try clear hcz25_0
    try clear hcz25_1
    try clear hcz27_0
    try clear hcz27_1
    try clear hcz28_0
    try clear hcz28_1
    try clear hcz30_0
    try clear hcz30_1
    try clear hcz32_0
    try clear hcz32_1
    try clear hcz33_0
    try clear hcz33_1
    try clear hcz35_0
    try clear hcz35_1
    try clear hcz37_0
    try clear hcz37_1
    try clear hcz39_0
    try clear hcz39_1
    try clear hfz13_0
    try clear hfz13_1
    try clear hfz15_0
    try clear hfz15_1
    try clear hfz16_0
    try clear hfz16_1
    try clear hfz19_0
    try clear hfz19_1
    try clear hfz21_0
    try clear hfz21_1
    try clear hfz22_0
    try clear hfz22_1
    try clear hfz25_0
    try clear hfz25_1
    try clear hfz27_0
    try clear hfz27_1
    try clear hfz28_0
    try clear hfz28_1
    try clear hfz30_0
    try clear hfz30_1
    try clear hfz32_0
    try clear hfz32_1
    try clear hfz33_0
    try clear hfz33_1
    try clear hfz35_0
    try clear hfz35_1
    try clear hfz37_0
    try clear hfz37_1
    try clear hfz39_0
    try clear hfz39_1
    obtain ⟨kq, x41_3, rfl, HA, HJ3, BK469, BK470, HB⟩ := hcut
    cases kq with
    | zero => exact absurd HA.out (by simp [assartlaw04_NodePuts.j0])
    | succ kj3 =>
      have H := HA.out
      clear HA
      simp only [assartlaw04_NodePuts.j0] at H
      by_cases c41 : x41_3 = true
      · subst c41
        have H1 : (some t471) = some r := by rw [if_pos rfl] at H; exact H
        clear H
        have H := H1
        clear H1
        obtain rfl := Option.some.inj H
        go_wp2
        repeat (go_quiet (fail); try go_wp2)
        go_ret
        exact ⟨by first | rfl | (simp [errW_none, errW_some] <;> rfl) | (simp [*, errW_none, errW_some] <;> rfl), by repeat (first | (with_reducible first | exact HB.out | apply below_alloc | apply pw_below_drewN | apply below_drew1 | refine below_set ?_ GE469.out | refine below_set ?_ GE470.out) | exact HB.out)⟩
      · replace c41 := Bool.eq_false_iff.mpr c41
        subst c41
        have H1 : ((node_At.f a0_0 l0_1 a1_0).bind fun bt473 => (if bt473.2 = true then (assartlaw04_NodePuts.j1 kj3 t471 bt473.1 1 a0_0 l0_1 a1_0 a1_1) else (assartlaw04_NodePuts.j1 kj3 t471 bt473.1 0 a0_0 l0_1 a1_0 a1_1))) = some r := by rw [if_neg (show ¬ (false = true) by decide)] at H; exact H
        clear H
        have H := H1
        clear H1
        replace H := Option.bind_eq_some_iff.mp H
        obtain ⟨⟨t473, t474⟩, A420, H⟩ := H
        replace H : (if t474 = true then (assartlaw04_NodePuts.j1 kj3 t471 t473 1 a0_0 l0_1 a1_0 a1_1) else (assartlaw04_NodePuts.j1 kj3 t471 t473 0 a0_0 l0_1 a1_0 a1_1)) = some r := H
        have A42 := Aside0.mk A420
        clear A420
        have HC43 := Aside0.mk H
        clear H
        have hnb44 := NB469_470.out
        have hnc44 := NB470_469.out
        have hcz45_0 : wc.cell? ⟨gb469, 0, none⟩ = some (.bool a0_0) := (blk_cell BK469.out 0).trans rfl
        have hcz45_1 : wc.cell? ⟨gb469, 1, none⟩ = some (.slice A0_1 l0_1.length c0_1) := (blk_cell BK469.out 1).trans rfl
        have hfz45_0 := blk_frozen BK469.out 0
        have hfz45_1 := blk_frozen BK469.out 1
        have hcz46_0 : wc.cell? ⟨gb470, 0, none⟩ = some (.int .i64 a1_0) := (blk_cell BK470.out 0).trans rfl
        have hcz46_1 : wc.cell? ⟨gb470, 1, none⟩ = some (.int .i64 a1_1) := (blk_cell BK470.out 1).trans rfl
        have hfz46_0 := blk_frozen BK470.out 0
        have hfz46_1 := blk_frozen BK470.out 1
        go_upto_if 50 with (first | (go_at_call 35; (with_reducible refine (node_At.calls a0_0 _ _ l0_1 a1_0 t473 t474 _ ?side1 ?side2 A42.out).mono ?_); (case side1 => repeat (first | exact (Kd.C_below HR0_1.out HB.out) | (with_reducible refine Kd.C_alloc ?_ _) | (with_reducible refine Kd.C_drewN ?_ _) | (with_reducible refine Kd.C_drew ?_))); (case side2 => exact HC0_1.out); rintro e w47 ⟨rfl, hb⟩; have n0_ := Aside0.mk (blk_below (g := gb469) (o := .cells #[.bool a0_0, .slice A0_1 l0_1.length c0_1] 56 (0, 0)) (by (with_reducible repeat (first | refine blk_drewN ?_ _ | refine blk_drew ?_ | refine blk_alloc ?_ _)); exact BK469.out) hb); have n1_ := Aside0.mk (blk_below (g := gb470) (o := .cells #[.int .i64 a1_0, .int .i64 a1_1] 78 (0, 0)) (by (with_reducible repeat (first | refine blk_drewN ?_ _ | refine blk_drew ?_ | refine blk_alloc ?_ _)); exact BK470.out) hb); have n2_ := Aside0.mk (below_step (by repeat (first | (with_reducible first | exact HB.out | apply below_alloc | apply pw_below_drewN | apply below_drew1 | refine below_set ?_ GE469.out | refine below_set ?_ GE470.out) | exact HB.out)) hb); clear BK469; clear BK470; clear HB; have BK469 := n0_; have BK470 := n1_; have HB := n2_; clear n0_ n1_ n2_; (try clear hb); (try clear hb2); (try clear hk); (try clear hi)))
        repeat (go_quiet (first | (go_at_call 35; (with_reducible refine (node_At.calls a0_0 _ _ l0_1 a1_0 t473 t474 _ ?side1 ?side2 A42.out).mono ?_); (case side1 => repeat (first | exact (Kd.C_below HR0_1.out HB.out) | (with_reducible refine Kd.C_alloc ?_ _) | (with_reducible refine Kd.C_drewN ?_ _) | (with_reducible refine Kd.C_drew ?_))); (case side2 => exact HC0_1.out); rintro e w47 ⟨rfl, hb⟩; have n0_ := Aside0.mk (blk_below (g := gb469) (o := .cells #[.bool a0_0, .slice A0_1 l0_1.length c0_1] 56 (0, 0)) (by (with_reducible repeat (first | refine blk_drewN ?_ _ | refine blk_drew ?_ | refine blk_alloc ?_ _)); exact BK469.out) hb); have n1_ := Aside0.mk (blk_below (g := gb470) (o := .cells #[.int .i64 a1_0, .int .i64 a1_1] 78 (0, 0)) (by (with_reducible repeat (first | refine blk_drewN ?_ _ | refine blk_drew ?_ | refine blk_alloc ?_ _)); exact BK470.out) hb); have n2_ := Aside0.mk (below_step (by repeat (first | (with_reducible first | exact HB.out | apply below_alloc | apply pw_below_drewN | apply below_drew1 | refine below_set ?_ GE469.out | refine below_set ?_ GE470.out) | exact HB.out)) hb); clear BK469; clear BK470; clear HB; have BK469 := n0_; have BK470 := n1_; have HB := n2_; clear n0_ n1_ n2_; (try clear hb); (try clear hb2); (try clear hk); (try clear hi))); go_upto_if 50 with (first | (go_at_call 35; (with_reducible refine (node_At.calls a0_0 _ _ l0_1 a1_0 t473 t474 _ ?side1 ?side2 A42.out).mono ?_); (case side1 => repeat (first | exact (Kd.C_below HR0_1.out HB.out) | (with_reducible refine Kd.C_alloc ?_ _) | (with_reducible refine Kd.C_drewN ?_ _) | (with_reducible refine Kd.C_drew ?_))); (case side2 => exact HC0_1.out); rintro e w47 ⟨rfl, hb⟩; have n0_ := Aside0.mk (blk_below (g := gb469) (o := .cells #[.bool a0_0, .slice A0_1 l0_1.length c0_1] 56 (0, 0)) (by (with_reducible repeat (first | refine blk_drewN ?_ _ | refine blk_drew ?_ | refine blk_alloc ?_ _)); exact BK469.out) hb); have n1_ := Aside0.mk (blk_below (g := gb470) (o := .cells #[.int .i64 a1_0, .int .i64 a1_1] 78 (0, 0)) (by (with_reducible repeat (first | refine blk_drewN ?_ _ | refine blk_drew ?_ | refine blk_alloc ?_ _)); exact BK470.out) hb); have n2_ := Aside0.mk (below_step (by repeat (first | (with_reducible first | exact HB.out | apply below_alloc | apply pw_below_drewN | apply below_drew1 | refine below_set ?_ GE469.out | refine below_set ?_ GE470.out) | exact HB.out)) hb); clear BK469; clear BK470; clear HB; have BK469 := n0_; have BK470 := n1_; have HB := n2_; clear n0_ n1_ n2_; (try clear hb); (try clear hb2); (try clear hk); (try clear hi))))
        (try simp only [Act.put, List.setIfInBounds_toArray, List.set_cons_zero, List.set_cons_succ])
        go_cut [8] (fun v8 wc => ∃ (kq : Nat) (x8_42 : Int), v8 = .int .i64 x8_42 ∧ Aside0 (assartlaw04_NodePuts.j1 kq t471 t473 x8_42 a0_0 l0_1 a1_0 a1_1 = some r) ∧ Aside0 (kq ≤ kj3) ∧ Aside0 (wc.heap[gb469]? = some (.cells #[.bool a0_0, (.slice A0_1 l0_1.length c0_1)] 56 (0, 0))) ∧ Aside0 (wc.heap[gb470]? = some (.cells #[.int .i64 a1_0, .int .i64 a1_1] 78 (0, 0))) ∧ Aside0 (Below w.heap.size w wc))
        case first =>
          have H := HC43.out
          clear HC43
          by_cases c48 : t474 = true
          · subst c48
            have H1 : (assartlaw04_NodePuts.j1 kj3 t471 t473 1 a0_0 l0_1 a1_0 a1_1) = some r := by rw [if_pos rfl] at H; exact H
            clear H
            have H := H1
            clear H1
            have H' := Aside0.mk H
            clear H
            go_wp2
            repeat (go_quiet (fail); try go_wp2)
            go_meet
            case rel => exact ⟨_, (1), (by first | rfl | (simp; done) | (simp [*]; done)), H', ⟨by have := HJ3.out; first | omega | exact Nat.le_refl _⟩, ⟨by (with_reducible repeat (first | refine blk_drewN ?_ _ | refine blk_drew ?_ | refine blk_alloc ?_ _)); exact BK469.out⟩, ⟨by (with_reducible repeat (first | refine blk_drewN ?_ _ | refine blk_drew ?_ | refine blk_alloc ?_ _)); exact BK470.out⟩, ⟨by repeat (first | (with_reducible first | exact HB.out | apply below_alloc | apply pw_below_drewN | apply below_drew1 | refine below_set ?_ GE469.out | refine below_set ?_ GE470.out) | exact HB.out)⟩⟩
          · replace c48 := Bool.eq_false_iff.mpr c48
            subst c48
            have H1 : (assartlaw04_NodePuts.j1 kj3 t471 t473 0 a0_0 l0_1 a1_0 a1_1) = some r := by rw [if_neg (show ¬ (false = true) by decide)] at H; exact H
            clear H
            have H := H1
            clear H1
            have H' := Aside0.mk H
            clear H
            go_wp2
            repeat (go_quiet (fail); try go_wp2)
            go_meet
            case rel => exact ⟨_, (0), (by first | rfl | (simp; done) | (simp [*]; done)), H', ⟨by have := HJ3.out; first | omega | exact Nat.le_refl _⟩, ⟨by (with_reducible repeat (first | refine blk_drewN ?_ _ | refine blk_drew ?_ | refine blk_alloc ?_ _)); exact BK469.out⟩, ⟨by (with_reducible repeat (first | refine blk_drewN ?_ _ | refine blk_drew ?_ | refine blk_alloc ?_ _)); exact BK470.out⟩, ⟨by repeat (first | (with_reducible first | exact HB.out | apply below_alloc | apply pw_below_drewN | apply below_drew1 | refine below_set ?_ GE469.out | refine below_set ?_ GE470.out) | exact HB.out)⟩⟩
        case rest =>
          clear HC43
          try clear c1
          try clear c2
          try clear p2
          try clear c3
          try clear c4
          try clear c9
          try clear c10
          try clear c11
          try clear c11b0
          try clear c12
          try clear c14
          try clear c17
          try clear c17b0
          try clear c18
          try clear c23
          try clear c23b0
          try clear c24
          try clear c29
          try clear c34
          try clear c38
          try clear c41
          try clear c44
          try clear c48
          try clear hcz13_0
          try clear hcz13_1
          try clear hcz15_0
          try clear hcz15_1
          try clear hcz16_0
          try clear hcz16_1
          try clear hcz19_0
          try clear hcz19_1
          try clear hcz21_0
          try clear hcz21_1
          try clear hcz22_0
          try clear hcz22_1
          try clear hcz25_0
          try clear hcz25_1
          try clear hcz27_0
          try clear hcz27_1
          try clear hcz28_0
          try clear hcz28_1
          try clear hcz30_0
          try clear hcz30_1
          try clear hcz32_0
          try clear hcz32_1
          try clear hcz33_0
          try clear hcz33_1
          try clear hcz35_0
          try clear hcz35_1
          try clear hcz37_0
          try clear hcz37_1
          try clear hcz39_0
          try clear hcz39_1
          try clear hcz45_0
          try clear hcz45_1
          try clear hcz46_0
          try clear hcz46_1
          try clear hfz13_0
          try clear hfz13_1
          try clear hfz15_0
          try clear hfz15_1
          try clear hfz16_0
          try clear hfz16_1
          try clear hfz19_0
          try clear hfz19_1
          try clear hfz21_0
          try clear hfz21_1
          try clear hfz22_0
          try clear hfz22_1
          try clear hfz25_0
          try clear hfz25_1
          try clear hfz27_0
          try clear hfz27_1
          try clear hfz28_0
          try clear hfz28_1
          try clear hfz30_0
          try clear hfz30_1
          try clear hfz32_0
          try clear hfz32_1
          try clear hfz33_0
          try clear hfz33_1
          try clear hfz35_0
          try clear hfz35_1
          try clear hfz37_0
          try clear hfz37_1
          try clear hfz39_0
          try clear hfz39_1
          try clear hfz45_0
          try clear hfz45_1
          try clear hfz46_0
          try clear hfz46_1
          try clear p2
          obtain ⟨kq, x8_42, rfl, HA, HJ42, BK469, BK470, HB⟩ := hcut
          cases kq with
          | zero => exact absurd HA.out (by simp [assartlaw04_NodePuts.j1])
          | succ kj42 =>
            have H := HA.out
            clear HA
            simp only [assartlaw04_NodePuts.j1] at H
            have HC49 := Aside0.mk H
            clear H
            go_upto_region 8 with (fail)
            repeat (go_quiet (fail); go_upto_region 8 with (fail))
            go_cut [61] (fun v61 wc => ∃ (kq : Nat) (x61_48 : Bool), v61 = .bool x61_48 ∧ Aside0 (assartlaw04_NodePuts.j2 kq t471 t473 x8_42 x61_48 a0_0 l0_1 a1_0 a1_1 = some r) ∧ Aside0 (kq ≤ kj42) ∧ Aside0 (wc.heap[gb469]? = some (.cells #[.bool a0_0, (.slice A0_1 l0_1.length c0_1)] 56 (0, 0))) ∧ Aside0 (wc.heap[gb470]? = some (.cells #[.int .i64 a1_0, .int .i64 a1_1] 78 (0, 0))) ∧ Aside0 (Below w.heap.size w wc))
            case first =>
              have H := HC49.out
              clear HC49
              by_cases c50 : t473 < 0
              · rw [if_pos c50] at H
                have c50b0 : decide (t473 < 0) = true := decide_eq_true c50
                clear c50
                (first | rw [c50b0] | (simp only [i64_w, i32_w]; rw [c50b0]) | skip)
                have H' := Aside0.mk H
                clear H
                go_wp2
                repeat (go_quiet (fail); try go_wp2)
                go_meet
                case rel => exact ⟨_, (true), (by first | rfl | (simp; done) | (simp [*]; done)), H', ⟨by have := HJ3.out; have := HJ42.out; first | omega | exact Nat.le_refl _⟩, ⟨by (with_reducible repeat (first | refine blk_drewN ?_ _ | refine blk_drew ?_ | refine blk_alloc ?_ _)); exact BK469.out⟩, ⟨by (with_reducible repeat (first | refine blk_drewN ?_ _ | refine blk_drew ?_ | refine blk_alloc ?_ _)); exact BK470.out⟩, ⟨by repeat (first | (with_reducible first | exact HB.out | apply below_alloc | apply pw_below_drewN | apply below_drew1 | refine below_set ?_ GE469.out | refine below_set ?_ GE470.out) | exact HB.out)⟩⟩
              · rw [if_neg c50] at H
                have c50b0 : decide (t473 < 0) = false := decide_eq_false c50
                clear c50
                (first | rw [c50b0] | (simp only [i64_w, i32_w]; rw [c50b0]) | skip)
                have H' := Aside0.mk H
                clear H
                have hnb51 := NB469_470.out
                have hnc51 := NB470_469.out
                have hcz52_0 : wc.cell? ⟨gb469, 0, none⟩ = some (.bool a0_0) := (blk_cell BK469.out 0).trans rfl
                have hcz52_1 : wc.cell? ⟨gb469, 1, none⟩ = some (.slice A0_1 l0_1.length c0_1) := (blk_cell BK469.out 1).trans rfl
                have hfz52_0 := blk_frozen BK469.out 0
                have hfz52_1 := blk_frozen BK469.out 1
                go_wp2
                repeat (go_quiet (fail); try go_wp2)
                go_meet
                case rel => exact ⟨_, (decide (t473 > (wrap64 ((l0_1.length : Int) - x8_42)))), (by first | rfl | (simp; done) | (simp [*]; done)), H', ⟨by have := HJ3.out; have := HJ42.out; first | omega | exact Nat.le_refl _⟩, ⟨by (with_reducible repeat (first | refine blk_drewN ?_ _ | refine blk_drew ?_ | refine blk_alloc ?_ _)); exact BK469.out⟩, ⟨by (with_reducible repeat (first | refine blk_drewN ?_ _ | refine blk_drew ?_ | refine blk_alloc ?_ _)); exact BK470.out⟩, ⟨by repeat (first | (with_reducible first | exact HB.out | apply below_alloc | apply pw_below_drewN | apply below_drew1 | refine below_set ?_ GE469.out | refine below_set ?_ GE470.out) | exact HB.out)⟩⟩
            case rest =>
              clear HC49
              try clear c1
              try clear c2
              try clear p2
              try clear c3
              try clear c4
              try clear c5
              try clear p6
              try clear c9
              try clear c10
              try clear c11
              try clear c11b0
              try clear c12
              try clear c14
              try clear c17
              try clear c17b0
              try clear c18
              try clear c23
              try clear c23b0
              try clear c24
              try clear c29
              try clear c34
              try clear c38
              try clear c41
              try clear c44
              try clear c48
              try clear c50
              try clear c50b0
              try clear c51
              try clear hcz13_0
              try clear hcz13_1
              try clear hcz15_0
              try clear hcz15_1
              try clear hcz16_0
              try clear hcz16_1
              try clear hcz19_0
              try clear hcz19_1
              try clear hcz21_0
              try clear hcz21_1
              try clear hcz22_0
              try clear hcz22_1
              try clear hcz25_0
              try clear hcz25_1
              try clear hcz27_0
              try clear hcz27_1
              try clear hcz28_0
              try clear hcz28_1
              try clear hcz30_0
              try clear hcz30_1
              try clear hcz32_0
              try clear hcz32_1
              try clear hcz33_0
              try clear hcz33_1
              try clear hcz35_0
              try clear hcz35_1
              try clear hcz37_0
              try clear hcz37_1
              try clear hcz39_0
              try clear hcz39_1
              try clear hcz45_0
              try clear hcz45_1
              try clear hcz46_0
              try clear hcz46_1
              try clear hcz52_0
              try clear hcz52_1
              try clear hfz13_0
              try clear hfz13_1
              try clear hfz15_0
              try clear hfz15_1
              try clear hfz16_0
              try clear hfz16_1
              try clear hfz19_0
              try clear hfz19_1
              try clear hfz21_0
              try clear hfz21_1
              try clear hfz22_0
              try clear hfz22_1
              try clear hfz25_0
              try clear hfz25_1
              try clear hfz27_0
              try clear hfz27_1
              try clear hfz28_0
              try clear hfz28_1
              try clear hfz30_0
              try clear hfz30_1
              try clear hfz32_0
              try clear hfz32_1
              try clear hfz33_0
              try clear hfz33_1
              try clear hfz35_0
              try clear hfz35_1
              try clear hfz37_0
              try clear hfz37_1
              try clear hfz39_0
              try clear hfz39_1
              try clear hfz45_0
              try clear hfz45_1
              try clear hfz46_0
              try clear hfz46_1
              try clear hfz52_0
              try clear hfz52_1
              try clear p2
              obtain ⟨kq, x61_48, rfl, HA, HJ48, BK469, BK470, HB⟩ := hcut
              cases kq with
              | zero => exact absurd HA.out (by simp [assartlaw04_NodePuts.j2])
              | succ kj48 =>
                have H := HA.out
                clear HA
                simp only [assartlaw04_NodePuts.j2] at H
                by_cases c53 : x61_48 = true
                · subst c53
                  have H1 : (some false) = some r := by rw [if_pos rfl] at H; exact H
                  clear H
                  have H := H1
                  clear H1
                  obtain rfl := Option.some.inj H
                  go_wp2
                  repeat (go_quiet (fail); try go_wp2)
                  go_ret
                  exact ⟨by first | rfl | (simp [errW_none, errW_some] <;> rfl) | (simp [*, errW_none, errW_some] <;> rfl), by repeat (first | (with_reducible first | exact HB.out | apply below_alloc | apply pw_below_drewN | apply below_drew1 | refine below_set ?_ GE469.out | refine below_set ?_ GE470.out) | exact HB.out)⟩
                · replace c53 := Bool.eq_false_iff.mpr c53
                  subst c53
                  have H1 : ((node_With.f l0_1 t473 x8_42 (([(⟨a1_0, a1_1⟩ : S78)] : List (S78)))).bind fun t478 => ((node_Split.f kj48 t478).bind fun t481 => (assartlaw04_NodePuts.l0 kj48 t471 t481 (-1) 0))) = some r := by rw [if_neg (show ¬ (false = true) by decide)] at H; exact H
                  clear H
                  have H := H1
                  clear H1
                  obtain ⟨y475, hy475⟩ : ∃ y_ : List (S78), y_ = (([(⟨a1_0, a1_1⟩ : S78)] : List (S78))) := ⟨_, rfl⟩
                  replace H : ((node_With.f l0_1 t473 x8_42 y475).bind fun t478 => ((node_Split.f kj48 t478).bind fun t481 => (assartlaw04_NodePuts.l0 kj48 t471 t481 (-1) 0))) = some r := by first | (rw [hy475]; with_reducible exact H) | (have H2_ := (Option.bind_some _ _).symm.trans H; rw [hy475]; with_reducible exact H2_) | (have H2_ := (Option.bind_some _ _).symm.trans H; with_reducible exact H2_) | with_reducible exact H | (rw [hy475]; exact H) | exact H
                  have Ny475 := Aside0.mk hy475
                  clear hy475
                  replace H := Option.bind_eq_some_iff.mp H
                  obtain ⟨t478, A540, H⟩ := H
                  replace H : ((node_Split.f kj48 t478).bind fun t481 => (assartlaw04_NodePuts.l0 kj48 t471 t481 (-1) 0)) = some r := H
                  have A54 := Aside0.mk A540
                  clear A540
                  replace H := Option.bind_eq_some_iff.mp H
                  obtain ⟨t481, A550, H⟩ := H
                  replace H : (assartlaw04_NodePuts.l0 kj48 t471 t481 (-1) 0) = some r := H
                  have A55 := Aside0.mk A550
                  clear A550
                  have H' := Aside0.mk H
                  clear H
                  have hnb56 := NB469_470.out
                  have hnc56 := NB470_469.out
                  have hcz57_0 : wc.cell? ⟨gb469, 0, none⟩ = some (.bool a0_0) := (blk_cell BK469.out 0).trans rfl
                  have hcz57_1 : wc.cell? ⟨gb469, 1, none⟩ = some (.slice A0_1 l0_1.length c0_1) := (blk_cell BK469.out 1).trans rfl
                  have hfz57_0 := blk_frozen BK469.out 0
                  have hfz57_1 := blk_frozen BK469.out 1
                  have hcz58_0 : wc.cell? ⟨gb470, 0, none⟩ = some (.int .i64 a1_0) := (blk_cell BK470.out 0).trans rfl
                  have hcz58_1 : wc.cell? ⟨gb470, 1, none⟩ = some (.int .i64 a1_1) := (blk_cell BK470.out 1).trans rfl
                  have hfz58_0 := blk_frozen BK470.out 0
                  have hfz58_1 := blk_frozen BK470.out 1
                  go_wp2_with (first | ((with_reducible refine gate_dst (N := 67) rfl ?_); (try (refine gate_guard (by rfl) ?_; dsimp only)); refine Kd.R_lit k78 _ 78 ?hg (N := 67) ?hd (xs := ([(⟨a1_0, a1_1⟩ : S78)] : List (S78))) (inner := [.int .i64 a1_0, .int .i64 a1_1]) (ok := fun _ => True) (okp := fun _ => True) ?hr ?hp (fun _ hk => hk) trivial (Below.refl _ _) (Nat.le_refl _) (by simp) ?_; (case hd => rfl); (case hg => rfl); (case hr => first | (go_simp; done) | (go_simp; rfl)); (case hp => exact (Reps.c2 (show Kd.M k78 _ _ _ (⟨a1_0, a1_1⟩ : S78) [.int .i64 a1_0, .int .i64 a1_1] from (k78_mkM _ _ _ (⟨a1_0, a1_1⟩ : S78) )) (Reps.none _ _))); intro v476 w59 ho60 hb hg_ hnew_; clear hg_ hnew_; (first | rw [← Ny475.out] at ho60 | (simp only [Int.reduceToNat] at ho60; rw [← Ny475.out] at ho60)); have n0_ := Aside0.mk (Kd.R_lower (Kd.R_newB ho60 (g := gb470) (o := .cells #[.int .i64 a1_0, .int .i64 a1_1] 78 (0, 0)) (by (with_reducible repeat (first | refine blk_drewN ?_ _ | refine blk_drew ?_ | refine blk_alloc ?_ _)); exact BK470.out)) (below_size (by repeat (first | (with_reducible first | exact HB.out | apply below_alloc | apply pw_below_drewN | apply below_drew1 | refine below_set ?_ GE469.out | refine below_set ?_ GE470.out) | exact HB.out)))); have n1_ := Aside0.mk (blk_below (g := gb469) (o := .cells #[.bool a0_0, .slice A0_1 l0_1.length c0_1] 56 (0, 0)) (by (with_reducible repeat (first | refine blk_drewN ?_ _ | refine blk_drew ?_ | refine blk_alloc ?_ _)); exact BK469.out) hb); have n2_ := Aside0.mk (blk_below (g := gb470) (o := .cells #[.int .i64 a1_0, .int .i64 a1_1] 78 (0, 0)) (by (with_reducible repeat (first | refine blk_drewN ?_ _ | refine blk_drew ?_ | refine blk_alloc ?_ _)); exact BK470.out) hb); have n3_ := Aside0.mk (below_step (by repeat (first | (with_reducible first | exact HB.out | apply below_alloc | apply pw_below_drewN | apply below_drew1 | refine below_set ?_ GE469.out | refine below_set ?_ GE470.out) | exact HB.out)) hb); clear BK469; clear BK470; clear HB; have HO477 := n0_; have BK469 := n1_; have BK470 := n2_; have HB := n3_; clear n0_ n1_ n2_ n3_; clear hb ho60; obtain ⟨Ao61, co61, eo61⟩ := Kd.R_slice HO477.out; subst eo61) | (go_at_call 41; (with_reducible refine (node_With.calls (fun k_ => k_ < w.heap.size) _ _ l0_1 t473 x8_42 (fun k_ => some k_ = (.slice Ao61 y475.length co61 : Value).ownBlock) _ _ y475 t478 _ ?side1 ?side2 A54.out).mono ?_); (case side1 => exact Kd.V_mk HC0_1.out (Kd.F_below (Kd.C_F k78_heap HR0_1.out) (by repeat (first | (with_reducible first | exact HB.out | apply below_alloc | apply pw_below_drewN | apply below_drew1 | refine below_set ?_ GE469.out | refine below_set ?_ GE470.out) | exact HB.out)))); (case side2 => exact Kd.R_V (Kd.R_tight rfl (Kd.R_types (HO477.out) BK469.out (by decide)))); rintro e w62 ⟨v479, rfl, ho0, hb⟩; have n0_ := Aside0.mk (Kd.R_elder' (by (with_reducible repeat (first | apply Kd.R_alloc | apply Kd.R_drewN | apply Kd.R_drew)); exact HO477.out) (Kd.R_base ho0) hb); have n1_ := Aside0.mk (Kd.R_lower (Kd.R_newB (Kd.R_new' (Kd.R_mono (ok' := fun k_ => True) ho0 (fun _ hk_ => trivial)) (Kd.R_lt (by (with_reducible repeat (first | apply Kd.R_alloc | apply Kd.R_drewN | apply Kd.R_drew)); exact HO477.out))) (g := gb470) (o := .cells #[.int .i64 a1_0, .int .i64 a1_1] 78 (0, 0)) (by (with_reducible repeat (first | refine blk_drewN ?_ _ | refine blk_drew ?_ | refine blk_alloc ?_ _)); exact BK470.out)) (below_size (by repeat (first | (with_reducible first | exact HB.out | apply below_alloc | apply pw_below_drewN | apply below_drew1 | refine below_set ?_ GE469.out | refine below_set ?_ GE470.out) | exact HB.out)))); have n2_ := Aside0.mk (blk_below (g := gb469) (o := .cells #[.bool a0_0, .slice A0_1 l0_1.length c0_1] 56 (0, 0)) (by (with_reducible repeat (first | refine blk_drewN ?_ _ | refine blk_drew ?_ | refine blk_alloc ?_ _)); exact BK469.out) hb); have n3_ := Aside0.mk (blk_below (g := gb470) (o := .cells #[.int .i64 a1_0, .int .i64 a1_1] 78 (0, 0)) (by (with_reducible repeat (first | refine blk_drewN ?_ _ | refine blk_drew ?_ | refine blk_alloc ?_ _)); exact BK470.out) hb); have n4_ := Aside0.mk (below_step (by repeat (first | (with_reducible first | exact HB.out | apply below_alloc | apply pw_below_drewN | apply below_drew1 | refine below_set ?_ GE469.out | refine below_set ?_ GE470.out) | exact HB.out)) hb); clear HO477; clear BK469; clear BK470; clear HB; have HO477 := n0_; have HO480 := n1_; have BK469 := n2_; have BK470 := n3_; have HB := n4_; clear n0_ n1_ n2_ n3_ n4_; (try clear hb); (try clear hb2); (try clear hk); (try clear hi); (try clear ho0); obtain ⟨Ao63, co63, eo63⟩ := Kd.R_slice HO480.out; subst eo63) | (go_at_call 38; (with_reducible refine (node_Split.calls kj48 (fun k_ => some k_ = (.slice Ao63 t478.length co63 : Value).ownBlock) _ _ t478 t481 _ ?side1 A55.out).mono ?_); (case side1 => exact Kd.R_V (Kd.R_tight rfl (Kd.R_types (HO480.out) BK469.out (by decide)))); rintro e w64 ⟨v482, rfl, ho0, hb⟩; have n0_ := Aside0.mk (Kd.R_below (by (with_reducible repeat (first | apply Kd.R_alloc | apply Kd.R_drewN | apply Kd.R_drew)); exact HO477.out) hb); have n1_ := Aside0.mk (Kd.R_below (by (with_reducible repeat (first | apply Kd.R_alloc | apply Kd.R_drewN | apply Kd.R_drew)); exact HO480.out) hb); have n2_ := Aside0.mk (Kd.N_lower (Kd.N_mono (ok' := fun k_ => some k_ ≠ (.slice Ao61 y475.length co61 : Value).ownBlock ∧ k_ ≠ gb469 ∧ k_ ≠ gb470) ho0 (fun k_ hk_ => ⟨Or.elim hk_ (fun hs_ => ((Kd.R_types (HO480.out) BK469.out (by decide)).1 k_ hs_.symm).1.1.2) (fun hn_ => (Kd.fresh' (Kd.R_lt (by (with_reducible repeat (first | apply Kd.R_alloc | apply Kd.R_drewN | apply Kd.R_drew)); exact HO477.out)) k_ hn_)), Or.elim hk_ (fun hs_ => ((Kd.R_types (HO480.out) BK469.out (by decide)).1 k_ hs_.symm).2) (fun hn_ => (Kd.freshB (g := gb469) (o := .cells #[.bool a0_0, .slice A0_1 l0_1.length c0_1] 56 (0, 0)) (by (with_reducible repeat (first | refine blk_drewN ?_ _ | refine blk_drew ?_ | refine blk_alloc ?_ _)); exact BK469.out) k_ hn_)), Or.elim hk_ (fun hs_ => ((Kd.R_types (HO480.out) BK469.out (by decide)).1 k_ hs_.symm).1.2) (fun hn_ => (Kd.freshB (g := gb470) (o := .cells #[.int .i64 a1_0, .int .i64 a1_1] 78 (0, 0)) (by (with_reducible repeat (first | refine blk_drewN ?_ _ | refine blk_drew ?_ | refine blk_alloc ?_ _)); exact BK470.out) k_ hn_))⟩)) (below_size (by repeat (first | (with_reducible first | exact HB.out | apply below_alloc | apply pw_below_drewN | apply below_drew1 | refine below_set ?_ GE469.out | refine below_set ?_ GE470.out) | exact HB.out)))); have n3_ := Aside0.mk (blk_below (g := gb469) (o := .cells #[.bool a0_0, .slice A0_1 l0_1.length c0_1] 56 (0, 0)) (by (with_reducible repeat (first | refine blk_drewN ?_ _ | refine blk_drew ?_ | refine blk_alloc ?_ _)); exact BK469.out) hb); have n4_ := Aside0.mk (blk_below (g := gb470) (o := .cells #[.int .i64 a1_0, .int .i64 a1_1] 78 (0, 0)) (by (with_reducible repeat (first | refine blk_drewN ?_ _ | refine blk_drew ?_ | refine blk_alloc ?_ _)); exact BK470.out) hb); have n5_ := Aside0.mk (below_step (by repeat (first | (with_reducible first | exact HB.out | apply below_alloc | apply pw_below_drewN | apply below_drew1 | refine below_set ?_ GE469.out | refine below_set ?_ GE470.out) | exact HB.out)) hb); clear HO477; clear HO480; clear BK469; clear BK470; clear HB; have HO477 := n0_; have HO480 := n1_; have HO483 := n2_; have BK469 := n3_; have BK470 := n4_; have HB := n5_; clear n0_ n1_ n2_ n3_ n4_ n5_; (try clear hb); (try clear hb2); (try clear hk); (try clear hi); (try clear ho0)))
                  repeat (go_quiet (first | ((with_reducible refine gate_dst (N := 67) rfl ?_); (try (refine gate_guard (by rfl) ?_; dsimp only)); refine Kd.R_lit k78 _ 78 ?hg (N := 67) ?hd (xs := ([(⟨a1_0, a1_1⟩ : S78)] : List (S78))) (inner := [.int .i64 a1_0, .int .i64 a1_1]) (ok := fun _ => True) (okp := fun _ => True) ?hr ?hp (fun _ hk => hk) trivial (Below.refl _ _) (Nat.le_refl _) (by simp) ?_; (case hd => rfl); (case hg => rfl); (case hr => first | (go_simp; done) | (go_simp; rfl)); (case hp => exact (Reps.c2 (show Kd.M k78 _ _ _ (⟨a1_0, a1_1⟩ : S78) [.int .i64 a1_0, .int .i64 a1_1] from (k78_mkM _ _ _ (⟨a1_0, a1_1⟩ : S78) )) (Reps.none _ _))); intro v476 w59 ho60 hb hg_ hnew_; clear hg_ hnew_; (first | rw [← Ny475.out] at ho60 | (simp only [Int.reduceToNat] at ho60; rw [← Ny475.out] at ho60)); have n0_ := Aside0.mk (Kd.R_lower (Kd.R_newB ho60 (g := gb470) (o := .cells #[.int .i64 a1_0, .int .i64 a1_1] 78 (0, 0)) (by (with_reducible repeat (first | refine blk_drewN ?_ _ | refine blk_drew ?_ | refine blk_alloc ?_ _)); exact BK470.out)) (below_size (by repeat (first | (with_reducible first | exact HB.out | apply below_alloc | apply pw_below_drewN | apply below_drew1 | refine below_set ?_ GE469.out | refine below_set ?_ GE470.out) | exact HB.out)))); have n1_ := Aside0.mk (blk_below (g := gb469) (o := .cells #[.bool a0_0, .slice A0_1 l0_1.length c0_1] 56 (0, 0)) (by (with_reducible repeat (first | refine blk_drewN ?_ _ | refine blk_drew ?_ | refine blk_alloc ?_ _)); exact BK469.out) hb); have n2_ := Aside0.mk (blk_below (g := gb470) (o := .cells #[.int .i64 a1_0, .int .i64 a1_1] 78 (0, 0)) (by (with_reducible repeat (first | refine blk_drewN ?_ _ | refine blk_drew ?_ | refine blk_alloc ?_ _)); exact BK470.out) hb); have n3_ := Aside0.mk (below_step (by repeat (first | (with_reducible first | exact HB.out | apply below_alloc | apply pw_below_drewN | apply below_drew1 | refine below_set ?_ GE469.out | refine below_set ?_ GE470.out) | exact HB.out)) hb); clear BK469; clear BK470; clear HB; have HO477 := n0_; have BK469 := n1_; have BK470 := n2_; have HB := n3_; clear n0_ n1_ n2_ n3_; clear hb ho60; obtain ⟨Ao61, co61, eo61⟩ := Kd.R_slice HO477.out; subst eo61) | (go_at_call 41; (with_reducible refine (node_With.calls (fun k_ => k_ < w.heap.size) _ _ l0_1 t473 x8_42 (fun k_ => some k_ = (.slice Ao61 y475.length co61 : Value).ownBlock) _ _ y475 t478 _ ?side1 ?side2 A54.out).mono ?_); (case side1 => exact Kd.V_mk HC0_1.out (Kd.F_below (Kd.C_F k78_heap HR0_1.out) (by repeat (first | (with_reducible first | exact HB.out | apply below_alloc | apply pw_below_drewN | apply below_drew1 | refine below_set ?_ GE469.out | refine below_set ?_ GE470.out) | exact HB.out)))); (case side2 => exact Kd.R_V (Kd.R_tight rfl (Kd.R_types (HO477.out) BK469.out (by decide)))); rintro e w62 ⟨v479, rfl, ho0, hb⟩; have n0_ := Aside0.mk (Kd.R_elder' (by (with_reducible repeat (first | apply Kd.R_alloc | apply Kd.R_drewN | apply Kd.R_drew)); exact HO477.out) (Kd.R_base ho0) hb); have n1_ := Aside0.mk (Kd.R_lower (Kd.R_newB (Kd.R_new' (Kd.R_mono (ok' := fun k_ => True) ho0 (fun _ hk_ => trivial)) (Kd.R_lt (by (with_reducible repeat (first | apply Kd.R_alloc | apply Kd.R_drewN | apply Kd.R_drew)); exact HO477.out))) (g := gb470) (o := .cells #[.int .i64 a1_0, .int .i64 a1_1] 78 (0, 0)) (by (with_reducible repeat (first | refine blk_drewN ?_ _ | refine blk_drew ?_ | refine blk_alloc ?_ _)); exact BK470.out)) (below_size (by repeat (first | (with_reducible first | exact HB.out | apply below_alloc | apply pw_below_drewN | apply below_drew1 | refine below_set ?_ GE469.out | refine below_set ?_ GE470.out) | exact HB.out)))); have n2_ := Aside0.mk (blk_below (g := gb469) (o := .cells #[.bool a0_0, .slice A0_1 l0_1.length c0_1] 56 (0, 0)) (by (with_reducible repeat (first | refine blk_drewN ?_ _ | refine blk_drew ?_ | refine blk_alloc ?_ _)); exact BK469.out) hb); have n3_ := Aside0.mk (blk_below (g := gb470) (o := .cells #[.int .i64 a1_0, .int .i64 a1_1] 78 (0, 0)) (by (with_reducible repeat (first | refine blk_drewN ?_ _ | refine blk_drew ?_ | refine blk_alloc ?_ _)); exact BK470.out) hb); have n4_ := Aside0.mk (below_step (by repeat (first | (with_reducible first | exact HB.out | apply below_alloc | apply pw_below_drewN | apply below_drew1 | refine below_set ?_ GE469.out | refine below_set ?_ GE470.out) | exact HB.out)) hb); clear HO477; clear BK469; clear BK470; clear HB; have HO477 := n0_; have HO480 := n1_; have BK469 := n2_; have BK470 := n3_; have HB := n4_; clear n0_ n1_ n2_ n3_ n4_; (try clear hb); (try clear hb2); (try clear hk); (try clear hi); (try clear ho0); obtain ⟨Ao63, co63, eo63⟩ := Kd.R_slice HO480.out; subst eo63) | (go_at_call 38; (with_reducible refine (node_Split.calls kj48 (fun k_ => some k_ = (.slice Ao63 t478.length co63 : Value).ownBlock) _ _ t478 t481 _ ?side1 A55.out).mono ?_); (case side1 => exact Kd.R_V (Kd.R_tight rfl (Kd.R_types (HO480.out) BK469.out (by decide)))); rintro e w64 ⟨v482, rfl, ho0, hb⟩; have n0_ := Aside0.mk (Kd.R_below (by (with_reducible repeat (first | apply Kd.R_alloc | apply Kd.R_drewN | apply Kd.R_drew)); exact HO477.out) hb); have n1_ := Aside0.mk (Kd.R_below (by (with_reducible repeat (first | apply Kd.R_alloc | apply Kd.R_drewN | apply Kd.R_drew)); exact HO480.out) hb); have n2_ := Aside0.mk (Kd.N_lower (Kd.N_mono (ok' := fun k_ => some k_ ≠ (.slice Ao61 y475.length co61 : Value).ownBlock ∧ k_ ≠ gb469 ∧ k_ ≠ gb470) ho0 (fun k_ hk_ => ⟨Or.elim hk_ (fun hs_ => ((Kd.R_types (HO480.out) BK469.out (by decide)).1 k_ hs_.symm).1.1.2) (fun hn_ => (Kd.fresh' (Kd.R_lt (by (with_reducible repeat (first | apply Kd.R_alloc | apply Kd.R_drewN | apply Kd.R_drew)); exact HO477.out)) k_ hn_)), Or.elim hk_ (fun hs_ => ((Kd.R_types (HO480.out) BK469.out (by decide)).1 k_ hs_.symm).2) (fun hn_ => (Kd.freshB (g := gb469) (o := .cells #[.bool a0_0, .slice A0_1 l0_1.length c0_1] 56 (0, 0)) (by (with_reducible repeat (first | refine blk_drewN ?_ _ | refine blk_drew ?_ | refine blk_alloc ?_ _)); exact BK469.out) k_ hn_)), Or.elim hk_ (fun hs_ => ((Kd.R_types (HO480.out) BK469.out (by decide)).1 k_ hs_.symm).1.2) (fun hn_ => (Kd.freshB (g := gb470) (o := .cells #[.int .i64 a1_0, .int .i64 a1_1] 78 (0, 0)) (by (with_reducible repeat (first | refine blk_drewN ?_ _ | refine blk_drew ?_ | refine blk_alloc ?_ _)); exact BK470.out) k_ hn_))⟩)) (below_size (by repeat (first | (with_reducible first | exact HB.out | apply below_alloc | apply pw_below_drewN | apply below_drew1 | refine below_set ?_ GE469.out | refine below_set ?_ GE470.out) | exact HB.out)))); have n3_ := Aside0.mk (blk_below (g := gb469) (o := .cells #[.bool a0_0, .slice A0_1 l0_1.length c0_1] 56 (0, 0)) (by (with_reducible repeat (first | refine blk_drewN ?_ _ | refine blk_drew ?_ | refine blk_alloc ?_ _)); exact BK469.out) hb); have n4_ := Aside0.mk (blk_below (g := gb470) (o := .cells #[.int .i64 a1_0, .int .i64 a1_1] 78 (0, 0)) (by (with_reducible repeat (first | refine blk_drewN ?_ _ | refine blk_drew ?_ | refine blk_alloc ?_ _)); exact BK470.out) hb); have n5_ := Aside0.mk (below_step (by repeat (first | (with_reducible first | exact HB.out | apply below_alloc | apply pw_below_drewN | apply below_drew1 | refine below_set ?_ GE469.out | refine below_set ?_ GE470.out) | exact HB.out)) hb); clear HO477; clear HO480; clear BK469; clear BK470; clear HB; have HO477 := n0_; have HO480 := n1_; have HO483 := n2_; have BK469 := n3_; have BK470 := n4_; have HB := n5_; clear n0_ n1_ n2_ n3_ n4_ n5_; (try clear hb); (try clear hb2); (try clear hk); (try clear hi); (try clear ho0))); try go_wp2_with (first | ((with_reducible refine gate_dst (N := 67) rfl ?_); (try (refine gate_guard (by rfl) ?_; dsimp only)); refine Kd.R_lit k78 _ 78 ?hg (N := 67) ?hd (xs := ([(⟨a1_0, a1_1⟩ : S78)] : List (S78))) (inner := [.int .i64 a1_0, .int .i64 a1_1]) (ok := fun _ => True) (okp := fun _ => True) ?hr ?hp (fun _ hk => hk) trivial (Below.refl _ _) (Nat.le_refl _) (by simp) ?_; (case hd => rfl); (case hg => rfl); (case hr => first | (go_simp; done) | (go_simp; rfl)); (case hp => exact (Reps.c2 (show Kd.M k78 _ _ _ (⟨a1_0, a1_1⟩ : S78) [.int .i64 a1_0, .int .i64 a1_1] from (k78_mkM _ _ _ (⟨a1_0, a1_1⟩ : S78) )) (Reps.none _ _))); intro v476 w59 ho60 hb hg_ hnew_; clear hg_ hnew_; (first | rw [← Ny475.out] at ho60 | (simp only [Int.reduceToNat] at ho60; rw [← Ny475.out] at ho60)); have n0_ := Aside0.mk (Kd.R_lower (Kd.R_newB ho60 (g := gb470) (o := .cells #[.int .i64 a1_0, .int .i64 a1_1] 78 (0, 0)) (by (with_reducible repeat (first | refine blk_drewN ?_ _ | refine blk_drew ?_ | refine blk_alloc ?_ _)); exact BK470.out)) (below_size (by repeat (first | (with_reducible first | exact HB.out | apply below_alloc | apply pw_below_drewN | apply below_drew1 | refine below_set ?_ GE469.out | refine below_set ?_ GE470.out) | exact HB.out)))); have n1_ := Aside0.mk (blk_below (g := gb469) (o := .cells #[.bool a0_0, .slice A0_1 l0_1.length c0_1] 56 (0, 0)) (by (with_reducible repeat (first | refine blk_drewN ?_ _ | refine blk_drew ?_ | refine blk_alloc ?_ _)); exact BK469.out) hb); have n2_ := Aside0.mk (blk_below (g := gb470) (o := .cells #[.int .i64 a1_0, .int .i64 a1_1] 78 (0, 0)) (by (with_reducible repeat (first | refine blk_drewN ?_ _ | refine blk_drew ?_ | refine blk_alloc ?_ _)); exact BK470.out) hb); have n3_ := Aside0.mk (below_step (by repeat (first | (with_reducible first | exact HB.out | apply below_alloc | apply pw_below_drewN | apply below_drew1 | refine below_set ?_ GE469.out | refine below_set ?_ GE470.out) | exact HB.out)) hb); clear BK469; clear BK470; clear HB; have HO477 := n0_; have BK469 := n1_; have BK470 := n2_; have HB := n3_; clear n0_ n1_ n2_ n3_; clear hb ho60; obtain ⟨Ao61, co61, eo61⟩ := Kd.R_slice HO477.out; subst eo61) | (go_at_call 41; (with_reducible refine (node_With.calls (fun k_ => k_ < w.heap.size) _ _ l0_1 t473 x8_42 (fun k_ => some k_ = (.slice Ao61 y475.length co61 : Value).ownBlock) _ _ y475 t478 _ ?side1 ?side2 A54.out).mono ?_); (case side1 => exact Kd.V_mk HC0_1.out (Kd.F_below (Kd.C_F k78_heap HR0_1.out) (by repeat (first | (with_reducible first | exact HB.out | apply below_alloc | apply pw_below_drewN | apply below_drew1 | refine below_set ?_ GE469.out | refine below_set ?_ GE470.out) | exact HB.out)))); (case side2 => exact Kd.R_V (Kd.R_tight rfl (Kd.R_types (HO477.out) BK469.out (by decide)))); rintro e w62 ⟨v479, rfl, ho0, hb⟩; have n0_ := Aside0.mk (Kd.R_elder' (by (with_reducible repeat (first | apply Kd.R_alloc | apply Kd.R_drewN | apply Kd.R_drew)); exact HO477.out) (Kd.R_base ho0) hb); have n1_ := Aside0.mk (Kd.R_lower (Kd.R_newB (Kd.R_new' (Kd.R_mono (ok' := fun k_ => True) ho0 (fun _ hk_ => trivial)) (Kd.R_lt (by (with_reducible repeat (first | apply Kd.R_alloc | apply Kd.R_drewN | apply Kd.R_drew)); exact HO477.out))) (g := gb470) (o := .cells #[.int .i64 a1_0, .int .i64 a1_1] 78 (0, 0)) (by (with_reducible repeat (first | refine blk_drewN ?_ _ | refine blk_drew ?_ | refine blk_alloc ?_ _)); exact BK470.out)) (below_size (by repeat (first | (with_reducible first | exact HB.out | apply below_alloc | apply pw_below_drewN | apply below_drew1 | refine below_set ?_ GE469.out | refine below_set ?_ GE470.out) | exact HB.out)))); have n2_ := Aside0.mk (blk_below (g := gb469) (o := .cells #[.bool a0_0, .slice A0_1 l0_1.length c0_1] 56 (0, 0)) (by (with_reducible repeat (first | refine blk_drewN ?_ _ | refine blk_drew ?_ | refine blk_alloc ?_ _)); exact BK469.out) hb); have n3_ := Aside0.mk (blk_below (g := gb470) (o := .cells #[.int .i64 a1_0, .int .i64 a1_1] 78 (0, 0)) (by (with_reducible repeat (first | refine blk_drewN ?_ _ | refine blk_drew ?_ | refine blk_alloc ?_ _)); exact BK470.out) hb); have n4_ := Aside0.mk (below_step (by repeat (first | (with_reducible first | exact HB.out | apply below_alloc | apply pw_below_drewN | apply below_drew1 | refine below_set ?_ GE469.out | refine below_set ?_ GE470.out) | exact HB.out)) hb); clear HO477; clear BK469; clear BK470; clear HB; have HO477 := n0_; have HO480 := n1_; have BK469 := n2_; have BK470 := n3_; have HB := n4_; clear n0_ n1_ n2_ n3_ n4_; (try clear hb); (try clear hb2); (try clear hk); (try clear hi); (try clear ho0); obtain ⟨Ao63, co63, eo63⟩ := Kd.R_slice HO480.out; subst eo63) | (go_at_call 38; (with_reducible refine (node_Split.calls kj48 (fun k_ => some k_ = (.slice Ao63 t478.length co63 : Value).ownBlock) _ _ t478 t481 _ ?side1 A55.out).mono ?_); (case side1 => exact Kd.R_V (Kd.R_tight rfl (Kd.R_types (HO480.out) BK469.out (by decide)))); rintro e w64 ⟨v482, rfl, ho0, hb⟩; have n0_ := Aside0.mk (Kd.R_below (by (with_reducible repeat (first | apply Kd.R_alloc | apply Kd.R_drewN | apply Kd.R_drew)); exact HO477.out) hb); have n1_ := Aside0.mk (Kd.R_below (by (with_reducible repeat (first | apply Kd.R_alloc | apply Kd.R_drewN | apply Kd.R_drew)); exact HO480.out) hb); have n2_ := Aside0.mk (Kd.N_lower (Kd.N_mono (ok' := fun k_ => some k_ ≠ (.slice Ao61 y475.length co61 : Value).ownBlock ∧ k_ ≠ gb469 ∧ k_ ≠ gb470) ho0 (fun k_ hk_ => ⟨Or.elim hk_ (fun hs_ => ((Kd.R_types (HO480.out) BK469.out (by decide)).1 k_ hs_.symm).1.1.2) (fun hn_ => (Kd.fresh' (Kd.R_lt (by (with_reducible repeat (first | apply Kd.R_alloc | apply Kd.R_drewN | apply Kd.R_drew)); exact HO477.out)) k_ hn_)), Or.elim hk_ (fun hs_ => ((Kd.R_types (HO480.out) BK469.out (by decide)).1 k_ hs_.symm).2) (fun hn_ => (Kd.freshB (g := gb469) (o := .cells #[.bool a0_0, .slice A0_1 l0_1.length c0_1] 56 (0, 0)) (by (with_reducible repeat (first | refine blk_drewN ?_ _ | refine blk_drew ?_ | refine blk_alloc ?_ _)); exact BK469.out) k_ hn_)), Or.elim hk_ (fun hs_ => ((Kd.R_types (HO480.out) BK469.out (by decide)).1 k_ hs_.symm).1.2) (fun hn_ => (Kd.freshB (g := gb470) (o := .cells #[.int .i64 a1_0, .int .i64 a1_1] 78 (0, 0)) (by (with_reducible repeat (first | refine blk_drewN ?_ _ | refine blk_drew ?_ | refine blk_alloc ?_ _)); exact BK470.out) k_ hn_))⟩)) (below_size (by repeat (first | (with_reducible first | exact HB.out | apply below_alloc | apply pw_below_drewN | apply below_drew1 | refine below_set ?_ GE469.out | refine below_set ?_ GE470.out) | exact HB.out)))); have n3_ := Aside0.mk (blk_below (g := gb469) (o := .cells #[.bool a0_0, .slice A0_1 l0_1.length c0_1] 56 (0, 0)) (by (with_reducible repeat (first | refine blk_drewN ?_ _ | refine blk_drew ?_ | refine blk_alloc ?_ _)); exact BK469.out) hb); have n4_ := Aside0.mk (blk_below (g := gb470) (o := .cells #[.int .i64 a1_0, .int .i64 a1_1] 78 (0, 0)) (by (with_reducible repeat (first | refine blk_drewN ?_ _ | refine blk_drew ?_ | refine blk_alloc ?_ _)); exact BK470.out) hb); have n5_ := Aside0.mk (below_step (by repeat (first | (with_reducible first | exact HB.out | apply below_alloc | apply pw_below_drewN | apply below_drew1 | refine below_set ?_ GE469.out | refine below_set ?_ GE470.out) | exact HB.out)) hb); clear HO477; clear HO480; clear BK469; clear BK470; clear HB; have HO477 := n0_; have HO480 := n1_; have HO483 := n2_; have BK469 := n3_; have BK470 := n4_; have HB := n5_; clear n0_ n1_ n2_ n3_ n4_ n5_; (try clear hb); (try clear hb2); (try clear hk); (try clear hi); (try clear ho0))))
                  go_loopg [10, 11] kj48 (fun kq v10 v11 w' => ∃ (x10_4 : Int) (x11_4 : Int), v10 = .int .i64 x10_4 ∧ v11 = .int .i64 x11_4 ∧ Aside0 (assartlaw04_NodePuts.l0 kq t471 t481 x10_4 x11_4 = some r) ∧ Aside0 (kq ≤ kj48) ∧ Aside0 (Kd.N (Kd.slice 78 k78) 54 w' w.heap.size (fun k_ => k_ ≠ gb469 ∧ k_ ≠ gb470) v482 t481) ∧ Aside0 (w'.heap[gb469]? = some (.cells #[.bool a0_0, (.slice A0_1 l0_1.length c0_1)] 56 (0, 0))) ∧ Aside0 (w'.heap[gb470]? = some (.cells #[.int .i64 a1_0, .int .i64 a1_1] 78 (0, 0))) ∧ Aside0 (Below w.heap.size w w'))
                  case atStart => exact ⟨((-1)), (0), (by first | rfl | (simp; done) | (simp [*]; done)), (by first | rfl | (simp; done) | (simp [*]; done)), H', ⟨Nat.le_refl _⟩, ⟨by (with_reducible repeat (first | apply Kd.N_alloc | apply Kd.N_drewN | apply Kd.N_drew)); exact Kd.N_mono HO483.out (fun _ hk => ⟨hk.2.1, hk.2.2⟩)⟩, ⟨by (with_reducible repeat (first | refine blk_drewN ?_ _ | refine blk_drew ?_ | refine blk_alloc ?_ _)); exact BK469.out⟩, ⟨by (with_reducible repeat (first | refine blk_drewN ?_ _ | refine blk_drew ?_ | refine blk_alloc ?_ _)); exact BK470.out⟩, ⟨by repeat (first | (with_reducible first | exact HB.out | apply below_alloc | apply pw_below_drewN | apply below_drew1 | refine below_set ?_ GE469.out | refine below_set ?_ GE470.out) | exact HB.out)⟩⟩
                  case round =>
                    clear H'
                    try clear c1
                    try clear c2
                    try clear p2
                    try clear c3
                    try clear c4
                    try clear c5
                    try clear p6
                    try clear c9
                    try clear c10
                    try clear c11
                    try clear c11b0
                    try clear c12
                    try clear c14
                    try clear c17
                    try clear c17b0
                    try clear c18
                    try clear c23
                    try clear c23b0
                    try clear c24
                    try clear c29
                    try clear c34
                    try clear c38
                    try clear c41
                    try clear c44
                    try clear c48
                    try clear c50
                    try clear c50b0
                    try clear c51
                    try clear c53
                    try clear c56
                    try clear p64
                    try clear hcz13_0
                    try clear hcz13_1
                    try clear hcz15_0
                    try clear hcz15_1
                    try clear hcz16_0
                    try clear hcz16_1
                    try clear hcz19_0
                    try clear hcz19_1
                    try clear hcz21_0
                    try clear hcz21_1
                    try clear hcz22_0
                    try clear hcz22_1
                    try clear hcz25_0
                    try clear hcz25_1
                    try clear hcz27_0
                    try clear hcz27_1
                    try clear hcz28_0
                    try clear hcz28_1
                    try clear hcz30_0
                    try clear hcz30_1
                    try clear hcz32_0
                    try clear hcz32_1
                    try clear hcz33_0
                    try clear hcz33_1
                    try clear hcz35_0
                    try clear hcz35_1
                    try clear hcz37_0
                    try clear hcz37_1
                    try clear hcz39_0
                    try clear hcz39_1
                    try clear hcz45_0
                    try clear hcz45_1
                    try clear hcz46_0
                    try clear hcz46_1
                    try clear hcz52_0
                    try clear hcz52_1
                    try clear hcz57_0
                    try clear hcz57_1
                    try clear hcz58_0
                    try clear hcz58_1
                    try clear hfz13_0
                    try clear hfz13_1
                    try clear hfz15_0
                    try clear hfz15_1
                    try clear hfz16_0
                    try clear hfz16_1
                    try clear hfz19_0
                    try clear hfz19_1
                    try clear hfz21_0
                    try clear hfz21_1
                    try clear hfz22_0
                    try clear hfz22_1
                    try clear hfz25_0
                    try clear hfz25_1
                    try clear hfz27_0
                    try clear hfz27_1
                    try clear hfz28_0
                    try clear hfz28_1
                    try clear hfz30_0
                    try clear hfz30_1
                    try clear hfz32_0
                    try clear hfz32_1
                    try clear hfz33_0
                    try clear hfz33_1
                    try clear hfz35_0
                    try clear hfz35_1
                    try clear hfz37_0
                    try clear hfz37_1
                    try clear hfz39_0
                    try clear hfz39_1
                    try clear hfz45_0
                    try clear hfz45_1
                    try clear hfz46_0
                    try clear hfz46_1
                    try clear hfz52_0
                    try clear hfz52_1
                    try clear hfz57_0
                    try clear hfz57_1
                    try clear hfz58_0
                    try clear hfz58_1
                    try clear p2
                    try clear p6
                    obtain ⟨x10_4, x11_4, rfl, rfl, HA, HK4, HO_9, BK469, BK470, HB⟩ := hrel
                    cases gk with
                    | zero => exact absurd HA.out (by simp [assartlaw04_NodePuts.l0])
                    | succ k4 =>
                      have H := HA.out
                      clear HA
                      simp only [assartlaw04_NodePuts.l0] at H
                      by_cases c65 : x11_4 < (t481.length : Int)
                      · rw [if_pos c65] at H
                        have c65b0 : decide (x11_4 < (t481.length : Int)) = true := decide_eq_true c65
                        clear c65
                        by_cases c66 : 0 ≤ x11_4
                        · rw [if_pos c66] at H
                          have c66b0 : decide (0 ≤ x11_4) = true := decide_eq_true c66
                          clear c66
                          replace H := Option.bind_eq_some_iff.mp H
                          obtain ⟨t485, A670, H⟩ := H
                          replace H : (if t485 = true then (if 0 < ((rd_L7 t481 x11_4).length : Int) then (if ((rd_T78 (rd_L7 t481 x11_4) 0).f0) ≤ x10_4 then (some false) else (if 0 ≤ (wrap64 (((rd_L7 t481 x11_4).length : Int) - 1)) then (if (wrap64 (((rd_L7 t481 x11_4).length : Int) - 1)) < ((rd_L7 t481 x11_4).length : Int) then (assartlaw04_NodePuts.l0 k4 t471 t481 ((rd_T78 (rd_L7 t481 x11_4) (wrap64 (((rd_L7 t481 x11_4).length : Int) - 1))).f0) (wrap64 (x11_4 + 1))) else (none)) else (none))) else (none)) else (some false)) = some r := H
                          have A67 := Aside0.mk A670
                          clear A670
                          by_cases c68 : t485 = true
                          · subst c68
                            have H1 : (if 0 < ((rd_L7 t481 x11_4).length : Int) then (if ((rd_T78 (rd_L7 t481 x11_4) 0).f0) ≤ x10_4 then (some false) else (if 0 ≤ (wrap64 (((rd_L7 t481 x11_4).length : Int) - 1)) then (if (wrap64 (((rd_L7 t481 x11_4).length : Int) - 1)) < ((rd_L7 t481 x11_4).length : Int) then (assartlaw04_NodePuts.l0 k4 t471 t481 ((rd_T78 (rd_L7 t481 x11_4) (wrap64 (((rd_L7 t481 x11_4).length : Int) - 1))).f0) (wrap64 (x11_4 + 1))) else (none)) else (none))) else (none)) = some r := by rw [if_pos rfl] at H; exact H
                            clear H
                            have H := H1
                            clear H1
                            by_cases c69 : 0 < ((rd_L7 t481 x11_4).length : Int)
                            · rw [if_pos c69] at H
                              have c69b0 : decide (0 < ((rd_L7 t481 x11_4).length : Int)) = true := decide_eq_true c69
                              have c69b1 : decide (0 < (rd_L7 t481 x11_4).length) = true := decide_eq_true (by omega)
                              clear c69
                              by_cases c70 : ((rd_T78 (rd_L7 t481 x11_4) 0).f0) ≤ x10_4
                              · rw [if_pos c70] at H
                                have c70b0 : decide (((rd_T78 (rd_L7 t481 x11_4) 0).f0) ≤ x10_4) = true := decide_eq_true c70
                                clear c70
                                obtain rfl := Option.some.inj H
                                obtain ⟨Ao71, co71, eo71⟩ := Kd.N_slice HO_9.out
                                subst eo71
                                have p484 : 0 ≤ (x11_4 : Int) := of_decide_eq_true (by first | (with_reducible assumption) | assumption)
                                have q484 : x11_4 < (t481.length : Int) := of_decide_eq_true (by first | (with_reducible assumption) | assumption)
                                obtain ⟨ad484, A484_0, c484_0, e484, hx484_0, hl484_0, hi484_0⟩ := at_L7 (Kd.N_reads' HO_9.out).2.2 x11_4 p484 q484
                                cases e484
                                obtain ⟨ce484, hce484, hMe484, hcc484⟩ := Kd.N_get HO_9.out [] x11_4 p484 (by first | exact q484 | exact of_decide_eq_true (by first | (with_reducible assumption) | assumption) | (have e_ := (Kd.N_reads' HO_9.out).1; omega))
                                obtain ⟨ua484_0, uc484_0, rfl, ul484_0, ge484_0⟩ := Kd.FK_slice_open hMe484
                                have hv484_0 := hcc484 0 _ rfl
                                rw [Nat.add_zero, show ((Kd.slice 78 k78)).sz = 1 from rfl, Nat.mul_one] at hv484_0
                                replace hv484_0 := Option.some.inj (hv484_0.symm.trans hx484_0)
                                injection hv484_0 with hva_ hvn_ hvc_
                                rw [hva_] at ge484_0
                                rw [hvc_] at ul484_0
                                have HL484_0 := Aside0.mk (show Kd.V k78 78 _ w.heap.size _ _ (rd_L7 t481 x11_4) from Kd.V_mk ul484_0 ge484_0)
                                clear hva_ hvn_ hvc_ ge484_0 ul484_0
                                clear hcc484 hce484
                                have HR484_0 := Aside0.mk hi484_0
                                have HC484_0 := Aside0.mk hl484_0
                                clear hi484_0 hl484_0
                                replace p484 := eq_true p484
                                replace q484 := eq_true q484
                                go_wp2_with (first | (go_at_call 31; (with_reducible refine (assartref04_Right.calls k4 true _ _ (rd_L7 t481 x11_4) true _ ?side1 ?side2 A67.out).mono ?_); (case side1 => repeat (first | exact (by repeat (first | (with_reducible exact HR484_0.out) | (with_reducible refine Kd.C_alloc ?_ _) | (with_reducible refine Kd.C_drewN ?_ _) | (with_reducible refine Kd.C_drew ?_) | exact HR484_0.out)) | (with_reducible refine Kd.C_alloc ?_ _) | (with_reducible refine Kd.C_drewN ?_ _) | (with_reducible refine Kd.C_drew ?_))); (case side2 => exact HC484_0.out); rintro e w72 ⟨rfl, hb⟩; have n0_ := Aside0.mk (Kd.N_below (by (with_reducible repeat (first | apply Kd.N_alloc | apply Kd.N_drewN | apply Kd.N_drew)); exact HO_9.out) hb); have n1_ := Aside0.mk (Kd.V_below (by (with_reducible repeat (first | apply Kd.V_alloc | apply Kd.V_drewN | apply Kd.V_drew)); exact HL484_0.out) hb); have n2_ := Aside0.mk (blk_below (g := gb469) (o := .cells #[.bool a0_0, .slice A0_1 l0_1.length c0_1] 56 (0, 0)) (by (with_reducible repeat (first | refine blk_drewN ?_ _ | refine blk_drew ?_ | refine blk_alloc ?_ _)); exact BK469.out) hb); have n3_ := Aside0.mk (blk_below (g := gb470) (o := .cells #[.int .i64 a1_0, .int .i64 a1_1] 78 (0, 0)) (by (with_reducible repeat (first | refine blk_drewN ?_ _ | refine blk_drew ?_ | refine blk_alloc ?_ _)); exact BK470.out) hb); have n4_ := Aside0.mk (Kd.C_below (by repeat (first | (with_reducible exact HR484_0.out) | (with_reducible refine Kd.C_alloc ?_ _) | (with_reducible refine Kd.C_drewN ?_ _) | (with_reducible refine Kd.C_drew ?_) | exact HR484_0.out)) hb); have n5_ := Aside0.mk (below_step (by repeat (first | (with_reducible first | exact HB.out | apply below_alloc | apply pw_below_drewN | apply below_drew1 | refine below_set ?_ GE469.out | refine below_set ?_ GE470.out) | exact HB.out)) hb); clear HO_9; clear HL484_0; clear BK469; clear BK470; clear HR484_0; clear HB; have HO_9 := n0_; have HL484_0 := n1_; have BK469 := n2_; have BK470 := n3_; have HR484_0 := n4_; have HB := n5_; clear n0_ n1_ n2_ n3_ n4_ n5_; (try clear hb); (try clear hb2); (try clear hk); (try clear hi); have p486 : 0 ≤ (x11_4 : Int) := of_decide_eq_true (by first | (with_reducible assumption) | assumption); have q486 : x11_4 < (t481.length : Int) := of_decide_eq_true (by first | (with_reducible assumption) | assumption); obtain ⟨ad486, A486_0, c486_0, e486, hx486_0, hl486_0, hi486_0⟩ := at_L7 (Kd.N_reads' HO_9.out).2.2 x11_4 p486 q486; obtain rfl : ad484 = ad486 := (by injection e486); obtain ⟨ce486, hce486, hMe486, hcc486⟩ := Kd.N_get HO_9.out [] x11_4 p486 (by first | exact q486 | exact of_decide_eq_true (by first | (with_reducible assumption) | assumption) | (have e_ := (Kd.N_reads' HO_9.out).1; omega)); obtain ⟨ua486_0, uc486_0, rfl, ul486_0, ge486_0⟩ := Kd.FK_slice_open hMe486; have hv486_0 := hcc486 0 _ rfl; rw [Nat.add_zero, show ((Kd.slice 78 k78)).sz = 1 from rfl, Nat.mul_one] at hv486_0; replace hv486_0 := Option.some.inj (hv486_0.symm.trans hx486_0); injection hv486_0 with hva_ hvn_ hvc_; rw [hva_] at ge486_0; rw [hvc_] at ul486_0; have HL486_0 := Aside0.mk (show Kd.V k78 78 _ w.heap.size _ _ (rd_L7 t481 x11_4) from Kd.V_mk ul486_0 ge486_0); clear hva_ hvn_ hvc_ ge486_0 ul486_0; clear hcc486 hce486; have HR486_0 := Aside0.mk hi486_0; have HC486_0 := Aside0.mk hl486_0; clear hi486_0 hl486_0; replace p486 := eq_true p486; replace q486 := eq_true q486; have p487 : 0 ≤ (0 : Int) := (by omega); have q487 : 0 < ((rd_L7 t481 x11_4).length : Int) := of_decide_eq_true (by first | (with_reducible assumption) | assumption); obtain ⟨ad487, e487, hx487_0, hx487_1⟩ := at_T78 (by repeat (first | (with_reducible exact HR486_0.out) | (with_reducible refine Kd.C_alloc ?_ _) | (with_reducible refine Kd.C_drewN ?_ _) | (with_reducible refine Kd.C_drew ?_) | exact HR486_0.out)) 0 p487 q487; cases e487; have qi487 : (0 < (rd_L7 t481 x11_4).length) = True := eq_true (by omega); (try rw [show ((0 : Int)).toNat = 0 from rfl] at hx487_0); (try rw [show 0 * 2 = 0 from rfl] at hx487_0); (try rw [Addr.add_zero'] at hx487_0); (try rw [show ((0 : Int)).toNat = 0 from rfl] at hx487_1); (try rw [show 0 * 2 = 0 from rfl] at hx487_1); (try rw [Addr.add_zero'] at hx487_1); replace p487 := eq_true p487; replace q487 := eq_true q487))
                                repeat (go_quiet (first | (go_at_call 31; (with_reducible refine (assartref04_Right.calls k4 true _ _ (rd_L7 t481 x11_4) true _ ?side1 ?side2 A67.out).mono ?_); (case side1 => repeat (first | exact (by repeat (first | (with_reducible exact HR484_0.out) | (with_reducible refine Kd.C_alloc ?_ _) | (with_reducible refine Kd.C_drewN ?_ _) | (with_reducible refine Kd.C_drew ?_) | exact HR484_0.out)) | (with_reducible refine Kd.C_alloc ?_ _) | (with_reducible refine Kd.C_drewN ?_ _) | (with_reducible refine Kd.C_drew ?_))); (case side2 => exact HC484_0.out); rintro e w72 ⟨rfl, hb⟩; have n0_ := Aside0.mk (Kd.N_below (by (with_reducible repeat (first | apply Kd.N_alloc | apply Kd.N_drewN | apply Kd.N_drew)); exact HO_9.out) hb); have n1_ := Aside0.mk (Kd.V_below (by (with_reducible repeat (first | apply Kd.V_alloc | apply Kd.V_drewN | apply Kd.V_drew)); exact HL484_0.out) hb); have n2_ := Aside0.mk (blk_below (g := gb469) (o := .cells #[.bool a0_0, .slice A0_1 l0_1.length c0_1] 56 (0, 0)) (by (with_reducible repeat (first | refine blk_drewN ?_ _ | refine blk_drew ?_ | refine blk_alloc ?_ _)); exact BK469.out) hb); have n3_ := Aside0.mk (blk_below (g := gb470) (o := .cells #[.int .i64 a1_0, .int .i64 a1_1] 78 (0, 0)) (by (with_reducible repeat (first | refine blk_drewN ?_ _ | refine blk_drew ?_ | refine blk_alloc ?_ _)); exact BK470.out) hb); have n4_ := Aside0.mk (Kd.C_below (by repeat (first | (with_reducible exact HR484_0.out) | (with_reducible refine Kd.C_alloc ?_ _) | (with_reducible refine Kd.C_drewN ?_ _) | (with_reducible refine Kd.C_drew ?_) | exact HR484_0.out)) hb); have n5_ := Aside0.mk (below_step (by repeat (first | (with_reducible first | exact HB.out | apply below_alloc | apply pw_below_drewN | apply below_drew1 | refine below_set ?_ GE469.out | refine below_set ?_ GE470.out) | exact HB.out)) hb); clear HO_9; clear HL484_0; clear BK469; clear BK470; clear HR484_0; clear HB; have HO_9 := n0_; have HL484_0 := n1_; have BK469 := n2_; have BK470 := n3_; have HR484_0 := n4_; have HB := n5_; clear n0_ n1_ n2_ n3_ n4_ n5_; (try clear hb); (try clear hb2); (try clear hk); (try clear hi); have p486 : 0 ≤ (x11_4 : Int) := of_decide_eq_true (by first | (with_reducible assumption) | assumption); have q486 : x11_4 < (t481.length : Int) := of_decide_eq_true (by first | (with_reducible assumption) | assumption); obtain ⟨ad486, A486_0, c486_0, e486, hx486_0, hl486_0, hi486_0⟩ := at_L7 (Kd.N_reads' HO_9.out).2.2 x11_4 p486 q486; obtain rfl : ad484 = ad486 := (by injection e486); obtain ⟨ce486, hce486, hMe486, hcc486⟩ := Kd.N_get HO_9.out [] x11_4 p486 (by first | exact q486 | exact of_decide_eq_true (by first | (with_reducible assumption) | assumption) | (have e_ := (Kd.N_reads' HO_9.out).1; omega)); obtain ⟨ua486_0, uc486_0, rfl, ul486_0, ge486_0⟩ := Kd.FK_slice_open hMe486; have hv486_0 := hcc486 0 _ rfl; rw [Nat.add_zero, show ((Kd.slice 78 k78)).sz = 1 from rfl, Nat.mul_one] at hv486_0; replace hv486_0 := Option.some.inj (hv486_0.symm.trans hx486_0); injection hv486_0 with hva_ hvn_ hvc_; rw [hva_] at ge486_0; rw [hvc_] at ul486_0; have HL486_0 := Aside0.mk (show Kd.V k78 78 _ w.heap.size _ _ (rd_L7 t481 x11_4) from Kd.V_mk ul486_0 ge486_0); clear hva_ hvn_ hvc_ ge486_0 ul486_0; clear hcc486 hce486; have HR486_0 := Aside0.mk hi486_0; have HC486_0 := Aside0.mk hl486_0; clear hi486_0 hl486_0; replace p486 := eq_true p486; replace q486 := eq_true q486; have p487 : 0 ≤ (0 : Int) := (by omega); have q487 : 0 < ((rd_L7 t481 x11_4).length : Int) := of_decide_eq_true (by first | (with_reducible assumption) | assumption); obtain ⟨ad487, e487, hx487_0, hx487_1⟩ := at_T78 (by repeat (first | (with_reducible exact HR486_0.out) | (with_reducible refine Kd.C_alloc ?_ _) | (with_reducible refine Kd.C_drewN ?_ _) | (with_reducible refine Kd.C_drew ?_) | exact HR486_0.out)) 0 p487 q487; cases e487; have qi487 : (0 < (rd_L7 t481 x11_4).length) = True := eq_true (by omega); (try rw [show ((0 : Int)).toNat = 0 from rfl] at hx487_0); (try rw [show 0 * 2 = 0 from rfl] at hx487_0); (try rw [Addr.add_zero'] at hx487_0); (try rw [show ((0 : Int)).toNat = 0 from rfl] at hx487_1); (try rw [show 0 * 2 = 0 from rfl] at hx487_1); (try rw [Addr.add_zero'] at hx487_1); replace p487 := eq_true p487; replace q487 := eq_true q487)); try go_wp2_with (first | (go_at_call 31; (with_reducible refine (assartref04_Right.calls k4 true _ _ (rd_L7 t481 x11_4) true _ ?side1 ?side2 A67.out).mono ?_); (case side1 => repeat (first | exact (by repeat (first | (with_reducible exact HR484_0.out) | (with_reducible refine Kd.C_alloc ?_ _) | (with_reducible refine Kd.C_drewN ?_ _) | (with_reducible refine Kd.C_drew ?_) | exact HR484_0.out)) | (with_reducible refine Kd.C_alloc ?_ _) | (with_reducible refine Kd.C_drewN ?_ _) | (with_reducible refine Kd.C_drew ?_))); (case side2 => exact HC484_0.out); rintro e w72 ⟨rfl, hb⟩; have n0_ := Aside0.mk (Kd.N_below (by (with_reducible repeat (first | apply Kd.N_alloc | apply Kd.N_drewN | apply Kd.N_drew)); exact HO_9.out) hb); have n1_ := Aside0.mk (Kd.V_below (by (with_reducible repeat (first | apply Kd.V_alloc | apply Kd.V_drewN | apply Kd.V_drew)); exact HL484_0.out) hb); have n2_ := Aside0.mk (blk_below (g := gb469) (o := .cells #[.bool a0_0, .slice A0_1 l0_1.length c0_1] 56 (0, 0)) (by (with_reducible repeat (first | refine blk_drewN ?_ _ | refine blk_drew ?_ | refine blk_alloc ?_ _)); exact BK469.out) hb); have n3_ := Aside0.mk (blk_below (g := gb470) (o := .cells #[.int .i64 a1_0, .int .i64 a1_1] 78 (0, 0)) (by (with_reducible repeat (first | refine blk_drewN ?_ _ | refine blk_drew ?_ | refine blk_alloc ?_ _)); exact BK470.out) hb); have n4_ := Aside0.mk (Kd.C_below (by repeat (first | (with_reducible exact HR484_0.out) | (with_reducible refine Kd.C_alloc ?_ _) | (with_reducible refine Kd.C_drewN ?_ _) | (with_reducible refine Kd.C_drew ?_) | exact HR484_0.out)) hb); have n5_ := Aside0.mk (below_step (by repeat (first | (with_reducible first | exact HB.out | apply below_alloc | apply pw_below_drewN | apply below_drew1 | refine below_set ?_ GE469.out | refine below_set ?_ GE470.out) | exact HB.out)) hb); clear HO_9; clear HL484_0; clear BK469; clear BK470; clear HR484_0; clear HB; have HO_9 := n0_; have HL484_0 := n1_; have BK469 := n2_; have BK470 := n3_; have HR484_0 := n4_; have HB := n5_; clear n0_ n1_ n2_ n3_ n4_ n5_; (try clear hb); (try clear hb2); (try clear hk); (try clear hi); have p486 : 0 ≤ (x11_4 : Int) := of_decide_eq_true (by first | (with_reducible assumption) | assumption); have q486 : x11_4 < (t481.length : Int) := of_decide_eq_true (by first | (with_reducible assumption) | assumption); obtain ⟨ad486, A486_0, c486_0, e486, hx486_0, hl486_0, hi486_0⟩ := at_L7 (Kd.N_reads' HO_9.out).2.2 x11_4 p486 q486; obtain rfl : ad484 = ad486 := (by injection e486); obtain ⟨ce486, hce486, hMe486, hcc486⟩ := Kd.N_get HO_9.out [] x11_4 p486 (by first | exact q486 | exact of_decide_eq_true (by first | (with_reducible assumption) | assumption) | (have e_ := (Kd.N_reads' HO_9.out).1; omega)); obtain ⟨ua486_0, uc486_0, rfl, ul486_0, ge486_0⟩ := Kd.FK_slice_open hMe486; have hv486_0 := hcc486 0 _ rfl; rw [Nat.add_zero, show ((Kd.slice 78 k78)).sz = 1 from rfl, Nat.mul_one] at hv486_0; replace hv486_0 := Option.some.inj (hv486_0.symm.trans hx486_0); injection hv486_0 with hva_ hvn_ hvc_; rw [hva_] at ge486_0; rw [hvc_] at ul486_0; have HL486_0 := Aside0.mk (show Kd.V k78 78 _ w.heap.size _ _ (rd_L7 t481 x11_4) from Kd.V_mk ul486_0 ge486_0); clear hva_ hvn_ hvc_ ge486_0 ul486_0; clear hcc486 hce486; have HR486_0 := Aside0.mk hi486_0; have HC486_0 := Aside0.mk hl486_0; clear hi486_0 hl486_0; replace p486 := eq_true p486; replace q486 := eq_true q486; have p487 : 0 ≤ (0 : Int) := (by omega); have q487 : 0 < ((rd_L7 t481 x11_4).length : Int) := of_decide_eq_true (by first | (with_reducible assumption) | assumption); obtain ⟨ad487, e487, hx487_0, hx487_1⟩ := at_T78 (by repeat (first | (with_reducible exact HR486_0.out) | (with_reducible refine Kd.C_alloc ?_ _) | (with_reducible refine Kd.C_drewN ?_ _) | (with_reducible refine Kd.C_drew ?_) | exact HR486_0.out)) 0 p487 q487; cases e487; have qi487 : (0 < (rd_L7 t481 x11_4).length) = True := eq_true (by omega); (try rw [show ((0 : Int)).toNat = 0 from rfl] at hx487_0); (try rw [show 0 * 2 = 0 from rfl] at hx487_0); (try rw [Addr.add_zero'] at hx487_0); (try rw [show ((0 : Int)).toNat = 0 from rfl] at hx487_1); (try rw [show 0 * 2 = 0 from rfl] at hx487_1); (try rw [Addr.add_zero'] at hx487_1); replace p487 := eq_true p487; replace q487 := eq_true q487)))
                                go_ret
                                exact ⟨by first | rfl | (simp [errW_none, errW_some] <;> rfl) | (simp [*, errW_none, errW_some] <;> rfl), by repeat (first | (with_reducible first | exact HB.out | apply below_alloc | apply pw_below_drewN | apply below_drew1 | refine below_set ?_ GE469.out | refine below_set ?_ GE470.out) | exact HB.out)⟩
                              · rw [if_neg c70] at H
                                have c70b0 : decide (((rd_T78 (rd_L7 t481 x11_4) 0).f0) ≤ x10_4) = false := decide_eq_false c70
                                clear c70
                                obtain ⟨ji73, hji73⟩ : ∃ j_ : Int, (wrap64 (((rd_L7 t481 x11_4).length : Int) - 1)) = j_ := ⟨_, rfl⟩
                                replace H : (if 0 ≤ (ji73) then (if (ji73) < ((rd_L7 t481 x11_4).length : Int) then (assartlaw04_NodePuts.l0 k4 t471 t481 ((rd_T78 (rd_L7 t481 x11_4) (ji73)).f0) (wrap64 (x11_4 + 1))) else (none)) else (none)) = some r := by first | (rw [hji73] at H; exact H) | (simp only [hji73] at H ⊢; exact H)
                                (try rw [hji73] at A67)
                                have hji73w : (IntKind.i64.wrap (((rd_L7 t481 x11_4).length : Int) - 1)) = ji73 := (i64_w _).trans hji73
                                by_cases c74 : 0 ≤ (ji73)
                                · rw [if_pos c74] at H
                                  have c74b0 : decide (0 ≤ (ji73)) = true := decide_eq_true c74
                                  clear c74
                                  by_cases c75 : (ji73) < ((rd_L7 t481 x11_4).length : Int)
                                  · rw [if_pos c75] at H
                                    have c75b0 : decide ((ji73) < ((rd_L7 t481 x11_4).length : Int)) = true := decide_eq_true c75
                                    clear c75
                                    have H' := Aside0.mk H
                                    clear H
                                    obtain ⟨Ao76, co76, eo76⟩ := Kd.N_slice HO_9.out
                                    subst eo76
                                    have p484 : 0 ≤ (x11_4 : Int) := of_decide_eq_true (by first | (with_reducible assumption) | assumption)
                                    have q484 : x11_4 < (t481.length : Int) := of_decide_eq_true (by first | (with_reducible assumption) | assumption)
                                    obtain ⟨ad484, A484_0, c484_0, e484, hx484_0, hl484_0, hi484_0⟩ := at_L7 (Kd.N_reads' HO_9.out).2.2 x11_4 p484 q484
                                    cases e484
                                    obtain ⟨ce484, hce484, hMe484, hcc484⟩ := Kd.N_get HO_9.out [] x11_4 p484 (by first | exact q484 | exact of_decide_eq_true (by first | (with_reducible assumption) | assumption) | (have e_ := (Kd.N_reads' HO_9.out).1; omega))
                                    obtain ⟨ua484_0, uc484_0, rfl, ul484_0, ge484_0⟩ := Kd.FK_slice_open hMe484
                                    have hv484_0 := hcc484 0 _ rfl
                                    rw [Nat.add_zero, show ((Kd.slice 78 k78)).sz = 1 from rfl, Nat.mul_one] at hv484_0
                                    replace hv484_0 := Option.some.inj (hv484_0.symm.trans hx484_0)
                                    injection hv484_0 with hva_ hvn_ hvc_
                                    rw [hva_] at ge484_0
                                    rw [hvc_] at ul484_0
                                    have HL484_0 := Aside0.mk (show Kd.V k78 78 _ w.heap.size _ _ (rd_L7 t481 x11_4) from Kd.V_mk ul484_0 ge484_0)
                                    clear hva_ hvn_ hvc_ ge484_0 ul484_0
                                    clear hcc484 hce484
                                    have HR484_0 := Aside0.mk hi484_0
                                    have HC484_0 := Aside0.mk hl484_0
                                    clear hi484_0 hl484_0
                                    replace p484 := eq_true p484
                                    replace q484 := eq_true q484
                                    go_wp2_with (first | (go_at_call 31; (with_reducible refine (assartref04_Right.calls k4 true _ _ (rd_L7 t481 x11_4) true _ ?side1 ?side2 A67.out).mono ?_); (case side1 => repeat (first | exact (by repeat (first | (with_reducible exact HR484_0.out) | (with_reducible refine Kd.C_alloc ?_ _) | (with_reducible refine Kd.C_drewN ?_ _) | (with_reducible refine Kd.C_drew ?_) | exact HR484_0.out)) | (with_reducible refine Kd.C_alloc ?_ _) | (with_reducible refine Kd.C_drewN ?_ _) | (with_reducible refine Kd.C_drew ?_))); (case side2 => exact HC484_0.out); rintro e w77 ⟨rfl, hb⟩; have n0_ := Aside0.mk (Kd.N_below (by (with_reducible repeat (first | apply Kd.N_alloc | apply Kd.N_drewN | apply Kd.N_drew)); exact HO_9.out) hb); have n1_ := Aside0.mk (Kd.V_below (by (with_reducible repeat (first | apply Kd.V_alloc | apply Kd.V_drewN | apply Kd.V_drew)); exact HL484_0.out) hb); have n2_ := Aside0.mk (blk_below (g := gb469) (o := .cells #[.bool a0_0, .slice A0_1 l0_1.length c0_1] 56 (0, 0)) (by (with_reducible repeat (first | refine blk_drewN ?_ _ | refine blk_drew ?_ | refine blk_alloc ?_ _)); exact BK469.out) hb); have n3_ := Aside0.mk (blk_below (g := gb470) (o := .cells #[.int .i64 a1_0, .int .i64 a1_1] 78 (0, 0)) (by (with_reducible repeat (first | refine blk_drewN ?_ _ | refine blk_drew ?_ | refine blk_alloc ?_ _)); exact BK470.out) hb); have n4_ := Aside0.mk (Kd.C_below (by repeat (first | (with_reducible exact HR484_0.out) | (with_reducible refine Kd.C_alloc ?_ _) | (with_reducible refine Kd.C_drewN ?_ _) | (with_reducible refine Kd.C_drew ?_) | exact HR484_0.out)) hb); have n5_ := Aside0.mk (below_step (by repeat (first | (with_reducible first | exact HB.out | apply below_alloc | apply pw_below_drewN | apply below_drew1 | refine below_set ?_ GE469.out | refine below_set ?_ GE470.out) | exact HB.out)) hb); clear HO_9; clear HL484_0; clear BK469; clear BK470; clear HR484_0; clear HB; have HO_9 := n0_; have HL484_0 := n1_; have BK469 := n2_; have BK470 := n3_; have HR484_0 := n4_; have HB := n5_; clear n0_ n1_ n2_ n3_ n4_ n5_; (try clear hb); (try clear hb2); (try clear hk); (try clear hi); have p486 : 0 ≤ (x11_4 : Int) := of_decide_eq_true (by first | (with_reducible assumption) | assumption); have q486 : x11_4 < (t481.length : Int) := of_decide_eq_true (by first | (with_reducible assumption) | assumption); obtain ⟨ad486, A486_0, c486_0, e486, hx486_0, hl486_0, hi486_0⟩ := at_L7 (Kd.N_reads' HO_9.out).2.2 x11_4 p486 q486; obtain rfl : ad484 = ad486 := (by injection e486); obtain ⟨ce486, hce486, hMe486, hcc486⟩ := Kd.N_get HO_9.out [] x11_4 p486 (by first | exact q486 | exact of_decide_eq_true (by first | (with_reducible assumption) | assumption) | (have e_ := (Kd.N_reads' HO_9.out).1; omega)); obtain ⟨ua486_0, uc486_0, rfl, ul486_0, ge486_0⟩ := Kd.FK_slice_open hMe486; have hv486_0 := hcc486 0 _ rfl; rw [Nat.add_zero, show ((Kd.slice 78 k78)).sz = 1 from rfl, Nat.mul_one] at hv486_0; replace hv486_0 := Option.some.inj (hv486_0.symm.trans hx486_0); injection hv486_0 with hva_ hvn_ hvc_; rw [hva_] at ge486_0; rw [hvc_] at ul486_0; have HL486_0 := Aside0.mk (show Kd.V k78 78 _ w.heap.size _ _ (rd_L7 t481 x11_4) from Kd.V_mk ul486_0 ge486_0); clear hva_ hvn_ hvc_ ge486_0 ul486_0; clear hcc486 hce486; have HR486_0 := Aside0.mk hi486_0; have HC486_0 := Aside0.mk hl486_0; clear hi486_0 hl486_0; replace p486 := eq_true p486; replace q486 := eq_true q486; have p487 : 0 ≤ (0 : Int) := (by omega); have q487 : 0 < ((rd_L7 t481 x11_4).length : Int) := of_decide_eq_true (by first | (with_reducible assumption) | assumption); obtain ⟨ad487, e487, hx487_0, hx487_1⟩ := at_T78 (by repeat (first | (with_reducible exact HR486_0.out) | (with_reducible refine Kd.C_alloc ?_ _) | (with_reducible refine Kd.C_drewN ?_ _) | (with_reducible refine Kd.C_drew ?_) | exact HR486_0.out)) 0 p487 q487; cases e487; have qi487 : (0 < (rd_L7 t481 x11_4).length) = True := eq_true (by omega); (try rw [show ((0 : Int)).toNat = 0 from rfl] at hx487_0); (try rw [show 0 * 2 = 0 from rfl] at hx487_0); (try rw [Addr.add_zero'] at hx487_0); (try rw [show ((0 : Int)).toNat = 0 from rfl] at hx487_1); (try rw [show 0 * 2 = 0 from rfl] at hx487_1); (try rw [Addr.add_zero'] at hx487_1); replace p487 := eq_true p487; replace q487 := eq_true q487; have p488 : 0 ≤ (x11_4 : Int) := of_decide_eq_true (by first | (with_reducible assumption) | assumption); have q488 : x11_4 < (t481.length : Int) := of_decide_eq_true (by first | (with_reducible assumption) | assumption); obtain ⟨ad488, A488_0, c488_0, e488, hx488_0, hl488_0, hi488_0⟩ := at_L7 (Kd.N_reads' HO_9.out).2.2 x11_4 p488 q488; obtain rfl : ad484 = ad488 := (by injection e488); obtain ⟨ce488, hce488, hMe488, hcc488⟩ := Kd.N_get HO_9.out [] x11_4 p488 (by first | exact q488 | exact of_decide_eq_true (by first | (with_reducible assumption) | assumption) | (have e_ := (Kd.N_reads' HO_9.out).1; omega)); obtain ⟨ua488_0, uc488_0, rfl, ul488_0, ge488_0⟩ := Kd.FK_slice_open hMe488; have hv488_0 := hcc488 0 _ rfl; rw [Nat.add_zero, show ((Kd.slice 78 k78)).sz = 1 from rfl, Nat.mul_one] at hv488_0; replace hv488_0 := Option.some.inj (hv488_0.symm.trans hx488_0); injection hv488_0 with hva_ hvn_ hvc_; rw [hva_] at ge488_0; rw [hvc_] at ul488_0; have HL488_0 := Aside0.mk (show Kd.V k78 78 _ w.heap.size _ _ (rd_L7 t481 x11_4) from Kd.V_mk ul488_0 ge488_0); clear hva_ hvn_ hvc_ ge488_0 ul488_0; clear hcc488 hce488; have HR488_0 := Aside0.mk hi488_0; have HC488_0 := Aside0.mk hl488_0; clear hi488_0 hl488_0; replace p488 := eq_true p488; replace q488 := eq_true q488; have ea_ := Option.some.inj (hx486_0.symm.trans hx488_0); injection ea_ with ea_ en_ ec_; subst ea_; subst ec_; clear en_; have p489 : 0 ≤ (x11_4 : Int) := of_decide_eq_true (by first | (with_reducible assumption) | assumption); have q489 : x11_4 < (t481.length : Int) := of_decide_eq_true (by first | (with_reducible assumption) | assumption); obtain ⟨ad489, A489_0, c489_0, e489, hx489_0, hl489_0, hi489_0⟩ := at_L7 (Kd.N_reads' HO_9.out).2.2 x11_4 p489 q489; obtain rfl : ad484 = ad489 := (by injection e489); obtain ⟨ce489, hce489, hMe489, hcc489⟩ := Kd.N_get HO_9.out [] x11_4 p489 (by first | exact q489 | exact of_decide_eq_true (by first | (with_reducible assumption) | assumption) | (have e_ := (Kd.N_reads' HO_9.out).1; omega)); obtain ⟨ua489_0, uc489_0, rfl, ul489_0, ge489_0⟩ := Kd.FK_slice_open hMe489; have hv489_0 := hcc489 0 _ rfl; rw [Nat.add_zero, show ((Kd.slice 78 k78)).sz = 1 from rfl, Nat.mul_one] at hv489_0; replace hv489_0 := Option.some.inj (hv489_0.symm.trans hx489_0); injection hv489_0 with hva_ hvn_ hvc_; rw [hva_] at ge489_0; rw [hvc_] at ul489_0; have HL489_0 := Aside0.mk (show Kd.V k78 78 _ w.heap.size _ _ (rd_L7 t481 x11_4) from Kd.V_mk ul489_0 ge489_0); clear hva_ hvn_ hvc_ ge489_0 ul489_0; clear hcc489 hce489; have HR489_0 := Aside0.mk hi489_0; have HC489_0 := Aside0.mk hl489_0; clear hi489_0 hl489_0; replace p489 := eq_true p489; replace q489 := eq_true q489; have ea_ := Option.some.inj (hx486_0.symm.trans hx489_0); injection ea_ with ea_ en_ ec_; subst ea_; subst ec_; clear en_; have p490 : 0 ≤ ((ji73) : Int) := of_decide_eq_true (by first | (with_reducible assumption) | assumption); have q490 : (ji73) < ((rd_L7 t481 x11_4).length : Int) := of_decide_eq_true (by first | (with_reducible assumption) | assumption); obtain ⟨ad490, e490, hx490_0, hx490_1⟩ := at_T78 (by repeat (first | (with_reducible exact HR488_0.out) | (with_reducible refine Kd.C_alloc ?_ _) | (with_reducible refine Kd.C_drewN ?_ _) | (with_reducible refine Kd.C_drew ?_) | exact HR488_0.out)) (ji73) p490 q490; cases e490; replace p490 := eq_true p490; replace q490 := eq_true q490))
                                    repeat (go_quiet (first | (go_at_call 31; (with_reducible refine (assartref04_Right.calls k4 true _ _ (rd_L7 t481 x11_4) true _ ?side1 ?side2 A67.out).mono ?_); (case side1 => repeat (first | exact (by repeat (first | (with_reducible exact HR484_0.out) | (with_reducible refine Kd.C_alloc ?_ _) | (with_reducible refine Kd.C_drewN ?_ _) | (with_reducible refine Kd.C_drew ?_) | exact HR484_0.out)) | (with_reducible refine Kd.C_alloc ?_ _) | (with_reducible refine Kd.C_drewN ?_ _) | (with_reducible refine Kd.C_drew ?_))); (case side2 => exact HC484_0.out); rintro e w77 ⟨rfl, hb⟩; have n0_ := Aside0.mk (Kd.N_below (by (with_reducible repeat (first | apply Kd.N_alloc | apply Kd.N_drewN | apply Kd.N_drew)); exact HO_9.out) hb); have n1_ := Aside0.mk (Kd.V_below (by (with_reducible repeat (first | apply Kd.V_alloc | apply Kd.V_drewN | apply Kd.V_drew)); exact HL484_0.out) hb); have n2_ := Aside0.mk (blk_below (g := gb469) (o := .cells #[.bool a0_0, .slice A0_1 l0_1.length c0_1] 56 (0, 0)) (by (with_reducible repeat (first | refine blk_drewN ?_ _ | refine blk_drew ?_ | refine blk_alloc ?_ _)); exact BK469.out) hb); have n3_ := Aside0.mk (blk_below (g := gb470) (o := .cells #[.int .i64 a1_0, .int .i64 a1_1] 78 (0, 0)) (by (with_reducible repeat (first | refine blk_drewN ?_ _ | refine blk_drew ?_ | refine blk_alloc ?_ _)); exact BK470.out) hb); have n4_ := Aside0.mk (Kd.C_below (by repeat (first | (with_reducible exact HR484_0.out) | (with_reducible refine Kd.C_alloc ?_ _) | (with_reducible refine Kd.C_drewN ?_ _) | (with_reducible refine Kd.C_drew ?_) | exact HR484_0.out)) hb); have n5_ := Aside0.mk (below_step (by repeat (first | (with_reducible first | exact HB.out | apply below_alloc | apply pw_below_drewN | apply below_drew1 | refine below_set ?_ GE469.out | refine below_set ?_ GE470.out) | exact HB.out)) hb); clear HO_9; clear HL484_0; clear BK469; clear BK470; clear HR484_0; clear HB; have HO_9 := n0_; have HL484_0 := n1_; have BK469 := n2_; have BK470 := n3_; have HR484_0 := n4_; have HB := n5_; clear n0_ n1_ n2_ n3_ n4_ n5_; (try clear hb); (try clear hb2); (try clear hk); (try clear hi); have p486 : 0 ≤ (x11_4 : Int) := of_decide_eq_true (by first | (with_reducible assumption) | assumption); have q486 : x11_4 < (t481.length : Int) := of_decide_eq_true (by first | (with_reducible assumption) | assumption); obtain ⟨ad486, A486_0, c486_0, e486, hx486_0, hl486_0, hi486_0⟩ := at_L7 (Kd.N_reads' HO_9.out).2.2 x11_4 p486 q486; obtain rfl : ad484 = ad486 := (by injection e486); obtain ⟨ce486, hce486, hMe486, hcc486⟩ := Kd.N_get HO_9.out [] x11_4 p486 (by first | exact q486 | exact of_decide_eq_true (by first | (with_reducible assumption) | assumption) | (have e_ := (Kd.N_reads' HO_9.out).1; omega)); obtain ⟨ua486_0, uc486_0, rfl, ul486_0, ge486_0⟩ := Kd.FK_slice_open hMe486; have hv486_0 := hcc486 0 _ rfl; rw [Nat.add_zero, show ((Kd.slice 78 k78)).sz = 1 from rfl, Nat.mul_one] at hv486_0; replace hv486_0 := Option.some.inj (hv486_0.symm.trans hx486_0); injection hv486_0 with hva_ hvn_ hvc_; rw [hva_] at ge486_0; rw [hvc_] at ul486_0; have HL486_0 := Aside0.mk (show Kd.V k78 78 _ w.heap.size _ _ (rd_L7 t481 x11_4) from Kd.V_mk ul486_0 ge486_0); clear hva_ hvn_ hvc_ ge486_0 ul486_0; clear hcc486 hce486; have HR486_0 := Aside0.mk hi486_0; have HC486_0 := Aside0.mk hl486_0; clear hi486_0 hl486_0; replace p486 := eq_true p486; replace q486 := eq_true q486; have p487 : 0 ≤ (0 : Int) := (by omega); have q487 : 0 < ((rd_L7 t481 x11_4).length : Int) := of_decide_eq_true (by first | (with_reducible assumption) | assumption); obtain ⟨ad487, e487, hx487_0, hx487_1⟩ := at_T78 (by repeat (first | (with_reducible exact HR486_0.out) | (with_reducible refine Kd.C_alloc ?_ _) | (with_reducible refine Kd.C_drewN ?_ _) | (with_reducible refine Kd.C_drew ?_) | exact HR486_0.out)) 0 p487 q487; cases e487; have qi487 : (0 < (rd_L7 t481 x11_4).length) = True := eq_true (by omega); (try rw [show ((0 : Int)).toNat = 0 from rfl] at hx487_0); (try rw [show 0 * 2 = 0 from rfl] at hx487_0); (try rw [Addr.add_zero'] at hx487_0); (try rw [show ((0 : Int)).toNat = 0 from rfl] at hx487_1); (try rw [show 0 * 2 = 0 from rfl] at hx487_1); (try rw [Addr.add_zero'] at hx487_1); replace p487 := eq_true p487; replace q487 := eq_true q487; have p488 : 0 ≤ (x11_4 : Int) := of_decide_eq_true (by first | (with_reducible assumption) | assumption); have q488 : x11_4 < (t481.length : Int) := of_decide_eq_true (by first | (with_reducible assumption) | assumption); obtain ⟨ad488, A488_0, c488_0, e488, hx488_0, hl488_0, hi488_0⟩ := at_L7 (Kd.N_reads' HO_9.out).2.2 x11_4 p488 q488; obtain rfl : ad484 = ad488 := (by injection e488); obtain ⟨ce488, hce488, hMe488, hcc488⟩ := Kd.N_get HO_9.out [] x11_4 p488 (by first | exact q488 | exact of_decide_eq_true (by first | (with_reducible assumption) | assumption) | (have e_ := (Kd.N_reads' HO_9.out).1; omega)); obtain ⟨ua488_0, uc488_0, rfl, ul488_0, ge488_0⟩ := Kd.FK_slice_open hMe488; have hv488_0 := hcc488 0 _ rfl; rw [Nat.add_zero, show ((Kd.slice 78 k78)).sz = 1 from rfl, Nat.mul_one] at hv488_0; replace hv488_0 := Option.some.inj (hv488_0.symm.trans hx488_0); injection hv488_0 with hva_ hvn_ hvc_; rw [hva_] at ge488_0; rw [hvc_] at ul488_0; have HL488_0 := Aside0.mk (show Kd.V k78 78 _ w.heap.size _ _ (rd_L7 t481 x11_4) from Kd.V_mk ul488_0 ge488_0); clear hva_ hvn_ hvc_ ge488_0 ul488_0; clear hcc488 hce488; have HR488_0 := Aside0.mk hi488_0; have HC488_0 := Aside0.mk hl488_0; clear hi488_0 hl488_0; replace p488 := eq_true p488; replace q488 := eq_true q488; have ea_ := Option.some.inj (hx486_0.symm.trans hx488_0); injection ea_ with ea_ en_ ec_; subst ea_; subst ec_; clear en_; have p489 : 0 ≤ (x11_4 : Int) := of_decide_eq_true (by first | (with_reducible assumption) | assumption); have q489 : x11_4 < (t481.length : Int) := of_decide_eq_true (by first | (with_reducible assumption) | assumption); obtain ⟨ad489, A489_0, c489_0, e489, hx489_0, hl489_0, hi489_0⟩ := at_L7 (Kd.N_reads' HO_9.out).2.2 x11_4 p489 q489; obtain rfl : ad484 = ad489 := (by injection e489); obtain ⟨ce489, hce489, hMe489, hcc489⟩ := Kd.N_get HO_9.out [] x11_4 p489 (by first | exact q489 | exact of_decide_eq_true (by first | (with_reducible assumption) | assumption) | (have e_ := (Kd.N_reads' HO_9.out).1; omega)); obtain ⟨ua489_0, uc489_0, rfl, ul489_0, ge489_0⟩ := Kd.FK_slice_open hMe489; have hv489_0 := hcc489 0 _ rfl; rw [Nat.add_zero, show ((Kd.slice 78 k78)).sz = 1 from rfl, Nat.mul_one] at hv489_0; replace hv489_0 := Option.some.inj (hv489_0.symm.trans hx489_0); injection hv489_0 with hva_ hvn_ hvc_; rw [hva_] at ge489_0; rw [hvc_] at ul489_0; have HL489_0 := Aside0.mk (show Kd.V k78 78 _ w.heap.size _ _ (rd_L7 t481 x11_4) from Kd.V_mk ul489_0 ge489_0); clear hva_ hvn_ hvc_ ge489_0 ul489_0; clear hcc489 hce489; have HR489_0 := Aside0.mk hi489_0; have HC489_0 := Aside0.mk hl489_0; clear hi489_0 hl489_0; replace p489 := eq_true p489; replace q489 := eq_true q489; have ea_ := Option.some.inj (hx486_0.symm.trans hx489_0); injection ea_ with ea_ en_ ec_; subst ea_; subst ec_; clear en_; have p490 : 0 ≤ ((ji73) : Int) := of_decide_eq_true (by first | (with_reducible assumption) | assumption); have q490 : (ji73) < ((rd_L7 t481 x11_4).length : Int) := of_decide_eq_true (by first | (with_reducible assumption) | assumption); obtain ⟨ad490, e490, hx490_0, hx490_1⟩ := at_T78 (by repeat (first | (with_reducible exact HR488_0.out) | (with_reducible refine Kd.C_alloc ?_ _) | (with_reducible refine Kd.C_drewN ?_ _) | (with_reducible refine Kd.C_drew ?_) | exact HR488_0.out)) (ji73) p490 q490; cases e490; replace p490 := eq_true p490; replace q490 := eq_true q490)); try go_wp2_with (first | (go_at_call 31; (with_reducible refine (assartref04_Right.calls k4 true _ _ (rd_L7 t481 x11_4) true _ ?side1 ?side2 A67.out).mono ?_); (case side1 => repeat (first | exact (by repeat (first | (with_reducible exact HR484_0.out) | (with_reducible refine Kd.C_alloc ?_ _) | (with_reducible refine Kd.C_drewN ?_ _) | (with_reducible refine Kd.C_drew ?_) | exact HR484_0.out)) | (with_reducible refine Kd.C_alloc ?_ _) | (with_reducible refine Kd.C_drewN ?_ _) | (with_reducible refine Kd.C_drew ?_))); (case side2 => exact HC484_0.out); rintro e w77 ⟨rfl, hb⟩; have n0_ := Aside0.mk (Kd.N_below (by (with_reducible repeat (first | apply Kd.N_alloc | apply Kd.N_drewN | apply Kd.N_drew)); exact HO_9.out) hb); have n1_ := Aside0.mk (Kd.V_below (by (with_reducible repeat (first | apply Kd.V_alloc | apply Kd.V_drewN | apply Kd.V_drew)); exact HL484_0.out) hb); have n2_ := Aside0.mk (blk_below (g := gb469) (o := .cells #[.bool a0_0, .slice A0_1 l0_1.length c0_1] 56 (0, 0)) (by (with_reducible repeat (first | refine blk_drewN ?_ _ | refine blk_drew ?_ | refine blk_alloc ?_ _)); exact BK469.out) hb); have n3_ := Aside0.mk (blk_below (g := gb470) (o := .cells #[.int .i64 a1_0, .int .i64 a1_1] 78 (0, 0)) (by (with_reducible repeat (first | refine blk_drewN ?_ _ | refine blk_drew ?_ | refine blk_alloc ?_ _)); exact BK470.out) hb); have n4_ := Aside0.mk (Kd.C_below (by repeat (first | (with_reducible exact HR484_0.out) | (with_reducible refine Kd.C_alloc ?_ _) | (with_reducible refine Kd.C_drewN ?_ _) | (with_reducible refine Kd.C_drew ?_) | exact HR484_0.out)) hb); have n5_ := Aside0.mk (below_step (by repeat (first | (with_reducible first | exact HB.out | apply below_alloc | apply pw_below_drewN | apply below_drew1 | refine below_set ?_ GE469.out | refine below_set ?_ GE470.out) | exact HB.out)) hb); clear HO_9; clear HL484_0; clear BK469; clear BK470; clear HR484_0; clear HB; have HO_9 := n0_; have HL484_0 := n1_; have BK469 := n2_; have BK470 := n3_; have HR484_0 := n4_; have HB := n5_; clear n0_ n1_ n2_ n3_ n4_ n5_; (try clear hb); (try clear hb2); (try clear hk); (try clear hi); have p486 : 0 ≤ (x11_4 : Int) := of_decide_eq_true (by first | (with_reducible assumption) | assumption); have q486 : x11_4 < (t481.length : Int) := of_decide_eq_true (by first | (with_reducible assumption) | assumption); obtain ⟨ad486, A486_0, c486_0, e486, hx486_0, hl486_0, hi486_0⟩ := at_L7 (Kd.N_reads' HO_9.out).2.2 x11_4 p486 q486; obtain rfl : ad484 = ad486 := (by injection e486); obtain ⟨ce486, hce486, hMe486, hcc486⟩ := Kd.N_get HO_9.out [] x11_4 p486 (by first | exact q486 | exact of_decide_eq_true (by first | (with_reducible assumption) | assumption) | (have e_ := (Kd.N_reads' HO_9.out).1; omega)); obtain ⟨ua486_0, uc486_0, rfl, ul486_0, ge486_0⟩ := Kd.FK_slice_open hMe486; have hv486_0 := hcc486 0 _ rfl; rw [Nat.add_zero, show ((Kd.slice 78 k78)).sz = 1 from rfl, Nat.mul_one] at hv486_0; replace hv486_0 := Option.some.inj (hv486_0.symm.trans hx486_0); injection hv486_0 with hva_ hvn_ hvc_; rw [hva_] at ge486_0; rw [hvc_] at ul486_0; have HL486_0 := Aside0.mk (show Kd.V k78 78 _ w.heap.size _ _ (rd_L7 t481 x11_4) from Kd.V_mk ul486_0 ge486_0); clear hva_ hvn_ hvc_ ge486_0 ul486_0; clear hcc486 hce486; have HR486_0 := Aside0.mk hi486_0; have HC486_0 := Aside0.mk hl486_0; clear hi486_0 hl486_0; replace p486 := eq_true p486; replace q486 := eq_true q486; have p487 : 0 ≤ (0 : Int) := (by omega); have q487 : 0 < ((rd_L7 t481 x11_4).length : Int) := of_decide_eq_true (by first | (with_reducible assumption) | assumption); obtain ⟨ad487, e487, hx487_0, hx487_1⟩ := at_T78 (by repeat (first | (with_reducible exact HR486_0.out) | (with_reducible refine Kd.C_alloc ?_ _) | (with_reducible refine Kd.C_drewN ?_ _) | (with_reducible refine Kd.C_drew ?_) | exact HR486_0.out)) 0 p487 q487; cases e487; have qi487 : (0 < (rd_L7 t481 x11_4).length) = True := eq_true (by omega); (try rw [show ((0 : Int)).toNat = 0 from rfl] at hx487_0); (try rw [show 0 * 2 = 0 from rfl] at hx487_0); (try rw [Addr.add_zero'] at hx487_0); (try rw [show ((0 : Int)).toNat = 0 from rfl] at hx487_1); (try rw [show 0 * 2 = 0 from rfl] at hx487_1); (try rw [Addr.add_zero'] at hx487_1); replace p487 := eq_true p487; replace q487 := eq_true q487; have p488 : 0 ≤ (x11_4 : Int) := of_decide_eq_true (by first | (with_reducible assumption) | assumption); have q488 : x11_4 < (t481.length : Int) := of_decide_eq_true (by first | (with_reducible assumption) | assumption); obtain ⟨ad488, A488_0, c488_0, e488, hx488_0, hl488_0, hi488_0⟩ := at_L7 (Kd.N_reads' HO_9.out).2.2 x11_4 p488 q488; obtain rfl : ad484 = ad488 := (by injection e488); obtain ⟨ce488, hce488, hMe488, hcc488⟩ := Kd.N_get HO_9.out [] x11_4 p488 (by first | exact q488 | exact of_decide_eq_true (by first | (with_reducible assumption) | assumption) | (have e_ := (Kd.N_reads' HO_9.out).1; omega)); obtain ⟨ua488_0, uc488_0, rfl, ul488_0, ge488_0⟩ := Kd.FK_slice_open hMe488; have hv488_0 := hcc488 0 _ rfl; rw [Nat.add_zero, show ((Kd.slice 78 k78)).sz = 1 from rfl, Nat.mul_one] at hv488_0; replace hv488_0 := Option.some.inj (hv488_0.symm.trans hx488_0); injection hv488_0 with hva_ hvn_ hvc_; rw [hva_] at ge488_0; rw [hvc_] at ul488_0; have HL488_0 := Aside0.mk (show Kd.V k78 78 _ w.heap.size _ _ (rd_L7 t481 x11_4) from Kd.V_mk ul488_0 ge488_0); clear hva_ hvn_ hvc_ ge488_0 ul488_0; clear hcc488 hce488; have HR488_0 := Aside0.mk hi488_0; have HC488_0 := Aside0.mk hl488_0; clear hi488_0 hl488_0; replace p488 := eq_true p488; replace q488 := eq_true q488; have ea_ := Option.some.inj (hx486_0.symm.trans hx488_0); injection ea_ with ea_ en_ ec_; subst ea_; subst ec_; clear en_; have p489 : 0 ≤ (x11_4 : Int) := of_decide_eq_true (by first | (with_reducible assumption) | assumption); have q489 : x11_4 < (t481.length : Int) := of_decide_eq_true (by first | (with_reducible assumption) | assumption); obtain ⟨ad489, A489_0, c489_0, e489, hx489_0, hl489_0, hi489_0⟩ := at_L7 (Kd.N_reads' HO_9.out).2.2 x11_4 p489 q489; obtain rfl : ad484 = ad489 := (by injection e489); obtain ⟨ce489, hce489, hMe489, hcc489⟩ := Kd.N_get HO_9.out [] x11_4 p489 (by first | exact q489 | exact of_decide_eq_true (by first | (with_reducible assumption) | assumption) | (have e_ := (Kd.N_reads' HO_9.out).1; omega)); obtain ⟨ua489_0, uc489_0, rfl, ul489_0, ge489_0⟩ := Kd.FK_slice_open hMe489; have hv489_0 := hcc489 0 _ rfl; rw [Nat.add_zero, show ((Kd.slice 78 k78)).sz = 1 from rfl, Nat.mul_one] at hv489_0; replace hv489_0 := Option.some.inj (hv489_0.symm.trans hx489_0); injection hv489_0 with hva_ hvn_ hvc_; rw [hva_] at ge489_0; rw [hvc_] at ul489_0; have HL489_0 := Aside0.mk (show Kd.V k78 78 _ w.heap.size _ _ (rd_L7 t481 x11_4) from Kd.V_mk ul489_0 ge489_0); clear hva_ hvn_ hvc_ ge489_0 ul489_0; clear hcc489 hce489; have HR489_0 := Aside0.mk hi489_0; have HC489_0 := Aside0.mk hl489_0; clear hi489_0 hl489_0; replace p489 := eq_true p489; replace q489 := eq_true q489; have ea_ := Option.some.inj (hx486_0.symm.trans hx489_0); injection ea_ with ea_ en_ ec_; subst ea_; subst ec_; clear en_; have p490 : 0 ≤ ((ji73) : Int) := of_decide_eq_true (by first | (with_reducible assumption) | assumption); have q490 : (ji73) < ((rd_L7 t481 x11_4).length : Int) := of_decide_eq_true (by first | (with_reducible assumption) | assumption); obtain ⟨ad490, e490, hx490_0, hx490_1⟩ := at_T78 (by repeat (first | (with_reducible exact HR488_0.out) | (with_reducible refine Kd.C_alloc ?_ _) | (with_reducible refine Kd.C_drewN ?_ _) | (with_reducible refine Kd.C_drew ?_) | exact HR488_0.out)) (ji73) p490 q490; cases e490; replace p490 := eq_true p490; replace q490 := eq_true q490)))
                                    go_roundg k4
                                    case measure => have := HJ3.out; have := HJ42.out; have := HJ48.out; have := HK4.out; omega
                                    case rel => exact ⟨((rd_T78 (rd_L7 t481 x11_4) (ji73)).f0), (wrap64 (x11_4 + 1)), (by first | rfl | (simp; done) | (simp only [← hji73] <;> (first | rfl | simp)) | (simp [*]; done)), (by first | rfl | (simp; done) | (simp [*]; done)), H', ⟨by have := HJ3.out; have := HJ42.out; have := HJ48.out; have := HK4.out; omega⟩, ⟨by (with_reducible repeat (first | apply Kd.N_alloc | apply Kd.N_drewN | apply Kd.N_drew)); exact HO_9.out⟩, ⟨by (with_reducible repeat (first | refine blk_drewN ?_ _ | refine blk_drew ?_ | refine blk_alloc ?_ _)); exact BK469.out⟩, ⟨by (with_reducible repeat (first | refine blk_drewN ?_ _ | refine blk_drew ?_ | refine blk_alloc ?_ _)); exact BK470.out⟩, ⟨by repeat (first | (with_reducible first | exact HB.out | apply below_alloc | apply pw_below_drewN | apply below_drew1 | refine below_set ?_ GE469.out | refine below_set ?_ GE470.out) | exact HB.out)⟩⟩
                                  · rw [if_neg c75] at H
                                    exact absurd H (by simp)
                                · rw [if_neg c74] at H
                                  exact absurd H (by simp)
                            · rw [if_neg c69] at H
                              exact absurd H (by simp)
                          · replace c68 := Bool.eq_false_iff.mpr c68
                            subst c68
                            have H1 : (some false) = some r := by rw [if_neg (show ¬ (false = true) by decide)] at H; exact H
                            clear H
                            have H := H1
                            clear H1
                            obtain rfl := Option.some.inj H
                            obtain ⟨Ao78, co78, eo78⟩ := Kd.N_slice HO_9.out
                            subst eo78
                            have p484 : 0 ≤ (x11_4 : Int) := of_decide_eq_true (by first | (with_reducible assumption) | assumption)
                            have q484 : x11_4 < (t481.length : Int) := of_decide_eq_true (by first | (with_reducible assumption) | assumption)
                            obtain ⟨ad484, A484_0, c484_0, e484, hx484_0, hl484_0, hi484_0⟩ := at_L7 (Kd.N_reads' HO_9.out).2.2 x11_4 p484 q484
                            cases e484
                            obtain ⟨ce484, hce484, hMe484, hcc484⟩ := Kd.N_get HO_9.out [] x11_4 p484 (by first | exact q484 | exact of_decide_eq_true (by first | (with_reducible assumption) | assumption) | (have e_ := (Kd.N_reads' HO_9.out).1; omega))
                            obtain ⟨ua484_0, uc484_0, rfl, ul484_0, ge484_0⟩ := Kd.FK_slice_open hMe484
                            have hv484_0 := hcc484 0 _ rfl
                            rw [Nat.add_zero, show ((Kd.slice 78 k78)).sz = 1 from rfl, Nat.mul_one] at hv484_0
                            replace hv484_0 := Option.some.inj (hv484_0.symm.trans hx484_0)
                            injection hv484_0 with hva_ hvn_ hvc_
                            rw [hva_] at ge484_0
                            rw [hvc_] at ul484_0
                            have HL484_0 := Aside0.mk (show Kd.V k78 78 _ w.heap.size _ _ (rd_L7 t481 x11_4) from Kd.V_mk ul484_0 ge484_0)
                            clear hva_ hvn_ hvc_ ge484_0 ul484_0
                            clear hcc484 hce484
                            have HR484_0 := Aside0.mk hi484_0
                            have HC484_0 := Aside0.mk hl484_0
                            clear hi484_0 hl484_0
                            replace p484 := eq_true p484
                            replace q484 := eq_true q484
                            go_wp2_with (first | (go_at_call 31; (with_reducible refine (assartref04_Right.calls k4 true _ _ (rd_L7 t481 x11_4) false _ ?side1 ?side2 A67.out).mono ?_); (case side1 => repeat (first | exact (by repeat (first | (with_reducible exact HR484_0.out) | (with_reducible refine Kd.C_alloc ?_ _) | (with_reducible refine Kd.C_drewN ?_ _) | (with_reducible refine Kd.C_drew ?_) | exact HR484_0.out)) | (with_reducible refine Kd.C_alloc ?_ _) | (with_reducible refine Kd.C_drewN ?_ _) | (with_reducible refine Kd.C_drew ?_))); (case side2 => exact HC484_0.out); rintro e w79 ⟨rfl, hb⟩; have n0_ := Aside0.mk (Kd.N_below (by (with_reducible repeat (first | apply Kd.N_alloc | apply Kd.N_drewN | apply Kd.N_drew)); exact HO_9.out) hb); have n1_ := Aside0.mk (Kd.V_below (by (with_reducible repeat (first | apply Kd.V_alloc | apply Kd.V_drewN | apply Kd.V_drew)); exact HL484_0.out) hb); have n2_ := Aside0.mk (blk_below (g := gb469) (o := .cells #[.bool a0_0, .slice A0_1 l0_1.length c0_1] 56 (0, 0)) (by (with_reducible repeat (first | refine blk_drewN ?_ _ | refine blk_drew ?_ | refine blk_alloc ?_ _)); exact BK469.out) hb); have n3_ := Aside0.mk (blk_below (g := gb470) (o := .cells #[.int .i64 a1_0, .int .i64 a1_1] 78 (0, 0)) (by (with_reducible repeat (first | refine blk_drewN ?_ _ | refine blk_drew ?_ | refine blk_alloc ?_ _)); exact BK470.out) hb); have n4_ := Aside0.mk (Kd.C_below (by repeat (first | (with_reducible exact HR484_0.out) | (with_reducible refine Kd.C_alloc ?_ _) | (with_reducible refine Kd.C_drewN ?_ _) | (with_reducible refine Kd.C_drew ?_) | exact HR484_0.out)) hb); have n5_ := Aside0.mk (below_step (by repeat (first | (with_reducible first | exact HB.out | apply below_alloc | apply pw_below_drewN | apply below_drew1 | refine below_set ?_ GE469.out | refine below_set ?_ GE470.out) | exact HB.out)) hb); clear HO_9; clear HL484_0; clear BK469; clear BK470; clear HR484_0; clear HB; have HO_9 := n0_; have HL484_0 := n1_; have BK469 := n2_; have BK470 := n3_; have HR484_0 := n4_; have HB := n5_; clear n0_ n1_ n2_ n3_ n4_ n5_; (try clear hb); (try clear hb2); (try clear hk); (try clear hi)))
                            repeat (go_quiet (first | (go_at_call 31; (with_reducible refine (assartref04_Right.calls k4 true _ _ (rd_L7 t481 x11_4) false _ ?side1 ?side2 A67.out).mono ?_); (case side1 => repeat (first | exact (by repeat (first | (with_reducible exact HR484_0.out) | (with_reducible refine Kd.C_alloc ?_ _) | (with_reducible refine Kd.C_drewN ?_ _) | (with_reducible refine Kd.C_drew ?_) | exact HR484_0.out)) | (with_reducible refine Kd.C_alloc ?_ _) | (with_reducible refine Kd.C_drewN ?_ _) | (with_reducible refine Kd.C_drew ?_))); (case side2 => exact HC484_0.out); rintro e w79 ⟨rfl, hb⟩; have n0_ := Aside0.mk (Kd.N_below (by (with_reducible repeat (first | apply Kd.N_alloc | apply Kd.N_drewN | apply Kd.N_drew)); exact HO_9.out) hb); have n1_ := Aside0.mk (Kd.V_below (by (with_reducible repeat (first | apply Kd.V_alloc | apply Kd.V_drewN | apply Kd.V_drew)); exact HL484_0.out) hb); have n2_ := Aside0.mk (blk_below (g := gb469) (o := .cells #[.bool a0_0, .slice A0_1 l0_1.length c0_1] 56 (0, 0)) (by (with_reducible repeat (first | refine blk_drewN ?_ _ | refine blk_drew ?_ | refine blk_alloc ?_ _)); exact BK469.out) hb); have n3_ := Aside0.mk (blk_below (g := gb470) (o := .cells #[.int .i64 a1_0, .int .i64 a1_1] 78 (0, 0)) (by (with_reducible repeat (first | refine blk_drewN ?_ _ | refine blk_drew ?_ | refine blk_alloc ?_ _)); exact BK470.out) hb); have n4_ := Aside0.mk (Kd.C_below (by repeat (first | (with_reducible exact HR484_0.out) | (with_reducible refine Kd.C_alloc ?_ _) | (with_reducible refine Kd.C_drewN ?_ _) | (with_reducible refine Kd.C_drew ?_) | exact HR484_0.out)) hb); have n5_ := Aside0.mk (below_step (by repeat (first | (with_reducible first | exact HB.out | apply below_alloc | apply pw_below_drewN | apply below_drew1 | refine below_set ?_ GE469.out | refine below_set ?_ GE470.out) | exact HB.out)) hb); clear HO_9; clear HL484_0; clear BK469; clear BK470; clear HR484_0; clear HB; have HO_9 := n0_; have HL484_0 := n1_; have BK469 := n2_; have BK470 := n3_; have HR484_0 := n4_; have HB := n5_; clear n0_ n1_ n2_ n3_ n4_ n5_; (try clear hb); (try clear hb2); (try clear hk); (try clear hi))); try go_wp2_with (first | (go_at_call 31; (with_reducible refine (assartref04_Right.calls k4 true _ _ (rd_L7 t481 x11_4) false _ ?side1 ?side2 A67.out).mono ?_); (case side1 => repeat (first | exact (by repeat (first | (with_reducible exact HR484_0.out) | (with_reducible refine Kd.C_alloc ?_ _) | (with_reducible refine Kd.C_drewN ?_ _) | (with_reducible refine Kd.C_drew ?_) | exact HR484_0.out)) | (with_reducible refine Kd.C_alloc ?_ _) | (with_reducible refine Kd.C_drewN ?_ _) | (with_reducible refine Kd.C_drew ?_))); (case side2 => exact HC484_0.out); rintro e w79 ⟨rfl, hb⟩; have n0_ := Aside0.mk (Kd.N_below (by (with_reducible repeat (first | apply Kd.N_alloc | apply Kd.N_drewN | apply Kd.N_drew)); exact HO_9.out) hb); have n1_ := Aside0.mk (Kd.V_below (by (with_reducible repeat (first | apply Kd.V_alloc | apply Kd.V_drewN | apply Kd.V_drew)); exact HL484_0.out) hb); have n2_ := Aside0.mk (blk_below (g := gb469) (o := .cells #[.bool a0_0, .slice A0_1 l0_1.length c0_1] 56 (0, 0)) (by (with_reducible repeat (first | refine blk_drewN ?_ _ | refine blk_drew ?_ | refine blk_alloc ?_ _)); exact BK469.out) hb); have n3_ := Aside0.mk (blk_below (g := gb470) (o := .cells #[.int .i64 a1_0, .int .i64 a1_1] 78 (0, 0)) (by (with_reducible repeat (first | refine blk_drewN ?_ _ | refine blk_drew ?_ | refine blk_alloc ?_ _)); exact BK470.out) hb); have n4_ := Aside0.mk (Kd.C_below (by repeat (first | (with_reducible exact HR484_0.out) | (with_reducible refine Kd.C_alloc ?_ _) | (with_reducible refine Kd.C_drewN ?_ _) | (with_reducible refine Kd.C_drew ?_) | exact HR484_0.out)) hb); have n5_ := Aside0.mk (below_step (by repeat (first | (with_reducible first | exact HB.out | apply below_alloc | apply pw_below_drewN | apply below_drew1 | refine below_set ?_ GE469.out | refine below_set ?_ GE470.out) | exact HB.out)) hb); clear HO_9; clear HL484_0; clear BK469; clear BK470; clear HR484_0; clear HB; have HO_9 := n0_; have HL484_0 := n1_; have BK469 := n2_; have BK470 := n3_; have HR484_0 := n4_; have HB := n5_; clear n0_ n1_ n2_ n3_ n4_ n5_; (try clear hb); (try clear hb2); (try clear hk); (try clear hi))))
                            go_ret
                            exact ⟨by first | rfl | (simp [errW_none, errW_some] <;> rfl) | (simp [*, errW_none, errW_some] <;> rfl), by repeat (first | (with_reducible first | exact HB.out | apply below_alloc | apply pw_below_drewN | apply below_drew1 | refine below_set ?_ GE469.out | refine below_set ?_ GE470.out) | exact HB.out)⟩
                        · rw [if_neg c66] at H
                          exact absurd H (by simp)
                      · rw [if_neg c65] at H
                        have c65b0 : decide (x11_4 < (t481.length : Int)) = false := decide_eq_false c65
                        clear c65
                        by_cases c80 : t471 = true
                        · subst c80
                          have H1 : (if (t481.length : Int) ≥ 1 then (some (decide ((t481.length : Int) ≤ 2))) else (some false)) = some r := by rw [if_pos rfl] at H; exact H
                          clear H
                          have H := H1
                          clear H1
                          by_cases c81 : (t481.length : Int) ≥ 1
                          · rw [if_pos c81] at H
                            have c81b0 : decide (1 ≤ (t481.length : Int)) = true := decide_eq_true c81
                            have c81b1 : decide (1 ≤ t481.length) = true := decide_eq_true (by omega)
                            clear c81
                            obtain rfl := Option.some.inj H
                            obtain ⟨Ao82, co82, eo82⟩ := Kd.N_slice HO_9.out
                            subst eo82
                            go_wp2
                            repeat (go_quiet (fail); try go_wp2)
                            go_ret
                            exact ⟨by first | rfl | (simp [errW_none, errW_some] <;> rfl) | (simp [*, errW_none, errW_some] <;> rfl), by repeat (first | (with_reducible first | exact HB.out | apply below_alloc | apply pw_below_drewN | apply below_drew1 | refine below_set ?_ GE469.out | refine below_set ?_ GE470.out) | exact HB.out)⟩
                          · rw [if_neg c81] at H
                            have c81b0 : decide (1 ≤ (t481.length : Int)) = false := decide_eq_false c81
                            have c81b1 : decide (1 ≤ t481.length) = false := decide_eq_false (by omega)
                            clear c81
                            obtain rfl := Option.some.inj H
                            obtain ⟨Ao83, co83, eo83⟩ := Kd.N_slice HO_9.out
                            subst eo83
                            go_wp2
                            repeat (go_quiet (fail); try go_wp2)
                            go_ret
                            exact ⟨by first | rfl | (simp [errW_none, errW_some] <;> rfl) | (simp [*, errW_none, errW_some] <;> rfl), by repeat (first | (with_reducible first | exact HB.out | apply below_alloc | apply pw_below_drewN | apply below_drew1 | refine below_set ?_ GE469.out | refine below_set ?_ GE470.out) | exact HB.out)⟩
                        · replace c80 := Bool.eq_false_iff.mpr c80
                          subst c80
                          have H1 : (some false) = some r := by rw [if_neg (show ¬ (false = true) by decide)] at H; exact H
                          clear H
                          have H := H1
                          clear H1
                          obtain rfl := Option.some.inj H
                          obtain ⟨Ao84, co84, eo84⟩ := Kd.N_slice HO_9.out
                          subst eo84
                          go_wp2
                          repeat (go_quiet (fail); try go_wp2)
                          go_ret
                          exact ⟨by first | rfl | (simp [errW_none, errW_some] <;> rfl) | (simp [*, errW_none, errW_some] <;> rfl), by repeat (first | (with_reducible first | exact HB.out | apply below_alloc | apply pw_below_drewN | apply below_drew1 | refine below_set ?_ GE469.out | refine below_set ?_ GE470.out) | exact HB.out)⟩

end Go.Proofs.Ythjnkapkhphpeaa.P
end
section
/- Arguments that read as data, opened kind by kind: what the printed functions ask of their parameters. -/
namespace Go.Proofs.Ythjnkapkhphpeaa.P
open Go.RowKit Go.Proofs.YthjnkapkhphpeaaW.PrintWords Go.Proofs.YthjnkapkhphpeaaW.PrintLast Go.Proofs.YthjnkapkhphpeaaW.PrintMore
set_option linter.unusedVariables false
set_option linter.unusedSimpArgs false
/-- Whatever reads at type t is a value of kind d, and such as ok says. -/
structure Opens {α : Type} (P : Program) (t : TypeId) (d : Kd α) (ok : α → Prop) : Prop where
  sz : P.cellsOf t = d.sz
  op : ∀ {H : Type} {enc : TypeId × Value → H} {W : World} {base : Nat} {spare : Nat → Bool} {held : Bool} {fuel : Nat} {cs : List Value} {y : DataW H × List MemPlace}, DataW.trod enc P W base spare held fuel t cs = some y → (DataW.weights P t y.1).all (· ≤ reachBytes) = true → ∃ x, d.K W x cs ∧ ok x
theorem Opens.int {P : Program} {t : TypeId} {k : IntKind} (h : P.underlying t = some (.int k)) (hs : P.cellsOf t = 1) : Opens P t (Kd.int k) (fun n => (Lit.int k n).wf = true) :=
  ⟨hs, fun hy _ => by
    obtain ⟨n, rfl, _, hw⟩ := DataW.trod_int h hy
    exact ⟨n, rfl, hw⟩⟩
theorem Opens.bool {P : Program} {t : TypeId} (h : P.underlying t = some .bool) (hs : P.cellsOf t = 1) : Opens P t Kd.bool (fun _ => True) :=
  ⟨hs, fun hy _ => by
    obtain ⟨b, rfl, _⟩ := DataW.trod_bool h hy
    exact ⟨b, rfl, trivial⟩⟩
theorem Opens.string {P : Program} {t : TypeId} (h : P.underlying t = some .string) (hs : P.cellsOf t = 1) : Opens P t Kd.string (fun s => s.size ≤ 140737488351232) :=
  ⟨hs, fun hy hw => by
    obtain ⟨s, rfl, rfl, _⟩ := DataW.trod_string h hy
    refine ⟨s, rfl, ?_⟩
    have := hw
    simp [DataW.weights, reachBytes] at this
    exact of_decide_eq_true this⟩
theorem choose_row {α : Type} {R : Nat → α → Prop} : ∀ n, (∀ i, i < n → ∃ x, R i x) → ∃ xs : List α, xs.length = n ∧ ∀ i x, xs[i]? = some x → R i x
  | 0, _ => ⟨[], rfl, fun i x h => by simp at h⟩
  | n + 1, h => by
    obtain ⟨xs, hl, hx⟩ := choose_row n (fun i hi => h i (by omega))
    obtain ⟨x, hr⟩ := h n (by omega)
    refine ⟨xs ++ [x], by simp [hl], fun i z hz => ?_⟩
    by_cases hi : i < n
    · rw [List.getElem?_append_left (by omega)] at hz
      exact hx i z hz
    · rw [List.getElem?_append_right (by omega)] at hz
      have : i - xs.length = 0 := by
        rcases Nat.eq_zero_or_pos (i - xs.length) with h0 | h0
        · exact h0
        · rw [List.getElem?_eq_none (by simp; omega)] at hz; cases hz
      rw [this] at hz
      simp at hz
      subst hz
      have : i = n := by omega
      rw [this]; exact hr
theorem weightsAll_mem {H : Type} {P : Program} {e : TypeId} : ∀ {ds : List (DataW H)}, (DataW.weightsAll P e ds).all (· ≤ reachBytes) = true → ∀ d ∈ ds, (DataW.weights P e d).all (· ≤ reachBytes) = true
  | [], _, d, hd => by cases hd
  | a :: ds, h, d, hd => by
    simp only [DataW.weightsAll, List.all_append, Bool.and_eq_true] at h
    rcases List.mem_cons.1 hd with rfl | hd
    · exact h.1
    · exact weightsAll_mem h.2 d hd
theorem Opens.slice {α : Type} {P : Program} {t e : TypeId} {d : Kd α} {ok : α → Prop} {B : Nat} (h : P.underlying t = some (.slice e)) (hs : P.cellsOf t = 1) (hB : P.bytesOf e = B) (he : Opens P e d ok) : Opens P t (Kd.slice e d) (fun xs => xs.length * B ≤ 140737488351232 ∧ ∀ x ∈ xs, ok x) :=
  ⟨hs, fun {H enc W base spare held fuel cs y} hy hw => by
    rcases DataW.trod_slice h hy with ⟨rfl, rfl⟩ | ⟨a, len, cap, elems, rest, n, rfl, rfl, rfl, hb, hl, hc, hel, hi, _, _⟩
    · exact ⟨[], ⟨none, 0, rfl, Nat.le_refl _, Kd.C_nil _ _⟩, by simp⟩
    · unfold DataW.weights at hw
      rw [h] at hw
      simp only [List.all_cons, List.all_append, Bool.and_eq_true, decide_eq_true_eq, hB, List.length_map] at hw
      obtain ⟨hw0, hw1, _⟩ := hw
      have hx : ∀ i, i < len → ∃ x, ok x ∧ ∃ c, c.length = d.sz ∧ d.K W x c ∧ W.cells? base (a.add (i * d.sz)) d.sz = some c := by
        intro i hlt
        have h1 := hi i hlt
        rw [List.getElem?_eq_getElem (by omega)] at h1
        obtain ⟨c, hc1, hc2⟩ := Option.bind_eq_some_iff.1 h1
        obtain ⟨x, hK, hok⟩ := he.op hc2 (weightsAll_mem hw1 _ (List.mem_map_of_mem (List.getElem_mem _)))
        rw [he.sz] at hc1
        exact ⟨x, hok, c, d.K_len hK, hK, hc1⟩
      obtain ⟨xs, hxl, hxs⟩ := choose_row len hx
      refine ⟨xs, ⟨some a, cap, by rw [hxl], by omega, rfl, ?_, fun hpos => ⟨a, rfl, fun j p hj => ?_⟩⟩, ?_, ?_⟩
      · simp only [maxLen] at hc; omega
      · obtain ⟨_, c, hcl, hK, hcc⟩ := hxs j p hj
        refine ⟨c, hcl, hK, fun i u hu => ?_⟩
        obtain ⟨_, _, hcell⟩ := World.cells?_some hcc
        have hi : i < d.sz := by rw [← hcl]; exact (List.getElem?_eq_some_iff.1 hu).1
        have := hcell i hi
        rw [Addr.add_add] at this
        rw [this, hu]
      · rw [hxl, ← hel]
        refine Nat.le_trans (Nat.mul_le_mul_right _ (Nat.le_add_right _ _)) hw0
      · intro x hx
        obtain ⟨i, hlt, rfl⟩ := List.getElem_of_mem hx
        exact (hxs i _ (List.getElem?_eq_getElem hlt)).1⟩
theorem weights_at {H : Type} {P : Program} : ∀ {ts : List TypeId} {ds : List (DataW H)} {j : Nat} {t : TypeId} {d : DataW H}, (DataW.weightsEach P ts ds).all (· ≤ reachBytes) = true → ts[j]? = some t → ds[j]? = some d → (DataW.weights P t d).all (· ≤ reachBytes) = true
  | [], _, _, _, _, _, ht, _ => by simp at ht
  | _ :: _, [], _, _, _, _, _, hd => by simp at hd
  | t0 :: ts, d0 :: ds, 0, _, _, h, ht, hd => by
    simp only [List.getElem?_cons_zero, Option.some.injEq] at ht hd
    subst ht; subst hd
    simp only [DataW.weightsEach, List.all_append, Bool.and_eq_true] at h
    exact h.1
  | t0 :: ts, d0 :: ds, j + 1, _, _, h, ht, hd => by
    simp only [List.getElem?_cons_succ] at ht hd
    simp only [DataW.weightsEach, List.all_append, Bool.and_eq_true] at h
    exact weights_at h.2 ht hd
/-- A struct's fields from a place on. -/
structure OpensFs {α : Type} (P : Program) (fs : List Field) (off : Nat) (d : Kd α) (ok : α → Prop) : Prop where
  op : ∀ {H : Type} {enc : TypeId × Value → H} {W : World} {base : Nat} {spare : Nat → Bool} {held : Bool} {fuel : Nat} {cs : List Value} {ys : List (DataW H × List MemPlace)},
    (∀ (i : Nat) (f : Field), fs[i]? = some f → DataW.trod enc P W base spare held fuel f.type ((cs.drop f.offset).take (P.cellsOf f.type)) = ys[i]?) → ys.length = fs.length →
    (DataW.weightsEach P (fs.map (·.type)) (ys.map (·.1))).all (· ≤ reachBytes) = true → cs.length = off + d.sz → ∃ x, d.K W x (cs.drop off) ∧ ok x
theorem OpensFs.one {α : Type} {P : Program} {f : Field} {t : TypeId} {off : Nat} {d : Kd α} {ok : α → Prop} (ht : f.type = t) (hoff : f.offset = off) (h : Opens P t d ok) : OpensFs P [f] off d ok :=
  ⟨fun {H enc W base spare held fuel cs ys} hy hl hw hcs => by
    obtain ⟨y, rfl⟩ : ∃ y, ys = [y] := by
      cases ys with
      | nil => simp at hl
      | cons y ys => cases ys with
        | nil => exact ⟨y, rfl⟩
        | cons => simp at hl
    have h0 := hy 0 f rfl
    simp only [List.getElem?_cons_zero] at h0
    simp only [List.map_cons, List.map_nil, DataW.weightsEach, List.append_nil] at hw
    rw [ht] at h0 hw
    obtain ⟨x, hK, hok⟩ := h.op h0 hw
    rw [hoff, List.take_of_length_le (by rw [List.length_drop, h.sz]; omega)] at hK
    exact ⟨x, hK, hok⟩⟩
theorem OpensFs.cons {α β : Type} {P : Program} {f : Field} {fs : List Field} {t : TypeId} {off n : Nat} {d : Kd α} {d' : Kd β} {ok : α → Prop} {ok' : β → Prop} (ht : f.type = t) (hoff : f.offset = off) (h : Opens P t d ok) (hn : off + d.sz = n) (hr : OpensFs P fs n d' ok') :
    OpensFs P (f :: fs) off (Kd.pair d d') (fun x => ok x.1 ∧ ok' x.2) :=
  ⟨fun {H enc W base spare held fuel cs ys} hy hl hw hcs => by
    cases ys with
    | nil => simp at hl
    | cons y ys =>
      have h0 := hy 0 f rfl
      simp only [List.getElem?_cons_zero] at h0
      simp only [List.map_cons, DataW.weightsEach, List.all_append, Bool.and_eq_true] at hw
      have hw0 := hw.1
      rw [ht] at h0 hw0
      obtain ⟨x, hK, hok⟩ := h.op h0 hw0
      have hsz : (Kd.pair d d').sz = d.sz + d'.sz := rfl
      rw [hsz] at hcs
      obtain ⟨x', hK', hok'⟩ := hr.op (fun i g hg => hy (i + 1) g (by simpa using hg)) (by simpa using hl) hw.2 (by omega)
      refine ⟨(x, x'), ⟨_, _, ?_, hK, hK'⟩, hok, hok'⟩
      rw [hoff, h.sz, ← hn, ← List.drop_drop]
      exact (List.take_append_drop _ _).symm⟩
theorem Opens.struct {α β : Type} {P : Program} {t : TypeId} {fs : Array Field} {fl : List Field} {d : Kd α} {ok : α → Prop} (f : β → α) (g : α → β) (hfg : ∀ x, f (g x) = x) (h : P.underlying t = some (.struct fs)) (hfl : fs.toList = fl) (hs : P.cellsOf t = d.sz) (ho : OpensFs P fl 0 d ok) :
    Opens P t (Kd.iso d f) (fun x => ok (f x)) :=
  ⟨hs, fun {H enc W base spare held fuel cs y} hy hw => by
    obtain ⟨xs, n, rfl, rfl, hcl, hxl, hx⟩ := DataW.trod_struct h hy
    unfold DataW.weights at hw
    rw [h] at hw
    simp only [hfl] at hw
    subst hfl
    obtain ⟨x, hK, hok⟩ := ho.op (ys := xs) (fun i f hf => hx i f (by simpa using hf)) (by simpa using hxl) hw (by omega)
    rw [List.drop_zero] at hK
    refine ⟨g x, ?_, ?_⟩
    · show d.K W (f (g x)) cs
      rw [hfg]; exact hK
    · rw [hfg]; exact hok⟩
end Go.Proofs.Ythjnkapkhphpeaa.P
end
section
namespace Go.Proofs.Ythjnkapkhphpeaa.P
open Go.RowKit Go.Proofs.YthjnkapkhphpeaaW.PrintWords Go.Proofs.YthjnkapkhphpeaaW.PrintLast Go.Proofs.YthjnkapkhphpeaaW.PrintMore
attribute [local go_sem] max2_int min2_int max_two min_two max_three min_three max_four min_four
set_option linter.unusedVariables false
set_option linter.unusedSimpArgs false

def ok78 (x : S78) : Prop := (fun x => (Lit.int .i64 x).wf = true) x.f0 ∧ (fun x => (Lit.int .i64 x).wf = true) x.f1
theorem opens78 : Opens Try.prog 78 k78 ok78 := Opens.struct (fs := _) (fun x : S78 => (x.f0, x.f1)) (fun p => ⟨p.1, p.2⟩) (fun _ => rfl) Try.underlying78 rfl (by kernel_rfl) (OpensFs.cons rfl rfl (Opens.int Try.underlying3 (by kernel_rfl)) rfl (OpensFs.one rfl rfl (Opens.int Try.underlying3 (by kernel_rfl))))
def assartlaw04_NodePuts.QPure : Prop := ∀ (a0_0 : Bool) (l0_1 : List (S78)) (a1_0 : Int) (a1_1 : Int), (l0_1.length * 16 ≤ 140737488351232 ∧ ∀ x ∈ l0_1, ok78 x) → ((Lit.int .i64 a1_0).wf = true) → ((Lit.int .i64 a1_1).wf = true) → ∃ k, assartlaw04_NodePuts.f k a0_0 l0_1 a1_0 a1_1 = some true
end Go.Proofs.Ythjnkapkhphpeaa.P
end
section
namespace Go.Proofs.Ythjnkapkhphpeaa.P
open Go.RowKit Go.Proofs.YthjnkapkhphpeaaW.PrintWords Go.Proofs.YthjnkapkhphpeaaW.PrintLast Go.Proofs.YthjnkapkhphpeaaW.PrintMore
attribute [local go_sem] max2_int min2_int max_two min_two max_three min_three max_four min_four
set_option linter.unusedVariables false
set_option linter.unusedSimpArgs false

/-! ### assartref04_At: function 36 -/
def assartref04_At.l0 : Nat → Int → Int → Int → Bool → List (S78) → Option (Int × Bool)
  | 0, _, _, _, _, _ => none
  | k + 1, x1, x6, x7, x308000, x308001 => if x7 < (x308001.length : Int) then (if 0 ≤ x7 then (if ((rd_T78 x308001 x7).f0) = x1 then (some (x7, true)) else (if ((rd_T78 x308001 x7).f0) < x1 then (assartref04_At.l0 k x1 (wrap64 (x6 + 1)) (wrap64 (x7 + 1)) x308000 x308001) else (assartref04_At.l0 k x1 x6 (wrap64 (x7 + 1)) x308000 x308001))) else (none)) else (if x308000 = true then (some (x6, false)) else (some (mx (wrap64 (x6 - 1)) 0, false)))
def assartref04_At.f (k : Nat) (a0_0 : Bool) (l0_1 : List (S78)) (a1 : Int) : Option (Int × Bool) := assartref04_At.l0 k a1 0 0 a0_0 l0_1
theorem assartref04_At.mono_l : ∀ k, (∀ y0 y1 y2 y3 y4, LeO (assartref04_At.l0 k y0 y1 y2 y3 y4) (assartref04_At.l0 (k + 1) y0 y1 y2 y3 y4))
  | 0 => fun _ _ _ _ _ r h => by simp [assartref04_At.l0] at h
  | k + 1 => by
    have ih0 := assartref04_At.mono_l k
    · intro y0 y1 y2 y3 y4
      unfold assartref04_At.l0
      repeat' first
      | (with_reducible exact ih0 _ _ _ _ _)
      | (with_reducible exact LeO.refl _)
      | (with_reducible exact LeO.none _)
      | (with_reducible refine LeO.ite ?_ ?_)
      | (with_reducible refine LeO.bind ?_ (fun _ => ?_))
      | exact ih0 _ _ _ _ _
      | exact LeO.none _
      | refine LeO.ite ?_ ?_
      | refine LeO.bind ?_ (fun _ => ?_)
theorem assartref04_At.mono : ∀ a0 a1 a2 k, LeO (assartref04_At.f k a0 a1 a2) (assartref04_At.f (k + 1) a0 a1 a2) := by
  intro a0 a1 a2 k
  have ih0 := assartref04_At.mono_l k
  unfold assartref04_At.f
  repeat' first
      | (with_reducible exact ih0 _ _ _ _ _)
      | (with_reducible exact LeO.refl _)
      | (with_reducible exact LeO.none _)
      | (with_reducible refine LeO.ite ?_ ?_)
      | (with_reducible refine LeO.bind ?_ (fun _ => ?_))
      | exact ih0 _ _ _ _ _
      | exact LeO.none _
      | refine LeO.ite ?_ ?_
      | refine LeO.bind ?_ (fun _ => ?_)
set_option maxHeartbeats 8000000 in
set_option maxRecDepth 100000 in
theorem assartref04_At.calls (k : Nat) (a0_0 : Bool) (A0_1 : Option Addr) (c0_1 : Nat) (l0_1 : List (S78)) (a1 : Int) (r1 : Int) (r2 : Bool) (w : World) (hr0_1 : Kd.C k78 w A0_1 l0_1.length l0_1) (hc0_1 : l0_1.length ≤ c0_1) (h : assartref04_At.f k a0_0 l0_1 a1 = some (r1, r2)) :
    Calls Try.prog 36 #[.agg #[.bool a0_0, .slice A0_1 l0_1.length c0_1], .int .i64 a1] w fun e w' => e = .returned (.tuple #[.int .i64 r1, .bool r2]) ∧ Below w.heap.size w w' := by
  have hu56 := Try.underlying56
  have HR0_1 := Aside0.mk hr0_1
  have HC0_1 := Aside0.mk hc0_1
  clear hr0_1 hc0_1
  have HB := Aside0.mk (Below.refl w.heap.size w)
  have H : (assartref04_At.l0 k a1 0 0 a0_0 l0_1) = some (r1, r2) := h
  clear h
  have H' := Aside0.mk H
  clear H
  go_enter Try.func36, Try.ntmps36
  go_wp2_with (first | ((with_reducible refine gate_dst (N := 2) rfl ?_); refine box_event ?hg (N := 2) ?hd (cs := #[.bool a0_0, .slice A0_1 l0_1.length c0_1]) (t := 56) ?hr ?_; (case hd => rfl); (case hg => rfl); (case hr => first | (go_simp; done) | (go_simp; rfl)); intro gb307 hg w3 hbox hb; have n0_ := Aside0.mk (below_step (by repeat (first | (with_reducible first | exact HB.out | apply below_alloc | apply pw_below_drewN | apply below_drew1) | exact HB.out)) hb); have n1_ := Aside0.mk (hbox); have n2_ := Aside0.mk ((by rw [hg]; exact (below_size (by repeat (first | (with_reducible first | exact HB.out | apply below_alloc | apply pw_below_drewN | apply below_drew1) | exact HB.out))) : w.heap.size ≤ gb307)); have n3_ := Aside0.mk ((by rw [hg]; exact (below_size (by repeat (first | (with_reducible first | exact HB.out | apply below_alloc | apply pw_below_drewN | apply below_drew1) | exact HB.out))) : w.heap.size ≤ gb307)); clear HB; have HB := n0_; have BK307 := n1_; have GW307 := n2_; have GE307 := n3_; clear n0_ n1_ n2_ n3_; clear hb hbox hg))
  go_loopg [6, 7] k (fun kq v6 v7 w' => ∃ (x6_1 : Int) (x7_1 : Int), v6 = .int .i64 x6_1 ∧ v7 = .int .i64 x7_1 ∧ Aside0 (assartref04_At.l0 kq a1 x6_1 x7_1 a0_0 l0_1 = some (r1, r2)) ∧ Aside0 (kq ≤ k) ∧ Aside0 (w'.heap[gb307]? = some (.cells #[.bool a0_0, (.slice A0_1 l0_1.length c0_1)] 56 (0, 0))) ∧ Aside0 (Below w.heap.size w w'))
  case atStart => exact ⟨(0), (0), (by first | rfl | (simp; done) | (simp [*]; done)), (by first | rfl | (simp; done) | (simp [*]; done)), H', ⟨Nat.le_refl _⟩, ⟨by (with_reducible repeat (first | refine blk_drewN ?_ _ | refine blk_drew ?_ | refine blk_alloc ?_ _)); exact BK307.out⟩, ⟨by repeat (first | (with_reducible first | exact HB.out | apply below_alloc | apply pw_below_drewN | apply below_drew1 | refine below_set ?_ GE307.out) | exact HB.out)⟩⟩
  case round =>
    clear H'
    try clear p2
    try clear c3
    obtain ⟨x6_1, x7_1, rfl, rfl, HA, HK1, BK307, HB⟩ := hrel
    cases gk with
    | zero => exact absurd HA.out (by simp [assartref04_At.l0])
    | succ k1 =>
      have H := HA.out
      clear HA
      simp only [assartref04_At.l0] at H
      by_cases c4 : x7_1 < (l0_1.length : Int)
      · rw [if_pos c4] at H
        have c4b0 : decide (x7_1 < (l0_1.length : Int)) = true := decide_eq_true c4
        clear c4
        by_cases c5 : 0 ≤ x7_1
        · rw [if_pos c5] at H
          have c5b0 : decide (0 ≤ x7_1) = true := decide_eq_true c5
          clear c5
          by_cases c6 : ((rd_T78 l0_1 x7_1).f0) = a1
          · rw [if_pos c6] at H
            have c6b0 : (((rd_T78 l0_1 x7_1).f0) == a1) = true := beq_iff_eq.mpr c6
            have c6b1 : (((rd_T78 l0_1 x7_1).f0) != a1) = false := bne_eq_false_iff_eq.mpr c6
            clear c6
            simp only [Option.some.injEq, Prod.mk.injEq] at H
            obtain ⟨rfl, rfl⟩ := H
            have hcz7_0 : wr.cell? ⟨gb307, 0, none⟩ = some (.bool a0_0) := (blk_cell BK307.out 0).trans rfl
            have hcz7_1 : wr.cell? ⟨gb307, 1, none⟩ = some (.slice A0_1 l0_1.length c0_1) := (blk_cell BK307.out 1).trans rfl
            have hfz7_0 := blk_frozen BK307.out 0
            have hfz7_1 := blk_frozen BK307.out 1
            have p308 : 0 ≤ (x7_1 : Int) := of_decide_eq_true (by first | (with_reducible assumption) | assumption)
            have q308 : x7_1 < (l0_1.length : Int) := of_decide_eq_true (by first | (with_reducible assumption) | assumption)
            obtain ⟨ad308, e308, hx308_0, hx308_1⟩ := at_T78 HR0_1.out x7_1 p308 q308
            cases e308
            replace hx308_0 := (HB.out.cell (World.block_lt_of_cell? w _ hx308_0)).trans hx308_0
            replace hx308_1 := (HB.out.cell (World.block_lt_of_cell? w _ hx308_1)).trans hx308_1
            replace p308 := eq_true p308
            replace q308 := eq_true q308
            go_wp2
            go_ret2
            exact ⟨by first | rfl | (simp [errW_none, errW_some] <;> rfl) | (simp [*, errW_none, errW_some] <;> rfl), by repeat (first | (with_reducible first | exact HB.out | apply below_alloc | apply pw_below_drewN | apply below_drew1 | refine below_set ?_ GE307.out) | exact HB.out)⟩
          · rw [if_neg c6] at H
            have c6b0 : (((rd_T78 l0_1 x7_1).f0) == a1) = false := beq_eq_false_iff_ne.mpr c6
            have c6b1 : (((rd_T78 l0_1 x7_1).f0) != a1) = true := bne_iff_ne.mpr c6
            by_cases c8 : ((rd_T78 l0_1 x7_1).f0) < a1
            · rw [if_pos c8] at H
              have c8b0 : decide (((rd_T78 l0_1 x7_1).f0) < a1) = true := decide_eq_true c8
              clear c8
              have H' := Aside0.mk H
              clear H
              have hcz9_0 : wr.cell? ⟨gb307, 0, none⟩ = some (.bool a0_0) := (blk_cell BK307.out 0).trans rfl
              have hcz9_1 : wr.cell? ⟨gb307, 1, none⟩ = some (.slice A0_1 l0_1.length c0_1) := (blk_cell BK307.out 1).trans rfl
              have hfz9_0 := blk_frozen BK307.out 0
              have hfz9_1 := blk_frozen BK307.out 1
              have p308 : 0 ≤ (x7_1 : Int) := of_decide_eq_true (by first | (with_reducible assumption) | assumption)
              have q308 : x7_1 < (l0_1.length : Int) := of_decide_eq_true (by first | (with_reducible assumption) | assumption)
              obtain ⟨ad308, e308, hx308_0, hx308_1⟩ := at_T78 HR0_1.out x7_1 p308 q308
              cases e308
              replace hx308_0 := (HB.out.cell (World.block_lt_of_cell? w _ hx308_0)).trans hx308_0
              replace hx308_1 := (HB.out.cell (World.block_lt_of_cell? w _ hx308_1)).trans hx308_1
              replace p308 := eq_true p308
              replace q308 := eq_true q308
              have p309 : 0 ≤ (x7_1 : Int) := of_decide_eq_true (by first | (with_reducible assumption) | assumption)
              have q309 : x7_1 < (l0_1.length : Int) := of_decide_eq_true (by first | (with_reducible assumption) | assumption)
              obtain ⟨ad309, e309, hx309_0, hx309_1⟩ := at_T78 HR0_1.out x7_1 p309 q309
              obtain rfl : ad308 = ad309 := (by injection e309)
              replace hx309_0 := (HB.out.cell (World.block_lt_of_cell? w _ hx309_0)).trans hx309_0
              replace hx309_1 := (HB.out.cell (World.block_lt_of_cell? w _ hx309_1)).trans hx309_1
              replace p309 := eq_true p309
              replace q309 := eq_true q309
              go_wp2
              go_roundg k1
              case measure => have := HK1.out; omega
              case rel => exact ⟨(wrap64 (x6_1 + 1)), (wrap64 (x7_1 + 1)), (by first | rfl | (simp; done) | (simp [*]; done)), (by first | rfl | (simp; done) | (simp [*]; done)), H', ⟨by have := HK1.out; omega⟩, ⟨by (with_reducible repeat (first | refine blk_drewN ?_ _ | refine blk_drew ?_ | refine blk_alloc ?_ _)); exact BK307.out⟩, ⟨by repeat (first | (with_reducible first | exact HB.out | apply below_alloc | apply pw_below_drewN | apply below_drew1 | refine below_set ?_ GE307.out) | exact HB.out)⟩⟩
            · rw [if_neg c8] at H
              have c8b0 : decide (((rd_T78 l0_1 x7_1).f0) < a1) = false := decide_eq_false c8
              clear c8
              have H' := Aside0.mk H
              clear H
              have hcz10_0 : wr.cell? ⟨gb307, 0, none⟩ = some (.bool a0_0) := (blk_cell BK307.out 0).trans rfl
              have hcz10_1 : wr.cell? ⟨gb307, 1, none⟩ = some (.slice A0_1 l0_1.length c0_1) := (blk_cell BK307.out 1).trans rfl
              have hfz10_0 := blk_frozen BK307.out 0
              have hfz10_1 := blk_frozen BK307.out 1
              have p308 : 0 ≤ (x7_1 : Int) := of_decide_eq_true (by first | (with_reducible assumption) | assumption)
              have q308 : x7_1 < (l0_1.length : Int) := of_decide_eq_true (by first | (with_reducible assumption) | assumption)
              obtain ⟨ad308, e308, hx308_0, hx308_1⟩ := at_T78 HR0_1.out x7_1 p308 q308
              cases e308
              replace hx308_0 := (HB.out.cell (World.block_lt_of_cell? w _ hx308_0)).trans hx308_0
              replace hx308_1 := (HB.out.cell (World.block_lt_of_cell? w _ hx308_1)).trans hx308_1
              replace p308 := eq_true p308
              replace q308 := eq_true q308
              have p309 : 0 ≤ (x7_1 : Int) := of_decide_eq_true (by first | (with_reducible assumption) | assumption)
              have q309 : x7_1 < (l0_1.length : Int) := of_decide_eq_true (by first | (with_reducible assumption) | assumption)
              obtain ⟨ad309, e309, hx309_0, hx309_1⟩ := at_T78 HR0_1.out x7_1 p309 q309
              obtain rfl : ad308 = ad309 := (by injection e309)
              replace hx309_0 := (HB.out.cell (World.block_lt_of_cell? w _ hx309_0)).trans hx309_0
              replace hx309_1 := (HB.out.cell (World.block_lt_of_cell? w _ hx309_1)).trans hx309_1
              replace p309 := eq_true p309
              replace q309 := eq_true q309
              go_wp2
              go_roundg k1
              case measure => have := HK1.out; omega
              case rel => exact ⟨(x6_1), (wrap64 (x7_1 + 1)), (by first | rfl | (simp; done) | (simp [*]; done)), (by first | rfl | (simp; done) | (simp [*]; done)), H', ⟨by have := HK1.out; omega⟩, ⟨by (with_reducible repeat (first | refine blk_drewN ?_ _ | refine blk_drew ?_ | refine blk_alloc ?_ _)); exact BK307.out⟩, ⟨by repeat (first | (with_reducible first | exact HB.out | apply below_alloc | apply pw_below_drewN | apply below_drew1 | refine below_set ?_ GE307.out) | exact HB.out)⟩⟩
        · rw [if_neg c5] at H
          exact absurd H (by simp)
      · rw [if_neg c4] at H
        have c4b0 : decide (x7_1 < (l0_1.length : Int)) = false := decide_eq_false c4
        clear c4
        by_cases c11 : a0_0 = true
        · subst c11
          have H1 : (some (x6_1, false)) = some (r1, r2) := by rw [if_pos rfl] at H; exact H
          clear H
          have H := H1
          clear H1
          simp only [Option.some.injEq, Prod.mk.injEq] at H
          obtain ⟨rfl, rfl⟩ := H
          have hcz12_0 : wr.cell? ⟨gb307, 0, none⟩ = some (.bool true) := (blk_cell BK307.out 0).trans rfl
          have hcz12_1 : wr.cell? ⟨gb307, 1, none⟩ = some (.slice A0_1 l0_1.length c0_1) := (blk_cell BK307.out 1).trans rfl
          have hfz12_0 := blk_frozen BK307.out 0
          have hfz12_1 := blk_frozen BK307.out 1
          go_wp2
          go_ret2
          exact ⟨by first | rfl | (simp [errW_none, errW_some] <;> rfl) | (simp [*, errW_none, errW_some] <;> rfl), by repeat (first | (with_reducible first | exact HB.out | apply below_alloc | apply pw_below_drewN | apply below_drew1 | refine below_set ?_ GE307.out) | exact HB.out)⟩
        · replace c11 := Bool.eq_false_iff.mpr c11
          subst c11
          have H1 : (some (mx (wrap64 (x6_1 - 1)) 0, false)) = some (r1, r2) := by rw [if_neg (show ¬ (false = true) by decide)] at H; exact H
          clear H
          have H := H1
          clear H1
          obtain ⟨ji13, hji13⟩ : ∃ j_ : Int, (mx (wrap64 (x6_1 - 1)) 0) = j_ := ⟨_, rfl⟩
          replace H : (some (ji13, false)) = some (r1, r2) := by first | (rw [hji13] at H; exact H) | (simp only [hji13] at H ⊢; exact H)
          have hji13_ : (if (wrap64 (x6_1 - 1)) < 0 then 0 else (wrap64 (x6_1 - 1))) = ji13 := hji13
          simp only [Option.some.injEq, Prod.mk.injEq] at H
          obtain ⟨rfl, rfl⟩ := H
          have hcz14_0 : wr.cell? ⟨gb307, 0, none⟩ = some (.bool false) := (blk_cell BK307.out 0).trans rfl
          have hcz14_1 : wr.cell? ⟨gb307, 1, none⟩ = some (.slice A0_1 l0_1.length c0_1) := (blk_cell BK307.out 1).trans rfl
          have hfz14_0 := blk_frozen BK307.out 0
          have hfz14_1 := blk_frozen BK307.out 1
          go_wp2
          go_ret2
          exact ⟨by first | rfl | (simp [errW_none, errW_some] <;> rfl) | (simp only [← hji13]; first | rfl | (simp [errW_none, errW_some] <;> rfl)) | (simp [*, errW_none, errW_some] <;> rfl), by repeat (first | (with_reducible first | exact HB.out | apply below_alloc | apply pw_below_drewN | apply below_drew1 | refine below_set ?_ GE307.out) | exact HB.out)⟩

end Go.Proofs.Ythjnkapkhphpeaa.P
end
section
namespace Go.Proofs.Ythjnkapkhphpeaa.P
open Go.RowKit Go.Proofs.YthjnkapkhphpeaaW.PrintWords Go.Proofs.YthjnkapkhphpeaaW.PrintLast Go.Proofs.YthjnkapkhphpeaaW.PrintMore
attribute [local go_sem] max2_int min2_int max_two min_two max_three min_three max_four min_four
set_option linter.unusedVariables false
set_option linter.unusedSimpArgs false

attribute [local go_sem high] eqA78
/-! ### assartref04_Items: function 40 -/
def assartref04_Items.l0 : Nat → List (S78) → List (S78) → Int → Option (Bool)
  | 0, _, _, _ => none
  | k + 1, x0, x1, x5 => if x5 < (x0.length : Int) then (if 0 ≤ x5 then (if x5 < (x1.length : Int) then (if (!(((rd_T78 x0 x5).f0) == ((rd_T78 x1 x5).f0)) || (!(((rd_T78 x0 x5).f1) == ((rd_T78 x1 x5).f1)))) = true then (some false) else (assartref04_Items.l0 k x0 x1 (wrap64 (x5 + 1)))) else (none)) else (none)) else (some true)
def assartref04_Items.f (k : Nat) (l0 : List (S78)) (l1 : List (S78)) : Option (Bool) := if (l0.length : Int) = (l1.length : Int) then (assartref04_Items.l0 k l0 l1 0) else (some false)
theorem assartref04_Items.mono_l : ∀ k, (∀ y0 y1 y2, LeO (assartref04_Items.l0 k y0 y1 y2) (assartref04_Items.l0 (k + 1) y0 y1 y2))
  | 0 => fun _ _ _ r h => by simp [assartref04_Items.l0] at h
  | k + 1 => by
    have ih0 := assartref04_Items.mono_l k
    · intro y0 y1 y2
      unfold assartref04_Items.l0
      repeat' first
      | (with_reducible exact ih0 _ _ _)
      | (with_reducible exact LeO.refl _)
      | (with_reducible exact LeO.none _)
      | (with_reducible refine LeO.ite ?_ ?_)
      | (with_reducible refine LeO.bind ?_ (fun _ => ?_))
      | exact ih0 _ _ _
      | exact LeO.none _
      | refine LeO.ite ?_ ?_
      | refine LeO.bind ?_ (fun _ => ?_)
theorem assartref04_Items.mono : ∀ a0 a1 k, LeO (assartref04_Items.f k a0 a1) (assartref04_Items.f (k + 1) a0 a1) := by
  intro a0 a1 k
  have ih0 := assartref04_Items.mono_l k
  unfold assartref04_Items.f
  repeat' first
      | (with_reducible exact ih0 _ _ _)
      | (with_reducible exact LeO.refl _)
      | (with_reducible exact LeO.none _)
      | (with_reducible refine LeO.ite ?_ ?_)
      | (with_reducible refine LeO.bind ?_ (fun _ => ?_))
      | exact ih0 _ _ _
      | exact LeO.none _
      | refine LeO.ite ?_ ?_
      | refine LeO.bind ?_ (fun _ => ?_)
set_option maxHeartbeats 8000000 in
set_option maxRecDepth 100000 in
theorem assartref04_Items.calls (k : Nat) (A0 : Option Addr) (c0 : Nat) (l0 : List (S78)) (A1 : Option Addr) (c1 : Nat) (l1 : List (S78)) (r : Bool) (w : World) (hr0 : Kd.C k78 w A0 l0.length l0) (hc0 : l0.length ≤ c0) (hr1 : Kd.C k78 w A1 l1.length l1) (hc1 : l1.length ≤ c1) (h : assartref04_Items.f k l0 l1 = some r) :
    Calls Try.prog 40 #[.slice A0 l0.length c0, .slice A1 l1.length c1] w fun e w' => e = .returned (.bool r) ∧ Drawn0 w w' := by
  have hu78 := Try.underlying78
  have HR0 := Aside0.mk hr0
  have HC0 := Aside0.mk hc0
  clear hr0 hc0
  have HR1 := Aside0.mk hr1
  have HC1 := Aside0.mk hc1
  clear hr1 hc1
  have H : (if (l0.length : Int) = (l1.length : Int) then (assartref04_Items.l0 k l0 l1 0) else (some false)) = some r := h
  clear h
  by_cases c3 : (l0.length : Int) = (l1.length : Int)
  · rw [if_pos c3] at H
    have c3b0 : ((l0.length : Int) == (l1.length : Int)) = true := beq_iff_eq.mpr c3
    have c3b1 : ((l0.length : Int) != (l1.length : Int)) = false := bne_eq_false_iff_eq.mpr c3
    have c3b2 : (l0.length == l1.length) = true := by first | simpa using c3 | (simp at c3 ⊢; omega)
    clear c3
    have H' := Aside0.mk H
    clear H
    go_enter Try.func40, Try.ntmps40
    go_wp2
    repeat (go_quiet (fail); try go_wp2)
    go_loopg [5] k (fun kq v5 w' => ∃ (x5_1 : Int), v5 = .int .i64 x5_1 ∧ Aside0 (assartref04_Items.l0 kq l0 l1 x5_1 = some r) ∧ Aside0 (kq ≤ k) ∧ Drawn0 w w')
    case atStart => exact ⟨(0), (by first | rfl | (simp; done) | (simp [*]; done)), H', ⟨Nat.le_refl _⟩, by repeat (first | exact Drawn0.refl _ | apply Drawn0.step)⟩
    case round =>
      clear H'
      try clear c1
      try clear p2
      try clear c3
      try clear c3b0
      try clear c3b1
      try clear c3b2
      obtain ⟨x5_1, rfl, HA, HK1, ⟨m1, rfl⟩⟩ := hrel
      cases gk with
      | zero => exact absurd HA.out (by simp [assartref04_Items.l0])
      | succ k1 =>
        have H := HA.out
        clear HA
        simp only [assartref04_Items.l0] at H
        by_cases c4 : x5_1 < (l0.length : Int)
        · rw [if_pos c4] at H
          have c4b0 : decide (x5_1 < (l0.length : Int)) = true := decide_eq_true c4
          clear c4
          by_cases c5 : 0 ≤ x5_1
          · rw [if_pos c5] at H
            have c5b0 : decide (0 ≤ x5_1) = true := decide_eq_true c5
            clear c5
            by_cases c6 : x5_1 < (l1.length : Int)
            · rw [if_pos c6] at H
              have c6b0 : decide (x5_1 < (l1.length : Int)) = true := decide_eq_true c6
              clear c6
              by_cases c7 : (!(((rd_T78 l0 x5_1).f0) == ((rd_T78 l1 x5_1).f0)) || (!(((rd_T78 l0 x5_1).f1) == ((rd_T78 l1 x5_1).f1)))) = true
              · rw [if_pos c7] at H
                have c7b0 : (!(((rd_T78 l0 x5_1).f0) == ((rd_T78 l1 x5_1).f0)) || (!(((rd_T78 l0 x5_1).f1) == ((rd_T78 l1 x5_1).f1)))) = true := c7
                clear c7
                obtain rfl := Option.some.inj H
                have p273 : 0 ≤ (x5_1 : Int) := of_decide_eq_true (by first | (with_reducible assumption) | assumption)
                have q273 : x5_1 < (l0.length : Int) := of_decide_eq_true (by first | (with_reducible assumption) | assumption)
                obtain ⟨ad273, e273, hx273_0, hx273_1⟩ := at_T78 HR0.out x5_1 p273 q273
                cases e273
                replace p273 := eq_true p273
                replace q273 := eq_true q273
                have p274 : 0 ≤ (x5_1 : Int) := of_decide_eq_true (by first | (with_reducible assumption) | assumption)
                have q274 : x5_1 < (l1.length : Int) := of_decide_eq_true (by first | (with_reducible assumption) | assumption)
                obtain ⟨ad274, e274, hx274_0, hx274_1⟩ := at_T78 HR1.out x5_1 p274 q274
                cases e274
                replace p274 := eq_true p274
                replace q274 := eq_true q274
                go_wp2
                repeat (go_quiet (fail); try go_wp2)
                go_ret
                exact ⟨by first | rfl | (simp; done) | (simp [*]; done), by repeat (first | exact Drawn0.refl _ | apply Drawn0.step)⟩
              · rw [if_neg c7] at H
                have c7b0 : (!(((rd_T78 l0 x5_1).f0) == ((rd_T78 l1 x5_1).f0)) || (!(((rd_T78 l0 x5_1).f1) == ((rd_T78 l1 x5_1).f1)))) = false := by simpa using c7
                clear c7
                have H' := Aside0.mk H
                clear H
                have p273 : 0 ≤ (x5_1 : Int) := of_decide_eq_true (by first | (with_reducible assumption) | assumption)
                have q273 : x5_1 < (l0.length : Int) := of_decide_eq_true (by first | (with_reducible assumption) | assumption)
                obtain ⟨ad273, e273, hx273_0, hx273_1⟩ := at_T78 HR0.out x5_1 p273 q273
                cases e273
                replace p273 := eq_true p273
                replace q273 := eq_true q273
                have p274 : 0 ≤ (x5_1 : Int) := of_decide_eq_true (by first | (with_reducible assumption) | assumption)
                have q274 : x5_1 < (l1.length : Int) := of_decide_eq_true (by first | (with_reducible assumption) | assumption)
                obtain ⟨ad274, e274, hx274_0, hx274_1⟩ := at_T78 HR1.out x5_1 p274 q274
                cases e274
                replace p274 := eq_true p274
                replace q274 := eq_true q274
                go_wp2
                repeat (go_quiet (fail); try go_wp2)
                go_roundg k1
                case measure => have := HK1.out; omega
                case rel => exact ⟨(wrap64 (x5_1 + 1)), (by first | rfl | (simp; done) | (simp [*]; done)), H', ⟨by have := HK1.out; omega⟩, by repeat (first | exact Drawn0.refl _ | apply Drawn0.step)⟩
            · rw [if_neg c6] at H
              exact absurd H (by simp)
          · rw [if_neg c5] at H
            exact absurd H (by simp)
        · rw [if_neg c4] at H
          have c4b0 : decide (x5_1 < (l0.length : Int)) = false := decide_eq_false c4
          clear c4
          obtain rfl := Option.some.inj H
          go_wp2
          repeat (go_quiet (fail); try go_wp2)
          go_ret
          exact ⟨by first | rfl | (simp; done) | (simp [*]; done), by repeat (first | exact Drawn0.refl _ | apply Drawn0.step)⟩
  · rw [if_neg c3] at H
    have c3b0 : ((l0.length : Int) == (l1.length : Int)) = false := beq_eq_false_iff_ne.mpr c3
    have c3b1 : ((l0.length : Int) != (l1.length : Int)) = true := bne_iff_ne.mpr c3
    have c3b2 : (l0.length == l1.length) = false := by first | simpa using c3 | (simp at c3 ⊢; omega)
    obtain rfl := Option.some.inj H
    go_enter Try.func40, Try.ntmps40
    go_wp2
    repeat (go_quiet (fail); try go_wp2)
    go_ret
    exact ⟨by first | rfl | (simp; done) | (simp [*]; done), by repeat (first | exact Drawn0.refl _ | apply Drawn0.step)⟩

end Go.Proofs.Ythjnkapkhphpeaa.P
end
section
namespace Go.Proofs.Ythjnkapkhphpeaa.P
open Go.RowKit Go.Proofs.YthjnkapkhphpeaaW.PrintWords Go.Proofs.YthjnkapkhphpeaaW.PrintLast Go.Proofs.YthjnkapkhphpeaaW.PrintMore
attribute [local go_sem] max2_int min2_int max_two min_two max_three min_three max_four min_four
set_option linter.unusedVariables false
set_option linter.unusedSimpArgs false

/-! ### assartref04_Rows: function 37 -/
def assartref04_Rows.l0 : Nat → List (List (S78)) → List (List (S78)) → Int → Option (Bool)
  | 0, _, _, _ => none
  | k + 1, x0, x1, x5 => if x5 < (x0.length : Int) then (if 0 ≤ x5 then (if x5 < (x1.length : Int) then ((assartref04_Items.f k (rd_L7 x0 x5) (rd_L7 x1 x5)).bind fun t312 => (if t312 = true then (assartref04_Rows.l0 k x0 x1 (wrap64 (x5 + 1))) else (some false))) else (none)) else (none)) else (some true)
def assartref04_Rows.f (k : Nat) (l0 : List (List (S78))) (l1 : List (List (S78))) : Option (Bool) := if (l0.length : Int) = (l1.length : Int) then (assartref04_Rows.l0 k l0 l1 0) else (some false)
theorem assartref04_Rows.mono_l : ∀ k, (∀ y0 y1 y2, LeO (assartref04_Rows.l0 k y0 y1 y2) (assartref04_Rows.l0 (k + 1) y0 y1 y2))
  | 0 => fun _ _ _ r h => by simp [assartref04_Rows.l0] at h
  | k + 1 => by
    have ih0 := assartref04_Rows.mono_l k
    · intro y0 y1 y2
      unfold assartref04_Rows.l0
      repeat' first
      | (with_reducible exact ih0 _ _ _)
      | (with_reducible exact assartref04_Items.mono _ _ _)
      | (with_reducible exact LeO.refl _)
      | (with_reducible exact LeO.none _)
      | (with_reducible refine LeO.ite ?_ ?_)
      | (with_reducible refine LeO.bind ?_ (fun _ => ?_))
      | exact ih0 _ _ _
      | exact assartref04_Items.mono _ _ _
      | exact LeO.none _
      | refine LeO.ite ?_ ?_
      | refine LeO.bind ?_ (fun _ => ?_)
theorem assartref04_Rows.mono : ∀ a0 a1 k, LeO (assartref04_Rows.f k a0 a1) (assartref04_Rows.f (k + 1) a0 a1) := by
  intro a0 a1 k
  have ih0 := assartref04_Rows.mono_l k
  unfold assartref04_Rows.f
  repeat' first
      | (with_reducible exact ih0 _ _ _)
      | (with_reducible exact assartref04_Items.mono _ _ _)
      | (with_reducible exact LeO.refl _)
      | (with_reducible exact LeO.none _)
      | (with_reducible refine LeO.ite ?_ ?_)
      | (with_reducible refine LeO.bind ?_ (fun _ => ?_))
      | exact ih0 _ _ _
      | exact assartref04_Items.mono _ _ _
      | exact LeO.none _
      | refine LeO.ite ?_ ?_
      | refine LeO.bind ?_ (fun _ => ?_)
set_option maxHeartbeats 8000000 in
set_option maxRecDepth 100000 in
theorem assartref04_Rows.calls (k : Nat) (A0 : Option Addr) (c0 : Nat) (l0 : List (List (S78))) (A1 : Option Addr) (c1 : Nat) (l1 : List (List (S78))) (r : Bool) (w : World) (hr0 : Kd.C (Kd.slice 78 k78) w A0 l0.length l0) (hc0 : l0.length ≤ c0) (hr1 : Kd.C (Kd.slice 78 k78) w A1 l1.length l1) (hc1 : l1.length ≤ c1) (h : assartref04_Rows.f k l0 l1 = some r) :
    Calls Try.prog 37 #[.slice A0 l0.length c0, .slice A1 l1.length c1] w fun e w' => e = .returned (.bool r) ∧ Drawn0 w w' := by
  have HR0 := Aside0.mk hr0
  have HC0 := Aside0.mk hc0
  clear hr0 hc0
  have HR1 := Aside0.mk hr1
  have HC1 := Aside0.mk hc1
  clear hr1 hc1
  have H : (if (l0.length : Int) = (l1.length : Int) then (assartref04_Rows.l0 k l0 l1 0) else (some false)) = some r := h
  clear h
  by_cases c3 : (l0.length : Int) = (l1.length : Int)
  · rw [if_pos c3] at H
    have c3b0 : ((l0.length : Int) == (l1.length : Int)) = true := beq_iff_eq.mpr c3
    have c3b1 : ((l0.length : Int) != (l1.length : Int)) = false := bne_eq_false_iff_eq.mpr c3
    have c3b2 : (l0.length == l1.length) = true := by first | simpa using c3 | (simp at c3 ⊢; omega)
    clear c3
    have H' := Aside0.mk H
    clear H
    go_enter Try.func37, Try.ntmps37
    go_wp2
    repeat (go_quiet (fail); try go_wp2)
    go_loopg [5] k (fun kq v5 w' => ∃ (x5_1 : Int), v5 = .int .i64 x5_1 ∧ Aside0 (assartref04_Rows.l0 kq l0 l1 x5_1 = some r) ∧ Aside0 (kq ≤ k) ∧ Drawn0 w w')
    case atStart => exact ⟨(0), (by first | rfl | (simp; done) | (simp [*]; done)), H', ⟨Nat.le_refl _⟩, by repeat (first | exact Drawn0.refl _ | apply Drawn0.step)⟩
    case round =>
      clear H'
      try clear c1
      try clear p2
      try clear c3
      try clear c3b0
      try clear c3b1
      try clear c3b2
      obtain ⟨x5_1, rfl, HA, HK1, ⟨m1, rfl⟩⟩ := hrel
      cases gk with
      | zero => exact absurd HA.out (by simp [assartref04_Rows.l0])
      | succ k1 =>
        have H := HA.out
        clear HA
        simp only [assartref04_Rows.l0] at H
        by_cases c4 : x5_1 < (l0.length : Int)
        · rw [if_pos c4] at H
          have c4b0 : decide (x5_1 < (l0.length : Int)) = true := decide_eq_true c4
          clear c4
          by_cases c5 : 0 ≤ x5_1
          · rw [if_pos c5] at H
            have c5b0 : decide (0 ≤ x5_1) = true := decide_eq_true c5
            clear c5
            by_cases c6 : x5_1 < (l1.length : Int)
            · rw [if_pos c6] at H
              have c6b0 : decide (x5_1 < (l1.length : Int)) = true := decide_eq_true c6
              clear c6
              replace H := Option.bind_eq_some_iff.mp H
              obtain ⟨t312, A70, H⟩ := H
              replace H : (if t312 = true then (assartref04_Rows.l0 k1 l0 l1 (wrap64 (x5_1 + 1))) else (some false)) = some r := H
              have A7 := Aside0.mk A70
              clear A70
              by_cases c8 : t312 = true
              · subst c8
                have H1 : (assartref04_Rows.l0 k1 l0 l1 (wrap64 (x5_1 + 1))) = some r := by rw [if_pos rfl] at H; exact H
                clear H
                have H := H1
                clear H1
                have H' := Aside0.mk H
                clear H
                have p310 : 0 ≤ (x5_1 : Int) := of_decide_eq_true (by first | (with_reducible assumption) | assumption)
                have q310 : x5_1 < (l0.length : Int) := of_decide_eq_true (by first | (with_reducible assumption) | assumption)
                obtain ⟨ad310, A310_0, c310_0, e310, hx310_0, hl310_0, hi310_0⟩ := at_L7 HR0.out x5_1 p310 q310
                cases e310
                have HR310_0 := Aside0.mk hi310_0
                have HC310_0 := Aside0.mk hl310_0
                clear hi310_0 hl310_0
                replace p310 := eq_true p310
                replace q310 := eq_true q310
                have p311 : 0 ≤ (x5_1 : Int) := of_decide_eq_true (by first | (with_reducible assumption) | assumption)
                have q311 : x5_1 < (l1.length : Int) := of_decide_eq_true (by first | (with_reducible assumption) | assumption)
                obtain ⟨ad311, A311_0, c311_0, e311, hx311_0, hl311_0, hi311_0⟩ := at_L7 HR1.out x5_1 p311 q311
                cases e311
                have HR311_0 := Aside0.mk hi311_0
                have HC311_0 := Aside0.mk hl311_0
                clear hi311_0 hl311_0
                replace p311 := eq_true p311
                replace q311 := eq_true q311
                go_wp2_with (first | (go_at_call 40; (with_reducible refine (assartref04_Items.calls k1 _ _ (rd_L7 l0 x5_1) _ _ (rd_L7 l1 x5_1) true _ ?side1 ?side2 ?side3 ?side4 A7.out).mono ?_); (case side1 => repeat (first | exact HR310_0.out | (with_reducible refine Kd.C_alloc ?_ _) | (with_reducible refine Kd.C_drewN ?_ _) | (with_reducible refine Kd.C_drew ?_))); (case side2 => exact HC310_0.out); (case side3 => repeat (first | exact HR311_0.out | (with_reducible refine Kd.C_alloc ?_ _) | (with_reducible refine Kd.C_drewN ?_ _) | (with_reducible refine Kd.C_drew ?_))); (case side4 => exact HC311_0.out); rintro e w' ⟨rfl, ⟨nd, rfl⟩⟩; (try first | exact ⟨rfl, _, World.drewN_drewN _ _ _⟩ | exact ⟨rfl, _, Eq.trans (World.drewN_drewN _ _ _) (congrArg (World.drewN _) (Nat.add_assoc _ _ _))⟩)))
                repeat (go_quiet (first | (go_at_call 40; (with_reducible refine (assartref04_Items.calls k1 _ _ (rd_L7 l0 x5_1) _ _ (rd_L7 l1 x5_1) true _ ?side1 ?side2 ?side3 ?side4 A7.out).mono ?_); (case side1 => repeat (first | exact HR310_0.out | (with_reducible refine Kd.C_alloc ?_ _) | (with_reducible refine Kd.C_drewN ?_ _) | (with_reducible refine Kd.C_drew ?_))); (case side2 => exact HC310_0.out); (case side3 => repeat (first | exact HR311_0.out | (with_reducible refine Kd.C_alloc ?_ _) | (with_reducible refine Kd.C_drewN ?_ _) | (with_reducible refine Kd.C_drew ?_))); (case side4 => exact HC311_0.out); rintro e w' ⟨rfl, ⟨nd, rfl⟩⟩; (try first | exact ⟨rfl, _, World.drewN_drewN _ _ _⟩ | exact ⟨rfl, _, Eq.trans (World.drewN_drewN _ _ _) (congrArg (World.drewN _) (Nat.add_assoc _ _ _))⟩))); try go_wp2_with (first | (go_at_call 40; (with_reducible refine (assartref04_Items.calls k1 _ _ (rd_L7 l0 x5_1) _ _ (rd_L7 l1 x5_1) true _ ?side1 ?side2 ?side3 ?side4 A7.out).mono ?_); (case side1 => repeat (first | exact HR310_0.out | (with_reducible refine Kd.C_alloc ?_ _) | (with_reducible refine Kd.C_drewN ?_ _) | (with_reducible refine Kd.C_drew ?_))); (case side2 => exact HC310_0.out); (case side3 => repeat (first | exact HR311_0.out | (with_reducible refine Kd.C_alloc ?_ _) | (with_reducible refine Kd.C_drewN ?_ _) | (with_reducible refine Kd.C_drew ?_))); (case side4 => exact HC311_0.out); rintro e w' ⟨rfl, ⟨nd, rfl⟩⟩; (try first | exact ⟨rfl, _, World.drewN_drewN _ _ _⟩ | exact ⟨rfl, _, Eq.trans (World.drewN_drewN _ _ _) (congrArg (World.drewN _) (Nat.add_assoc _ _ _))⟩))))
                go_roundg k1
                case measure => have := HK1.out; omega
                case rel => exact ⟨(wrap64 (x5_1 + 1)), (by first | rfl | (simp; done) | (simp [*]; done)), H', ⟨by have := HK1.out; omega⟩, by repeat (first | exact Drawn0.refl _ | apply Drawn0.step)⟩
              · replace c8 := Bool.eq_false_iff.mpr c8
                subst c8
                have H1 : (some false) = some r := by rw [if_neg (show ¬ (false = true) by decide)] at H; exact H
                clear H
                have H := H1
                clear H1
                obtain rfl := Option.some.inj H
                have p310 : 0 ≤ (x5_1 : Int) := of_decide_eq_true (by first | (with_reducible assumption) | assumption)
                have q310 : x5_1 < (l0.length : Int) := of_decide_eq_true (by first | (with_reducible assumption) | assumption)
                obtain ⟨ad310, A310_0, c310_0, e310, hx310_0, hl310_0, hi310_0⟩ := at_L7 HR0.out x5_1 p310 q310
                cases e310
                have HR310_0 := Aside0.mk hi310_0
                have HC310_0 := Aside0.mk hl310_0
                clear hi310_0 hl310_0
                replace p310 := eq_true p310
                replace q310 := eq_true q310
                have p311 : 0 ≤ (x5_1 : Int) := of_decide_eq_true (by first | (with_reducible assumption) | assumption)
                have q311 : x5_1 < (l1.length : Int) := of_decide_eq_true (by first | (with_reducible assumption) | assumption)
                obtain ⟨ad311, A311_0, c311_0, e311, hx311_0, hl311_0, hi311_0⟩ := at_L7 HR1.out x5_1 p311 q311
                cases e311
                have HR311_0 := Aside0.mk hi311_0
                have HC311_0 := Aside0.mk hl311_0
                clear hi311_0 hl311_0
                replace p311 := eq_true p311
                replace q311 := eq_true q311
                go_wp2_with (first | (go_at_call 40; (with_reducible refine (assartref04_Items.calls k1 _ _ (rd_L7 l0 x5_1) _ _ (rd_L7 l1 x5_1) false _ ?side1 ?side2 ?side3 ?side4 A7.out).mono ?_); (case side1 => repeat (first | exact HR310_0.out | (with_reducible refine Kd.C_alloc ?_ _) | (with_reducible refine Kd.C_drewN ?_ _) | (with_reducible refine Kd.C_drew ?_))); (case side2 => exact HC310_0.out); (case side3 => repeat (first | exact HR311_0.out | (with_reducible refine Kd.C_alloc ?_ _) | (with_reducible refine Kd.C_drewN ?_ _) | (with_reducible refine Kd.C_drew ?_))); (case side4 => exact HC311_0.out); rintro e w' ⟨rfl, ⟨nd, rfl⟩⟩; (try first | exact ⟨rfl, _, World.drewN_drewN _ _ _⟩ | exact ⟨rfl, _, Eq.trans (World.drewN_drewN _ _ _) (congrArg (World.drewN _) (Nat.add_assoc _ _ _))⟩)))
                repeat (go_quiet (first | (go_at_call 40; (with_reducible refine (assartref04_Items.calls k1 _ _ (rd_L7 l0 x5_1) _ _ (rd_L7 l1 x5_1) false _ ?side1 ?side2 ?side3 ?side4 A7.out).mono ?_); (case side1 => repeat (first | exact HR310_0.out | (with_reducible refine Kd.C_alloc ?_ _) | (with_reducible refine Kd.C_drewN ?_ _) | (with_reducible refine Kd.C_drew ?_))); (case side2 => exact HC310_0.out); (case side3 => repeat (first | exact HR311_0.out | (with_reducible refine Kd.C_alloc ?_ _) | (with_reducible refine Kd.C_drewN ?_ _) | (with_reducible refine Kd.C_drew ?_))); (case side4 => exact HC311_0.out); rintro e w' ⟨rfl, ⟨nd, rfl⟩⟩; (try first | exact ⟨rfl, _, World.drewN_drewN _ _ _⟩ | exact ⟨rfl, _, Eq.trans (World.drewN_drewN _ _ _) (congrArg (World.drewN _) (Nat.add_assoc _ _ _))⟩))); try go_wp2_with (first | (go_at_call 40; (with_reducible refine (assartref04_Items.calls k1 _ _ (rd_L7 l0 x5_1) _ _ (rd_L7 l1 x5_1) false _ ?side1 ?side2 ?side3 ?side4 A7.out).mono ?_); (case side1 => repeat (first | exact HR310_0.out | (with_reducible refine Kd.C_alloc ?_ _) | (with_reducible refine Kd.C_drewN ?_ _) | (with_reducible refine Kd.C_drew ?_))); (case side2 => exact HC310_0.out); (case side3 => repeat (first | exact HR311_0.out | (with_reducible refine Kd.C_alloc ?_ _) | (with_reducible refine Kd.C_drewN ?_ _) | (with_reducible refine Kd.C_drew ?_))); (case side4 => exact HC311_0.out); rintro e w' ⟨rfl, ⟨nd, rfl⟩⟩; (try first | exact ⟨rfl, _, World.drewN_drewN _ _ _⟩ | exact ⟨rfl, _, Eq.trans (World.drewN_drewN _ _ _) (congrArg (World.drewN _) (Nat.add_assoc _ _ _))⟩))))
                go_ret
                exact ⟨by first | rfl | (simp; done) | (simp [*]; done), by repeat (first | exact Drawn0.refl _ | apply Drawn0.step)⟩
            · rw [if_neg c6] at H
              exact absurd H (by simp)
          · rw [if_neg c5] at H
            exact absurd H (by simp)
        · rw [if_neg c4] at H
          have c4b0 : decide (x5_1 < (l0.length : Int)) = false := decide_eq_false c4
          clear c4
          obtain rfl := Option.some.inj H
          go_wp2
          repeat (go_quiet (fail); try go_wp2)
          go_ret
          exact ⟨by first | rfl | (simp; done) | (simp [*]; done), by repeat (first | exact Drawn0.refl _ | apply Drawn0.step)⟩
  · rw [if_neg c3] at H
    have c3b0 : ((l0.length : Int) == (l1.length : Int)) = false := beq_eq_false_iff_ne.mpr c3
    have c3b1 : ((l0.length : Int) != (l1.length : Int)) = true := bne_iff_ne.mpr c3
    have c3b2 : (l0.length == l1.length) = false := by first | simpa using c3 | (simp at c3 ⊢; omega)
    obtain rfl := Option.some.inj H
    go_enter Try.func37, Try.ntmps37
    go_wp2
    repeat (go_quiet (fail); try go_wp2)
    go_ret
    exact ⟨by first | rfl | (simp; done) | (simp [*]; done), by repeat (first | exact Drawn0.refl _ | apply Drawn0.step)⟩

end Go.Proofs.Ythjnkapkhphpeaa.P
end
