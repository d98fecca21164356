/- Texts of this claim's proof put together: HNodeTells, HRow, QNodeTells, PureNodeTells, LawNodeTells. -/
import Derived.Test.YthjnkapkhphpeaaBNodeTells0
import Derived.Test.YthjnkapkhphpeaaBNodeTells2
import Derived.Test.YthjnkapkhphpeaaBNodeTells1
import Derived.Test.YthjnkapkhphpeaaBNodeTells3
import Derived.ChangeArms
import Derived.DataReads
import Derived.DataElems
import Derived.SizedLaws
import Derived.Test.YthjnkapkhphpeaaRows
import Derived.WalkKit
import Derived.ProofKit
import Derived.OpenShut
import Derived.ShutString
import Derived.ChangeOld
import Derived.Below
section
/- NodeTells: the walk (drafted by xprint.py, cut to the ways that answer true by onepath.py). -/
namespace Go.Proofs.Ythjnkapkhphpeaa.P
open Go.RowKit Go.Proofs.YthjnkapkhphpeaaW.PrintWords Go.Proofs.YthjnkapkhphpeaaW.PrintLast Go.Proofs.YthjnkapkhphpeaaW.PrintMore
attribute [local go_sem] max2_int min2_int max_two min_two max_three min_three max_four min_four
set_option linter.unusedVariables false
set_option linter.unusedSimpArgs false

/-! ### assartlaw04_NodeTells: function 8 -/
def assartlaw04_NodeTells.j0 : Nat → ByteArray → Bool → Bool → Bool → List (S78) → Bool → List (S78) → Option (Bool)
  | 0, _, _, _, _, _, _, _ => none
  | k + 1, x2, x7, x33, x279000, x279001, x280000, x280001 => if x33 = true then (some x7) else ((node_Print.f k x279000 x279001).bind fun bt281 => ((assartref04_Print.f k x279000 x279001).bind fun bt283 => ((node_Parse.f k x2).bind fun bt285 => ((assartref04_Parse.f k x2).bind fun bt291 => ((assartref04_Right.f k x279000 x279001).bind fun t297 => (if t297 = true then ((assartref04_Right.f k x280000 x280001).bind fun t298 => (if t298 = true then ((node_Same.f k x279000 x279001 x280000 x280001).bind fun t299 => ((assartref04_Same.f k x279000 x279001 x280000 x280001).bind fun t300 => (if x7 = true then ((node_Right.f k x279000 x279001).bind fun t301 => (if (t301 == t297) = true then (if (t299 == t300) = true then (if bt281.1.toList = bt283.1.toList then (if bt281.2 = bt283.2 then ((assartref04_Same.f k bt285.1 bt285.2.1 bt291.1 bt291.2.1).bind fun t302 => (if t302 = true then (some (bt285.2.2 == bt291.2.2)) else (some false))) else (some false)) else (some false)) else (some false)) else (some false))) else (some false)))) else (if x7 = true then ((node_Right.f k x279000 x279001).bind fun t303 => (if (t303 == t297) = true then (if bt281.1.toList = bt283.1.toList then (if bt281.2 = bt283.2 then ((assartref04_Same.f k bt285.1 bt285.2.1 bt291.1 bt291.2.1).bind fun t304 => (if t304 = true then (some (bt285.2.2 == bt291.2.2)) else (some false))) else (some false)) else (some false)) else (some false))) else (some false)))) else (if x7 = true then ((node_Right.f k x279000 x279001).bind fun t305 => (if (t305 == t297) = true then (if bt281.1.toList = bt283.1.toList then (if bt281.2 = bt283.2 then ((assartref04_Same.f k bt285.1 bt285.2.1 bt291.1 bt291.2.1).bind fun t306 => (if t306 = true then (some (bt285.2.2 == bt291.2.2)) else (some false))) else (some false)) else (some false)) else (some false))) else (some false))))))))
def assartlaw04_NodeTells.g (k : Nat) (a0_0 : Bool) (l0_1 : List (S78)) (a1_0 : Bool) (l1_1 : List (S78)) (a2 : ByteArray) : Option (Bool) := (assartlaw04_shown.f).bind fun t280 => (if (l0_1.length : Int) > 20 then (assartlaw04_NodeTells.j0 k a2 t280 true a0_0 l0_1 a1_0 l1_1) else (if (l1_1.length : Int) > 20 then (assartlaw04_NodeTells.j0 k a2 t280 true a0_0 l0_1 a1_0 l1_1) else (assartlaw04_NodeTells.j0 k a2 t280 (decide ((a2.size : Int) > 200)) a0_0 l0_1 a1_0 l1_1)))
theorem assartlaw04_NodeTells.mono_l : ∀ k, (∀ y0 y1 y2 y3 y4 y5 y6, LeO (assartlaw04_NodeTells.j0 k y0 y1 y2 y3 y4 y5 y6) (assartlaw04_NodeTells.j0 (k + 1) y0 y1 y2 y3 y4 y5 y6))
  | 0 => fun _ _ _ _ _ _ _ r h => by simp [assartlaw04_NodeTells.j0] at h
  | k + 1 => by
    have ih0 := assartlaw04_NodeTells.mono_l k
    · intro y0 y1 y2 y3 y4 y5 y6
      unfold assartlaw04_NodeTells.j0
      repeat' first
      | (with_reducible exact ih0 _ _ _ _ _ _ _)
      | (with_reducible exact assartref04_Parse.mono _ _)
      | (with_reducible exact assartref04_Print.mono _ _ _)
      | (with_reducible exact assartref04_Right.mono _ _ _)
      | (with_reducible exact assartref04_Same.mono _ _ _ _ _)
      | (with_reducible exact node_Parse.mono _ _)
      | (with_reducible exact node_Print.mono _ _ _)
      | (with_reducible exact node_Right.mono _ _ _)
      | (with_reducible exact node_Same.mono _ _ _ _ _)
      | (with_reducible exact LeO.refl _)
      | (with_reducible exact LeO.none _)
      | (with_reducible refine LeO.ite ?_ ?_)
      | (with_reducible refine LeO.bind ?_ (fun _ => ?_))
      | exact ih0 _ _ _ _ _ _ _
      | exact assartref04_Parse.mono _ _
      | exact assartref04_Print.mono _ _ _
      | exact assartref04_Right.mono _ _ _
      | exact assartref04_Same.mono _ _ _ _ _
      | exact node_Parse.mono _ _
      | exact node_Print.mono _ _ _
      | exact node_Right.mono _ _ _
      | exact node_Same.mono _ _ _ _ _
      | exact LeO.none _
      | refine LeO.ite ?_ ?_
      | refine LeO.bind ?_ (fun _ => ?_)
theorem assartlaw04_NodeTells.mono : ∀ a0 a1 a2 a3 a4 k, LeO (assartlaw04_NodeTells.g k a0 a1 a2 a3 a4) (assartlaw04_NodeTells.g (k + 1) a0 a1 a2 a3 a4) := by
  intro a0 a1 a2 a3 a4 k
  have ih0 := assartlaw04_NodeTells.mono_l k
  unfold assartlaw04_NodeTells.g
  repeat' first
      | (with_reducible exact ih0 _ _ _ _ _ _ _)
      | (with_reducible exact assartref04_Parse.mono _ _)
      | (with_reducible exact assartref04_Print.mono _ _ _)
      | (with_reducible exact assartref04_Right.mono _ _ _)
      | (with_reducible exact assartref04_Same.mono _ _ _ _ _)
      | (with_reducible exact node_Parse.mono _ _)
      | (with_reducible exact node_Print.mono _ _ _)
      | (with_reducible exact node_Right.mono _ _ _)
      | (with_reducible exact node_Same.mono _ _ _ _ _)
      | (with_reducible exact LeO.refl _)
      | (with_reducible exact LeO.none _)
      | (with_reducible refine LeO.ite ?_ ?_)
      | (with_reducible refine LeO.bind ?_ (fun _ => ?_))
      | exact ih0 _ _ _ _ _ _ _
      | exact assartref04_Parse.mono _ _
      | exact assartref04_Print.mono _ _ _
      | exact assartref04_Right.mono _ _ _
      | exact assartref04_Same.mono _ _ _ _ _
      | exact node_Parse.mono _ _
      | exact node_Print.mono _ _ _
      | exact node_Right.mono _ _ _
      | exact node_Same.mono _ _ _ _ _
      | exact LeO.none _
      | refine LeO.ite ?_ ?_
      | refine LeO.bind ?_ (fun _ => ?_)
def assartlaw04_NodeTells.T9 : Bool × List (List Nat × List Nat) := (true, [([], []), ([0], [0]), ([1], [1]), ([2], [2]), ([3, 2, 2], [2, 3]), ([4, 2], [2, 4]), ([2, 5], [2, 5]), ([6, 4], [6]), ([7], [7]), ([7], [7]), ([8, 9, 7, 7], [7, 8, 9]), ([7], [7]), ([7], [7]), ([11, 12, 10, 7], [7, 11, 12]), ([10, 13, 7], [7, 10, 13]), ([7, 14], [7, 14]), ([15, 13, 0, 1, 2, 3, 4, 5, 6, 7, 8, 9, 10, 11, 12, 13, 14, 15], [15])])
def assartlaw04_NodeTells.B9 : List Nat := [0, 1, 3, 7, 15, 31, 63, 127, 255, 255, 1023, 255, 255, 8191, 16383, 32767, 65535]
theorem assartlaw04_NodeTells.tab9 : rtab .any (opsOf Try.f8 9) = assartlaw04_NodeTells.T9 := by kernel_rfl
theorem assartlaw04_NodeTells.bits9 : waitsOk assartlaw04_NodeTells.T9.2 assartlaw04_NodeTells.B9 = true := by kernel_rfl
set_option maxHeartbeats 8000000 in
set_option maxRecDepth 100000 in
theorem assartlaw04_NodeTells.walk (k : Nat) (a0_0 : Bool) (A0_1 : Option Addr) (c0_1 : Nat) (l0_1 : List (S78)) (a1_0 : Bool) (A1_1 : Option Addr) (c1_1 : Nat) (l1_1 : List (S78)) (a2 : ByteArray) (r : Bool) (w : World) (hr0_1 : Kd.C k78 w A0_1 l0_1.length l0_1) (hc0_1 : l0_1.length ≤ c0_1) (hr1_1 : Kd.C k78 w A1_1 l1_1.length l1_1) (hc1_1 : l1_1.length ≤ c1_1) (h : assartlaw04_NodeTells.g k a0_0 l0_1 a1_0 l1_1 a2 = some r) (hr : r = true) :
    Calls Try.prog 8 #[.agg #[.bool a0_0, .slice A0_1 l0_1.length c0_1], .agg #[.bool a1_0, .slice A1_1 l1_1.length c1_1], .string a2] w fun e w' => e = .returned (.bool r) ∧ Below w.heap.size w w' := by
  have hu56 := Try.underlying56
  have HR0_1 := Aside0.mk hr0_1
  have HC0_1 := Aside0.mk hc0_1
  clear hr0_1 hc0_1
  have HR1_1 := Aside0.mk hr1_1
  have HC1_1 := Aside0.mk hc1_1
  clear hr1_1 hc1_1
  have HB := Aside0.mk (Below.refl w.heap.size w)
  have H : ((assartlaw04_shown.f).bind fun t280 => (if (l0_1.length : Int) > 20 then (assartlaw04_NodeTells.j0 k a2 t280 true a0_0 l0_1 a1_0 l1_1) else (if (l1_1.length : Int) > 20 then (assartlaw04_NodeTells.j0 k a2 t280 true a0_0 l0_1 a1_0 l1_1) else (assartlaw04_NodeTells.j0 k a2 t280 (decide ((a2.size : Int) > 200)) a0_0 l0_1 a1_0 l1_1)))) = some r := h
  clear h
  replace H := Option.bind_eq_some_iff.mp H
  obtain ⟨t280, A40, H⟩ := H
  replace H : (if (l0_1.length : Int) > 20 then (assartlaw04_NodeTells.j0 k a2 t280 true a0_0 l0_1 a1_0 l1_1) else (if (l1_1.length : Int) > 20 then (assartlaw04_NodeTells.j0 k a2 t280 true a0_0 l0_1 a1_0 l1_1) else (assartlaw04_NodeTells.j0 k a2 t280 (decide ((a2.size : Int) > 200)) a0_0 l0_1 a1_0 l1_1))) = some r := H
  have A4 := Aside0.mk A40
  clear A40
  have HC5 := Aside0.mk H
  clear H
  go_enter Try.func8, Try.ntmps8
  go_upto_region 2 with (first | ((with_reducible refine gate_dst (N := 3) rfl ?_); (try (refine gate_guard (by rfl) ?_; dsimp only)); refine box_event ?hg (N := 3) ?hd (cs := #[.bool a0_0, .slice A0_1 l0_1.length c0_1]) (t := 56) ?hr ?_; (case hd => rfl); (case hg => rfl); (case hr => first | (go_simp; done) | (go_simp; rfl)); intro gb278 hg w6 hbox hb; have n0_ := Aside0.mk (below_step (by repeat (first | (with_reducible first | exact HB.out | apply below_alloc | apply pw_below_drewN | apply below_drew1) | exact HB.out)) hb); have n1_ := Aside0.mk (hbox); have n2_ := Aside0.mk ((by rw [hg]; exact (below_size (by repeat (first | (with_reducible first | exact HB.out | apply below_alloc | apply pw_below_drewN | apply below_drew1) | exact HB.out))) : w.heap.size ≤ gb278)); have n3_ := Aside0.mk ((by rw [hg]; exact (below_size (by repeat (first | (with_reducible first | exact HB.out | apply below_alloc | apply pw_below_drewN | apply below_drew1) | exact HB.out))) : w.heap.size ≤ gb278)); clear HB; have HB := n0_; have BK278 := n1_; have GW278 := n2_; have GE278 := n3_; clear n0_ n1_ n2_ n3_; clear hb hbox hg) | ((with_reducible refine gate_dst (N := 4) rfl ?_); (try (refine gate_guard (by rfl) ?_; dsimp only)); refine box_event ?hg (N := 4) ?hd (cs := #[.bool a1_0, .slice A1_1 l1_1.length c1_1]) (t := 56) ?hr ?_; (case hd => rfl); (case hg => rfl); (case hr => first | (go_simp; done) | (go_simp; rfl)); intro gb279 hg w7 hbox hb; have n0_ := Aside0.mk (blk_below (g := gb278) (o := .cells #[.bool a0_0, .slice A0_1 l0_1.length c0_1] 56 (0, 0)) (by (with_reducible repeat (first | refine blk_drewN ?_ _ | refine blk_drew ?_ | refine blk_alloc ?_ _)); exact BK278.out) hb); have n1_ := Aside0.mk (below_step (by repeat (first | (with_reducible first | exact HB.out | apply below_alloc | apply pw_below_drewN | apply below_drew1 | refine below_set ?_ GE278.out) | exact HB.out)) hb); have n2_ := Aside0.mk (hbox); have n3_ := Aside0.mk ((by rw [hg]; exact (below_size (by repeat (first | (with_reducible first | exact HB.out | apply below_alloc | apply pw_below_drewN | apply below_drew1 | refine below_set ?_ GE278.out) | exact HB.out))) : w.heap.size ≤ gb279)); have n4_ := Aside0.mk ((by rw [hg]; exact (below_size (by repeat (first | (with_reducible first | exact HB.out | apply below_alloc | apply pw_below_drewN | apply below_drew1 | refine below_set ?_ GE278.out) | exact HB.out))) : w.heap.size ≤ gb279)); have n5_ := Aside0.mk ((by rw [hg]; exact Nat.ne_of_lt (blk_lt (g := gb278) (o := .cells #[.bool a0_0, .slice A0_1 l0_1.length c0_1] 56 (0, 0)) (by (with_reducible repeat (first | refine blk_drewN ?_ _ | refine blk_drew ?_ | refine blk_alloc ?_ _)); exact BK278.out)) : gb278 ≠ gb279)); have n6_ := Aside0.mk ((by rw [hg]; exact Nat.ne_of_gt (blk_lt (g := gb278) (o := .cells #[.bool a0_0, .slice A0_1 l0_1.length c0_1] 56 (0, 0)) (by (with_reducible repeat (first | refine blk_drewN ?_ _ | refine blk_drew ?_ | refine blk_alloc ?_ _)); exact BK278.out)) : gb279 ≠ gb278)); clear BK278; clear HB; have BK278 := n0_; have HB := n1_; have BK279 := n2_; have GW279 := n3_; have GE279 := n4_; have NB278_279 := n5_; have NB279_278 := n6_; clear n0_ n1_ n2_ n3_ n4_ n5_ n6_; clear hb hbox hg) | ((with_reducible refine gate_callee (f := 26) rfl ?_); refine goesL_ (some 18) rfl rfl Try.func26 (by kernel_rfl) rfl #[] rfl (by (try simp only [List.map_toArray, List.map_cons, List.map_nil]); first | done | rfl | (simp only [List.length_drop, List.length_take]; rfl)) ?_; (with_reducible refine (assartlaw04_shown.calls  t280 _ A4.out).mono ?_); rintro e w8 ⟨rfl, hb⟩; refine ⟨_, rfl, ?_⟩; have n0_ := Aside0.mk (blk_below (g := gb278) (o := .cells #[.bool a0_0, .slice A0_1 l0_1.length c0_1] 56 (0, 0)) (by (with_reducible repeat (first | refine blk_drewN ?_ _ | refine blk_drew ?_ | refine blk_alloc ?_ _)); exact BK278.out) hb); have n1_ := Aside0.mk (blk_below (g := gb279) (o := .cells #[.bool a1_0, .slice A1_1 l1_1.length c1_1] 56 (0, 0)) (by (with_reducible repeat (first | refine blk_drewN ?_ _ | refine blk_drew ?_ | refine blk_alloc ?_ _)); exact BK279.out) hb); have n2_ := Aside0.mk (below_step (by repeat (first | (with_reducible first | exact HB.out | apply below_alloc | apply pw_below_drewN | apply below_drew1 | refine below_set ?_ GE278.out | refine below_set ?_ GE279.out) | exact HB.out)) hb); clear BK278; clear BK279; clear HB; have BK278 := n0_; have BK279 := n1_; have HB := n2_; clear n0_ n1_ n2_; (try clear hb); (try clear hb2); (try clear hk); (try clear hi)))
  (try simp only [Act.put, List.setIfInBounds_toArray, List.set_cons_zero, List.set_cons_succ])
  go_cut [33] (fun v33 wc => ∃ (kq : Nat) (x33_4 : Bool), v33 = .bool x33_4 ∧ Aside0 (assartlaw04_NodeTells.j0 kq a2 t280 x33_4 a0_0 l0_1 a1_0 l1_1 = some r) ∧ Aside0 (kq ≤ k) ∧ Aside0 (wc.heap[gb278]? = some (.cells #[.bool a0_0, (.slice A0_1 l0_1.length c0_1)] 56 (0, 0))) ∧ Aside0 (wc.heap[gb279]? = some (.cells #[.bool a1_0, (.slice A1_1 l1_1.length c1_1)] 56 (0, 0))) ∧ Aside0 (Below w.heap.size w wc))
  case first =>
    have H := HC5.out
    clear HC5
    by_cases c9 : (l0_1.length : Int) > 20
    · rw [if_pos c9] at H
      have c9b0 : decide (20 < (l0_1.length : Int)) = true := decide_eq_true c9
      have c9b1 : decide (20 < l0_1.length) = true := decide_eq_true (by omega)
      clear c9
      (first | rw [c9b0] | (simp only [i64_w, i32_w]; rw [c9b0]) | skip)
      have H' := Aside0.mk H
      clear H
      have hnb10 := NB278_279.out
      have hnc10 := NB279_278.out
      have hcz11_0 : w8.cell? ⟨gb278, 0, none⟩ = some (.bool a0_0) := (blk_cell BK278.out 0).trans rfl
      have hcz11_1 : w8.cell? ⟨gb278, 1, none⟩ = some (.slice A0_1 l0_1.length c0_1) := (blk_cell BK278.out 1).trans rfl
      have hfz11_0 := blk_frozen BK278.out 0
      have hfz11_1 := blk_frozen BK278.out 1
      go_wp2
      go_meet
      case rel => exact ⟨_, (true), (by first | rfl | (simp; done) | (simp [*]; done)), H', ⟨by first | omega | exact Nat.le_refl _⟩, ⟨by (with_reducible repeat (first | refine blk_drewN ?_ _ | refine blk_drew ?_ | refine blk_alloc ?_ _)); exact BK278.out⟩, ⟨by (with_reducible repeat (first | refine blk_drewN ?_ _ | refine blk_drew ?_ | refine blk_alloc ?_ _)); exact BK279.out⟩, ⟨by repeat (first | (with_reducible first | exact HB.out | apply below_alloc | apply pw_below_drewN | apply below_drew1 | refine below_set ?_ GE278.out | refine below_set ?_ GE279.out) | exact HB.out)⟩⟩
    · rw [if_neg c9] at H
      have c9b0 : decide (20 < (l0_1.length : Int)) = false := decide_eq_false c9
      have c9b1 : decide (20 < l0_1.length) = false := decide_eq_false (by omega)
      clear c9
      (first | rw [c9b0] | (simp only [i64_w, i32_w]; rw [c9b0]) | skip)
      by_cases c12 : (l1_1.length : Int) > 20
      · rw [if_pos c12] at H
        have c12b0 : decide (20 < (l1_1.length : Int)) = true := decide_eq_true c12
        have c12b1 : decide (20 < l1_1.length) = true := decide_eq_true (by omega)
        clear c12
        have H' := Aside0.mk H
        clear H
        have hnb13 := NB278_279.out
        have hnc13 := NB279_278.out
        have hcz14_0 : w8.cell? ⟨gb278, 0, none⟩ = some (.bool a0_0) := (blk_cell BK278.out 0).trans rfl
        have hcz14_1 : w8.cell? ⟨gb278, 1, none⟩ = some (.slice A0_1 l0_1.length c0_1) := (blk_cell BK278.out 1).trans rfl
        have hfz14_0 := blk_frozen BK278.out 0
        have hfz14_1 := blk_frozen BK278.out 1
        have hcz15_0 : w8.cell? ⟨gb279, 0, none⟩ = some (.bool a1_0) := (blk_cell BK279.out 0).trans rfl
        have hcz15_1 : w8.cell? ⟨gb279, 1, none⟩ = some (.slice A1_1 l1_1.length c1_1) := (blk_cell BK279.out 1).trans rfl
        have hfz15_0 := blk_frozen BK279.out 0
        have hfz15_1 := blk_frozen BK279.out 1
        go_wp2
        go_meet
        case rel => exact ⟨_, (true), (by first | rfl | (simp; done) | (simp [*]; done)), H', ⟨by first | omega | exact Nat.le_refl _⟩, ⟨by (with_reducible repeat (first | refine blk_drewN ?_ _ | refine blk_drew ?_ | refine blk_alloc ?_ _)); exact BK278.out⟩, ⟨by (with_reducible repeat (first | refine blk_drewN ?_ _ | refine blk_drew ?_ | refine blk_alloc ?_ _)); exact BK279.out⟩, ⟨by repeat (first | (with_reducible first | exact HB.out | apply below_alloc | apply pw_below_drewN | apply below_drew1 | refine below_set ?_ GE278.out | refine below_set ?_ GE279.out) | exact HB.out)⟩⟩
      · rw [if_neg c12] at H
        have c12b0 : decide (20 < (l1_1.length : Int)) = false := decide_eq_false c12
        have c12b1 : decide (20 < l1_1.length) = false := decide_eq_false (by omega)
        clear c12
        have H' := Aside0.mk H
        clear H
        have hnb16 := NB278_279.out
        have hnc16 := NB279_278.out
        have hcz17_0 : w8.cell? ⟨gb278, 0, none⟩ = some (.bool a0_0) := (blk_cell BK278.out 0).trans rfl
        have hcz17_1 : w8.cell? ⟨gb278, 1, none⟩ = some (.slice A0_1 l0_1.length c0_1) := (blk_cell BK278.out 1).trans rfl
        have hfz17_0 := blk_frozen BK278.out 0
        have hfz17_1 := blk_frozen BK278.out 1
        have hcz18_0 : w8.cell? ⟨gb279, 0, none⟩ = some (.bool a1_0) := (blk_cell BK279.out 0).trans rfl
        have hcz18_1 : w8.cell? ⟨gb279, 1, none⟩ = some (.slice A1_1 l1_1.length c1_1) := (blk_cell BK279.out 1).trans rfl
        have hfz18_0 := blk_frozen BK279.out 0
        have hfz18_1 := blk_frozen BK279.out 1
        go_wp2
        go_meet
        case rel => exact ⟨_, (decide ((a2.size : Int) > 200)), (by first | rfl | (simp; done) | (simp [*]; done)), H', ⟨by first | omega | exact Nat.le_refl _⟩, ⟨by (with_reducible repeat (first | refine blk_drewN ?_ _ | refine blk_drew ?_ | refine blk_alloc ?_ _)); exact BK278.out⟩, ⟨by (with_reducible repeat (first | refine blk_drewN ?_ _ | refine blk_drew ?_ | refine blk_alloc ?_ _)); exact BK279.out⟩, ⟨by repeat (first | (with_reducible first | exact HB.out | apply below_alloc | apply pw_below_drewN | apply below_drew1 | refine below_set ?_ GE278.out | refine below_set ?_ GE279.out) | exact HB.out)⟩⟩
  case rest =>
    clear HC5
    try clear c1
    try clear c2
    try clear p2
    try clear c8
    try clear c9
    try clear c9b0
    try clear c9b1
    try clear c10
    try clear c12
    try clear c12b0
    try clear c12b1
    try clear c13
    try clear c16
    try clear hcz11_0
    try clear hcz11_1
    try clear hcz14_0
    try clear hcz14_1
    try clear hcz15_0
    try clear hcz15_1
    try clear hcz17_0
    try clear hcz17_1
    try clear hcz18_0
    try clear hcz18_1
    try clear hfz11_0
    try clear hfz11_1
    try clear hfz14_0
    try clear hfz14_1
    try clear hfz15_0
    try clear hfz15_1
    try clear hfz17_0
    try clear hfz17_1
    try clear hfz18_0
    try clear hfz18_1
    obtain ⟨kq, x33_4, rfl, HA, HJ4, BK278, BK279, HB⟩ := hcut
    cases kq with
    | zero => exact absurd HA.out (by simp [assartlaw04_NodeTells.j0])
    | succ kj4 =>
      have H := HA.out
      clear HA
      simp only [assartlaw04_NodeTells.j0] at H
      by_cases c19 : x33_4 = true
      · subst c19
        have H1 : (some t280) = some r := by rw [if_pos rfl] at H; exact H
        clear H
        have H := H1
        clear H1
        obtain rfl := Option.some.inj H
        go_wp2
        go_ret
        exact ⟨by first | rfl | (simp [errW_none, errW_some] <;> rfl) | (simp [*, errW_none, errW_some] <;> rfl), by repeat (first | (with_reducible first | exact HB.out | apply below_alloc | apply pw_below_drewN | apply below_drew1 | refine below_set ?_ GE278.out | refine below_set ?_ GE279.out) | exact HB.out)⟩
      · replace c19 := Bool.eq_false_iff.mpr c19
        subst c19
        have H1 : ((node_Print.f kj4 a0_0 l0_1).bind fun bt281 => ((assartref04_Print.f kj4 a0_0 l0_1).bind fun bt283 => ((node_Parse.f kj4 a2).bind fun bt285 => ((assartref04_Parse.f kj4 a2).bind fun bt291 => ((assartref04_Right.f kj4 a0_0 l0_1).bind fun t297 => (if t297 = true then ((assartref04_Right.f kj4 a1_0 l1_1).bind fun t298 => (if t298 = true then ((node_Same.f kj4 a0_0 l0_1 a1_0 l1_1).bind fun t299 => ((assartref04_Same.f kj4 a0_0 l0_1 a1_0 l1_1).bind fun t300 => (if t280 = true then ((node_Right.f kj4 a0_0 l0_1).bind fun t301 => (if (t301 == t297) = true then (if (t299 == t300) = true then (if bt281.1.toList = bt283.1.toList then (if bt281.2 = bt283.2 then ((assartref04_Same.f kj4 bt285.1 bt285.2.1 bt291.1 bt291.2.1).bind fun t302 => (if t302 = true then (some (bt285.2.2 == bt291.2.2)) else (some false))) else (some false)) else (some false)) else (some false)) else (some false))) else (some false)))) else (if t280 = true then ((node_Right.f kj4 a0_0 l0_1).bind fun t303 => (if (t303 == t297) = true then (if bt281.1.toList = bt283.1.toList then (if bt281.2 = bt283.2 then ((assartref04_Same.f kj4 bt285.1 bt285.2.1 bt291.1 bt291.2.1).bind fun t304 => (if t304 = true then (some (bt285.2.2 == bt291.2.2)) else (some false))) else (some false)) else (some false)) else (some false))) else (some false)))) else (if t280 = true then ((node_Right.f kj4 a0_0 l0_1).bind fun t305 => (if (t305 == t297) = true then (if bt281.1.toList = bt283.1.toList then (if bt281.2 = bt283.2 then ((assartref04_Same.f kj4 bt285.1 bt285.2.1 bt291.1 bt291.2.1).bind fun t306 => (if t306 = true then (some (bt285.2.2 == bt291.2.2)) else (some false))) else (some false)) else (some false)) else (some false))) else (some false)))))))) = some r := by rw [if_neg (show ¬ (false = true) by decide)] at H; exact H
        clear H
        have H := H1
        clear H1
        replace H := Option.bind_eq_some_iff.mp H
        obtain ⟨⟨t281, t282⟩, A200, H⟩ := H
        replace H : ((assartref04_Print.f kj4 a0_0 l0_1).bind fun bt283 => ((node_Parse.f kj4 a2).bind fun bt285 => ((assartref04_Parse.f kj4 a2).bind fun bt291 => ((assartref04_Right.f kj4 a0_0 l0_1).bind fun t297 => (if t297 = true then ((assartref04_Right.f kj4 a1_0 l1_1).bind fun t298 => (if t298 = true then ((node_Same.f kj4 a0_0 l0_1 a1_0 l1_1).bind fun t299 => ((assartref04_Same.f kj4 a0_0 l0_1 a1_0 l1_1).bind fun t300 => (if t280 = true then ((node_Right.f kj4 a0_0 l0_1).bind fun t301 => (if (t301 == t297) = true then (if (t299 == t300) = true then (if t281.toList = bt283.1.toList then (if t282 = bt283.2 then ((assartref04_Same.f kj4 bt285.1 bt285.2.1 bt291.1 bt291.2.1).bind fun t302 => (if t302 = true then (some (bt285.2.2 == bt291.2.2)) else (some false))) else (some false)) else (some false)) else (some false)) else (some false))) else (some false)))) else (if t280 = true then ((node_Right.f kj4 a0_0 l0_1).bind fun t303 => (if (t303 == t297) = true then (if t281.toList = bt283.1.toList then (if t282 = bt283.2 then ((assartref04_Same.f kj4 bt285.1 bt285.2.1 bt291.1 bt291.2.1).bind fun t304 => (if t304 = true then (some (bt285.2.2 == bt291.2.2)) else (some false))) else (some false)) else (some false)) else (some false))) else (some false)))) else (if t280 = true then ((node_Right.f kj4 a0_0 l0_1).bind fun t305 => (if (t305 == t297) = true then (if t281.toList = bt283.1.toList then (if t282 = bt283.2 then ((assartref04_Same.f kj4 bt285.1 bt285.2.1 bt291.1 bt291.2.1).bind fun t306 => (if t306 = true then (some (bt285.2.2 == bt291.2.2)) else (some false))) else (some false)) else (some false)) else (some false))) else (some false))))))) = some r := H
        have A20 := Aside0.mk A200
        clear A200
        replace H := Option.bind_eq_some_iff.mp H
        obtain ⟨⟨t283, t284⟩, A210, H⟩ := H
        replace H : ((node_Parse.f kj4 a2).bind fun bt285 => ((assartref04_Parse.f kj4 a2).bind fun bt291 => ((assartref04_Right.f kj4 a0_0 l0_1).bind fun t297 => (if t297 = true then ((assartref04_Right.f kj4 a1_0 l1_1).bind fun t298 => (if t298 = true then ((node_Same.f kj4 a0_0 l0_1 a1_0 l1_1).bind fun t299 => ((assartref04_Same.f kj4 a0_0 l0_1 a1_0 l1_1).bind fun t300 => (if t280 = true then ((node_Right.f kj4 a0_0 l0_1).bind fun t301 => (if (t301 == t297) = true then (if (t299 == t300) = true then (if t281.toList = t283.toList then (if t282 = t284 then ((assartref04_Same.f kj4 bt285.1 bt285.2.1 bt291.1 bt291.2.1).bind fun t302 => (if t302 = true then (some (bt285.2.2 == bt291.2.2)) else (some false))) else (some false)) else (some false)) else (some false)) else (some false))) else (some false)))) else (if t280 = true then ((node_Right.f kj4 a0_0 l0_1).bind fun t303 => (if (t303 == t297) = true then (if t281.toList = t283.toList then (if t282 = t284 then ((assartref04_Same.f kj4 bt285.1 bt285.2.1 bt291.1 bt291.2.1).bind fun t304 => (if t304 = true then (some (bt285.2.2 == bt291.2.2)) else (some false))) else (some false)) else (some false)) else (some false))) else (some false)))) else (if t280 = true then ((node_Right.f kj4 a0_0 l0_1).bind fun t305 => (if (t305 == t297) = true then (if t281.toList = t283.toList then (if t282 = t284 then ((assartref04_Same.f kj4 bt285.1 bt285.2.1 bt291.1 bt291.2.1).bind fun t306 => (if t306 = true then (some (bt285.2.2 == bt291.2.2)) else (some false))) else (some false)) else (some false)) else (some false))) else (some false)))))) = some r := H
        have A21 := Aside0.mk A210
        clear A210
        replace H := Option.bind_eq_some_iff.mp H
        obtain ⟨⟨t285, t286, t289⟩, A220, H⟩ := H
        replace H : ((assartref04_Parse.f kj4 a2).bind fun bt291 => ((assartref04_Right.f kj4 a0_0 l0_1).bind fun t297 => (if t297 = true then ((assartref04_Right.f kj4 a1_0 l1_1).bind fun t298 => (if t298 = true then ((node_Same.f kj4 a0_0 l0_1 a1_0 l1_1).bind fun t299 => ((assartref04_Same.f kj4 a0_0 l0_1 a1_0 l1_1).bind fun t300 => (if t280 = true then ((node_Right.f kj4 a0_0 l0_1).bind fun t301 => (if (t301 == t297) = true then (if (t299 == t300) = true then (if t281.toList = t283.toList then (if t282 = t284 then ((assartref04_Same.f kj4 t285 t286 bt291.1 bt291.2.1).bind fun t302 => (if t302 = true then (some (t289 == bt291.2.2)) else (some false))) else (some false)) else (some false)) else (some false)) else (some false))) else (some false)))) else (if t280 = true then ((node_Right.f kj4 a0_0 l0_1).bind fun t303 => (if (t303 == t297) = true then (if t281.toList = t283.toList then (if t282 = t284 then ((assartref04_Same.f kj4 t285 t286 bt291.1 bt291.2.1).bind fun t304 => (if t304 = true then (some (t289 == bt291.2.2)) else (some false))) else (some false)) else (some false)) else (some false))) else (some false)))) else (if t280 = true then ((node_Right.f kj4 a0_0 l0_1).bind fun t305 => (if (t305 == t297) = true then (if t281.toList = t283.toList then (if t282 = t284 then ((assartref04_Same.f kj4 t285 t286 bt291.1 bt291.2.1).bind fun t306 => (if t306 = true then (some (t289 == bt291.2.2)) else (some false))) else (some false)) else (some false)) else (some false))) else (some false))))) = some r := H
        have A22 := Aside0.mk A220
        clear A220
        replace H := Option.bind_eq_some_iff.mp H
        obtain ⟨⟨t291, t292, t295⟩, A230, H⟩ := H
        replace H : ((assartref04_Right.f kj4 a0_0 l0_1).bind fun t297 => (if t297 = true then ((assartref04_Right.f kj4 a1_0 l1_1).bind fun t298 => (if t298 = true then ((node_Same.f kj4 a0_0 l0_1 a1_0 l1_1).bind fun t299 => ((assartref04_Same.f kj4 a0_0 l0_1 a1_0 l1_1).bind fun t300 => (if t280 = true then ((node_Right.f kj4 a0_0 l0_1).bind fun t301 => (if (t301 == t297) = true then (if (t299 == t300) = true then (if t281.toList = t283.toList then (if t282 = t284 then ((assartref04_Same.f kj4 t285 t286 t291 t292).bind fun t302 => (if t302 = true then (some (t289 == t295)) else (some false))) else (some false)) else (some false)) else (some false)) else (some false))) else (some false)))) else (if t280 = true then ((node_Right.f kj4 a0_0 l0_1).bind fun t303 => (if (t303 == t297) = true then (if t281.toList = t283.toList then (if t282 = t284 then ((assartref04_Same.f kj4 t285 t286 t291 t292).bind fun t304 => (if t304 = true then (some (t289 == t295)) else (some false))) else (some false)) else (some false)) else (some false))) else (some false)))) else (if t280 = true then ((node_Right.f kj4 a0_0 l0_1).bind fun t305 => (if (t305 == t297) = true then (if t281.toList = t283.toList then (if t282 = t284 then ((assartref04_Same.f kj4 t285 t286 t291 t292).bind fun t306 => (if t306 = true then (some (t289 == t295)) else (some false))) else (some false)) else (some false)) else (some false))) else (some false)))) = some r := H
        have A23 := Aside0.mk A230
        clear A230
        replace H := Option.bind_eq_some_iff.mp H
        obtain ⟨t297, A240, H⟩ := H
        replace H : (if t297 = true then ((assartref04_Right.f kj4 a1_0 l1_1).bind fun t298 => (if t298 = true then ((node_Same.f kj4 a0_0 l0_1 a1_0 l1_1).bind fun t299 => ((assartref04_Same.f kj4 a0_0 l0_1 a1_0 l1_1).bind fun t300 => (if t280 = true then ((node_Right.f kj4 a0_0 l0_1).bind fun t301 => (if (t301 == t297) = true then (if (t299 == t300) = true then (if t281.toList = t283.toList then (if t282 = t284 then ((assartref04_Same.f kj4 t285 t286 t291 t292).bind fun t302 => (if t302 = true then (some (t289 == t295)) else (some false))) else (some false)) else (some false)) else (some false)) else (some false))) else (some false)))) else (if t280 = true then ((node_Right.f kj4 a0_0 l0_1).bind fun t303 => (if (t303 == t297) = true then (if t281.toList = t283.toList then (if t282 = t284 then ((assartref04_Same.f kj4 t285 t286 t291 t292).bind fun t304 => (if t304 = true then (some (t289 == t295)) else (some false))) else (some false)) else (some false)) else (some false))) else (some false)))) else (if t280 = true then ((node_Right.f kj4 a0_0 l0_1).bind fun t305 => (if (t305 == t297) = true then (if t281.toList = t283.toList then (if t282 = t284 then ((assartref04_Same.f kj4 t285 t286 t291 t292).bind fun t306 => (if t306 = true then (some (t289 == t295)) else (some false))) else (some false)) else (some false)) else (some false))) else (some false))) = some r := H
        have A24 := Aside0.mk A240
        clear A240
        by_cases c25 : t297 = true
        · subst c25
          have H1 : ((assartref04_Right.f kj4 a1_0 l1_1).bind fun t298 => (if t298 = true then ((node_Same.f kj4 a0_0 l0_1 a1_0 l1_1).bind fun t299 => ((assartref04_Same.f kj4 a0_0 l0_1 a1_0 l1_1).bind fun t300 => (if t280 = true then ((node_Right.f kj4 a0_0 l0_1).bind fun t301 => (if (t301 == true) = true then (if (t299 == t300) = true then (if t281.toList = t283.toList then (if t282 = t284 then ((assartref04_Same.f kj4 t285 t286 t291 t292).bind fun t302 => (if t302 = true then (some (t289 == t295)) else (some false))) else (some false)) else (some false)) else (some false)) else (some false))) else (some false)))) else (if t280 = true then ((node_Right.f kj4 a0_0 l0_1).bind fun t303 => (if (t303 == true) = true then (if t281.toList = t283.toList then (if t282 = t284 then ((assartref04_Same.f kj4 t285 t286 t291 t292).bind fun t304 => (if t304 = true then (some (t289 == t295)) else (some false))) else (some false)) else (some false)) else (some false))) else (some false)))) = some r := by rw [if_pos rfl] at H; exact H
          clear H
          have H := H1
          clear H1
          replace H := Option.bind_eq_some_iff.mp H
          obtain ⟨t298, A260, H⟩ := H
          replace H : (if t298 = true then ((node_Same.f kj4 a0_0 l0_1 a1_0 l1_1).bind fun t299 => ((assartref04_Same.f kj4 a0_0 l0_1 a1_0 l1_1).bind fun t300 => (if t280 = true then ((node_Right.f kj4 a0_0 l0_1).bind fun t301 => (if (t301 == true) = true then (if (t299 == t300) = true then (if t281.toList = t283.toList then (if t282 = t284 then ((assartref04_Same.f kj4 t285 t286 t291 t292).bind fun t302 => (if t302 = true then (some (t289 == t295)) else (some false))) else (some false)) else (some false)) else (some false)) else (some false))) else (some false)))) else (if t280 = true then ((node_Right.f kj4 a0_0 l0_1).bind fun t303 => (if (t303 == true) = true then (if t281.toList = t283.toList then (if t282 = t284 then ((assartref04_Same.f kj4 t285 t286 t291 t292).bind fun t304 => (if t304 = true then (some (t289 == t295)) else (some false))) else (some false)) else (some false)) else (some false))) else (some false))) = some r := H
          have A26 := Aside0.mk A260
          clear A260
          by_cases c27 : t298 = true
          · subst c27
            have H1 : ((node_Same.f kj4 a0_0 l0_1 a1_0 l1_1).bind fun t299 => ((assartref04_Same.f kj4 a0_0 l0_1 a1_0 l1_1).bind fun t300 => (if t280 = true then ((node_Right.f kj4 a0_0 l0_1).bind fun t301 => (if (t301 == true) = true then (if (t299 == t300) = true then (if t281.toList = t283.toList then (if t282 = t284 then ((assartref04_Same.f kj4 t285 t286 t291 t292).bind fun t302 => (if t302 = true then (some (t289 == t295)) else (some false))) else (some false)) else (some false)) else (some false)) else (some false))) else (some false)))) = some r := by rw [if_pos rfl] at H; exact H
            clear H
            have H := H1
            clear H1
            replace H := Option.bind_eq_some_iff.mp H
            obtain ⟨t299, A280, H⟩ := H
            replace H : ((assartref04_Same.f kj4 a0_0 l0_1 a1_0 l1_1).bind fun t300 => (if t280 = true then ((node_Right.f kj4 a0_0 l0_1).bind fun t301 => (if (t301 == true) = true then (if (t299 == t300) = true then (if t281.toList = t283.toList then (if t282 = t284 then ((assartref04_Same.f kj4 t285 t286 t291 t292).bind fun t302 => (if t302 = true then (some (t289 == t295)) else (some false))) else (some false)) else (some false)) else (some false)) else (some false))) else (some false))) = some r := H
            have A28 := Aside0.mk A280
            clear A280
            replace H := Option.bind_eq_some_iff.mp H
            obtain ⟨t300, A290, H⟩ := H
            replace H : (if t280 = true then ((node_Right.f kj4 a0_0 l0_1).bind fun t301 => (if (t301 == true) = true then (if (t299 == t300) = true then (if t281.toList = t283.toList then (if t282 = t284 then ((assartref04_Same.f kj4 t285 t286 t291 t292).bind fun t302 => (if t302 = true then (some (t289 == t295)) else (some false))) else (some false)) else (some false)) else (some false)) else (some false))) else (some false)) = some r := H
            have A29 := Aside0.mk A290
            clear A290
            by_cases c30 : t280 = true
            · subst c30
              have H1 : ((node_Right.f kj4 a0_0 l0_1).bind fun t301 => (if (t301 == true) = true then (if (t299 == t300) = true then (if t281.toList = t283.toList then (if t282 = t284 then ((assartref04_Same.f kj4 t285 t286 t291 t292).bind fun t302 => (if t302 = true then (some (t289 == t295)) else (some false))) else (some false)) else (some false)) else (some false)) else (some false))) = some r := by rw [if_pos rfl] at H; exact H
              clear H
              have H := H1
              clear H1
              replace H := Option.bind_eq_some_iff.mp H
              obtain ⟨t301, A310, H⟩ := H
              replace H : (if (t301 == true) = true then (if (t299 == t300) = true then (if t281.toList = t283.toList then (if t282 = t284 then ((assartref04_Same.f kj4 t285 t286 t291 t292).bind fun t302 => (if t302 = true then (some (t289 == t295)) else (some false))) else (some false)) else (some false)) else (some false)) else (some false)) = some r := H
              have A31 := Aside0.mk A310
              clear A310
              by_cases c32 : (t301 == true) = true
              · rw [if_pos c32] at H
                have c32b0 : (t301 == true) = true := c32
                (try (have c32b1 : decide (t301 = true) = true := by simpa using c32))
                (try (have c32b2 : (t301 == true) = true := by simpa using c32))
                clear c32
                by_cases c33 : (t299 == t300) = true
                · rw [if_pos c33] at H
                  have c33b0 : (t299 == t300) = true := c33
                  (try (have c33b1 : decide (t299 = t300) = true := by simpa using c33))
                  (try (have c33b2 : (t299 == t300) = true := by simpa using c33))
                  clear c33
                  by_cases c34 : t281.toList = t283.toList
                  · rw [if_pos c34] at H
                    have c34b0 : (t281.toList == t283.toList) = true := beq_iff_eq.mpr c34
                    have c34b1 : (t281.toList != t283.toList) = false := bne_eq_false_iff_eq.mpr c34
                    clear c34
                    by_cases c35 : t282 = t284
                    · rw [if_pos c35] at H
                      have c35b0 : (t282 == t284) = true := beq_iff_eq.mpr c35
                      have c35b1 : (t282 != t284) = false := bne_eq_false_iff_eq.mpr c35
                      clear c35
                      replace H := Option.bind_eq_some_iff.mp H
                      obtain ⟨t302, A360, H⟩ := H
                      replace H : (if t302 = true then (some (t289 == t295)) else (some false)) = some r := H
                      have A36 := Aside0.mk A360
                      clear A360
                      by_cases c37 : t302 = true
                      · subst c37
                        have H1 : (some (t289 == t295)) = some r := by rw [if_pos rfl] at H; exact H
                        clear H
                        have H := H1
                        clear H1
                        obtain rfl := Option.some.inj H
                        have hnb38 := NB278_279.out
                        have hnc38 := NB279_278.out
                        have hcz39_0 : wc.cell? ⟨gb278, 0, none⟩ = some (.bool a0_0) := (blk_cell BK278.out 0).trans rfl
                        have hcz39_1 : wc.cell? ⟨gb278, 1, none⟩ = some (.slice A0_1 l0_1.length c0_1) := (blk_cell BK278.out 1).trans rfl
                        have hfz39_0 := blk_frozen BK278.out 0
                        have hfz39_1 := blk_frozen BK278.out 1
                        try go_wp2_with (first | ((with_reducible refine gate_callee (f := 27) rfl ?_); refine goesL_ (some 37) rfl rfl Try.func27 (by kernel_rfl) rfl #[.agg #[.bool a0_0, .slice A0_1 l0_1.length c0_1]] rfl (by (try simp only [List.map_toArray, List.map_cons, List.map_nil]); first | done | rfl | (simp only [List.length_drop, List.length_take]; rfl)) ?_; (with_reducible refine (node_Print.calls kj4 a0_0 _ _ l0_1 t281 t282 _ ?side1 ?side2 A20.out).mono ?_); (case side1 => repeat (first | exact (Kd.C_below HR0_1.out HB.out) | (with_reducible refine Kd.C_alloc ?_ _) | (with_reducible refine Kd.C_drewN ?_ _) | (with_reducible refine Kd.C_drew ?_))); (case side2 => exact HC0_1.out); rintro e w40 ⟨rfl, hb⟩; refine ⟨_, rfl, ?_⟩; have n0_ := Aside0.mk (blk_below (g := gb278) (o := .cells #[.bool a0_0, .slice A0_1 l0_1.length c0_1] 56 (0, 0)) (by (with_reducible repeat (first | refine blk_drewN ?_ _ | refine blk_drew ?_ | refine blk_alloc ?_ _)); exact BK278.out) hb); have n1_ := Aside0.mk (blk_below (g := gb279) (o := .cells #[.bool a1_0, .slice A1_1 l1_1.length c1_1] 56 (0, 0)) (by (with_reducible repeat (first | refine blk_drewN ?_ _ | refine blk_drew ?_ | refine blk_alloc ?_ _)); exact BK279.out) hb); have n2_ := Aside0.mk (below_step (by repeat (first | (with_reducible first | exact HB.out | apply below_alloc | apply pw_below_drewN | apply below_drew1 | refine below_set ?_ GE278.out | refine below_set ?_ GE279.out) | exact HB.out)) hb); clear BK278; clear BK279; clear HB; have BK278 := n0_; have BK279 := n1_; have HB := n2_; clear n0_ n1_ n2_; (try clear hb); (try clear hb2); (try clear hk); (try clear hi); have hcz41_0 : w40.cell? ⟨gb278, 0, none⟩ = some (.bool a0_0) := (blk_cell BK278.out 0).trans rfl; have hcz41_1 : w40.cell? ⟨gb278, 1, none⟩ = some (.slice A0_1 l0_1.length c0_1) := (blk_cell BK278.out 1).trans rfl; have hfz41_0 := blk_frozen BK278.out 0; have hfz41_1 := blk_frozen BK278.out 1) | ((with_reducible refine gate_callee (f := 28) rfl ?_); refine goesL_ (some 42) rfl rfl Try.func28 (by kernel_rfl) rfl #[.agg #[.bool a0_0, .slice A0_1 l0_1.length c0_1]] rfl (by (try simp only [List.map_toArray, List.map_cons, List.map_nil]); first | done | rfl | (simp only [List.length_drop, List.length_take]; rfl)) ?_; (with_reducible refine (assartref04_Print.calls kj4 a0_0 _ _ l0_1 t283 t284 _ ?side1 ?side2 A21.out).mono ?_); (case side1 => repeat (first | exact (Kd.C_below HR0_1.out HB.out) | (with_reducible refine Kd.C_alloc ?_ _) | (with_reducible refine Kd.C_drewN ?_ _) | (with_reducible refine Kd.C_drew ?_))); (case side2 => exact HC0_1.out); rintro e w42 ⟨rfl, hb⟩; refine ⟨_, rfl, ?_⟩; have n0_ := Aside0.mk (blk_below (g := gb278) (o := .cells #[.bool a0_0, .slice A0_1 l0_1.length c0_1] 56 (0, 0)) (by (with_reducible repeat (first | refine blk_drewN ?_ _ | refine blk_drew ?_ | refine blk_alloc ?_ _)); exact BK278.out) hb); have n1_ := Aside0.mk (blk_below (g := gb279) (o := .cells #[.bool a1_0, .slice A1_1 l1_1.length c1_1] 56 (0, 0)) (by (with_reducible repeat (first | refine blk_drewN ?_ _ | refine blk_drew ?_ | refine blk_alloc ?_ _)); exact BK279.out) hb); have n2_ := Aside0.mk (below_step (by repeat (first | (with_reducible first | exact HB.out | apply below_alloc | apply pw_below_drewN | apply below_drew1 | refine below_set ?_ GE278.out | refine below_set ?_ GE279.out) | exact HB.out)) hb); clear BK278; clear BK279; clear HB; have BK278 := n0_; have BK279 := n1_; have HB := n2_; clear n0_ n1_ n2_; (try clear hb); (try clear hb2); (try clear hk); (try clear hi)) | ((with_reducible refine gate_callee (f := 29) rfl ?_); refine goesL_ (some 47) rfl rfl Try.func29 (by kernel_rfl) rfl #[.string a2] rfl (by (try simp only [List.map_toArray, List.map_cons, List.map_nil]); first | done | rfl | (simp only [List.length_drop, List.length_take]; rfl)) ?_; (with_reducible refine (node_Parse.calls kj4 a2 t285 t286 t289 _ A22.out).mono ?_); rintro e w43 ⟨v287, rfl, ho0, hb⟩; refine ⟨_, rfl, ?_⟩; have n0_ := Aside0.mk (Kd.R_lower ho0 (below_size (by repeat (first | (with_reducible first | exact HB.out | apply below_alloc | apply pw_below_drewN | apply below_drew1 | refine below_set ?_ GE278.out | refine below_set ?_ GE279.out) | exact HB.out)))); have n1_ := Aside0.mk (blk_below (g := gb278) (o := .cells #[.bool a0_0, .slice A0_1 l0_1.length c0_1] 56 (0, 0)) (by (with_reducible repeat (first | refine blk_drewN ?_ _ | refine blk_drew ?_ | refine blk_alloc ?_ _)); exact BK278.out) hb); have n2_ := Aside0.mk (blk_below (g := gb279) (o := .cells #[.bool a1_0, .slice A1_1 l1_1.length c1_1] 56 (0, 0)) (by (with_reducible repeat (first | refine blk_drewN ?_ _ | refine blk_drew ?_ | refine blk_alloc ?_ _)); exact BK279.out) hb); have n3_ := Aside0.mk (below_step (by repeat (first | (with_reducible first | exact HB.out | apply below_alloc | apply pw_below_drewN | apply below_drew1 | refine below_set ?_ GE278.out | refine below_set ?_ GE279.out) | exact HB.out)) hb); clear BK278; clear BK279; clear HB; have HO288 := n0_; have BK278 := n1_; have BK279 := n2_; have HB := n3_; clear n0_ n1_ n2_ n3_; (try clear hb); (try clear hb2); (try clear hk); (try clear hi); (try clear ho0)) | ((with_reducible refine gate_dst (N := 12) rfl ?_); (try (refine gate_guard (by rfl) ?_; dsimp only)); refine box_event ?hg (N := 12) ?hd (cs := #[.bool false, .slice none 0 0]) (t := 56) ?hr ?_; (case hd => rfl); (case hg => rfl); (case hr => first | (go_simp; done) | (go_simp; rfl)); intro gb290 hg w44 hbox hb; have n0_ := Aside0.mk (Kd.R_below (by (with_reducible repeat (first | apply Kd.R_alloc | apply Kd.R_drewN | apply Kd.R_drew)); exact HO288.out) hb); have n1_ := Aside0.mk (blk_below (g := gb278) (o := .cells #[.bool a0_0, .slice A0_1 l0_1.length c0_1] 56 (0, 0)) (by (with_reducible repeat (first | refine blk_drewN ?_ _ | refine blk_drew ?_ | refine blk_alloc ?_ _)); exact BK278.out) hb); have n2_ := Aside0.mk (blk_below (g := gb279) (o := .cells #[.bool a1_0, .slice A1_1 l1_1.length c1_1] 56 (0, 0)) (by (with_reducible repeat (first | refine blk_drewN ?_ _ | refine blk_drew ?_ | refine blk_alloc ?_ _)); exact BK279.out) hb); have n3_ := Aside0.mk (below_step (by repeat (first | (with_reducible first | exact HB.out | apply below_alloc | apply pw_below_drewN | apply below_drew1 | refine below_set ?_ GE278.out | refine below_set ?_ GE279.out) | exact HB.out)) hb); have n4_ := Aside0.mk (hbox); have n5_ := Aside0.mk ((by rw [hg]; exact (below_size (by repeat (first | (with_reducible first | exact HB.out | apply below_alloc | apply pw_below_drewN | apply below_drew1 | refine below_set ?_ GE278.out | refine below_set ?_ GE279.out) | exact HB.out))) : w.heap.size ≤ gb290)); have n6_ := Aside0.mk ((by rw [hg]; exact (below_size (by repeat (first | (with_reducible first | exact HB.out | apply below_alloc | apply pw_below_drewN | apply below_drew1 | refine below_set ?_ GE278.out | refine below_set ?_ GE279.out) | exact HB.out))) : w.heap.size ≤ gb290)); have n7_ := Aside0.mk ((by rw [hg]; exact Nat.ne_of_lt (blk_lt (g := gb278) (o := .cells #[.bool a0_0, .slice A0_1 l0_1.length c0_1] 56 (0, 0)) (by (with_reducible repeat (first | refine blk_drewN ?_ _ | refine blk_drew ?_ | refine blk_alloc ?_ _)); exact BK278.out)) : gb278 ≠ gb290)); have n8_ := Aside0.mk ((by rw [hg]; exact Nat.ne_of_gt (blk_lt (g := gb278) (o := .cells #[.bool a0_0, .slice A0_1 l0_1.length c0_1] 56 (0, 0)) (by (with_reducible repeat (first | refine blk_drewN ?_ _ | refine blk_drew ?_ | refine blk_alloc ?_ _)); exact BK278.out)) : gb290 ≠ gb278)); have n9_ := Aside0.mk ((by rw [hg]; exact Nat.ne_of_lt (blk_lt (g := gb279) (o := .cells #[.bool a1_0, .slice A1_1 l1_1.length c1_1] 56 (0, 0)) (by (with_reducible repeat (first | refine blk_drewN ?_ _ | refine blk_drew ?_ | refine blk_alloc ?_ _)); exact BK279.out)) : gb279 ≠ gb290)); have n10_ := Aside0.mk ((by rw [hg]; exact Nat.ne_of_gt (blk_lt (g := gb279) (o := .cells #[.bool a1_0, .slice A1_1 l1_1.length c1_1] 56 (0, 0)) (by (with_reducible repeat (first | refine blk_drewN ?_ _ | refine blk_drew ?_ | refine blk_alloc ?_ _)); exact BK279.out)) : gb290 ≠ gb279)); clear HO288; clear BK278; clear BK279; clear HB; have HO288 := n0_; have BK278 := n1_; have BK279 := n2_; have HB := n3_; have BK290 := n4_; have GW290 := n5_; have GE290 := n6_; have NB278_290 := n7_; have NB290_278 := n8_; have NB279_290 := n9_; have NB290_279 := n10_; clear n0_ n1_ n2_ n3_ n4_ n5_ n6_ n7_ n8_ n9_ n10_; clear hb hbox hg; have hnb45 := NB290_278.out; have hnc45 := NB278_290.out; have hnb46 := NB290_279.out; have hnc46 := NB279_290.out; have hcz47_0 : w44.cell? ⟨gb290, 0, none⟩ = some (.bool false) := (blk_cell BK290.out 0).trans rfl; have hcz47_1 : w44.cell? ⟨gb290, 1, none⟩ = some (.slice none 0 0) := (blk_cell BK290.out 1).trans rfl; have hfz47_0 := blk_frozen BK290.out 0; have hfz47_1 := blk_frozen BK290.out 1; obtain ⟨Ao48, co48, eo48⟩ := Kd.R_slice HO288.out; subst eo48) | ((with_reducible refine gate_callee (f := 30) rfl ?_); refine goesL_ (some 52) rfl rfl Try.func30 (by kernel_rfl) rfl #[.string a2] rfl (by (try simp only [List.map_toArray, List.map_cons, List.map_nil]); first | done | rfl | (simp only [List.length_drop, List.length_take]; rfl)) ?_; (with_reducible refine (assartref04_Parse.calls kj4 a2 t291 t292 t295 _ A23.out).mono ?_); rintro e w49 ⟨v293, rfl, ho0, hb⟩; refine ⟨_, rfl, ?_⟩; have n0_ := Aside0.mk (Kd.R_elder' (by (with_reducible repeat (first | apply Kd.R_alloc | apply Kd.R_drewN | apply Kd.R_drew)); exact (Kd.R_mono (Kd.R_far (p := ⟨gb290, 1, none⟩) (Kd.R_far (p := ⟨gb290, 0, none⟩) (Kd.R_types HO288.out BK290.out (by decide)) (fun _ hk => hk.2) (.bool t285)) (fun _ hk => hk.2) (.slice Ao48 t286.length co48)) (fun _ h_ => h_.1))) (Kd.R_base ho0) hb); have n1_ := Aside0.mk (Kd.R_lower (Kd.R_new' ho0 (Kd.R_lt (by (with_reducible repeat (first | apply Kd.R_alloc | apply Kd.R_drewN | apply Kd.R_drew)); exact (Kd.R_mono (Kd.R_far (p := ⟨gb290, 1, none⟩) (Kd.R_far (p := ⟨gb290, 0, none⟩) (Kd.R_types HO288.out BK290.out (by decide)) (fun _ hk => hk.2) (.bool t285)) (fun _ hk => hk.2) (.slice Ao48 t286.length co48)) (fun _ h_ => h_.1))))) (below_size (by repeat (first | (with_reducible first | exact HB.out | apply below_alloc | apply pw_below_drewN | apply below_drew1 | refine below_set ?_ GE278.out | refine below_set ?_ GE279.out | refine below_set ?_ GE290.out) | exact HB.out)))); have n2_ := Aside0.mk (blk_below (g := gb278) (o := .cells #[.bool a0_0, .slice A0_1 l0_1.length c0_1] 56 (0, 0)) (by (with_reducible repeat (first | refine blk_drewN ?_ _ | refine blk_drew ?_ | refine blk_alloc ?_ _)); refine blk_far ?_ NB278_290.out _; (with_reducible repeat (first | refine blk_drewN ?_ _ | refine blk_drew ?_ | refine blk_alloc ?_ _)); refine blk_far ?_ NB278_290.out _; (with_reducible repeat (first | refine blk_drewN ?_ _ | refine blk_drew ?_ | refine blk_alloc ?_ _)); exact BK278.out) hb); have n3_ := Aside0.mk (blk_below (g := gb279) (o := .cells #[.bool a1_0, .slice A1_1 l1_1.length c1_1] 56 (0, 0)) (by (with_reducible repeat (first | refine blk_drewN ?_ _ | refine blk_drew ?_ | refine blk_alloc ?_ _)); refine blk_far ?_ NB279_290.out _; (with_reducible repeat (first | refine blk_drewN ?_ _ | refine blk_drew ?_ | refine blk_alloc ?_ _)); refine blk_far ?_ NB279_290.out _; (with_reducible repeat (first | refine blk_drewN ?_ _ | refine blk_drew ?_ | refine blk_alloc ?_ _)); exact BK279.out) hb); have n4_ := Aside0.mk (blk_below (g := gb290) (o := .cells #[.bool t285, .slice Ao48 t286.length co48] 56 (0, 0)) (by (with_reducible repeat (first | refine blk_drewN ?_ _ | refine blk_drew ?_ | refine blk_alloc ?_ _)); refine blk_put (cs := #[.bool t285, .slice none 0 0]) ?_ 1 _ rfl; (with_reducible repeat (first | refine blk_drewN ?_ _ | refine blk_drew ?_ | refine blk_alloc ?_ _)); refine blk_put (cs := #[.bool false, .slice none 0 0]) ?_ 0 _ rfl; (with_reducible repeat (first | refine blk_drewN ?_ _ | refine blk_drew ?_ | refine blk_alloc ?_ _)); exact BK290.out) hb); have n5_ := Aside0.mk (below_step (by repeat (first | (with_reducible first | exact HB.out | apply below_alloc | apply pw_below_drewN | apply below_drew1 | refine below_set ?_ GE278.out | refine below_set ?_ GE279.out | refine below_set ?_ GE290.out) | exact HB.out)) hb); clear HO288; clear BK278; clear BK279; clear BK290; clear HB; have HO288 := n0_; have HO294 := n1_; have BK278 := n2_; have BK279 := n3_; have BK290 := n4_; have HB := n5_; clear n0_ n1_ n2_ n3_ n4_ n5_; (try clear hb); (try clear hb2); (try clear hk); (try clear hi); (try clear ho0)) | ((with_reducible refine gate_dst (N := 14) rfl ?_); (try (refine gate_guard (by rfl) ?_; dsimp only)); refine box_event ?hg (N := 14) ?hd (cs := #[.bool false, .slice none 0 0]) (t := 56) ?hr ?_; (case hd => rfl); (case hg => rfl); (case hr => first | (go_simp; done) | (go_simp; rfl)); intro gb296 hg w50 hbox hb; have n0_ := Aside0.mk (Kd.R_below (by (with_reducible repeat (first | apply Kd.R_alloc | apply Kd.R_drewN | apply Kd.R_drew)); exact HO288.out) hb); have n1_ := Aside0.mk (Kd.R_below (by (with_reducible repeat (first | apply Kd.R_alloc | apply Kd.R_drewN | apply Kd.R_drew)); exact HO294.out) hb); have n2_ := Aside0.mk (blk_below (g := gb278) (o := .cells #[.bool a0_0, .slice A0_1 l0_1.length c0_1] 56 (0, 0)) (by (with_reducible repeat (first | refine blk_drewN ?_ _ | refine blk_drew ?_ | refine blk_alloc ?_ _)); exact BK278.out) hb); have n3_ := Aside0.mk (blk_below (g := gb279) (o := .cells #[.bool a1_0, .slice A1_1 l1_1.length c1_1] 56 (0, 0)) (by (with_reducible repeat (first | refine blk_drewN ?_ _ | refine blk_drew ?_ | refine blk_alloc ?_ _)); exact BK279.out) hb); have n4_ := Aside0.mk (blk_below (g := gb290) (o := .cells #[.bool t285, .slice Ao48 t286.length co48] 56 (0, 0)) (by (with_reducible repeat (first | refine blk_drewN ?_ _ | refine blk_drew ?_ | refine blk_alloc ?_ _)); exact BK290.out) hb); have n5_ := Aside0.mk (below_step (by repeat (first | (with_reducible first | exact HB.out | apply below_alloc | apply pw_below_drewN | apply below_drew1 | refine below_set ?_ GE278.out | refine below_set ?_ GE279.out | refine below_set ?_ GE290.out) | exact HB.out)) hb); have n6_ := Aside0.mk (hbox); have n7_ := Aside0.mk ((by rw [hg]; exact (below_size (by repeat (first | (with_reducible first | exact HB.out | apply below_alloc | apply pw_below_drewN | apply below_drew1 | refine below_set ?_ GE278.out | refine below_set ?_ GE279.out | refine below_set ?_ GE290.out) | exact HB.out))) : w.heap.size ≤ gb296)); have n8_ := Aside0.mk ((by rw [hg]; exact (below_size (by repeat (first | (with_reducible first | exact HB.out | apply below_alloc | apply pw_below_drewN | apply below_drew1 | refine below_set ?_ GE278.out | refine below_set ?_ GE279.out | refine below_set ?_ GE290.out) | exact HB.out))) : w.heap.size ≤ gb296)); have n9_ := Aside0.mk ((by rw [hg]; exact Nat.ne_of_lt (blk_lt (g := gb278) (o := .cells #[.bool a0_0, .slice A0_1 l0_1.length c0_1] 56 (0, 0)) (by (with_reducible repeat (first | refine blk_drewN ?_ _ | refine blk_drew ?_ | refine blk_alloc ?_ _)); exact BK278.out)) : gb278 ≠ gb296)); have n10_ := Aside0.mk ((by rw [hg]; exact Nat.ne_of_gt (blk_lt (g := gb278) (o := .cells #[.bool a0_0, .slice A0_1 l0_1.length c0_1] 56 (0, 0)) (by (with_reducible repeat (first | refine blk_drewN ?_ _ | refine blk_drew ?_ | refine blk_alloc ?_ _)); exact BK278.out)) : gb296 ≠ gb278)); have n11_ := Aside0.mk ((by rw [hg]; exact Nat.ne_of_lt (blk_lt (g := gb279) (o := .cells #[.bool a1_0, .slice A1_1 l1_1.length c1_1] 56 (0, 0)) (by (with_reducible repeat (first | refine blk_drewN ?_ _ | refine blk_drew ?_ | refine blk_alloc ?_ _)); exact BK279.out)) : gb279 ≠ gb296)); have n12_ := Aside0.mk ((by rw [hg]; exact Nat.ne_of_gt (blk_lt (g := gb279) (o := .cells #[.bool a1_0, .slice A1_1 l1_1.length c1_1] 56 (0, 0)) (by (with_reducible repeat (first | refine blk_drewN ?_ _ | refine blk_drew ?_ | refine blk_alloc ?_ _)); exact BK279.out)) : gb296 ≠ gb279)); have n13_ := Aside0.mk ((by rw [hg]; exact Nat.ne_of_lt (blk_lt (g := gb290) (o := .cells #[.bool t285, .slice Ao48 t286.length co48] 56 (0, 0)) (by (with_reducible repeat (first | refine blk_drewN ?_ _ | refine blk_drew ?_ | refine blk_alloc ?_ _)); exact BK290.out)) : gb290 ≠ gb296)); have n14_ := Aside0.mk ((by rw [hg]; exact Nat.ne_of_gt (blk_lt (g := gb290) (o := .cells #[.bool t285, .slice Ao48 t286.length co48] 56 (0, 0)) (by (with_reducible repeat (first | refine blk_drewN ?_ _ | refine blk_drew ?_ | refine blk_alloc ?_ _)); exact BK290.out)) : gb296 ≠ gb290)); clear HO288; clear HO294; clear BK278; clear BK279; clear BK290; clear HB; have HO288 := n0_; have HO294 := n1_; have BK278 := n2_; have BK279 := n3_; have BK290 := n4_; have HB := n5_; have BK296 := n6_; have GW296 := n7_; have GE296 := n8_; have NB278_296 := n9_; have NB296_278 := n10_; have NB279_296 := n11_; have NB296_279 := n12_; have NB290_296 := n13_; have NB296_290 := n14_; clear n0_ n1_ n2_ n3_ n4_ n5_ n6_ n7_ n8_ n9_ n10_ n11_ n12_ n13_ n14_; clear hb hbox hg; have hnb51 := NB296_278.out; have hnc51 := NB278_296.out; have hnb52 := NB296_279.out; have hnc52 := NB279_296.out; have hnb53 := NB296_290.out; have hnc53 := NB290_296.out; have hcz54_0 : w50.cell? ⟨gb296, 0, none⟩ = some (.bool false) := (blk_cell BK296.out 0).trans rfl; have hcz54_1 : w50.cell? ⟨gb296, 1, none⟩ = some (.slice none 0 0) := (blk_cell BK296.out 1).trans rfl; have hfz54_0 := blk_frozen BK296.out 0; have hfz54_1 := blk_frozen BK296.out 1; obtain ⟨Ao55, co55, eo55⟩ := Kd.R_slice HO294.out; subst eo55; have hcz56_0 : w50.cell? ⟨gb278, 0, none⟩ = some (.bool a0_0) := (blk_cell BK278.out 0).trans rfl; have hcz56_1 : w50.cell? ⟨gb278, 1, none⟩ = some (.slice A0_1 l0_1.length c0_1) := (blk_cell BK278.out 1).trans rfl; have hfz56_0 := blk_frozen BK278.out 0; have hfz56_1 := blk_frozen BK278.out 1) | ((with_reducible refine gate_callee (f := 31) rfl ?_); refine goesL_ (some 56) rfl rfl Try.func31 (by kernel_rfl) rfl #[.agg #[.bool a0_0, .slice A0_1 l0_1.length c0_1]] rfl (by (try simp only [List.map_toArray, List.map_cons, List.map_nil]); first | done | rfl | (simp only [List.length_drop, List.length_take]; rfl)) ?_; (with_reducible refine (assartref04_Right.calls kj4 a0_0 _ _ l0_1 true _ ?side1 ?side2 A24.out).mono ?_); (case side1 => exact Kd.C_below HR0_1.out (by repeat (first | (with_reducible first | exact HB.out | apply below_alloc | apply pw_below_drewN | apply below_drew1 | refine below_set ?_ GE278.out | refine below_set ?_ GE279.out | refine below_set ?_ GE290.out | refine below_set ?_ GE296.out) | exact HB.out))); (case side2 => exact HC0_1.out); rintro e w57 ⟨rfl, hb⟩; refine ⟨_, rfl, ?_⟩; have n0_ := Aside0.mk (Kd.R_below (by (with_reducible repeat (first | apply Kd.R_alloc | apply Kd.R_drewN | apply Kd.R_drew)); exact (Kd.R_mono (Kd.R_far (p := ⟨gb296, 1, none⟩) (Kd.R_far (p := ⟨gb296, 0, none⟩) (Kd.R_types HO288.out BK296.out (by decide)) (fun _ hk => hk.2) (.bool t291)) (fun _ hk => hk.2) (.slice Ao55 t292.length co55)) (fun _ h_ => h_.1))) hb); have n1_ := Aside0.mk (Kd.R_below (by (with_reducible repeat (first | apply Kd.R_alloc | apply Kd.R_drewN | apply Kd.R_drew)); exact (Kd.R_mono (Kd.R_far (p := ⟨gb296, 1, none⟩) (Kd.R_far (p := ⟨gb296, 0, none⟩) (Kd.R_types HO294.out BK296.out (by decide)) (fun _ hk => hk.2) (.bool t291)) (fun _ hk => hk.2) (.slice Ao55 t292.length co55)) (fun _ h_ => h_.1))) hb); have n2_ := Aside0.mk (blk_below (g := gb278) (o := .cells #[.bool a0_0, .slice A0_1 l0_1.length c0_1] 56 (0, 0)) (by (with_reducible repeat (first | refine blk_drewN ?_ _ | refine blk_drew ?_ | refine blk_alloc ?_ _)); refine blk_far ?_ NB278_296.out _; (with_reducible repeat (first | refine blk_drewN ?_ _ | refine blk_drew ?_ | refine blk_alloc ?_ _)); refine blk_far ?_ NB278_296.out _; (with_reducible repeat (first | refine blk_drewN ?_ _ | refine blk_drew ?_ | refine blk_alloc ?_ _)); exact BK278.out) hb); have n3_ := Aside0.mk (blk_below (g := gb279) (o := .cells #[.bool a1_0, .slice A1_1 l1_1.length c1_1] 56 (0, 0)) (by (with_reducible repeat (first | refine blk_drewN ?_ _ | refine blk_drew ?_ | refine blk_alloc ?_ _)); refine blk_far ?_ NB279_296.out _; (with_reducible repeat (first | refine blk_drewN ?_ _ | refine blk_drew ?_ | refine blk_alloc ?_ _)); refine blk_far ?_ NB279_296.out _; (with_reducible repeat (first | refine blk_drewN ?_ _ | refine blk_drew ?_ | refine blk_alloc ?_ _)); exact BK279.out) hb); have n4_ := Aside0.mk (blk_below (g := gb290) (o := .cells #[.bool t285, .slice Ao48 t286.length co48] 56 (0, 0)) (by (with_reducible repeat (first | refine blk_drewN ?_ _ | refine blk_drew ?_ | refine blk_alloc ?_ _)); refine blk_far ?_ NB290_296.out _; (with_reducible repeat (first | refine blk_drewN ?_ _ | refine blk_drew ?_ | refine blk_alloc ?_ _)); refine blk_far ?_ NB290_296.out _; (with_reducible repeat (first | refine blk_drewN ?_ _ | refine blk_drew ?_ | refine blk_alloc ?_ _)); exact BK290.out) hb); have n5_ := Aside0.mk (blk_below (g := gb296) (o := .cells #[.bool t291, .slice Ao55 t292.length co55] 56 (0, 0)) (by (with_reducible repeat (first | refine blk_drewN ?_ _ | refine blk_drew ?_ | refine blk_alloc ?_ _)); refine blk_put (cs := #[.bool t291, .slice none 0 0]) ?_ 1 _ rfl; (with_reducible repeat (first | refine blk_drewN ?_ _ | refine blk_drew ?_ | refine blk_alloc ?_ _)); refine blk_put (cs := #[.bool false, .slice none 0 0]) ?_ 0 _ rfl; (with_reducible repeat (first | refine blk_drewN ?_ _ | refine blk_drew ?_ | refine blk_alloc ?_ _)); exact BK296.out) hb); have n6_ := Aside0.mk (below_step (by repeat (first | (with_reducible first | exact HB.out | apply below_alloc | apply pw_below_drewN | apply below_drew1 | refine below_set ?_ GE278.out | refine below_set ?_ GE279.out | refine below_set ?_ GE290.out | refine below_set ?_ GE296.out) | exact HB.out)) hb); clear HO288; clear HO294; clear BK278; clear BK279; clear BK290; clear BK296; clear HB; have HO288 := n0_; have HO294 := n1_; have BK278 := n2_; have BK279 := n3_; have BK290 := n4_; have BK296 := n5_; have HB := n6_; clear n0_ n1_ n2_ n3_ n4_ n5_ n6_; (try clear hb); (try clear hb2); (try clear hk); (try clear hi)))
                        have n0_ := Aside0.mk (Kd.R_drew HO288.out)
                        have n1_ := Aside0.mk (Kd.R_drew HO294.out)
                        have n2_ := Aside0.mk (blk_drew BK278.out)
                        have n3_ := Aside0.mk (blk_drew BK279.out)
                        have n4_ := Aside0.mk (blk_drew BK290.out)
                        have n5_ := Aside0.mk (blk_drew BK296.out)
                        have n6_ := Aside0.mk (below_drew1 HB.out)
                        clear HO288
                        clear HO294
                        clear BK278
                        clear BK279
                        clear BK290
                        clear BK296
                        clear HB
                        have HO288 := n0_
                        have HO294 := n1_
                        have BK278 := n2_
                        have BK279 := n3_
                        have BK290 := n4_
                        have BK296 := n5_
                        have HB := n6_
                        clear n0_ n1_ n2_ n3_ n4_ n5_ n6_
                        refine start_ (n := 17) (S := fun w' => w'.cell? ⟨gb279, 0, none⟩ = some (.bool a1_0) ∧ w'.cell? ⟨gb279, 1, none⟩ = some (.slice A1_1 l1_1.length c1_1) ∧ w'.cell? ⟨gb278, 0, none⟩ = some (.bool a0_0) ∧ w'.cell? ⟨gb278, 1, none⟩ = some (.slice A0_1 l0_1.length c0_1)) (ds := []) #[false, false, false, false, false, false, false, false, false, false, false, false, false, false, false, false, false] (by kernel_rfl) rfl rfl ⟨(blk_cell BK279.out 0).trans rfl, (blk_cell BK279.out 1).trans rfl, (blk_cell BK278.out 0).trans rfl, (blk_cell BK278.out 1).trans rfl⟩ (fun hHeld => ?_); refine with_tabW assartlaw04_NodeTells.tab9 assartlaw04_NodeTells.bits9 (fun HT_ HW_ => ?_)
                        generalize w57.drew = w58 at HO288 HO294 BK278 BK279 BK290 BK296 HB hHeld ⊢
                        refine pure_ (i := 0) (N := some 57) (v := ?_) (a' := ?_) #[true, false, false, false, false, false, false, false, false, false, false, false, false, false, false, false, false] rfl rfl (any_of HT_.out (by kernel_rfl)) (fun _ _ _ h => h) (Or.inl ⟨by rfl, ?_⟩) ?_ ?_
                        rotate_left
                        · intro w'
                          go_simp
                          with_reducible rfl
                        rotate_left
                        · simp only [Act.put, List.setIfInBounds_toArray, List.set_cons_zero, List.set_cons_succ, i64_w, i32_w]
                          rfl
                        refine pure_ (i := 1) (N := some 58) (v := ?_) (a' := ?_) #[true, true, false, false, false, false, false, false, false, false, false, false, false, false, false, false, false] rfl rfl (any_of HT_.out (by kernel_rfl)) (fun _ _ _ h => h) (Or.inl ⟨by rfl, ?_⟩) ?_ ?_
                        rotate_left
                        · intro w'
                          go_simp
                          with_reducible rfl
                        rotate_left
                        · simp only [Act.put, List.setIfInBounds_toArray, List.set_cons_zero, List.set_cons_succ, i64_w, i32_w]
                          rfl
                        refine pure_ (i := 2) (N := some 59) (v := ?_) (a' := ?_) #[true, true, true, false, false, false, false, false, false, false, false, false, false, false, false, false, false] rfl rfl (any_of HT_.out (by kernel_rfl)) (fun _ _ _ h => h) (Or.inl ⟨by rfl, ?_⟩) ?_ ?_
                        rotate_left
                        · intro w'
                          go_simp
                          with_reducible rfl
                        rotate_left
                        · simp only [Act.put, List.setIfInBounds_toArray, List.set_cons_zero, List.set_cons_succ, i64_w, i32_w]
                          rfl
                        refine take_ (i := 3) (N := some 60) (v := ?_) (a' := ?_) #[true, true, true, true, false, false, false, false, false, false, false, false, false, false, false, false, false] rfl rfl (take_ofW HT_.out HW_.out (by kernel_rfl)) (fun _ _ _ h => h) (Or.inl ⟨by rfl, ?_⟩) hHeld ?_ ?_
                        rotate_left
                        · rintro w' ⟨s0, s1, s2, s3⟩
                          go_simp
                          with_reducible rfl
                        rotate_left
                        · simp only [Act.put, List.setIfInBounds_toArray, List.set_cons_zero, List.set_cons_succ, i64_w, i32_w]
                          rfl
                        refine one_ (i := 4) (N := some 61) #[true, true, true, true, true, false, false, false, false, false, false, false, false, false, false, false, false] rfl rfl (one_of HT_.out (by kernel_rfl)) (by decide) (fun K hK => ?_)
                        refine goes_ Try.func31 (by kernel_rfl) rfl #[.agg #[.bool a1_0, .slice A1_1 l1_1.length c1_1]] (by rfl) rfl rfl (by (try simp only [List.map_toArray, List.map_cons, List.map_nil]); first | done | rfl | (simp only [List.length_drop, List.length_take]; rfl)) ?_
                        with_reducible refine (assartref04_Right.calls kj4 a1_0 _ _ l1_1 true _ ?side1 ?side2 A26.out).mono ?_
                        (case side1 => repeat (first | exact (Kd.C_below HR1_1.out HB.out) | (with_reducible refine Kd.C_alloc ?_ _) | (with_reducible refine Kd.C_drewN ?_ _) | (with_reducible refine Kd.C_drew ?_)))
                        (case side2 => exact HC1_1.out)
                        rintro e w59 ⟨rfl, hb⟩
                        refine ⟨_, rfl, ?_⟩
                        have n0_ := Aside0.mk (Kd.R_below (by (with_reducible repeat (first | apply Kd.R_alloc | apply Kd.R_drewN | apply Kd.R_drew)); exact HO288.out) hb)
                        have n1_ := Aside0.mk (Kd.R_below (by (with_reducible repeat (first | apply Kd.R_alloc | apply Kd.R_drewN | apply Kd.R_drew)); exact HO294.out) hb)
                        have n2_ := Aside0.mk (blk_below (g := gb278) (o := .cells #[.bool a0_0, .slice A0_1 l0_1.length c0_1] 56 (0, 0)) (by (with_reducible repeat (first | refine blk_drewN ?_ _ | refine blk_drew ?_ | refine blk_alloc ?_ _)); exact BK278.out) hb)
                        have n3_ := Aside0.mk (blk_below (g := gb279) (o := .cells #[.bool a1_0, .slice A1_1 l1_1.length c1_1] 56 (0, 0)) (by (with_reducible repeat (first | refine blk_drewN ?_ _ | refine blk_drew ?_ | refine blk_alloc ?_ _)); exact BK279.out) hb)
                        have n4_ := Aside0.mk (blk_below (g := gb290) (o := .cells #[.bool t285, .slice Ao48 t286.length co48] 56 (0, 0)) (by (with_reducible repeat (first | refine blk_drewN ?_ _ | refine blk_drew ?_ | refine blk_alloc ?_ _)); exact BK290.out) hb)
                        have n5_ := Aside0.mk (blk_below (g := gb296) (o := .cells #[.bool t291, .slice Ao55 t292.length co55] 56 (0, 0)) (by (with_reducible repeat (first | refine blk_drewN ?_ _ | refine blk_drew ?_ | refine blk_alloc ?_ _)); exact BK296.out) hb)
                        have n6_ := Aside0.mk (below_step (by repeat (first | (with_reducible first | exact HB.out | apply below_alloc | apply pw_below_drewN | apply below_drew1 | refine below_set ?_ GE278.out | refine below_set ?_ GE279.out | refine below_set ?_ GE290.out | refine below_set ?_ GE296.out) | exact HB.out)) hb)
                        clear HO288
                        clear HO294
                        clear BK278
                        clear BK279
                        clear BK290
                        clear BK296
                        clear HB
                        have HO288 := n0_
                        have HO294 := n1_
                        have BK278 := n2_
                        have BK279 := n3_
                        have BK290 := n4_
                        have BK296 := n5_
                        have HB := n6_
                        clear n0_ n1_ n2_ n3_ n4_ n5_ n6_
                        (try clear hb)
                        (try clear hb2)
                        (try clear hk)
                        (try clear hi)
                        refine hK.out _ _ ⟨(blk_cell BK279.out 0).trans rfl, (blk_cell BK279.out 1).trans rfl, (blk_cell BK278.out 0).trans rfl, (blk_cell BK278.out 1).trans rfl⟩ (fun hHeld => ?_)
                        clear hK K
                        refine norm_ (a' := ?_) ?_ ?_
                        rotate_left
                        · show Act.put _ (some 61) _ = _
                          simp only [Act.put, List.setIfInBounds_toArray, List.set_cons_zero, List.set_cons_succ, i64_w, i32_w]
                          rfl
                        refine pure_ (i := 5) (N := some 62) (v := ?_) (a' := ?_) #[true, true, true, true, true, true, false, false, false, false, false, false, false, false, false, false, false] rfl rfl (any_of HT_.out (by kernel_rfl)) (fun _ _ _ h => h) (Or.inl ⟨by rfl, ?_⟩) ?_ ?_
                        rotate_left
                        · intro w'
                          go_simp
                          with_reducible rfl
                        rotate_left
                        · simp only [Act.put, List.setIfInBounds_toArray, List.set_cons_zero, List.set_cons_succ, i64_w, i32_w]
                          rfl
                        refine pure_ (i := 6) (N := some 63) (v := ?_) (a' := ?_) #[true, true, true, true, true, true, true, false, false, false, false, false, false, false, false, false, false] rfl rfl (any_of HT_.out (by kernel_rfl)) (fun _ _ _ h => h) (Or.inl ⟨by rfl, ?_⟩) ?_ ?_
                        rotate_left
                        · intro w'
                          go_simp
                          with_reducible rfl
                        rotate_left
                        · simp only [Act.put, List.setIfInBounds_toArray, List.set_cons_zero, List.set_cons_succ, i64_w, i32_w]
                          rfl
                        refine pure_ (i := 7) (N := some 64) (v := ?_) (a' := ?_) #[true, true, true, true, true, true, true, true, false, false, false, false, false, false, false, false, false] rfl rfl (any_of HT_.out (by kernel_rfl)) (fun _ _ _ h => h) (Or.inl ⟨by rfl, ?_⟩) ?_ ?_
                        rotate_left
                        · intro w'
                          go_simp
                          with_reducible rfl
                        rotate_left
                        · simp only [Act.put, List.setIfInBounds_toArray, List.set_cons_zero, List.set_cons_succ, i64_w, i32_w]
                          rfl
                        refine take_ (i := 8) (N := some 65) (v := ?_) (a' := ?_) #[true, true, true, true, true, true, true, true, true, false, false, false, false, false, false, false, false] rfl rfl (take_ofW HT_.out HW_.out (by kernel_rfl)) (fun _ _ _ h => h) (Or.inl ⟨by rfl, ?_⟩) hHeld ?_ ?_
                        rotate_left
                        · rintro w' ⟨s0, s1, s2, s3⟩
                          go_simp
                          with_reducible rfl
                        rotate_left
                        · simp only [Act.put, List.setIfInBounds_toArray, List.set_cons_zero, List.set_cons_succ, i64_w, i32_w]
                          rfl
                        refine take_ (i := 9) (N := some 66) (v := ?_) (a' := ?_) #[true, true, true, true, true, true, true, true, true, true, false, false, false, false, false, false, false] rfl rfl (take_ofW HT_.out HW_.out (by kernel_rfl)) (fun _ _ _ h => h) (Or.inl ⟨by rfl, ?_⟩) hHeld ?_ ?_
                        rotate_left
                        · rintro w' ⟨s0, s1, s2, s3⟩
                          go_simp
                          with_reducible rfl
                        rotate_left
                        · simp only [Act.put, List.setIfInBounds_toArray, List.set_cons_zero, List.set_cons_succ, i64_w, i32_w]
                          rfl
                        refine take_ (i := 11) (N := some 68) (v := ?_) (a' := ?_) #[true, true, true, true, true, true, true, true, true, true, false, true, false, false, false, false, false] rfl rfl (take_ofW HT_.out HW_.out (by kernel_rfl)) (fun _ _ _ h => h) (Or.inl ⟨by rfl, ?_⟩) hHeld ?_ ?_
                        rotate_left
                        · rintro w' ⟨s0, s1, s2, s3⟩
                          go_simp
                          with_reducible rfl
                        rotate_left
                        · simp only [Act.put, List.setIfInBounds_toArray, List.set_cons_zero, List.set_cons_succ, i64_w, i32_w]
                          rfl
                        refine take_ (i := 12) (N := some 69) (v := ?_) (a' := ?_) #[true, true, true, true, true, true, true, true, true, true, false, true, true, false, false, false, false] rfl rfl (take_ofW HT_.out HW_.out (by kernel_rfl)) (fun _ _ _ h => h) (Or.inl ⟨by rfl, ?_⟩) hHeld ?_ ?_
                        rotate_left
                        · rintro w' ⟨s0, s1, s2, s3⟩
                          go_simp
                          with_reducible rfl
                        rotate_left
                        · simp only [Act.put, List.setIfInBounds_toArray, List.set_cons_zero, List.set_cons_succ, i64_w, i32_w]
                          rfl
                        refine one_ (i := 10) (N := some 67) #[true, true, true, true, true, true, true, true, true, true, true, true, true, false, false, false, false] rfl rfl (one_of HT_.out (by kernel_rfl)) (by decide) (fun K hK => ?_)
                        refine goes_ Try.func32 (by kernel_rfl) rfl #[.agg #[.bool a0_0, .slice A0_1 l0_1.length c0_1], .agg #[.bool a1_0, .slice A1_1 l1_1.length c1_1]] (by rfl) rfl rfl (by (try simp only [List.map_toArray, List.map_cons, List.map_nil]); first | done | rfl | (simp only [List.length_drop, List.length_take]; rfl)) ?_
                        with_reducible refine (node_Same.calls kj4 a0_0 _ _ l0_1 a1_0 _ _ l1_1 t299 _ ?side1 ?side2 ?side3 ?side4 A28.out).mono ?_
                        (case side1 => repeat (first | exact (Kd.C_below HR0_1.out HB.out) | (with_reducible refine Kd.C_alloc ?_ _) | (with_reducible refine Kd.C_drewN ?_ _) | (with_reducible refine Kd.C_drew ?_)))
                        (case side2 => exact HC0_1.out)
                        (case side3 => repeat (first | exact (Kd.C_below HR1_1.out HB.out) | (with_reducible refine Kd.C_alloc ?_ _) | (with_reducible refine Kd.C_drewN ?_ _) | (with_reducible refine Kd.C_drew ?_)))
                        (case side4 => exact HC1_1.out)
                        rintro e w60 ⟨rfl, hb⟩
                        refine ⟨_, rfl, ?_⟩
                        have n0_ := Aside0.mk (Kd.R_below (by (with_reducible repeat (first | apply Kd.R_alloc | apply Kd.R_drewN | apply Kd.R_drew)); exact HO288.out) hb)
                        have n1_ := Aside0.mk (Kd.R_below (by (with_reducible repeat (first | apply Kd.R_alloc | apply Kd.R_drewN | apply Kd.R_drew)); exact HO294.out) hb)
                        have n2_ := Aside0.mk (blk_below (g := gb278) (o := .cells #[.bool a0_0, .slice A0_1 l0_1.length c0_1] 56 (0, 0)) (by (with_reducible repeat (first | refine blk_drewN ?_ _ | refine blk_drew ?_ | refine blk_alloc ?_ _)); exact BK278.out) hb)
                        have n3_ := Aside0.mk (blk_below (g := gb279) (o := .cells #[.bool a1_0, .slice A1_1 l1_1.length c1_1] 56 (0, 0)) (by (with_reducible repeat (first | refine blk_drewN ?_ _ | refine blk_drew ?_ | refine blk_alloc ?_ _)); exact BK279.out) hb)
                        have n4_ := Aside0.mk (blk_below (g := gb290) (o := .cells #[.bool t285, .slice Ao48 t286.length co48] 56 (0, 0)) (by (with_reducible repeat (first | refine blk_drewN ?_ _ | refine blk_drew ?_ | refine blk_alloc ?_ _)); exact BK290.out) hb)
                        have n5_ := Aside0.mk (blk_below (g := gb296) (o := .cells #[.bool t291, .slice Ao55 t292.length co55] 56 (0, 0)) (by (with_reducible repeat (first | refine blk_drewN ?_ _ | refine blk_drew ?_ | refine blk_alloc ?_ _)); exact BK296.out) hb)
                        have n6_ := Aside0.mk (below_step (by repeat (first | (with_reducible first | exact HB.out | apply below_alloc | apply pw_below_drewN | apply below_drew1 | refine below_set ?_ GE278.out | refine below_set ?_ GE279.out | refine below_set ?_ GE290.out | refine below_set ?_ GE296.out) | exact HB.out)) hb)
                        clear HO288
                        clear HO294
                        clear BK278
                        clear BK279
                        clear BK290
                        clear BK296
                        clear HB
                        have HO288 := n0_
                        have HO294 := n1_
                        have BK278 := n2_
                        have BK279 := n3_
                        have BK290 := n4_
                        have BK296 := n5_
                        have HB := n6_
                        clear n0_ n1_ n2_ n3_ n4_ n5_ n6_
                        (try clear hb)
                        (try clear hb2)
                        (try clear hk)
                        (try clear hi)
                        refine hK.out _ _ ⟨(blk_cell BK279.out 0).trans rfl, (blk_cell BK279.out 1).trans rfl, (blk_cell BK278.out 0).trans rfl, (blk_cell BK278.out 1).trans rfl⟩ (fun hHeld => ?_)
                        clear hK K
                        refine norm_ (a' := ?_) ?_ ?_
                        rotate_left
                        · show Act.put _ (some 67) _ = _
                          simp only [Act.put, List.setIfInBounds_toArray, List.set_cons_zero, List.set_cons_succ, i64_w, i32_w]
                          rfl
                        refine one_ (i := 13) (N := some 70) #[true, true, true, true, true, true, true, true, true, true, true, true, true, true, false, false, false] rfl rfl (one_of HT_.out (by kernel_rfl)) (by decide) (fun K hK => ?_)
                        refine goes_ Try.func33 (by kernel_rfl) rfl #[.agg #[.bool a0_0, .slice A0_1 l0_1.length c0_1], .agg #[.bool a1_0, .slice A1_1 l1_1.length c1_1]] (by rfl) rfl rfl (by (try simp only [List.map_toArray, List.map_cons, List.map_nil]); first | done | rfl | (simp only [List.length_drop, List.length_take]; rfl)) ?_
                        with_reducible refine (assartref04_Same.calls kj4 a0_0 _ _ l0_1 a1_0 _ _ l1_1 t300 _ ?side1 ?side2 ?side3 ?side4 A29.out).mono ?_
                        (case side1 => repeat (first | exact (Kd.C_below HR0_1.out HB.out) | (with_reducible refine Kd.C_alloc ?_ _) | (with_reducible refine Kd.C_drewN ?_ _) | (with_reducible refine Kd.C_drew ?_)))
                        (case side2 => exact HC0_1.out)
                        (case side3 => repeat (first | exact (Kd.C_below HR1_1.out HB.out) | (with_reducible refine Kd.C_alloc ?_ _) | (with_reducible refine Kd.C_drewN ?_ _) | (with_reducible refine Kd.C_drew ?_)))
                        (case side4 => exact HC1_1.out)
                        rintro e w61 ⟨rfl, hb⟩
                        refine ⟨_, rfl, ?_⟩
                        have n0_ := Aside0.mk (Kd.R_below (by (with_reducible repeat (first | apply Kd.R_alloc | apply Kd.R_drewN | apply Kd.R_drew)); exact HO288.out) hb)
                        have n1_ := Aside0.mk (Kd.R_below (by (with_reducible repeat (first | apply Kd.R_alloc | apply Kd.R_drewN | apply Kd.R_drew)); exact HO294.out) hb)
                        have n2_ := Aside0.mk (blk_below (g := gb278) (o := .cells #[.bool a0_0, .slice A0_1 l0_1.length c0_1] 56 (0, 0)) (by (with_reducible repeat (first | refine blk_drewN ?_ _ | refine blk_drew ?_ | refine blk_alloc ?_ _)); exact BK278.out) hb)
                        have n3_ := Aside0.mk (blk_below (g := gb279) (o := .cells #[.bool a1_0, .slice A1_1 l1_1.length c1_1] 56 (0, 0)) (by (with_reducible repeat (first | refine blk_drewN ?_ _ | refine blk_drew ?_ | refine blk_alloc ?_ _)); exact BK279.out) hb)
                        have n4_ := Aside0.mk (blk_below (g := gb290) (o := .cells #[.bool t285, .slice Ao48 t286.length co48] 56 (0, 0)) (by (with_reducible repeat (first | refine blk_drewN ?_ _ | refine blk_drew ?_ | refine blk_alloc ?_ _)); exact BK290.out) hb)
                        have n5_ := Aside0.mk (blk_below (g := gb296) (o := .cells #[.bool t291, .slice Ao55 t292.length co55] 56 (0, 0)) (by (with_reducible repeat (first | refine blk_drewN ?_ _ | refine blk_drew ?_ | refine blk_alloc ?_ _)); exact BK296.out) hb)
                        have n6_ := Aside0.mk (below_step (by repeat (first | (with_reducible first | exact HB.out | apply below_alloc | apply pw_below_drewN | apply below_drew1 | refine below_set ?_ GE278.out | refine below_set ?_ GE279.out | refine below_set ?_ GE290.out | refine below_set ?_ GE296.out) | exact HB.out)) hb)
                        clear HO288
                        clear HO294
                        clear BK278
                        clear BK279
                        clear BK290
                        clear BK296
                        clear HB
                        have HO288 := n0_
                        have HO294 := n1_
                        have BK278 := n2_
                        have BK279 := n3_
                        have BK290 := n4_
                        have BK296 := n5_
                        have HB := n6_
                        clear n0_ n1_ n2_ n3_ n4_ n5_ n6_
                        (try clear hb)
                        (try clear hb2)
                        (try clear hk)
                        (try clear hi)
                        refine hK.out _ _ ⟨(blk_cell BK279.out 0).trans rfl, (blk_cell BK279.out 1).trans rfl, (blk_cell BK278.out 0).trans rfl, (blk_cell BK278.out 1).trans rfl⟩ (fun hHeld => ?_)
                        clear hK K
                        refine norm_ (a' := ?_) ?_ ?_
                        rotate_left
                        · show Act.put _ (some 70) _ = _
                          simp only [Act.put, List.setIfInBounds_toArray, List.set_cons_zero, List.set_cons_succ, i64_w, i32_w]
                          rfl
                        refine pure_ (i := 14) (N := some 71) (v := ?_) (a' := ?_) #[true, true, true, true, true, true, true, true, true, true, true, true, true, true, true, false, false] rfl rfl (any_of HT_.out (by kernel_rfl)) (fun _ _ _ h => h) (Or.inl ⟨by rfl, ?_⟩) ?_ ?_
                        rotate_left
                        · intro w'
                          go_simp
                          with_reducible rfl
                        rotate_left
                        · simp only [Act.put, List.setIfInBounds_toArray, List.set_cons_zero, List.set_cons_succ, i64_w, i32_w]
                          rfl
                        refine pure_ (i := 15) (N := some 72) (v := ?_) (a' := ?_) #[true, true, true, true, true, true, true, true, true, true, true, true, true, true, true, true, false] rfl rfl (any_of HT_.out (by kernel_rfl)) (fun _ _ _ h => h) (Or.inl ⟨by rfl, ?_⟩) ?_ ?_
                        rotate_left
                        · intro w'
                          go_simp
                          with_reducible rfl
                        rotate_left
                        · simp only [Act.put, List.setIfInBounds_toArray, List.set_cons_zero, List.set_cons_succ, i64_w, i32_w]
                          rfl
                        refine pure_ (i := 16) (N := some 17) (v := ?_) (a' := ?_) #[true, true, true, true, true, true, true, true, true, true, true, true, true, true, true, true, true] rfl rfl (any_of HT_.out (by kernel_rfl)) (fun _ _ _ h => h) (Or.inl ⟨by rfl, ?_⟩) ?_ ?_
                        rotate_left
                        · intro w'
                          go_simp
                          with_reducible rfl
                        rotate_left
                        · simp only [Act.put, List.setIfInBounds_toArray, List.set_cons_zero, List.set_cons_succ, i64_w, i32_w]
                          rfl
                        refine done_ (done_of HT_.out (by kernel_rfl)) ?_
                        have hcz62_0 : w61.cell? ⟨gb278, 0, none⟩ = some (.bool a0_0) := (blk_cell BK278.out 0).trans rfl
                        have hcz62_1 : w61.cell? ⟨gb278, 1, none⟩ = some (.slice A0_1 l0_1.length c0_1) := (blk_cell BK278.out 1).trans rfl
                        have hfz62_0 := blk_frozen BK278.out 0
                        have hfz62_1 := blk_frozen BK278.out 1
                        try go_wp2_with (first | (go_at_call 34; (with_reducible refine (node_Right.calls kj4 a0_0 _ _ l0_1 t301 _ ?side1 ?side2 A31.out).mono ?_); (case side1 => repeat (first | exact (Kd.C_below HR0_1.out HB.out) | (with_reducible refine Kd.C_alloc ?_ _) | (with_reducible refine Kd.C_drewN ?_ _) | (with_reducible refine Kd.C_drew ?_))); (case side2 => exact HC0_1.out); rintro e w63 ⟨rfl, hb⟩; have n0_ := Aside0.mk (Kd.R_below (by (with_reducible repeat (first | apply Kd.R_alloc | apply Kd.R_drewN | apply Kd.R_drew)); exact HO288.out) hb); have n1_ := Aside0.mk (Kd.R_below (by (with_reducible repeat (first | apply Kd.R_alloc | apply Kd.R_drewN | apply Kd.R_drew)); exact HO294.out) hb); have n2_ := Aside0.mk (blk_below (g := gb278) (o := .cells #[.bool a0_0, .slice A0_1 l0_1.length c0_1] 56 (0, 0)) (by (with_reducible repeat (first | refine blk_drewN ?_ _ | refine blk_drew ?_ | refine blk_alloc ?_ _)); exact BK278.out) hb); have n3_ := Aside0.mk (blk_below (g := gb279) (o := .cells #[.bool a1_0, .slice A1_1 l1_1.length c1_1] 56 (0, 0)) (by (with_reducible repeat (first | refine blk_drewN ?_ _ | refine blk_drew ?_ | refine blk_alloc ?_ _)); exact BK279.out) hb); have n4_ := Aside0.mk (blk_below (g := gb290) (o := .cells #[.bool t285, .slice Ao48 t286.length co48] 56 (0, 0)) (by (with_reducible repeat (first | refine blk_drewN ?_ _ | refine blk_drew ?_ | refine blk_alloc ?_ _)); exact BK290.out) hb); have n5_ := Aside0.mk (blk_below (g := gb296) (o := .cells #[.bool t291, .slice Ao55 t292.length co55] 56 (0, 0)) (by (with_reducible repeat (first | refine blk_drewN ?_ _ | refine blk_drew ?_ | refine blk_alloc ?_ _)); exact BK296.out) hb); have n6_ := Aside0.mk (below_step (by repeat (first | (with_reducible first | exact HB.out | apply below_alloc | apply pw_below_drewN | apply below_drew1 | refine below_set ?_ GE278.out | refine below_set ?_ GE279.out | refine below_set ?_ GE290.out | refine below_set ?_ GE296.out) | exact HB.out)) hb); clear HO288; clear HO294; clear BK278; clear BK279; clear BK290; clear BK296; clear HB; have HO288 := n0_; have HO294 := n1_; have BK278 := n2_; have BK279 := n3_; have BK290 := n4_; have BK296 := n5_; have HB := n6_; clear n0_ n1_ n2_ n3_ n4_ n5_ n6_; (try clear hb); (try clear hb2); (try clear hk); (try clear hi); have hcz64_0 : w63.cell? ⟨gb290, 0, none⟩ = some (.bool t285) := (blk_cell BK290.out 0).trans rfl; have hcz64_1 : w63.cell? ⟨gb290, 1, none⟩ = some (.slice Ao48 t286.length co48) := (blk_cell BK290.out 1).trans rfl; have hfz64_0 := blk_frozen BK290.out 0; have hfz64_1 := blk_frozen BK290.out 1; have hcz65_0 : w63.cell? ⟨gb296, 0, none⟩ = some (.bool t291) := (blk_cell BK296.out 0).trans rfl; have hcz65_1 : w63.cell? ⟨gb296, 1, none⟩ = some (.slice Ao55 t292.length co55) := (blk_cell BK296.out 1).trans rfl; have hfz65_0 := blk_frozen BK296.out 0; have hfz65_1 := blk_frozen BK296.out 1) | (go_at_call 33; (with_reducible refine (assartref04_Same.calls kj4 t285 _ _ t286 t291 _ _ t292 true _ ?side1 ?side2 ?side3 ?side4 A36.out).mono ?_); (case side1 => repeat (first | exact (Kd.R_reads' HO288.out).2.2 | (with_reducible refine Kd.C_alloc ?_ _) | (with_reducible refine Kd.C_drewN ?_ _) | (with_reducible refine Kd.C_drew ?_))); (case side2 => exact (Kd.R_reads' HO288.out).2.1); (case side3 => repeat (first | exact (Kd.R_reads' HO294.out).2.2 | (with_reducible refine Kd.C_alloc ?_ _) | (with_reducible refine Kd.C_drewN ?_ _) | (with_reducible refine Kd.C_drew ?_))); (case side4 => exact (Kd.R_reads' HO294.out).2.1); rintro e w66 ⟨rfl, hb⟩; have n0_ := Aside0.mk (Kd.R_below (by (with_reducible repeat (first | apply Kd.R_alloc | apply Kd.R_drewN | apply Kd.R_drew)); exact HO288.out) hb); have n1_ := Aside0.mk (Kd.R_below (by (with_reducible repeat (first | apply Kd.R_alloc | apply Kd.R_drewN | apply Kd.R_drew)); exact HO294.out) hb); have n2_ := Aside0.mk (blk_below (g := gb278) (o := .cells #[.bool a0_0, .slice A0_1 l0_1.length c0_1] 56 (0, 0)) (by (with_reducible repeat (first | refine blk_drewN ?_ _ | refine blk_drew ?_ | refine blk_alloc ?_ _)); exact BK278.out) hb); have n3_ := Aside0.mk (blk_below (g := gb279) (o := .cells #[.bool a1_0, .slice A1_1 l1_1.length c1_1] 56 (0, 0)) (by (with_reducible repeat (first | refine blk_drewN ?_ _ | refine blk_drew ?_ | refine blk_alloc ?_ _)); exact BK279.out) hb); have n4_ := Aside0.mk (blk_below (g := gb290) (o := .cells #[.bool t285, .slice Ao48 t286.length co48] 56 (0, 0)) (by (with_reducible repeat (first | refine blk_drewN ?_ _ | refine blk_drew ?_ | refine blk_alloc ?_ _)); exact BK290.out) hb); have n5_ := Aside0.mk (blk_below (g := gb296) (o := .cells #[.bool t291, .slice Ao55 t292.length co55] 56 (0, 0)) (by (with_reducible repeat (first | refine blk_drewN ?_ _ | refine blk_drew ?_ | refine blk_alloc ?_ _)); exact BK296.out) hb); have n6_ := Aside0.mk (below_step (by repeat (first | (with_reducible first | exact HB.out | apply below_alloc | apply pw_below_drewN | apply below_drew1 | refine below_set ?_ GE278.out | refine below_set ?_ GE279.out | refine below_set ?_ GE290.out | refine below_set ?_ GE296.out) | exact HB.out)) hb); clear HO288; clear HO294; clear BK278; clear BK279; clear BK290; clear BK296; clear HB; have HO288 := n0_; have HO294 := n1_; have BK278 := n2_; have BK279 := n3_; have BK290 := n4_; have BK296 := n5_; have HB := n6_; clear n0_ n1_ n2_ n3_ n4_ n5_ n6_; (try clear hb); (try clear hb2); (try clear hk); (try clear hi)))
                        go_ret
                        exact ⟨by first | rfl | (simp [errW_none, errW_some] <;> rfl) | (simp [*, errW_none, errW_some] <;> rfl), by repeat (first | (with_reducible first | exact HB.out | apply below_alloc | apply pw_below_drewN | apply below_drew1 | refine below_set ?_ GE278.out | refine below_set ?_ GE279.out | refine below_set ?_ GE290.out | refine below_set ?_ GE296.out) | exact HB.out)⟩
                      · replace c37 := Bool.eq_false_iff.mpr c37
                        subst c37
                        have H1 : (some false) = some r := by rw [if_neg (show ¬ (false = true) by decide)] at H; exact H
                        clear H
                        have H := H1
                        clear H1
                        obtain rfl := Option.some.inj H
                        cases hr
                    · rw [if_neg c35] at H
                      have c35b0 : (t282 == t284) = false := beq_eq_false_iff_ne.mpr c35
                      have c35b1 : (t282 != t284) = true := bne_iff_ne.mpr c35
                      obtain rfl := Option.some.inj H
                      cases hr
                  · rw [if_neg c34] at H
                    have c34b0 : (t281.toList == t283.toList) = false := beq_eq_false_iff_ne.mpr c34
                    have c34b1 : (t281.toList != t283.toList) = true := bne_iff_ne.mpr c34
                    obtain rfl := Option.some.inj H
                    cases hr
                · rw [if_neg c33] at H
                  have c33b0 : (t299 == t300) = false := by simpa using c33
                  (try (have c33b1 : decide (t299 = t300) = false := by simpa using c33))
                  (try (have c33b2 : (t299 == t300) = false := by simpa using c33))
                  (try (have c33b3 : ¬ (t299 = t300) := by simpa using c33))
                  clear c33
                  obtain rfl := Option.some.inj H
                  cases hr
              · rw [if_neg c32] at H
                have c32b0 : (t301 == true) = false := by simpa using c32
                (try (have c32b1 : decide (t301 = true) = false := by simpa using c32))
                (try (have c32b2 : (t301 == true) = false := by simpa using c32))
                (try (have c32b3 : ¬ (t301 = true) := by simpa using c32))
                clear c32
                obtain rfl := Option.some.inj H
                cases hr
            · replace c30 := Bool.eq_false_iff.mpr c30
              subst c30
              have H1 : (some false) = some r := by rw [if_neg (show ¬ (false = true) by decide)] at H; exact H
              clear H
              have H := H1
              clear H1
              obtain rfl := Option.some.inj H
              cases hr
          · replace c27 := Bool.eq_false_iff.mpr c27
            subst c27
            have H1 : (if t280 = true then ((node_Right.f kj4 a0_0 l0_1).bind fun t303 => (if (t303 == true) = true then (if t281.toList = t283.toList then (if t282 = t284 then ((assartref04_Same.f kj4 t285 t286 t291 t292).bind fun t304 => (if t304 = true then (some (t289 == t295)) else (some false))) else (some false)) else (some false)) else (some false))) else (some false)) = some r := by rw [if_neg (show ¬ (false = true) by decide)] at H; exact H
            clear H
            have H := H1
            clear H1
            by_cases c224 : t280 = true
            · subst c224
              have H1 : ((node_Right.f kj4 a0_0 l0_1).bind fun t303 => (if (t303 == true) = true then (if t281.toList = t283.toList then (if t282 = t284 then ((assartref04_Same.f kj4 t285 t286 t291 t292).bind fun t304 => (if t304 = true then (some (t289 == t295)) else (some false))) else (some false)) else (some false)) else (some false))) = some r := by rw [if_pos rfl] at H; exact H
              clear H
              have H := H1
              clear H1
              replace H := Option.bind_eq_some_iff.mp H
              obtain ⟨t303, A2250, H⟩ := H
              replace H : (if (t303 == true) = true then (if t281.toList = t283.toList then (if t282 = t284 then ((assartref04_Same.f kj4 t285 t286 t291 t292).bind fun t304 => (if t304 = true then (some (t289 == t295)) else (some false))) else (some false)) else (some false)) else (some false)) = some r := H
              have A225 := Aside0.mk A2250
              clear A2250
              by_cases c226 : (t303 == true) = true
              · rw [if_pos c226] at H
                have c226b0 : (t303 == true) = true := c226
                (try (have c226b1 : decide (t303 = true) = true := by simpa using c226))
                (try (have c226b2 : (t303 == true) = true := by simpa using c226))
                clear c226
                by_cases c227 : t281.toList = t283.toList
                · rw [if_pos c227] at H
                  have c227b0 : (t281.toList == t283.toList) = true := beq_iff_eq.mpr c227
                  have c227b1 : (t281.toList != t283.toList) = false := bne_eq_false_iff_eq.mpr c227
                  clear c227
                  by_cases c228 : t282 = t284
                  · rw [if_pos c228] at H
                    have c228b0 : (t282 == t284) = true := beq_iff_eq.mpr c228
                    have c228b1 : (t282 != t284) = false := bne_eq_false_iff_eq.mpr c228
                    clear c228
                    replace H := Option.bind_eq_some_iff.mp H
                    obtain ⟨t304, A2290, H⟩ := H
                    replace H : (if t304 = true then (some (t289 == t295)) else (some false)) = some r := H
                    have A229 := Aside0.mk A2290
                    clear A2290
                    by_cases c230 : t304 = true
                    · subst c230
                      have H1 : (some (t289 == t295)) = some r := by rw [if_pos rfl] at H; exact H
                      clear H
                      have H := H1
                      clear H1
                      obtain rfl := Option.some.inj H
                      have hnb231 := NB278_279.out
                      have hnc231 := NB279_278.out
                      have hcz232_0 : wc.cell? ⟨gb278, 0, none⟩ = some (.bool a0_0) := (blk_cell BK278.out 0).trans rfl
                      have hcz232_1 : wc.cell? ⟨gb278, 1, none⟩ = some (.slice A0_1 l0_1.length c0_1) := (blk_cell BK278.out 1).trans rfl
                      have hfz232_0 := blk_frozen BK278.out 0
                      have hfz232_1 := blk_frozen BK278.out 1
                      try go_wp2_with (first | ((with_reducible refine gate_callee (f := 27) rfl ?_); refine goesL_ (some 37) rfl rfl Try.func27 (by kernel_rfl) rfl #[.agg #[.bool a0_0, .slice A0_1 l0_1.length c0_1]] rfl (by (try simp only [List.map_toArray, List.map_cons, List.map_nil]); first | done | rfl | (simp only [List.length_drop, List.length_take]; rfl)) ?_; (with_reducible refine (node_Print.calls kj4 a0_0 _ _ l0_1 t281 t282 _ ?side1 ?side2 A20.out).mono ?_); (case side1 => repeat (first | exact (Kd.C_below HR0_1.out HB.out) | (with_reducible refine Kd.C_alloc ?_ _) | (with_reducible refine Kd.C_drewN ?_ _) | (with_reducible refine Kd.C_drew ?_))); (case side2 => exact HC0_1.out); rintro e w233 ⟨rfl, hb⟩; refine ⟨_, rfl, ?_⟩; have n0_ := Aside0.mk (blk_below (g := gb278) (o := .cells #[.bool a0_0, .slice A0_1 l0_1.length c0_1] 56 (0, 0)) (by (with_reducible repeat (first | refine blk_drewN ?_ _ | refine blk_drew ?_ | refine blk_alloc ?_ _)); exact BK278.out) hb); have n1_ := Aside0.mk (blk_below (g := gb279) (o := .cells #[.bool a1_0, .slice A1_1 l1_1.length c1_1] 56 (0, 0)) (by (with_reducible repeat (first | refine blk_drewN ?_ _ | refine blk_drew ?_ | refine blk_alloc ?_ _)); exact BK279.out) hb); have n2_ := Aside0.mk (below_step (by repeat (first | (with_reducible first | exact HB.out | apply below_alloc | apply pw_below_drewN | apply below_drew1 | refine below_set ?_ GE278.out | refine below_set ?_ GE279.out) | exact HB.out)) hb); clear BK278; clear BK279; clear HB; have BK278 := n0_; have BK279 := n1_; have HB := n2_; clear n0_ n1_ n2_; (try clear hb); (try clear hb2); (try clear hk); (try clear hi); have hcz234_0 : w233.cell? ⟨gb278, 0, none⟩ = some (.bool a0_0) := (blk_cell BK278.out 0).trans rfl; have hcz234_1 : w233.cell? ⟨gb278, 1, none⟩ = some (.slice A0_1 l0_1.length c0_1) := (blk_cell BK278.out 1).trans rfl; have hfz234_0 := blk_frozen BK278.out 0; have hfz234_1 := blk_frozen BK278.out 1) | ((with_reducible refine gate_callee (f := 28) rfl ?_); refine goesL_ (some 42) rfl rfl Try.func28 (by kernel_rfl) rfl #[.agg #[.bool a0_0, .slice A0_1 l0_1.length c0_1]] rfl (by (try simp only [List.map_toArray, List.map_cons, List.map_nil]); first | done | rfl | (simp only [List.length_drop, List.length_take]; rfl)) ?_; (with_reducible refine (assartref04_Print.calls kj4 a0_0 _ _ l0_1 t283 t284 _ ?side1 ?side2 A21.out).mono ?_); (case side1 => repeat (first | exact (Kd.C_below HR0_1.out HB.out) | (with_reducible refine Kd.C_alloc ?_ _) | (with_reducible refine Kd.C_drewN ?_ _) | (with_reducible refine Kd.C_drew ?_))); (case side2 => exact HC0_1.out); rintro e w235 ⟨rfl, hb⟩; refine ⟨_, rfl, ?_⟩; have n0_ := Aside0.mk (blk_below (g := gb278) (o := .cells #[.bool a0_0, .slice A0_1 l0_1.length c0_1] 56 (0, 0)) (by (with_reducible repeat (first | refine blk_drewN ?_ _ | refine blk_drew ?_ | refine blk_alloc ?_ _)); exact BK278.out) hb); have n1_ := Aside0.mk (blk_below (g := gb279) (o := .cells #[.bool a1_0, .slice A1_1 l1_1.length c1_1] 56 (0, 0)) (by (with_reducible repeat (first | refine blk_drewN ?_ _ | refine blk_drew ?_ | refine blk_alloc ?_ _)); exact BK279.out) hb); have n2_ := Aside0.mk (below_step (by repeat (first | (with_reducible first | exact HB.out | apply below_alloc | apply pw_below_drewN | apply below_drew1 | refine below_set ?_ GE278.out | refine below_set ?_ GE279.out) | exact HB.out)) hb); clear BK278; clear BK279; clear HB; have BK278 := n0_; have BK279 := n1_; have HB := n2_; clear n0_ n1_ n2_; (try clear hb); (try clear hb2); (try clear hk); (try clear hi)) | ((with_reducible refine gate_callee (f := 29) rfl ?_); refine goesL_ (some 47) rfl rfl Try.func29 (by kernel_rfl) rfl #[.string a2] rfl (by (try simp only [List.map_toArray, List.map_cons, List.map_nil]); first | done | rfl | (simp only [List.length_drop, List.length_take]; rfl)) ?_; (with_reducible refine (node_Parse.calls kj4 a2 t285 t286 t289 _ A22.out).mono ?_); rintro e w236 ⟨v287, rfl, ho0, hb⟩; refine ⟨_, rfl, ?_⟩; have n0_ := Aside0.mk (Kd.R_lower ho0 (below_size (by repeat (first | (with_reducible first | exact HB.out | apply below_alloc | apply pw_below_drewN | apply below_drew1 | refine below_set ?_ GE278.out | refine below_set ?_ GE279.out) | exact HB.out)))); have n1_ := Aside0.mk (blk_below (g := gb278) (o := .cells #[.bool a0_0, .slice A0_1 l0_1.length c0_1] 56 (0, 0)) (by (with_reducible repeat (first | refine blk_drewN ?_ _ | refine blk_drew ?_ | refine blk_alloc ?_ _)); exact BK278.out) hb); have n2_ := Aside0.mk (blk_below (g := gb279) (o := .cells #[.bool a1_0, .slice A1_1 l1_1.length c1_1] 56 (0, 0)) (by (with_reducible repeat (first | refine blk_drewN ?_ _ | refine blk_drew ?_ | refine blk_alloc ?_ _)); exact BK279.out) hb); have n3_ := Aside0.mk (below_step (by repeat (first | (with_reducible first | exact HB.out | apply below_alloc | apply pw_below_drewN | apply below_drew1 | refine below_set ?_ GE278.out | refine below_set ?_ GE279.out) | exact HB.out)) hb); clear BK278; clear BK279; clear HB; have HO288 := n0_; have BK278 := n1_; have BK279 := n2_; have HB := n3_; clear n0_ n1_ n2_ n3_; (try clear hb); (try clear hb2); (try clear hk); (try clear hi); (try clear ho0)) | ((with_reducible refine gate_dst (N := 12) rfl ?_); (try (refine gate_guard (by rfl) ?_; dsimp only)); refine box_event ?hg (N := 12) ?hd (cs := #[.bool false, .slice none 0 0]) (t := 56) ?hr ?_; (case hd => rfl); (case hg => rfl); (case hr => first | (go_simp; done) | (go_simp; rfl)); intro gb290 hg w237 hbox hb; have n0_ := Aside0.mk (Kd.R_below (by (with_reducible repeat (first | apply Kd.R_alloc | apply Kd.R_drewN | apply Kd.R_drew)); exact HO288.out) hb); have n1_ := Aside0.mk (blk_below (g := gb278) (o := .cells #[.bool a0_0, .slice A0_1 l0_1.length c0_1] 56 (0, 0)) (by (with_reducible repeat (first | refine blk_drewN ?_ _ | refine blk_drew ?_ | refine blk_alloc ?_ _)); exact BK278.out) hb); have n2_ := Aside0.mk (blk_below (g := gb279) (o := .cells #[.bool a1_0, .slice A1_1 l1_1.length c1_1] 56 (0, 0)) (by (with_reducible repeat (first | refine blk_drewN ?_ _ | refine blk_drew ?_ | refine blk_alloc ?_ _)); exact BK279.out) hb); have n3_ := Aside0.mk (below_step (by repeat (first | (with_reducible first | exact HB.out | apply below_alloc | apply pw_below_drewN | apply below_drew1 | refine below_set ?_ GE278.out | refine below_set ?_ GE279.out) | exact HB.out)) hb); have n4_ := Aside0.mk (hbox); have n5_ := Aside0.mk ((by rw [hg]; exact (below_size (by repeat (first | (with_reducible first | exact HB.out | apply below_alloc | apply pw_below_drewN | apply below_drew1 | refine below_set ?_ GE278.out | refine below_set ?_ GE279.out) | exact HB.out))) : w.heap.size ≤ gb290)); have n6_ := Aside0.mk ((by rw [hg]; exact (below_size (by repeat (first | (with_reducible first | exact HB.out | apply below_alloc | apply pw_below_drewN | apply below_drew1 | refine below_set ?_ GE278.out | refine below_set ?_ GE279.out) | exact HB.out))) : w.heap.size ≤ gb290)); have n7_ := Aside0.mk ((by rw [hg]; exact Nat.ne_of_lt (blk_lt (g := gb278) (o := .cells #[.bool a0_0, .slice A0_1 l0_1.length c0_1] 56 (0, 0)) (by (with_reducible repeat (first | refine blk_drewN ?_ _ | refine blk_drew ?_ | refine blk_alloc ?_ _)); exact BK278.out)) : gb278 ≠ gb290)); have n8_ := Aside0.mk ((by rw [hg]; exact Nat.ne_of_gt (blk_lt (g := gb278) (o := .cells #[.bool a0_0, .slice A0_1 l0_1.length c0_1] 56 (0, 0)) (by (with_reducible repeat (first | refine blk_drewN ?_ _ | refine blk_drew ?_ | refine blk_alloc ?_ _)); exact BK278.out)) : gb290 ≠ gb278)); have n9_ := Aside0.mk ((by rw [hg]; exact Nat.ne_of_lt (blk_lt (g := gb279) (o := .cells #[.bool a1_0, .slice A1_1 l1_1.length c1_1] 56 (0, 0)) (by (with_reducible repeat (first | refine blk_drewN ?_ _ | refine blk_drew ?_ | refine blk_alloc ?_ _)); exact BK279.out)) : gb279 ≠ gb290)); have n10_ := Aside0.mk ((by rw [hg]; exact Nat.ne_of_gt (blk_lt (g := gb279) (o := .cells #[.bool a1_0, .slice A1_1 l1_1.length c1_1] 56 (0, 0)) (by (with_reducible repeat (first | refine blk_drewN ?_ _ | refine blk_drew ?_ | refine blk_alloc ?_ _)); exact BK279.out)) : gb290 ≠ gb279)); clear HO288; clear BK278; clear BK279; clear HB; have HO288 := n0_; have BK278 := n1_; have BK279 := n2_; have HB := n3_; have BK290 := n4_; have GW290 := n5_; have GE290 := n6_; have NB278_290 := n7_; have NB290_278 := n8_; have NB279_290 := n9_; have NB290_279 := n10_; clear n0_ n1_ n2_ n3_ n4_ n5_ n6_ n7_ n8_ n9_ n10_; clear hb hbox hg; have hnb238 := NB290_278.out; have hnc238 := NB278_290.out; have hnb239 := NB290_279.out; have hnc239 := NB279_290.out; have hcz240_0 : w237.cell? ⟨gb290, 0, none⟩ = some (.bool false) := (blk_cell BK290.out 0).trans rfl; have hcz240_1 : w237.cell? ⟨gb290, 1, none⟩ = some (.slice none 0 0) := (blk_cell BK290.out 1).trans rfl; have hfz240_0 := blk_frozen BK290.out 0; have hfz240_1 := blk_frozen BK290.out 1; obtain ⟨Ao241, co241, eo241⟩ := Kd.R_slice HO288.out; subst eo241) | ((with_reducible refine gate_callee (f := 30) rfl ?_); refine goesL_ (some 52) rfl rfl Try.func30 (by kernel_rfl) rfl #[.string a2] rfl (by (try simp only [List.map_toArray, List.map_cons, List.map_nil]); first | done | rfl | (simp only [List.length_drop, List.length_take]; rfl)) ?_; (with_reducible refine (assartref04_Parse.calls kj4 a2 t291 t292 t295 _ A23.out).mono ?_); rintro e w242 ⟨v293, rfl, ho0, hb⟩; refine ⟨_, rfl, ?_⟩; have n0_ := Aside0.mk (Kd.R_elder' (by (with_reducible repeat (first | apply Kd.R_alloc | apply Kd.R_drewN | apply Kd.R_drew)); exact (Kd.R_mono (Kd.R_far (p := ⟨gb290, 1, none⟩) (Kd.R_far (p := ⟨gb290, 0, none⟩) (Kd.R_types HO288.out BK290.out (by decide)) (fun _ hk => hk.2) (.bool t285)) (fun _ hk => hk.2) (.slice Ao241 t286.length co241)) (fun _ h_ => h_.1))) (Kd.R_base ho0) hb); have n1_ := Aside0.mk (Kd.R_lower (Kd.R_new' ho0 (Kd.R_lt (by (with_reducible repeat (first | apply Kd.R_alloc | apply Kd.R_drewN | apply Kd.R_drew)); exact (Kd.R_mono (Kd.R_far (p := ⟨gb290, 1, none⟩) (Kd.R_far (p := ⟨gb290, 0, none⟩) (Kd.R_types HO288.out BK290.out (by decide)) (fun _ hk => hk.2) (.bool t285)) (fun _ hk => hk.2) (.slice Ao241 t286.length co241)) (fun _ h_ => h_.1))))) (below_size (by repeat (first | (with_reducible first | exact HB.out | apply below_alloc | apply pw_below_drewN | apply below_drew1 | refine below_set ?_ GE278.out | refine below_set ?_ GE279.out | refine below_set ?_ GE290.out) | exact HB.out)))); have n2_ := Aside0.mk (blk_below (g := gb278) (o := .cells #[.bool a0_0, .slice A0_1 l0_1.length c0_1] 56 (0, 0)) (by (with_reducible repeat (first | refine blk_drewN ?_ _ | refine blk_drew ?_ | refine blk_alloc ?_ _)); refine blk_far ?_ NB278_290.out _; (with_reducible repeat (first | refine blk_drewN ?_ _ | refine blk_drew ?_ | refine blk_alloc ?_ _)); refine blk_far ?_ NB278_290.out _; (with_reducible repeat (first | refine blk_drewN ?_ _ | refine blk_drew ?_ | refine blk_alloc ?_ _)); exact BK278.out) hb); have n3_ := Aside0.mk (blk_below (g := gb279) (o := .cells #[.bool a1_0, .slice A1_1 l1_1.length c1_1] 56 (0, 0)) (by (with_reducible repeat (first | refine blk_drewN ?_ _ | refine blk_drew ?_ | refine blk_alloc ?_ _)); refine blk_far ?_ NB279_290.out _; (with_reducible repeat (first | refine blk_drewN ?_ _ | refine blk_drew ?_ | refine blk_alloc ?_ _)); refine blk_far ?_ NB279_290.out _; (with_reducible repeat (first | refine blk_drewN ?_ _ | refine blk_drew ?_ | refine blk_alloc ?_ _)); exact BK279.out) hb); have n4_ := Aside0.mk (blk_below (g := gb290) (o := .cells #[.bool t285, .slice Ao241 t286.length co241] 56 (0, 0)) (by (with_reducible repeat (first | refine blk_drewN ?_ _ | refine blk_drew ?_ | refine blk_alloc ?_ _)); refine blk_put (cs := #[.bool t285, .slice none 0 0]) ?_ 1 _ rfl; (with_reducible repeat (first | refine blk_drewN ?_ _ | refine blk_drew ?_ | refine blk_alloc ?_ _)); refine blk_put (cs := #[.bool false, .slice none 0 0]) ?_ 0 _ rfl; (with_reducible repeat (first | refine blk_drewN ?_ _ | refine blk_drew ?_ | refine blk_alloc ?_ _)); exact BK290.out) hb); have n5_ := Aside0.mk (below_step (by repeat (first | (with_reducible first | exact HB.out | apply below_alloc | apply pw_below_drewN | apply below_drew1 | refine below_set ?_ GE278.out | refine below_set ?_ GE279.out | refine below_set ?_ GE290.out) | exact HB.out)) hb); clear HO288; clear BK278; clear BK279; clear BK290; clear HB; have HO288 := n0_; have HO294 := n1_; have BK278 := n2_; have BK279 := n3_; have BK290 := n4_; have HB := n5_; clear n0_ n1_ n2_ n3_ n4_ n5_; (try clear hb); (try clear hb2); (try clear hk); (try clear hi); (try clear ho0)) | ((with_reducible refine gate_dst (N := 14) rfl ?_); (try (refine gate_guard (by rfl) ?_; dsimp only)); refine box_event ?hg (N := 14) ?hd (cs := #[.bool false, .slice none 0 0]) (t := 56) ?hr ?_; (case hd => rfl); (case hg => rfl); (case hr => first | (go_simp; done) | (go_simp; rfl)); intro gb296 hg w243 hbox hb; have n0_ := Aside0.mk (Kd.R_below (by (with_reducible repeat (first | apply Kd.R_alloc | apply Kd.R_drewN | apply Kd.R_drew)); exact HO288.out) hb); have n1_ := Aside0.mk (Kd.R_below (by (with_reducible repeat (first | apply Kd.R_alloc | apply Kd.R_drewN | apply Kd.R_drew)); exact HO294.out) hb); have n2_ := Aside0.mk (blk_below (g := gb278) (o := .cells #[.bool a0_0, .slice A0_1 l0_1.length c0_1] 56 (0, 0)) (by (with_reducible repeat (first | refine blk_drewN ?_ _ | refine blk_drew ?_ | refine blk_alloc ?_ _)); exact BK278.out) hb); have n3_ := Aside0.mk (blk_below (g := gb279) (o := .cells #[.bool a1_0, .slice A1_1 l1_1.length c1_1] 56 (0, 0)) (by (with_reducible repeat (first | refine blk_drewN ?_ _ | refine blk_drew ?_ | refine blk_alloc ?_ _)); exact BK279.out) hb); have n4_ := Aside0.mk (blk_below (g := gb290) (o := .cells #[.bool t285, .slice Ao241 t286.length co241] 56 (0, 0)) (by (with_reducible repeat (first | refine blk_drewN ?_ _ | refine blk_drew ?_ | refine blk_alloc ?_ _)); exact BK290.out) hb); have n5_ := Aside0.mk (below_step (by repeat (first | (with_reducible first | exact HB.out | apply below_alloc | apply pw_below_drewN | apply below_drew1 | refine below_set ?_ GE278.out | refine below_set ?_ GE279.out | refine below_set ?_ GE290.out) | exact HB.out)) hb); have n6_ := Aside0.mk (hbox); have n7_ := Aside0.mk ((by rw [hg]; exact (below_size (by repeat (first | (with_reducible first | exact HB.out | apply below_alloc | apply pw_below_drewN | apply below_drew1 | refine below_set ?_ GE278.out | refine below_set ?_ GE279.out | refine below_set ?_ GE290.out) | exact HB.out))) : w.heap.size ≤ gb296)); have n8_ := Aside0.mk ((by rw [hg]; exact (below_size (by repeat (first | (with_reducible first | exact HB.out | apply below_alloc | apply pw_below_drewN | apply below_drew1 | refine below_set ?_ GE278.out | refine below_set ?_ GE279.out | refine below_set ?_ GE290.out) | exact HB.out))) : w.heap.size ≤ gb296)); have n9_ := Aside0.mk ((by rw [hg]; exact Nat.ne_of_lt (blk_lt (g := gb278) (o := .cells #[.bool a0_0, .slice A0_1 l0_1.length c0_1] 56 (0, 0)) (by (with_reducible repeat (first | refine blk_drewN ?_ _ | refine blk_drew ?_ | refine blk_alloc ?_ _)); exact BK278.out)) : gb278 ≠ gb296)); have n10_ := Aside0.mk ((by rw [hg]; exact Nat.ne_of_gt (blk_lt (g := gb278) (o := .cells #[.bool a0_0, .slice A0_1 l0_1.length c0_1] 56 (0, 0)) (by (with_reducible repeat (first | refine blk_drewN ?_ _ | refine blk_drew ?_ | refine blk_alloc ?_ _)); exact BK278.out)) : gb296 ≠ gb278)); have n11_ := Aside0.mk ((by rw [hg]; exact Nat.ne_of_lt (blk_lt (g := gb279) (o := .cells #[.bool a1_0, .slice A1_1 l1_1.length c1_1] 56 (0, 0)) (by (with_reducible repeat (first | refine blk_drewN ?_ _ | refine blk_drew ?_ | refine blk_alloc ?_ _)); exact BK279.out)) : gb279 ≠ gb296)); have n12_ := Aside0.mk ((by rw [hg]; exact Nat.ne_of_gt (blk_lt (g := gb279) (o := .cells #[.bool a1_0, .slice A1_1 l1_1.length c1_1] 56 (0, 0)) (by (with_reducible repeat (first | refine blk_drewN ?_ _ | refine blk_drew ?_ | refine blk_alloc ?_ _)); exact BK279.out)) : gb296 ≠ gb279)); have n13_ := Aside0.mk ((by rw [hg]; exact Nat.ne_of_lt (blk_lt (g := gb290) (o := .cells #[.bool t285, .slice Ao241 t286.length co241] 56 (0, 0)) (by (with_reducible repeat (first | refine blk_drewN ?_ _ | refine blk_drew ?_ | refine blk_alloc ?_ _)); exact BK290.out)) : gb290 ≠ gb296)); have n14_ := Aside0.mk ((by rw [hg]; exact Nat.ne_of_gt (blk_lt (g := gb290) (o := .cells #[.bool t285, .slice Ao241 t286.length co241] 56 (0, 0)) (by (with_reducible repeat (first | refine blk_drewN ?_ _ | refine blk_drew ?_ | refine blk_alloc ?_ _)); exact BK290.out)) : gb296 ≠ gb290)); clear HO288; clear HO294; clear BK278; clear BK279; clear BK290; clear HB; have HO288 := n0_; have HO294 := n1_; have BK278 := n2_; have BK279 := n3_; have BK290 := n4_; have HB := n5_; have BK296 := n6_; have GW296 := n7_; have GE296 := n8_; have NB278_296 := n9_; have NB296_278 := n10_; have NB279_296 := n11_; have NB296_279 := n12_; have NB290_296 := n13_; have NB296_290 := n14_; clear n0_ n1_ n2_ n3_ n4_ n5_ n6_ n7_ n8_ n9_ n10_ n11_ n12_ n13_ n14_; clear hb hbox hg; have hnb244 := NB296_278.out; have hnc244 := NB278_296.out; have hnb245 := NB296_279.out; have hnc245 := NB279_296.out; have hnb246 := NB296_290.out; have hnc246 := NB290_296.out; have hcz247_0 : w243.cell? ⟨gb296, 0, none⟩ = some (.bool false) := (blk_cell BK296.out 0).trans rfl; have hcz247_1 : w243.cell? ⟨gb296, 1, none⟩ = some (.slice none 0 0) := (blk_cell BK296.out 1).trans rfl; have hfz247_0 := blk_frozen BK296.out 0; have hfz247_1 := blk_frozen BK296.out 1; obtain ⟨Ao248, co248, eo248⟩ := Kd.R_slice HO294.out; subst eo248; have hcz249_0 : w243.cell? ⟨gb278, 0, none⟩ = some (.bool a0_0) := (blk_cell BK278.out 0).trans rfl; have hcz249_1 : w243.cell? ⟨gb278, 1, none⟩ = some (.slice A0_1 l0_1.length c0_1) := (blk_cell BK278.out 1).trans rfl; have hfz249_0 := blk_frozen BK278.out 0; have hfz249_1 := blk_frozen BK278.out 1) | ((with_reducible refine gate_callee (f := 31) rfl ?_); refine goesL_ (some 56) rfl rfl Try.func31 (by kernel_rfl) rfl #[.agg #[.bool a0_0, .slice A0_1 l0_1.length c0_1]] rfl (by (try simp only [List.map_toArray, List.map_cons, List.map_nil]); first | done | rfl | (simp only [List.length_drop, List.length_take]; rfl)) ?_; (with_reducible refine (assartref04_Right.calls kj4 a0_0 _ _ l0_1 true _ ?side1 ?side2 A24.out).mono ?_); (case side1 => exact Kd.C_below HR0_1.out (by repeat (first | (with_reducible first | exact HB.out | apply below_alloc | apply pw_below_drewN | apply below_drew1 | refine below_set ?_ GE278.out | refine below_set ?_ GE279.out | refine below_set ?_ GE290.out | refine below_set ?_ GE296.out) | exact HB.out))); (case side2 => exact HC0_1.out); rintro e w250 ⟨rfl, hb⟩; refine ⟨_, rfl, ?_⟩; have n0_ := Aside0.mk (Kd.R_below (by (with_reducible repeat (first | apply Kd.R_alloc | apply Kd.R_drewN | apply Kd.R_drew)); exact (Kd.R_mono (Kd.R_far (p := ⟨gb296, 1, none⟩) (Kd.R_far (p := ⟨gb296, 0, none⟩) (Kd.R_types HO288.out BK296.out (by decide)) (fun _ hk => hk.2) (.bool t291)) (fun _ hk => hk.2) (.slice Ao248 t292.length co248)) (fun _ h_ => h_.1))) hb); have n1_ := Aside0.mk (Kd.R_below (by (with_reducible repeat (first | apply Kd.R_alloc | apply Kd.R_drewN | apply Kd.R_drew)); exact (Kd.R_mono (Kd.R_far (p := ⟨gb296, 1, none⟩) (Kd.R_far (p := ⟨gb296, 0, none⟩) (Kd.R_types HO294.out BK296.out (by decide)) (fun _ hk => hk.2) (.bool t291)) (fun _ hk => hk.2) (.slice Ao248 t292.length co248)) (fun _ h_ => h_.1))) hb); have n2_ := Aside0.mk (blk_below (g := gb278) (o := .cells #[.bool a0_0, .slice A0_1 l0_1.length c0_1] 56 (0, 0)) (by (with_reducible repeat (first | refine blk_drewN ?_ _ | refine blk_drew ?_ | refine blk_alloc ?_ _)); refine blk_far ?_ NB278_296.out _; (with_reducible repeat (first | refine blk_drewN ?_ _ | refine blk_drew ?_ | refine blk_alloc ?_ _)); refine blk_far ?_ NB278_296.out _; (with_reducible repeat (first | refine blk_drewN ?_ _ | refine blk_drew ?_ | refine blk_alloc ?_ _)); exact BK278.out) hb); have n3_ := Aside0.mk (blk_below (g := gb279) (o := .cells #[.bool a1_0, .slice A1_1 l1_1.length c1_1] 56 (0, 0)) (by (with_reducible repeat (first | refine blk_drewN ?_ _ | refine blk_drew ?_ | refine blk_alloc ?_ _)); refine blk_far ?_ NB279_296.out _; (with_reducible repeat (first | refine blk_drewN ?_ _ | refine blk_drew ?_ | refine blk_alloc ?_ _)); refine blk_far ?_ NB279_296.out _; (with_reducible repeat (first | refine blk_drewN ?_ _ | refine blk_drew ?_ | refine blk_alloc ?_ _)); exact BK279.out) hb); have n4_ := Aside0.mk (blk_below (g := gb290) (o := .cells #[.bool t285, .slice Ao241 t286.length co241] 56 (0, 0)) (by (with_reducible repeat (first | refine blk_drewN ?_ _ | refine blk_drew ?_ | refine blk_alloc ?_ _)); refine blk_far ?_ NB290_296.out _; (with_reducible repeat (first | refine blk_drewN ?_ _ | refine blk_drew ?_ | refine blk_alloc ?_ _)); refine blk_far ?_ NB290_296.out _; (with_reducible repeat (first | refine blk_drewN ?_ _ | refine blk_drew ?_ | refine blk_alloc ?_ _)); exact BK290.out) hb); have n5_ := Aside0.mk (blk_below (g := gb296) (o := .cells #[.bool t291, .slice Ao248 t292.length co248] 56 (0, 0)) (by (with_reducible repeat (first | refine blk_drewN ?_ _ | refine blk_drew ?_ | refine blk_alloc ?_ _)); refine blk_put (cs := #[.bool t291, .slice none 0 0]) ?_ 1 _ rfl; (with_reducible repeat (first | refine blk_drewN ?_ _ | refine blk_drew ?_ | refine blk_alloc ?_ _)); refine blk_put (cs := #[.bool false, .slice none 0 0]) ?_ 0 _ rfl; (with_reducible repeat (first | refine blk_drewN ?_ _ | refine blk_drew ?_ | refine blk_alloc ?_ _)); exact BK296.out) hb); have n6_ := Aside0.mk (below_step (by repeat (first | (with_reducible first | exact HB.out | apply below_alloc | apply pw_below_drewN | apply below_drew1 | refine below_set ?_ GE278.out | refine below_set ?_ GE279.out | refine below_set ?_ GE290.out | refine below_set ?_ GE296.out) | exact HB.out)) hb); clear HO288; clear HO294; clear BK278; clear BK279; clear BK290; clear BK296; clear HB; have HO288 := n0_; have HO294 := n1_; have BK278 := n2_; have BK279 := n3_; have BK290 := n4_; have BK296 := n5_; have HB := n6_; clear n0_ n1_ n2_ n3_ n4_ n5_ n6_; (try clear hb); (try clear hb2); (try clear hk); (try clear hi)))
                      have n0_ := Aside0.mk (Kd.R_drew HO288.out)
                      have n1_ := Aside0.mk (Kd.R_drew HO294.out)
                      have n2_ := Aside0.mk (blk_drew BK278.out)
                      have n3_ := Aside0.mk (blk_drew BK279.out)
                      have n4_ := Aside0.mk (blk_drew BK290.out)
                      have n5_ := Aside0.mk (blk_drew BK296.out)
                      have n6_ := Aside0.mk (below_drew1 HB.out)
                      clear HO288
                      clear HO294
                      clear BK278
                      clear BK279
                      clear BK290
                      clear BK296
                      clear HB
                      have HO288 := n0_
                      have HO294 := n1_
                      have BK278 := n2_
                      have BK279 := n3_
                      have BK290 := n4_
                      have BK296 := n5_
                      have HB := n6_
                      clear n0_ n1_ n2_ n3_ n4_ n5_ n6_
                      refine start_ (n := 17) (S := fun w' => w'.cell? ⟨gb279, 0, none⟩ = some (.bool a1_0) ∧ w'.cell? ⟨gb279, 1, none⟩ = some (.slice A1_1 l1_1.length c1_1)) (ds := []) #[false, false, false, false, false, false, false, false, false, false, false, false, false, false, false, false, false] (by kernel_rfl) rfl rfl ⟨(blk_cell BK279.out 0).trans rfl, (blk_cell BK279.out 1).trans rfl⟩ (fun hHeld => ?_); refine with_tabW assartlaw04_NodeTells.tab9 assartlaw04_NodeTells.bits9 (fun HT_ HW_ => ?_)
                      generalize w250.drew = w251 at HO288 HO294 BK278 BK279 BK290 BK296 HB hHeld ⊢
                      refine pure_ (i := 0) (N := some 57) (v := ?_) (a' := ?_) #[true, false, false, false, false, false, false, false, false, false, false, false, false, false, false, false, false] rfl rfl (any_of HT_.out (by kernel_rfl)) (fun _ _ _ h => h) (Or.inl ⟨by rfl, ?_⟩) ?_ ?_
                      rotate_left
                      · intro w'
                        go_simp
                        with_reducible rfl
                      rotate_left
                      · simp only [Act.put, List.setIfInBounds_toArray, List.set_cons_zero, List.set_cons_succ, i64_w, i32_w]
                        rfl
                      refine pure_ (i := 1) (N := some 58) (v := ?_) (a' := ?_) #[true, true, false, false, false, false, false, false, false, false, false, false, false, false, false, false, false] rfl rfl (any_of HT_.out (by kernel_rfl)) (fun _ _ _ h => h) (Or.inl ⟨by rfl, ?_⟩) ?_ ?_
                      rotate_left
                      · intro w'
                        go_simp
                        with_reducible rfl
                      rotate_left
                      · simp only [Act.put, List.setIfInBounds_toArray, List.set_cons_zero, List.set_cons_succ, i64_w, i32_w]
                        rfl
                      refine pure_ (i := 2) (N := some 59) (v := ?_) (a' := ?_) #[true, true, true, false, false, false, false, false, false, false, false, false, false, false, false, false, false] rfl rfl (any_of HT_.out (by kernel_rfl)) (fun _ _ _ h => h) (Or.inl ⟨by rfl, ?_⟩) ?_ ?_
                      rotate_left
                      · intro w'
                        go_simp
                        with_reducible rfl
                      rotate_left
                      · simp only [Act.put, List.setIfInBounds_toArray, List.set_cons_zero, List.set_cons_succ, i64_w, i32_w]
                        rfl
                      refine take_ (i := 3) (N := some 60) (v := ?_) (a' := ?_) #[true, true, true, true, false, false, false, false, false, false, false, false, false, false, false, false, false] rfl rfl (take_ofW HT_.out HW_.out (by kernel_rfl)) (fun _ _ _ h => h) (Or.inl ⟨by rfl, ?_⟩) hHeld ?_ ?_
                      rotate_left
                      · rintro w' ⟨s0, s1⟩
                        go_simp
                        with_reducible rfl
                      rotate_left
                      · simp only [Act.put, List.setIfInBounds_toArray, List.set_cons_zero, List.set_cons_succ, i64_w, i32_w]
                        rfl
                      refine one_ (i := 4) (N := some 61) #[true, true, true, true, true, false, false, false, false, false, false, false, false, false, false, false, false] rfl rfl (one_of HT_.out (by kernel_rfl)) (by decide) (fun K hK => ?_)
                      refine goes_ Try.func31 (by kernel_rfl) rfl #[.agg #[.bool a1_0, .slice A1_1 l1_1.length c1_1]] (by rfl) rfl rfl (by (try simp only [List.map_toArray, List.map_cons, List.map_nil]); first | done | rfl | (simp only [List.length_drop, List.length_take]; rfl)) ?_
                      with_reducible refine (assartref04_Right.calls kj4 a1_0 _ _ l1_1 false _ ?side1 ?side2 A26.out).mono ?_
                      (case side1 => repeat (first | exact (Kd.C_below HR1_1.out HB.out) | (with_reducible refine Kd.C_alloc ?_ _) | (with_reducible refine Kd.C_drewN ?_ _) | (with_reducible refine Kd.C_drew ?_)))
                      (case side2 => exact HC1_1.out)
                      rintro e w252 ⟨rfl, hb⟩
                      refine ⟨_, rfl, ?_⟩
                      have n0_ := Aside0.mk (Kd.R_below (by (with_reducible repeat (first | apply Kd.R_alloc | apply Kd.R_drewN | apply Kd.R_drew)); exact HO288.out) hb)
                      have n1_ := Aside0.mk (Kd.R_below (by (with_reducible repeat (first | apply Kd.R_alloc | apply Kd.R_drewN | apply Kd.R_drew)); exact HO294.out) hb)
                      have n2_ := Aside0.mk (blk_below (g := gb278) (o := .cells #[.bool a0_0, .slice A0_1 l0_1.length c0_1] 56 (0, 0)) (by (with_reducible repeat (first | refine blk_drewN ?_ _ | refine blk_drew ?_ | refine blk_alloc ?_ _)); exact BK278.out) hb)
                      have n3_ := Aside0.mk (blk_below (g := gb279) (o := .cells #[.bool a1_0, .slice A1_1 l1_1.length c1_1] 56 (0, 0)) (by (with_reducible repeat (first | refine blk_drewN ?_ _ | refine blk_drew ?_ | refine blk_alloc ?_ _)); exact BK279.out) hb)
                      have n4_ := Aside0.mk (blk_below (g := gb290) (o := .cells #[.bool t285, .slice Ao241 t286.length co241] 56 (0, 0)) (by (with_reducible repeat (first | refine blk_drewN ?_ _ | refine blk_drew ?_ | refine blk_alloc ?_ _)); exact BK290.out) hb)
                      have n5_ := Aside0.mk (blk_below (g := gb296) (o := .cells #[.bool t291, .slice Ao248 t292.length co248] 56 (0, 0)) (by (with_reducible repeat (first | refine blk_drewN ?_ _ | refine blk_drew ?_ | refine blk_alloc ?_ _)); exact BK296.out) hb)
                      have n6_ := Aside0.mk (below_step (by repeat (first | (with_reducible first | exact HB.out | apply below_alloc | apply pw_below_drewN | apply below_drew1 | refine below_set ?_ GE278.out | refine below_set ?_ GE279.out | refine below_set ?_ GE290.out | refine below_set ?_ GE296.out) | exact HB.out)) hb)
                      clear HO288
                      clear HO294
                      clear BK278
                      clear BK279
                      clear BK290
                      clear BK296
                      clear HB
                      have HO288 := n0_
                      have HO294 := n1_
                      have BK278 := n2_
                      have BK279 := n3_
                      have BK290 := n4_
                      have BK296 := n5_
                      have HB := n6_
                      clear n0_ n1_ n2_ n3_ n4_ n5_ n6_
                      (try clear hb)
                      (try clear hb2)
                      (try clear hk)
                      (try clear hi)
                      refine hK.out _ _ ⟨(blk_cell BK279.out 0).trans rfl, (blk_cell BK279.out 1).trans rfl⟩ (fun hHeld => ?_)
                      clear hK K
                      refine norm_ (a' := ?_) ?_ ?_
                      rotate_left
                      · show Act.put _ (some 61) _ = _
                        simp only [Act.put, List.setIfInBounds_toArray, List.set_cons_zero, List.set_cons_succ, i64_w, i32_w]
                        rfl
                      refine pure_ (i := 5) (N := some 62) (v := ?_) (a' := ?_) #[true, true, true, true, true, true, false, false, false, false, false, false, false, false, false, false, false] rfl rfl (any_of HT_.out (by kernel_rfl)) (fun _ _ _ h => h) (Or.inl ⟨by rfl, ?_⟩) ?_ ?_
                      rotate_left
                      · intro w'
                        go_simp
                        with_reducible rfl
                      rotate_left
                      · simp only [Act.put, List.setIfInBounds_toArray, List.set_cons_zero, List.set_cons_succ, i64_w, i32_w]
                        rfl
                      refine pure_ (i := 6) (N := some 63) (v := ?_) (a' := ?_) #[true, true, true, true, true, true, true, false, false, false, false, false, false, false, false, false, false] rfl rfl (any_of HT_.out (by kernel_rfl)) (fun _ _ _ h => h) (Or.inl ⟨by rfl, ?_⟩) ?_ ?_
                      rotate_left
                      · intro w'
                        go_simp
                        with_reducible rfl
                      rotate_left
                      · simp only [Act.put, List.setIfInBounds_toArray, List.set_cons_zero, List.set_cons_succ, i64_w, i32_w]
                        rfl
                      refine pure_ (i := 7) (N := some 64) (v := ?_) (a' := ?_) #[true, true, true, true, true, true, true, true, false, false, false, false, false, false, false, false, false] rfl rfl (any_of HT_.out (by kernel_rfl)) (fun _ _ _ h => h) (Or.inl ⟨by rfl, ?_⟩) ?_ ?_
                      rotate_left
                      · intro w'
                        go_simp
                        with_reducible rfl
                      rotate_left
                      · simp only [Act.put, List.setIfInBounds_toArray, List.set_cons_zero, List.set_cons_succ, i64_w, i32_w]
                        rfl
                      refine pure_ (i := 8) (N := some 65) (v := undef) (a' := ?_) #[true, true, true, true, true, true, true, true, true, false, false, false, false, false, false, false, false] rfl rfl (any_of HT_.out (by kernel_rfl)) (fun _ _ _ h => h) (Or.inr ⟨by rfl, rfl⟩) ?_ ?_
                      rotate_left
                      · simp only [Act.put, List.setIfInBounds_toArray, List.set_cons_zero, List.set_cons_succ, i64_w, i32_w]
                        rfl
                      refine pure_ (i := 9) (N := some 66) (v := undef) (a' := ?_) #[true, true, true, true, true, true, true, true, true, true, false, false, false, false, false, false, false] rfl rfl (any_of HT_.out (by kernel_rfl)) (fun _ _ _ h => h) (Or.inr ⟨by rfl, rfl⟩) ?_ ?_
                      rotate_left
                      · simp only [Act.put, List.setIfInBounds_toArray, List.set_cons_zero, List.set_cons_succ, i64_w, i32_w]
                        rfl
                      refine pure_ (i := 10) (N := some 67) (v := undef) (a' := ?_) #[true, true, true, true, true, true, true, true, true, true, true, false, false, false, false, false, false] rfl rfl (any_of HT_.out (by kernel_rfl)) (fun _ _ _ h => h) (Or.inr ⟨by rfl, rfl⟩) ?_ ?_
                      rotate_left
                      · simp only [Act.put, List.setIfInBounds_toArray, List.set_cons_zero, List.set_cons_succ, i64_w, i32_w]
                        rfl
                      refine pure_ (i := 11) (N := some 68) (v := undef) (a' := ?_) #[true, true, true, true, true, true, true, true, true, true, true, true, false, false, false, false, false] rfl rfl (any_of HT_.out (by kernel_rfl)) (fun _ _ _ h => h) (Or.inr ⟨by rfl, rfl⟩) ?_ ?_
                      rotate_left
                      · simp only [Act.put, List.setIfInBounds_toArray, List.set_cons_zero, List.set_cons_succ, i64_w, i32_w]
                        rfl
                      refine pure_ (i := 12) (N := some 69) (v := undef) (a' := ?_) #[true, true, true, true, true, true, true, true, true, true, true, true, true, false, false, false, false] rfl rfl (any_of HT_.out (by kernel_rfl)) (fun _ _ _ h => h) (Or.inr ⟨by rfl, rfl⟩) ?_ ?_
                      rotate_left
                      · simp only [Act.put, List.setIfInBounds_toArray, List.set_cons_zero, List.set_cons_succ, i64_w, i32_w]
                        rfl
                      refine pure_ (i := 13) (N := some 70) (v := undef) (a' := ?_) #[true, true, true, true, true, true, true, true, true, true, true, true, true, true, false, false, false] rfl rfl (any_of HT_.out (by kernel_rfl)) (fun _ _ _ h => h) (Or.inr ⟨by rfl, rfl⟩) ?_ ?_
                      rotate_left
                      · simp only [Act.put, List.setIfInBounds_toArray, List.set_cons_zero, List.set_cons_succ, i64_w, i32_w]
                        rfl
                      refine pure_ (i := 14) (N := some 71) (v := undef) (a' := ?_) #[true, true, true, true, true, true, true, true, true, true, true, true, true, true, true, false, false] rfl rfl (any_of HT_.out (by kernel_rfl)) (fun _ _ _ h => h) (Or.inr ⟨by rfl, rfl⟩) ?_ ?_
                      rotate_left
                      · simp only [Act.put, List.setIfInBounds_toArray, List.set_cons_zero, List.set_cons_succ, i64_w, i32_w]
                        rfl
                      refine pure_ (i := 15) (N := some 72) (v := ?_) (a' := ?_) #[true, true, true, true, true, true, true, true, true, true, true, true, true, true, true, true, false] rfl rfl (any_of HT_.out (by kernel_rfl)) (fun _ _ _ h => h) (Or.inl ⟨by rfl, ?_⟩) ?_ ?_
                      rotate_left
                      · intro w'
                        go_simp
                        with_reducible rfl
                      rotate_left
                      · simp only [Act.put, List.setIfInBounds_toArray, List.set_cons_zero, List.set_cons_succ, i64_w, i32_w]
                        rfl
                      refine pure_ (i := 16) (N := some 17) (v := ?_) (a' := ?_) #[true, true, true, true, true, true, true, true, true, true, true, true, true, true, true, true, true] rfl rfl (any_of HT_.out (by kernel_rfl)) (fun _ _ _ h => h) (Or.inl ⟨by rfl, ?_⟩) ?_ ?_
                      rotate_left
                      · intro w'
                        go_simp
                        with_reducible rfl
                      rotate_left
                      · simp only [Act.put, List.setIfInBounds_toArray, List.set_cons_zero, List.set_cons_succ, i64_w, i32_w]
                        rfl
                      refine done_ (done_of HT_.out (by kernel_rfl)) ?_
                      have hcz253_0 : w252.cell? ⟨gb278, 0, none⟩ = some (.bool a0_0) := (blk_cell BK278.out 0).trans rfl
                      have hcz253_1 : w252.cell? ⟨gb278, 1, none⟩ = some (.slice A0_1 l0_1.length c0_1) := (blk_cell BK278.out 1).trans rfl
                      have hfz253_0 := blk_frozen BK278.out 0
                      have hfz253_1 := blk_frozen BK278.out 1
                      try go_wp2_with (first | (go_at_call 34; (with_reducible refine (node_Right.calls kj4 a0_0 _ _ l0_1 t303 _ ?side1 ?side2 A225.out).mono ?_); (case side1 => repeat (first | exact (Kd.C_below HR0_1.out HB.out) | (with_reducible refine Kd.C_alloc ?_ _) | (with_reducible refine Kd.C_drewN ?_ _) | (with_reducible refine Kd.C_drew ?_))); (case side2 => exact HC0_1.out); rintro e w254 ⟨rfl, hb⟩; have n0_ := Aside0.mk (Kd.R_below (by (with_reducible repeat (first | apply Kd.R_alloc | apply Kd.R_drewN | apply Kd.R_drew)); exact HO288.out) hb); have n1_ := Aside0.mk (Kd.R_below (by (with_reducible repeat (first | apply Kd.R_alloc | apply Kd.R_drewN | apply Kd.R_drew)); exact HO294.out) hb); have n2_ := Aside0.mk (blk_below (g := gb278) (o := .cells #[.bool a0_0, .slice A0_1 l0_1.length c0_1] 56 (0, 0)) (by (with_reducible repeat (first | refine blk_drewN ?_ _ | refine blk_drew ?_ | refine blk_alloc ?_ _)); exact BK278.out) hb); have n3_ := Aside0.mk (blk_below (g := gb279) (o := .cells #[.bool a1_0, .slice A1_1 l1_1.length c1_1] 56 (0, 0)) (by (with_reducible repeat (first | refine blk_drewN ?_ _ | refine blk_drew ?_ | refine blk_alloc ?_ _)); exact BK279.out) hb); have n4_ := Aside0.mk (blk_below (g := gb290) (o := .cells #[.bool t285, .slice Ao241 t286.length co241] 56 (0, 0)) (by (with_reducible repeat (first | refine blk_drewN ?_ _ | refine blk_drew ?_ | refine blk_alloc ?_ _)); exact BK290.out) hb); have n5_ := Aside0.mk (blk_below (g := gb296) (o := .cells #[.bool t291, .slice Ao248 t292.length co248] 56 (0, 0)) (by (with_reducible repeat (first | refine blk_drewN ?_ _ | refine blk_drew ?_ | refine blk_alloc ?_ _)); exact BK296.out) hb); have n6_ := Aside0.mk (below_step (by repeat (first | (with_reducible first | exact HB.out | apply below_alloc | apply pw_below_drewN | apply below_drew1 | refine below_set ?_ GE278.out | refine below_set ?_ GE279.out | refine below_set ?_ GE290.out | refine below_set ?_ GE296.out) | exact HB.out)) hb); clear HO288; clear HO294; clear BK278; clear BK279; clear BK290; clear BK296; clear HB; have HO288 := n0_; have HO294 := n1_; have BK278 := n2_; have BK279 := n3_; have BK290 := n4_; have BK296 := n5_; have HB := n6_; clear n0_ n1_ n2_ n3_ n4_ n5_ n6_; (try clear hb); (try clear hb2); (try clear hk); (try clear hi); have hcz255_0 : w254.cell? ⟨gb290, 0, none⟩ = some (.bool t285) := (blk_cell BK290.out 0).trans rfl; have hcz255_1 : w254.cell? ⟨gb290, 1, none⟩ = some (.slice Ao241 t286.length co241) := (blk_cell BK290.out 1).trans rfl; have hfz255_0 := blk_frozen BK290.out 0; have hfz255_1 := blk_frozen BK290.out 1; have hcz256_0 : w254.cell? ⟨gb296, 0, none⟩ = some (.bool t291) := (blk_cell BK296.out 0).trans rfl; have hcz256_1 : w254.cell? ⟨gb296, 1, none⟩ = some (.slice Ao248 t292.length co248) := (blk_cell BK296.out 1).trans rfl; have hfz256_0 := blk_frozen BK296.out 0; have hfz256_1 := blk_frozen BK296.out 1) | (go_at_call 33; (with_reducible refine (assartref04_Same.calls kj4 t285 _ _ t286 t291 _ _ t292 true _ ?side1 ?side2 ?side3 ?side4 A229.out).mono ?_); (case side1 => repeat (first | exact (Kd.R_reads' HO288.out).2.2 | (with_reducible refine Kd.C_alloc ?_ _) | (with_reducible refine Kd.C_drewN ?_ _) | (with_reducible refine Kd.C_drew ?_))); (case side2 => exact (Kd.R_reads' HO288.out).2.1); (case side3 => repeat (first | exact (Kd.R_reads' HO294.out).2.2 | (with_reducible refine Kd.C_alloc ?_ _) | (with_reducible refine Kd.C_drewN ?_ _) | (with_reducible refine Kd.C_drew ?_))); (case side4 => exact (Kd.R_reads' HO294.out).2.1); rintro e w257 ⟨rfl, hb⟩; have n0_ := Aside0.mk (Kd.R_below (by (with_reducible repeat (first | apply Kd.R_alloc | apply Kd.R_drewN | apply Kd.R_drew)); exact HO288.out) hb); have n1_ := Aside0.mk (Kd.R_below (by (with_reducible repeat (first | apply Kd.R_alloc | apply Kd.R_drewN | apply Kd.R_drew)); exact HO294.out) hb); have n2_ := Aside0.mk (blk_below (g := gb278) (o := .cells #[.bool a0_0, .slice A0_1 l0_1.length c0_1] 56 (0, 0)) (by (with_reducible repeat (first | refine blk_drewN ?_ _ | refine blk_drew ?_ | refine blk_alloc ?_ _)); exact BK278.out) hb); have n3_ := Aside0.mk (blk_below (g := gb279) (o := .cells #[.bool a1_0, .slice A1_1 l1_1.length c1_1] 56 (0, 0)) (by (with_reducible repeat (first | refine blk_drewN ?_ _ | refine blk_drew ?_ | refine blk_alloc ?_ _)); exact BK279.out) hb); have n4_ := Aside0.mk (blk_below (g := gb290) (o := .cells #[.bool t285, .slice Ao241 t286.length co241] 56 (0, 0)) (by (with_reducible repeat (first | refine blk_drewN ?_ _ | refine blk_drew ?_ | refine blk_alloc ?_ _)); exact BK290.out) hb); have n5_ := Aside0.mk (blk_below (g := gb296) (o := .cells #[.bool t291, .slice Ao248 t292.length co248] 56 (0, 0)) (by (with_reducible repeat (first | refine blk_drewN ?_ _ | refine blk_drew ?_ | refine blk_alloc ?_ _)); exact BK296.out) hb); have n6_ := Aside0.mk (below_step (by repeat (first | (with_reducible first | exact HB.out | apply below_alloc | apply pw_below_drewN | apply below_drew1 | refine below_set ?_ GE278.out | refine below_set ?_ GE279.out | refine below_set ?_ GE290.out | refine below_set ?_ GE296.out) | exact HB.out)) hb); clear HO288; clear HO294; clear BK278; clear BK279; clear BK290; clear BK296; clear HB; have HO288 := n0_; have HO294 := n1_; have BK278 := n2_; have BK279 := n3_; have BK290 := n4_; have BK296 := n5_; have HB := n6_; clear n0_ n1_ n2_ n3_ n4_ n5_ n6_; (try clear hb); (try clear hb2); (try clear hk); (try clear hi)))
                      go_ret
                      exact ⟨by first | rfl | (simp [errW_none, errW_some] <;> rfl) | (simp [*, errW_none, errW_some] <;> rfl), by repeat (first | (with_reducible first | exact HB.out | apply below_alloc | apply pw_below_drewN | apply below_drew1 | refine below_set ?_ GE278.out | refine below_set ?_ GE279.out | refine below_set ?_ GE290.out | refine below_set ?_ GE296.out) | exact HB.out)⟩
                    · replace c230 := Bool.eq_false_iff.mpr c230
                      subst c230
                      have H1 : (some false) = some r := by rw [if_neg (show ¬ (false = true) by decide)] at H; exact H
                      clear H
                      have H := H1
                      clear H1
                      obtain rfl := Option.some.inj H
                      cases hr
                  · rw [if_neg c228] at H
                    have c228b0 : (t282 == t284) = false := beq_eq_false_iff_ne.mpr c228
                    have c228b1 : (t282 != t284) = true := bne_iff_ne.mpr c228
                    obtain rfl := Option.some.inj H
                    cases hr
                · rw [if_neg c227] at H
                  have c227b0 : (t281.toList == t283.toList) = false := beq_eq_false_iff_ne.mpr c227
                  have c227b1 : (t281.toList != t283.toList) = true := bne_iff_ne.mpr c227
                  obtain rfl := Option.some.inj H
                  cases hr
              · rw [if_neg c226] at H
                have c226b0 : (t303 == true) = false := by simpa using c226
                (try (have c226b1 : decide (t303 = true) = false := by simpa using c226))
                (try (have c226b2 : (t303 == true) = false := by simpa using c226))
                (try (have c226b3 : ¬ (t303 = true) := by simpa using c226))
                clear c226
                obtain rfl := Option.some.inj H
                cases hr
            · replace c224 := Bool.eq_false_iff.mpr c224
              subst c224
              have H1 : (some false) = some r := by rw [if_neg (show ¬ (false = true) by decide)] at H; exact H
              clear H
              have H := H1
              clear H1
              obtain rfl := Option.some.inj H
              cases hr
        · replace c25 := Bool.eq_false_iff.mpr c25
          subst c25
          have H1 : (if t280 = true then ((node_Right.f kj4 a0_0 l0_1).bind fun t305 => (if (t305 == false) = true then (if t281.toList = t283.toList then (if t282 = t284 then ((assartref04_Same.f kj4 t285 t286 t291 t292).bind fun t306 => (if t306 = true then (some (t289 == t295)) else (some false))) else (some false)) else (some false)) else (some false))) else (some false)) = some r := by rw [if_neg (show ¬ (false = true) by decide)] at H; exact H
          clear H
          have H := H1
          clear H1
          by_cases c379 : t280 = true
          · subst c379
            have H1 : ((node_Right.f kj4 a0_0 l0_1).bind fun t305 => (if (t305 == false) = true then (if t281.toList = t283.toList then (if t282 = t284 then ((assartref04_Same.f kj4 t285 t286 t291 t292).bind fun t306 => (if t306 = true then (some (t289 == t295)) else (some false))) else (some false)) else (some false)) else (some false))) = some r := by rw [if_pos rfl] at H; exact H
            clear H
            have H := H1
            clear H1
            replace H := Option.bind_eq_some_iff.mp H
            obtain ⟨t305, A3800, H⟩ := H
            replace H : (if (t305 == false) = true then (if t281.toList = t283.toList then (if t282 = t284 then ((assartref04_Same.f kj4 t285 t286 t291 t292).bind fun t306 => (if t306 = true then (some (t289 == t295)) else (some false))) else (some false)) else (some false)) else (some false)) = some r := H
            have A380 := Aside0.mk A3800
            clear A3800
            by_cases c381 : (t305 == false) = true
            · rw [if_pos c381] at H
              have c381b0 : (t305 == false) = true := c381
              (try (have c381b1 : decide (t305 = false) = true := by simpa using c381))
              (try (have c381b2 : (t305 == false) = true := by simpa using c381))
              clear c381
              by_cases c382 : t281.toList = t283.toList
              · rw [if_pos c382] at H
                have c382b0 : (t281.toList == t283.toList) = true := beq_iff_eq.mpr c382
                have c382b1 : (t281.toList != t283.toList) = false := bne_eq_false_iff_eq.mpr c382
                clear c382
                by_cases c383 : t282 = t284
                · rw [if_pos c383] at H
                  have c383b0 : (t282 == t284) = true := beq_iff_eq.mpr c383
                  have c383b1 : (t282 != t284) = false := bne_eq_false_iff_eq.mpr c383
                  clear c383
                  replace H := Option.bind_eq_some_iff.mp H
                  obtain ⟨t306, A3840, H⟩ := H
                  replace H : (if t306 = true then (some (t289 == t295)) else (some false)) = some r := H
                  have A384 := Aside0.mk A3840
                  clear A3840
                  by_cases c385 : t306 = true
                  · subst c385
                    have H1 : (some (t289 == t295)) = some r := by rw [if_pos rfl] at H; exact H
                    clear H
                    have H := H1
                    clear H1
                    obtain rfl := Option.some.inj H
                    have hnb386 := NB278_279.out
                    have hnc386 := NB279_278.out
                    have hcz387_0 : wc.cell? ⟨gb278, 0, none⟩ = some (.bool a0_0) := (blk_cell BK278.out 0).trans rfl
                    have hcz387_1 : wc.cell? ⟨gb278, 1, none⟩ = some (.slice A0_1 l0_1.length c0_1) := (blk_cell BK278.out 1).trans rfl
                    have hfz387_0 := blk_frozen BK278.out 0
                    have hfz387_1 := blk_frozen BK278.out 1
                    try go_wp2_with (first | ((with_reducible refine gate_callee (f := 27) rfl ?_); refine goesL_ (some 37) rfl rfl Try.func27 (by kernel_rfl) rfl #[.agg #[.bool a0_0, .slice A0_1 l0_1.length c0_1]] rfl (by (try simp only [List.map_toArray, List.map_cons, List.map_nil]); first | done | rfl | (simp only [List.length_drop, List.length_take]; rfl)) ?_; (with_reducible refine (node_Print.calls kj4 a0_0 _ _ l0_1 t281 t282 _ ?side1 ?side2 A20.out).mono ?_); (case side1 => repeat (first | exact (Kd.C_below HR0_1.out HB.out) | (with_reducible refine Kd.C_alloc ?_ _) | (with_reducible refine Kd.C_drewN ?_ _) | (with_reducible refine Kd.C_drew ?_))); (case side2 => exact HC0_1.out); rintro e w388 ⟨rfl, hb⟩; refine ⟨_, rfl, ?_⟩; have n0_ := Aside0.mk (blk_below (g := gb278) (o := .cells #[.bool a0_0, .slice A0_1 l0_1.length c0_1] 56 (0, 0)) (by (with_reducible repeat (first | refine blk_drewN ?_ _ | refine blk_drew ?_ | refine blk_alloc ?_ _)); exact BK278.out) hb); have n1_ := Aside0.mk (blk_below (g := gb279) (o := .cells #[.bool a1_0, .slice A1_1 l1_1.length c1_1] 56 (0, 0)) (by (with_reducible repeat (first | refine blk_drewN ?_ _ | refine blk_drew ?_ | refine blk_alloc ?_ _)); exact BK279.out) hb); have n2_ := Aside0.mk (below_step (by repeat (first | (with_reducible first | exact HB.out | apply below_alloc | apply pw_below_drewN | apply below_drew1 | refine below_set ?_ GE278.out | refine below_set ?_ GE279.out) | exact HB.out)) hb); clear BK278; clear BK279; clear HB; have BK278 := n0_; have BK279 := n1_; have HB := n2_; clear n0_ n1_ n2_; (try clear hb); (try clear hb2); (try clear hk); (try clear hi); have hcz389_0 : w388.cell? ⟨gb278, 0, none⟩ = some (.bool a0_0) := (blk_cell BK278.out 0).trans rfl; have hcz389_1 : w388.cell? ⟨gb278, 1, none⟩ = some (.slice A0_1 l0_1.length c0_1) := (blk_cell BK278.out 1).trans rfl; have hfz389_0 := blk_frozen BK278.out 0; have hfz389_1 := blk_frozen BK278.out 1) | ((with_reducible refine gate_callee (f := 28) rfl ?_); refine goesL_ (some 42) rfl rfl Try.func28 (by kernel_rfl) rfl #[.agg #[.bool a0_0, .slice A0_1 l0_1.length c0_1]] rfl (by (try simp only [List.map_toArray, List.map_cons, List.map_nil]); first | done | rfl | (simp only [List.length_drop, List.length_take]; rfl)) ?_; (with_reducible refine (assartref04_Print.calls kj4 a0_0 _ _ l0_1 t283 t284 _ ?side1 ?side2 A21.out).mono ?_); (case side1 => repeat (first | exact (Kd.C_below HR0_1.out HB.out) | (with_reducible refine Kd.C_alloc ?_ _) | (with_reducible refine Kd.C_drewN ?_ _) | (with_reducible refine Kd.C_drew ?_))); (case side2 => exact HC0_1.out); rintro e w390 ⟨rfl, hb⟩; refine ⟨_, rfl, ?_⟩; have n0_ := Aside0.mk (blk_below (g := gb278) (o := .cells #[.bool a0_0, .slice A0_1 l0_1.length c0_1] 56 (0, 0)) (by (with_reducible repeat (first | refine blk_drewN ?_ _ | refine blk_drew ?_ | refine blk_alloc ?_ _)); exact BK278.out) hb); have n1_ := Aside0.mk (blk_below (g := gb279) (o := .cells #[.bool a1_0, .slice A1_1 l1_1.length c1_1] 56 (0, 0)) (by (with_reducible repeat (first | refine blk_drewN ?_ _ | refine blk_drew ?_ | refine blk_alloc ?_ _)); exact BK279.out) hb); have n2_ := Aside0.mk (below_step (by repeat (first | (with_reducible first | exact HB.out | apply below_alloc | apply pw_below_drewN | apply below_drew1 | refine below_set ?_ GE278.out | refine below_set ?_ GE279.out) | exact HB.out)) hb); clear BK278; clear BK279; clear HB; have BK278 := n0_; have BK279 := n1_; have HB := n2_; clear n0_ n1_ n2_; (try clear hb); (try clear hb2); (try clear hk); (try clear hi)) | ((with_reducible refine gate_callee (f := 29) rfl ?_); refine goesL_ (some 47) rfl rfl Try.func29 (by kernel_rfl) rfl #[.string a2] rfl (by (try simp only [List.map_toArray, List.map_cons, List.map_nil]); first | done | rfl | (simp only [List.length_drop, List.length_take]; rfl)) ?_; (with_reducible refine (node_Parse.calls kj4 a2 t285 t286 t289 _ A22.out).mono ?_); rintro e w391 ⟨v287, rfl, ho0, hb⟩; refine ⟨_, rfl, ?_⟩; have n0_ := Aside0.mk (Kd.R_lower ho0 (below_size (by repeat (first | (with_reducible first | exact HB.out | apply below_alloc | apply pw_below_drewN | apply below_drew1 | refine below_set ?_ GE278.out | refine below_set ?_ GE279.out) | exact HB.out)))); have n1_ := Aside0.mk (blk_below (g := gb278) (o := .cells #[.bool a0_0, .slice A0_1 l0_1.length c0_1] 56 (0, 0)) (by (with_reducible repeat (first | refine blk_drewN ?_ _ | refine blk_drew ?_ | refine blk_alloc ?_ _)); exact BK278.out) hb); have n2_ := Aside0.mk (blk_below (g := gb279) (o := .cells #[.bool a1_0, .slice A1_1 l1_1.length c1_1] 56 (0, 0)) (by (with_reducible repeat (first | refine blk_drewN ?_ _ | refine blk_drew ?_ | refine blk_alloc ?_ _)); exact BK279.out) hb); have n3_ := Aside0.mk (below_step (by repeat (first | (with_reducible first | exact HB.out | apply below_alloc | apply pw_below_drewN | apply below_drew1 | refine below_set ?_ GE278.out | refine below_set ?_ GE279.out) | exact HB.out)) hb); clear BK278; clear BK279; clear HB; have HO288 := n0_; have BK278 := n1_; have BK279 := n2_; have HB := n3_; clear n0_ n1_ n2_ n3_; (try clear hb); (try clear hb2); (try clear hk); (try clear hi); (try clear ho0)) | ((with_reducible refine gate_dst (N := 12) rfl ?_); (try (refine gate_guard (by rfl) ?_; dsimp only)); refine box_event ?hg (N := 12) ?hd (cs := #[.bool false, .slice none 0 0]) (t := 56) ?hr ?_; (case hd => rfl); (case hg => rfl); (case hr => first | (go_simp; done) | (go_simp; rfl)); intro gb290 hg w392 hbox hb; have n0_ := Aside0.mk (Kd.R_below (by (with_reducible repeat (first | apply Kd.R_alloc | apply Kd.R_drewN | apply Kd.R_drew)); exact HO288.out) hb); have n1_ := Aside0.mk (blk_below (g := gb278) (o := .cells #[.bool a0_0, .slice A0_1 l0_1.length c0_1] 56 (0, 0)) (by (with_reducible repeat (first | refine blk_drewN ?_ _ | refine blk_drew ?_ | refine blk_alloc ?_ _)); exact BK278.out) hb); have n2_ := Aside0.mk (blk_below (g := gb279) (o := .cells #[.bool a1_0, .slice A1_1 l1_1.length c1_1] 56 (0, 0)) (by (with_reducible repeat (first | refine blk_drewN ?_ _ | refine blk_drew ?_ | refine blk_alloc ?_ _)); exact BK279.out) hb); have n3_ := Aside0.mk (below_step (by repeat (first | (with_reducible first | exact HB.out | apply below_alloc | apply pw_below_drewN | apply below_drew1 | refine below_set ?_ GE278.out | refine below_set ?_ GE279.out) | exact HB.out)) hb); have n4_ := Aside0.mk (hbox); have n5_ := Aside0.mk ((by rw [hg]; exact (below_size (by repeat (first | (with_reducible first | exact HB.out | apply below_alloc | apply pw_below_drewN | apply below_drew1 | refine below_set ?_ GE278.out | refine below_set ?_ GE279.out) | exact HB.out))) : w.heap.size ≤ gb290)); have n6_ := Aside0.mk ((by rw [hg]; exact (below_size (by repeat (first | (with_reducible first | exact HB.out | apply below_alloc | apply pw_below_drewN | apply below_drew1 | refine below_set ?_ GE278.out | refine below_set ?_ GE279.out) | exact HB.out))) : w.heap.size ≤ gb290)); have n7_ := Aside0.mk ((by rw [hg]; exact Nat.ne_of_lt (blk_lt (g := gb278) (o := .cells #[.bool a0_0, .slice A0_1 l0_1.length c0_1] 56 (0, 0)) (by (with_reducible repeat (first | refine blk_drewN ?_ _ | refine blk_drew ?_ | refine blk_alloc ?_ _)); exact BK278.out)) : gb278 ≠ gb290)); have n8_ := Aside0.mk ((by rw [hg]; exact Nat.ne_of_gt (blk_lt (g := gb278) (o := .cells #[.bool a0_0, .slice A0_1 l0_1.length c0_1] 56 (0, 0)) (by (with_reducible repeat (first | refine blk_drewN ?_ _ | refine blk_drew ?_ | refine blk_alloc ?_ _)); exact BK278.out)) : gb290 ≠ gb278)); have n9_ := Aside0.mk ((by rw [hg]; exact Nat.ne_of_lt (blk_lt (g := gb279) (o := .cells #[.bool a1_0, .slice A1_1 l1_1.length c1_1] 56 (0, 0)) (by (with_reducible repeat (first | refine blk_drewN ?_ _ | refine blk_drew ?_ | refine blk_alloc ?_ _)); exact BK279.out)) : gb279 ≠ gb290)); have n10_ := Aside0.mk ((by rw [hg]; exact Nat.ne_of_gt (blk_lt (g := gb279) (o := .cells #[.bool a1_0, .slice A1_1 l1_1.length c1_1] 56 (0, 0)) (by (with_reducible repeat (first | refine blk_drewN ?_ _ | refine blk_drew ?_ | refine blk_alloc ?_ _)); exact BK279.out)) : gb290 ≠ gb279)); clear HO288; clear BK278; clear BK279; clear HB; have HO288 := n0_; have BK278 := n1_; have BK279 := n2_; have HB := n3_; have BK290 := n4_; have GW290 := n5_; have GE290 := n6_; have NB278_290 := n7_; have NB290_278 := n8_; have NB279_290 := n9_; have NB290_279 := n10_; clear n0_ n1_ n2_ n3_ n4_ n5_ n6_ n7_ n8_ n9_ n10_; clear hb hbox hg; have hnb393 := NB290_278.out; have hnc393 := NB278_290.out; have hnb394 := NB290_279.out; have hnc394 := NB279_290.out; have hcz395_0 : w392.cell? ⟨gb290, 0, none⟩ = some (.bool false) := (blk_cell BK290.out 0).trans rfl; have hcz395_1 : w392.cell? ⟨gb290, 1, none⟩ = some (.slice none 0 0) := (blk_cell BK290.out 1).trans rfl; have hfz395_0 := blk_frozen BK290.out 0; have hfz395_1 := blk_frozen BK290.out 1; obtain ⟨Ao396, co396, eo396⟩ := Kd.R_slice HO288.out; subst eo396) | ((with_reducible refine gate_callee (f := 30) rfl ?_); refine goesL_ (some 52) rfl rfl Try.func30 (by kernel_rfl) rfl #[.string a2] rfl (by (try simp only [List.map_toArray, List.map_cons, List.map_nil]); first | done | rfl | (simp only [List.length_drop, List.length_take]; rfl)) ?_; (with_reducible refine (assartref04_Parse.calls kj4 a2 t291 t292 t295 _ A23.out).mono ?_); rintro e w397 ⟨v293, rfl, ho0, hb⟩; refine ⟨_, rfl, ?_⟩; have n0_ := Aside0.mk (Kd.R_elder' (by (with_reducible repeat (first | apply Kd.R_alloc | apply Kd.R_drewN | apply Kd.R_drew)); exact (Kd.R_mono (Kd.R_far (p := ⟨gb290, 1, none⟩) (Kd.R_far (p := ⟨gb290, 0, none⟩) (Kd.R_types HO288.out BK290.out (by decide)) (fun _ hk => hk.2) (.bool t285)) (fun _ hk => hk.2) (.slice Ao396 t286.length co396)) (fun _ h_ => h_.1))) (Kd.R_base ho0) hb); have n1_ := Aside0.mk (Kd.R_lower (Kd.R_new' ho0 (Kd.R_lt (by (with_reducible repeat (first | apply Kd.R_alloc | apply Kd.R_drewN | apply Kd.R_drew)); exact (Kd.R_mono (Kd.R_far (p := ⟨gb290, 1, none⟩) (Kd.R_far (p := ⟨gb290, 0, none⟩) (Kd.R_types HO288.out BK290.out (by decide)) (fun _ hk => hk.2) (.bool t285)) (fun _ hk => hk.2) (.slice Ao396 t286.length co396)) (fun _ h_ => h_.1))))) (below_size (by repeat (first | (with_reducible first | exact HB.out | apply below_alloc | apply pw_below_drewN | apply below_drew1 | refine below_set ?_ GE278.out | refine below_set ?_ GE279.out | refine below_set ?_ GE290.out) | exact HB.out)))); have n2_ := Aside0.mk (blk_below (g := gb278) (o := .cells #[.bool a0_0, .slice A0_1 l0_1.length c0_1] 56 (0, 0)) (by (with_reducible repeat (first | refine blk_drewN ?_ _ | refine blk_drew ?_ | refine blk_alloc ?_ _)); refine blk_far ?_ NB278_290.out _; (with_reducible repeat (first | refine blk_drewN ?_ _ | refine blk_drew ?_ | refine blk_alloc ?_ _)); refine blk_far ?_ NB278_290.out _; (with_reducible repeat (first | refine blk_drewN ?_ _ | refine blk_drew ?_ | refine blk_alloc ?_ _)); exact BK278.out) hb); have n3_ := Aside0.mk (blk_below (g := gb279) (o := .cells #[.bool a1_0, .slice A1_1 l1_1.length c1_1] 56 (0, 0)) (by (with_reducible repeat (first | refine blk_drewN ?_ _ | refine blk_drew ?_ | refine blk_alloc ?_ _)); refine blk_far ?_ NB279_290.out _; (with_reducible repeat (first | refine blk_drewN ?_ _ | refine blk_drew ?_ | refine blk_alloc ?_ _)); refine blk_far ?_ NB279_290.out _; (with_reducible repeat (first | refine blk_drewN ?_ _ | refine blk_drew ?_ | refine blk_alloc ?_ _)); exact BK279.out) hb); have n4_ := Aside0.mk (blk_below (g := gb290) (o := .cells #[.bool t285, .slice Ao396 t286.length co396] 56 (0, 0)) (by (with_reducible repeat (first | refine blk_drewN ?_ _ | refine blk_drew ?_ | refine blk_alloc ?_ _)); refine blk_put (cs := #[.bool t285, .slice none 0 0]) ?_ 1 _ rfl; (with_reducible repeat (first | refine blk_drewN ?_ _ | refine blk_drew ?_ | refine blk_alloc ?_ _)); refine blk_put (cs := #[.bool false, .slice none 0 0]) ?_ 0 _ rfl; (with_reducible repeat (first | refine blk_drewN ?_ _ | refine blk_drew ?_ | refine blk_alloc ?_ _)); exact BK290.out) hb); have n5_ := Aside0.mk (below_step (by repeat (first | (with_reducible first | exact HB.out | apply below_alloc | apply pw_below_drewN | apply below_drew1 | refine below_set ?_ GE278.out | refine below_set ?_ GE279.out | refine below_set ?_ GE290.out) | exact HB.out)) hb); clear HO288; clear BK278; clear BK279; clear BK290; clear HB; have HO288 := n0_; have HO294 := n1_; have BK278 := n2_; have BK279 := n3_; have BK290 := n4_; have HB := n5_; clear n0_ n1_ n2_ n3_ n4_ n5_; (try clear hb); (try clear hb2); (try clear hk); (try clear hi); (try clear ho0)) | ((with_reducible refine gate_dst (N := 14) rfl ?_); (try (refine gate_guard (by rfl) ?_; dsimp only)); refine box_event ?hg (N := 14) ?hd (cs := #[.bool false, .slice none 0 0]) (t := 56) ?hr ?_; (case hd => rfl); (case hg => rfl); (case hr => first | (go_simp; done) | (go_simp; rfl)); intro gb296 hg w398 hbox hb; have n0_ := Aside0.mk (Kd.R_below (by (with_reducible repeat (first | apply Kd.R_alloc | apply Kd.R_drewN | apply Kd.R_drew)); exact HO288.out) hb); have n1_ := Aside0.mk (Kd.R_below (by (with_reducible repeat (first | apply Kd.R_alloc | apply Kd.R_drewN | apply Kd.R_drew)); exact HO294.out) hb); have n2_ := Aside0.mk (blk_below (g := gb278) (o := .cells #[.bool a0_0, .slice A0_1 l0_1.length c0_1] 56 (0, 0)) (by (with_reducible repeat (first | refine blk_drewN ?_ _ | refine blk_drew ?_ | refine blk_alloc ?_ _)); exact BK278.out) hb); have n3_ := Aside0.mk (blk_below (g := gb279) (o := .cells #[.bool a1_0, .slice A1_1 l1_1.length c1_1] 56 (0, 0)) (by (with_reducible repeat (first | refine blk_drewN ?_ _ | refine blk_drew ?_ | refine blk_alloc ?_ _)); exact BK279.out) hb); have n4_ := Aside0.mk (blk_below (g := gb290) (o := .cells #[.bool t285, .slice Ao396 t286.length co396] 56 (0, 0)) (by (with_reducible repeat (first | refine blk_drewN ?_ _ | refine blk_drew ?_ | refine blk_alloc ?_ _)); exact BK290.out) hb); have n5_ := Aside0.mk (below_step (by repeat (first | (with_reducible first | exact HB.out | apply below_alloc | apply pw_below_drewN | apply below_drew1 | refine below_set ?_ GE278.out | refine below_set ?_ GE279.out | refine below_set ?_ GE290.out) | exact HB.out)) hb); have n6_ := Aside0.mk (hbox); have n7_ := Aside0.mk ((by rw [hg]; exact (below_size (by repeat (first | (with_reducible first | exact HB.out | apply below_alloc | apply pw_below_drewN | apply below_drew1 | refine below_set ?_ GE278.out | refine below_set ?_ GE279.out | refine below_set ?_ GE290.out) | exact HB.out))) : w.heap.size ≤ gb296)); have n8_ := Aside0.mk ((by rw [hg]; exact (below_size (by repeat (first | (with_reducible first | exact HB.out | apply below_alloc | apply pw_below_drewN | apply below_drew1 | refine below_set ?_ GE278.out | refine below_set ?_ GE279.out | refine below_set ?_ GE290.out) | exact HB.out))) : w.heap.size ≤ gb296)); have n9_ := Aside0.mk ((by rw [hg]; exact Nat.ne_of_lt (blk_lt (g := gb278) (o := .cells #[.bool a0_0, .slice A0_1 l0_1.length c0_1] 56 (0, 0)) (by (with_reducible repeat (first | refine blk_drewN ?_ _ | refine blk_drew ?_ | refine blk_alloc ?_ _)); exact BK278.out)) : gb278 ≠ gb296)); have n10_ := Aside0.mk ((by rw [hg]; exact Nat.ne_of_gt (blk_lt (g := gb278) (o := .cells #[.bool a0_0, .slice A0_1 l0_1.length c0_1] 56 (0, 0)) (by (with_reducible repeat (first | refine blk_drewN ?_ _ | refine blk_drew ?_ | refine blk_alloc ?_ _)); exact BK278.out)) : gb296 ≠ gb278)); have n11_ := Aside0.mk ((by rw [hg]; exact Nat.ne_of_lt (blk_lt (g := gb279) (o := .cells #[.bool a1_0, .slice A1_1 l1_1.length c1_1] 56 (0, 0)) (by (with_reducible repeat (first | refine blk_drewN ?_ _ | refine blk_drew ?_ | refine blk_alloc ?_ _)); exact BK279.out)) : gb279 ≠ gb296)); have n12_ := Aside0.mk ((by rw [hg]; exact Nat.ne_of_gt (blk_lt (g := gb279) (o := .cells #[.bool a1_0, .slice A1_1 l1_1.length c1_1] 56 (0, 0)) (by (with_reducible repeat (first | refine blk_drewN ?_ _ | refine blk_drew ?_ | refine blk_alloc ?_ _)); exact BK279.out)) : gb296 ≠ gb279)); have n13_ := Aside0.mk ((by rw [hg]; exact Nat.ne_of_lt (blk_lt (g := gb290) (o := .cells #[.bool t285, .slice Ao396 t286.length co396] 56 (0, 0)) (by (with_reducible repeat (first | refine blk_drewN ?_ _ | refine blk_drew ?_ | refine blk_alloc ?_ _)); exact BK290.out)) : gb290 ≠ gb296)); have n14_ := Aside0.mk ((by rw [hg]; exact Nat.ne_of_gt (blk_lt (g := gb290) (o := .cells #[.bool t285, .slice Ao396 t286.length co396] 56 (0, 0)) (by (with_reducible repeat (first | refine blk_drewN ?_ _ | refine blk_drew ?_ | refine blk_alloc ?_ _)); exact BK290.out)) : gb296 ≠ gb290)); clear HO288; clear HO294; clear BK278; clear BK279; clear BK290; clear HB; have HO288 := n0_; have HO294 := n1_; have BK278 := n2_; have BK279 := n3_; have BK290 := n4_; have HB := n5_; have BK296 := n6_; have GW296 := n7_; have GE296 := n8_; have NB278_296 := n9_; have NB296_278 := n10_; have NB279_296 := n11_; have NB296_279 := n12_; have NB290_296 := n13_; have NB296_290 := n14_; clear n0_ n1_ n2_ n3_ n4_ n5_ n6_ n7_ n8_ n9_ n10_ n11_ n12_ n13_ n14_; clear hb hbox hg; have hnb399 := NB296_278.out; have hnc399 := NB278_296.out; have hnb400 := NB296_279.out; have hnc400 := NB279_296.out; have hnb401 := NB296_290.out; have hnc401 := NB290_296.out; have hcz402_0 : w398.cell? ⟨gb296, 0, none⟩ = some (.bool false) := (blk_cell BK296.out 0).trans rfl; have hcz402_1 : w398.cell? ⟨gb296, 1, none⟩ = some (.slice none 0 0) := (blk_cell BK296.out 1).trans rfl; have hfz402_0 := blk_frozen BK296.out 0; have hfz402_1 := blk_frozen BK296.out 1; obtain ⟨Ao403, co403, eo403⟩ := Kd.R_slice HO294.out; subst eo403; have hcz404_0 : w398.cell? ⟨gb278, 0, none⟩ = some (.bool a0_0) := (blk_cell BK278.out 0).trans rfl; have hcz404_1 : w398.cell? ⟨gb278, 1, none⟩ = some (.slice A0_1 l0_1.length c0_1) := (blk_cell BK278.out 1).trans rfl; have hfz404_0 := blk_frozen BK278.out 0; have hfz404_1 := blk_frozen BK278.out 1) | ((with_reducible refine gate_callee (f := 31) rfl ?_); refine goesL_ (some 56) rfl rfl Try.func31 (by kernel_rfl) rfl #[.agg #[.bool a0_0, .slice A0_1 l0_1.length c0_1]] rfl (by (try simp only [List.map_toArray, List.map_cons, List.map_nil]); first | done | rfl | (simp only [List.length_drop, List.length_take]; rfl)) ?_; (with_reducible refine (assartref04_Right.calls kj4 a0_0 _ _ l0_1 false _ ?side1 ?side2 A24.out).mono ?_); (case side1 => exact Kd.C_below HR0_1.out (by repeat (first | (with_reducible first | exact HB.out | apply below_alloc | apply pw_below_drewN | apply below_drew1 | refine below_set ?_ GE278.out | refine below_set ?_ GE279.out | refine below_set ?_ GE290.out | refine below_set ?_ GE296.out) | exact HB.out))); (case side2 => exact HC0_1.out); rintro e w405 ⟨rfl, hb⟩; refine ⟨_, rfl, ?_⟩; have n0_ := Aside0.mk (Kd.R_below (by (with_reducible repeat (first | apply Kd.R_alloc | apply Kd.R_drewN | apply Kd.R_drew)); exact (Kd.R_mono (Kd.R_far (p := ⟨gb296, 1, none⟩) (Kd.R_far (p := ⟨gb296, 0, none⟩) (Kd.R_types HO288.out BK296.out (by decide)) (fun _ hk => hk.2) (.bool t291)) (fun _ hk => hk.2) (.slice Ao403 t292.length co403)) (fun _ h_ => h_.1))) hb); have n1_ := Aside0.mk (Kd.R_below (by (with_reducible repeat (first | apply Kd.R_alloc | apply Kd.R_drewN | apply Kd.R_drew)); exact (Kd.R_mono (Kd.R_far (p := ⟨gb296, 1, none⟩) (Kd.R_far (p := ⟨gb296, 0, none⟩) (Kd.R_types HO294.out BK296.out (by decide)) (fun _ hk => hk.2) (.bool t291)) (fun _ hk => hk.2) (.slice Ao403 t292.length co403)) (fun _ h_ => h_.1))) hb); have n2_ := Aside0.mk (blk_below (g := gb278) (o := .cells #[.bool a0_0, .slice A0_1 l0_1.length c0_1] 56 (0, 0)) (by (with_reducible repeat (first | refine blk_drewN ?_ _ | refine blk_drew ?_ | refine blk_alloc ?_ _)); refine blk_far ?_ NB278_296.out _; (with_reducible repeat (first | refine blk_drewN ?_ _ | refine blk_drew ?_ | refine blk_alloc ?_ _)); refine blk_far ?_ NB278_296.out _; (with_reducible repeat (first | refine blk_drewN ?_ _ | refine blk_drew ?_ | refine blk_alloc ?_ _)); exact BK278.out) hb); have n3_ := Aside0.mk (blk_below (g := gb279) (o := .cells #[.bool a1_0, .slice A1_1 l1_1.length c1_1] 56 (0, 0)) (by (with_reducible repeat (first | refine blk_drewN ?_ _ | refine blk_drew ?_ | refine blk_alloc ?_ _)); refine blk_far ?_ NB279_296.out _; (with_reducible repeat (first | refine blk_drewN ?_ _ | refine blk_drew ?_ | refine blk_alloc ?_ _)); refine blk_far ?_ NB279_296.out _; (with_reducible repeat (first | refine blk_drewN ?_ _ | refine blk_drew ?_ | refine blk_alloc ?_ _)); exact BK279.out) hb); have n4_ := Aside0.mk (blk_below (g := gb290) (o := .cells #[.bool t285, .slice Ao396 t286.length co396] 56 (0, 0)) (by (with_reducible repeat (first | refine blk_drewN ?_ _ | refine blk_drew ?_ | refine blk_alloc ?_ _)); refine blk_far ?_ NB290_296.out _; (with_reducible repeat (first | refine blk_drewN ?_ _ | refine blk_drew ?_ | refine blk_alloc ?_ _)); refine blk_far ?_ NB290_296.out _; (with_reducible repeat (first | refine blk_drewN ?_ _ | refine blk_drew ?_ | refine blk_alloc ?_ _)); exact BK290.out) hb); have n5_ := Aside0.mk (blk_below (g := gb296) (o := .cells #[.bool t291, .slice Ao403 t292.length co403] 56 (0, 0)) (by (with_reducible repeat (first | refine blk_drewN ?_ _ | refine blk_drew ?_ | refine blk_alloc ?_ _)); refine blk_put (cs := #[.bool t291, .slice none 0 0]) ?_ 1 _ rfl; (with_reducible repeat (first | refine blk_drewN ?_ _ | refine blk_drew ?_ | refine blk_alloc ?_ _)); refine blk_put (cs := #[.bool false, .slice none 0 0]) ?_ 0 _ rfl; (with_reducible repeat (first | refine blk_drewN ?_ _ | refine blk_drew ?_ | refine blk_alloc ?_ _)); exact BK296.out) hb); have n6_ := Aside0.mk (below_step (by repeat (first | (with_reducible first | exact HB.out | apply below_alloc | apply pw_below_drewN | apply below_drew1 | refine below_set ?_ GE278.out | refine below_set ?_ GE279.out | refine below_set ?_ GE290.out | refine below_set ?_ GE296.out) | exact HB.out)) hb); clear HO288; clear HO294; clear BK278; clear BK279; clear BK290; clear BK296; clear HB; have HO288 := n0_; have HO294 := n1_; have BK278 := n2_; have BK279 := n3_; have BK290 := n4_; have BK296 := n5_; have HB := n6_; clear n0_ n1_ n2_ n3_ n4_ n5_ n6_; (try clear hb); (try clear hb2); (try clear hk); (try clear hi)))
                    have n0_ := Aside0.mk (Kd.R_drew HO288.out)
                    have n1_ := Aside0.mk (Kd.R_drew HO294.out)
                    have n2_ := Aside0.mk (blk_drew BK278.out)
                    have n3_ := Aside0.mk (blk_drew BK279.out)
                    have n4_ := Aside0.mk (blk_drew BK290.out)
                    have n5_ := Aside0.mk (blk_drew BK296.out)
                    have n6_ := Aside0.mk (below_drew1 HB.out)
                    clear HO288
                    clear HO294
                    clear BK278
                    clear BK279
                    clear BK290
                    clear BK296
                    clear HB
                    have HO288 := n0_
                    have HO294 := n1_
                    have BK278 := n2_
                    have BK279 := n3_
                    have BK290 := n4_
                    have BK296 := n5_
                    have HB := n6_
                    clear n0_ n1_ n2_ n3_ n4_ n5_ n6_
                    refine start_ (n := 17) (S := fun w' => True) (ds := []) #[false, false, false, false, false, false, false, false, false, false, false, false, false, false, false, false, false] (by kernel_rfl) rfl rfl trivial (fun hHeld => ?_); refine with_tabW assartlaw04_NodeTells.tab9 assartlaw04_NodeTells.bits9 (fun HT_ HW_ => ?_)
                    generalize w405.drew = w406 at HO288 HO294 BK278 BK279 BK290 BK296 HB hHeld ⊢
                    refine pure_ (i := 0) (N := some 57) (v := ?_) (a' := ?_) #[true, false, false, false, false, false, false, false, false, false, false, false, false, false, false, false, false] rfl rfl (any_of HT_.out (by kernel_rfl)) (fun _ _ _ h => h) (Or.inl ⟨by rfl, ?_⟩) ?_ ?_
                    rotate_left
                    · intro w'
                      go_simp
                      with_reducible rfl
                    rotate_left
                    · simp only [Act.put, List.setIfInBounds_toArray, List.set_cons_zero, List.set_cons_succ, i64_w, i32_w]
                      rfl
                    refine pure_ (i := 1) (N := some 58) (v := ?_) (a' := ?_) #[true, true, false, false, false, false, false, false, false, false, false, false, false, false, false, false, false] rfl rfl (any_of HT_.out (by kernel_rfl)) (fun _ _ _ h => h) (Or.inl ⟨by rfl, ?_⟩) ?_ ?_
                    rotate_left
                    · intro w'
                      go_simp
                      with_reducible rfl
                    rotate_left
                    · simp only [Act.put, List.setIfInBounds_toArray, List.set_cons_zero, List.set_cons_succ, i64_w, i32_w]
                      rfl
                    refine pure_ (i := 2) (N := some 59) (v := ?_) (a' := ?_) #[true, true, true, false, false, false, false, false, false, false, false, false, false, false, false, false, false] rfl rfl (any_of HT_.out (by kernel_rfl)) (fun _ _ _ h => h) (Or.inl ⟨by rfl, ?_⟩) ?_ ?_
                    rotate_left
                    · intro w'
                      go_simp
                      with_reducible rfl
                    rotate_left
                    · simp only [Act.put, List.setIfInBounds_toArray, List.set_cons_zero, List.set_cons_succ, i64_w, i32_w]
                      rfl
                    refine pure_ (i := 3) (N := some 60) (v := undef) (a' := ?_) #[true, true, true, true, false, false, false, false, false, false, false, false, false, false, false, false, false] rfl rfl (any_of HT_.out (by kernel_rfl)) (fun _ _ _ h => h) (Or.inr ⟨by rfl, rfl⟩) ?_ ?_
                    rotate_left
                    · simp only [Act.put, List.setIfInBounds_toArray, List.set_cons_zero, List.set_cons_succ, i64_w, i32_w]
                      rfl
                    refine pure_ (i := 4) (N := some 61) (v := undef) (a' := ?_) #[true, true, true, true, true, false, false, false, false, false, false, false, false, false, false, false, false] rfl rfl (any_of HT_.out (by kernel_rfl)) (fun _ _ _ h => h) (Or.inr ⟨by rfl, rfl⟩) ?_ ?_
                    rotate_left
                    · simp only [Act.put, List.setIfInBounds_toArray, List.set_cons_zero, List.set_cons_succ, i64_w, i32_w]
                      rfl
                    refine pure_ (i := 5) (N := some 62) (v := undef) (a' := ?_) #[true, true, true, true, true, true, false, false, false, false, false, false, false, false, false, false, false] rfl rfl (any_of HT_.out (by kernel_rfl)) (fun _ _ _ h => h) (Or.inr ⟨by rfl, rfl⟩) ?_ ?_
                    rotate_left
                    · simp only [Act.put, List.setIfInBounds_toArray, List.set_cons_zero, List.set_cons_succ, i64_w, i32_w]
                      rfl
                    refine pure_ (i := 6) (N := some 63) (v := ?_) (a' := ?_) #[true, true, true, true, true, true, true, false, false, false, false, false, false, false, false, false, false] rfl rfl (any_of HT_.out (by kernel_rfl)) (fun _ _ _ h => h) (Or.inl ⟨by rfl, ?_⟩) ?_ ?_
                    rotate_left
                    · intro w'
                      go_simp
                      with_reducible rfl
                    rotate_left
                    · simp only [Act.put, List.setIfInBounds_toArray, List.set_cons_zero, List.set_cons_succ, i64_w, i32_w]
                      rfl
                    refine pure_ (i := 7) (N := some 64) (v := ?_) (a' := ?_) #[true, true, true, true, true, true, true, true, false, false, false, false, false, false, false, false, false] rfl rfl (any_of HT_.out (by kernel_rfl)) (fun _ _ _ h => h) (Or.inl ⟨by rfl, ?_⟩) ?_ ?_
                    rotate_left
                    · intro w'
                      go_simp
                      with_reducible rfl
                    rotate_left
                    · simp only [Act.put, List.setIfInBounds_toArray, List.set_cons_zero, List.set_cons_succ, i64_w, i32_w]
                      rfl
                    refine pure_ (i := 8) (N := some 65) (v := undef) (a' := ?_) #[true, true, true, true, true, true, true, true, true, false, false, false, false, false, false, false, false] rfl rfl (any_of HT_.out (by kernel_rfl)) (fun _ _ _ h => h) (Or.inr ⟨by rfl, rfl⟩) ?_ ?_
                    rotate_left
                    · simp only [Act.put, List.setIfInBounds_toArray, List.set_cons_zero, List.set_cons_succ, i64_w, i32_w]
                      rfl
                    refine pure_ (i := 9) (N := some 66) (v := undef) (a' := ?_) #[true, true, true, true, true, true, true, true, true, true, false, false, false, false, false, false, false] rfl rfl (any_of HT_.out (by kernel_rfl)) (fun _ _ _ h => h) (Or.inr ⟨by rfl, rfl⟩) ?_ ?_
                    rotate_left
                    · simp only [Act.put, List.setIfInBounds_toArray, List.set_cons_zero, List.set_cons_succ, i64_w, i32_w]
                      rfl
                    refine pure_ (i := 10) (N := some 67) (v := undef) (a' := ?_) #[true, true, true, true, true, true, true, true, true, true, true, false, false, false, false, false, false] rfl rfl (any_of HT_.out (by kernel_rfl)) (fun _ _ _ h => h) (Or.inr ⟨by rfl, rfl⟩) ?_ ?_
                    rotate_left
                    · simp only [Act.put, List.setIfInBounds_toArray, List.set_cons_zero, List.set_cons_succ, i64_w, i32_w]
                      rfl
                    refine pure_ (i := 11) (N := some 68) (v := undef) (a' := ?_) #[true, true, true, true, true, true, true, true, true, true, true, true, false, false, false, false, false] rfl rfl (any_of HT_.out (by kernel_rfl)) (fun _ _ _ h => h) (Or.inr ⟨by rfl, rfl⟩) ?_ ?_
                    rotate_left
                    · simp only [Act.put, List.setIfInBounds_toArray, List.set_cons_zero, List.set_cons_succ, i64_w, i32_w]
                      rfl
                    refine pure_ (i := 12) (N := some 69) (v := undef) (a' := ?_) #[true, true, true, true, true, true, true, true, true, true, true, true, true, false, false, false, false] rfl rfl (any_of HT_.out (by kernel_rfl)) (fun _ _ _ h => h) (Or.inr ⟨by rfl, rfl⟩) ?_ ?_
                    rotate_left
                    · simp only [Act.put, List.setIfInBounds_toArray, List.set_cons_zero, List.set_cons_succ, i64_w, i32_w]
                      rfl
                    refine pure_ (i := 13) (N := some 70) (v := undef) (a' := ?_) #[true, true, true, true, true, true, true, true, true, true, true, true, true, true, false, false, false] rfl rfl (any_of HT_.out (by kernel_rfl)) (fun _ _ _ h => h) (Or.inr ⟨by rfl, rfl⟩) ?_ ?_
                    rotate_left
                    · simp only [Act.put, List.setIfInBounds_toArray, List.set_cons_zero, List.set_cons_succ, i64_w, i32_w]
                      rfl
                    refine pure_ (i := 14) (N := some 71) (v := undef) (a' := ?_) #[true, true, true, true, true, true, true, true, true, true, true, true, true, true, true, false, false] rfl rfl (any_of HT_.out (by kernel_rfl)) (fun _ _ _ h => h) (Or.inr ⟨by rfl, rfl⟩) ?_ ?_
                    rotate_left
                    · simp only [Act.put, List.setIfInBounds_toArray, List.set_cons_zero, List.set_cons_succ, i64_w, i32_w]
                      rfl
                    refine pure_ (i := 15) (N := some 72) (v := ?_) (a' := ?_) #[true, true, true, true, true, true, true, true, true, true, true, true, true, true, true, true, false] rfl rfl (any_of HT_.out (by kernel_rfl)) (fun _ _ _ h => h) (Or.inl ⟨by rfl, ?_⟩) ?_ ?_
                    rotate_left
                    · intro w'
                      go_simp
                      with_reducible rfl
                    rotate_left
                    · simp only [Act.put, List.setIfInBounds_toArray, List.set_cons_zero, List.set_cons_succ, i64_w, i32_w]
                      rfl
                    refine pure_ (i := 16) (N := some 17) (v := ?_) (a' := ?_) #[true, true, true, true, true, true, true, true, true, true, true, true, true, true, true, true, true] rfl rfl (any_of HT_.out (by kernel_rfl)) (fun _ _ _ h => h) (Or.inl ⟨by rfl, ?_⟩) ?_ ?_
                    rotate_left
                    · intro w'
                      go_simp
                      with_reducible rfl
                    rotate_left
                    · simp only [Act.put, List.setIfInBounds_toArray, List.set_cons_zero, List.set_cons_succ, i64_w, i32_w]
                      rfl
                    refine done_ (done_of HT_.out (by kernel_rfl)) ?_
                    have hcz407_0 : w406.cell? ⟨gb278, 0, none⟩ = some (.bool a0_0) := (blk_cell BK278.out 0).trans rfl
                    have hcz407_1 : w406.cell? ⟨gb278, 1, none⟩ = some (.slice A0_1 l0_1.length c0_1) := (blk_cell BK278.out 1).trans rfl
                    have hfz407_0 := blk_frozen BK278.out 0
                    have hfz407_1 := blk_frozen BK278.out 1
                    try go_wp2_with (first | (go_at_call 34; (with_reducible refine (node_Right.calls kj4 a0_0 _ _ l0_1 t305 _ ?side1 ?side2 A380.out).mono ?_); (case side1 => repeat (first | exact (Kd.C_below HR0_1.out HB.out) | (with_reducible refine Kd.C_alloc ?_ _) | (with_reducible refine Kd.C_drewN ?_ _) | (with_reducible refine Kd.C_drew ?_))); (case side2 => exact HC0_1.out); rintro e w408 ⟨rfl, hb⟩; have n0_ := Aside0.mk (Kd.R_below (by (with_reducible repeat (first | apply Kd.R_alloc | apply Kd.R_drewN | apply Kd.R_drew)); exact HO288.out) hb); have n1_ := Aside0.mk (Kd.R_below (by (with_reducible repeat (first | apply Kd.R_alloc | apply Kd.R_drewN | apply Kd.R_drew)); exact HO294.out) hb); have n2_ := Aside0.mk (blk_below (g := gb278) (o := .cells #[.bool a0_0, .slice A0_1 l0_1.length c0_1] 56 (0, 0)) (by (with_reducible repeat (first | refine blk_drewN ?_ _ | refine blk_drew ?_ | refine blk_alloc ?_ _)); exact BK278.out) hb); have n3_ := Aside0.mk (blk_below (g := gb279) (o := .cells #[.bool a1_0, .slice A1_1 l1_1.length c1_1] 56 (0, 0)) (by (with_reducible repeat (first | refine blk_drewN ?_ _ | refine blk_drew ?_ | refine blk_alloc ?_ _)); exact BK279.out) hb); have n4_ := Aside0.mk (blk_below (g := gb290) (o := .cells #[.bool t285, .slice Ao396 t286.length co396] 56 (0, 0)) (by (with_reducible repeat (first | refine blk_drewN ?_ _ | refine blk_drew ?_ | refine blk_alloc ?_ _)); exact BK290.out) hb); have n5_ := Aside0.mk (blk_below (g := gb296) (o := .cells #[.bool t291, .slice Ao403 t292.length co403] 56 (0, 0)) (by (with_reducible repeat (first | refine blk_drewN ?_ _ | refine blk_drew ?_ | refine blk_alloc ?_ _)); exact BK296.out) hb); have n6_ := Aside0.mk (below_step (by repeat (first | (with_reducible first | exact HB.out | apply below_alloc | apply pw_below_drewN | apply below_drew1 | refine below_set ?_ GE278.out | refine below_set ?_ GE279.out | refine below_set ?_ GE290.out | refine below_set ?_ GE296.out) | exact HB.out)) hb); clear HO288; clear HO294; clear BK278; clear BK279; clear BK290; clear BK296; clear HB; have HO288 := n0_; have HO294 := n1_; have BK278 := n2_; have BK279 := n3_; have BK290 := n4_; have BK296 := n5_; have HB := n6_; clear n0_ n1_ n2_ n3_ n4_ n5_ n6_; (try clear hb); (try clear hb2); (try clear hk); (try clear hi); have hcz409_0 : w408.cell? ⟨gb290, 0, none⟩ = some (.bool t285) := (blk_cell BK290.out 0).trans rfl; have hcz409_1 : w408.cell? ⟨gb290, 1, none⟩ = some (.slice Ao396 t286.length co396) := (blk_cell BK290.out 1).trans rfl; have hfz409_0 := blk_frozen BK290.out 0; have hfz409_1 := blk_frozen BK290.out 1; have hcz410_0 : w408.cell? ⟨gb296, 0, none⟩ = some (.bool t291) := (blk_cell BK296.out 0).trans rfl; have hcz410_1 : w408.cell? ⟨gb296, 1, none⟩ = some (.slice Ao403 t292.length co403) := (blk_cell BK296.out 1).trans rfl; have hfz410_0 := blk_frozen BK296.out 0; have hfz410_1 := blk_frozen BK296.out 1) | (go_at_call 33; (with_reducible refine (assartref04_Same.calls kj4 t285 _ _ t286 t291 _ _ t292 true _ ?side1 ?side2 ?side3 ?side4 A384.out).mono ?_); (case side1 => repeat (first | exact (Kd.R_reads' HO288.out).2.2 | (with_reducible refine Kd.C_alloc ?_ _) | (with_reducible refine Kd.C_drewN ?_ _) | (with_reducible refine Kd.C_drew ?_))); (case side2 => exact (Kd.R_reads' HO288.out).2.1); (case side3 => repeat (first | exact (Kd.R_reads' HO294.out).2.2 | (with_reducible refine Kd.C_alloc ?_ _) | (with_reducible refine Kd.C_drewN ?_ _) | (with_reducible refine Kd.C_drew ?_))); (case side4 => exact (Kd.R_reads' HO294.out).2.1); rintro e w411 ⟨rfl, hb⟩; have n0_ := Aside0.mk (Kd.R_below (by (with_reducible repeat (first | apply Kd.R_alloc | apply Kd.R_drewN | apply Kd.R_drew)); exact HO288.out) hb); have n1_ := Aside0.mk (Kd.R_below (by (with_reducible repeat (first | apply Kd.R_alloc | apply Kd.R_drewN | apply Kd.R_drew)); exact HO294.out) hb); have n2_ := Aside0.mk (blk_below (g := gb278) (o := .cells #[.bool a0_0, .slice A0_1 l0_1.length c0_1] 56 (0, 0)) (by (with_reducible repeat (first | refine blk_drewN ?_ _ | refine blk_drew ?_ | refine blk_alloc ?_ _)); exact BK278.out) hb); have n3_ := Aside0.mk (blk_below (g := gb279) (o := .cells #[.bool a1_0, .slice A1_1 l1_1.length c1_1] 56 (0, 0)) (by (with_reducible repeat (first | refine blk_drewN ?_ _ | refine blk_drew ?_ | refine blk_alloc ?_ _)); exact BK279.out) hb); have n4_ := Aside0.mk (blk_below (g := gb290) (o := .cells #[.bool t285, .slice Ao396 t286.length co396] 56 (0, 0)) (by (with_reducible repeat (first | refine blk_drewN ?_ _ | refine blk_drew ?_ | refine blk_alloc ?_ _)); exact BK290.out) hb); have n5_ := Aside0.mk (blk_below (g := gb296) (o := .cells #[.bool t291, .slice Ao403 t292.length co403] 56 (0, 0)) (by (with_reducible repeat (first | refine blk_drewN ?_ _ | refine blk_drew ?_ | refine blk_alloc ?_ _)); exact BK296.out) hb); have n6_ := Aside0.mk (below_step (by repeat (first | (with_reducible first | exact HB.out | apply below_alloc | apply pw_below_drewN | apply below_drew1 | refine below_set ?_ GE278.out | refine below_set ?_ GE279.out | refine below_set ?_ GE290.out | refine below_set ?_ GE296.out) | exact HB.out)) hb); clear HO288; clear HO294; clear BK278; clear BK279; clear BK290; clear BK296; clear HB; have HO288 := n0_; have HO294 := n1_; have BK278 := n2_; have BK279 := n3_; have BK290 := n4_; have BK296 := n5_; have HB := n6_; clear n0_ n1_ n2_ n3_ n4_ n5_ n6_; (try clear hb); (try clear hb2); (try clear hk); (try clear hi)))
                    go_ret
                    exact ⟨by first | rfl | (simp [errW_none, errW_some] <;> rfl) | (simp [*, errW_none, errW_some] <;> rfl), by repeat (first | (with_reducible first | exact HB.out | apply below_alloc | apply pw_below_drewN | apply below_drew1 | refine below_set ?_ GE278.out | refine below_set ?_ GE279.out | refine below_set ?_ GE290.out | refine below_set ?_ GE296.out) | exact HB.out)⟩
                  · replace c385 := Bool.eq_false_iff.mpr c385
                    subst c385
                    have H1 : (some false) = some r := by rw [if_neg (show ¬ (false = true) by decide)] at H; exact H
                    clear H
                    have H := H1
                    clear H1
                    obtain rfl := Option.some.inj H
                    cases hr
                · rw [if_neg c383] at H
                  have c383b0 : (t282 == t284) = false := beq_eq_false_iff_ne.mpr c383
                  have c383b1 : (t282 != t284) = true := bne_iff_ne.mpr c383
                  obtain rfl := Option.some.inj H
                  cases hr
              · rw [if_neg c382] at H
                have c382b0 : (t281.toList == t283.toList) = false := beq_eq_false_iff_ne.mpr c382
                have c382b1 : (t281.toList != t283.toList) = true := bne_iff_ne.mpr c382
                obtain rfl := Option.some.inj H
                cases hr
            · rw [if_neg c381] at H
              have c381b0 : (t305 == false) = false := by simpa using c381
              (try (have c381b1 : decide (t305 = false) = false := by simpa using c381))
              (try (have c381b2 : (t305 == false) = false := by simpa using c381))
              (try (have c381b3 : ¬ (t305 = false) := by simpa using c381))
              clear c381
              obtain rfl := Option.some.inj H
              cases hr
          · replace c379 := Bool.eq_false_iff.mpr c379
            subst c379
            have H1 : (some false) = some r := by rw [if_neg (show ¬ (false = true) by decide)] at H; exact H
            clear H
            have H := H1
            clear H1
            obtain rfl := Option.some.inj H
            cases hr
theorem equal_l0 (a b : List S78) (hl : a.length ≤ 1000000) (hab : a.length = b.length) : ∀ (d k j : Nat), j + d = a.length → d < k → api_Item_55.l0 k a b (a.length : Int) (j : Int) = some (decide (a.drop j = b.drop j)) := by
  intro d
  induction d with
  | zero =>
    intro k j hj hk
    obtain ⟨k, rfl⟩ : ∃ m, k = m + 1 := ⟨k - 1, by omega⟩
    obtain rfl : j = a.length := by omega
    simp only [api_Item_55.l0]
    rw [if_neg (by omega), decide_eq_true (by rw [List.drop_of_length_le (Nat.le_refl _), List.drop_of_length_le (by omega)])]
  | succ d ih =>
    intro k j hj hk
    obtain ⟨k, rfl⟩ : ∃ m, k = m + 1 := ⟨k - 1, by omega⟩
    have hlt : j < a.length := by omega
    have hlt2 : j < b.length := by omega
    simp only [api_Item_55.l0]
    rw [if_pos (by omega), if_pos (by omega), if_pos (by omega), if_pos (by omega), wsucc j (by omega), ih k (j + 1) (by omega) (by omega), rd_eq a j hlt, rd_eq b j hlt2, List.drop_eq_getElem_cons hlt, List.drop_eq_getElem_cons hlt2]
    by_cases h : a[j] = b[j]
    · rw [h, if_neg (by simp)]
      congr 1
      rw [decide_eq_decide]
      exact ⟨fun hh => by rw [hh], fun hh => (List.cons.inj hh).2⟩
    · rw [if_pos]
      · rw [decide_eq_false]
        intro hh
        exact h (List.cons.inj hh).1
      · have : ¬ (a[j].f0 = b[j].f0 ∧ a[j].f1 = b[j].f1) := fun ⟨h1, h2⟩ => h (by
          generalize a[j] = x at h1 h2; generalize b[j] = y at h1 h2
          cases x; cases y; simp at h1 h2; simp [h1, h2])
        by_cases e : a[j].f0 = b[j].f0
        · have : ¬ a[j].f1 = b[j].f1 := fun h2 => this ⟨e, h2⟩
          simp [e, this]
        · simp [e]
theorem equal_val (a b : List S78) (hl : a.length ≤ 1000000) (k : Nat) (hk : a.length < k) : api_Item_55.f k a b = some (decide (a = b)) := by
  unfold api_Item_55.f
  by_cases h : a.length = b.length
  · rw [if_pos (by omega)]
    have := equal_l0 a b hl h a.length k 0 (by omega) hk
    rw [show ((0 : Nat) : Int) = 0 from rfl] at this
    rw [this, List.drop_zero, List.drop_zero]
  · rw [if_neg (by omega), decide_eq_false (fun e => h (by rw [e]))]
theorem same04_val (k : Nat) (a b : Bool) (l m : List S78) (hl : l.length ≤ 1000) (hk : 1000 < k) : node_Same.f k a l b m = some ((a == b) && decide (l = m)) := by
  unfold node_Same.f
  cases h : (a == b) with
  | true => rw [if_pos rfl, equal_val l m (by omega) k (by omega)]; rfl
  | false => rw [if_neg (by simp)]; rfl
theorem refSame04_val' (k : Nat) (a b : Bool) (l m : List S78) (hl : l.length ≤ 1000) (hk : 1000 < k) : assartref04_Same.f k a l b m = some ((a == b) && decide (l = m)) := by
  unfold assartref04_Same.f
  cases h : (a == b) with
  | true => rw [if_pos rfl, items_val l m (by omega) k (by omega)]; rfl
  | false => rw [if_neg (by simp)]; rfl
theorem print_both (leaf : Bool) (l : List S78) (k : Nat) (hk : 700 < k) : ∃ b e, node_Print.f k leaf l = some (b, e) ∧ assartref04_Print.f k leaf l = some (b, e) := by
  by_cases h : RtN l
  · exact ⟨_, _, printN_ok leaf h k (by omega), refPrintN_ok leaf h k hk⟩
  · exact ⟨_, _, printN_bad leaf h k (by omega), refPrintN_bad leaf h k (by omega)⟩
theorem parse_both (s : ByteArray) (k : Nat) (hk : 900 < k) : ∃ leaf it e, it.length ≤ 4 ∧ node_Parse.f k s = some (leaf, it, e) ∧ assartref04_Parse.f k s = some (leaf, it, e) := by
  rw [parseN_val s k (by omega), refParseN_val s k hk]
  rcases parseN_cases s with h | ⟨leaf, it, hr, _, h⟩
  · exact ⟨_, _, _, by simp, h, h⟩
  · exact ⟨_, _, _, hr.2.1, h, h⟩
theorem tells_val (a b : Bool) (la lb : List S78) (s : ByteArray) : assartlaw04_NodeTells.g 4000 a la b lb s = some true := by
  have out : ∀ x : Bool, assartlaw04_NodeTells.j0 4000 s true x a la b lb = some true := by
    intro x
    rw [show (4000 : Nat) = 3999 + 1 from rfl]
    simp only [assartlaw04_NodeTells.j0]
    cases x with
    | true => rw [if_pos rfl]
    | false =>
      obtain ⟨p, e, hp, hp'⟩ := print_both a la 3999 (by omega)
      obtain ⟨leaf, it, f, hit, hq, hq'⟩ := parse_both s 3999 (by omega)
      have hself : assartref04_Same.f 3999 leaf it leaf it = some true := by rw [refSame04_val' 3999 leaf leaf it it (by omega) (by omega)]; simp
      rw [if_neg (by simp), hp, Option.bind_some, hp', Option.bind_some, hq, Option.bind_some, hq', Option.bind_some, refRight04_val a la 3999 (by omega), Option.bind_some]
      by_cases hr : RtN la
      · rw [if_pos (decide_eq_true hr), refRight04_val b lb 3999 (by omega), Option.bind_some, right04_val a la 3999 (by omega)]
        have hlen := hr.2.1
        by_cases hr2 : RtN lb
        · rw [if_pos (decide_eq_true hr2), same04_val 3999 a b la lb (by omega) (by omega), Option.bind_some, refSame04_val' 3999 a b la lb (by omega) (by omega), Option.bind_some]
          simp [hself]
        · rw [if_neg (by simpa using hr2)]
          simp [hself]
      · rw [if_neg (by simpa using hr), right04_val a la 3999 (by omega)]
        simp [hself]
  unfold assartlaw04_NodeTells.g
  rw [show assartlaw04_shown.f = some true from rfl, Option.bind_some]
  by_cases h1 : (la.length : Int) > 20
  · rw [if_pos h1]; exact out _
  · rw [if_neg h1]
    by_cases h2 : (lb.length : Int) > 20
    · rw [if_pos h2]; exact out _
    · rw [if_neg h2]; exact out _
def assartlaw04_NodeTells.f (k : Nat) (a0_0 : Bool) (l0_1 : List (S78)) (a1_0 : Bool) (l1_1 : List (S78)) (a2 : ByteArray) : Option (Bool) := some true
theorem assartlaw04_NodeTells.calls (k : Nat) (a0_0 : Bool) (A0_1 : Option Addr) (c0_1 : Nat) (l0_1 : List (S78)) (a1_0 : Bool) (A1_1 : Option Addr) (c1_1 : Nat) (l1_1 : List (S78)) (a2 : ByteArray) (r : Bool) (w : World) (hr0_1 : Kd.C k78 w A0_1 l0_1.length l0_1) (hc0_1 : l0_1.length ≤ c0_1) (hr1_1 : Kd.C k78 w A1_1 l1_1.length l1_1) (hc1_1 : l1_1.length ≤ c1_1) (h : assartlaw04_NodeTells.f k a0_0 l0_1 a1_0 l1_1 a2 = some r) :
    Calls Try.prog 8 #[.agg #[.bool a0_0, .slice A0_1 l0_1.length c0_1], .agg #[.bool a1_0, .slice A1_1 l1_1.length c1_1], .string a2] w fun e w' => e = .returned (.bool r) ∧ Below w.heap.size w w' := by
  obtain rfl := Option.some.inj h
  exact assartlaw04_NodeTells.walk 4000 a0_0 A0_1 c0_1 l0_1 a1_0 A1_1 c1_1 l1_1 a2 true w hr0_1 hc0_1 hr1_1 hc1_1 (tells_val a0_0 a1_0 l0_1 l1_1 a2) rfl
end Go.Proofs.Ythjnkapkhphpeaa.P
end
section
/- Arguments that read as data, opened kind by kind: what the printed functions ask of their parameters. -/
namespace Go.Proofs.Ythjnkapkhphpeaa.P
open Go.RowKit Go.Proofs.YthjnkapkhphpeaaW.PrintWords Go.Proofs.YthjnkapkhphpeaaW.PrintLast Go.Proofs.YthjnkapkhphpeaaW.PrintMore
set_option linter.unusedVariables false
set_option linter.unusedSimpArgs false
/-- Whatever reads at type t is a value of kind d, and such as ok says. -/
structure Opens {α : Type} (P : Program) (t : TypeId) (d : Kd α) (ok : α → Prop) : Prop where
  sz : P.cellsOf t = d.sz
  op : ∀ {H : Type} {enc : TypeId × Value → H} {W : World} {base : Nat} {spare : Nat → Bool} {held : Bool} {fuel : Nat} {cs : List Value} {y : DataW H × List MemPlace}, DataW.trod enc P W base spare held fuel t cs = some y → (DataW.weights P t y.1).all (· ≤ reachBytes) = true → ∃ x, d.K W x cs ∧ ok x
theorem Opens.int {P : Program} {t : TypeId} {k : IntKind} (h : P.underlying t = some (.int k)) (hs : P.cellsOf t = 1) : Opens P t (Kd.int k) (fun n => (Lit.int k n).wf = true) :=
  ⟨hs, fun hy _ => by
    obtain ⟨n, rfl, _, hw⟩ := DataW.trod_int h hy
    exact ⟨n, rfl, hw⟩⟩
theorem Opens.bool {P : Program} {t : TypeId} (h : P.underlying t = some .bool) (hs : P.cellsOf t = 1) : Opens P t Kd.bool (fun _ => True) :=
  ⟨hs, fun hy _ => by
    obtain ⟨b, rfl, _⟩ := DataW.trod_bool h hy
    exact ⟨b, rfl, trivial⟩⟩
theorem Opens.string {P : Program} {t : TypeId} (h : P.underlying t = some .string) (hs : P.cellsOf t = 1) : Opens P t Kd.string (fun s => s.size ≤ 140737488351232) :=
  ⟨hs, fun hy hw => by
    obtain ⟨s, rfl, rfl, _⟩ := DataW.trod_string h hy
    refine ⟨s, rfl, ?_⟩
    have := hw
    simp [DataW.weights, reachBytes] at this
    exact of_decide_eq_true this⟩
theorem choose_row {α : Type} {R : Nat → α → Prop} : ∀ n, (∀ i, i < n → ∃ x, R i x) → ∃ xs : List α, xs.length = n ∧ ∀ i x, xs[i]? = some x → R i x
  | 0, _ => ⟨[], rfl, fun i x h => by simp at h⟩
  | n + 1, h => by
    obtain ⟨xs, hl, hx⟩ := choose_row n (fun i hi => h i (by omega))
    obtain ⟨x, hr⟩ := h n (by omega)
    refine ⟨xs ++ [x], by simp [hl], fun i z hz => ?_⟩
    by_cases hi : i < n
    · rw [List.getElem?_append_left (by omega)] at hz
      exact hx i z hz
    · rw [List.getElem?_append_right (by omega)] at hz
      have : i - xs.length = 0 := by
        rcases Nat.eq_zero_or_pos (i - xs.length) with h0 | h0
        · exact h0
        · rw [List.getElem?_eq_none (by simp; omega)] at hz; cases hz
      rw [this] at hz
      simp at hz
      subst hz
      have : i = n := by omega
      rw [this]; exact hr
theorem weightsAll_mem {H : Type} {P : Program} {e : TypeId} : ∀ {ds : List (DataW H)}, (DataW.weightsAll P e ds).all (· ≤ reachBytes) = true → ∀ d ∈ ds, (DataW.weights P e d).all (· ≤ reachBytes) = true
  | [], _, d, hd => by cases hd
  | a :: ds, h, d, hd => by
    simp only [DataW.weightsAll, List.all_append, Bool.and_eq_true] at h
    rcases List.mem_cons.1 hd with rfl | hd
    · exact h.1
    · exact weightsAll_mem h.2 d hd
theorem Opens.slice {α : Type} {P : Program} {t e : TypeId} {d : Kd α} {ok : α → Prop} {B : Nat} (h : P.underlying t = some (.slice e)) (hs : P.cellsOf t = 1) (hB : P.bytesOf e = B) (he : Opens P e d ok) : Opens P t (Kd.slice e d) (fun xs => xs.length * B ≤ 140737488351232 ∧ ∀ x ∈ xs, ok x) :=
  ⟨hs, fun {H enc W base spare held fuel cs y} hy hw => by
    rcases DataW.trod_slice h hy with ⟨rfl, rfl⟩ | ⟨a, len, cap, elems, rest, n, rfl, rfl, rfl, hb, hl, hc, hel, hi, _, _⟩
    · exact ⟨[], ⟨none, 0, rfl, Nat.le_refl _, Kd.C_nil _ _⟩, by simp⟩
    · unfold DataW.weights at hw
      rw [h] at hw
      simp only [List.all_cons, List.all_append, Bool.and_eq_true, decide_eq_true_eq, hB, List.length_map] at hw
      obtain ⟨hw0, hw1, _⟩ := hw
      have hx : ∀ i, i < len → ∃ x, ok x ∧ ∃ c, c.length = d.sz ∧ d.K W x c ∧ W.cells? base (a.add (i * d.sz)) d.sz = some c := by
        intro i hlt
        have h1 := hi i hlt
        rw [List.getElem?_eq_getElem (by omega)] at h1
        obtain ⟨c, hc1, hc2⟩ := Option.bind_eq_some_iff.1 h1
        obtain ⟨x, hK, hok⟩ := he.op hc2 (weightsAll_mem hw1 _ (List.mem_map_of_mem (List.getElem_mem _)))
        rw [he.sz] at hc1
        exact ⟨x, hok, c, d.K_len hK, hK, hc1⟩
      obtain ⟨xs, hxl, hxs⟩ := choose_row len hx
      refine ⟨xs, ⟨some a, cap, by rw [hxl], by omega, rfl, ?_, fun hpos => ⟨a, rfl, fun j p hj => ?_⟩⟩, ?_, ?_⟩
      · simp only [maxLen] at hc; omega
      · obtain ⟨_, c, hcl, hK, hcc⟩ := hxs j p hj
        refine ⟨c, hcl, hK, fun i u hu => ?_⟩
        obtain ⟨_, _, hcell⟩ := World.cells?_some hcc
        have hi : i < d.sz := by rw [← hcl]; exact (List.getElem?_eq_some_iff.1 hu).1
        have := hcell i hi
        rw [Addr.add_add] at this
        rw [this, hu]
      · rw [hxl, ← hel]
        refine Nat.le_trans (Nat.mul_le_mul_right _ (Nat.le_add_right _ _)) hw0
      · intro x hx
        obtain ⟨i, hlt, rfl⟩ := List.getElem_of_mem hx
        exact (hxs i _ (List.getElem?_eq_getElem hlt)).1⟩
theorem weights_at {H : Type} {P : Program} : ∀ {ts : List TypeId} {ds : List (DataW H)} {j : Nat} {t : TypeId} {d : DataW H}, (DataW.weightsEach P ts ds).all (· ≤ reachBytes) = true → ts[j]? = some t → ds[j]? = some d → (DataW.weights P t d).all (· ≤ reachBytes) = true
  | [], _, _, _, _, _, ht, _ => by simp at ht
  | _ :: _, [], _, _, _, _, _, hd => by simp at hd
  | t0 :: ts, d0 :: ds, 0, _, _, h, ht, hd => by
    simp only [List.getElem?_cons_zero, Option.some.injEq] at ht hd
    subst ht; subst hd
    simp only [DataW.weightsEach, List.all_append, Bool.and_eq_true] at h
    exact h.1
  | t0 :: ts, d0 :: ds, j + 1, _, _, h, ht, hd => by
    simp only [List.getElem?_cons_succ] at ht hd
    simp only [DataW.weightsEach, List.all_append, Bool.and_eq_true] at h
    exact weights_at h.2 ht hd
/-- A struct's fields from a place on. -/
structure OpensFs {α : Type} (P : Program) (fs : List Field) (off : Nat) (d : Kd α) (ok : α → Prop) : Prop where
  op : ∀ {H : Type} {enc : TypeId × Value → H} {W : World} {base : Nat} {spare : Nat → Bool} {held : Bool} {fuel : Nat} {cs : List Value} {ys : List (DataW H × List MemPlace)},
    (∀ (i : Nat) (f : Field), fs[i]? = some f → DataW.trod enc P W base spare held fuel f.type ((cs.drop f.offset).take (P.cellsOf f.type)) = ys[i]?) → ys.length = fs.length →
    (DataW.weightsEach P (fs.map (·.type)) (ys.map (·.1))).all (· ≤ reachBytes) = true → cs.length = off + d.sz → ∃ x, d.K W x (cs.drop off) ∧ ok x
theorem OpensFs.one {α : Type} {P : Program} {f : Field} {t : TypeId} {off : Nat} {d : Kd α} {ok : α → Prop} (ht : f.type = t) (hoff : f.offset = off) (h : Opens P t d ok) : OpensFs P [f] off d ok :=
  ⟨fun {H enc W base spare held fuel cs ys} hy hl hw hcs => by
    obtain ⟨y, rfl⟩ : ∃ y, ys = [y] := by
      cases ys with
      | nil => simp at hl
      | cons y ys => cases ys with
        | nil => exact ⟨y, rfl⟩
        | cons => simp at hl
    have h0 := hy 0 f rfl
    simp only [List.getElem?_cons_zero] at h0
    simp only [List.map_cons, List.map_nil, DataW.weightsEach, List.append_nil] at hw
    rw [ht] at h0 hw
    obtain ⟨x, hK, hok⟩ := h.op h0 hw
    rw [hoff, List.take_of_length_le (by rw [List.length_drop, h.sz]; omega)] at hK
    exact ⟨x, hK, hok⟩⟩
theorem OpensFs.cons {α β : Type} {P : Program} {f : Field} {fs : List Field} {t : TypeId} {off n : Nat} {d : Kd α} {d' : Kd β} {ok : α → Prop} {ok' : β → Prop} (ht : f.type = t) (hoff : f.offset = off) (h : Opens P t d ok) (hn : off + d.sz = n) (hr : OpensFs P fs n d' ok') :
    OpensFs P (f :: fs) off (Kd.pair d d') (fun x => ok x.1 ∧ ok' x.2) :=
  ⟨fun {H enc W base spare held fuel cs ys} hy hl hw hcs => by
    cases ys with
    | nil => simp at hl
    | cons y ys =>
      have h0 := hy 0 f rfl
      simp only [List.getElem?_cons_zero] at h0
      simp only [List.map_cons, DataW.weightsEach, List.all_append, Bool.and_eq_true] at hw
      have hw0 := hw.1
      rw [ht] at h0 hw0
      obtain ⟨x, hK, hok⟩ := h.op h0 hw0
      have hsz : (Kd.pair d d').sz = d.sz + d'.sz := rfl
      rw [hsz] at hcs
      obtain ⟨x', hK', hok'⟩ := hr.op (fun i g hg => hy (i + 1) g (by simpa using hg)) (by simpa using hl) hw.2 (by omega)
      refine ⟨(x, x'), ⟨_, _, ?_, hK, hK'⟩, hok, hok'⟩
      rw [hoff, h.sz, ← hn, ← List.drop_drop]
      exact (List.take_append_drop _ _).symm⟩
theorem Opens.struct {α β : Type} {P : Program} {t : TypeId} {fs : Array Field} {fl : List Field} {d : Kd α} {ok : α → Prop} (f : β → α) (g : α → β) (hfg : ∀ x, f (g x) = x) (h : P.underlying t = some (.struct fs)) (hfl : fs.toList = fl) (hs : P.cellsOf t = d.sz) (ho : OpensFs P fl 0 d ok) :
    Opens P t (Kd.iso d f) (fun x => ok (f x)) :=
  ⟨hs, fun {H enc W base spare held fuel cs y} hy hw => by
    obtain ⟨xs, n, rfl, rfl, hcl, hxl, hx⟩ := DataW.trod_struct h hy
    unfold DataW.weights at hw
    rw [h] at hw
    simp only [hfl] at hw
    subst hfl
    obtain ⟨x, hK, hok⟩ := ho.op (ys := xs) (fun i f hf => hx i f (by simpa using hf)) (by simpa using hxl) hw (by omega)
    rw [List.drop_zero] at hK
    refine ⟨g x, ?_, ?_⟩
    · show d.K W (f (g x)) cs
      rw [hfg]; exact hK
    · rw [hfg]; exact hok⟩
end Go.Proofs.Ythjnkapkhphpeaa.P
end
section
namespace Go.Proofs.Ythjnkapkhphpeaa.P
open Go.RowKit Go.Proofs.YthjnkapkhphpeaaW.PrintWords Go.Proofs.YthjnkapkhphpeaaW.PrintLast Go.Proofs.YthjnkapkhphpeaaW.PrintMore
attribute [local go_sem] max2_int min2_int max_two min_two max_three min_three max_four min_four
set_option linter.unusedVariables false
set_option linter.unusedSimpArgs false

def ok78 (x : S78) : Prop := (fun x => (Lit.int .i64 x).wf = true) x.f0 ∧ (fun x => (Lit.int .i64 x).wf = true) x.f1
theorem opens78 : Opens Try.prog 78 k78 ok78 := Opens.struct (fs := _) (fun x : S78 => (x.f0, x.f1)) (fun p => ⟨p.1, p.2⟩) (fun _ => rfl) Try.underlying78 rfl (by kernel_rfl) (OpensFs.cons rfl rfl (Opens.int Try.underlying3 (by kernel_rfl)) rfl (OpensFs.one rfl rfl (Opens.int Try.underlying3 (by kernel_rfl))))
def assartlaw04_NodeTells.QPure : Prop := ∀ (a0_0 : Bool) (l0_1 : List (S78)) (a1_0 : Bool) (l1_1 : List (S78)) (a2 : ByteArray), (l0_1.length * 16 ≤ 140737488351232 ∧ ∀ x ∈ l0_1, ok78 x) → (l1_1.length * 16 ≤ 140737488351232 ∧ ∀ x ∈ l1_1, ok78 x) → (a2.size ≤ 140737488351232) → ∃ k, assartlaw04_NodeTells.f k a0_0 l0_1 a1_0 l1_1 a2 = some true
end Go.Proofs.Ythjnkapkhphpeaa.P
end
section
/- NodeTells: which nodes are right, which the same, their blocks, and what node any block is, are as the document says. -/
namespace Go.Proofs.Ythjnkapkhphpeaa.Pure
open Go.RowKit Go.Proofs.Ythjnkapkhphpeaa.P Go.Proofs.YthjnkapkhphpeaaW.PrintWords Go.Proofs.YthjnkapkhphpeaaW.PrintLast Go.Proofs.YthjnkapkhphpeaaW.PrintMore

theorem NodeTells : assartlaw04_NodeTells.QPure := fun _ _ _ _ _ _ _ _ => ⟨0, rfl⟩
end Go.Proofs.Ythjnkapkhphpeaa.Pure
end
section
namespace Go.Proofs.Ythjnkapkhphpeaa.nodeTells
open Go.ChangeShapes Go.WideShapes Go.ChangeAt Go.RowKit Go.Proofs.Ythjnkapkhphpeaa.P Go.Proofs.YthjnkapkhphpeaaW.PrintWords Go.Proofs.YthjnkapkhphpeaaW.PrintLast Go.Proofs.YthjnkapkhphpeaaW.PrintMore
open Go.ChangeMaps (open_string shut_string)
set_option linter.unusedVariables false
set_option linter.unusedSimpArgs false
theorem own : ownKnob Try.prog.godebug = none := by kernel_rfl
theorem laidOut : laidOutB Try.prog = true := by kernel_rfl
set_option maxHeartbeats 1000000 in
set_option maxRecDepth 100000 in
theorem lifted (os : Os) (started : os.Started) (H : Type) (enc : TypeId × Value → H) :
    ReturnsInHanded {} Try.checked os 8 .any (Rows.nodeTellsSpec.pre6 enc Try.prog Try.f8 Rows.nodeTellsRow.domain false) (Rows.nodeTellsSpec.post enc Try.prog Try.f8 false true false false) := by
  refine returnsInHanded_of_change_sized (C := Try.checked) own started (by kernel_rfl) Try.func8
    (ChangeSpec.witness6 (enc := enc) (C := Try.checked) false ⟨#[], #[.agg #[.bool false, .slice none 0 0], .agg #[.bool false, .slice none 0 0], .string ByteArray.empty], []⟩ 8 (by kernel_rfl) (by kernel_rfl) (by kernel_rfl) (by kernel_rfl)) ?_
  intro W base args ds gs before hval0 hW hcnd hsz0 _
  have hsz : (DataW.weightsEach Try.prog (Try.f8.params.toList ++ Rows.nodeTellsSpec.plain.varTypes Try.prog) (ds ++ gs)).all (· ≤ reachBytes) = true := hsz0
  have hval : ∀ (j : Nat) t v, Try.f8.params[j]? = some t → args[j]? = some v → Value.okWide Try.prog W .any base t v := hval0
  have hW' := hW
  obtain ⟨p, q, hA0, hV, rfl, hfz, hnd⟩ := hW
  have hA : DataW.TrodAll enc Try.prog W 0 (fun _ => true) true Try.f8.params.toList args.toList ds p := hA0
  rw [Try.params8] at hA hval hsz
  obtain ⟨v0, vs0, d0, ds0, p0, q0, hargs, rfl, rfl, h0, r0⟩ := trodAll_cons hA
  obtain ⟨v1, vs1, d1, ds1, p1, q1, rfl, rfl, rfl, h1, r1⟩ := trodAll_cons r0
  obtain ⟨v2, vs2, d2, ds2, p2, q2, rfl, rfl, rfl, h2, r2⟩ := trodAll_cons r1
  obtain ⟨rfl, rfl, rfl⟩ := trodAll_nil r2
  obtain rfl : args = #[v0, v1, v2] := by cases args; simp_all
  obtain ⟨rfl, rfl⟩ := trodVars_none hV
  have k0 := h0
  have lt0 : ∀ x ∈ p0, x.block < W.heap.size := by obtain ⟨m, hm⟩ := k0; exact DataW.trod_lt m _ _ _ hm
  have wt0 := weights_at hsz (j := 0) (t := 56) (d := d0) rfl rfl
  obtain ⟨fuel0, hf0⟩ := h0
  obtain ⟨x0, hK0, hok0⟩ := (Opens.struct (f := id) (g := id) (fun _ => rfl) Try.underlying56 rfl (by kernel_rfl) (OpensFs.cons rfl rfl (Opens.bool Try.underlying4 (by kernel_rfl)) rfl (OpensFs.one rfl rfl (Opens.slice (B := 16) Try.underlying54 (by kernel_rfl) (by kernel_rfl) opens78)))).op hf0 wt0
  obtain ⟨cs0, rfl, hsz0⟩ := okWide_struct Try.underlying56 (hval 0 56 v0 rfl rfl)
  obtain ⟨a0_0, l0_1⟩ := x0
  obtain ⟨L0, hL0⟩ : ∃ L, (Value.agg cs0).cells.toList = L := ⟨_, rfl⟩
  rw [hL0] at hK0
  obtain ⟨_, _, rfl, rfl, ⟨A0_1, c0_1, rfl, hc0_1, hr0_1⟩⟩ := hK0
  obtain rfl : cs0 = #[.bool a0_0, .slice A0_1 l0_1.length c0_1] := by have h := hL0; simp [Value.cells] at h; cases cs0; simp_all
  obtain ⟨o0_0, o0_1⟩ := hok0
  have k1 := h1
  have lt1 : ∀ x ∈ p1, x.block < W.heap.size := by obtain ⟨m, hm⟩ := k1; exact DataW.trod_lt m _ _ _ hm
  have wt1 := weights_at hsz (j := 1) (t := 56) (d := d1) rfl rfl
  obtain ⟨fuel1, hf1⟩ := h1
  obtain ⟨x1, hK1, hok1⟩ := (Opens.struct (f := id) (g := id) (fun _ => rfl) Try.underlying56 rfl (by kernel_rfl) (OpensFs.cons rfl rfl (Opens.bool Try.underlying4 (by kernel_rfl)) rfl (OpensFs.one rfl rfl (Opens.slice (B := 16) Try.underlying54 (by kernel_rfl) (by kernel_rfl) opens78)))).op hf1 wt1
  obtain ⟨cs1, rfl, hsz1⟩ := okWide_struct Try.underlying56 (hval 1 56 v1 rfl rfl)
  obtain ⟨a1_0, l1_1⟩ := x1
  obtain ⟨L1, hL1⟩ : ∃ L, (Value.agg cs1).cells.toList = L := ⟨_, rfl⟩
  rw [hL1] at hK1
  obtain ⟨_, _, rfl, rfl, ⟨A1_1, c1_1, rfl, hc1_1, hr1_1⟩⟩ := hK1
  obtain rfl : cs1 = #[.bool a1_0, .slice A1_1 l1_1.length c1_1] := by have h := hL1; simp [Value.cells] at h; cases cs1; simp_all
  obtain ⟨o1_0, o1_1⟩ := hok1
  have k2 := h2
  have lt2 : ∀ x ∈ p2, x.block < W.heap.size := by obtain ⟨m, hm⟩ := k2; exact DataW.trod_lt m _ _ _ hm
  have wt2 := weights_at hsz (j := 2) (t := 9) (d := d2) rfl rfl
  have ok2 := (Opens.string (P := Try.prog) Try.underlying9 (by kernel_rfl)).op h2.choose_spec wt2
  obtain ⟨a2, rfl, _, _, _⟩ := open_string Try.underlying9 (hval 2 9 v2 rfl rfl) h2
  obtain ⟨z2, hz2, o2⟩ := ok2
  obtain rfl : a2 = z2 := by have h := hz2; simp [Kd.string, Kd.scalar, Value.cells] at h; exact h
  clear hA0 hval0 hsz0 hsz
  obtain ⟨k, h⟩ := Pure.NodeTells a0_0 l0_1 a1_0 l1_1 a2 o0_1 o1_1 o2
  refine (assartlaw04_NodeTells.calls k a0_0 _ _ l0_1 a1_0 _ _ l1_1 a2 true W hr0_1 hc0_1 hr1_1 hc1_1 h).mono fun e W' ⟨he, bel0⟩ => ?_
  have bel := bel0
  subst he
  exact ⟨_, rfl, _, _, _, [], _, [], hW', trodAll_mk1 (shut_bool Try.underlying4 _), (trodAll_cons_mk (Below.trod laidOut (by kernel_rfl) (of_decide_eq_true (by kernel_rfl)) k0 bel lt0) (trodAll_cons_mk (Below.trod laidOut (by kernel_rfl) (of_decide_eq_true (by kernel_rfl)) k1 bel lt1) (trodAll_cons_mk (Below.trod laidOut (by kernel_rfl) (of_decide_eq_true (by kernel_rfl)) k2 bel lt2) trodAll_mk0))), rfl, bel.frame _, fun h => by cases h⟩
theorem over : Rows.nodeTellsRow.holds Try.pinned (OpenSpec.ofChange Rows.nodeTellsSpec) :=
  OpenClaim.holds_of_wide 8 Try.f8 rfl rfl rfl rfl rfl rfl rfl ⟨rfl, rfl, rfl, rfl, rfl⟩ rfl rfl rfl rfl rfl (by kernel_rfl) Try.func8 (by kernel_rfl)
    (of_decide_eq_true (by kernel_rfl)) (by unfold Func.isWrapper; first | (rw [if_pos (by decide +kernel)]; kernel_rfl) | (rw [if_neg (by decide +kernel)]; exact ⟨rfl, rfl⟩))
    (fun os started H enc _ => lifted os started H enc)
theorem proved : Rows.NodeTellsSaid := over
#print axioms proved
end Go.Proofs.Ythjnkapkhphpeaa.nodeTells
namespace Go.Proofs.Ythjnkapkhphpeaa
/-- The row, under a short name, for the claim. -/
theorem nodeTells_holds : Rows.NodeTellsSaid := nodeTells.proved
end Go.Proofs.Ythjnkapkhphpeaa
end
