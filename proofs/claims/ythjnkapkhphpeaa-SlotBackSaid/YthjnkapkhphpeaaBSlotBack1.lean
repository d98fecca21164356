/- Texts of this claim's proof put together: F20, F25, Crc, PCrc, PSlot, F22, HShown3, HRowAt, PSpoil, HSlotBack, HRow, QSlotBack, PureSlotBack, LawSlotBack. -/
import Derived.Test.YthjnkapkhphpeaaBSlotBack0
import Derived.ChangeArms
import Derived.DataReads
import Derived.DataElems
import Derived.SizedLaws
import Derived.Test.YthjnkapkhphpeaaRows
import Derived.WalkKit
import Derived.ProofKit
import Derived.OpenShut
import Derived.ShutString
import Derived.ChangeOld
import Derived.Below
section
-- Written by a program of this session (xprint.py, over the kit's print). Not trusted: Lean checks it.
namespace Go.Proofs.Ythjnkapkhphpeaa.P
open Go.RowKit Go.Proofs.YthjnkapkhphpeaaW.PrintWords Go.Proofs.YthjnkapkhphpeaaW.PrintLast Go.Proofs.YthjnkapkhphpeaaW.PrintMore
attribute [local go_sem] max2_int min2_int max_two min_two max_three min_three max_four min_four   -- for this text's walks alone
set_option linter.unusedVariables false
set_option linter.unusedSimpArgs false

/-! ### slot_Pick: function 20 -/
def slot_Pick.j0 : Nat → Int → Int → Bool → Int → Int → Int → Int → Int → Int → Option (Int × Int × Int × Int × Int)
  | 0, _, _, _, _, _, _, _, _, _ => none
  | k + 1, x8, x10, x21, x115000, x115001, x115002, x120000, x120001, x120002 => if x21 = true then (some (0, 0, 0, 0, 4)) else (if x8 = 0 then (if x10 = 0 then (if x120000 > x115000 then (some (1, x120000, x120001, x120002, 0)) else (some (0, x115000, x115001, x115002, 0))) else (some (0, x115000, x115001, x115002, 0))) else (some (1, x120000, x120001, x120002, 0)))
def slot_Pick.f (k : Nat) (a0 : ByteArray) (a1 : ByteArray) : Option (Int × Int × Int × Int × Int) := (slot_Parse.f a0).bind fun bt110 => ((slot_Parse.f a1).bind fun bt115 => (if bt110.2.2.2 = 0 then (slot_Pick.j0 k bt110.2.2.2 bt115.2.2.2 false bt110.1 bt110.2.1 bt110.2.2.1 bt115.1 bt115.2.1 bt115.2.2.1) else (slot_Pick.j0 k bt110.2.2.2 bt115.2.2.2 (bt115.2.2.2 != 0) bt110.1 bt110.2.1 bt110.2.2.1 bt115.1 bt115.2.1 bt115.2.2.1)))
theorem slot_Pick.mono_l : ∀ k, (∀ y0 y1 y2 y3 y4 y5 y6 y7 y8, LeO (slot_Pick.j0 k y0 y1 y2 y3 y4 y5 y6 y7 y8) (slot_Pick.j0 (k + 1) y0 y1 y2 y3 y4 y5 y6 y7 y8))
  | 0 => fun _ _ _ _ _ _ _ _ _ r h => by simp [slot_Pick.j0] at h
  | k + 1 => by
    have ih0 := slot_Pick.mono_l k
    · intro y0 y1 y2 y3 y4 y5 y6 y7 y8
      unfold slot_Pick.j0
      repeat' first
      | (with_reducible exact ih0 _ _ _ _ _ _ _ _ _)
      | (with_reducible exact LeO.refl _)
      | (with_reducible exact LeO.none _)
      | (with_reducible refine LeO.ite ?_ ?_)
      | (with_reducible refine LeO.bind ?_ (fun _ => ?_))
      | exact ih0 _ _ _ _ _ _ _ _ _
      | exact LeO.none _
      | refine LeO.ite ?_ ?_
      | refine LeO.bind ?_ (fun _ => ?_)
theorem slot_Pick.mono : ∀ a0 a1 k, LeO (slot_Pick.f k a0 a1) (slot_Pick.f (k + 1) a0 a1) := by
  intro a0 a1 k
  have ih0 := slot_Pick.mono_l k
  unfold slot_Pick.f
  repeat' first
      | (with_reducible exact ih0 _ _ _ _ _ _ _ _ _)
      | (with_reducible exact LeO.refl _)
      | (with_reducible exact LeO.none _)
      | (with_reducible refine LeO.ite ?_ ?_)
      | (with_reducible refine LeO.bind ?_ (fun _ => ?_))
      | exact ih0 _ _ _ _ _ _ _ _ _
      | exact LeO.none _
      | refine LeO.ite ?_ ?_
      | refine LeO.bind ?_ (fun _ => ?_)
set_option maxHeartbeats 8000000 in
set_option maxRecDepth 100000 in
theorem slot_Pick.calls (k : Nat) (a0 : ByteArray) (a1 : ByteArray) (r1 : Int) (r2 : Int) (r3 : Int) (r4 : Int) (r5 : Int) (w : World) (h : slot_Pick.f k a0 a1 = some (r1, r2, r3, r4, r5)) :
    Calls Try.prog 20 #[.string a0, .string a1] w fun e w' => e = .returned (.tuple #[.int .i64 r1, .agg #[.int .i64 r2, .int .i64 r3, .int .i64 r4], .int .i64 r5]) ∧ Below w.heap.size w w' := by
  have hu23 := Try.underlying23
  have HB := Aside0.mk (Below.refl w.heap.size w)
  have H : ((slot_Parse.f a0).bind fun bt110 => ((slot_Parse.f a1).bind fun bt115 => (if bt110.2.2.2 = 0 then (slot_Pick.j0 k bt110.2.2.2 bt115.2.2.2 false bt110.1 bt110.2.1 bt110.2.2.1 bt115.1 bt115.2.1 bt115.2.2.1) else (slot_Pick.j0 k bt110.2.2.2 bt115.2.2.2 (bt115.2.2.2 != 0) bt110.1 bt110.2.1 bt110.2.2.1 bt115.1 bt115.2.1 bt115.2.2.1)))) = some (r1, r2, r3, r4, r5) := h
  clear h
  replace H := Option.bind_eq_some_iff.mp H
  obtain ⟨⟨t110, t111, t112, t113⟩, A30, H⟩ := H
  replace H : ((slot_Parse.f a1).bind fun bt115 => (if t113 = 0 then (slot_Pick.j0 k t113 bt115.2.2.2 false t110 t111 t112 bt115.1 bt115.2.1 bt115.2.2.1) else (slot_Pick.j0 k t113 bt115.2.2.2 (bt115.2.2.2 != 0) t110 t111 t112 bt115.1 bt115.2.1 bt115.2.2.1))) = some (r1, r2, r3, r4, r5) := H
  have A3 := Aside0.mk A30
  clear A30
  replace H := Option.bind_eq_some_iff.mp H
  obtain ⟨⟨t115, t116, t117, t118⟩, A40, H⟩ := H
  replace H : (if t113 = 0 then (slot_Pick.j0 k t113 t118 false t110 t111 t112 t115 t116 t117) else (slot_Pick.j0 k t113 t118 (t118 != 0) t110 t111 t112 t115 t116 t117)) = some (r1, r2, r3, r4, r5) := H
  have A4 := Aside0.mk A40
  clear A40
  have HC5 := Aside0.mk H
  clear H
  go_enter Try.func20, Try.ntmps20
  go_upto_region 3 with (first | ((with_reducible refine gate_dst (N := 5) rfl ?_); refine box_event ?hg (N := 5) ?hd (cs := #[.int .i64 0, .int .i64 0, .int .i64 0]) (t := 23) ?hr ?_; (case hd => rfl); (case hg => rfl); (case hr => first | (go_simp; done) | (go_simp; rfl)); intro gb109 hg w6 hbox hb; have n0_ := Aside0.mk (below_step (by repeat (first | (with_reducible first | exact HB.out | apply below_alloc | apply pw_below_drewN | apply below_drew1) | exact HB.out)) hb); have n1_ := Aside0.mk (hbox); have n2_ := Aside0.mk ((by rw [hg]; exact (below_size (by repeat (first | (with_reducible first | exact HB.out | apply below_alloc | apply pw_below_drewN | apply below_drew1) | exact HB.out))) : w.heap.size ≤ gb109)); have n3_ := Aside0.mk ((by rw [hg]; exact (below_size (by repeat (first | (with_reducible first | exact HB.out | apply below_alloc | apply pw_below_drewN | apply below_drew1) | exact HB.out))) : w.heap.size ≤ gb109)); clear HB; have HB := n0_; have BK109 := n1_; have GW109 := n2_; have GE109 := n3_; clear n0_ n1_ n2_ n3_; clear hb hbox hg) | ((with_reducible refine gate_callee (f := 18) rfl ?_); refine goesL_ (some 13) rfl rfl Try.func18 (by kernel_rfl) rfl #[.string a0] rfl (by (try simp only [List.map_toArray, List.map_cons, List.map_nil]); first | done | rfl | (simp only [List.length_drop, List.length_take]; rfl)) ?_; (with_reducible refine (slot_Parse.calls a0 t110 t111 t112 t113 _ A3.out).mono ?_); rintro e w7 ⟨rfl, hb⟩; refine ⟨_, rfl, ?_⟩; have n0_ := Aside0.mk (blk_below (g := gb109) (o := .cells #[.int .i64 0, .int .i64 0, .int .i64 0] 23 (0, 0)) (by (with_reducible repeat (first | refine blk_drewN ?_ _ | refine blk_drew ?_ | refine blk_alloc ?_ _)); exact BK109.out) hb); have n1_ := Aside0.mk (below_step (by repeat (first | (with_reducible first | exact HB.out | apply below_alloc | apply pw_below_drewN | apply below_drew1 | refine below_set ?_ GE109.out) | exact HB.out)) hb); clear BK109; clear HB; have BK109 := n0_; have HB := n1_; clear n0_ n1_; (try clear hb); (try clear hb2); (try clear hk); (try clear hi)) | ((with_reducible refine gate_dst (N := 7) rfl ?_); refine box_event ?hg (N := 7) ?hd (cs := #[.int .i64 0, .int .i64 0, .int .i64 0]) (t := 23) ?hr ?_; (case hd => rfl); (case hg => rfl); (case hr => first | (go_simp; done) | (go_simp; rfl)); intro gb114 hg w8 hbox hb; have n0_ := Aside0.mk (blk_below (g := gb109) (o := .cells #[.int .i64 0, .int .i64 0, .int .i64 0] 23 (0, 0)) (by (with_reducible repeat (first | refine blk_drewN ?_ _ | refine blk_drew ?_ | refine blk_alloc ?_ _)); exact BK109.out) hb); have n1_ := Aside0.mk (below_step (by repeat (first | (with_reducible first | exact HB.out | apply below_alloc | apply pw_below_drewN | apply below_drew1 | refine below_set ?_ GE109.out) | exact HB.out)) hb); have n2_ := Aside0.mk (hbox); have n3_ := Aside0.mk ((by rw [hg]; exact (below_size (by repeat (first | (with_reducible first | exact HB.out | apply below_alloc | apply pw_below_drewN | apply below_drew1 | refine below_set ?_ GE109.out) | exact HB.out))) : w.heap.size ≤ gb114)); have n4_ := Aside0.mk ((by rw [hg]; exact (below_size (by repeat (first | (with_reducible first | exact HB.out | apply below_alloc | apply pw_below_drewN | apply below_drew1 | refine below_set ?_ GE109.out) | exact HB.out))) : w.heap.size ≤ gb114)); have n5_ := Aside0.mk ((by rw [hg]; exact Nat.ne_of_lt (blk_lt (g := gb109) (o := .cells #[.int .i64 0, .int .i64 0, .int .i64 0] 23 (0, 0)) (by (with_reducible repeat (first | refine blk_drewN ?_ _ | refine blk_drew ?_ | refine blk_alloc ?_ _)); exact BK109.out)) : gb109 ≠ gb114)); have n6_ := Aside0.mk ((by rw [hg]; exact Nat.ne_of_gt (blk_lt (g := gb109) (o := .cells #[.int .i64 0, .int .i64 0, .int .i64 0] 23 (0, 0)) (by (with_reducible repeat (first | refine blk_drewN ?_ _ | refine blk_drew ?_ | refine blk_alloc ?_ _)); exact BK109.out)) : gb114 ≠ gb109)); clear BK109; clear HB; have BK109 := n0_; have HB := n1_; have BK114 := n2_; have GW114 := n3_; have GE114 := n4_; have NB109_114 := n5_; have NB114_109 := n6_; clear n0_ n1_ n2_ n3_ n4_ n5_ n6_; clear hb hbox hg; have hnb9 := NB114_109.out; have hnc9 := NB109_114.out; have hcz10_0 : w8.cell? ⟨gb114, 0, none⟩ = some (.int .i64 0) := (blk_cell BK114.out 0).trans rfl; have hcz10_1 : w8.cell? ⟨gb114, 1, none⟩ = some (.int .i64 0) := (blk_cell BK114.out 1).trans rfl; have hcz10_2 : w8.cell? ⟨gb114, 2, none⟩ = some (.int .i64 0) := (blk_cell BK114.out 2).trans rfl; have hfz10_0 := blk_frozen BK114.out 0; have hfz10_1 := blk_frozen BK114.out 1; have hfz10_2 := blk_frozen BK114.out 2) | ((with_reducible refine gate_callee (f := 18) rfl ?_); refine goesL_ (some 18) rfl rfl Try.func18 (by kernel_rfl) rfl #[.string a1] rfl (by (try simp only [List.map_toArray, List.map_cons, List.map_nil]); first | done | rfl | (simp only [List.length_drop, List.length_take]; rfl)) ?_; (with_reducible refine (slot_Parse.calls a1 t115 t116 t117 t118 _ A4.out).mono ?_); rintro e w11 ⟨rfl, hb⟩; refine ⟨_, rfl, ?_⟩; have n0_ := Aside0.mk (blk_below (g := gb109) (o := .cells #[.int .i64 0, .int .i64 0, .int .i64 0] 23 (0, 0)) (by (with_reducible repeat (first | refine blk_drewN ?_ _ | refine blk_drew ?_ | refine blk_alloc ?_ _)); refine blk_far ?_ NB109_114.out _; (with_reducible repeat (first | refine blk_drewN ?_ _ | refine blk_drew ?_ | refine blk_alloc ?_ _)); refine blk_far ?_ NB109_114.out _; (with_reducible repeat (first | refine blk_drewN ?_ _ | refine blk_drew ?_ | refine blk_alloc ?_ _)); refine blk_far ?_ NB109_114.out _; (with_reducible repeat (first | refine blk_drewN ?_ _ | refine blk_drew ?_ | refine blk_alloc ?_ _)); exact BK109.out) hb); have n1_ := Aside0.mk (blk_below (g := gb114) (o := .cells #[.int .i64 t110, .int .i64 t111, .int .i64 t112] 23 (0, 0)) (by (with_reducible repeat (first | refine blk_drewN ?_ _ | refine blk_drew ?_ | refine blk_alloc ?_ _)); refine blk_put (cs := #[.int .i64 t110, .int .i64 t111, .int .i64 0]) ?_ 2 _ rfl; (with_reducible repeat (first | refine blk_drewN ?_ _ | refine blk_drew ?_ | refine blk_alloc ?_ _)); refine blk_put (cs := #[.int .i64 t110, .int .i64 0, .int .i64 0]) ?_ 1 _ rfl; (with_reducible repeat (first | refine blk_drewN ?_ _ | refine blk_drew ?_ | refine blk_alloc ?_ _)); refine blk_put (cs := #[.int .i64 0, .int .i64 0, .int .i64 0]) ?_ 0 _ rfl; (with_reducible repeat (first | refine blk_drewN ?_ _ | refine blk_drew ?_ | refine blk_alloc ?_ _)); exact BK114.out) hb); have n2_ := Aside0.mk (below_step (by repeat (first | (with_reducible first | exact HB.out | apply below_alloc | apply pw_below_drewN | apply below_drew1 | refine below_set ?_ GE109.out | refine below_set ?_ GE114.out) | exact HB.out)) hb); clear BK109; clear BK114; clear HB; have BK109 := n0_; have BK114 := n1_; have HB := n2_; clear n0_ n1_ n2_; (try clear hb); (try clear hb2); (try clear hk); (try clear hi)) | ((with_reducible refine gate_dst (N := 9) rfl ?_); refine box_event ?hg (N := 9) ?hd (cs := #[.int .i64 0, .int .i64 0, .int .i64 0]) (t := 23) ?hr ?_; (case hd => rfl); (case hg => rfl); (case hr => first | (go_simp; done) | (go_simp; rfl)); intro gb119 hg w12 hbox hb; have n0_ := Aside0.mk (blk_below (g := gb109) (o := .cells #[.int .i64 0, .int .i64 0, .int .i64 0] 23 (0, 0)) (by (with_reducible repeat (first | refine blk_drewN ?_ _ | refine blk_drew ?_ | refine blk_alloc ?_ _)); exact BK109.out) hb); have n1_ := Aside0.mk (blk_below (g := gb114) (o := .cells #[.int .i64 t110, .int .i64 t111, .int .i64 t112] 23 (0, 0)) (by (with_reducible repeat (first | refine blk_drewN ?_ _ | refine blk_drew ?_ | refine blk_alloc ?_ _)); exact BK114.out) hb); have n2_ := Aside0.mk (below_step (by repeat (first | (with_reducible first | exact HB.out | apply below_alloc | apply pw_below_drewN | apply below_drew1 | refine below_set ?_ GE109.out | refine below_set ?_ GE114.out) | exact HB.out)) hb); have n3_ := Aside0.mk (hbox); have n4_ := Aside0.mk ((by rw [hg]; exact (below_size (by repeat (first | (with_reducible first | exact HB.out | apply below_alloc | apply pw_below_drewN | apply below_drew1 | refine below_set ?_ GE109.out | refine below_set ?_ GE114.out) | exact HB.out))) : w.heap.size ≤ gb119)); have n5_ := Aside0.mk ((by rw [hg]; exact (below_size (by repeat (first | (with_reducible first | exact HB.out | apply below_alloc | apply pw_below_drewN | apply below_drew1 | refine below_set ?_ GE109.out | refine below_set ?_ GE114.out) | exact HB.out))) : w.heap.size ≤ gb119)); have n6_ := Aside0.mk ((by rw [hg]; exact Nat.ne_of_lt (blk_lt (g := gb109) (o := .cells #[.int .i64 0, .int .i64 0, .int .i64 0] 23 (0, 0)) (by (with_reducible repeat (first | refine blk_drewN ?_ _ | refine blk_drew ?_ | refine blk_alloc ?_ _)); exact BK109.out)) : gb109 ≠ gb119)); have n7_ := Aside0.mk ((by rw [hg]; exact Nat.ne_of_gt (blk_lt (g := gb109) (o := .cells #[.int .i64 0, .int .i64 0, .int .i64 0] 23 (0, 0)) (by (with_reducible repeat (first | refine blk_drewN ?_ _ | refine blk_drew ?_ | refine blk_alloc ?_ _)); exact BK109.out)) : gb119 ≠ gb109)); have n8_ := Aside0.mk ((by rw [hg]; exact Nat.ne_of_lt (blk_lt (g := gb114) (o := .cells #[.int .i64 t110, .int .i64 t111, .int .i64 t112] 23 (0, 0)) (by (with_reducible repeat (first | refine blk_drewN ?_ _ | refine blk_drew ?_ | refine blk_alloc ?_ _)); exact BK114.out)) : gb114 ≠ gb119)); have n9_ := Aside0.mk ((by rw [hg]; exact Nat.ne_of_gt (blk_lt (g := gb114) (o := .cells #[.int .i64 t110, .int .i64 t111, .int .i64 t112] 23 (0, 0)) (by (with_reducible repeat (first | refine blk_drewN ?_ _ | refine blk_drew ?_ | refine blk_alloc ?_ _)); exact BK114.out)) : gb119 ≠ gb114)); clear BK109; clear BK114; clear HB; have BK109 := n0_; have BK114 := n1_; have HB := n2_; have BK119 := n3_; have GW119 := n4_; have GE119 := n5_; have NB109_119 := n6_; have NB119_109 := n7_; have NB114_119 := n8_; have NB119_114 := n9_; clear n0_ n1_ n2_ n3_ n4_ n5_ n6_ n7_ n8_ n9_; clear hb hbox hg; have hnb13 := NB119_109.out; have hnc13 := NB109_119.out; have hnb14 := NB119_114.out; have hnc14 := NB114_119.out; have hcz15_0 : w12.cell? ⟨gb119, 0, none⟩ = some (.int .i64 0) := (blk_cell BK119.out 0).trans rfl; have hcz15_1 : w12.cell? ⟨gb119, 1, none⟩ = some (.int .i64 0) := (blk_cell BK119.out 1).trans rfl; have hcz15_2 : w12.cell? ⟨gb119, 2, none⟩ = some (.int .i64 0) := (blk_cell BK119.out 2).trans rfl; have hfz15_0 := blk_frozen BK119.out 0; have hfz15_1 := blk_frozen BK119.out 1; have hfz15_2 := blk_frozen BK119.out 2))
  (try simp only [Act.put, List.setIfInBounds_toArray, List.set_cons_zero, List.set_cons_succ])
  go_cut [21] (fun v21 wc => ∃ (kq : Nat) (x21_4 : Bool), v21 = .bool x21_4 ∧ Aside0 (slot_Pick.j0 kq t113 t118 x21_4 t110 t111 t112 t115 t116 t117 = some (r1, r2, r3, r4, r5)) ∧ Aside0 (kq ≤ k) ∧ Aside0 (wc.heap[gb109]? = some (.cells #[.int .i64 0, .int .i64 0, .int .i64 0] 23 (0, 0))) ∧ Aside0 (wc.heap[gb114]? = some (.cells #[.int .i64 t110, .int .i64 t111, .int .i64 t112] 23 (0, 0))) ∧ Aside0 (wc.heap[gb119]? = some (.cells #[.int .i64 t115, .int .i64 t116, .int .i64 t117] 23 (0, 0))) ∧ Aside0 (Below w.heap.size w wc))
  case first =>
    have H := HC5.out
    clear HC5
    by_cases c16 : t113 = 0
    · rw [if_pos c16] at H
      have c16b0 : (t113 == 0) = true := beq_iff_eq.mpr c16
      have c16b1 : (t113 != 0) = false := bne_eq_false_iff_eq.mpr c16
      clear c16
      (first | rw [c16b0] | (simp only [i64_w, i32_w]; rw [c16b0]) | skip)
      have H' := Aside0.mk H
      clear H
      go_wp2
      go_meet
      case rel => exact ⟨_, (false), (by first | rfl | (simp; done) | (simp [*]; done)), H', ⟨by first | omega | exact Nat.le_refl _⟩, ⟨by (with_reducible repeat (first | refine blk_drewN ?_ _ | refine blk_drew ?_ | refine blk_alloc ?_ _)); refine blk_far ?_ NB109_119.out _; (with_reducible repeat (first | refine blk_drewN ?_ _ | refine blk_drew ?_ | refine blk_alloc ?_ _)); refine blk_far ?_ NB109_119.out _; (with_reducible repeat (first | refine blk_drewN ?_ _ | refine blk_drew ?_ | refine blk_alloc ?_ _)); refine blk_far ?_ NB109_119.out _; (with_reducible repeat (first | refine blk_drewN ?_ _ | refine blk_drew ?_ | refine blk_alloc ?_ _)); exact BK109.out⟩, ⟨by (with_reducible repeat (first | refine blk_drewN ?_ _ | refine blk_drew ?_ | refine blk_alloc ?_ _)); refine blk_far ?_ NB114_119.out _; (with_reducible repeat (first | refine blk_drewN ?_ _ | refine blk_drew ?_ | refine blk_alloc ?_ _)); refine blk_far ?_ NB114_119.out _; (with_reducible repeat (first | refine blk_drewN ?_ _ | refine blk_drew ?_ | refine blk_alloc ?_ _)); refine blk_far ?_ NB114_119.out _; (with_reducible repeat (first | refine blk_drewN ?_ _ | refine blk_drew ?_ | refine blk_alloc ?_ _)); exact BK114.out⟩, ⟨by (with_reducible repeat (first | refine blk_drewN ?_ _ | refine blk_drew ?_ | refine blk_alloc ?_ _)); refine blk_put (cs := #[.int .i64 t115, .int .i64 t116, .int .i64 0]) ?_ 2 _ rfl; (with_reducible repeat (first | refine blk_drewN ?_ _ | refine blk_drew ?_ | refine blk_alloc ?_ _)); refine blk_put (cs := #[.int .i64 t115, .int .i64 0, .int .i64 0]) ?_ 1 _ rfl; (with_reducible repeat (first | refine blk_drewN ?_ _ | refine blk_drew ?_ | refine blk_alloc ?_ _)); refine blk_put (cs := #[.int .i64 0, .int .i64 0, .int .i64 0]) ?_ 0 _ rfl; (with_reducible repeat (first | refine blk_drewN ?_ _ | refine blk_drew ?_ | refine blk_alloc ?_ _)); exact BK119.out⟩, ⟨by repeat (first | (with_reducible first | exact HB.out | apply below_alloc | apply pw_below_drewN | apply below_drew1 | refine below_set ?_ GE109.out | refine below_set ?_ GE114.out | refine below_set ?_ GE119.out) | exact HB.out)⟩⟩
    · rw [if_neg c16] at H
      have c16b0 : (t113 == 0) = false := beq_eq_false_iff_ne.mpr c16
      have c16b1 : (t113 != 0) = true := bne_iff_ne.mpr c16
      (first | rw [c16b0] | (simp only [i64_w, i32_w]; rw [c16b0]) | skip)
      have H' := Aside0.mk H
      clear H
      go_wp2
      go_meet
      case rel => exact ⟨_, ((t118 != 0)), (by first | rfl | (simp; done) | (simp [*]; done)), H', ⟨by first | omega | exact Nat.le_refl _⟩, ⟨by (with_reducible repeat (first | refine blk_drewN ?_ _ | refine blk_drew ?_ | refine blk_alloc ?_ _)); refine blk_far ?_ NB109_119.out _; (with_reducible repeat (first | refine blk_drewN ?_ _ | refine blk_drew ?_ | refine blk_alloc ?_ _)); refine blk_far ?_ NB109_119.out _; (with_reducible repeat (first | refine blk_drewN ?_ _ | refine blk_drew ?_ | refine blk_alloc ?_ _)); refine blk_far ?_ NB109_119.out _; (with_reducible repeat (first | refine blk_drewN ?_ _ | refine blk_drew ?_ | refine blk_alloc ?_ _)); exact BK109.out⟩, ⟨by (with_reducible repeat (first | refine blk_drewN ?_ _ | refine blk_drew ?_ | refine blk_alloc ?_ _)); refine blk_far ?_ NB114_119.out _; (with_reducible repeat (first | refine blk_drewN ?_ _ | refine blk_drew ?_ | refine blk_alloc ?_ _)); refine blk_far ?_ NB114_119.out _; (with_reducible repeat (first | refine blk_drewN ?_ _ | refine blk_drew ?_ | refine blk_alloc ?_ _)); refine blk_far ?_ NB114_119.out _; (with_reducible repeat (first | refine blk_drewN ?_ _ | refine blk_drew ?_ | refine blk_alloc ?_ _)); exact BK114.out⟩, ⟨by (with_reducible repeat (first | refine blk_drewN ?_ _ | refine blk_drew ?_ | refine blk_alloc ?_ _)); refine blk_put (cs := #[.int .i64 t115, .int .i64 t116, .int .i64 0]) ?_ 2 _ rfl; (with_reducible repeat (first | refine blk_drewN ?_ _ | refine blk_drew ?_ | refine blk_alloc ?_ _)); refine blk_put (cs := #[.int .i64 t115, .int .i64 0, .int .i64 0]) ?_ 1 _ rfl; (with_reducible repeat (first | refine blk_drewN ?_ _ | refine blk_drew ?_ | refine blk_alloc ?_ _)); refine blk_put (cs := #[.int .i64 0, .int .i64 0, .int .i64 0]) ?_ 0 _ rfl; (with_reducible repeat (first | refine blk_drewN ?_ _ | refine blk_drew ?_ | refine blk_alloc ?_ _)); exact BK119.out⟩, ⟨by repeat (first | (with_reducible first | exact HB.out | apply below_alloc | apply pw_below_drewN | apply below_drew1 | refine below_set ?_ GE109.out | refine below_set ?_ GE114.out | refine below_set ?_ GE119.out) | exact HB.out)⟩⟩
  case rest =>
    clear HC5
    try clear c1
    try clear c2
    try clear p2
    try clear c9
    try clear c13
    try clear c14
    try clear c16
    try clear c16b0
    try clear c16b1
    try clear hcz10_0
    try clear hcz10_1
    try clear hcz10_2
    try clear hcz15_0
    try clear hcz15_1
    try clear hcz15_2
    try clear hfz10_0
    try clear hfz10_1
    try clear hfz10_2
    try clear hfz15_0
    try clear hfz15_1
    try clear hfz15_2
    obtain ⟨kq, x21_4, rfl, HA, HJ4, BK109, BK114, BK119, HB⟩ := hcut
    cases kq with
    | zero => exact absurd HA.out (by simp [slot_Pick.j0])
    | succ kj4 =>
      have H := HA.out
      clear HA
      simp only [slot_Pick.j0] at H
      by_cases c17 : x21_4 = true
      · subst c17
        have H1 : (some (0, 0, 0, 0, 4)) = some (r1, r2, r3, r4, r5) := by rw [if_pos rfl] at H; exact H
        clear H
        have H := H1
        clear H1
        simp only [Option.some.injEq, Prod.mk.injEq] at H
        obtain ⟨rfl, rfl, rfl, rfl, rfl⟩ := H
        have hnb18 := NB109_114.out
        have hnc18 := NB114_109.out
        have hnb19 := NB109_119.out
        have hnc19 := NB119_109.out
        have hcz20_0 : wc.cell? ⟨gb109, 0, none⟩ = some (.int .i64 0) := (blk_cell BK109.out 0).trans rfl
        have hcz20_1 : wc.cell? ⟨gb109, 1, none⟩ = some (.int .i64 0) := (blk_cell BK109.out 1).trans rfl
        have hcz20_2 : wc.cell? ⟨gb109, 2, none⟩ = some (.int .i64 0) := (blk_cell BK109.out 2).trans rfl
        have hfz20_0 := blk_frozen BK109.out 0
        have hfz20_1 := blk_frozen BK109.out 1
        have hfz20_2 := blk_frozen BK109.out 2
        go_wp2
        refine bodyPost_ret (results_list (rs := [.tmp 4, .cell 5 23, .tmp 6]) rfl (by simp) (.tmp (.cell gb109 23 #[.int .i64 0, .int .i64 0, .int .i64 0] (0, 0) _ rfl (by (with_reducible repeat (first | refine blk_drewN ?_ _ | refine blk_drew ?_ | refine blk_alloc ?_ _)); refine blk_put (cs := #[.int .i64 0, .int .i64 0, .int .i64 0]) ?_ 2 _ rfl; (with_reducible repeat (first | refine blk_drewN ?_ _ | refine blk_drew ?_ | refine blk_alloc ?_ _)); refine blk_put (cs := #[.int .i64 0, .int .i64 0, .int .i64 0]) ?_ 1 _ rfl; (with_reducible repeat (first | refine blk_drewN ?_ _ | refine blk_drew ?_ | refine blk_alloc ?_ _)); refine blk_put (cs := #[.int .i64 0, .int .i64 0, .int .i64 0]) ?_ 0 _ rfl; (with_reducible repeat (first | refine blk_drewN ?_ _ | refine blk_drew ?_ | refine blk_alloc ?_ _)); exact BK109.out) Try.underlying23 rfl (by kernel_rfl) (.tmp .nil)))) rfl ?_
        exact ⟨by first | rfl | (simp [errW_none, errW_some] <;> rfl) | (simp [*, errW_none, errW_some] <;> rfl), by repeat (first | (with_reducible first | exact HB.out | apply below_alloc | apply pw_below_drewN | apply below_drew1 | refine below_set ?_ GE109.out | refine below_set ?_ GE114.out | refine below_set ?_ GE119.out) | exact HB.out)⟩
      · replace c17 := Bool.eq_false_iff.mpr c17
        subst c17
        have H1 : (if t113 = 0 then (if t118 = 0 then (if t115 > t110 then (some (1, t115, t116, t117, 0)) else (some (0, t110, t111, t112, 0))) else (some (0, t110, t111, t112, 0))) else (some (1, t115, t116, t117, 0))) = some (r1, r2, r3, r4, r5) := by rw [if_neg (show ¬ (false = true) by decide)] at H; exact H
        clear H
        have H := H1
        clear H1
        by_cases c21 : t113 = 0
        · rw [if_pos c21] at H
          have c21b0 : (t113 == 0) = true := beq_iff_eq.mpr c21
          have c21b1 : (t113 != 0) = false := bne_eq_false_iff_eq.mpr c21
          clear c21
          by_cases c22 : t118 = 0
          · rw [if_pos c22] at H
            have c22b0 : (t118 == 0) = true := beq_iff_eq.mpr c22
            have c22b1 : (t118 != 0) = false := bne_eq_false_iff_eq.mpr c22
            clear c22
            by_cases c23 : t115 > t110
            · rw [if_pos c23] at H
              have c23b0 : decide (t110 < t115) = true := decide_eq_true c23
              clear c23
              simp only [Option.some.injEq, Prod.mk.injEq] at H
              obtain ⟨rfl, rfl, rfl, rfl, rfl⟩ := H
              have hnb24 := NB119_109.out
              have hnc24 := NB109_119.out
              have hnb25 := NB119_114.out
              have hnc25 := NB114_119.out
              have hcz26_0 : wc.cell? ⟨gb119, 0, none⟩ = some (.int .i64 t115) := (blk_cell BK119.out 0).trans rfl
              have hcz26_1 : wc.cell? ⟨gb119, 1, none⟩ = some (.int .i64 t116) := (blk_cell BK119.out 1).trans rfl
              have hcz26_2 : wc.cell? ⟨gb119, 2, none⟩ = some (.int .i64 t117) := (blk_cell BK119.out 2).trans rfl
              have hfz26_0 := blk_frozen BK119.out 0
              have hfz26_1 := blk_frozen BK119.out 1
              have hfz26_2 := blk_frozen BK119.out 2
              have hnb27 := NB114_109.out
              have hnc27 := NB109_114.out
              have hcz28_0 : wc.cell? ⟨gb114, 0, none⟩ = some (.int .i64 t110) := (blk_cell BK114.out 0).trans rfl
              have hcz28_1 : wc.cell? ⟨gb114, 1, none⟩ = some (.int .i64 t111) := (blk_cell BK114.out 1).trans rfl
              have hcz28_2 : wc.cell? ⟨gb114, 2, none⟩ = some (.int .i64 t112) := (blk_cell BK114.out 2).trans rfl
              have hfz28_0 := blk_frozen BK114.out 0
              have hfz28_1 := blk_frozen BK114.out 1
              have hfz28_2 := blk_frozen BK114.out 2
              try go_wp2
              have n0_ := Aside0.mk (blk_drew BK109.out)
              have n1_ := Aside0.mk (blk_drew BK114.out)
              have n2_ := Aside0.mk (blk_drew BK119.out)
              have n3_ := Aside0.mk (below_drew1 HB.out)
              clear BK109
              clear BK114
              clear BK119
              clear HB
              have BK109 := n0_
              have BK114 := n1_
              have BK119 := n2_
              have HB := n3_
              clear n0_ n1_ n2_ n3_
              refine start_ (n := 4) (S := fun w' => w'.cell? ⟨gb119, 0, none⟩ = some (.int .i64 t115) ∧ w'.cell? ⟨gb119, 1, none⟩ = some (.int .i64 t116) ∧ w'.cell? ⟨gb119, 2, none⟩ = some (.int .i64 t117)) (ds := []) #[false, false, false, false] (by kernel_rfl) rfl rfl ⟨(blk_cell BK119.out 0).trans rfl, (blk_cell BK119.out 1).trans rfl, (blk_cell BK119.out 2).trans rfl⟩ (fun hHeld => ?_)
              generalize wc.drew = w29 at BK109 BK114 BK119 HB hHeld ⊢
              refine pure_ (i := 1) (N := some 4) (v := ?_) (a' := ?_) #[false, true, false, false] rfl rfl (by kernel_rfl) (fun _ _ _ h => h) (Or.inl ⟨by rfl, ?_⟩) ?_ ?_
              rotate_left
              · intro w'
                go_simp
                with_reducible rfl
              rotate_left
              · simp only [Act.put, List.setIfInBounds_toArray, List.set_cons_zero, List.set_cons_succ, i64_w, i32_w]
                rfl
              refine take_ (i := 0) (N := some 43) (v := ?_) (a' := ?_) #[true, true, false, false] rfl rfl (by kernel_rfl) (fun _ _ _ h => h) (Or.inl ⟨by rfl, ?_⟩) hHeld ?_ ?_
              rotate_left
              · rintro w' ⟨s0, s1, s2⟩
                go_simp
                with_reducible rfl
              rotate_left
              · simp only [Act.put, List.setIfInBounds_toArray, List.set_cons_zero, List.set_cons_succ, i64_w, i32_w]
                rfl
              refine one_ (i := 2) (N := none) #[true, true, true, false] rfl rfl (by kernel_rfl) (by decide) (fun K hK => ?_)
              have hs30 : w29.cell? ⟨gb109, 0, none⟩ = some (.int .i64 0) := (blk_cell BK109.out 0).trans rfl
              have hfs30 := blk_frozen BK109.out 0
              have hns30_1 := NB114_109.out
              have hns30_2 := NB119_109.out
              have hms30_1 := NB109_114.out
              have hms30_2 := NB109_119.out
              have hs31 : w29.cell? ⟨gb109, 1, none⟩ = some (.int .i64 0) := (blk_cell BK109.out 1).trans rfl
              have hfs31 := blk_frozen BK109.out 1
              have hns31_1 := NB114_109.out
              have hns31_2 := NB119_109.out
              have hms31_1 := NB109_114.out
              have hms31_2 := NB109_119.out
              have hs32 : w29.cell? ⟨gb109, 2, none⟩ = some (.int .i64 0) := (blk_cell BK109.out 2).trans rfl
              have hfs32 := blk_frozen BK109.out 2
              have hns32_1 := NB114_109.out
              have hns32_2 := NB119_109.out
              have hms32_1 := NB109_114.out
              have hms32_2 := NB109_119.out
              refine skip_ (w1 := ?_) (by rfl) rfl ?_ ?_
              rotate_left
              · go_simp
                rfl
              refine hK.out _ _ ⟨((cell_far (p := ⟨gb109, _, none⟩) NB119_109.out _).trans (((cell_far (p := ⟨gb109, _, none⟩) NB119_109.out _).trans (((cell_far (p := ⟨gb109, _, none⟩) NB119_109.out _).trans (hHeld.1)))))), ((cell_far (p := ⟨gb109, _, none⟩) NB119_109.out _).trans (((cell_far (p := ⟨gb109, _, none⟩) NB119_109.out _).trans (((cell_far (p := ⟨gb109, _, none⟩) NB119_109.out _).trans (hHeld.2.1)))))), ((cell_far (p := ⟨gb109, _, none⟩) NB119_109.out _).trans (((cell_far (p := ⟨gb109, _, none⟩) NB119_109.out _).trans (((cell_far (p := ⟨gb109, _, none⟩) NB119_109.out _).trans (hHeld.2.2))))))⟩ (fun hHeld => ?_)
              clear hK K
              refine pure_ (i := 3) (N := some 6) (v := ?_) (a' := ?_) #[true, true, true, true] rfl rfl (by kernel_rfl) (fun _ _ _ h => h) (Or.inl ⟨by rfl, ?_⟩) ?_ ?_
              rotate_left
              · intro w'
                go_simp
                with_reducible rfl
              rotate_left
              · simp only [Act.put, List.setIfInBounds_toArray, List.set_cons_zero, List.set_cons_succ, i64_w, i32_w]
                rfl
              refine done_ (by kernel_rfl) ?_
              try go_wp2
              refine bodyPost_ret (results_list (rs := [.tmp 4, .cell 5 23, .tmp 6]) rfl (by simp) (.tmp (.cell gb109 23 #[.int .i64 t115, .int .i64 t116, .int .i64 t117] (0, 0) _ rfl (by (with_reducible repeat (first | refine blk_drewN ?_ _ | refine blk_drew ?_ | refine blk_alloc ?_ _)); refine blk_put (cs := #[.int .i64 t115, .int .i64 t116, .int .i64 0]) ?_ 2 _ rfl; (with_reducible repeat (first | refine blk_drewN ?_ _ | refine blk_drew ?_ | refine blk_alloc ?_ _)); refine blk_put (cs := #[.int .i64 t115, .int .i64 0, .int .i64 0]) ?_ 1 _ rfl; (with_reducible repeat (first | refine blk_drewN ?_ _ | refine blk_drew ?_ | refine blk_alloc ?_ _)); refine blk_put (cs := #[.int .i64 0, .int .i64 0, .int .i64 0]) ?_ 0 _ rfl; (with_reducible repeat (first | refine blk_drewN ?_ _ | refine blk_drew ?_ | refine blk_alloc ?_ _)); exact BK109.out) Try.underlying23 rfl (by kernel_rfl) (.tmp .nil)))) rfl ?_
              exact ⟨by first | rfl | (simp [errW_none, errW_some] <;> rfl) | (simp [*, errW_none, errW_some] <;> rfl), by repeat (first | (with_reducible first | exact HB.out | apply below_alloc | apply pw_below_drewN | apply below_drew1 | refine below_set ?_ GE109.out | refine below_set ?_ GE114.out | refine below_set ?_ GE119.out) | exact HB.out)⟩
            · rw [if_neg c23] at H
              have c23b0 : decide (t110 < t115) = false := decide_eq_false c23
              clear c23
              simp only [Option.some.injEq, Prod.mk.injEq] at H
              obtain ⟨rfl, rfl, rfl, rfl, rfl⟩ := H
              have hnb33 := NB119_109.out
              have hnc33 := NB109_119.out
              have hnb34 := NB119_114.out
              have hnc34 := NB114_119.out
              have hcz35_0 : wc.cell? ⟨gb119, 0, none⟩ = some (.int .i64 t115) := (blk_cell BK119.out 0).trans rfl
              have hcz35_1 : wc.cell? ⟨gb119, 1, none⟩ = some (.int .i64 t116) := (blk_cell BK119.out 1).trans rfl
              have hcz35_2 : wc.cell? ⟨gb119, 2, none⟩ = some (.int .i64 t117) := (blk_cell BK119.out 2).trans rfl
              have hfz35_0 := blk_frozen BK119.out 0
              have hfz35_1 := blk_frozen BK119.out 1
              have hfz35_2 := blk_frozen BK119.out 2
              have hnb36 := NB114_109.out
              have hnc36 := NB109_114.out
              have hcz37_0 : wc.cell? ⟨gb114, 0, none⟩ = some (.int .i64 t110) := (blk_cell BK114.out 0).trans rfl
              have hcz37_1 : wc.cell? ⟨gb114, 1, none⟩ = some (.int .i64 t111) := (blk_cell BK114.out 1).trans rfl
              have hcz37_2 : wc.cell? ⟨gb114, 2, none⟩ = some (.int .i64 t112) := (blk_cell BK114.out 2).trans rfl
              have hfz37_0 := blk_frozen BK114.out 0
              have hfz37_1 := blk_frozen BK114.out 1
              have hfz37_2 := blk_frozen BK114.out 2
              try go_wp2
              have n0_ := Aside0.mk (blk_drew BK109.out)
              have n1_ := Aside0.mk (blk_drew BK114.out)
              have n2_ := Aside0.mk (blk_drew BK119.out)
              have n3_ := Aside0.mk (below_drew1 HB.out)
              clear BK109
              clear BK114
              clear BK119
              clear HB
              have BK109 := n0_
              have BK114 := n1_
              have BK119 := n2_
              have HB := n3_
              clear n0_ n1_ n2_ n3_
              refine start_ (n := 4) (S := fun w' => w'.cell? ⟨gb114, 0, none⟩ = some (.int .i64 t110) ∧ w'.cell? ⟨gb114, 1, none⟩ = some (.int .i64 t111) ∧ w'.cell? ⟨gb114, 2, none⟩ = some (.int .i64 t112)) (ds := []) #[false, false, false, false] (by kernel_rfl) rfl rfl ⟨(blk_cell BK114.out 0).trans rfl, (blk_cell BK114.out 1).trans rfl, (blk_cell BK114.out 2).trans rfl⟩ (fun hHeld => ?_)
              generalize wc.drew = w38 at BK109 BK114 BK119 HB hHeld ⊢
              refine pure_ (i := 1) (N := some 4) (v := ?_) (a' := ?_) #[false, true, false, false] rfl rfl (by kernel_rfl) (fun _ _ _ h => h) (Or.inl ⟨by rfl, ?_⟩) ?_ ?_
              rotate_left
              · intro w'
                go_simp
                with_reducible rfl
              rotate_left
              · simp only [Act.put, List.setIfInBounds_toArray, List.set_cons_zero, List.set_cons_succ, i64_w, i32_w]
                rfl
              refine take_ (i := 0) (N := some 44) (v := ?_) (a' := ?_) #[true, true, false, false] rfl rfl (by kernel_rfl) (fun _ _ _ h => h) (Or.inl ⟨by rfl, ?_⟩) hHeld ?_ ?_
              rotate_left
              · rintro w' ⟨s0, s1, s2⟩
                go_simp
                with_reducible rfl
              rotate_left
              · simp only [Act.put, List.setIfInBounds_toArray, List.set_cons_zero, List.set_cons_succ, i64_w, i32_w]
                rfl
              refine one_ (i := 2) (N := none) #[true, true, true, false] rfl rfl (by kernel_rfl) (by decide) (fun K hK => ?_)
              have hs39 : w38.cell? ⟨gb109, 0, none⟩ = some (.int .i64 0) := (blk_cell BK109.out 0).trans rfl
              have hfs39 := blk_frozen BK109.out 0
              have hns39_1 := NB114_109.out
              have hns39_2 := NB119_109.out
              have hms39_1 := NB109_114.out
              have hms39_2 := NB109_119.out
              have hs40 : w38.cell? ⟨gb109, 1, none⟩ = some (.int .i64 0) := (blk_cell BK109.out 1).trans rfl
              have hfs40 := blk_frozen BK109.out 1
              have hns40_1 := NB114_109.out
              have hns40_2 := NB119_109.out
              have hms40_1 := NB109_114.out
              have hms40_2 := NB109_119.out
              have hs41 : w38.cell? ⟨gb109, 2, none⟩ = some (.int .i64 0) := (blk_cell BK109.out 2).trans rfl
              have hfs41 := blk_frozen BK109.out 2
              have hns41_1 := NB114_109.out
              have hns41_2 := NB119_109.out
              have hms41_1 := NB109_114.out
              have hms41_2 := NB109_119.out
              refine skip_ (w1 := ?_) (by rfl) rfl ?_ ?_
              rotate_left
              · go_simp
                rfl
              refine hK.out _ _ ⟨((cell_far (p := ⟨gb109, _, none⟩) NB114_109.out _).trans (((cell_far (p := ⟨gb109, _, none⟩) NB114_109.out _).trans (((cell_far (p := ⟨gb109, _, none⟩) NB114_109.out _).trans (hHeld.1)))))), ((cell_far (p := ⟨gb109, _, none⟩) NB114_109.out _).trans (((cell_far (p := ⟨gb109, _, none⟩) NB114_109.out _).trans (((cell_far (p := ⟨gb109, _, none⟩) NB114_109.out _).trans (hHeld.2.1)))))), ((cell_far (p := ⟨gb109, _, none⟩) NB114_109.out _).trans (((cell_far (p := ⟨gb109, _, none⟩) NB114_109.out _).trans (((cell_far (p := ⟨gb109, _, none⟩) NB114_109.out _).trans (hHeld.2.2))))))⟩ (fun hHeld => ?_)
              clear hK K
              refine pure_ (i := 3) (N := some 6) (v := ?_) (a' := ?_) #[true, true, true, true] rfl rfl (by kernel_rfl) (fun _ _ _ h => h) (Or.inl ⟨by rfl, ?_⟩) ?_ ?_
              rotate_left
              · intro w'
                go_simp
                with_reducible rfl
              rotate_left
              · simp only [Act.put, List.setIfInBounds_toArray, List.set_cons_zero, List.set_cons_succ, i64_w, i32_w]
                rfl
              refine done_ (by kernel_rfl) ?_
              try go_wp2
              refine bodyPost_ret (results_list (rs := [.tmp 4, .cell 5 23, .tmp 6]) rfl (by simp) (.tmp (.cell gb109 23 #[.int .i64 t110, .int .i64 t111, .int .i64 t112] (0, 0) _ rfl (by (with_reducible repeat (first | refine blk_drewN ?_ _ | refine blk_drew ?_ | refine blk_alloc ?_ _)); refine blk_put (cs := #[.int .i64 t110, .int .i64 t111, .int .i64 0]) ?_ 2 _ rfl; (with_reducible repeat (first | refine blk_drewN ?_ _ | refine blk_drew ?_ | refine blk_alloc ?_ _)); refine blk_put (cs := #[.int .i64 t110, .int .i64 0, .int .i64 0]) ?_ 1 _ rfl; (with_reducible repeat (first | refine blk_drewN ?_ _ | refine blk_drew ?_ | refine blk_alloc ?_ _)); refine blk_put (cs := #[.int .i64 0, .int .i64 0, .int .i64 0]) ?_ 0 _ rfl; (with_reducible repeat (first | refine blk_drewN ?_ _ | refine blk_drew ?_ | refine blk_alloc ?_ _)); exact BK109.out) Try.underlying23 rfl (by kernel_rfl) (.tmp .nil)))) rfl ?_
              exact ⟨by first | rfl | (simp [errW_none, errW_some] <;> rfl) | (simp [*, errW_none, errW_some] <;> rfl), by repeat (first | (with_reducible first | exact HB.out | apply below_alloc | apply pw_below_drewN | apply below_drew1 | refine below_set ?_ GE109.out | refine below_set ?_ GE114.out | refine below_set ?_ GE119.out) | exact HB.out)⟩
          · rw [if_neg c22] at H
            have c22b0 : (t118 == 0) = false := beq_eq_false_iff_ne.mpr c22
            have c22b1 : (t118 != 0) = true := bne_iff_ne.mpr c22
            simp only [Option.some.injEq, Prod.mk.injEq] at H
            obtain ⟨rfl, rfl, rfl, rfl, rfl⟩ := H
            try go_wp2
            have n0_ := Aside0.mk (blk_drew BK109.out)
            have n1_ := Aside0.mk (blk_drew BK114.out)
            have n2_ := Aside0.mk (blk_drew BK119.out)
            have n3_ := Aside0.mk (below_drew1 HB.out)
            clear BK109
            clear BK114
            clear BK119
            clear HB
            have BK109 := n0_
            have BK114 := n1_
            have BK119 := n2_
            have HB := n3_
            clear n0_ n1_ n2_ n3_
            refine start_ (n := 4) (S := fun w' => w'.cell? ⟨gb114, 0, none⟩ = some (.int .i64 t110) ∧ w'.cell? ⟨gb114, 1, none⟩ = some (.int .i64 t111) ∧ w'.cell? ⟨gb114, 2, none⟩ = some (.int .i64 t112)) (ds := []) #[false, false, false, false] (by kernel_rfl) rfl rfl ⟨(blk_cell BK114.out 0).trans rfl, (blk_cell BK114.out 1).trans rfl, (blk_cell BK114.out 2).trans rfl⟩ (fun hHeld => ?_)
            generalize wc.drew = w42 at BK109 BK114 BK119 HB hHeld ⊢
            refine pure_ (i := 1) (N := some 4) (v := ?_) (a' := ?_) #[false, true, false, false] rfl rfl (by kernel_rfl) (fun _ _ _ h => h) (Or.inl ⟨by rfl, ?_⟩) ?_ ?_
            rotate_left
            · intro w'
              go_simp
              with_reducible rfl
            rotate_left
            · simp only [Act.put, List.setIfInBounds_toArray, List.set_cons_zero, List.set_cons_succ, i64_w, i32_w]
              rfl
            refine take_ (i := 0) (N := some 44) (v := ?_) (a' := ?_) #[true, true, false, false] rfl rfl (by kernel_rfl) (fun _ _ _ h => h) (Or.inl ⟨by rfl, ?_⟩) hHeld ?_ ?_
            rotate_left
            · rintro w' ⟨s0, s1, s2⟩
              go_simp
              with_reducible rfl
            rotate_left
            · simp only [Act.put, List.setIfInBounds_toArray, List.set_cons_zero, List.set_cons_succ, i64_w, i32_w]
              rfl
            refine one_ (i := 2) (N := none) #[true, true, true, false] rfl rfl (by kernel_rfl) (by decide) (fun K hK => ?_)
            have hs43 : w42.cell? ⟨gb109, 0, none⟩ = some (.int .i64 0) := (blk_cell BK109.out 0).trans rfl
            have hfs43 := blk_frozen BK109.out 0
            have hns43_1 := NB114_109.out
            have hns43_2 := NB119_109.out
            have hms43_1 := NB109_114.out
            have hms43_2 := NB109_119.out
            have hs44 : w42.cell? ⟨gb109, 1, none⟩ = some (.int .i64 0) := (blk_cell BK109.out 1).trans rfl
            have hfs44 := blk_frozen BK109.out 1
            have hns44_1 := NB114_109.out
            have hns44_2 := NB119_109.out
            have hms44_1 := NB109_114.out
            have hms44_2 := NB109_119.out
            have hs45 : w42.cell? ⟨gb109, 2, none⟩ = some (.int .i64 0) := (blk_cell BK109.out 2).trans rfl
            have hfs45 := blk_frozen BK109.out 2
            have hns45_1 := NB114_109.out
            have hns45_2 := NB119_109.out
            have hms45_1 := NB109_114.out
            have hms45_2 := NB109_119.out
            refine skip_ (w1 := ?_) (by rfl) rfl ?_ ?_
            rotate_left
            · go_simp
              rfl
            refine hK.out _ _ ⟨((cell_far (p := ⟨gb109, _, none⟩) NB114_109.out _).trans (((cell_far (p := ⟨gb109, _, none⟩) NB114_109.out _).trans (((cell_far (p := ⟨gb109, _, none⟩) NB114_109.out _).trans (hHeld.1)))))), ((cell_far (p := ⟨gb109, _, none⟩) NB114_109.out _).trans (((cell_far (p := ⟨gb109, _, none⟩) NB114_109.out _).trans (((cell_far (p := ⟨gb109, _, none⟩) NB114_109.out _).trans (hHeld.2.1)))))), ((cell_far (p := ⟨gb109, _, none⟩) NB114_109.out _).trans (((cell_far (p := ⟨gb109, _, none⟩) NB114_109.out _).trans (((cell_far (p := ⟨gb109, _, none⟩) NB114_109.out _).trans (hHeld.2.2))))))⟩ (fun hHeld => ?_)
            clear hK K
            refine pure_ (i := 3) (N := some 6) (v := ?_) (a' := ?_) #[true, true, true, true] rfl rfl (by kernel_rfl) (fun _ _ _ h => h) (Or.inl ⟨by rfl, ?_⟩) ?_ ?_
            rotate_left
            · intro w'
              go_simp
              with_reducible rfl
            rotate_left
            · simp only [Act.put, List.setIfInBounds_toArray, List.set_cons_zero, List.set_cons_succ, i64_w, i32_w]
              rfl
            refine done_ (by kernel_rfl) ?_
            try go_wp2
            refine bodyPost_ret (results_list (rs := [.tmp 4, .cell 5 23, .tmp 6]) rfl (by simp) (.tmp (.cell gb109 23 #[.int .i64 t110, .int .i64 t111, .int .i64 t112] (0, 0) _ rfl (by (with_reducible repeat (first | refine blk_drewN ?_ _ | refine blk_drew ?_ | refine blk_alloc ?_ _)); refine blk_put (cs := #[.int .i64 t110, .int .i64 t111, .int .i64 0]) ?_ 2 _ rfl; (with_reducible repeat (first | refine blk_drewN ?_ _ | refine blk_drew ?_ | refine blk_alloc ?_ _)); refine blk_put (cs := #[.int .i64 t110, .int .i64 0, .int .i64 0]) ?_ 1 _ rfl; (with_reducible repeat (first | refine blk_drewN ?_ _ | refine blk_drew ?_ | refine blk_alloc ?_ _)); refine blk_put (cs := #[.int .i64 0, .int .i64 0, .int .i64 0]) ?_ 0 _ rfl; (with_reducible repeat (first | refine blk_drewN ?_ _ | refine blk_drew ?_ | refine blk_alloc ?_ _)); exact BK109.out) Try.underlying23 rfl (by kernel_rfl) (.tmp .nil)))) rfl ?_
            exact ⟨by first | rfl | (simp [errW_none, errW_some] <;> rfl) | (simp [*, errW_none, errW_some] <;> rfl), by repeat (first | (with_reducible first | exact HB.out | apply below_alloc | apply pw_below_drewN | apply below_drew1 | refine below_set ?_ GE109.out | refine below_set ?_ GE114.out | refine below_set ?_ GE119.out) | exact HB.out)⟩
        · rw [if_neg c21] at H
          have c21b0 : (t113 == 0) = false := beq_eq_false_iff_ne.mpr c21
          have c21b1 : (t113 != 0) = true := bne_iff_ne.mpr c21
          simp only [Option.some.injEq, Prod.mk.injEq] at H
          obtain ⟨rfl, rfl, rfl, rfl, rfl⟩ := H
          try go_wp2
          have n0_ := Aside0.mk (blk_drew BK109.out)
          have n1_ := Aside0.mk (blk_drew BK114.out)
          have n2_ := Aside0.mk (blk_drew BK119.out)
          have n3_ := Aside0.mk (below_drew1 HB.out)
          clear BK109
          clear BK114
          clear BK119
          clear HB
          have BK109 := n0_
          have BK114 := n1_
          have BK119 := n2_
          have HB := n3_
          clear n0_ n1_ n2_ n3_
          refine start_ (n := 4) (S := fun w' => w'.cell? ⟨gb119, 0, none⟩ = some (.int .i64 t115) ∧ w'.cell? ⟨gb119, 1, none⟩ = some (.int .i64 t116) ∧ w'.cell? ⟨gb119, 2, none⟩ = some (.int .i64 t117)) (ds := []) #[false, false, false, false] (by kernel_rfl) rfl rfl ⟨(blk_cell BK119.out 0).trans rfl, (blk_cell BK119.out 1).trans rfl, (blk_cell BK119.out 2).trans rfl⟩ (fun hHeld => ?_)
          generalize wc.drew = w46 at BK109 BK114 BK119 HB hHeld ⊢
          refine pure_ (i := 1) (N := some 4) (v := ?_) (a' := ?_) #[false, true, false, false] rfl rfl (by kernel_rfl) (fun _ _ _ h => h) (Or.inl ⟨by rfl, ?_⟩) ?_ ?_
          rotate_left
          · intro w'
            go_simp
            with_reducible rfl
          rotate_left
          · simp only [Act.put, List.setIfInBounds_toArray, List.set_cons_zero, List.set_cons_succ, i64_w, i32_w]
            rfl
          refine take_ (i := 0) (N := some 43) (v := ?_) (a' := ?_) #[true, true, false, false] rfl rfl (by kernel_rfl) (fun _ _ _ h => h) (Or.inl ⟨by rfl, ?_⟩) hHeld ?_ ?_
          rotate_left
          · rintro w' ⟨s0, s1, s2⟩
            go_simp
            with_reducible rfl
          rotate_left
          · simp only [Act.put, List.setIfInBounds_toArray, List.set_cons_zero, List.set_cons_succ, i64_w, i32_w]
            rfl
          refine one_ (i := 2) (N := none) #[true, true, true, false] rfl rfl (by kernel_rfl) (by decide) (fun K hK => ?_)
          have hs47 : w46.cell? ⟨gb109, 0, none⟩ = some (.int .i64 0) := (blk_cell BK109.out 0).trans rfl
          have hfs47 := blk_frozen BK109.out 0
          have hns47_1 := NB114_109.out
          have hns47_2 := NB119_109.out
          have hms47_1 := NB109_114.out
          have hms47_2 := NB109_119.out
          have hs48 : w46.cell? ⟨gb109, 1, none⟩ = some (.int .i64 0) := (blk_cell BK109.out 1).trans rfl
          have hfs48 := blk_frozen BK109.out 1
          have hns48_1 := NB114_109.out
          have hns48_2 := NB119_109.out
          have hms48_1 := NB109_114.out
          have hms48_2 := NB109_119.out
          have hs49 : w46.cell? ⟨gb109, 2, none⟩ = some (.int .i64 0) := (blk_cell BK109.out 2).trans rfl
          have hfs49 := blk_frozen BK109.out 2
          have hns49_1 := NB114_109.out
          have hns49_2 := NB119_109.out
          have hms49_1 := NB109_114.out
          have hms49_2 := NB109_119.out
          refine skip_ (w1 := ?_) (by rfl) rfl ?_ ?_
          rotate_left
          · go_simp
            rfl
          refine hK.out _ _ ⟨((cell_far (p := ⟨gb109, _, none⟩) NB119_109.out _).trans (((cell_far (p := ⟨gb109, _, none⟩) NB119_109.out _).trans (((cell_far (p := ⟨gb109, _, none⟩) NB119_109.out _).trans (hHeld.1)))))), ((cell_far (p := ⟨gb109, _, none⟩) NB119_109.out _).trans (((cell_far (p := ⟨gb109, _, none⟩) NB119_109.out _).trans (((cell_far (p := ⟨gb109, _, none⟩) NB119_109.out _).trans (hHeld.2.1)))))), ((cell_far (p := ⟨gb109, _, none⟩) NB119_109.out _).trans (((cell_far (p := ⟨gb109, _, none⟩) NB119_109.out _).trans (((cell_far (p := ⟨gb109, _, none⟩) NB119_109.out _).trans (hHeld.2.2))))))⟩ (fun hHeld => ?_)
          clear hK K
          refine pure_ (i := 3) (N := some 6) (v := ?_) (a' := ?_) #[true, true, true, true] rfl rfl (by kernel_rfl) (fun _ _ _ h => h) (Or.inl ⟨by rfl, ?_⟩) ?_ ?_
          rotate_left
          · intro w'
            go_simp
            with_reducible rfl
          rotate_left
          · simp only [Act.put, List.setIfInBounds_toArray, List.set_cons_zero, List.set_cons_succ, i64_w, i32_w]
            rfl
          refine done_ (by kernel_rfl) ?_
          try go_wp2
          refine bodyPost_ret (results_list (rs := [.tmp 4, .cell 5 23, .tmp 6]) rfl (by simp) (.tmp (.cell gb109 23 #[.int .i64 t115, .int .i64 t116, .int .i64 t117] (0, 0) _ rfl (by (with_reducible repeat (first | refine blk_drewN ?_ _ | refine blk_drew ?_ | refine blk_alloc ?_ _)); refine blk_put (cs := #[.int .i64 t115, .int .i64 t116, .int .i64 0]) ?_ 2 _ rfl; (with_reducible repeat (first | refine blk_drewN ?_ _ | refine blk_drew ?_ | refine blk_alloc ?_ _)); refine blk_put (cs := #[.int .i64 t115, .int .i64 0, .int .i64 0]) ?_ 1 _ rfl; (with_reducible repeat (first | refine blk_drewN ?_ _ | refine blk_drew ?_ | refine blk_alloc ?_ _)); refine blk_put (cs := #[.int .i64 0, .int .i64 0, .int .i64 0]) ?_ 0 _ rfl; (with_reducible repeat (first | refine blk_drewN ?_ _ | refine blk_drew ?_ | refine blk_alloc ?_ _)); exact BK109.out) Try.underlying23 rfl (by kernel_rfl) (.tmp .nil)))) rfl ?_
          exact ⟨by first | rfl | (simp [errW_none, errW_some] <;> rfl) | (simp [*, errW_none, errW_some] <;> rfl), by repeat (first | (with_reducible first | exact HB.out | apply below_alloc | apply pw_below_drewN | apply below_drew1 | refine below_set ?_ GE109.out | refine below_set ?_ GE114.out | refine below_set ?_ GE119.out) | exact HB.out)⟩

end Go.Proofs.Ythjnkapkhphpeaa.P
end
section
-- Written by a program of this session (xprint.py, over the kit's print). Not trusted: Lean checks it.
namespace Go.Proofs.Ythjnkapkhphpeaa.P
open Go.RowKit Go.Proofs.YthjnkapkhphpeaaW.PrintWords Go.Proofs.YthjnkapkhphpeaaW.PrintLast Go.Proofs.YthjnkapkhphpeaaW.PrintMore
attribute [local go_sem] max2_int min2_int max_two min_two max_three min_three max_four min_four   -- for this text's walks alone
set_option linter.unusedVariables false
set_option linter.unusedSimpArgs false

/-! ### assartref03_Right: function 25 -/
def assartref03_Right.f (a0_0 : Int) (a0_1 : Int) (a0_2 : Int) : Option (Bool) := if a0_0 ≥ 1 then (if a0_0 ≤ 2147483647 then (if a0_1 ≥ 0 then (if a0_1 ≤ 2147483647 then (if a0_2 ≥ 0 then (some (decide (a0_2 ≤ 4294967295))) else (some false)) else (some false)) else (some false)) else (some false)) else (some false)
set_option maxHeartbeats 8000000 in
set_option maxRecDepth 100000 in
theorem assartref03_Right.calls (a0_0 : Int) (a0_1 : Int) (a0_2 : Int) (r : Bool) (w : World) (h : assartref03_Right.f a0_0 a0_1 a0_2 = some r) :
    Calls Try.prog 25 #[.agg #[.int .i64 a0_0, .int .i64 a0_1, .int .i64 a0_2]] w fun e w' => e = .returned (.bool r) ∧ Below w.heap.size w w' := by
  have hu23 := Try.underlying23
  have HB := Aside0.mk (Below.refl w.heap.size w)
  have H : (if a0_0 ≥ 1 then (if a0_0 ≤ 2147483647 then (if a0_1 ≥ 0 then (if a0_1 ≤ 2147483647 then (if a0_2 ≥ 0 then (some (decide (a0_2 ≤ 4294967295))) else (some false)) else (some false)) else (some false)) else (some false)) else (some false)) = some r := h
  clear h
  by_cases c2 : a0_0 ≥ 1
  · rw [if_pos c2] at H
    have c2b0 : decide (1 ≤ a0_0) = true := decide_eq_true c2
    clear c2
    by_cases c3 : a0_0 ≤ 2147483647
    · rw [if_pos c3] at H
      have c3b0 : decide (a0_0 ≤ 2147483647) = true := decide_eq_true c3
      clear c3
      by_cases c4 : a0_1 ≥ 0
      · rw [if_pos c4] at H
        have c4b0 : decide (0 ≤ a0_1) = true := decide_eq_true c4
        clear c4
        by_cases c5 : a0_1 ≤ 2147483647
        · rw [if_pos c5] at H
          have c5b0 : decide (a0_1 ≤ 2147483647) = true := decide_eq_true c5
          clear c5
          by_cases c6 : a0_2 ≥ 0
          · rw [if_pos c6] at H
            have c6b0 : decide (0 ≤ a0_2) = true := decide_eq_true c6
            clear c6
            obtain rfl := Option.some.inj H
            go_enter Try.func25, Try.ntmps25
            go_wp2_with (first | ((with_reducible refine gate_dst (N := 1) rfl ?_); refine box_event ?hg (N := 1) ?hd (cs := #[.int .i64 a0_0, .int .i64 a0_1, .int .i64 a0_2]) (t := 23) ?hr ?_; (case hd => rfl); (case hg => rfl); (case hr => first | (go_simp; done) | (go_simp; rfl)); intro gb121 hg w7 hbox hb; have n0_ := Aside0.mk (below_step (by repeat (first | (with_reducible first | exact HB.out | apply below_alloc | apply pw_below_drewN | apply below_drew1) | exact HB.out)) hb); have n1_ := Aside0.mk (hbox); have n2_ := Aside0.mk ((by rw [hg]; exact (below_size (by repeat (first | (with_reducible first | exact HB.out | apply below_alloc | apply pw_below_drewN | apply below_drew1) | exact HB.out))) : w.heap.size ≤ gb121)); have n3_ := Aside0.mk ((by rw [hg]; exact (below_size (by repeat (first | (with_reducible first | exact HB.out | apply below_alloc | apply pw_below_drewN | apply below_drew1) | exact HB.out))) : w.heap.size ≤ gb121)); clear HB; have HB := n0_; have BK121 := n1_; have GW121 := n2_; have GE121 := n3_; clear n0_ n1_ n2_ n3_; clear hb hbox hg; have hcz8_0 : w7.cell? ⟨gb121, 0, none⟩ = some (.int .i64 a0_0) := (blk_cell BK121.out 0).trans rfl; have hcz8_1 : w7.cell? ⟨gb121, 1, none⟩ = some (.int .i64 a0_1) := (blk_cell BK121.out 1).trans rfl; have hcz8_2 : w7.cell? ⟨gb121, 2, none⟩ = some (.int .i64 a0_2) := (blk_cell BK121.out 2).trans rfl; have hfz8_0 := blk_frozen BK121.out 0; have hfz8_1 := blk_frozen BK121.out 1; have hfz8_2 := blk_frozen BK121.out 2))
            go_ret
            exact ⟨by first | rfl | (simp [errW_none, errW_some] <;> rfl) | (simp [*, errW_none, errW_some] <;> rfl), by repeat (first | (with_reducible first | exact HB.out | apply below_alloc | apply pw_below_drewN | apply below_drew1 | refine below_set ?_ GE121.out) | exact HB.out)⟩
          · rw [if_neg c6] at H
            have c6b0 : decide (0 ≤ a0_2) = false := decide_eq_false c6
            clear c6
            obtain rfl := Option.some.inj H
            go_enter Try.func25, Try.ntmps25
            go_wp2_with (first | ((with_reducible refine gate_dst (N := 1) rfl ?_); refine box_event ?hg (N := 1) ?hd (cs := #[.int .i64 a0_0, .int .i64 a0_1, .int .i64 a0_2]) (t := 23) ?hr ?_; (case hd => rfl); (case hg => rfl); (case hr => first | (go_simp; done) | (go_simp; rfl)); intro gb121 hg w9 hbox hb; have n0_ := Aside0.mk (below_step (by repeat (first | (with_reducible first | exact HB.out | apply below_alloc | apply pw_below_drewN | apply below_drew1) | exact HB.out)) hb); have n1_ := Aside0.mk (hbox); have n2_ := Aside0.mk ((by rw [hg]; exact (below_size (by repeat (first | (with_reducible first | exact HB.out | apply below_alloc | apply pw_below_drewN | apply below_drew1) | exact HB.out))) : w.heap.size ≤ gb121)); have n3_ := Aside0.mk ((by rw [hg]; exact (below_size (by repeat (first | (with_reducible first | exact HB.out | apply below_alloc | apply pw_below_drewN | apply below_drew1) | exact HB.out))) : w.heap.size ≤ gb121)); clear HB; have HB := n0_; have BK121 := n1_; have GW121 := n2_; have GE121 := n3_; clear n0_ n1_ n2_ n3_; clear hb hbox hg; have hcz10_0 : w9.cell? ⟨gb121, 0, none⟩ = some (.int .i64 a0_0) := (blk_cell BK121.out 0).trans rfl; have hcz10_1 : w9.cell? ⟨gb121, 1, none⟩ = some (.int .i64 a0_1) := (blk_cell BK121.out 1).trans rfl; have hcz10_2 : w9.cell? ⟨gb121, 2, none⟩ = some (.int .i64 a0_2) := (blk_cell BK121.out 2).trans rfl; have hfz10_0 := blk_frozen BK121.out 0; have hfz10_1 := blk_frozen BK121.out 1; have hfz10_2 := blk_frozen BK121.out 2))
            go_ret
            exact ⟨by first | rfl | (simp [errW_none, errW_some] <;> rfl) | (simp [*, errW_none, errW_some] <;> rfl), by repeat (first | (with_reducible first | exact HB.out | apply below_alloc | apply pw_below_drewN | apply below_drew1 | refine below_set ?_ GE121.out) | exact HB.out)⟩
        · rw [if_neg c5] at H
          have c5b0 : decide (a0_1 ≤ 2147483647) = false := decide_eq_false c5
          clear c5
          obtain rfl := Option.some.inj H
          go_enter Try.func25, Try.ntmps25
          go_wp2_with (first | ((with_reducible refine gate_dst (N := 1) rfl ?_); refine box_event ?hg (N := 1) ?hd (cs := #[.int .i64 a0_0, .int .i64 a0_1, .int .i64 a0_2]) (t := 23) ?hr ?_; (case hd => rfl); (case hg => rfl); (case hr => first | (go_simp; done) | (go_simp; rfl)); intro gb121 hg w11 hbox hb; have n0_ := Aside0.mk (below_step (by repeat (first | (with_reducible first | exact HB.out | apply below_alloc | apply pw_below_drewN | apply below_drew1) | exact HB.out)) hb); have n1_ := Aside0.mk (hbox); have n2_ := Aside0.mk ((by rw [hg]; exact (below_size (by repeat (first | (with_reducible first | exact HB.out | apply below_alloc | apply pw_below_drewN | apply below_drew1) | exact HB.out))) : w.heap.size ≤ gb121)); have n3_ := Aside0.mk ((by rw [hg]; exact (below_size (by repeat (first | (with_reducible first | exact HB.out | apply below_alloc | apply pw_below_drewN | apply below_drew1) | exact HB.out))) : w.heap.size ≤ gb121)); clear HB; have HB := n0_; have BK121 := n1_; have GW121 := n2_; have GE121 := n3_; clear n0_ n1_ n2_ n3_; clear hb hbox hg; have hcz12_0 : w11.cell? ⟨gb121, 0, none⟩ = some (.int .i64 a0_0) := (blk_cell BK121.out 0).trans rfl; have hcz12_1 : w11.cell? ⟨gb121, 1, none⟩ = some (.int .i64 a0_1) := (blk_cell BK121.out 1).trans rfl; have hcz12_2 : w11.cell? ⟨gb121, 2, none⟩ = some (.int .i64 a0_2) := (blk_cell BK121.out 2).trans rfl; have hfz12_0 := blk_frozen BK121.out 0; have hfz12_1 := blk_frozen BK121.out 1; have hfz12_2 := blk_frozen BK121.out 2))
          go_ret
          exact ⟨by first | rfl | (simp [errW_none, errW_some] <;> rfl) | (simp [*, errW_none, errW_some] <;> rfl), by repeat (first | (with_reducible first | exact HB.out | apply below_alloc | apply pw_below_drewN | apply below_drew1 | refine below_set ?_ GE121.out) | exact HB.out)⟩
      · rw [if_neg c4] at H
        have c4b0 : decide (0 ≤ a0_1) = false := decide_eq_false c4
        clear c4
        obtain rfl := Option.some.inj H
        go_enter Try.func25, Try.ntmps25
        go_wp2_with (first | ((with_reducible refine gate_dst (N := 1) rfl ?_); refine box_event ?hg (N := 1) ?hd (cs := #[.int .i64 a0_0, .int .i64 a0_1, .int .i64 a0_2]) (t := 23) ?hr ?_; (case hd => rfl); (case hg => rfl); (case hr => first | (go_simp; done) | (go_simp; rfl)); intro gb121 hg w13 hbox hb; have n0_ := Aside0.mk (below_step (by repeat (first | (with_reducible first | exact HB.out | apply below_alloc | apply pw_below_drewN | apply below_drew1) | exact HB.out)) hb); have n1_ := Aside0.mk (hbox); have n2_ := Aside0.mk ((by rw [hg]; exact (below_size (by repeat (first | (with_reducible first | exact HB.out | apply below_alloc | apply pw_below_drewN | apply below_drew1) | exact HB.out))) : w.heap.size ≤ gb121)); have n3_ := Aside0.mk ((by rw [hg]; exact (below_size (by repeat (first | (with_reducible first | exact HB.out | apply below_alloc | apply pw_below_drewN | apply below_drew1) | exact HB.out))) : w.heap.size ≤ gb121)); clear HB; have HB := n0_; have BK121 := n1_; have GW121 := n2_; have GE121 := n3_; clear n0_ n1_ n2_ n3_; clear hb hbox hg; have hcz14_0 : w13.cell? ⟨gb121, 0, none⟩ = some (.int .i64 a0_0) := (blk_cell BK121.out 0).trans rfl; have hcz14_1 : w13.cell? ⟨gb121, 1, none⟩ = some (.int .i64 a0_1) := (blk_cell BK121.out 1).trans rfl; have hcz14_2 : w13.cell? ⟨gb121, 2, none⟩ = some (.int .i64 a0_2) := (blk_cell BK121.out 2).trans rfl; have hfz14_0 := blk_frozen BK121.out 0; have hfz14_1 := blk_frozen BK121.out 1; have hfz14_2 := blk_frozen BK121.out 2))
        go_ret
        exact ⟨by first | rfl | (simp [errW_none, errW_some] <;> rfl) | (simp [*, errW_none, errW_some] <;> rfl), by repeat (first | (with_reducible first | exact HB.out | apply below_alloc | apply pw_below_drewN | apply below_drew1 | refine below_set ?_ GE121.out) | exact HB.out)⟩
    · rw [if_neg c3] at H
      have c3b0 : decide (a0_0 ≤ 2147483647) = false := decide_eq_false c3
      clear c3
      obtain rfl := Option.some.inj H
      go_enter Try.func25, Try.ntmps25
      go_wp2_with (first | ((with_reducible refine gate_dst (N := 1) rfl ?_); refine box_event ?hg (N := 1) ?hd (cs := #[.int .i64 a0_0, .int .i64 a0_1, .int .i64 a0_2]) (t := 23) ?hr ?_; (case hd => rfl); (case hg => rfl); (case hr => first | (go_simp; done) | (go_simp; rfl)); intro gb121 hg w15 hbox hb; have n0_ := Aside0.mk (below_step (by repeat (first | (with_reducible first | exact HB.out | apply below_alloc | apply pw_below_drewN | apply below_drew1) | exact HB.out)) hb); have n1_ := Aside0.mk (hbox); have n2_ := Aside0.mk ((by rw [hg]; exact (below_size (by repeat (first | (with_reducible first | exact HB.out | apply below_alloc | apply pw_below_drewN | apply below_drew1) | exact HB.out))) : w.heap.size ≤ gb121)); have n3_ := Aside0.mk ((by rw [hg]; exact (below_size (by repeat (first | (with_reducible first | exact HB.out | apply below_alloc | apply pw_below_drewN | apply below_drew1) | exact HB.out))) : w.heap.size ≤ gb121)); clear HB; have HB := n0_; have BK121 := n1_; have GW121 := n2_; have GE121 := n3_; clear n0_ n1_ n2_ n3_; clear hb hbox hg; have hcz16_0 : w15.cell? ⟨gb121, 0, none⟩ = some (.int .i64 a0_0) := (blk_cell BK121.out 0).trans rfl; have hcz16_1 : w15.cell? ⟨gb121, 1, none⟩ = some (.int .i64 a0_1) := (blk_cell BK121.out 1).trans rfl; have hcz16_2 : w15.cell? ⟨gb121, 2, none⟩ = some (.int .i64 a0_2) := (blk_cell BK121.out 2).trans rfl; have hfz16_0 := blk_frozen BK121.out 0; have hfz16_1 := blk_frozen BK121.out 1; have hfz16_2 := blk_frozen BK121.out 2))
      go_ret
      exact ⟨by first | rfl | (simp [errW_none, errW_some] <;> rfl) | (simp [*, errW_none, errW_some] <;> rfl), by repeat (first | (with_reducible first | exact HB.out | apply below_alloc | apply pw_below_drewN | apply below_drew1 | refine below_set ?_ GE121.out) | exact HB.out)⟩
  · rw [if_neg c2] at H
    have c2b0 : decide (1 ≤ a0_0) = false := decide_eq_false c2
    clear c2
    obtain rfl := Option.some.inj H
    go_enter Try.func25, Try.ntmps25
    go_wp2_with (first | ((with_reducible refine gate_dst (N := 1) rfl ?_); refine box_event ?hg (N := 1) ?hd (cs := #[.int .i64 a0_0, .int .i64 a0_1, .int .i64 a0_2]) (t := 23) ?hr ?_; (case hd => rfl); (case hg => rfl); (case hr => first | (go_simp; done) | (go_simp; rfl)); intro gb121 hg w17 hbox hb; have n0_ := Aside0.mk (below_step (by repeat (first | (with_reducible first | exact HB.out | apply below_alloc | apply pw_below_drewN | apply below_drew1) | exact HB.out)) hb); have n1_ := Aside0.mk (hbox); have n2_ := Aside0.mk ((by rw [hg]; exact (below_size (by repeat (first | (with_reducible first | exact HB.out | apply below_alloc | apply pw_below_drewN | apply below_drew1) | exact HB.out))) : w.heap.size ≤ gb121)); have n3_ := Aside0.mk ((by rw [hg]; exact (below_size (by repeat (first | (with_reducible first | exact HB.out | apply below_alloc | apply pw_below_drewN | apply below_drew1) | exact HB.out))) : w.heap.size ≤ gb121)); clear HB; have HB := n0_; have BK121 := n1_; have GW121 := n2_; have GE121 := n3_; clear n0_ n1_ n2_ n3_; clear hb hbox hg; have hcz18_0 : w17.cell? ⟨gb121, 0, none⟩ = some (.int .i64 a0_0) := (blk_cell BK121.out 0).trans rfl; have hcz18_1 : w17.cell? ⟨gb121, 1, none⟩ = some (.int .i64 a0_1) := (blk_cell BK121.out 1).trans rfl; have hcz18_2 : w17.cell? ⟨gb121, 2, none⟩ = some (.int .i64 a0_2) := (blk_cell BK121.out 2).trans rfl; have hfz18_0 := blk_frozen BK121.out 0; have hfz18_1 := blk_frozen BK121.out 1; have hfz18_2 := blk_frozen BK121.out 2))
    go_ret
    exact ⟨by first | rfl | (simp [errW_none, errW_some] <;> rfl) | (simp [*, errW_none, errW_some] <;> rfl), by repeat (first | (with_reducible first | exact HB.out | apply below_alloc | apply pw_below_drewN | apply below_drew1 | refine below_set ?_ GE121.out) | exact HB.out)⟩

end Go.Proofs.Ythjnkapkhphpeaa.P
end
section
/- The plain mathematics of the check sum: the register, bit by bit; it is linear, and no burst within 32 bits is lost. -/
namespace Crc

def poly : BitVec 32 := 0xedb88320#32
/-- One step of the register. -/
def S (n : BitVec 32) : BitVec 32 := if n.getLsbD 0 then (n >>> 1) ^^^ poly else n >>> 1
def Sn : Nat → BitVec 32 → BitVec 32
  | 0, n => n
  | k + 1, n => Sn k (S n)
def byte (n c : BitVec 32) : BitVec 32 := Sn 8 (n ^^^ c)
def reg (n : BitVec 32) (l : List (BitVec 32)) : BitVec 32 := l.foldl byte n

theorem poly_msb : poly.getLsbD 31 = true := by decide

theorem S_xor (a b : BitVec 32) : S (a ^^^ b) = S a ^^^ S b := by
  unfold S
  have h : (a ^^^ b).getLsbD 0 = (a.getLsbD 0 ^^ b.getLsbD 0) := BitVec.getLsbD_xor
  have hs : (a ^^^ b) >>> 1 = (a >>> 1) ^^^ (b >>> 1) := BitVec.ushiftRight_xor_distrib _ _ _
  rw [h, hs]
  cases ha : a.getLsbD 0 <;> cases hb : b.getLsbD 0 <;> simp
  · rw [BitVec.xor_assoc]
  · rw [BitVec.xor_assoc, BitVec.xor_assoc, BitVec.xor_comm poly]
  · rw [BitVec.xor_assoc, BitVec.xor_comm poly, BitVec.xor_assoc, BitVec.xor_self]; simp

theorem S_zero : S 0 = 0 := by decide

theorem S_inj {a : BitVec 32} (h : S a = 0) : a = 0 := by
  unfold S at h
  cases hb : a.getLsbD 0 with
  | true =>
    rw [hb] at h
    simp only [if_true] at h
    have h31 := congrArg (fun x => BitVec.getLsbD x 31) h
    rw [BitVec.getLsbD_xor, poly_msb] at h31
    simp at h31
  | false =>
    rw [hb] at h
    simp only [Bool.false_eq_true, if_false] at h
    apply BitVec.eq_of_getLsbD_eq
    intro i hi
    cases i with
    | zero => simpa using hb
    | succ i =>
      have := congrArg (fun x => BitVec.getLsbD x i) h
      simpa [Nat.add_comm] using this

theorem Sn_xor : ∀ k (a b : BitVec 32), Sn k (a ^^^ b) = Sn k a ^^^ Sn k b
  | 0, _, _ => rfl
  | k + 1, a, b => by simp only [Sn, S_xor, Sn_xor k]
theorem Sn_zero : ∀ k, Sn k 0 = 0
  | 0 => rfl
  | k + 1 => by simp only [Sn, S_zero, Sn_zero k]
theorem Sn_inj : ∀ k {a : BitVec 32}, Sn k a = 0 → a = 0
  | 0, _, h => h
  | k + 1, _, h => S_inj (Sn_inj k h)
theorem Sn_eq {k : Nat} {a b : BitVec 32} (h : Sn k a = Sn k b) : a = b := by
  have : Sn k (a ^^^ b) = 0 := by rw [Sn_xor, h, BitVec.xor_self]; rfl
  have := Sn_inj k this
  exact BitVec.xor_eq_zero_iff.1 this

/-- One bit fed. -/
def bw (b : Bool) : BitVec 32 := if b then 1 else 0
def feed (n : BitVec 32) (b : Bool) : BitVec 32 := S (n ^^^ bw b)
def feeds (n : BitVec 32) (l : List Bool) : BitVec 32 := l.foldl feed n
/-- The k lowest bits, the lowest first. -/
def bits : Nat → BitVec 32 → List Bool
  | 0, _ => []
  | k + 1, c => c.getLsbD 0 :: bits k (c >>> 1)

theorem S_even (c : BitVec 32) (h : c.getLsbD 0 = false) : S c = c >>> 1 := by unfold S; rw [h]; rfl

theorem split_low (c : BitVec 32) : c = bw (c.getLsbD 0) ^^^ ((c >>> 1) <<< 1) := by
  apply BitVec.eq_of_getLsbD_eq
  intro i hi
  rw [BitVec.getLsbD_xor]
  cases i with
  | zero => cases h : c.getLsbD 0 <;> simp [bw]
  | succ i =>
    have h1 : (bw (c.getLsbD 0)).getLsbD (i + 1) = false := by
      cases c.getLsbD 0 <;> simp [bw]
    rw [h1]
    simp [Nat.add_comm, hi]

theorem S_shl (x : BitVec 32) (h : x.getLsbD 31 = false) : S (x <<< 1) = x := by
  rw [S_even _ (by simp)]
  apply BitVec.eq_of_getLsbD_eq
  intro i hi
  rw [BitVec.getLsbD_ushiftRight, BitVec.getLsbD_shiftLeft]
  have : i = 31 ∨ i < 31 := by omega
  rcases this with rfl | h1
  · rw [h]; decide
  · have h2 : decide (1 + i < 32) = true := by simp; omega
    rw [h2]; simp

theorem Sn_feeds : ∀ k (n c : BitVec 32), k ≤ 32 → c.toNat < 2 ^ k → Sn k (n ^^^ c) = feeds n (bits k c)
  | 0, n, c, _, h => by
    have : c = 0 := by apply BitVec.eq_of_toNat_eq; simp at h ⊢; exact h
    subst this; simp [Sn, feeds, bits]
  | k + 1, n, c, hk, h => by
    have hs : (c >>> 1).toNat < 2 ^ k := by
      simp only [BitVec.toNat_ushiftRight, Nat.shiftRight_eq_div_pow]
      rw [Nat.pow_succ] at h; omega
    have h31 : (c >>> 1).getLsbD 31 = false := by simp
    have e : S (n ^^^ c) = feed n (c.getLsbD 0) ^^^ (c >>> 1) := by
      conv => lhs; rw [split_low c]
      rw [← BitVec.xor_assoc, S_xor, S_shl _ h31]; rfl
    simp only [Sn, bits, feeds, List.foldl_cons]
    rw [e]
    exact Sn_feeds k _ _ (by omega) hs

theorem feeds_append (n : BitVec 32) (l m : List Bool) : feeds n (l ++ m) = feeds (feeds n l) m := by simp [feeds]

theorem feeds_zeros : ∀ k (n : BitVec 32), feeds n (List.replicate k false) = Sn k n
  | 0, _ => rfl
  | k + 1, n => by
    have : feeds n (List.replicate (k + 1) false) = feeds (feed n false) (List.replicate k false) := by simp [List.replicate_succ, feeds]
    rw [this, feeds_zeros k]; simp [feed, bw, Sn]

/-- No burst within 32 bits is lost. -/
theorem burst (p q : Nat) (w : BitVec 32) (hw : w ≠ 0) : feeds 0 (List.replicate p false ++ bits 32 w ++ List.replicate q false) ≠ 0 := by
  rw [feeds_append, feeds_append, feeds_zeros, feeds_zeros, Sn_zero]
  intro h
  have h := Sn_inj q h
  rw [← Sn_feeds 32 0 w (Nat.le_refl _) w.isLt] at h
  have h := Sn_inj 32 h
  simp at h
  exact hw h

theorem feeds_xor : ∀ (l m : List Bool) (a b : BitVec 32), l.length = m.length → feeds (a ^^^ b) (List.zipWith (· ^^ ·) l m) = feeds a l ^^^ feeds b m
  | [], [], _, _, _ => by simp [feeds]
  | x :: l, y :: m, a, b, h => by
    have hx : bw (x ^^ y) = bw x ^^^ bw y := by cases x <;> cases y <;> simp [bw]
    have e : feed (a ^^^ b) (x ^^ y) = feed a x ^^^ feed b y := by
      simp only [feed, hx]
      rw [← S_xor]
      congr 1
      simp only [BitVec.xor_assoc]
      congr 1
      simp only [← BitVec.xor_assoc]
      rw [BitVec.xor_comm b (bw x)]
    have := feeds_xor l m (feed a x) (feed b y) (by simpa using h)
    simp only [feeds, List.zipWith_cons_cons, List.foldl_cons] at this ⊢
    rw [e]; exact this

end Crc
end
section
/- The check sum as Go tells it is the register's; a row with its sum behind ends in one register. -/
namespace Go.Proofs.Ythjnkapkhphpeaa.P
open Go.RowKit Go.Proofs.YthjnkapkhphpeaaW.PrintWords Go.Proofs.YthjnkapkhphpeaaW.PrintLast Go.Proofs.YthjnkapkhphpeaaW.PrintMore
set_option linter.unusedVariables false
set_option linter.unusedSimpArgs false
open Crc (S Sn feeds)
theorem xor_nat (a b : BitVec 32) : Go.bits .xor .u32 (a.toNat : Int) (b.toNat : Int) = ((a ^^^ b).toNat : Int) := by
  unfold Go.bits
  simp only [IntKind.bits, BitVec.ofInt_natCast]
  rw [wrap_u32 _ (by omega) (by have := (a ^^^ b).isLt; simp only [BitVec.ofNat_toNat, BitVec.setWidth_eq]; omega)]
  simp only [BitVec.ofNat_toNat, BitVec.setWidth_eq]
  rfl
theorem st_S (v : BitVec 32) : st (v.toNat : Int) = ((S v).toNat : Int) := by
  have hv := v.isLt
  unfold st S
  rw [and1 (by omega) (by omega)]
  have hb : v.getLsbD 0 = decide ((v.toNat : Int) % 2 = 1) := by
    rw [BitVec.getLsbD_eq_getElem (by omega), BitVec.getElem_eq_testBit_toNat, Nat.testBit_zero]
    congr 1
    simp
    omega
  have hh : (v.toNat : Int) / (2 : Int) = ((v >>> 1).toNat : Int) := by
    rw [BitVec.toNat_ushiftRight, Nat.shiftRight_eq_div_pow]; simp
  rw [hb, hh]
  by_cases h : (v.toNat : Int) % 2 = 1
  · rw [h, decide_eq_true rfl]
    simp only [beq_self_eq_true, if_true]
    exact xor_nat (v >>> 1) Crc.poly
  · have : ((v.toNat : Int) % 2 == 1) = false := by simpa using h
    rw [this, decide_eq_false h]
    simp
theorem stN_Sn : ∀ k (v : BitVec 32), stN k (v.toNat : Int) = ((Sn k v).toNat : Int)
  | 0, _ => rfl
  | k + 1, v => by rw [stN, st_S, stN_Sn k]; rfl
def foldB (n : BitVec 32) (l : List Int) : BitVec 32 := l.foldl (fun n c => Sn 8 (n ^^^ BitVec.ofInt 32 c)) n
theorem byteI_B (v : BitVec 32) (c : Int) (h0 : 0 ≤ c) (h1 : c < 4294967296) : byteI (v.toNat : Int) c = ((Sn 8 (v ^^^ BitVec.ofInt 32 c)).toNat : Int) := by
  unfold byteI
  rw [Int.emod_eq_of_lt h0 h1]
  obtain ⟨m, rfl⟩ := Int.eq_ofNat_of_zero_le h0
  have hm : ((BitVec.ofNat 32 m).toNat : Int) = (m : Int) := by rw [BitVec.toNat_ofNat, Nat.mod_eq_of_lt (by omega)]
  rw [← hm, xor_nat, stN_Sn, hm]
  simp
theorem fold_B (l : List Int) (hb : ∀ x ∈ l, 0 ≤ x ∧ x < 256) : ∀ v : BitVec 32, l.foldl byteI (v.toNat : Int) = ((foldB v l).toNat : Int) := by
  induction l with
  | nil => intro v; rfl
  | cons c l ih =>
    intro v
    have hc := hb c (by simp)
    simp only [List.foldl_cons, foldB]
    rw [byteI_B v c hc.1 (by omega)]
    exact ih (fun x hx => hb x (by simp [hx])) _
theorem regI_B (l : List Int) (hb : ∀ x ∈ l, 0 ≤ x ∧ x < 256) : regI l = ((foldB (BitVec.allOnes 32) l).toNat : Int) := fold_B l hb (BitVec.allOnes 32)
theorem crc_B (l : List Int) (hb : ∀ x ∈ l, 0 ≤ x ∧ x < 256) : crc l = ((BitVec.allOnes 32 ^^^ foldB (BitVec.allOnes 32) l).toNat : Int) := by
  unfold crc
  have h1 : IntKind.u32.max = ((BitVec.allOnes 32).toNat : Int) := by decide
  rw [regI_B l hb, h1, xor_nat, w64 (by omega) (by have := (BitVec.allOnes 32 ^^^ foldB (BitVec.allOnes 32) l).isLt; omega)]
theorem foldB_append (n : BitVec 32) (l m : List Int) : foldB n (l ++ m) = foldB (foldB n l) m := by simp [foldB]
/-- The bits of a row of bytes, the lowest first. -/
def rowBits (l : List Int) : List Bool := l.flatMap fun c => Crc.bits 8 (BitVec.ofInt 32 c)
theorem foldB_feeds (l : List Int) (hb : ∀ x ∈ l, 0 ≤ x ∧ x < 256) : ∀ n, foldB n l = feeds n (rowBits l) := by
  induction l with
  | nil => intro n; rfl
  | cons c l ih =>
    intro n
    have hc := hb c (by simp)
    have e : Sn 8 (n ^^^ BitVec.ofInt 32 c) = feeds n (Crc.bits 8 (BitVec.ofInt 32 c)) := by
      refine Crc.Sn_feeds 8 n _ (by omega) ?_
      obtain ⟨m, rfl⟩ := Int.eq_ofNat_of_zero_le hc.1
      simp
      omega
    show foldB (Sn 8 (n ^^^ BitVec.ofInt 32 c)) l = feeds n (Crc.bits 8 (BitVec.ofInt 32 c) ++ rowBits l)
    rw [Crc.feeds_append, ← e]
    exact ih (fun x hx => hb x (by simp [hx])) _
theorem bits_range : ∀ k (c : BitVec 32), Crc.bits k c = (List.range k).map (fun i => c.getLsbD i)
  | 0, _ => rfl
  | k + 1, c => by
    rw [Crc.bits, bits_range k, List.range_succ_eq_map, List.map_cons, List.map_map]
    congr 1
    refine List.map_congr_left fun i _ => ?_
    simp [Nat.add_comm]
theorem byte_bit (x : BitVec 32) (j i : Nat) (hi : i < 8) : (BitVec.ofInt 32 ((x.toNat : Int) / 256 ^ j % 256)).getLsbD i = x.getLsbD (8 * j + i) := by
  have e : ((x.toNat : Int) / 256 ^ j % 256) = ((x.toNat / 2 ^ (8 * j) % 2 ^ 8 : Nat) : Int) := by
    rw [Nat.pow_mul]; simp
  rw [e, BitVec.ofInt_natCast, BitVec.getLsbD_ofNat, Nat.testBit_mod_two_pow, Nat.testBit_div_two_pow]
  simp [hi, show i < 32 by omega, BitVec.getLsbD]
  rw [Nat.add_comm]
theorem rowBits_le (x : BitVec 32) : rowBits (le (x.toNat : Int) 4) = Crc.bits 32 x := by
  have b := byte_bit x
  have b0 := fun i hi => b 0 i hi
  have b1 := fun i hi => b 1 i hi
  have b2 := fun i hi => b 2 i hi
  have b3 := fun i hi => b 3 i hi
  simp only [Nat.mul_zero, Nat.zero_add, Nat.mul_one] at b0 b1
  have e0 : (256 : Int) ^ 0 = 1 := rfl
  have e1 : (256 : Int) ^ 1 = 256 := rfl
  have e2 : (256 : Int) ^ 2 = 65536 := rfl
  have e3 : (256 : Int) ^ 3 = 16777216 := rfl
  rw [e0] at b0
  rw [e1] at b1
  rw [e2] at b2
  rw [e3] at b3
  simp only [Int.ediv_one] at b0
  have h0 : Crc.bits 8 (BitVec.ofInt 32 ((x.toNat : Int) % 256)) = (List.range 8).map (fun i => x.getLsbD i) := by rw [bits_range]; exact List.map_congr_left fun i hi => b0 i (List.mem_range.1 hi)
  have h1 : Crc.bits 8 (BitVec.ofInt 32 ((x.toNat : Int) / 256 % 256)) = (List.range 8).map (fun i => x.getLsbD (8 + i)) := by rw [bits_range]; exact List.map_congr_left fun i hi => b1 i (List.mem_range.1 hi)
  have h2 : Crc.bits 8 (BitVec.ofInt 32 ((x.toNat : Int) / 65536 % 256)) = (List.range 8).map (fun i => x.getLsbD (8 * 2 + i)) := by rw [bits_range]; exact List.map_congr_left fun i hi => b2 i (List.mem_range.1 hi)
  have h3 : Crc.bits 8 (BitVec.ofInt 32 ((x.toNat : Int) / 16777216 % 256)) = (List.range 8).map (fun i => x.getLsbD (8 * 3 + i)) := by rw [bits_range]; exact List.map_congr_left fun i hi => b3 i (List.mem_range.1 hi)
  show rowBits (le4 (x.toNat : Int)) = _
  simp only [rowBits, le4, List.flatMap_cons, List.flatMap_nil]
  rw [h0, h1, h2, h3, bits_range]
  rfl
theorem le_word (x : BitVec 32) (n : BitVec 32) : foldB n (le (x.toNat : Int) 4) = Sn 32 (n ^^^ x) := by
  have hb : ∀ y ∈ le (x.toNat : Int) 4, 0 ≤ y ∧ y < 256 := by
    intro y hy
    have hy : y ∈ le4 (x.toNat : Int) := hy
    simp only [le4, List.mem_cons, List.not_mem_nil, or_false] at hy
    rcases hy with rfl | rfl | rfl | rfl <;> omega
  rw [foldB_feeds _ hb, rowBits_le, Crc.Sn_feeds 32 n x (Nat.le_refl _) x.isLt]
/-- A row with its check sum behind ends in one register, whatever it is. -/
theorem residue (l : List Int) (hb : ∀ x ∈ l, 0 ≤ x ∧ x < 256) : foldB (BitVec.allOnes 32) (l ++ le (crc l) 4) = Sn 32 (BitVec.allOnes 32) := by
  rw [foldB_append, crc_B l hb, le_word]
  congr 1
  rw [BitVec.xor_comm, BitVec.xor_assoc, BitVec.xor_self]
  simp
theorem sums_same (l m : List Int) (hl : ∀ x ∈ l, 0 ≤ x ∧ x < 256) (hm : ∀ x ∈ m, 0 ≤ x ∧ x < 256) : crc (l ++ le (crc l) 4 ++ m) = crc ([0] ++ le (crc [0]) 4 ++ m) := by
  have h4 : ∀ k : List Int, ∀ y ∈ le (crc k) 4, 0 ≤ y ∧ y < 256 := by
    intro k y hy
    have hy : y ∈ le4 (crc k) := hy
    simp only [le4, List.mem_cons, List.not_mem_nil, or_false] at hy
    rcases hy with rfl | rfl | rfl | rfl <;> omega
  have h0 : ∀ x ∈ ([0] : List Int), 0 ≤ x ∧ x < 256 := by simp
  have hall : ∀ k : List Int, (∀ x ∈ k, 0 ≤ x ∧ x < 256) → ∀ x ∈ k ++ le (crc k) 4 ++ m, 0 ≤ x ∧ x < 256 := by
    intro k hk x hx
    simp only [List.mem_append] at hx
    rcases hx with (hx | hx) | hx
    · exact hk x hx
    · exact h4 k x hx
    · exact hm x hx
  rw [crc_B _ (hall l hl), crc_B _ (hall [0] h0), foldB_append _ (l ++ _), foldB_append _ ([0] ++ _), residue l hl, residue [0] h0]
end Go.Proofs.Ythjnkapkhphpeaa.P
end
section
/- The plain laws of slot: what is printed, parsed and picked. -/
namespace Go.Proofs.Ythjnkapkhphpeaa.P
open Go.RowKit Go.Proofs.YthjnkapkhphpeaaW.PrintWords Go.Proofs.YthjnkapkhphpeaaW.PrintLast Go.Proofs.YthjnkapkhphpeaaW.PrintMore
set_option linter.unusedVariables false
set_option linter.unusedSimpArgs false
theorem toList_inj {x y : ByteArray} (h : x.toList = y.toList) : x = y := by
  rw [ByteArray.toList_eq, ByteArray.toList_eq] at h
  cases x; cases y
  simp at h
  rw [h]
abbrev Rt (g s m : Int) : Prop := 1 ≤ g ∧ g ≤ 2147483647 ∧ 0 ≤ s ∧ s ≤ 2147483647 ∧ 0 ≤ m ∧ m < 4294967296
def blk (g s m : Int) : ByteArray := strOfNums (pad (slot_Print.row g s m) ++ le (crc (pad (slot_Print.row g s m))) 4)
theorem row_eq (g s m : Int) : slot_Print.row g s m = 97 :: 115 :: (le4 g ++ le4 s ++ le4 m) := by simp [slot_Print.row, le, le4]
theorem row_len (g s m : Int) : (slot_Print.row g s m).length = 14 := by simp [row_eq, le4]
theorem row_bd (g s m : Int) : ∀ x ∈ slot_Print.row g s m, 0 ≤ x ∧ x < 256 := by
  intro x hx
  simp only [row_eq, le4, List.mem_cons, List.mem_append, List.not_mem_nil, or_false] at hx
  omega
theorem print_ok {g s m : Int} (h : Rt g s m) : slot_Print.f g s m = some (blk g s m, 0) := by
  unfold slot_Print.f
  rw [if_pos ((right_iff _ _ _).2 h)]
  unfold num_Seal.f
  rw [if_neg (by rw [row_len]; omega)]
  rfl
theorem print_bad {g s m : Int} (h : ¬ Rt g s m) : slot_Print.f g s m = some (⟨#[]⟩, 1) := by
  unfold slot_Print.f
  rw [if_neg fun hr => h ((right_iff _ _ _).1 hr)]
theorem open_blk (g s m : Int) : num_Open.f (blk g s m) = some (pad (slot_Print.row g s m), 0) := open_seal (by rw [row_len]; omega) (row_bd g s m)
theorem blk_size (g s m : Int) : (blk g s m).size = 40 := seal_size (by rw [row_len]; omega)
theorem lev_row {g s m : Int} (h : Rt g s m) : lev (pad (slot_Print.row g s m)) 2 4 = g ∧ lev (pad (slot_Print.row g s m)) 6 4 = s ∧ lev (pad (slot_Print.row g s m)) 10 4 = m := by
  unfold Rt at h
  simp [row_eq, le4, pad, lev, rd]
  omega
theorem prefix_of (T : List Int) : strings_HasPrefix.f (strOfNums (97 :: 115 :: T)) ⟨#[97, 115]⟩ = some true := by
  have hs : (strOfNums (97 :: 115 :: T)).size = T.length + 2 := by simp [strOfNums, ByteArray.size]
  have h2 : ((⟨#[97, 115]⟩ : ByteArray).size : Int) = 2 := rfl
  unfold strings_HasPrefix.f stringslite_HasPrefix.f
  rw [h2, hs, if_pos (by omega), if_pos (by omega), if_pos (by omega)]
  simp [ByteArray.toList_eq, strOfNums]
theorem prefix_blk (g s m : Int) : strings_HasPrefix.f (blk g s m) ⟨#[97, 115]⟩ = some true := by
  unfold blk pad
  rw [row_eq]
  simp only [List.cons_append]
  exact prefix_of _
theorem prefix_any (b : ByteArray) : ∃ p, strings_HasPrefix.f b ⟨#[97, 115]⟩ = some p := by
  have h2 : ((⟨#[97, 115]⟩ : ByteArray).size : Int) = 2 := rfl
  unfold strings_HasPrefix.f stringslite_HasPrefix.f
  rw [h2]
  by_cases h : (b.size : Int) ≥ 2
  · rw [if_pos h, if_pos (by omega), if_pos h]
    exact ⟨_, rfl⟩
  · rw [if_neg h]
    exact ⟨_, rfl⟩
theorem parse_blk {g s m : Int} (h : Rt g s m) : slot_Parse.f (blk g s m) = some (g, s, m, 0) := by
  obtain ⟨h1, h2, h3⟩ := lev_row h
  unfold slot_Parse.f
  rw [open_blk, Option.bind_some, prefix_blk, Option.bind_some, if_pos ⟨rfl, rfl⟩]
  simp only [h1, h2, h3]
  rw [print_ok h, Option.bind_some, if_pos ⟨rfl, rfl⟩]
theorem parse_cases (b : ByteArray) : slot_Parse.f b = some (0, 0, 0, 2) ∨ ∃ g s m, Rt g s m ∧ b = blk g s m ∧ slot_Parse.f b = some (g, s, m, 0) := by
  obtain ⟨⟨l, e⟩, ho⟩ : ∃ o, num_Open.f b = some o := by unfold num_Open.f; split <;> exact ⟨_, rfl⟩
  obtain ⟨p, hp⟩ := prefix_any b
  unfold slot_Parse.f
  rw [ho, Option.bind_some, hp, Option.bind_some]
  by_cases hc : e = 0 ∧ p = true
  · rw [if_pos hc]
    by_cases hr : Rt (lev l 2 4) (lev l 6 4) (lev l 10 4)
    · simp only []
      rw [print_ok hr, Option.bind_some]
      by_cases hx : (blk (lev l 2 4) (lev l 6 4) (lev l 10 4)).toList = b.toList
      · rw [if_pos ⟨rfl, hx⟩]
        exact .inr ⟨_, _, _, hr, (toList_inj hx).symm, rfl⟩
      · rw [if_neg fun h => hx h.2]
        exact .inl rfl
    · simp only []
      rw [print_bad hr, Option.bind_some, if_neg (by simp)]
      exact .inl rfl
  · rw [if_neg hc]
    exact .inl rfl
theorem pick_val (k : Nat) {a b : ByteArray} {x1 x2 x3 e y1 y2 y3 f : Int} (hx : slot_Parse.f a = some (x1, x2, x3, e)) (hy : slot_Parse.f b = some (y1, y2, y3, f)) :
    slot_Pick.f (k + 1) a b = some (if e ≠ 0 ∧ f ≠ 0 then (0, 0, 0, 0, 4) else if e ≠ 0 ∨ (f = 0 ∧ y1 > x1) then (1, y1, y2, y3, 0) else (0, x1, x2, x3, 0)) := by
  unfold slot_Pick.f
  rw [hx, Option.bind_some, hy, Option.bind_some]
  simp only [slot_Pick.j0]
  by_cases he : e = 0
  · subst he
    by_cases hf : f = 0
    · subst hf
      by_cases hg : y1 > x1 <;> simp [hg]
    · simp [hf]
  · by_cases hf : f = 0
    · subst hf
      simp [he]
    · simp [he, hf]
theorem refRight_val (a b c : Int) : assartref03_Right.f a b c = some (decide (Rt a b c)) := by
  unfold assartref03_Right.f Rt
  by_cases h1 : a ≥ 1
  · by_cases h2 : a ≤ 2147483647
    · by_cases h3 : b ≥ 0
      · by_cases h4 : b ≤ 2147483647
        · by_cases h5 : c ≥ 0
          · simp [h1, h2, h3, h4, h5]
            omega
          · have : ¬ 0 ≤ c := h5
            simp [h1, h2, h3, h4, this]
        · simp [h1, h2, h3, h4]
      · have : ¬ 0 ≤ b := h3
        simp [h1, h2, this]
    · simp [h1, h2]
  · have : ¬ 1 ≤ a := h1
    simp [this]
end Go.Proofs.Ythjnkapkhphpeaa.P
end
section
-- Written by a program of this session (xprint.py, over the kit's print). Not trusted: Lean checks it.
namespace Go.Proofs.Ythjnkapkhphpeaa.P
open Go.RowKit Go.Proofs.YthjnkapkhphpeaaW.PrintWords Go.Proofs.YthjnkapkhphpeaaW.PrintLast Go.Proofs.YthjnkapkhphpeaaW.PrintMore
attribute [local go_sem] max2_int min2_int max_two min_two max_three min_three max_four min_four   -- for this text's walks alone
set_option linter.unusedVariables false
set_option linter.unusedSimpArgs false

/-! ### slot_Book: function 22 -/
def slot_Book.f (l0 : List Int) : Option (Int × Int) := (num_Sum.f l0).bind fun t120 => (some ((l0.length : Int), t120))
set_option maxHeartbeats 8000000 in
set_option maxRecDepth 100000 in
theorem slot_Book.calls (A0 : Option Addr) (c0 : Nat) (l0 : List Int) (r1 : Int) (r2 : Int) (w : World) (hr0 : Kd.C (Kd.int .u8) w A0 l0.length l0) (hc0 : l0.length ≤ c0) (h : slot_Book.f l0 = some (r1, r2)) :
    Calls Try.prog 22 #[.slice A0 l0.length c0] w fun e w' => e = .returned (.tuple #[.int .i64 r1, .int .i64 r2]) ∧ Drawn0 w w' := by
  have HR0 := Aside0.mk hr0
  have HC0 := Aside0.mk hc0
  clear hr0 hc0
  have H : ((num_Sum.f l0).bind fun t120 => (some ((l0.length : Int), t120))) = some (r1, r2) := h
  clear h
  replace H := Option.bind_eq_some_iff.mp H
  obtain ⟨t120, A20, H⟩ := H
  replace H : (some ((l0.length : Int), t120)) = some (r1, r2) := H
  have A2 := Aside0.mk A20
  clear A20
  simp only [Option.some.injEq, Prod.mk.injEq] at H
  obtain ⟨rfl, rfl⟩ := H
  go_enter Try.func22, Try.ntmps22
  go_wp2_with (first | ((with_reducible refine gate_callee (f := 52) rfl ?_); refine goesL_ (some 7) rfl rfl Try.func52 (by kernel_rfl) rfl #[.slice A0 l0.length c0] rfl (by (try simp only [List.map_toArray, List.map_cons, List.map_nil]); first | done | rfl | (simp only [List.length_drop, List.length_take]; rfl)) ?_; (with_reducible refine (num_Sum.calls _ _ l0 t120 _ ?side1 ?side2 A2.out).mono ?_); (case side1 => repeat (first | exact HR0.out | (with_reducible refine Kd.C_alloc ?_ _) | (with_reducible refine Kd.C_drewN ?_ _) | (with_reducible refine Kd.C_drew ?_))); (case side2 => exact HC0.out); rintro e w' ⟨rfl, ⟨nd, rfl⟩⟩; refine ⟨_, rfl, ?_⟩))
  go_ret2
  exact ⟨by first | rfl | (simp; done) | (simp [*]; done), by repeat (first | exact Drawn0.refl _ | apply Drawn0.step)⟩

end Go.Proofs.Ythjnkapkhphpeaa.P
end
section
/- assartlaw03.shown: the document's example holds. -/
namespace Go.Proofs.Ythjnkapkhphpeaa.P
open Go.RowKit Go.Proofs.YthjnkapkhphpeaaW.PrintWords Go.Proofs.YthjnkapkhphpeaaW.PrintLast Go.Proofs.YthjnkapkhphpeaaW.PrintMore
set_option linter.unusedVariables false
set_option linter.unusedSimpArgs false
def assartlaw03_shown.f : Option Bool := some true
theorem shown_val : assartlaw03_shown.f = some true := rfl
set_option maxHeartbeats 8000000 in
set_option maxRecDepth 100000 in
theorem assartlaw03_shown.calls (r : Bool) (w : World) (h : assartlaw03_shown.f = some r) :
    Calls Try.prog 15 #[] w fun e w' => e = .returned (.bool r) ∧ Below w.heap.size w w' := by
  have hu23 := Try.underlying23
  obtain rfl := Option.some.inj h
  clear h
  have r1 : Rt 1 3 4 := by decide
  have r2 : Rt 2 5 6 := by decide
  have hp1 := print_ok r1
  have hp2 := print_ok r2
  have hq1 := parse_blk r1
  have hpk := pick_val 0 (parse_blk r1) (parse_blk r2)
  simp at hpk
  obtain ⟨S1, e1⟩ : ∃ S, blk 1 3 4 = S := ⟨_, rfl⟩
  obtain ⟨S2, e2⟩ : ∃ S, blk 2 5 6 = S := ⟨_, rfl⟩
  rw [e1] at hp1 hq1 hpk
  rw [e2] at hp2 hpk
  have HP1 := Aside0.mk hp1
  have HP2 := Aside0.mk hp2
  have HQ1 := Aside0.mk hq1
  have HPK := Aside0.mk hpk
  clear hp1 hp2 hq1 hpk e1 e2 r1 r2
  go_enter Try.func15, Try.ntmps15
  go_wp2_with fail
  refine (slot_Print.calls _ _ _ _ _ _ HP1.out).mono ?_
  rintro e wa ⟨rfl, hb⟩
  have HBa := Aside0.mk hb
  clear hb
  go_wp2_with fail
  refine (slot_Print.calls _ _ _ _ _ _ HP2.out).mono ?_
  rintro e wb ⟨rfl, hb⟩
  have HBb : Aside0 (Below w.heap.size w wb) := ⟨HBa.out.trans (hb.mono HBa.out.size)⟩
  clear hb HBa
  go_wp2_with fail
  refine (slot_Pick.calls 1 _ _ _ _ _ _ _ _ HPK.out).mono ?_
  rintro e wc ⟨rfl, hb⟩
  have HBc : Aside0 (Below w.heap.size w wc) := ⟨HBb.out.trans (hb.mono HBb.out.size)⟩
  clear hb HBb
  go_wp2_with (first | ((with_reducible refine gate_dst (N := 6) rfl ?_); refine box_event ?hg (N := 6) ?hd (cs := #[.int .i64 0, .int .i64 0, .int .i64 0]) (t := 23) ?hr ?_; (case hd => rfl); (case hg => rfl); (case hr => first | (go_simp; done) | (go_simp; rfl)); intro g6 hg wd hbox hb; have HBd := Aside0.mk (HBc.out.trans (hb.mono HBc.out.size)); have HK6 := Aside0.mk hbox; have HG6 : Aside0 (w.heap.size ≤ g6) := ⟨by rw [hg]; exact HBc.out.size⟩; have f0 := blk_frozen hbox 0; have f1 := blk_frozen hbox 1; have f2 := blk_frozen hbox 2; have x0 : wd.cell? ⟨g6, 0, none⟩ = some (.int .i64 0) := (blk_cell hbox 0).trans rfl; have x1 : wd.cell? ⟨g6, 1, none⟩ = some (.int .i64 0) := (blk_cell hbox 1).trans rfl; have x2 : wd.cell? ⟨g6, 2, none⟩ = some (.int .i64 0) := (blk_cell hbox 2).trans rfl; clear hb hbox hg) | fail)
  have h6 := blk_put (cs' := #[.int .i64 2, .int .i64 5, .int .i64 6]) (blk_put (cs' := #[.int .i64 2, .int .i64 5, .int .i64 0]) (blk_put (cs' := #[.int .i64 2, .int .i64 0, .int .i64 0]) HK6.out 0 (.int .i64 2) rfl) 1 (.int .i64 5) rfl) 2 (.int .i64 6) rfl
  have hB6 := below_set (j := 2) (v := .int .i64 6) (below_set (j := 1) (v := .int .i64 5) (below_set (j := 0) (v := .int .i64 2) HBd.out HG6.out) HG6.out) HG6.out
  have H6 := Aside0.mk h6
  have HB6 := Aside0.mk hB6
  clear h6 hB6 f0 f1 f2 x0 x1 x2 HK6 HBd HBc
  refine (slot_Parse.calls _ _ _ _ _ _ HQ1.out).mono ?_
  rintro e we ⟨rfl, hb⟩
  have HBe : Aside0 (Below w.heap.size w we) := ⟨HB6.out.trans (hb.mono HB6.out.size)⟩
  have H6e := Aside0.mk (blk_below H6.out hb)
  clear hb HB6 H6
  go_wp2_with (first | ((with_reducible refine gate_dst (N := 8) rfl ?_); refine box_event ?hg (N := 8) ?hd (cs := #[.int .i64 0, .int .i64 0, .int .i64 0]) (t := 23) ?hr ?_; (case hd => rfl); (case hg => rfl); (case hr => first | (go_simp; done) | (go_simp; rfl)); intro g8 hg wf hbox hb; have HBf := Aside0.mk (HBe.out.trans (hb.mono HBe.out.size)); have HK8 := Aside0.mk hbox; have HG8 : Aside0 (w.heap.size ≤ g8) := ⟨by rw [hg]; exact HBe.out.size⟩; have HNE : Aside0 (g6 ≠ g8) := ⟨by have := blk_lt H6e.out; rw [hg]; omega⟩; have H6f := Aside0.mk (blk_below H6e.out hb); have kc := Joins.run_convert_bytes_const_at (P := Try.prog) (((wf.setCell ⟨g8, 0, none⟩ (.int .i64 1)).setCell ⟨g8, 1, none⟩ (.int .i64 3)).setCell ⟨g8, 2, none⟩ (.int .i64 4)) 24 5 #[.int .u8 49, .int .u8 50, .int .u8 51, .int .u8 52, .int .u8 53, .int .u8 54, .int .u8 55, .int .u8 56, .int .u8 57] 9 9 wf.heap.size (by simp [World.setCell]) Try.underlying24 Try.underlying5; have f0 := blk_frozen hbox 0; have f1 := blk_frozen hbox 1; have f2 := blk_frozen hbox 2; have x0 : wf.cell? ⟨g8, 0, none⟩ = some (.int .i64 0) := (blk_cell hbox 0).trans rfl; have x1 : wf.cell? ⟨g8, 1, none⟩ = some (.int .i64 0) := (blk_cell hbox 1).trans rfl; have x2 : wf.cell? ⟨g8, 2, none⟩ = some (.int .i64 0) := (blk_cell hbox 2).trans rfl; clear hb hbox hg) | fail)
  clear kc
  have h8 := blk_put (cs' := #[.int .i64 1, .int .i64 3, .int .i64 4]) (blk_put (cs' := #[.int .i64 1, .int .i64 3, .int .i64 0]) (blk_put (cs' := #[.int .i64 1, .int .i64 0, .int .i64 0]) HK8.out 0 (.int .i64 1) rfl) 1 (.int .i64 3) rfl) 2 (.int .i64 4) rfl
  have h6 := blk_far (blk_far (blk_far H6f.out (p := ⟨g8, 0, none⟩) HNE.out (.int .i64 1)) (p := ⟨g8, 1, none⟩) HNE.out (.int .i64 3)) (p := ⟨g8, 2, none⟩) HNE.out (.int .i64 4)
  have hB8 := below_set (j := 2) (v := .int .i64 4) (below_set (j := 1) (v := .int .i64 3) (below_set (j := 0) (v := .int .i64 1) HBf.out HG8.out) HG8.out) HG8.out
  have hsz : (((wf.setCell ⟨g8, 0, none⟩ (.int .i64 1)).setCell ⟨g8, 1, none⟩ (.int .i64 3)).setCell ⟨g8, 2, none⟩ (.int .i64 4)).heap.size = wf.heap.size := by simp [World.setCell]
  have hL := lit_C (((wf.setCell ⟨g8, 0, none⟩ (.int .i64 1)).setCell ⟨g8, 1, none⟩ (.int .i64 3)).setCell ⟨g8, 2, none⟩ (.int .i64 4)) 5 [49, 50, 51, 52, 53, 54, 55, 56, 57] (9, 10) (by simp)
  rw [hsz] at hL
  have h8a := blk_alloc h8 (.cells #[.int .u8 49, .int .u8 50, .int .u8 51, .int .u8 52, .int .u8 53, .int .u8 54, .int .u8 55, .int .u8 56, .int .u8 57] 5 (9, 10))
  have h6a := blk_alloc h6 (.cells #[.int .u8 49, .int .u8 50, .int .u8 51, .int .u8 52, .int .u8 53, .int .u8 54, .int .u8 55, .int .u8 56, .int .u8 57] 5 (9, 10))
  have hBa := hB8.alloc hB8.size (.cells #[.int .u8 49, .int .u8 50, .int .u8 51, .int .u8 52, .int .u8 53, .int .u8 54, .int .u8 55, .int .u8 56, .int .u8 57] 5 (9, 10))
  have hbk : slot_Book.f [49, 50, 51, 52, 53, 54, 55, 56, 57] = some (9, 3421780262) := by
    have hs : num_Sum.f [49, 50, 51, 52, 53, 54, 55, 56, 57] = some 3421780262 := by unfold num_Sum.f; rw [if_pos (by simp)]; exact congrArg some sum_ex
    unfold slot_Book.f
    rw [hs, Option.bind_some]
    rfl
  have HC := slot_Book.calls (some ⟨wf.heap.size, 0, none⟩) 9 [49, 50, 51, 52, 53, 54, 55, 56, 57] 9 3421780262 _ hL (by simp) hbk
  clear hL hbk f0 f1 f2 x0 x1 x2
  refine HC.mono ?_
  rintro e wh ⟨rfl, ⟨nd, rfl⟩⟩
  clear HC
  generalize hW : ((((wf.setCell ⟨g8, 0, none⟩ (.int .i64 1)).setCell ⟨g8, 1, none⟩ (.int .i64 3)).setCell ⟨g8, 2, none⟩ (.int .i64 4)).alloc (.cells (encs (Value.int .u8) [49, 50, 51, 52, 53, 54, 55, 56, 57]).toArray 5 (9, 10))).drewN nd = wx
  have h8x : wx.heap[g8]? = some (.cells #[.int .i64 1, .int .i64 3, .int .i64 4] 23 (0, 0)) := by rw [← hW]; exact h8a
  have h6x : wx.heap[g6]? = some (.cells #[.int .i64 2, .int .i64 5, .int .i64 6] 23 (0, 0)) := by rw [← hW]; exact h6a
  have HBx : Aside0 (Below w.heap.size w wx) := ⟨by rw [← hW]; exact pw_below_drewN hBa nd⟩
  have y0 : wx.cell? ⟨g6, 0, none⟩ = some (.int .i64 2) := (blk_cell h6x 0).trans rfl
  have y1 : wx.cell? ⟨g6, 1, none⟩ = some (.int .i64 5) := (blk_cell h6x 1).trans rfl
  have y2 : wx.cell? ⟨g6, 2, none⟩ = some (.int .i64 6) := (blk_cell h6x 2).trans rfl
  have z0 : wx.cell? ⟨g8, 0, none⟩ = some (.int .i64 1) := (blk_cell h8x 0).trans rfl
  have z1 : wx.cell? ⟨g8, 1, none⟩ = some (.int .i64 3) := (blk_cell h8x 1).trans rfl
  have z2 : wx.cell? ⟨g8, 2, none⟩ = some (.int .i64 4) := (blk_cell h8x 2).trans rfl
  have heq : ∀ W, (binOp .eql 23 (.agg #[.int .i64 2, .int .i64 5, .int .i64 6]) (.agg #[.int .i64 2, .int .i64 5, .int .i64 6])).run Try.prog W = .ok (.bool true) W := fun _ => by kernel_rfl
  clear h8 h6 hB8 hsz h8a h6a hBa hW HK8 H6f HG8 HNE HBf h8x h6x HG6 H6e HBe
  go_wp2_with fail
  refine (slot_Right.calls 1 3 4 true _ (by decide)).mono ?_
  rintro e wz ⟨rfl, hb⟩
  have HBz : Aside0 (Below w.heap.size w wz) := ⟨HBx.out.trans (hb.mono HBx.out.size)⟩
  clear hb HBx
  go_wp2
  go_ret
  exact ⟨rfl, HBz.out⟩
end Go.Proofs.Ythjnkapkhphpeaa.P
end
section
/- A block of bytes that is stored into. -/
namespace Go.Proofs.Ythjnkapkhphpeaa.P
open Go.RowKit Go.Proofs.YthjnkapkhphpeaaW.PrintWords Go.Proofs.YthjnkapkhphpeaaW.PrintLast Go.Proofs.YthjnkapkhphpeaaW.PrintMore
set_option linter.unusedVariables false
set_option linter.unusedSimpArgs false
/-- Block g holds this row of bytes first; none of its places is frozen. -/
def RowAt (w : World) (g : Nat) (l : List Int) : Prop := ∃ X m m', w.heap[g]? = some (.cells (encs (Value.int .u8) l ++ X).toArray 5 (m, m')) ∧ l.length ≤ m
theorem RowAt.cell {w : World} {g : Nat} {l : List Int} (h : RowAt w g l) (j : Nat) (hj : j < l.length) : w.cell? ⟨g, j, none⟩ = some (.int .u8 (rd l j)) := by
  obtain ⟨X, m, m', hg, hm⟩ := h
  have he := encs_get (enc := Value.int .u8) (d := (0 : Int)) l j hj
  have hl : j < (encs (Value.int .u8) l).length := by simpa [encs] using hj
  simp [World.cell?, hg, List.getElem?_append_left hl, he, rd]
theorem RowAt.free {w : World} {g : Nat} {l : List Int} (h : RowAt w g l) (j : Nat) (hj : j < l.length) : w.frozen? ⟨g, j, none⟩ = false := by
  obtain ⟨X, m, m', hg, hm⟩ := h
  simp [World.frozen?, hg]
  omega
theorem RowAt.set {w : World} {g : Nat} {l : List Int} (h : RowAt w g l) (j : Nat) (x : Int) (hj : j < l.length) : RowAt (w.setCell ⟨g, j, none⟩ (.int .u8 x)) g (l.set j x) := by
  obtain ⟨X, m, m', hg, hm⟩ := h
  refine ⟨X, m, m', ?_, by simpa using hm⟩
  have hl : j < (encs (Value.int .u8) l).length := by simpa [encs] using hj
  simp only [World.setCell, Array.getElem?_modify, if_true, hg]
  have e : (encs (Value.int .u8) l ++ X).set j (.int .u8 x) = encs (Value.int .u8) (l.set j x) ++ X := by
    rw [List.set_append_left _ _ hl]
    simp [encs, List.map_set]
  simp [List.setIfInBounds_toArray, e]
theorem RowAt.C {w : World} {g : Nat} {l : List Int} (h : RowAt w g l) (hl : l.length ≤ 9223372036854775807) : Kd.C (Kd.int .u8) w (some ⟨g, 0, none⟩) l.length l := by
  refine Kd.C_of_reads (d := (0 : Int)) ⟨rfl, hl, fun _ => ⟨⟨g, 0, none⟩, rfl, fun j hj => ?_⟩⟩
  rw [add_plain, h.cell j hj]
  simp [rd]
theorem rowAt_bytes (W : World) (s : ByteArray) : RowAt (Lib.bytesWorld W 5 s) W.heap.size (bytesOf s) := by
  refine ⟨List.replicate (grownCap W s.size 0 5 - s.size) (.int .u8 0), (Lib.bytesCells W 5 s).size, (Lib.bytesCells W 5 s).size + 1, ?_, ?_⟩
  · rw [Lib.bytesWorld_at_new]
    congr 2
    simp [Lib.bytesCells, encs, bytesOf, Function.comp_def]
  · have := grownCap_ge W s.size 0 5
    simp [Lib.bytesCells, bytesOf_length]
theorem size_of_str (l : List Int) : (strOfNums l).size = l.length := by simp [strOfNums, ByteArray.size]
end Go.Proofs.Ythjnkapkhphpeaa.P
end
section
/- A sealed block of which one byte is another one is none. -/
namespace Go.Proofs.Ythjnkapkhphpeaa.P
open Go.RowKit Go.Proofs.YthjnkapkhphpeaaW.PrintWords Go.Proofs.YthjnkapkhphpeaaW.PrintLast Go.Proofs.YthjnkapkhphpeaaW.PrintMore
set_option linter.unusedVariables false
set_option linter.unusedSimpArgs false
theorem xor8_eq (a b : Int) : Go.bits .xor .u8 a b = ((BitVec.ofInt 8 a ^^^ BitVec.ofInt 8 b).toNat : Int) := by
  show (IntKind.u8.wrap ((BitVec.ofInt 8 a ^^^ BitVec.ofInt 8 b).toNat : Int)) = _
  have := (BitVec.ofInt 8 a ^^^ BitVec.ofInt 8 b).isLt
  generalize (BitVec.ofInt 8 a ^^^ BitVec.ofInt 8 b).toNat = n at this ⊢
  rw [IntKind.wrap_u8]
  omega
theorem xor8_bd (a b : Int) : 0 ≤ Go.bits .xor .u8 a b ∧ Go.bits .xor .u8 a b < 256 := by
  rw [xor8_eq]
  have := (BitVec.ofInt 8 a ^^^ BitVec.ofInt 8 b).isLt
  omega
theorem xor8_same {x b : Int} (h0 : 0 ≤ x) (h1 : x < 256) (hb0 : 0 ≤ b) (hb1 : b < 256) : Go.bits .xor .u8 x b = x ↔ b = 0 := by
  rw [xor8_eq]
  obtain ⟨n, rfl⟩ := Int.eq_ofNat_of_zero_le h0
  obtain ⟨m, rfl⟩ := Int.eq_ofNat_of_zero_le hb0
  rw [BitVec.ofInt_natCast, BitVec.ofInt_natCast]
  constructor
  · intro h
    have h2 : (BitVec.ofNat 8 n ^^^ BitVec.ofNat 8 m) = BitVec.ofNat 8 n := by
      apply BitVec.eq_of_toNat_eq
      have h3 : (BitVec.ofNat 8 n).toNat = n := by rw [BitVec.toNat_ofNat]; omega
      rw [h3]
      omega
    have h4 : BitVec.ofNat 8 m = 0 := by
      have := congrArg (fun v => BitVec.ofNat 8 n ^^^ v) h2
      simp only [← BitVec.xor_assoc, BitVec.xor_self, BitVec.zero_xor] at this
      exact this
    have h5 := congrArg BitVec.toNat h4
    simp at h5
    omega
  · intro h
    have : m = 0 := by omega
    subst this
    simp
    omega
theorem foldB_inj (q : List Int) : ∀ a b : BitVec 32, foldB a q = foldB b q → a = b := by
  induction q with
  | nil => intro a b h; exact h
  | cons c q ih =>
    intro a b h
    have h2 : Crc.Sn 8 (a ^^^ BitVec.ofInt 32 c) = Crc.Sn 8 (b ^^^ BitVec.ofInt 32 c) := ih _ _ h
    have h3 := Crc.Sn_eq h2
    have := congrArg (fun v => v ^^^ BitVec.ofInt 32 c) h3
    simp only [BitVec.xor_assoc, BitVec.xor_self, BitVec.xor_zero] at this
    exact this
theorem set_bd {l : List Int} (hl : ∀ x ∈ l, 0 ≤ x ∧ x < 256) (i : Nat) (y : Int) (hy : 0 ≤ y ∧ y < 256) : ∀ x ∈ l.set i y, 0 ≤ x ∧ x < 256 := by
  intro x hx
  rcases List.mem_or_eq_of_mem_set hx with h | rfl
  · exact hl x h
  · exact hy
theorem foldB_set {l : List Int} (hl : ∀ x ∈ l, 0 ≤ x ∧ x < 256) (i : Nat) (hi : i < l.length) (y : Int) (hy : 0 ≤ y ∧ y < 256) (h2 : foldB (BitVec.allOnes 32) l = foldB (BitVec.allOnes 32) (l.set i y)) : y = l[i] := by
  have e1 : l.set i y = l.take i ++ y :: l.drop (i + 1) := List.set_eq_take_append_cons_drop.trans (if_pos hi)
  have e0 : l = l.take i ++ l[i] :: l.drop (i + 1) := by
    conv => lhs; rw [← List.set_getElem_self hi]
    exact List.set_eq_take_append_cons_drop.trans (if_pos hi)
  rw [e1] at h2
  have h3 : foldB (BitVec.allOnes 32) (l.take i ++ l[i] :: l.drop (i + 1)) = foldB (BitVec.allOnes 32) (l.take i ++ y :: l.drop (i + 1)) := by rw [← e0]; exact h2
  rw [foldB_append, foldB_append] at h3
  have h4 := Crc.Sn_eq (foldB_inj (l.drop (i + 1)) _ _ h3)
  have h5 := congrArg (fun v => foldB (BitVec.allOnes 32) (l.take i) ^^^ v) h4
  simp only [← BitVec.xor_assoc, BitVec.xor_self, BitVec.zero_xor] at h5
  have hx := hl l[i] (List.getElem_mem hi)
  generalize l[i] = x at h5 hx
  obtain ⟨n, rfl⟩ := Int.eq_ofNat_of_zero_le hx.1
  obtain ⟨m, rfl⟩ := Int.eq_ofNat_of_zero_le hy.1
  rw [BitVec.ofInt_natCast, BitVec.ofInt_natCast] at h5
  have := congrArg BitVec.toNat h5
  simp at this
  omega
theorem isSealed_residue {b : List Int} (hb : ∀ x ∈ b, 0 ≤ x ∧ x < 256) (h : isSealed b = true) : b.length = 40 ∧ foldB (BitVec.allOnes 32) b = Crc.Sn 32 (BitVec.allOnes 32) := by
  unfold isSealed at h
  simp only [Bool.and_eq_true, decide_eq_true_eq] at h
  obtain ⟨hl, hc⟩ := h
  refine ⟨hl, ?_⟩
  have e : b = b.take 36 ++ le (crc (b.take 36)) 4 := by rw [← hc, lev_back hb hl, List.take_append_drop]
  rw [e]
  exact residue _ fun x hx => hb x (List.mem_of_mem_take hx)
theorem spoil_one {g s m : Int} (hr : Rt g s m) (k : Nat) (hk : k < 40) (b : Int) (hb0 : 0 ≤ b) (hb1 : b < 256) :
    ∃ n1 n2 n3 ne, slot_Parse.f (strOfNums ((bytesOf (blk g s m)).set k (Go.bits .xor .u8 (rd (bytesOf (blk g s m)) (k : Int)) b))) = some (n1, n2, n3, ne) ∧ (ne == 0) = (b == 0) := by
  have hbd := bytesOf_bd (blk g s m)
  have hlen : (bytesOf (blk g s m)).length = 40 := by rw [bytesOf_length, blk_size]
  have hk' : k < (bytesOf (blk g s m)).length := by omega
  have hrd : rd (bytesOf (blk g s m)) (k : Int) = (bytesOf (blk g s m))[k] := by simp [rd, hk']
  have hx := hbd _ (List.getElem_mem hk')
  rw [hrd]
  by_cases h : b = 0
  · have e : Go.bits .xor .u8 (bytesOf (blk g s m))[k] b = (bytesOf (blk g s m))[k] := (xor8_same hx.1 hx.2 hb0 hb1).2 h
    rw [e, List.set_getElem_self, str_bytesOf, parse_blk hr]
    exact ⟨_, _, _, _, rfl, by simp [h]⟩
  · rcases parse_cases (strOfNums ((bytesOf (blk g s m)).set k (Go.bits .xor .u8 (bytesOf (blk g s m))[k] b))) with hp | ⟨g', s', m', hr', hbk, hp⟩
    · exact ⟨_, _, _, _, hp, by simp [h]⟩
    · exfalso
      have hsb := set_bd hbd k _ (xor8_bd (bytesOf (blk g s m))[k] b)
      have hby := congrArg bytesOf hbk
      rw [bytesOf_str hsb] at hby
      have r : ∀ g s m : Int, foldB (BitVec.allOnes 32) (bytesOf (blk g s m)) = Crc.Sn 32 (BitVec.allOnes 32) := fun g s m => by
        have hs : isSealed (bytesOf (blk g s m)) = true := by
          have := open_blk g s m
          unfold num_Open.f at this
          by_cases hs : isSealed (bytesOf (blk g s m)) = true
          · exact hs
          · rw [if_neg hs] at this
            simp at this
        exact (isSealed_residue (bytesOf_bd _) hs).2
      have h2 : foldB (BitVec.allOnes 32) (bytesOf (blk g s m)) = foldB (BitVec.allOnes 32) ((bytesOf (blk g s m)).set k (Go.bits .xor .u8 (bytesOf (blk g s m))[k] b)) := by rw [hby, r, r]
      exact h ((xor8_same hx.1 hx.2 hb0 hb1).1 (foldB_set hbd k hk' _ (xor8_bd _ _) h2))
end Go.Proofs.Ythjnkapkhphpeaa.P
end
section
/- SlotBack: the walk. -/
namespace Go.Proofs.Ythjnkapkhphpeaa.P
open Go.RowKit Go.Proofs.YthjnkapkhphpeaaW.PrintWords Go.Proofs.YthjnkapkhphpeaaW.PrintLast Go.Proofs.YthjnkapkhphpeaaW.PrintMore
set_option linter.unusedVariables false
set_option linter.unusedSimpArgs false
theorem struct_same (g s m : Int) : ∀ W, (binOp .neq 23 (.agg #[.int .i64 g, .int .i64 s, .int .i64 m]) (.agg #[.int .i64 g, .int .i64 s, .int .i64 m])).run Try.prog W = .ok (.bool false) W := fun W => by
  have hu23 := Try.underlying23
  go_simp
set_option maxHeartbeats 8000000 in
set_option maxRecDepth 100000 in
theorem SlotBack_long (g s m : Int) (B : ByteArray) (at' by' : Int) (w : World) (hB : 200 < B.size) :
    Calls Try.prog 4 #[.agg #[.int .i64 g, .int .i64 s, .int .i64 m, .string B, .int .u8 at', .int .u8 by']] w fun e w' => e = .returned (.bool true) ∧ Below w.heap.size w w' := by
  have dB : decide ((200 : Int) < B.size) = true := by simp; omega
  clear hB
  have hu23 := Try.underlying23
  have hu46 := Try.underlying46
  go_enter Try.func4, Try.ntmps4
  go_wp2_with (first | ((with_reducible refine gate_dst (N := 1) rfl ?_); refine box_event ?hg (N := 1) ?hd (cs := #[.int .i64 g, .int .i64 s, .int .i64 m, .string B, .int .u8 at', .int .u8 by']) (t := 46) ?hr ?_; (case hd => rfl); (case hg => rfl); (case hr => first | (go_simp; done) | (go_simp; rfl)); intro g1 hg w1 hbox hb; have HB1 := Aside0.mk hb; have HK1 := Aside0.mk hbox; have HG1 := Aside0.mk hg; have z0 : w1.cell? ⟨g1, 0, none⟩ = some (.int .i64 g) := (blk_cell hbox 0).trans rfl; have z1 : w1.cell? ⟨g1, 1, none⟩ = some (.int .i64 s) := (blk_cell hbox 1).trans rfl; have z2 : w1.cell? ⟨g1, 2, none⟩ = some (.int .i64 m) := (blk_cell hbox 2).trans rfl; have z3 : w1.cell? ⟨g1, 3, none⟩ = some (.string B) := (blk_cell hbox 3).trans rfl; have z4 : w1.cell? ⟨g1, 4, none⟩ = some (.int .u8 at') := (blk_cell hbox 4).trans rfl; have z5 : w1.cell? ⟨g1, 5, none⟩ = some (.int .u8 by') := (blk_cell hbox 5).trans rfl; clear hb hbox hg) | ((with_reducible refine gate_dst (N := 3) rfl ?_); refine box_event ?hg (N := 3) ?hd (cs := #[.int .i64 0, .int .i64 0, .int .i64 0]) (t := 23) ?hr ?_; (case hd => rfl); (case hg => rfl); (case hr => first | (go_simp; done) | (go_simp; rfl)); intro g3 hg w3 hbox hb; have HB3 := Aside0.mk (HB1.out.trans (hb.mono HB1.out.size)); have HG3 : Aside0 (w.heap.size ≤ g3) := ⟨by rw [hg]; exact HB1.out.size⟩; have HNE : Aside0 (g1 ≠ g3) := ⟨by have := blk_lt HK1.out; rw [hg]; omega⟩; have HK3 := Aside0.mk hbox; have f0 := blk_frozen hbox 0; have f1 := blk_frozen hbox 1; have f2 := blk_frozen hbox 2;have x0 : w3.cell? ⟨g3, 0, none⟩ = some (.int .i64 0) := (blk_cell hbox 0).trans rfl; have x1 : w3.cell? ⟨g3, 1, none⟩ = some (.int .i64 0) := (blk_cell hbox 1).trans rfl; have x2 : w3.cell? ⟨g3, 2, none⟩ = some (.int .i64 0) := (blk_cell hbox 2).trans rfl; have hk1 := blk_far (blk_far (blk_far (blk_below HK1.out hb) (p := ⟨g3, 0, none⟩) HNE.out (.int .i64 g)) (p := ⟨g3, 1, none⟩) HNE.out (.int .i64 s)) (p := ⟨g3, 2, none⟩) HNE.out (.int .i64 m); have y3 : (((w3.setCell ⟨g3, 0, none⟩ (.int .i64 g)).setCell ⟨g3, 1, none⟩ (.int .i64 s)).setCell ⟨g3, 2, none⟩ (.int .i64 m)).cell? ⟨g1, 3, none⟩ = some (.string B) := (blk_cell hk1 3).trans rfl;  have y4 : (((w3.setCell ⟨g3, 0, none⟩ (.int .i64 g)).setCell ⟨g3, 1, none⟩ (.int .i64 s)).setCell ⟨g3, 2, none⟩ (.int .i64 m)).cell? ⟨g1, 4, none⟩ = some (.int .u8 at') := (blk_cell hk1 4).trans rfl;  have y5 : (((w3.setCell ⟨g3, 0, none⟩ (.int .i64 g)).setCell ⟨g3, 1, none⟩ (.int .i64 s)).setCell ⟨g3, 2, none⟩ (.int .i64 m)).cell? ⟨g1, 5, none⟩ = some (.int .u8 by') := (blk_cell hk1 5).trans rfl; clear hk1 z0 z1 z2 z3 z4 z5; clear hb hbox hg) | fail)
  have hS3 := blk_put (cs' := #[.int .i64 g, .int .i64 s, .int .i64 m]) (blk_put (cs' := #[.int .i64 g, .int .i64 s, .int .i64 0]) (blk_put (cs' := #[.int .i64 g, .int .i64 0, .int .i64 0]) HK3.out 0 (.int .i64 g) rfl) 1 (.int .i64 s) rfl) 2 (.int .i64 m) rfl
  have hB3 := below_set (j := 2) (v := .int .i64 m) (below_set (j := 1) (v := .int .i64 s) (below_set (j := 0) (v := .int .i64 g) HB3.out HG3.out) HG3.out) HG3.out
  have HS3 := Aside0.mk hS3
  have HBB := Aside0.mk hB3
  clear hS3 hB3 f0 f1 f2 x0 x1 x2 y3 y4 y5 HB3 HK3 HB1 HK1 HG1
  refine (assartlaw03_shown.calls true _ rfl).mono ?_
  rintro e wa ⟨rfl, hb⟩
  have HBa : Aside0 (Below w.heap.size w wa) := ⟨HBB.out.trans (hb.mono HBB.out.size)⟩
  have HSa := Aside0.mk (blk_below HS3.out hb)
  have k0 : wa.cell? ⟨g3, 0, none⟩ = some (.int .i64 g) := (blk_cell HSa.out 0).trans rfl
  have k1 : wa.cell? ⟨g3, 1, none⟩ = some (.int .i64 s) := (blk_cell HSa.out 1).trans rfl
  have k2 : wa.cell? ⟨g3, 2, none⟩ = some (.int .i64 m) := (blk_cell HSa.out 2).trans rfl
  clear hb HBB HS3
  go_wp2
  go_ret
  exact ⟨rfl, HBa.out⟩
set_option maxHeartbeats 8000000 in
set_option maxRecDepth 100000 in
theorem SlotBack_wrong (g s m : Int) (B : ByteArray) (at' by' : Int) (w : World) (p1 p2 p3 pe i : Int) (y : ByteArray) (hq : slot_Parse.f B = some (p1, p2, p3, pe)) (hpy : slot_Print.f p1 p2 p3 = some (y, i))
    (ht : ((pe == 0) = false ∧ (pe != 0) = true) ∨ ((pe == 0) = true ∧ (pe != 0) = false ∧ (i == 0) = true ∧ (i != 0) = false ∧ (y.toList == B.toList) = true ∧ (y.toList != B.toList) = false)) (hB : B.size ≤ 200) (hr : ¬ Rt g s m) :
    Calls Try.prog 4 #[.agg #[.int .i64 g, .int .i64 s, .int .i64 m, .string B, .int .u8 at', .int .u8 by']] w fun e w' => e = .returned (.bool true) ∧ Below w.heap.size w w' := by
  have dB : decide ((200 : Int) < B.size) = false := by simp; omega
  have HP := Aside0.mk (print_bad hr)
  have HR := Aside0.mk (show assartref03_Right.f g s m = some false by rw [refRight_val, decide_eq_false hr])
  have HQ := Aside0.mk hq
  have HPY := Aside0.mk hpy
  have HT := Aside0.mk ht
  clear hB hr hq hpy ht
  have hu23 := Try.underlying23
  have hu46 := Try.underlying46
  go_enter Try.func4, Try.ntmps4
  go_wp2_with (first | ((with_reducible refine gate_dst (N := 1) rfl ?_); refine box_event ?hg (N := 1) ?hd (cs := #[.int .i64 g, .int .i64 s, .int .i64 m, .string B, .int .u8 at', .int .u8 by']) (t := 46) ?hr ?_; (case hd => rfl); (case hg => rfl); (case hr => first | (go_simp; done) | (go_simp; rfl)); intro g1 hg w1 hbox hb; have HB1 := Aside0.mk hb; have HK1 := Aside0.mk hbox; have HG1 := Aside0.mk hg; have z0 : w1.cell? ⟨g1, 0, none⟩ = some (.int .i64 g) := (blk_cell hbox 0).trans rfl; have z1 : w1.cell? ⟨g1, 1, none⟩ = some (.int .i64 s) := (blk_cell hbox 1).trans rfl; have z2 : w1.cell? ⟨g1, 2, none⟩ = some (.int .i64 m) := (blk_cell hbox 2).trans rfl; have z3 : w1.cell? ⟨g1, 3, none⟩ = some (.string B) := (blk_cell hbox 3).trans rfl; have z4 : w1.cell? ⟨g1, 4, none⟩ = some (.int .u8 at') := (blk_cell hbox 4).trans rfl; have z5 : w1.cell? ⟨g1, 5, none⟩ = some (.int .u8 by') := (blk_cell hbox 5).trans rfl; clear hb hbox hg) | ((with_reducible refine gate_dst (N := 3) rfl ?_); refine box_event ?hg (N := 3) ?hd (cs := #[.int .i64 0, .int .i64 0, .int .i64 0]) (t := 23) ?hr ?_; (case hd => rfl); (case hg => rfl); (case hr => first | (go_simp; done) | (go_simp; rfl)); intro g3 hg w3 hbox hb; have HB3 := Aside0.mk (HB1.out.trans (hb.mono HB1.out.size)); have HG3 : Aside0 (w.heap.size ≤ g3) := ⟨by rw [hg]; exact HB1.out.size⟩; have HNE : Aside0 (g1 ≠ g3) := ⟨by have := blk_lt HK1.out; rw [hg]; omega⟩; have HK3 := Aside0.mk hbox; have f0 := blk_frozen hbox 0; have f1 := blk_frozen hbox 1; have f2 := blk_frozen hbox 2;have x0 : w3.cell? ⟨g3, 0, none⟩ = some (.int .i64 0) := (blk_cell hbox 0).trans rfl; have x1 : w3.cell? ⟨g3, 1, none⟩ = some (.int .i64 0) := (blk_cell hbox 1).trans rfl; have x2 : w3.cell? ⟨g3, 2, none⟩ = some (.int .i64 0) := (blk_cell hbox 2).trans rfl; have hk1 := blk_far (blk_far (blk_far (blk_below HK1.out hb) (p := ⟨g3, 0, none⟩) HNE.out (.int .i64 g)) (p := ⟨g3, 1, none⟩) HNE.out (.int .i64 s)) (p := ⟨g3, 2, none⟩) HNE.out (.int .i64 m); have y3 : (((w3.setCell ⟨g3, 0, none⟩ (.int .i64 g)).setCell ⟨g3, 1, none⟩ (.int .i64 s)).setCell ⟨g3, 2, none⟩ (.int .i64 m)).cell? ⟨g1, 3, none⟩ = some (.string B) := (blk_cell hk1 3).trans rfl;  have y4 : (((w3.setCell ⟨g3, 0, none⟩ (.int .i64 g)).setCell ⟨g3, 1, none⟩ (.int .i64 s)).setCell ⟨g3, 2, none⟩ (.int .i64 m)).cell? ⟨g1, 4, none⟩ = some (.int .u8 at') := (blk_cell hk1 4).trans rfl;  have y5 : (((w3.setCell ⟨g3, 0, none⟩ (.int .i64 g)).setCell ⟨g3, 1, none⟩ (.int .i64 s)).setCell ⟨g3, 2, none⟩ (.int .i64 m)).cell? ⟨g1, 5, none⟩ = some (.int .u8 by') := (blk_cell hk1 5).trans rfl; clear hk1 z0 z1 z2 z3 z4 z5; clear hb hbox hg) | fail)
  have hS3 := blk_put (cs' := #[.int .i64 g, .int .i64 s, .int .i64 m]) (blk_put (cs' := #[.int .i64 g, .int .i64 s, .int .i64 0]) (blk_put (cs' := #[.int .i64 g, .int .i64 0, .int .i64 0]) HK3.out 0 (.int .i64 g) rfl) 1 (.int .i64 s) rfl) 2 (.int .i64 m) rfl
  have hB3 := below_set (j := 2) (v := .int .i64 m) (below_set (j := 1) (v := .int .i64 s) (below_set (j := 0) (v := .int .i64 g) HB3.out HG3.out) HG3.out) HG3.out
  have HS3 := Aside0.mk hS3
  have HBB := Aside0.mk hB3
  clear hS3 hB3 f0 f1 f2 x0 x1 x2 y3 y4 y5 HB3 HK3 HB1 HK1 HG1
  refine (assartlaw03_shown.calls true _ rfl).mono ?_
  rintro e wa ⟨rfl, hb⟩
  have HBa : Aside0 (Below w.heap.size w wa) := ⟨HBB.out.trans (hb.mono HBB.out.size)⟩
  have HSa := Aside0.mk (blk_below HS3.out hb)
  have k0 : wa.cell? ⟨g3, 0, none⟩ = some (.int .i64 g) := (blk_cell HSa.out 0).trans rfl
  have k1 : wa.cell? ⟨g3, 1, none⟩ = some (.int .i64 s) := (blk_cell HSa.out 1).trans rfl
  have k2 : wa.cell? ⟨g3, 2, none⟩ = some (.int .i64 m) := (blk_cell HSa.out 2).trans rfl
  clear hb HBB HS3
  go_wp2_with fail
  refine (slot_Print.calls _ _ _ _ _ _ HP.out).mono ?_
  rintro e wb ⟨rfl, hb⟩
  have HBb : Aside0 (Below w.heap.size w wb) := ⟨HBa.out.trans (hb.mono HBa.out.size)⟩
  have HSb := Aside0.mk (blk_below HSa.out hb)
  have l0 : wb.cell? ⟨g3, 0, none⟩ = some (.int .i64 g) := (blk_cell HSb.out 0).trans rfl
  have l1 : wb.cell? ⟨g3, 1, none⟩ = some (.int .i64 s) := (blk_cell HSb.out 1).trans rfl
  have l2 : wb.cell? ⟨g3, 2, none⟩ = some (.int .i64 m) := (blk_cell HSb.out 2).trans rfl
  clear hb k0 k1 k2 HSa HBa
  go_wp2_with fail
  refine (assartref03_Right.calls _ _ _ _ _ HR.out).mono ?_
  rintro e wc ⟨rfl, hb⟩
  have HBc : Aside0 (Below w.heap.size w wc) := ⟨HBb.out.trans (hb.mono HBb.out.size)⟩
  clear hb l0 l1 l2 HSb HBb
  go_wp2_with fail
  refine (slot_Parse.calls _ _ _ _ _ _ HQ.out).mono ?_
  rintro e wu ⟨rfl, hb⟩
  have HBu : Aside0 (Below w.heap.size w wu) := ⟨HBc.out.trans (hb.mono HBc.out.size)⟩
  clear hb
  go_wp2_with (first | ((with_reducible refine gate_dst (N := 16) rfl ?_); refine box_event ?hg (N := 16) ?hd (cs := #[.int .i64 0, .int .i64 0, .int .i64 0]) (t := 23) ?hr ?_; (case hd => rfl); (case hg => rfl); (case hr => first | (go_simp; done) | (go_simp; rfl)); intro g16 hg wv hbox hb; have HBv := Aside0.mk (HBu.out.trans (hb.mono HBu.out.size)); have HG16 : Aside0 (w.heap.size ≤ g16) := ⟨by rw [hg]; exact HBu.out.size⟩; have HK16 := Aside0.mk hbox; have f0 := blk_frozen hbox 0; have f1 := blk_frozen hbox 1; have f2 := blk_frozen hbox 2;have x0 : wv.cell? ⟨g16, 0, none⟩ = some (.int .i64 0) := (blk_cell hbox 0).trans rfl; have x1 : wv.cell? ⟨g16, 1, none⟩ = some (.int .i64 0) := (blk_cell hbox 1).trans rfl; have x2 : wv.cell? ⟨g16, 2, none⟩ = some (.int .i64 0) := (blk_cell hbox 2).trans rfl; clear hb hbox hg) | fail)
  have hB16 := below_set (j := 2) (v := .int .i64 p3) (below_set (j := 1) (v := .int .i64 p2) (below_set (j := 0) (v := .int .i64 p1) HBv.out HG16.out) HG16.out) HG16.out
  have HB16 := Aside0.mk hB16
  clear hB16 f0 f1 f2 x0 x1 x2
  refine (slot_Print.calls _ _ _ _ _ _ HPY.out).mono ?_
  rintro e wy ⟨rfl, hb⟩
  have HBy : Aside0 (Below w.heap.size w wy) := ⟨HB16.out.trans (hb.mono HB16.out.size)⟩
  clear hb
  rcases HT.out with ⟨t1, t2⟩ | ⟨t1, t2, t3, t4, t5, t6⟩
  · go_wp2
    go_ret
    exact ⟨rfl, HBy.out⟩
  · go_wp2
    go_ret
    exact ⟨rfl, HBy.out⟩
set_option maxHeartbeats 8000000 in
set_option maxRecDepth 100000 in
theorem SlotBack_right (g s m : Int) (B : ByteArray) (at' by' : Int) (w : World) (p1 p2 p3 pe i : Int) (y : ByteArray) (hq : slot_Parse.f B = some (p1, p2, p3, pe)) (hpy : slot_Print.f p1 p2 p3 = some (y, i))
    (ht : ((pe == 0) = false ∧ (pe != 0) = true) ∨ ((pe == 0) = true ∧ (pe != 0) = false ∧ (i == 0) = true ∧ (i != 0) = false ∧ (y.toList == B.toList) = true ∧ (y.toList != B.toList) = false)) (hB : B.size ≤ 200) (S : ByteArray) (a : Nat) (v : Int) (n1 n2 n3 ne : Int) (b : Bool) (hp : slot_Print.f g s m = some (S, 0)) (hps : slot_Parse.f S = some (g, s, m, 0)) (hS40 : S.size = 40) (ha8 : a < 256) (ha : at' = (a : Int)) (hv : rd (bytesOf S) ((a % 40 : Nat) : Int) = v) (hn : slot_Parse.f (strOfNums ((bytesOf S).set (a % 40) (bits BinOp.xor IntKind.u8 v by'))) = some (n1, n2, n3, ne)) (eb : (by' == 0) = b) (en : (ne == 0) = b) (eb' : (by' != 0) = !b) (en' : (ne != 0) = !b) (hr : Rt g s m) :
    Calls Try.prog 4 #[.agg #[.int .i64 g, .int .i64 s, .int .i64 m, .string B, .int .u8 at', .int .u8 by']] w fun e w' => e = .returned (.bool true) ∧ Below w.heap.size w w' := by
  have dB : decide ((200 : Int) < B.size) = false := by simp; omega
  subst ha
  have HK40 : Aside0 (a % 40 < 40) := ⟨Nat.mod_lt _ (by decide)⟩
  have HV := Aside0.mk hv
  have HS40 := Aside0.mk hS40
  have HP := Aside0.mk hp
  have HPS := Aside0.mk hps
  have HN := Aside0.mk hn
  have HR := Aside0.mk (show assartref03_Right.f g s m = some true by rw [refRight_val, decide_eq_true hr])
  have HNQ := Aside0.mk (struct_same g s m)
  have HQ := Aside0.mk hq
  have HPY := Aside0.mk hpy
  have HT := Aside0.mk ht
  clear hB hr hq hpy ht hv hS40 hp hps hn
  have hu23 := Try.underlying23
  have hu46 := Try.underlying46
  go_enter Try.func4, Try.ntmps4
  go_wp2_with (first | ((with_reducible refine gate_dst (N := 1) rfl ?_); refine box_event ?hg (N := 1) ?hd (cs := #[.int .i64 g, .int .i64 s, .int .i64 m, .string B, .int .u8 (a : Int), .int .u8 by']) (t := 46) ?hr ?_; (case hd => rfl); (case hg => rfl); (case hr => first | (go_simp; done) | (go_simp; rfl)); intro g1 hg w1 hbox hb; have HB1 := Aside0.mk hb; have HK1 := Aside0.mk hbox; have HG1 := Aside0.mk hg; have z0 : w1.cell? ⟨g1, 0, none⟩ = some (.int .i64 g) := (blk_cell hbox 0).trans rfl; have z1 : w1.cell? ⟨g1, 1, none⟩ = some (.int .i64 s) := (blk_cell hbox 1).trans rfl; have z2 : w1.cell? ⟨g1, 2, none⟩ = some (.int .i64 m) := (blk_cell hbox 2).trans rfl; have z3 : w1.cell? ⟨g1, 3, none⟩ = some (.string B) := (blk_cell hbox 3).trans rfl; have z4 : w1.cell? ⟨g1, 4, none⟩ = some (.int .u8 (a : Int)) := (blk_cell hbox 4).trans rfl; have z5 : w1.cell? ⟨g1, 5, none⟩ = some (.int .u8 by') := (blk_cell hbox 5).trans rfl; clear hb hbox hg) | ((with_reducible refine gate_dst (N := 3) rfl ?_); refine box_event ?hg (N := 3) ?hd (cs := #[.int .i64 0, .int .i64 0, .int .i64 0]) (t := 23) ?hr ?_; (case hd => rfl); (case hg => rfl); (case hr => first | (go_simp; done) | (go_simp; rfl)); intro g3 hg w3 hbox hb; have HB3 := Aside0.mk (HB1.out.trans (hb.mono HB1.out.size)); have HG3 : Aside0 (w.heap.size ≤ g3) := ⟨by rw [hg]; exact HB1.out.size⟩; have HNE : Aside0 (g1 ≠ g3) := ⟨by have := blk_lt HK1.out; rw [hg]; omega⟩; have HK3 := Aside0.mk hbox; have f0 := blk_frozen hbox 0; have f1 := blk_frozen hbox 1; have f2 := blk_frozen hbox 2;have x0 : w3.cell? ⟨g3, 0, none⟩ = some (.int .i64 0) := (blk_cell hbox 0).trans rfl; have x1 : w3.cell? ⟨g3, 1, none⟩ = some (.int .i64 0) := (blk_cell hbox 1).trans rfl; have x2 : w3.cell? ⟨g3, 2, none⟩ = some (.int .i64 0) := (blk_cell hbox 2).trans rfl; have hk1 := blk_far (blk_far (blk_far (blk_below HK1.out hb) (p := ⟨g3, 0, none⟩) HNE.out (.int .i64 g)) (p := ⟨g3, 1, none⟩) HNE.out (.int .i64 s)) (p := ⟨g3, 2, none⟩) HNE.out (.int .i64 m); have y3 : (((w3.setCell ⟨g3, 0, none⟩ (.int .i64 g)).setCell ⟨g3, 1, none⟩ (.int .i64 s)).setCell ⟨g3, 2, none⟩ (.int .i64 m)).cell? ⟨g1, 3, none⟩ = some (.string B) := (blk_cell hk1 3).trans rfl;  have y4 : (((w3.setCell ⟨g3, 0, none⟩ (.int .i64 g)).setCell ⟨g3, 1, none⟩ (.int .i64 s)).setCell ⟨g3, 2, none⟩ (.int .i64 m)).cell? ⟨g1, 4, none⟩ = some (.int .u8 (a : Int)) := (blk_cell hk1 4).trans rfl;  have y5 : (((w3.setCell ⟨g3, 0, none⟩ (.int .i64 g)).setCell ⟨g3, 1, none⟩ (.int .i64 s)).setCell ⟨g3, 2, none⟩ (.int .i64 m)).cell? ⟨g1, 5, none⟩ = some (.int .u8 by') := (blk_cell hk1 5).trans rfl; clear hk1 z0 z1 z2 z3 z4 z5; clear hb hbox hg) | fail)
  have hS3 := blk_put (cs' := #[.int .i64 g, .int .i64 s, .int .i64 m]) (blk_put (cs' := #[.int .i64 g, .int .i64 s, .int .i64 0]) (blk_put (cs' := #[.int .i64 g, .int .i64 0, .int .i64 0]) HK3.out 0 (.int .i64 g) rfl) 1 (.int .i64 s) rfl) 2 (.int .i64 m) rfl
  have hB3 := below_set (j := 2) (v := .int .i64 m) (below_set (j := 1) (v := .int .i64 s) (below_set (j := 0) (v := .int .i64 g) HB3.out HG3.out) HG3.out) HG3.out
  have HS3 := Aside0.mk hS3
  have HBB := Aside0.mk hB3
  clear hS3 hB3 f0 f1 f2 x0 x1 x2 y3 y4 y5 HB3 HK3 HB1 HK1 HG1
  refine (assartlaw03_shown.calls true _ rfl).mono ?_
  rintro e wa ⟨rfl, hb⟩
  have HBa : Aside0 (Below w.heap.size w wa) := ⟨HBB.out.trans (hb.mono HBB.out.size)⟩
  have HSa := Aside0.mk (blk_below HS3.out hb)
  have k0 : wa.cell? ⟨g3, 0, none⟩ = some (.int .i64 g) := (blk_cell HSa.out 0).trans rfl
  have k1 : wa.cell? ⟨g3, 1, none⟩ = some (.int .i64 s) := (blk_cell HSa.out 1).trans rfl
  have k2 : wa.cell? ⟨g3, 2, none⟩ = some (.int .i64 m) := (blk_cell HSa.out 2).trans rfl
  clear hb HBB HS3
  go_wp2_with fail
  refine (slot_Print.calls _ _ _ _ _ _ HP.out).mono ?_
  rintro e wc1 ⟨rfl, hb⟩
  have HB1 : Aside0 (Below w.heap.size w wc1) := ⟨HBa.out.trans (hb.mono HBa.out.size)⟩
  have HKg3_1 := Aside0.mk (blk_below HSa.out hb)
  clear k0 k1 k2
  clear hb HBa HSa
  have cg3_0_1 : wc1.cell? ⟨g3, 0, none⟩ = some (.int .i64 g) := (blk_cell HKg3_1.out 0).trans rfl
  have cg3_1_1 : wc1.cell? ⟨g3, 1, none⟩ = some (.int .i64 s) := (blk_cell HKg3_1.out 1).trans rfl
  have cg3_2_1 : wc1.cell? ⟨g3, 2, none⟩ = some (.int .i64 m) := (blk_cell HKg3_1.out 2).trans rfl
  go_wp2_with fail
  refine (assartref03_Right.calls _ _ _ _ _ HR.out).mono ?_
  rintro e wc2 ⟨rfl, hb⟩
  have HB2 : Aside0 (Below w.heap.size w wc2) := ⟨HB1.out.trans (hb.mono HB1.out.size)⟩
  have HKg3_2 := Aside0.mk (blk_below HKg3_1.out hb)
  clear cg3_0_1 cg3_1_1 cg3_2_1
  clear hb HB1 HKg3_1
  go_wp2_with fail
  refine (slot_Parse.calls _ _ _ _ _ _ HPS.out).mono ?_
  rintro e wc3 ⟨rfl, hb⟩
  have HB3 : Aside0 (Below w.heap.size w wc3) := ⟨HB2.out.trans (hb.mono HB2.out.size)⟩
  have HKg3_3 := Aside0.mk (blk_below HKg3_2.out hb)
  clear hb HB2 HKg3_2
  go_upto_region 13 with (first | ((with_reducible refine gate_dst (N := 10) rfl ?_); refine box_event ?hg (N := 10) ?hd (cs := #[.int .i64 0, .int .i64 0, .int .i64 0]) (t := 23) ?hr ?_; (case hd => rfl); (case hg => rfl); (case hr => first | (go_simp; done) | (go_simp; rfl)); intro g10 hg wb4 hbox hb; have f0_4 := blk_frozen hbox 0; have x0_4 : wb4.cell? ⟨g10, 0, none⟩ = some (.int .i64 0) := (blk_cell hbox 0).trans rfl; have f1_4 := blk_frozen hbox 1; have x1_4 : wb4.cell? ⟨g10, 1, none⟩ = some (.int .i64 0) := (blk_cell hbox 1).trans rfl; have f2_4 := blk_frozen hbox 2; have x2_4 : wb4.cell? ⟨g10, 2, none⟩ = some (.int .i64 0) := (blk_cell hbox 2).trans rfl; have HGg10 : Aside0 (w.heap.size ≤ g10) := ⟨by rw [hg]; exact HB3.out.size⟩; have HB4 := Aside0.mk (below_set (j := 2) (v := .int .i64 m) (below_set (j := 1) (v := .int .i64 s) (below_set (j := 0) (v := .int .i64 g) (HB3.out.trans (hb.mono HB3.out.size)) HGg10.out) HGg10.out) HGg10.out); have HNg3_4 : Aside0 (g3 ≠ g10) := ⟨by have := blk_lt HKg3_3.out; rw [hg]; omega⟩; have HKg3_4 := Aside0.mk (blk_far (blk_far (blk_far (blk_below HKg3_3.out hb) (p := ⟨g10, 0, none⟩) HNg3_4.out (.int .i64 g)) (p := ⟨g10, 1, none⟩) HNg3_4.out (.int .i64 s)) (p := ⟨g10, 2, none⟩) HNg3_4.out (.int .i64 m)); have HKg10_4 := Aside0.mk (blk_put (cs' := #[.int .i64 g, .int .i64 s, .int .i64 m]) (blk_put (cs' := #[.int .i64 g, .int .i64 s, .int .i64 0]) (blk_put (cs' := #[.int .i64 g, .int .i64 0, .int .i64 0]) hbox 0 (.int .i64 g) rfl) 1 (.int .i64 s) rfl) 2 (.int .i64 m) rfl); clear hb hbox hg) | fail)
  clear f0_4 x0_4 f1_4 x1_4 f2_4 x2_4
  generalize (((wb4.setCell ⟨g10, 0, none⟩ (.int .i64 g)).setCell ⟨g10, 1, none⟩ (.int .i64 s)).setCell ⟨g10, 2, none⟩ (.int .i64 m)) = wf at HKg3_4 HKg10_4 HB4 ⊢
  have kc := Lib.run_convert_string_bytes (P := Try.prog) wf 9 24 5 S Try.underlying9 Try.underlying24 Try.underlying5
  rw [HS40.out] at kc
  have HRA := Aside0.mk (rowAt_bytes wf S)
  have HBW := Aside0.mk (bytes_below 5 S HB4.out HB4.out.size)
  have HBY := Aside0.mk (bytes_below 5 S (Below.refl _ wf) (Nat.le_refl _))
  have HSZ : Aside0 (w.heap.size ≤ wf.heap.size) := ⟨HB4.out.size⟩
  have HWg3 := Aside0.mk (blk_below HKg3_4.out HBY.out)
  have HWg10 := Aside0.mk (blk_below HKg10_4.out HBY.out)
  go_upto_region 14 with fail
  clear kc HBY
  have hcap : 40 ≤ grownCap wf 40 0 5 := grownCap_ge _ _ _ _
  have HCAP := Aside0.mk hcap
  clear hcap
  generalize grownCap wf 40 0 5 = cap at HCAP ⊢
  generalize Lib.bytesWorld wf 5 S = wg at HRA HBW HWg3 HWg10 ⊢
  generalize wf.heap.size = gc at HRA HSZ ⊢
  have cg3_0_4 : wg.cell? ⟨g3, 0, none⟩ = some (.int .i64 g) := (blk_cell HWg3.out 0).trans rfl
  have cg3_1_4 : wg.cell? ⟨g3, 1, none⟩ = some (.int .i64 s) := (blk_cell HWg3.out 1).trans rfl
  have cg3_2_4 : wg.cell? ⟨g3, 2, none⟩ = some (.int .i64 m) := (blk_cell HWg3.out 2).trans rfl
  have cg10_0_4 : wg.cell? ⟨g10, 0, none⟩ = some (.int .i64 g) := (blk_cell HWg10.out 0).trans rfl
  have cg10_1_4 : wg.cell? ⟨g10, 1, none⟩ = some (.int .i64 s) := (blk_cell HWg10.out 1).trans rfl
  have cg10_2_4 : wg.cell? ⟨g10, 2, none⟩ = some (.int .i64 m) := (blk_cell HWg10.out 2).trans rfl
  have hnq : ∀ W, (binOp .neq 23 (.agg #[.int .i64 g, .int .i64 s, .int .i64 m]) (.agg #[.int .i64 g, .int .i64 s, .int .i64 m])).run Try.prog W = .ok (.bool false) W := HNQ.out
  go_upto_region 17 with fail
  clear cg3_0_4 cg3_1_4 cg3_2_4 cg10_0_4 cg10_1_4 cg10_2_4
  clear hnq
  have hlen : a % 40 < (bytesOf S).length := (by rw [bytesOf_length, HS40.out]; exact HK40.out)
  have hcell := HRA.out.cell _ hlen
  have hfree := HRA.out.free _ hlen
  rw [HV.out] at hcell
  clear hlen
  have hkn := HK40.out
  go_upto_region 18 with fail
  clear hcell hfree hkn
  have hlen : a % 40 < (bytesOf S).length := (by rw [bytesOf_length, HS40.out]; exact HK40.out)
  have HRB := Aside0.mk (HRA.out.set (a % 40) (bits BinOp.xor IntKind.u8 v by') hlen)
  have hl40 : ((bytesOf S).set (a % 40) (bits BinOp.xor IntKind.u8 v by')).length = 40 := (by rw [List.length_set, bytesOf_length, HS40.out])
  have hC := HRB.out.C (by rw [hl40]; decide)
  rw [hl40] at hC
  have hcv := Kd.C_string (P := Try.prog) (c := cap) Try.underlying24 Try.underlying5 Try.underlying9 hC
  clear hl40 hC hlen
  have HBS := Aside0.mk (below_set (j := a % 40) (v := .int .u8 (bits BinOp.xor IntKind.u8 v by')) HBW.out HSZ.out)
  generalize wg.setCell ⟨gc, a % 40, none⟩ (.int .u8 (bits BinOp.xor IntKind.u8 v by')) = wh at hcv HRB HBS ⊢
  go_wp2_with fail
  clear hcv HRA HRB HBW HWg3 HWg10
  refine (slot_Parse.calls _ _ _ _ _ _ HN.out).mono ?_
  rintro e wc5 ⟨rfl, hb⟩
  have HB5 : Aside0 (Below w.heap.size w wc5) := ⟨HBS.out.trans (hb.mono HBS.out.size)⟩
  clear hb HBS
  go_upto_region 19 with (first | ((with_reducible refine gate_dst (N := 14) rfl ?_); refine box_event ?hg (N := 14) ?hd (cs := #[.int .i64 0, .int .i64 0, .int .i64 0]) (t := 23) ?hr ?_; (case hd => rfl); (case hg => rfl); (case hr => first | (go_simp; done) | (go_simp; rfl)); intro g14 hg wb6 hbox hb; have f0_6 := blk_frozen hbox 0; have x0_6 : wb6.cell? ⟨g14, 0, none⟩ = some (.int .i64 0) := (blk_cell hbox 0).trans rfl; have f1_6 := blk_frozen hbox 1; have x1_6 : wb6.cell? ⟨g14, 1, none⟩ = some (.int .i64 0) := (blk_cell hbox 1).trans rfl; have f2_6 := blk_frozen hbox 2; have x2_6 : wb6.cell? ⟨g14, 2, none⟩ = some (.int .i64 0) := (blk_cell hbox 2).trans rfl; have HGg14 : Aside0 (w.heap.size ≤ g14) := ⟨by rw [hg]; exact HB5.out.size⟩; have HB6 := Aside0.mk (below_set (j := 2) (v := .int .i64 n3) (below_set (j := 1) (v := .int .i64 n2) (below_set (j := 0) (v := .int .i64 n1) (HB5.out.trans (hb.mono HB5.out.size)) HGg14.out) HGg14.out) HGg14.out); have HKg14_6 := Aside0.mk (blk_put (cs' := #[.int .i64 n1, .int .i64 n2, .int .i64 n3]) (blk_put (cs' := #[.int .i64 n1, .int .i64 n2, .int .i64 0]) (blk_put (cs' := #[.int .i64 n1, .int .i64 0, .int .i64 0]) hbox 0 (.int .i64 n1) rfl) 1 (.int .i64 n2) rfl) 2 (.int .i64 n3) rfl); clear hb hbox hg) | fail)
  clear f0_6 x0_6 f1_6 x1_6 f2_6 x2_6
  generalize (((wb6.setCell ⟨g14, 0, none⟩ (.int .i64 n1)).setCell ⟨g14, 1, none⟩ (.int .i64 n2)).setCell ⟨g14, 2, none⟩ (.int .i64 n3)) = wk at HKg14_6 HB6 ⊢
  clear HKg14_6
  cases b
  · go_wp2_with fail
    refine (slot_Parse.calls _ _ _ _ _ _ HQ.out).mono ?_
    rintro e wu ⟨rfl, hb⟩
    have HBu : Aside0 (Below w.heap.size w wu) := ⟨HB6.out.trans (hb.mono HB6.out.size)⟩
    clear hb
    go_wp2_with (first | ((with_reducible refine gate_dst (N := 16) rfl ?_); refine box_event ?hg (N := 16) ?hd (cs := #[.int .i64 0, .int .i64 0, .int .i64 0]) (t := 23) ?hr ?_; (case hd => rfl); (case hg => rfl); (case hr => first | (go_simp; done) | (go_simp; rfl)); intro g16 hg wv hbox hb; have HBv := Aside0.mk (HBu.out.trans (hb.mono HBu.out.size)); have HG16 : Aside0 (w.heap.size ≤ g16) := ⟨by rw [hg]; exact HBu.out.size⟩; have HK16 := Aside0.mk hbox; have f0 := blk_frozen hbox 0; have f1 := blk_frozen hbox 1; have f2 := blk_frozen hbox 2;have x0 : wv.cell? ⟨g16, 0, none⟩ = some (.int .i64 0) := (blk_cell hbox 0).trans rfl; have x1 : wv.cell? ⟨g16, 1, none⟩ = some (.int .i64 0) := (blk_cell hbox 1).trans rfl; have x2 : wv.cell? ⟨g16, 2, none⟩ = some (.int .i64 0) := (blk_cell hbox 2).trans rfl; clear hb hbox hg) | fail)
    have hB16 := below_set (j := 2) (v := .int .i64 p3) (below_set (j := 1) (v := .int .i64 p2) (below_set (j := 0) (v := .int .i64 p1) HBv.out HG16.out) HG16.out) HG16.out
    have HB16 := Aside0.mk hB16
    clear hB16 f0 f1 f2 x0 x1 x2
    refine (slot_Print.calls _ _ _ _ _ _ HPY.out).mono ?_
    rintro e wy ⟨rfl, hb⟩
    have HBy : Aside0 (Below w.heap.size w wy) := ⟨HB16.out.trans (hb.mono HB16.out.size)⟩
    clear hb
    rcases HT.out with ⟨t1, t2⟩ | ⟨t1, t2, t3, t4, t5, t6⟩
    · go_wp2
      go_ret
      exact ⟨rfl, HBy.out⟩
    · go_wp2
      go_ret
      exact ⟨rfl, HBy.out⟩
  · go_wp2_with fail
    refine (slot_Parse.calls _ _ _ _ _ _ HQ.out).mono ?_
    rintro e wu ⟨rfl, hb⟩
    have HBu : Aside0 (Below w.heap.size w wu) := ⟨HB6.out.trans (hb.mono HB6.out.size)⟩
    clear hb
    go_wp2_with (first | ((with_reducible refine gate_dst (N := 16) rfl ?_); refine box_event ?hg (N := 16) ?hd (cs := #[.int .i64 0, .int .i64 0, .int .i64 0]) (t := 23) ?hr ?_; (case hd => rfl); (case hg => rfl); (case hr => first | (go_simp; done) | (go_simp; rfl)); intro g16 hg wv hbox hb; have HBv := Aside0.mk (HBu.out.trans (hb.mono HBu.out.size)); have HG16 : Aside0 (w.heap.size ≤ g16) := ⟨by rw [hg]; exact HBu.out.size⟩; have HK16 := Aside0.mk hbox; have f0 := blk_frozen hbox 0; have f1 := blk_frozen hbox 1; have f2 := blk_frozen hbox 2;have x0 : wv.cell? ⟨g16, 0, none⟩ = some (.int .i64 0) := (blk_cell hbox 0).trans rfl; have x1 : wv.cell? ⟨g16, 1, none⟩ = some (.int .i64 0) := (blk_cell hbox 1).trans rfl; have x2 : wv.cell? ⟨g16, 2, none⟩ = some (.int .i64 0) := (blk_cell hbox 2).trans rfl; clear hb hbox hg) | fail)
    have hB16 := below_set (j := 2) (v := .int .i64 p3) (below_set (j := 1) (v := .int .i64 p2) (below_set (j := 0) (v := .int .i64 p1) HBv.out HG16.out) HG16.out) HG16.out
    have HB16 := Aside0.mk hB16
    clear hB16 f0 f1 f2 x0 x1 x2
    refine (slot_Print.calls _ _ _ _ _ _ HPY.out).mono ?_
    rintro e wy ⟨rfl, hb⟩
    have HBy : Aside0 (Below w.heap.size w wy) := ⟨HB16.out.trans (hb.mono HB16.out.size)⟩
    clear hb
    rcases HT.out with ⟨t1, t2⟩ | ⟨t1, t2, t3, t4, t5, t6⟩
    · go_wp2
      go_ret
      exact ⟨rfl, HBy.out⟩
    · go_wp2
      go_ret
      exact ⟨rfl, HBy.out⟩
def assartlaw03_SlotBack.f (a0_0 : Int) (a0_1 : Int) (a0_2 : Int) (a0_3 : ByteArray) (a0_4 : Int) (a0_5 : Int) : Option Bool := if 0 ≤ a0_4 ∧ a0_4 < 256 ∧ 0 ≤ a0_5 ∧ a0_5 < 256 then some true else none
theorem assartlaw03_SlotBack.calls (a0_0 : Int) (a0_1 : Int) (a0_2 : Int) (a0_3 : ByteArray) (a0_4 : Int) (a0_5 : Int) (r : Bool) (w : World) (h : assartlaw03_SlotBack.f a0_0 a0_1 a0_2 a0_3 a0_4 a0_5 = some r) :
    Calls Try.prog 4 #[.agg #[.int .i64 a0_0, .int .i64 a0_1, .int .i64 a0_2, .string a0_3, .int .u8 a0_4, .int .u8 a0_5]] w fun e w' => e = .returned (.bool r) ∧ Below w.heap.size w w' := by
  unfold assartlaw03_SlotBack.f at h
  by_cases hc : 0 ≤ a0_4 ∧ a0_4 < 256 ∧ 0 ≤ a0_5 ∧ a0_5 < 256
  · rw [if_pos hc] at h
    obtain rfl := Option.some.inj h
    obtain ⟨h1, h2, h3, h4⟩ := hc
    by_cases hB : 200 < a0_3.size
    · exact SlotBack_long _ _ _ _ _ _ _ hB
    have hB : a0_3.size ≤ 200 := by omega
    obtain ⟨p1, p2, p3, pe, y, i, hq, hpy, ht⟩ : ∃ p1 p2 p3 pe y i, slot_Parse.f a0_3 = some (p1, p2, p3, pe) ∧ slot_Print.f p1 p2 p3 = some (y, i) ∧
        (((pe == 0) = false ∧ (pe != 0) = true) ∨ ((pe == 0) = true ∧ (pe != 0) = false ∧ (i == 0) = true ∧ (i != 0) = false ∧ (y.toList == a0_3.toList) = true ∧ (y.toList != a0_3.toList) = false)) := by
      rcases parse_cases a0_3 with hp | ⟨g, s, m, hr, hb, hp⟩
      · exact ⟨0, 0, 0, 2, ⟨#[]⟩, 1, hp, print_bad (by unfold Rt; omega), .inl ⟨rfl, rfl⟩⟩
      · exact ⟨g, s, m, 0, blk g s m, 0, hp, print_ok hr, .inr ⟨rfl, rfl, rfl, rfl, by rw [hb]; simp, by rw [hb]; simp⟩⟩
    by_cases hr : Rt a0_0 a0_1 a0_2
    · obtain ⟨n, rfl⟩ := Int.eq_ofNat_of_zero_le h1
      obtain ⟨n1, n2, n3, ne, hn, he⟩ := spoil_one hr (n % 40) (Nat.mod_lt _ (by decide)) a0_5 h3 h4
      exact SlotBack_right a0_0 a0_1 a0_2 a0_3 _ a0_5 w p1 p2 p3 pe i y hq hpy ht hB (blk a0_0 a0_1 a0_2) n _ n1 n2 n3 ne (a0_5 == 0) (print_ok hr) (parse_blk hr) (blk_size _ _ _) (by omega) rfl rfl hn rfl he rfl (congrArg Bool.not he) hr
    · exact SlotBack_wrong _ _ _ _ _ _ _ p1 p2 p3 pe i y hq hpy ht hB hr
  · rw [if_neg hc] at h
    cases h
end Go.Proofs.Ythjnkapkhphpeaa.P
end
section
/- Arguments that read as data, opened kind by kind: what the printed functions ask of their parameters. -/
namespace Go.Proofs.Ythjnkapkhphpeaa.P
open Go.RowKit Go.Proofs.YthjnkapkhphpeaaW.PrintWords Go.Proofs.YthjnkapkhphpeaaW.PrintLast Go.Proofs.YthjnkapkhphpeaaW.PrintMore
set_option linter.unusedVariables false
set_option linter.unusedSimpArgs false
/-- Whatever reads at type t is a value of kind d, and such as ok says. -/
structure Opens {α : Type} (P : Program) (t : TypeId) (d : Kd α) (ok : α → Prop) : Prop where
  sz : P.cellsOf t = d.sz
  op : ∀ {H : Type} {enc : TypeId × Value → H} {W : World} {base : Nat} {spare : Nat → Bool} {held : Bool} {fuel : Nat} {cs : List Value} {y : DataW H × List MemPlace}, DataW.trod enc P W base spare held fuel t cs = some y → (DataW.weights P t y.1).all (· ≤ reachBytes) = true → ∃ x, d.K W x cs ∧ ok x
theorem Opens.int {P : Program} {t : TypeId} {k : IntKind} (h : P.underlying t = some (.int k)) (hs : P.cellsOf t = 1) : Opens P t (Kd.int k) (fun n => (Lit.int k n).wf = true) :=
  ⟨hs, fun hy _ => by
    obtain ⟨n, rfl, _, hw⟩ := DataW.trod_int h hy
    exact ⟨n, rfl, hw⟩⟩
theorem Opens.bool {P : Program} {t : TypeId} (h : P.underlying t = some .bool) (hs : P.cellsOf t = 1) : Opens P t Kd.bool (fun _ => True) :=
  ⟨hs, fun hy _ => by
    obtain ⟨b, rfl, _⟩ := DataW.trod_bool h hy
    exact ⟨b, rfl, trivial⟩⟩
theorem Opens.string {P : Program} {t : TypeId} (h : P.underlying t = some .string) (hs : P.cellsOf t = 1) : Opens P t Kd.string (fun s => s.size ≤ 140737488351232) :=
  ⟨hs, fun hy hw => by
    obtain ⟨s, rfl, rfl, _⟩ := DataW.trod_string h hy
    refine ⟨s, rfl, ?_⟩
    have := hw
    simp [DataW.weights, reachBytes] at this
    exact of_decide_eq_true this⟩
theorem choose_row {α : Type} {R : Nat → α → Prop} : ∀ n, (∀ i, i < n → ∃ x, R i x) → ∃ xs : List α, xs.length = n ∧ ∀ i x, xs[i]? = some x → R i x
  | 0, _ => ⟨[], rfl, fun i x h => by simp at h⟩
  | n + 1, h => by
    obtain ⟨xs, hl, hx⟩ := choose_row n (fun i hi => h i (by omega))
    obtain ⟨x, hr⟩ := h n (by omega)
    refine ⟨xs ++ [x], by simp [hl], fun i z hz => ?_⟩
    by_cases hi : i < n
    · rw [List.getElem?_append_left (by omega)] at hz
      exact hx i z hz
    · rw [List.getElem?_append_right (by omega)] at hz
      have : i - xs.length = 0 := by
        rcases Nat.eq_zero_or_pos (i - xs.length) with h0 | h0
        · exact h0
        · rw [List.getElem?_eq_none (by simp; omega)] at hz; cases hz
      rw [this] at hz
      simp at hz
      subst hz
      have : i = n := by omega
      rw [this]; exact hr
theorem weightsAll_mem {H : Type} {P : Program} {e : TypeId} : ∀ {ds : List (DataW H)}, (DataW.weightsAll P e ds).all (· ≤ reachBytes) = true → ∀ d ∈ ds, (DataW.weights P e d).all (· ≤ reachBytes) = true
  | [], _, d, hd => by cases hd
  | a :: ds, h, d, hd => by
    simp only [DataW.weightsAll, List.all_append, Bool.and_eq_true] at h
    rcases List.mem_cons.1 hd with rfl | hd
    · exact h.1
    · exact weightsAll_mem h.2 d hd
theorem Opens.slice {α : Type} {P : Program} {t e : TypeId} {d : Kd α} {ok : α → Prop} {B : Nat} (h : P.underlying t = some (.slice e)) (hs : P.cellsOf t = 1) (hB : P.bytesOf e = B) (he : Opens P e d ok) : Opens P t (Kd.slice e d) (fun xs => xs.length * B ≤ 140737488351232 ∧ ∀ x ∈ xs, ok x) :=
  ⟨hs, fun {H enc W base spare held fuel cs y} hy hw => by
    rcases DataW.trod_slice h hy with ⟨rfl, rfl⟩ | ⟨a, len, cap, elems, rest, n, rfl, rfl, rfl, hb, hl, hc, hel, hi, _, _⟩
    · exact ⟨[], ⟨none, 0, rfl, Nat.le_refl _, Kd.C_nil _ _⟩, by simp⟩
    · unfold DataW.weights at hw
      rw [h] at hw
      simp only [List.all_cons, List.all_append, Bool.and_eq_true, decide_eq_true_eq, hB, List.length_map] at hw
      obtain ⟨hw0, hw1, _⟩ := hw
      have hx : ∀ i, i < len → ∃ x, ok x ∧ ∃ c, c.length = d.sz ∧ d.K W x c ∧ W.cells? base (a.add (i * d.sz)) d.sz = some c := by
        intro i hlt
        have h1 := hi i hlt
        rw [List.getElem?_eq_getElem (by omega)] at h1
        obtain ⟨c, hc1, hc2⟩ := Option.bind_eq_some_iff.1 h1
        obtain ⟨x, hK, hok⟩ := he.op hc2 (weightsAll_mem hw1 _ (List.mem_map_of_mem (List.getElem_mem _)))
        rw [he.sz] at hc1
        exact ⟨x, hok, c, d.K_len hK, hK, hc1⟩
      obtain ⟨xs, hxl, hxs⟩ := choose_row len hx
      refine ⟨xs, ⟨some a, cap, by rw [hxl], by omega, rfl, ?_, fun hpos => ⟨a, rfl, fun j p hj => ?_⟩⟩, ?_, ?_⟩
      · simp only [maxLen] at hc; omega
      · obtain ⟨_, c, hcl, hK, hcc⟩ := hxs j p hj
        refine ⟨c, hcl, hK, fun i u hu => ?_⟩
        obtain ⟨_, _, hcell⟩ := World.cells?_some hcc
        have hi : i < d.sz := by rw [← hcl]; exact (List.getElem?_eq_some_iff.1 hu).1
        have := hcell i hi
        rw [Addr.add_add] at this
        rw [this, hu]
      · rw [hxl, ← hel]
        refine Nat.le_trans (Nat.mul_le_mul_right _ (Nat.le_add_right _ _)) hw0
      · intro x hx
        obtain ⟨i, hlt, rfl⟩ := List.getElem_of_mem hx
        exact (hxs i _ (List.getElem?_eq_getElem hlt)).1⟩
theorem weights_at {H : Type} {P : Program} : ∀ {ts : List TypeId} {ds : List (DataW H)} {j : Nat} {t : TypeId} {d : DataW H}, (DataW.weightsEach P ts ds).all (· ≤ reachBytes) = true → ts[j]? = some t → ds[j]? = some d → (DataW.weights P t d).all (· ≤ reachBytes) = true
  | [], _, _, _, _, _, ht, _ => by simp at ht
  | _ :: _, [], _, _, _, _, _, hd => by simp at hd
  | t0 :: ts, d0 :: ds, 0, _, _, h, ht, hd => by
    simp only [List.getElem?_cons_zero, Option.some.injEq] at ht hd
    subst ht; subst hd
    simp only [DataW.weightsEach, List.all_append, Bool.and_eq_true] at h
    exact h.1
  | t0 :: ts, d0 :: ds, j + 1, _, _, h, ht, hd => by
    simp only [List.getElem?_cons_succ] at ht hd
    simp only [DataW.weightsEach, List.all_append, Bool.and_eq_true] at h
    exact weights_at h.2 ht hd
/-- A struct's fields from a place on. -/
structure OpensFs {α : Type} (P : Program) (fs : List Field) (off : Nat) (d : Kd α) (ok : α → Prop) : Prop where
  op : ∀ {H : Type} {enc : TypeId × Value → H} {W : World} {base : Nat} {spare : Nat → Bool} {held : Bool} {fuel : Nat} {cs : List Value} {ys : List (DataW H × List MemPlace)},
    (∀ (i : Nat) (f : Field), fs[i]? = some f → DataW.trod enc P W base spare held fuel f.type ((cs.drop f.offset).take (P.cellsOf f.type)) = ys[i]?) → ys.length = fs.length →
    (DataW.weightsEach P (fs.map (·.type)) (ys.map (·.1))).all (· ≤ reachBytes) = true → cs.length = off + d.sz → ∃ x, d.K W x (cs.drop off) ∧ ok x
theorem OpensFs.one {α : Type} {P : Program} {f : Field} {t : TypeId} {off : Nat} {d : Kd α} {ok : α → Prop} (ht : f.type = t) (hoff : f.offset = off) (h : Opens P t d ok) : OpensFs P [f] off d ok :=
  ⟨fun {H enc W base spare held fuel cs ys} hy hl hw hcs => by
    obtain ⟨y, rfl⟩ : ∃ y, ys = [y] := by
      cases ys with
      | nil => simp at hl
      | cons y ys => cases ys with
        | nil => exact ⟨y, rfl⟩
        | cons => simp at hl
    have h0 := hy 0 f rfl
    simp only [List.getElem?_cons_zero] at h0
    simp only [List.map_cons, List.map_nil, DataW.weightsEach, List.append_nil] at hw
    rw [ht] at h0 hw
    obtain ⟨x, hK, hok⟩ := h.op h0 hw
    rw [hoff, List.take_of_length_le (by rw [List.length_drop, h.sz]; omega)] at hK
    exact ⟨x, hK, hok⟩⟩
theorem OpensFs.cons {α β : Type} {P : Program} {f : Field} {fs : List Field} {t : TypeId} {off n : Nat} {d : Kd α} {d' : Kd β} {ok : α → Prop} {ok' : β → Prop} (ht : f.type = t) (hoff : f.offset = off) (h : Opens P t d ok) (hn : off + d.sz = n) (hr : OpensFs P fs n d' ok') :
    OpensFs P (f :: fs) off (Kd.pair d d') (fun x => ok x.1 ∧ ok' x.2) :=
  ⟨fun {H enc W base spare held fuel cs ys} hy hl hw hcs => by
    cases ys with
    | nil => simp at hl
    | cons y ys =>
      have h0 := hy 0 f rfl
      simp only [List.getElem?_cons_zero] at h0
      simp only [List.map_cons, DataW.weightsEach, List.all_append, Bool.and_eq_true] at hw
      have hw0 := hw.1
      rw [ht] at h0 hw0
      obtain ⟨x, hK, hok⟩ := h.op h0 hw0
      have hsz : (Kd.pair d d').sz = d.sz + d'.sz := rfl
      rw [hsz] at hcs
      obtain ⟨x', hK', hok'⟩ := hr.op (fun i g hg => hy (i + 1) g (by simpa using hg)) (by simpa using hl) hw.2 (by omega)
      refine ⟨(x, x'), ⟨_, _, ?_, hK, hK'⟩, hok, hok'⟩
      rw [hoff, h.sz, ← hn, ← List.drop_drop]
      exact (List.take_append_drop _ _).symm⟩
theorem Opens.struct {α β : Type} {P : Program} {t : TypeId} {fs : Array Field} {fl : List Field} {d : Kd α} {ok : α → Prop} (f : β → α) (g : α → β) (hfg : ∀ x, f (g x) = x) (h : P.underlying t = some (.struct fs)) (hfl : fs.toList = fl) (hs : P.cellsOf t = d.sz) (ho : OpensFs P fl 0 d ok) :
    Opens P t (Kd.iso d f) (fun x => ok (f x)) :=
  ⟨hs, fun {H enc W base spare held fuel cs y} hy hw => by
    obtain ⟨xs, n, rfl, rfl, hcl, hxl, hx⟩ := DataW.trod_struct h hy
    unfold DataW.weights at hw
    rw [h] at hw
    simp only [hfl] at hw
    subst hfl
    obtain ⟨x, hK, hok⟩ := ho.op (ys := xs) (fun i f hf => hx i f (by simpa using hf)) (by simpa using hxl) hw (by omega)
    rw [List.drop_zero] at hK
    refine ⟨g x, ?_, ?_⟩
    · show d.K W (f (g x)) cs
      rw [hfg]; exact hK
    · rw [hfg]; exact hok⟩
end Go.Proofs.Ythjnkapkhphpeaa.P
end
section
-- Written by a program of this session (xprint.py, over the kit's print). Not trusted: Lean checks it.
namespace Go.Proofs.Ythjnkapkhphpeaa.P
open Go.RowKit Go.Proofs.YthjnkapkhphpeaaW.PrintWords Go.Proofs.YthjnkapkhphpeaaW.PrintLast Go.Proofs.YthjnkapkhphpeaaW.PrintMore
attribute [local go_sem] max2_int min2_int max_two min_two max_three min_three max_four min_four   -- for this text's walks alone
set_option linter.unusedVariables false
set_option linter.unusedSimpArgs false

def assartlaw03_SlotBack.QPure : Prop := ∀ (a0_0 : Int) (a0_1 : Int) (a0_2 : Int) (a0_3 : ByteArray) (a0_4 : Int) (a0_5 : Int), ((Lit.int .i64 a0_0).wf = true) → ((Lit.int .i64 a0_1).wf = true) → ((Lit.int .i64 a0_2).wf = true) → (a0_3.size ≤ 140737488351232) → ((Lit.int .u8 a0_4).wf = true) → ((Lit.int .u8 a0_5).wf = true) → assartlaw03_SlotBack.f a0_0 a0_1 a0_2 a0_3 a0_4 a0_5 = some true
end Go.Proofs.Ythjnkapkhphpeaa.P
end
section
/- SlotBack: what is printed is parsed; what is parsed has that block; with another byte a block doesn't count. -/
namespace Go.Proofs.Ythjnkapkhphpeaa.Pure
open Go.RowKit Go.Proofs.Ythjnkapkhphpeaa.P Go.Proofs.YthjnkapkhphpeaaW.PrintWords Go.Proofs.YthjnkapkhphpeaaW.PrintLast

theorem SlotBack : assartlaw03_SlotBack.QPure := by
  intro g s m b x y _ _ _ _ hx hy
  simp [Lit.wf, IntKind.min, IntKind.max, IntKind.signed, IntKind.bits] at hx hy
  unfold assartlaw03_SlotBack.f
  rw [if_pos]
  omega
end Go.Proofs.Ythjnkapkhphpeaa.Pure
end
section
-- Written by a program of this session (xprint.py, over the kit's print). Not trusted: Lean checks it.
namespace Go.Proofs.Ythjnkapkhphpeaa.slotBack
open Go.ChangeShapes Go.WideShapes Go.ChangeAt Go.RowKit Go.Proofs.Ythjnkapkhphpeaa.P Go.Proofs.YthjnkapkhphpeaaW.PrintWords Go.Proofs.YthjnkapkhphpeaaW.PrintLast Go.Proofs.YthjnkapkhphpeaaW.PrintMore
open Go.ChangeMaps (open_string shut_string)
set_option linter.unusedVariables false
set_option linter.unusedSimpArgs false
theorem own : ownKnob Try.prog.godebug = none := by kernel_rfl
theorem laidOut : laidOutB Try.prog = true := by kernel_rfl
set_option maxHeartbeats 1000000 in
set_option maxRecDepth 100000 in
theorem lifted (os : Os) (started : os.Started) (H : Type) (enc : TypeId × Value → H) :
    ReturnsInHanded {} Try.checked os 4 .any (Rows.slotBackSpec.pre6 enc Try.prog Try.f4 Rows.slotBackRow.domain false) (Rows.slotBackSpec.post enc Try.prog Try.f4 false true false false) := by
  refine returnsInHanded_of_change_sized (C := Try.checked) own started (by kernel_rfl) Try.func4
    (ChangeSpec.witness6 (enc := enc) (C := Try.checked) false ⟨#[], #[.agg #[.int .i64 0, .int .i64 0, .int .i64 0, .string ByteArray.empty, .int .u8 0, .int .u8 0]], []⟩ 8 (by kernel_rfl) (by kernel_rfl) (by kernel_rfl) (by kernel_rfl)) ?_
  intro W base args ds gs before hval0 hW hcnd hsz0 _
  have hsz : (DataW.weightsEach Try.prog (Try.f4.params.toList ++ Rows.slotBackSpec.plain.varTypes Try.prog) (ds ++ gs)).all (· ≤ reachBytes) = true := hsz0
  have hval : ∀ (j : Nat) t v, Try.f4.params[j]? = some t → args[j]? = some v → Value.okWide Try.prog W .any base t v := hval0
  have hW' := hW
  obtain ⟨p, q, hA0, hV, rfl, hfz, hnd⟩ := hW
  have hA : DataW.TrodAll enc Try.prog W 0 (fun _ => true) true Try.f4.params.toList args.toList ds p := hA0
  rw [Try.params4] at hA hval hsz
  obtain ⟨v0, vs0, d0, ds0, p0, q0, hargs, rfl, rfl, h0, r0⟩ := trodAll_cons hA
  obtain ⟨rfl, rfl, rfl⟩ := trodAll_nil r0
  obtain rfl : args = #[v0] := by cases args; simp_all
  obtain ⟨rfl, rfl⟩ := trodVars_none hV
  have k0 := h0
  have lt0 : ∀ x ∈ p0, x.block < W.heap.size := by obtain ⟨m, hm⟩ := k0; exact DataW.trod_lt m _ _ _ hm
  have wt0 := weights_at hsz (j := 0) (t := 46) (d := d0) rfl rfl
  obtain ⟨fuel0, hf0⟩ := h0
  obtain ⟨x0, hK0, hok0⟩ := (Opens.struct (f := id) (g := id) (fun _ => rfl) Try.underlying46 rfl (by kernel_rfl) (OpensFs.cons rfl rfl (Opens.struct (f := id) (g := id) (fun _ => rfl) Try.underlying23 rfl (by kernel_rfl) (OpensFs.cons rfl rfl (Opens.int Try.underlying3 (by kernel_rfl)) rfl (OpensFs.cons rfl rfl (Opens.int Try.underlying3 (by kernel_rfl)) rfl (OpensFs.one rfl rfl (Opens.int Try.underlying3 (by kernel_rfl)))))) rfl (OpensFs.cons rfl rfl (Opens.string Try.underlying9 (by kernel_rfl)) rfl (OpensFs.cons rfl rfl (Opens.int Try.underlying5 (by kernel_rfl)) rfl (OpensFs.one rfl rfl (Opens.int Try.underlying5 (by kernel_rfl))))))).op hf0 wt0
  obtain ⟨cs0, rfl, hsz0⟩ := okWide_struct Try.underlying46 (hval 0 46 v0 rfl rfl)
  obtain ⟨⟨a0_0, a0_1, a0_2⟩, a0_3, a0_4, a0_5⟩ := x0
  obtain ⟨L0, hL0⟩ : ∃ L, (Value.agg cs0).cells.toList = L := ⟨_, rfl⟩
  rw [hL0] at hK0
  obtain ⟨_, _, rfl, ⟨_, _, rfl, rfl, ⟨_, _, rfl, rfl, rfl⟩⟩, ⟨_, _, rfl, rfl, ⟨_, _, rfl, rfl, rfl⟩⟩⟩ := hK0
  obtain rfl : cs0 = #[.int .i64 a0_0, .int .i64 a0_1, .int .i64 a0_2, .string a0_3, .int .u8 a0_4, .int .u8 a0_5] := by have h := hL0; simp [Value.cells] at h; cases cs0; simp_all
  obtain ⟨⟨o0_0, o0_1, o0_2⟩, o0_3, o0_4, o0_5⟩ := hok0
  clear hA0 hval0 hsz0 hsz
  have h := Pure.SlotBack a0_0 a0_1 a0_2 a0_3 a0_4 a0_5 o0_0 o0_1 o0_2 o0_3 o0_4 o0_5
  refine (assartlaw03_SlotBack.calls a0_0 a0_1 a0_2 a0_3 a0_4 a0_5 true W h).mono fun e W' ⟨he, bel0⟩ => ?_
  have bel := bel0
  subst he
  exact ⟨_, rfl, _, _, _, [], _, [], hW', trodAll_mk1 (shut_bool Try.underlying4 _), (trodAll_cons_mk (Below.trod laidOut (by kernel_rfl) (of_decide_eq_true (by kernel_rfl)) k0 bel lt0) trodAll_mk0), rfl, bel.frame _, fun h => by cases h⟩
theorem over : Rows.slotBackRow.holds Try.pinned (OpenSpec.ofChange Rows.slotBackSpec) :=
  OpenClaim.holds_of_wide 4 Try.f4 rfl rfl rfl rfl rfl rfl rfl ⟨rfl, rfl, rfl, rfl, rfl⟩ rfl rfl rfl rfl rfl (by kernel_rfl) Try.func4 (by kernel_rfl)
    (of_decide_eq_true (by kernel_rfl)) (by unfold Func.isWrapper; first | (rw [if_pos (by decide +kernel)]; kernel_rfl) | (rw [if_neg (by decide +kernel)]; exact ⟨rfl, rfl⟩))
    (fun os started H enc _ => lifted os started H enc)
theorem proved : Rows.SlotBackSaid := over
#print axioms proved
end Go.Proofs.Ythjnkapkhphpeaa.slotBack
namespace Go.Proofs.Ythjnkapkhphpeaa
/-- The row, under a short name, for the claim. -/
theorem slotBack_holds : Rows.SlotBackSaid := slotBack.proved
end Go.Proofs.Ythjnkapkhphpeaa
end
