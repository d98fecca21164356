-- Written by a program of this session (xprint.py, over the kit's print). Not trusted: Lean checks it.
import Derived.Test.YthjnkapkhphpeaaP0
import Derived.Test.YthjnkapkhphpeaaHSParse
namespace Go.Proofs.Ythjnkapkhphpeaa.P
open Go.RowKit Go.Proofs.YthjnkapkhphpeaaW.PrintWords Go.Proofs.YthjnkapkhphpeaaW.PrintLast Go.Proofs.YthjnkapkhphpeaaW.PrintMore
attribute [local go_sem] max2_int min2_int max_two min_two max_three min_three max_four min_four   -- for this text's walks alone
set_option linter.unusedVariables false
set_option linter.unusedSimpArgs false

/-! ### slot_Pick: function 20 -/
def slot_Pick.j0 : Nat → Int → Int → Bool → Int → Int → Int → Int → Int → Int → Option (Int × Int × Int × Int × Int)
  | 0, _, _, _, _, _, _, _, _, _ => none
  | k + 1, x8, x10, x21, x115000, x115001, x115002, x120000, x120001, x120002 => if x21 = true then (some (0, 0, 0, 0, 4)) else (if x8 = 0 then (if x10 = 0 then (if x120000 > x115000 then (some (1, x120000, x120001, x120002, 0)) else (some (0, x115000, x115001, x115002, 0))) else (some (0, x115000, x115001, x115002, 0))) else (some (1, x120000, x120001, x120002, 0)))
def slot_Pick.f (k : Nat) (a0 : ByteArray) (a1 : ByteArray) : Option (Int × Int × Int × Int × Int) := (slot_Parse.f a0).bind fun bt110 => ((slot_Parse.f a1).bind fun bt115 => (if bt110.2.2.2 = 0 then (slot_Pick.j0 k bt110.2.2.2 bt115.2.2.2 false bt110.1 bt110.2.1 bt110.2.2.1 bt115.1 bt115.2.1 bt115.2.2.1) else (slot_Pick.j0 k bt110.2.2.2 bt115.2.2.2 (bt115.2.2.2 != 0) bt110.1 bt110.2.1 bt110.2.2.1 bt115.1 bt115.2.1 bt115.2.2.1)))
theorem slot_Pick.mono_l : ∀ k, (∀ y0 y1 y2 y3 y4 y5 y6 y7 y8, LeO (slot_Pick.j0 k y0 y1 y2 y3 y4 y5 y6 y7 y8) (slot_Pick.j0 (k + 1) y0 y1 y2 y3 y4 y5 y6 y7 y8))
  | 0 => fun _ _ _ _ _ _ _ _ _ r h => by simp [slot_Pick.j0] at h
  | k + 1 => by
    have ih0 := slot_Pick.mono_l k
    · intro y0 y1 y2 y3 y4 y5 y6 y7 y8
      unfold slot_Pick.j0
      repeat' first
      | (with_reducible exact ih0 _ _ _ _ _ _ _ _ _)
      | (with_reducible exact LeO.refl _)
      | (with_reducible exact LeO.none _)
      | (with_reducible refine LeO.ite ?_ ?_)
      | (with_reducible refine LeO.bind ?_ (fun _ => ?_))
      | exact ih0 _ _ _ _ _ _ _ _ _
      | exact LeO.none _
      | refine LeO.ite ?_ ?_
      | refine LeO.bind ?_ (fun _ => ?_)
theorem slot_Pick.mono : ∀ a0 a1 k, LeO (slot_Pick.f k a0 a1) (slot_Pick.f (k + 1) a0 a1) := by
  intro a0 a1 k
  have ih0 := slot_Pick.mono_l k
  unfold slot_Pick.f
  repeat' first
      | (with_reducible exact ih0 _ _ _ _ _ _ _ _ _)
      | (with_reducible exact LeO.refl _)
      | (with_reducible exact LeO.none _)
      | (with_reducible refine LeO.ite ?_ ?_)
      | (with_reducible refine LeO.bind ?_ (fun _ => ?_))
      | exact ih0 _ _ _ _ _ _ _ _ _
      | exact LeO.none _
      | refine LeO.ite ?_ ?_
      | refine LeO.bind ?_ (fun _ => ?_)
set_option maxHeartbeats 8000000 in
set_option maxRecDepth 100000 in
theorem slot_Pick.calls (k : Nat) (a0 : ByteArray) (a1 : ByteArray) (r1 : Int) (r2 : Int) (r3 : Int) (r4 : Int) (r5 : Int) (w : World) (h : slot_Pick.f k a0 a1 = some (r1, r2, r3, r4, r5)) :
    Calls Try.prog 20 #[.string a0, .string a1] w fun e w' => e = .returned (.tuple #[.int .i64 r1, .agg #[.int .i64 r2, .int .i64 r3, .int .i64 r4], .int .i64 r5]) ∧ Below w.heap.size w w' := by
  have hu23 := Try.underlying23
  have HB := Aside0.mk (Below.refl w.heap.size w)
  have H : ((slot_Parse.f a0).bind fun bt110 => ((slot_Parse.f a1).bind fun bt115 => (if bt110.2.2.2 = 0 then (slot_Pick.j0 k bt110.2.2.2 bt115.2.2.2 false bt110.1 bt110.2.1 bt110.2.2.1 bt115.1 bt115.2.1 bt115.2.2.1) else (slot_Pick.j0 k bt110.2.2.2 bt115.2.2.2 (bt115.2.2.2 != 0) bt110.1 bt110.2.1 bt110.2.2.1 bt115.1 bt115.2.1 bt115.2.2.1)))) = some (r1, r2, r3, r4, r5) := h
  clear h
  replace H := Option.bind_eq_some_iff.mp H
  obtain ⟨⟨t110, t111, t112, t113⟩, A30, H⟩ := H
  replace H : ((slot_Parse.f a1).bind fun bt115 => (if t113 = 0 then (slot_Pick.j0 k t113 bt115.2.2.2 false t110 t111 t112 bt115.1 bt115.2.1 bt115.2.2.1) else (slot_Pick.j0 k t113 bt115.2.2.2 (bt115.2.2.2 != 0) t110 t111 t112 bt115.1 bt115.2.1 bt115.2.2.1))) = some (r1, r2, r3, r4, r5) := H
  have A3 := Aside0.mk A30
  clear A30
  replace H := Option.bind_eq_some_iff.mp H
  obtain ⟨⟨t115, t116, t117, t118⟩, A40, H⟩ := H
  replace H : (if t113 = 0 then (slot_Pick.j0 k t113 t118 false t110 t111 t112 t115 t116 t117) else (slot_Pick.j0 k t113 t118 (t118 != 0) t110 t111 t112 t115 t116 t117)) = some (r1, r2, r3, r4, r5) := H
  have A4 := Aside0.mk A40
  clear A40
  have HC5 := Aside0.mk H
  clear H
  go_enter Try.func20, Try.ntmps20
  go_upto_region 3 with (first | ((with_reducible refine gate_dst (N := 5) rfl ?_); refine box_event ?hg (N := 5) ?hd (cs := #[.int .i64 0, .int .i64 0, .int .i64 0]) (t := 23) ?hr ?_; (case hd => rfl); (case hg => rfl); (case hr => first | (go_simp; done) | (go_simp; rfl)); intro gb109 hg w6 hbox hb; have n0_ := Aside0.mk (below_step (by repeat (first | (with_reducible first | exact HB.out | apply below_alloc | apply pw_below_drewN | apply below_drew1) | exact HB.out)) hb); have n1_ := Aside0.mk (hbox); have n2_ := Aside0.mk ((by rw [hg]; exact (below_size (by repeat (first | (with_reducible first | exact HB.out | apply below_alloc | apply pw_below_drewN | apply below_drew1) | exact HB.out))) : w.heap.size ≤ gb109)); have n3_ := Aside0.mk ((by rw [hg]; exact (below_size (by repeat (first | (with_reducible first | exact HB.out | apply below_alloc | apply pw_below_drewN | apply below_drew1) | exact HB.out))) : w.heap.size ≤ gb109)); clear HB; have HB := n0_; have BK109 := n1_; have GW109 := n2_; have GE109 := n3_; clear n0_ n1_ n2_ n3_; clear hb hbox hg) | ((with_reducible refine gate_callee (f := 18) rfl ?_); refine goesL_ (some 13) rfl rfl Try.func18 (by kernel_rfl) rfl #[.string a0] rfl (by (try simp only [List.map_toArray, List.map_cons, List.map_nil]); first | done | rfl | (simp only [List.length_drop, List.length_take]; rfl)) ?_; (with_reducible refine (slot_Parse.calls a0 t110 t111 t112 t113 _ A3.out).mono ?_); rintro e w7 ⟨rfl, hb⟩; refine ⟨_, rfl, ?_⟩; have n0_ := Aside0.mk (blk_below (g := gb109) (o := .cells #[.int .i64 0, .int .i64 0, .int .i64 0] 23 (0, 0)) (by (with_reducible repeat (first | refine blk_drewN ?_ _ | refine blk_drew ?_ | refine blk_alloc ?_ _)); exact BK109.out) hb); have n1_ := Aside0.mk (below_step (by repeat (first | (with_reducible first | exact HB.out | apply below_alloc | apply pw_below_drewN | apply below_drew1 | refine below_set ?_ GE109.out) | exact HB.out)) hb); clear BK109; clear HB; have BK109 := n0_; have HB := n1_; clear n0_ n1_; (try clear hb); (try clear hb2); (try clear hk); (try clear hi)) | ((with_reducible refine gate_dst (N := 7) rfl ?_); refine box_event ?hg (N := 7) ?hd (cs := #[.int .i64 0, .int .i64 0, .int .i64 0]) (t := 23) ?hr ?_; (case hd => rfl); (case hg => rfl); (case hr => first | (go_simp; done) | (go_simp; rfl)); intro gb114 hg w8 hbox hb; have n0_ := Aside0.mk (blk_below (g := gb109) (o := .cells #[.int .i64 0, .int .i64 0, .int .i64 0] 23 (0, 0)) (by (with_reducible repeat (first | refine blk_drewN ?_ _ | refine blk_drew ?_ | refine blk_alloc ?_ _)); exact BK109.out) hb); have n1_ := Aside0.mk (below_step (by repeat (first | (with_reducible first | exact HB.out | apply below_alloc | apply pw_below_drewN | apply below_drew1 | refine below_set ?_ GE109.out) | exact HB.out)) hb); have n2_ := Aside0.mk (hbox); have n3_ := Aside0.mk ((by rw [hg]; exact (below_size (by repeat (first | (with_reducible first | exact HB.out | apply below_alloc | apply pw_below_drewN | apply below_drew1 | refine below_set ?_ GE109.out) | exact HB.out))) : w.heap.size ≤ gb114)); have n4_ := Aside0.mk ((by rw [hg]; exact (below_size (by repeat (first | (with_reducible first | exact HB.out | apply below_alloc | apply pw_below_drewN | apply below_drew1 | refine below_set ?_ GE109.out) | exact HB.out))) : w.heap.size ≤ gb114)); have n5_ := Aside0.mk ((by rw [hg]; exact Nat.ne_of_lt (blk_lt (g := gb109) (o := .cells #[.int .i64 0, .int .i64 0, .int .i64 0] 23 (0, 0)) (by (with_reducible repeat (first | refine blk_drewN ?_ _ | refine blk_drew ?_ | refine blk_alloc ?_ _)); exact BK109.out)) : gb109 ≠ gb114)); have n6_ := Aside0.mk ((by rw [hg]; exact Nat.ne_of_gt (blk_lt (g := gb109) (o := .cells #[.int .i64 0, .int .i64 0, .int .i64 0] 23 (0, 0)) (by (with_reducible repeat (first | refine blk_drewN ?_ _ | refine blk_drew ?_ | refine blk_alloc ?_ _)); exact BK109.out)) : gb114 ≠ gb109)); clear BK109; clear HB; have BK109 := n0_; have HB := n1_; have BK114 := n2_; have GW114 := n3_; have GE114 := n4_; have NB109_114 := n5_; have NB114_109 := n6_; clear n0_ n1_ n2_ n3_ n4_ n5_ n6_; clear hb hbox hg; have hnb9 := NB114_109.out; have hnc9 := NB109_114.out; have hcz10_0 : w8.cell? ⟨gb114, 0, none⟩ = some (.int .i64 0) := (blk_cell BK114.out 0).trans rfl; have hcz10_1 : w8.cell? ⟨gb114, 1, none⟩ = some (.int .i64 0) := (blk_cell BK114.out 1).trans rfl; have hcz10_2 : w8.cell? ⟨gb114, 2, none⟩ = some (.int .i64 0) := (blk_cell BK114.out 2).trans rfl; have hfz10_0 := blk_frozen BK114.out 0; have hfz10_1 := blk_frozen BK114.out 1; have hfz10_2 := blk_frozen BK114.out 2) | ((with_reducible refine gate_callee (f := 18) rfl ?_); refine goesL_ (some 18) rfl rfl Try.func18 (by kernel_rfl) rfl #[.string a1] rfl (by (try simp only [List.map_toArray, List.map_cons, List.map_nil]); first | done | rfl | (simp only [List.length_drop, List.length_take]; rfl)) ?_; (with_reducible refine (slot_Parse.calls a1 t115 t116 t117 t118 _ A4.out).mono ?_); rintro e w11 ⟨rfl, hb⟩; refine ⟨_, rfl, ?_⟩; have n0_ := Aside0.mk (blk_below (g := gb109) (o := .cells #[.int .i64 0, .int .i64 0, .int .i64 0] 23 (0, 0)) (by (with_reducible repeat (first | refine blk_drewN ?_ _ | refine blk_drew ?_ | refine blk_alloc ?_ _)); refine blk_far ?_ NB109_114.out _; (with_reducible repeat (first | refine blk_drewN ?_ _ | refine blk_drew ?_ | refine blk_alloc ?_ _)); refine blk_far ?_ NB109_114.out _; (with_reducible repeat (first | refine blk_drewN ?_ _ | refine blk_drew ?_ | refine blk_alloc ?_ _)); refine blk_far ?_ NB109_114.out _; (with_reducible repeat (first | refine blk_drewN ?_ _ | refine blk_drew ?_ | refine blk_alloc ?_ _)); exact BK109.out) hb); have n1_ := Aside0.mk (blk_below (g := gb114) (o := .cells #[.int .i64 t110, .int .i64 t111, .int .i64 t112] 23 (0, 0)) (by (with_reducible repeat (first | refine blk_drewN ?_ _ | refine blk_drew ?_ | refine blk_alloc ?_ _)); refine blk_put (cs := #[.int .i64 t110, .int .i64 t111, .int .i64 0]) ?_ 2 _ rfl; (with_reducible repeat (first | refine blk_drewN ?_ _ | refine blk_drew ?_ | refine blk_alloc ?_ _)); refine blk_put (cs := #[.int .i64 t110, .int .i64 0, .int .i64 0]) ?_ 1 _ rfl; (with_reducible repeat (first | refine blk_drewN ?_ _ | refine blk_drew ?_ | refine blk_alloc ?_ _)); refine blk_put (cs := #[.int .i64 0, .int .i64 0, .int .i64 0]) ?_ 0 _ rfl; (with_reducible repeat (first | refine blk_drewN ?_ _ | refine blk_drew ?_ | refine blk_alloc ?_ _)); exact BK114.out) hb); have n2_ := Aside0.mk (below_step (by repeat (first | (with_reducible first | exact HB.out | apply below_alloc | apply pw_below_drewN | apply below_drew1 | refine below_set ?_ GE109.out | refine below_set ?_ GE114.out) | exact HB.out)) hb); clear BK109; clear BK114; clear HB; have BK109 := n0_; have BK114 := n1_; have HB := n2_; clear n0_ n1_ n2_; (try clear hb); (try clear hb2); (try clear hk); (try clear hi)) | ((with_reducible refine gate_dst (N := 9) rfl ?_); refine box_event ?hg (N := 9) ?hd (cs := #[.int .i64 0, .int .i64 0, .int .i64 0]) (t := 23) ?hr ?_; (case hd => rfl); (case hg => rfl); (case hr => first | (go_simp; done) | (go_simp; rfl)); intro gb119 hg w12 hbox hb; have n0_ := Aside0.mk (blk_below (g := gb109) (o := .cells #[.int .i64 0, .int .i64 0, .int .i64 0] 23 (0, 0)) (by (with_reducible repeat (first | refine blk_drewN ?_ _ | refine blk_drew ?_ | refine blk_alloc ?_ _)); exact BK109.out) hb); have n1_ := Aside0.mk (blk_below (g := gb114) (o := .cells #[.int .i64 t110, .int .i64 t111, .int .i64 t112] 23 (0, 0)) (by (with_reducible repeat (first | refine blk_drewN ?_ _ | refine blk_drew ?_ | refine blk_alloc ?_ _)); exact BK114.out) hb); have n2_ := Aside0.mk (below_step (by repeat (first | (with_reducible first | exact HB.out | apply below_alloc | apply pw_below_drewN | apply below_drew1 | refine below_set ?_ GE109.out | refine below_set ?_ GE114.out) | exact HB.out)) hb); have n3_ := Aside0.mk (hbox); have n4_ := Aside0.mk ((by rw [hg]; exact (below_size (by repeat (first | (with_reducible first | exact HB.out | apply below_alloc | apply pw_below_drewN | apply below_drew1 | refine below_set ?_ GE109.out | refine below_set ?_ GE114.out) | exact HB.out))) : w.heap.size ≤ gb119)); have n5_ := Aside0.mk ((by rw [hg]; exact (below_size (by repeat (first | (with_reducible first | exact HB.out | apply below_alloc | apply pw_below_drewN | apply below_drew1 | refine below_set ?_ GE109.out | refine below_set ?_ GE114.out) | exact HB.out))) : w.heap.size ≤ gb119)); have n6_ := Aside0.mk ((by rw [hg]; exact Nat.ne_of_lt (blk_lt (g := gb109) (o := .cells #[.int .i64 0, .int .i64 0, .int .i64 0] 23 (0, 0)) (by (with_reducible repeat (first | refine blk_drewN ?_ _ | refine blk_drew ?_ | refine blk_alloc ?_ _)); exact BK109.out)) : gb109 ≠ gb119)); have n7_ := Aside0.mk ((by rw [hg]; exact Nat.ne_of_gt (blk_lt (g := gb109) (o := .cells #[.int .i64 0, .int .i64 0, .int .i64 0] 23 (0, 0)) (by (with_reducible repeat (first | refine blk_drewN ?_ _ | refine blk_drew ?_ | refine blk_alloc ?_ _)); exact BK109.out)) : gb119 ≠ gb109)); have n8_ := Aside0.mk ((by rw [hg]; exact Nat.ne_of_lt (blk_lt (g := gb114) (o := .cells #[.int .i64 t110, .int .i64 t111, .int .i64 t112] 23 (0, 0)) (by (with_reducible repeat (first | refine blk_drewN ?_ _ | refine blk_drew ?_ | refine blk_alloc ?_ _)); exact BK114.out)) : gb114 ≠ gb119)); have n9_ := Aside0.mk ((by rw [hg]; exact Nat.ne_of_gt (blk_lt (g := gb114) (o := .cells #[.int .i64 t110, .int .i64 t111, .int .i64 t112] 23 (0, 0)) (by (with_reducible repeat (first | refine blk_drewN ?_ _ | refine blk_drew ?_ | refine blk_alloc ?_ _)); exact BK114.out)) : gb119 ≠ gb114)); clear BK109; clear BK114; clear HB; have BK109 := n0_; have BK114 := n1_; have HB := n2_; have BK119 := n3_; have GW119 := n4_; have GE119 := n5_; have NB109_119 := n6_; have NB119_109 := n7_; have NB114_119 := n8_; have NB119_114 := n9_; clear n0_ n1_ n2_ n3_ n4_ n5_ n6_ n7_ n8_ n9_; clear hb hbox hg; have hnb13 := NB119_109.out; have hnc13 := NB109_119.out; have hnb14 := NB119_114.out; have hnc14 := NB114_119.out; have hcz15_0 : w12.cell? ⟨gb119, 0, none⟩ = some (.int .i64 0) := (blk_cell BK119.out 0).trans rfl; have hcz15_1 : w12.cell? ⟨gb119, 1, none⟩ = some (.int .i64 0) := (blk_cell BK119.out 1).trans rfl; have hcz15_2 : w12.cell? ⟨gb119, 2, none⟩ = some (.int .i64 0) := (blk_cell BK119.out 2).trans rfl; have hfz15_0 := blk_frozen BK119.out 0; have hfz15_1 := blk_frozen BK119.out 1; have hfz15_2 := blk_frozen BK119.out 2))
  (try simp only [Act.put, List.setIfInBounds_toArray, List.set_cons_zero, List.set_cons_succ])
  go_cut [21] (fun v21 wc => ∃ (kq : Nat) (x21_4 : Bool), v21 = .bool x21_4 ∧ Aside0 (slot_Pick.j0 kq t113 t118 x21_4 t110 t111 t112 t115 t116 t117 = some (r1, r2, r3, r4, r5)) ∧ Aside0 (kq ≤ k) ∧ Aside0 (wc.heap[gb109]? = some (.cells #[.int .i64 0, .int .i64 0, .int .i64 0] 23 (0, 0))) ∧ Aside0 (wc.heap[gb114]? = some (.cells #[.int .i64 t110, .int .i64 t111, .int .i64 t112] 23 (0, 0))) ∧ Aside0 (wc.heap[gb119]? = some (.cells #[.int .i64 t115, .int .i64 t116, .int .i64 t117] 23 (0, 0))) ∧ Aside0 (Below w.heap.size w wc))
  case first =>
    have H := HC5.out
    clear HC5
    by_cases c16 : t113 = 0
    · rw [if_pos c16] at H
      have c16b0 : (t113 == 0) = true := beq_iff_eq.mpr c16
      have c16b1 : (t113 != 0) = false := bne_eq_false_iff_eq.mpr c16
      clear c16
      (first | rw [c16b0] | (simp only [i64_w, i32_w]; rw [c16b0]) | skip)
      have H' := Aside0.mk H
      clear H
      go_wp2
      go_meet
      case rel => exact ⟨_, (false), (by first | rfl | (simp; done) | (simp [*]; done)), H', ⟨by first | omega | exact Nat.le_refl _⟩, ⟨by (with_reducible repeat (first | refine blk_drewN ?_ _ | refine blk_drew ?_ | refine blk_alloc ?_ _)); refine blk_far ?_ NB109_119.out _; (with_reducible repeat (first | refine blk_drewN ?_ _ | refine blk_drew ?_ | refine blk_alloc ?_ _)); refine blk_far ?_ NB109_119.out _; (with_reducible repeat (first | refine blk_drewN ?_ _ | refine blk_drew ?_ | refine blk_alloc ?_ _)); refine blk_far ?_ NB109_119.out _; (with_reducible repeat (first | refine blk_drewN ?_ _ | refine blk_drew ?_ | refine blk_alloc ?_ _)); exact BK109.out⟩, ⟨by (with_reducible repeat (first | refine blk_drewN ?_ _ | refine blk_drew ?_ | refine blk_alloc ?_ _)); refine blk_far ?_ NB114_119.out _; (with_reducible repeat (first | refine blk_drewN ?_ _ | refine blk_drew ?_ | refine blk_alloc ?_ _)); refine blk_far ?_ NB114_119.out _; (with_reducible repeat (first | refine blk_drewN ?_ _ | refine blk_drew ?_ | refine blk_alloc ?_ _)); refine blk_far ?_ NB114_119.out _; (with_reducible repeat (first | refine blk_drewN ?_ _ | refine blk_drew ?_ | refine blk_alloc ?_ _)); exact BK114.out⟩, ⟨by (with_reducible repeat (first | refine blk_drewN ?_ _ | refine blk_drew ?_ | refine blk_alloc ?_ _)); refine blk_put (cs := #[.int .i64 t115, .int .i64 t116, .int .i64 0]) ?_ 2 _ rfl; (with_reducible repeat (first | refine blk_drewN ?_ _ | refine blk_drew ?_ | refine blk_alloc ?_ _)); refine blk_put (cs := #[.int .i64 t115, .int .i64 0, .int .i64 0]) ?_ 1 _ rfl; (with_reducible repeat (first | refine blk_drewN ?_ _ | refine blk_drew ?_ | refine blk_alloc ?_ _)); refine blk_put (cs := #[.int .i64 0, .int .i64 0, .int .i64 0]) ?_ 0 _ rfl; (with_reducible repeat (first | refine blk_drewN ?_ _ | refine blk_drew ?_ | refine blk_alloc ?_ _)); exact BK119.out⟩, ⟨by repeat (first | (with_reducible first | exact HB.out | apply below_alloc | apply pw_below_drewN | apply below_drew1 | refine below_set ?_ GE109.out | refine below_set ?_ GE114.out | refine below_set ?_ GE119.out) | exact HB.out)⟩⟩
    · rw [if_neg c16] at H
      have c16b0 : (t113 == 0) = false := beq_eq_false_iff_ne.mpr c16
      have c16b1 : (t113 != 0) = true := bne_iff_ne.mpr c16
      (first | rw [c16b0] | (simp only [i64_w, i32_w]; rw [c16b0]) | skip)
      have H' := Aside0.mk H
      clear H
      go_wp2
      go_meet
      case rel => exact ⟨_, ((t118 != 0)), (by first | rfl | (simp; done) | (simp [*]; done)), H', ⟨by first | omega | exact Nat.le_refl _⟩, ⟨by (with_reducible repeat (first | refine blk_drewN ?_ _ | refine blk_drew ?_ | refine blk_alloc ?_ _)); refine blk_far ?_ NB109_119.out _; (with_reducible repeat (first | refine blk_drewN ?_ _ | refine blk_drew ?_ | refine blk_alloc ?_ _)); refine blk_far ?_ NB109_119.out _; (with_reducible repeat (first | refine blk_drewN ?_ _ | refine blk_drew ?_ | refine blk_alloc ?_ _)); refine blk_far ?_ NB109_119.out _; (with_reducible repeat (first | refine blk_drewN ?_ _ | refine blk_drew ?_ | refine blk_alloc ?_ _)); exact BK109.out⟩, ⟨by (with_reducible repeat (first | refine blk_drewN ?_ _ | refine blk_drew ?_ | refine blk_alloc ?_ _)); refine blk_far ?_ NB114_119.out _; (with_reducible repeat (first | refine blk_drewN ?_ _ | refine blk_drew ?_ | refine blk_alloc ?_ _)); refine blk_far ?_ NB114_119.out _; (with_reducible repeat (first | refine blk_drewN ?_ _ | refine blk_drew ?_ | refine blk_alloc ?_ _)); refine blk_far ?_ NB114_119.out _; (with_reducible repeat (first | refine blk_drewN ?_ _ | refine blk_drew ?_ | refine blk_alloc ?_ _)); exact BK114.out⟩, ⟨by (with_reducible repeat (first | refine blk_drewN ?_ _ | refine blk_drew ?_ | refine blk_alloc ?_ _)); refine blk_put (cs := #[.int .i64 t115, .int .i64 t116, .int .i64 0]) ?_ 2 _ rfl; (with_reducible repeat (first | refine blk_drewN ?_ _ | refine blk_drew ?_ | refine blk_alloc ?_ _)); refine blk_put (cs := #[.int .i64 t115, .int .i64 0, .int .i64 0]) ?_ 1 _ rfl; (with_reducible repeat (first | refine blk_drewN ?_ _ | refine blk_drew ?_ | refine blk_alloc ?_ _)); refine blk_put (cs := #[.int .i64 0, .int .i64 0, .int .i64 0]) ?_ 0 _ rfl; (with_reducible repeat (first | refine blk_drewN ?_ _ | refine blk_drew ?_ | refine blk_alloc ?_ _)); exact BK119.out⟩, ⟨by repeat (first | (with_reducible first | exact HB.out | apply below_alloc | apply pw_below_drewN | apply below_drew1 | refine below_set ?_ GE109.out | refine below_set ?_ GE114.out | refine below_set ?_ GE119.out) | exact HB.out)⟩⟩
  case rest =>
    clear HC5
    try clear c1
    try clear c2
    try clear p2
    try clear c9
    try clear c13
    try clear c14
    try clear c16
    try clear c16b0
    try clear c16b1
    try clear hcz10_0
    try clear hcz10_1
    try clear hcz10_2
    try clear hcz15_0
    try clear hcz15_1
    try clear hcz15_2
    try clear hfz10_0
    try clear hfz10_1
    try clear hfz10_2
    try clear hfz15_0
    try clear hfz15_1
    try clear hfz15_2
    obtain ⟨kq, x21_4, rfl, HA, HJ4, BK109, BK114, BK119, HB⟩ := hcut
    cases kq with
    | zero => exact absurd HA.out (by simp [slot_Pick.j0])
    | succ kj4 =>
      have H := HA.out
      clear HA
      simp only [slot_Pick.j0] at H
      by_cases c17 : x21_4 = true
      · subst c17
        have H1 : (some (0, 0, 0, 0, 4)) = some (r1, r2, r3, r4, r5) := by rw [if_pos rfl] at H; exact H
        clear H
        have H := H1
        clear H1
        simp only [Option.some.injEq, Prod.mk.injEq] at H
        obtain ⟨rfl, rfl, rfl, rfl, rfl⟩ := H
        have hnb18 := NB109_114.out
        have hnc18 := NB114_109.out
        have hnb19 := NB109_119.out
        have hnc19 := NB119_109.out
        have hcz20_0 : wc.cell? ⟨gb109, 0, none⟩ = some (.int .i64 0) := (blk_cell BK109.out 0).trans rfl
        have hcz20_1 : wc.cell? ⟨gb109, 1, none⟩ = some (.int .i64 0) := (blk_cell BK109.out 1).trans rfl
        have hcz20_2 : wc.cell? ⟨gb109, 2, none⟩ = some (.int .i64 0) := (blk_cell BK109.out 2).trans rfl
        have hfz20_0 := blk_frozen BK109.out 0
        have hfz20_1 := blk_frozen BK109.out 1
        have hfz20_2 := blk_frozen BK109.out 2
        go_wp2
        refine bodyPost_ret (results_list (rs := [.tmp 4, .cell 5 23, .tmp 6]) rfl (by simp) (.tmp (.cell gb109 23 #[.int .i64 0, .int .i64 0, .int .i64 0] (0, 0) _ rfl (by (with_reducible repeat (first | refine blk_drewN ?_ _ | refine blk_drew ?_ | refine blk_alloc ?_ _)); refine blk_put (cs := #[.int .i64 0, .int .i64 0, .int .i64 0]) ?_ 2 _ rfl; (with_reducible repeat (first | refine blk_drewN ?_ _ | refine blk_drew ?_ | refine blk_alloc ?_ _)); refine blk_put (cs := #[.int .i64 0, .int .i64 0, .int .i64 0]) ?_ 1 _ rfl; (with_reducible repeat (first | refine blk_drewN ?_ _ | refine blk_drew ?_ | refine blk_alloc ?_ _)); refine blk_put (cs := #[.int .i64 0, .int .i64 0, .int .i64 0]) ?_ 0 _ rfl; (with_reducible repeat (first | refine blk_drewN ?_ _ | refine blk_drew ?_ | refine blk_alloc ?_ _)); exact BK109.out) Try.underlying23 rfl (by kernel_rfl) (.tmp .nil)))) rfl ?_
        exact ⟨by first | rfl | (simp [errW_none, errW_some] <;> rfl) | (simp [*, errW_none, errW_some] <;> rfl), by repeat (first | (with_reducible first | exact HB.out | apply below_alloc | apply pw_below_drewN | apply below_drew1 | refine below_set ?_ GE109.out | refine below_set ?_ GE114.out | refine below_set ?_ GE119.out) | exact HB.out)⟩
      · replace c17 := Bool.eq_false_iff.mpr c17
        subst c17
        have H1 : (if t113 = 0 then (if t118 = 0 then (if t115 > t110 then (some (1, t115, t116, t117, 0)) else (some (0, t110, t111, t112, 0))) else (some (0, t110, t111, t112, 0))) else (some (1, t115, t116, t117, 0))) = some (r1, r2, r3, r4, r5) := by rw [if_neg (show ¬ (false = true) by decide)] at H; exact H
        clear H
        have H := H1
        clear H1
        by_cases c21 : t113 = 0
        · rw [if_pos c21] at H
          have c21b0 : (t113 == 0) = true := beq_iff_eq.mpr c21
          have c21b1 : (t113 != 0) = false := bne_eq_false_iff_eq.mpr c21
          clear c21
          by_cases c22 : t118 = 0
          · rw [if_pos c22] at H
            have c22b0 : (t118 == 0) = true := beq_iff_eq.mpr c22
            have c22b1 : (t118 != 0) = false := bne_eq_false_iff_eq.mpr c22
            clear c22
            by_cases c23 : t115 > t110
            · rw [if_pos c23] at H
              have c23b0 : decide (t110 < t115) = true := decide_eq_true c23
              clear c23
              simp only [Option.some.injEq, Prod.mk.injEq] at H
              obtain ⟨rfl, rfl, rfl, rfl, rfl⟩ := H
              have hnb24 := NB119_109.out
              have hnc24 := NB109_119.out
              have hnb25 := NB119_114.out
              have hnc25 := NB114_119.out
              have hcz26_0 : wc.cell? ⟨gb119, 0, none⟩ = some (.int .i64 t115) := (blk_cell BK119.out 0).trans rfl
              have hcz26_1 : wc.cell? ⟨gb119, 1, none⟩ = some (.int .i64 t116) := (blk_cell BK119.out 1).trans rfl
              have hcz26_2 : wc.cell? ⟨gb119, 2, none⟩ = some (.int .i64 t117) := (blk_cell BK119.out 2).trans rfl
              have hfz26_0 := blk_frozen BK119.out 0
              have hfz26_1 := blk_frozen BK119.out 1
              have hfz26_2 := blk_frozen BK119.out 2
              have hnb27 := NB114_109.out
              have hnc27 := NB109_114.out
              have hcz28_0 : wc.cell? ⟨gb114, 0, none⟩ = some (.int .i64 t110) := (blk_cell BK114.out 0).trans rfl
              have hcz28_1 : wc.cell? ⟨gb114, 1, none⟩ = some (.int .i64 t111) := (blk_cell BK114.out 1).trans rfl
              have hcz28_2 : wc.cell? ⟨gb114, 2, none⟩ = some (.int .i64 t112) := (blk_cell BK114.out 2).trans rfl
              have hfz28_0 := blk_frozen BK114.out 0
              have hfz28_1 := blk_frozen BK114.out 1
              have hfz28_2 := blk_frozen BK114.out 2
              try go_wp2
              have n0_ := Aside0.mk (blk_drew BK109.out)
              have n1_ := Aside0.mk (blk_drew BK114.out)
              have n2_ := Aside0.mk (blk_drew BK119.out)
              have n3_ := Aside0.mk (below_drew1 HB.out)
              clear BK109
              clear BK114
              clear BK119
              clear HB
              have BK109 := n0_
              have BK114 := n1_
              have BK119 := n2_
              have HB := n3_
              clear n0_ n1_ n2_ n3_
              refine start_ (n := 4) (S := fun w' => w'.cell? ⟨gb119, 0, none⟩ = some (.int .i64 t115) ∧ w'.cell? ⟨gb119, 1, none⟩ = some (.int .i64 t116) ∧ w'.cell? ⟨gb119, 2, none⟩ = some (.int .i64 t117)) (ds := []) #[false, false, false, false] (by kernel_rfl) rfl rfl ⟨(blk_cell BK119.out 0).trans rfl, (blk_cell BK119.out 1).trans rfl, (blk_cell BK119.out 2).trans rfl⟩ (fun hHeld => ?_)
              generalize wc.drew = w29 at BK109 BK114 BK119 HB hHeld ⊢
              refine pure_ (i := 1) (N := some 4) (v := ?_) (a' := ?_) #[false, true, false, false] rfl rfl (by kernel_rfl) (fun _ _ _ h => h) (Or.inl ⟨by rfl, ?_⟩) ?_ ?_
              rotate_left
              · intro w'
                go_simp
                with_reducible rfl
              rotate_left
              · simp only [Act.put, List.setIfInBounds_toArray, List.set_cons_zero, List.set_cons_succ, i64_w, i32_w]
                rfl
              refine take_ (i := 0) (N := some 43) (v := ?_) (a' := ?_) #[true, true, false, false] rfl rfl (by kernel_rfl) (fun _ _ _ h => h) (Or.inl ⟨by rfl, ?_⟩) hHeld ?_ ?_
              rotate_left
              · rintro w' ⟨s0, s1, s2⟩
                go_simp
                with_reducible rfl
              rotate_left
              · simp only [Act.put, List.setIfInBounds_toArray, List.set_cons_zero, List.set_cons_succ, i64_w, i32_w]
                rfl
              refine one_ (i := 2) (N := none) #[true, true, true, false] rfl rfl (by kernel_rfl) (by decide) (fun K hK => ?_)
              have hs30 : w29.cell? ⟨gb109, 0, none⟩ = some (.int .i64 0) := (blk_cell BK109.out 0).trans rfl
              have hfs30 := blk_frozen BK109.out 0
              have hns30_1 := NB114_109.out
              have hns30_2 := NB119_109.out
              have hms30_1 := NB109_114.out
              have hms30_2 := NB109_119.out
              have hs31 : w29.cell? ⟨gb109, 1, none⟩ = some (.int .i64 0) := (blk_cell BK109.out 1).trans rfl
              have hfs31 := blk_frozen BK109.out 1
              have hns31_1 := NB114_109.out
              have hns31_2 := NB119_109.out
              have hms31_1 := NB109_114.out
              have hms31_2 := NB109_119.out
              have hs32 : w29.cell? ⟨gb109, 2, none⟩ = some (.int .i64 0) := (blk_cell BK109.out 2).trans rfl
              have hfs32 := blk_frozen BK109.out 2
              have hns32_1 := NB114_109.out
              have hns32_2 := NB119_109.out
              have hms32_1 := NB109_114.out
              have hms32_2 := NB109_119.out
              refine skip_ (w1 := ?_) (by rfl) rfl ?_ ?_
              rotate_left
              · go_simp
                rfl
              refine hK.out _ _ ⟨((cell_far (p := ⟨gb109, _, none⟩) NB119_109.out _).trans (((cell_far (p := ⟨gb109, _, none⟩) NB119_109.out _).trans (((cell_far (p := ⟨gb109, _, none⟩) NB119_109.out _).trans (hHeld.1)))))), ((cell_far (p := ⟨gb109, _, none⟩) NB119_109.out _).trans (((cell_far (p := ⟨gb109, _, none⟩) NB119_109.out _).trans (((cell_far (p := ⟨gb109, _, none⟩) NB119_109.out _).trans (hHeld.2.1)))))), ((cell_far (p := ⟨gb109, _, none⟩) NB119_109.out _).trans (((cell_far (p := ⟨gb109, _, none⟩) NB119_109.out _).trans (((cell_far (p := ⟨gb109, _, none⟩) NB119_109.out _).trans (hHeld.2.2))))))⟩ (fun hHeld => ?_)
              clear hK K
              refine pure_ (i := 3) (N := some 6) (v := ?_) (a' := ?_) #[true, true, true, true] rfl rfl (by kernel_rfl) (fun _ _ _ h => h) (Or.inl ⟨by rfl, ?_⟩) ?_ ?_
              rotate_left
              · intro w'
                go_simp
                with_reducible rfl
              rotate_left
              · simp only [Act.put, List.setIfInBounds_toArray, List.set_cons_zero, List.set_cons_succ, i64_w, i32_w]
                rfl
              refine done_ (by kernel_rfl) ?_
              try go_wp2
              refine bodyPost_ret (results_list (rs := [.tmp 4, .cell 5 23, .tmp 6]) rfl (by simp) (.tmp (.cell gb109 23 #[.int .i64 t115, .int .i64 t116, .int .i64 t117] (0, 0) _ rfl (by (with_reducible repeat (first | refine blk_drewN ?_ _ | refine blk_drew ?_ | refine blk_alloc ?_ _)); refine blk_put (cs := #[.int .i64 t115, .int .i64 t116, .int .i64 0]) ?_ 2 _ rfl; (with_reducible repeat (first | refine blk_drewN ?_ _ | refine blk_drew ?_ | refine blk_alloc ?_ _)); refine blk_put (cs := #[.int .i64 t115, .int .i64 0, .int .i64 0]) ?_ 1 _ rfl; (with_reducible repeat (first | refine blk_drewN ?_ _ | refine blk_drew ?_ | refine blk_alloc ?_ _)); refine blk_put (cs := #[.int .i64 0, .int .i64 0, .int .i64 0]) ?_ 0 _ rfl; (with_reducible repeat (first | refine blk_drewN ?_ _ | refine blk_drew ?_ | refine blk_alloc ?_ _)); exact BK109.out) Try.underlying23 rfl (by kernel_rfl) (.tmp .nil)))) rfl ?_
              exact ⟨by first | rfl | (simp [errW_none, errW_some] <;> rfl) | (simp [*, errW_none, errW_some] <;> rfl), by repeat (first | (with_reducible first | exact HB.out | apply below_alloc | apply pw_below_drewN | apply below_drew1 | refine below_set ?_ GE109.out | refine below_set ?_ GE114.out | refine below_set ?_ GE119.out) | exact HB.out)⟩
            · rw [if_neg c23] at H
              have c23b0 : decide (t110 < t115) = false := decide_eq_false c23
              clear c23
              simp only [Option.some.injEq, Prod.mk.injEq] at H
              obtain ⟨rfl, rfl, rfl, rfl, rfl⟩ := H
              have hnb33 := NB119_109.out
              have hnc33 := NB109_119.out
              have hnb34 := NB119_114.out
              have hnc34 := NB114_119.out
              have hcz35_0 : wc.cell? ⟨gb119, 0, none⟩ = some (.int .i64 t115) := (blk_cell BK119.out 0).trans rfl
              have hcz35_1 : wc.cell? ⟨gb119, 1, none⟩ = some (.int .i64 t116) := (blk_cell BK119.out 1).trans rfl
              have hcz35_2 : wc.cell? ⟨gb119, 2, none⟩ = some (.int .i64 t117) := (blk_cell BK119.out 2).trans rfl
              have hfz35_0 := blk_frozen BK119.out 0
              have hfz35_1 := blk_frozen BK119.out 1
              have hfz35_2 := blk_frozen BK119.out 2
              have hnb36 := NB114_109.out
              have hnc36 := NB109_114.out
              have hcz37_0 : wc.cell? ⟨gb114, 0, none⟩ = some (.int .i64 t110) := (blk_cell BK114.out 0).trans rfl
              have hcz37_1 : wc.cell? ⟨gb114, 1, none⟩ = some (.int .i64 t111) := (blk_cell BK114.out 1).trans rfl
              have hcz37_2 : wc.cell? ⟨gb114, 2, none⟩ = some (.int .i64 t112) := (blk_cell BK114.out 2).trans rfl
              have hfz37_0 := blk_frozen BK114.out 0
              have hfz37_1 := blk_frozen BK114.out 1
              have hfz37_2 := blk_frozen BK114.out 2
              try go_wp2
              have n0_ := Aside0.mk (blk_drew BK109.out)
              have n1_ := Aside0.mk (blk_drew BK114.out)
              have n2_ := Aside0.mk (blk_drew BK119.out)
              have n3_ := Aside0.mk (below_drew1 HB.out)
              clear BK109
              clear BK114
              clear BK119
              clear HB
              have BK109 := n0_
              have BK114 := n1_
              have BK119 := n2_
              have HB := n3_
              clear n0_ n1_ n2_ n3_
              refine start_ (n := 4) (S := fun w' => w'.cell? ⟨gb114, 0, none⟩ = some (.int .i64 t110) ∧ w'.cell? ⟨gb114, 1, none⟩ = some (.int .i64 t111) ∧ w'.cell? ⟨gb114, 2, none⟩ = some (.int .i64 t112)) (ds := []) #[false, false, false, false] (by kernel_rfl) rfl rfl ⟨(blk_cell BK114.out 0).trans rfl, (blk_cell BK114.out 1).trans rfl, (blk_cell BK114.out 2).trans rfl⟩ (fun hHeld => ?_)
              generalize wc.drew = w38 at BK109 BK114 BK119 HB hHeld ⊢
              refine pure_ (i := 1) (N := some 4) (v := ?_) (a' := ?_) #[false, true, false, false] rfl rfl (by kernel_rfl) (fun _ _ _ h => h) (Or.inl ⟨by rfl, ?_⟩) ?_ ?_
              rotate_left
              · intro w'
                go_simp
                with_reducible rfl
              rotate_left
              · simp only [Act.put, List.setIfInBounds_toArray, List.set_cons_zero, List.set_cons_succ, i64_w, i32_w]
                rfl
              refine take_ (i := 0) (N := some 44) (v := ?_) (a' := ?_) #[true, true, false, false] rfl rfl (by kernel_rfl) (fun _ _ _ h => h) (Or.inl ⟨by rfl, ?_⟩) hHeld ?_ ?_
              rotate_left
              · rintro w' ⟨s0, s1, s2⟩
                go_simp
                with_reducible rfl
              rotate_left
              · simp only [Act.put, List.setIfInBounds_toArray, List.set_cons_zero, List.set_cons_succ, i64_w, i32_w]
                rfl
              refine one_ (i := 2) (N := none) #[true, true, true, false] rfl rfl (by kernel_rfl) (by decide) (fun K hK => ?_)
              have hs39 : w38.cell? ⟨gb109, 0, none⟩ = some (.int .i64 0) := (blk_cell BK109.out 0).trans rfl
              have hfs39 := blk_frozen BK109.out 0
              have hns39_1 := NB114_109.out
              have hns39_2 := NB119_109.out
              have hms39_1 := NB109_114.out
              have hms39_2 := NB109_119.out
              have hs40 : w38.cell? ⟨gb109, 1, none⟩ = some (.int .i64 0) := (blk_cell BK109.out 1).trans rfl
              have hfs40 := blk_frozen BK109.out 1
              have hns40_1 := NB114_109.out
              have hns40_2 := NB119_109.out
              have hms40_1 := NB109_114.out
              have hms40_2 := NB109_119.out
              have hs41 : w38.cell? ⟨gb109, 2, none⟩ = some (.int .i64 0) := (blk_cell BK109.out 2).trans rfl
              have hfs41 := blk_frozen BK109.out 2
              have hns41_1 := NB114_109.out
              have hns41_2 := NB119_109.out
              have hms41_1 := NB109_114.out
              have hms41_2 := NB109_119.out
              refine skip_ (w1 := ?_) (by rfl) rfl ?_ ?_
              rotate_left
              · go_simp
                rfl
              refine hK.out _ _ ⟨((cell_far (p := ⟨gb109, _, none⟩) NB114_109.out _).trans (((cell_far (p := ⟨gb109, _, none⟩) NB114_109.out _).trans (((cell_far (p := ⟨gb109, _, none⟩) NB114_109.out _).trans (hHeld.1)))))), ((cell_far (p := ⟨gb109, _, none⟩) NB114_109.out _).trans (((cell_far (p := ⟨gb109, _, none⟩) NB114_109.out _).trans (((cell_far (p := ⟨gb109, _, none⟩) NB114_109.out _).trans (hHeld.2.1)))))), ((cell_far (p := ⟨gb109, _, none⟩) NB114_109.out _).trans (((cell_far (p := ⟨gb109, _, none⟩) NB114_109.out _).trans (((cell_far (p := ⟨gb109, _, none⟩) NB114_109.out _).trans (hHeld.2.2))))))⟩ (fun hHeld => ?_)
              clear hK K
              refine pure_ (i := 3) (N := some 6) (v := ?_) (a' := ?_) #[true, true, true, true] rfl rfl (by kernel_rfl) (fun _ _ _ h => h) (Or.inl ⟨by rfl, ?_⟩) ?_ ?_
              rotate_left
              · intro w'
                go_simp
                with_reducible rfl
              rotate_left
              · simp only [Act.put, List.setIfInBounds_toArray, List.set_cons_zero, List.set_cons_succ, i64_w, i32_w]
                rfl
              refine done_ (by kernel_rfl) ?_
              try go_wp2
              refine bodyPost_ret (results_list (rs := [.tmp 4, .cell 5 23, .tmp 6]) rfl (by simp) (.tmp (.cell gb109 23 #[.int .i64 t110, .int .i64 t111, .int .i64 t112] (0, 0) _ rfl (by (with_reducible repeat (first | refine blk_drewN ?_ _ | refine blk_drew ?_ | refine blk_alloc ?_ _)); refine blk_put (cs := #[.int .i64 t110, .int .i64 t111, .int .i64 0]) ?_ 2 _ rfl; (with_reducible repeat (first | refine blk_drewN ?_ _ | refine blk_drew ?_ | refine blk_alloc ?_ _)); refine blk_put (cs := #[.int .i64 t110, .int .i64 0, .int .i64 0]) ?_ 1 _ rfl; (with_reducible repeat (first | refine blk_drewN ?_ _ | refine blk_drew ?_ | refine blk_alloc ?_ _)); refine blk_put (cs := #[.int .i64 0, .int .i64 0, .int .i64 0]) ?_ 0 _ rfl; (with_reducible repeat (first | refine blk_drewN ?_ _ | refine blk_drew ?_ | refine blk_alloc ?_ _)); exact BK109.out) Try.underlying23 rfl (by kernel_rfl) (.tmp .nil)))) rfl ?_
              exact ⟨by first | rfl | (simp [errW_none, errW_some] <;> rfl) | (simp [*, errW_none, errW_some] <;> rfl), by repeat (first | (with_reducible first | exact HB.out | apply below_alloc | apply pw_below_drewN | apply below_drew1 | refine below_set ?_ GE109.out | refine below_set ?_ GE114.out | refine below_set ?_ GE119.out) | exact HB.out)⟩
          · rw [if_neg c22] at H
            have c22b0 : (t118 == 0) = false := beq_eq_false_iff_ne.mpr c22
            have c22b1 : (t118 != 0) = true := bne_iff_ne.mpr c22
            simp only [Option.some.injEq, Prod.mk.injEq] at H
            obtain ⟨rfl, rfl, rfl, rfl, rfl⟩ := H
            try go_wp2
            have n0_ := Aside0.mk (blk_drew BK109.out)
            have n1_ := Aside0.mk (blk_drew BK114.out)
            have n2_ := Aside0.mk (blk_drew BK119.out)
            have n3_ := Aside0.mk (below_drew1 HB.out)
            clear BK109
            clear BK114
            clear BK119
            clear HB
            have BK109 := n0_
            have BK114 := n1_
            have BK119 := n2_
            have HB := n3_
            clear n0_ n1_ n2_ n3_
            refine start_ (n := 4) (S := fun w' => w'.cell? ⟨gb114, 0, none⟩ = some (.int .i64 t110) ∧ w'.cell? ⟨gb114, 1, none⟩ = some (.int .i64 t111) ∧ w'.cell? ⟨gb114, 2, none⟩ = some (.int .i64 t112)) (ds := []) #[false, false, false, false] (by kernel_rfl) rfl rfl ⟨(blk_cell BK114.out 0).trans rfl, (blk_cell BK114.out 1).trans rfl, (blk_cell BK114.out 2).trans rfl⟩ (fun hHeld => ?_)
            generalize wc.drew = w42 at BK109 BK114 BK119 HB hHeld ⊢
            refine pure_ (i := 1) (N := some 4) (v := ?_) (a' := ?_) #[false, true, false, false] rfl rfl (by kernel_rfl) (fun _ _ _ h => h) (Or.inl ⟨by rfl, ?_⟩) ?_ ?_
            rotate_left
            · intro w'
              go_simp
              with_reducible rfl
            rotate_left
            · simp only [Act.put, List.setIfInBounds_toArray, List.set_cons_zero, List.set_cons_succ, i64_w, i32_w]
              rfl
            refine take_ (i := 0) (N := some 44) (v := ?_) (a' := ?_) #[true, true, false, false] rfl rfl (by kernel_rfl) (fun _ _ _ h => h) (Or.inl ⟨by rfl, ?_⟩) hHeld ?_ ?_
            rotate_left
            · rintro w' ⟨s0, s1, s2⟩
              go_simp
              with_reducible rfl
            rotate_left
            · simp only [Act.put, List.setIfInBounds_toArray, List.set_cons_zero, List.set_cons_succ, i64_w, i32_w]
              rfl
            refine one_ (i := 2) (N := none) #[true, true, true, false] rfl rfl (by kernel_rfl) (by decide) (fun K hK => ?_)
            have hs43 : w42.cell? ⟨gb109, 0, none⟩ = some (.int .i64 0) := (blk_cell BK109.out 0).trans rfl
            have hfs43 := blk_frozen BK109.out 0
            have hns43_1 := NB114_109.out
            have hns43_2 := NB119_109.out
            have hms43_1 := NB109_114.out
            have hms43_2 := NB109_119.out
            have hs44 : w42.cell? ⟨gb109, 1, none⟩ = some (.int .i64 0) := (blk_cell BK109.out 1).trans rfl
            have hfs44 := blk_frozen BK109.out 1
            have hns44_1 := NB114_109.out
            have hns44_2 := NB119_109.out
            have hms44_1 := NB109_114.out
            have hms44_2 := NB109_119.out
            have hs45 : w42.cell? ⟨gb109, 2, none⟩ = some (.int .i64 0) := (blk_cell BK109.out 2).trans rfl
            have hfs45 := blk_frozen BK109.out 2
            have hns45_1 := NB114_109.out
            have hns45_2 := NB119_109.out
            have hms45_1 := NB109_114.out
            have hms45_2 := NB109_119.out
            refine skip_ (w1 := ?_) (by rfl) rfl ?_ ?_
            rotate_left
            · go_simp
              rfl
            refine hK.out _ _ ⟨((cell_far (p := ⟨gb109, _, none⟩) NB114_109.out _).trans (((cell_far (p := ⟨gb109, _, none⟩) NB114_109.out _).trans (((cell_far (p := ⟨gb109, _, none⟩) NB114_109.out _).trans (hHeld.1)))))), ((cell_far (p := ⟨gb109, _, none⟩) NB114_109.out _).trans (((cell_far (p := ⟨gb109, _, none⟩) NB114_109.out _).trans (((cell_far (p := ⟨gb109, _, none⟩) NB114_109.out _).trans (hHeld.2.1)))))), ((cell_far (p := ⟨gb109, _, none⟩) NB114_109.out _).trans (((cell_far (p := ⟨gb109, _, none⟩) NB114_109.out _).trans (((cell_far (p := ⟨gb109, _, none⟩) NB114_109.out _).trans (hHeld.2.2))))))⟩ (fun hHeld => ?_)
            clear hK K
            refine pure_ (i := 3) (N := some 6) (v := ?_) (a' := ?_) #[true, true, true, true] rfl rfl (by kernel_rfl) (fun _ _ _ h => h) (Or.inl ⟨by rfl, ?_⟩) ?_ ?_
            rotate_left
            · intro w'
              go_simp
              with_reducible rfl
            rotate_left
            · simp only [Act.put, List.setIfInBounds_toArray, List.set_cons_zero, List.set_cons_succ, i64_w, i32_w]
              rfl
            refine done_ (by kernel_rfl) ?_
            try go_wp2
            refine bodyPost_ret (results_list (rs := [.tmp 4, .cell 5 23, .tmp 6]) rfl (by simp) (.tmp (.cell gb109 23 #[.int .i64 t110, .int .i64 t111, .int .i64 t112] (0, 0) _ rfl (by (with_reducible repeat (first | refine blk_drewN ?_ _ | refine blk_drew ?_ | refine blk_alloc ?_ _)); refine blk_put (cs := #[.int .i64 t110, .int .i64 t111, .int .i64 0]) ?_ 2 _ rfl; (with_reducible repeat (first | refine blk_drewN ?_ _ | refine blk_drew ?_ | refine blk_alloc ?_ _)); refine blk_put (cs := #[.int .i64 t110, .int .i64 0, .int .i64 0]) ?_ 1 _ rfl; (with_reducible repeat (first | refine blk_drewN ?_ _ | refine blk_drew ?_ | refine blk_alloc ?_ _)); refine blk_put (cs := #[.int .i64 0, .int .i64 0, .int .i64 0]) ?_ 0 _ rfl; (with_reducible repeat (first | refine blk_drewN ?_ _ | refine blk_drew ?_ | refine blk_alloc ?_ _)); exact BK109.out) Try.underlying23 rfl (by kernel_rfl) (.tmp .nil)))) rfl ?_
            exact ⟨by first | rfl | (simp [errW_none, errW_some] <;> rfl) | (simp [*, errW_none, errW_some] <;> rfl), by repeat (first | (with_reducible first | exact HB.out | apply below_alloc | apply pw_below_drewN | apply below_drew1 | refine below_set ?_ GE109.out | refine below_set ?_ GE114.out | refine below_set ?_ GE119.out) | exact HB.out)⟩
        · rw [if_neg c21] at H
          have c21b0 : (t113 == 0) = false := beq_eq_false_iff_ne.mpr c21
          have c21b1 : (t113 != 0) = true := bne_iff_ne.mpr c21
          simp only [Option.some.injEq, Prod.mk.injEq] at H
          obtain ⟨rfl, rfl, rfl, rfl, rfl⟩ := H
          try go_wp2
          have n0_ := Aside0.mk (blk_drew BK109.out)
          have n1_ := Aside0.mk (blk_drew BK114.out)
          have n2_ := Aside0.mk (blk_drew BK119.out)
          have n3_ := Aside0.mk (below_drew1 HB.out)
          clear BK109
          clear BK114
          clear BK119
          clear HB
          have BK109 := n0_
          have BK114 := n1_
          have BK119 := n2_
          have HB := n3_
          clear n0_ n1_ n2_ n3_
          refine start_ (n := 4) (S := fun w' => w'.cell? ⟨gb119, 0, none⟩ = some (.int .i64 t115) ∧ w'.cell? ⟨gb119, 1, none⟩ = some (.int .i64 t116) ∧ w'.cell? ⟨gb119, 2, none⟩ = some (.int .i64 t117)) (ds := []) #[false, false, false, false] (by kernel_rfl) rfl rfl ⟨(blk_cell BK119.out 0).trans rfl, (blk_cell BK119.out 1).trans rfl, (blk_cell BK119.out 2).trans rfl⟩ (fun hHeld => ?_)
          generalize wc.drew = w46 at BK109 BK114 BK119 HB hHeld ⊢
          refine pure_ (i := 1) (N := some 4) (v := ?_) (a' := ?_) #[false, true, false, false] rfl rfl (by kernel_rfl) (fun _ _ _ h => h) (Or.inl ⟨by rfl, ?_⟩) ?_ ?_
          rotate_left
          · intro w'
            go_simp
            with_reducible rfl
          rotate_left
          · simp only [Act.put, List.setIfInBounds_toArray, List.set_cons_zero, List.set_cons_succ, i64_w, i32_w]
            rfl
          refine take_ (i := 0) (N := some 43) (v := ?_) (a' := ?_) #[true, true, false, false] rfl rfl (by kernel_rfl) (fun _ _ _ h => h) (Or.inl ⟨by rfl, ?_⟩) hHeld ?_ ?_
          rotate_left
          · rintro w' ⟨s0, s1, s2⟩
            go_simp
            with_reducible rfl
          rotate_left
          · simp only [Act.put, List.setIfInBounds_toArray, List.set_cons_zero, List.set_cons_succ, i64_w, i32_w]
            rfl
          refine one_ (i := 2) (N := none) #[true, true, true, false] rfl rfl (by kernel_rfl) (by decide) (fun K hK => ?_)
          have hs47 : w46.cell? ⟨gb109, 0, none⟩ = some (.int .i64 0) := (blk_cell BK109.out 0).trans rfl
          have hfs47 := blk_frozen BK109.out 0
          have hns47_1 := NB114_109.out
          have hns47_2 := NB119_109.out
          have hms47_1 := NB109_114.out
          have hms47_2 := NB109_119.out
          have hs48 : w46.cell? ⟨gb109, 1, none⟩ = some (.int .i64 0) := (blk_cell BK109.out 1).trans rfl
          have hfs48 := blk_frozen BK109.out 1
          have hns48_1 := NB114_109.out
          have hns48_2 := NB119_109.out
          have hms48_1 := NB109_114.out
          have hms48_2 := NB109_119.out
          have hs49 : w46.cell? ⟨gb109, 2, none⟩ = some (.int .i64 0) := (blk_cell BK109.out 2).trans rfl
          have hfs49 := blk_frozen BK109.out 2
          have hns49_1 := NB114_109.out
          have hns49_2 := NB119_109.out
          have hms49_1 := NB109_114.out
          have hms49_2 := NB109_119.out
          refine skip_ (w1 := ?_) (by rfl) rfl ?_ ?_
          rotate_left
          · go_simp
            rfl
          refine hK.out _ _ ⟨((cell_far (p := ⟨gb109, _, none⟩) NB119_109.out _).trans (((cell_far (p := ⟨gb109, _, none⟩) NB119_109.out _).trans (((cell_far (p := ⟨gb109, _, none⟩) NB119_109.out _).trans (hHeld.1)))))), ((cell_far (p := ⟨gb109, _, none⟩) NB119_109.out _).trans (((cell_far (p := ⟨gb109, _, none⟩) NB119_109.out _).trans (((cell_far (p := ⟨gb109, _, none⟩) NB119_109.out _).trans (hHeld.2.1)))))), ((cell_far (p := ⟨gb109, _, none⟩) NB119_109.out _).trans (((cell_far (p := ⟨gb109, _, none⟩) NB119_109.out _).trans (((cell_far (p := ⟨gb109, _, none⟩) NB119_109.out _).trans (hHeld.2.2))))))⟩ (fun hHeld => ?_)
          clear hK K
          refine pure_ (i := 3) (N := some 6) (v := ?_) (a' := ?_) #[true, true, true, true] rfl rfl (by kernel_rfl) (fun _ _ _ h => h) (Or.inl ⟨by rfl, ?_⟩) ?_ ?_
          rotate_left
          · intro w'
            go_simp
            with_reducible rfl
          rotate_left
          · simp only [Act.put, List.setIfInBounds_toArray, List.set_cons_zero, List.set_cons_succ, i64_w, i32_w]
            rfl
          refine done_ (by kernel_rfl) ?_
          try go_wp2
          refine bodyPost_ret (results_list (rs := [.tmp 4, .cell 5 23, .tmp 6]) rfl (by simp) (.tmp (.cell gb109 23 #[.int .i64 t115, .int .i64 t116, .int .i64 t117] (0, 0) _ rfl (by (with_reducible repeat (first | refine blk_drewN ?_ _ | refine blk_drew ?_ | refine blk_alloc ?_ _)); refine blk_put (cs := #[.int .i64 t115, .int .i64 t116, .int .i64 0]) ?_ 2 _ rfl; (with_reducible repeat (first | refine blk_drewN ?_ _ | refine blk_drew ?_ | refine blk_alloc ?_ _)); refine blk_put (cs := #[.int .i64 t115, .int .i64 0, .int .i64 0]) ?_ 1 _ rfl; (with_reducible repeat (first | refine blk_drewN ?_ _ | refine blk_drew ?_ | refine blk_alloc ?_ _)); refine blk_put (cs := #[.int .i64 0, .int .i64 0, .int .i64 0]) ?_ 0 _ rfl; (with_reducible repeat (first | refine blk_drewN ?_ _ | refine blk_drew ?_ | refine blk_alloc ?_ _)); exact BK109.out) Try.underlying23 rfl (by kernel_rfl) (.tmp .nil)))) rfl ?_
          exact ⟨by first | rfl | (simp [errW_none, errW_some] <;> rfl) | (simp [*, errW_none, errW_some] <;> rfl), by repeat (first | (with_reducible first | exact HB.out | apply below_alloc | apply pw_below_drewN | apply below_drew1 | refine below_set ?_ GE109.out | refine below_set ?_ GE114.out | refine below_set ?_ GE119.out) | exact HB.out)⟩

end Go.Proofs.Ythjnkapkhphpeaa.P
