/- Texts of this claim's proof put together: F20, F25, Crc, PCrc, PSlot, F22, HShown3, F17, HOpenR, F19, F21, F23. -/
import Derived.Test.YthjnkapkhphpeaaBSlotTells0
section
-- Written by a program of this session (xprint.py, over the kit's print). Not trusted: Lean checks it.
namespace Go.Proofs.Ythjnkapkhphpeaa.P
open Go.RowKit Go.Proofs.YthjnkapkhphpeaaW.PrintWords Go.Proofs.YthjnkapkhphpeaaW.PrintLast Go.Proofs.YthjnkapkhphpeaaW.PrintMore
attribute [local go_sem] max2_int min2_int max_two min_two max_three min_three max_four min_four   -- for this text's walks alone
set_option linter.unusedVariables false
set_option linter.unusedSimpArgs false

/-! ### slot_Pick: function 20 -/
def slot_Pick.j0 : Nat → Int → Int → Bool → Int → Int → Int → Int → Int → Int → Option (Int × Int × Int × Int × Int)
  | 0, _, _, _, _, _, _, _, _, _ => none
  | k + 1, x8, x10, x21, x115000, x115001, x115002, x120000, x120001, x120002 => if x21 = true then (some (0, 0, 0, 0, 4)) else (if x8 = 0 then (if x10 = 0 then (if x120000 > x115000 then (some (1, x120000, x120001, x120002, 0)) else (some (0, x115000, x115001, x115002, 0))) else (some (0, x115000, x115001, x115002, 0))) else (some (1, x120000, x120001, x120002, 0)))
def slot_Pick.f (k : Nat) (a0 : ByteArray) (a1 : ByteArray) : Option (Int × Int × Int × Int × Int) := (slot_Parse.f a0).bind fun bt110 => ((slot_Parse.f a1).bind fun bt115 => (if bt110.2.2.2 = 0 then (slot_Pick.j0 k bt110.2.2.2 bt115.2.2.2 false bt110.1 bt110.2.1 bt110.2.2.1 bt115.1 bt115.2.1 bt115.2.2.1) else (slot_Pick.j0 k bt110.2.2.2 bt115.2.2.2 (bt115.2.2.2 != 0) bt110.1 bt110.2.1 bt110.2.2.1 bt115.1 bt115.2.1 bt115.2.2.1)))
theorem slot_Pick.mono_l : ∀ k, (∀ y0 y1 y2 y3 y4 y5 y6 y7 y8, LeO (slot_Pick.j0 k y0 y1 y2 y3 y4 y5 y6 y7 y8) (slot_Pick.j0 (k + 1) y0 y1 y2 y3 y4 y5 y6 y7 y8))
  | 0 => fun _ _ _ _ _ _ _ _ _ r h => by simp [slot_Pick.j0] at h
  | k + 1 => by
    have ih0 := slot_Pick.mono_l k
    · intro y0 y1 y2 y3 y4 y5 y6 y7 y8
      unfold slot_Pick.j0
      repeat' first
      | (with_reducible exact ih0 _ _ _ _ _ _ _ _ _)
      | (with_reducible exact LeO.refl _)
      | (with_reducible exact LeO.none _)
      | (with_reducible refine LeO.ite ?_ ?_)
      | (with_reducible refine LeO.bind ?_ (fun _ => ?_))
      | exact ih0 _ _ _ _ _ _ _ _ _
      | exact LeO.none _
      | refine LeO.ite ?_ ?_
      | refine LeO.bind ?_ (fun _ => ?_)
theorem slot_Pick.mono : ∀ a0 a1 k, LeO (slot_Pick.f k a0 a1) (slot_Pick.f (k + 1) a0 a1) := by
  intro a0 a1 k
  have ih0 := slot_Pick.mono_l k
  unfold slot_Pick.f
  repeat' first
      | (with_reducible exact ih0 _ _ _ _ _ _ _ _ _)
      | (with_reducible exact LeO.refl _)
      | (with_reducible exact LeO.none _)
      | (with_reducible refine LeO.ite ?_ ?_)
      | (with_reducible refine LeO.bind ?_ (fun _ => ?_))
      | exact ih0 _ _ _ _ _ _ _ _ _
      | exact LeO.none _
      | refine LeO.ite ?_ ?_
      | refine LeO.bind ?_ (fun _ => ?_)
set_option maxHeartbeats 8000000 in
set_option maxRecDepth 100000 in
theorem slot_Pick.calls (k : Nat) (a0 : ByteArray) (a1 : ByteArray) (r1 : Int) (r2 : Int) (r3 : Int) (r4 : Int) (r5 : Int) (w : World) (h : slot_Pick.f k a0 a1 = some (r1, r2, r3, r4, r5)) :
    Calls Try.prog 20 #[.string a0, .string a1] w fun e w' => e = .returned (.tuple #[.int .i64 r1, .agg #[.int .i64 r2, .int .i64 r3, .int .i64 r4], .int .i64 r5]) ∧ Below w.heap.size w w' := by
  have hu23 := Try.underlying23
  have HB := Aside0.mk (Below.refl w.heap.size w)
  have H : ((slot_Parse.f a0).bind fun bt110 => ((slot_Parse.f a1).bind fun bt115 => (if bt110.2.2.2 = 0 then (slot_Pick.j0 k bt110.2.2.2 bt115.2.2.2 false bt110.1 bt110.2.1 bt110.2.2.1 bt115.1 bt115.2.1 bt115.2.2.1) else (slot_Pick.j0 k bt110.2.2.2 bt115.2.2.2 (bt115.2.2.2 != 0) bt110.1 bt110.2.1 bt110.2.2.1 bt115.1 bt115.2.1 bt115.2.2.1)))) = some (r1, r2, r3, r4, r5) := h
  clear h
  replace H := Option.bind_eq_some_iff.mp H
  obtain ⟨⟨t110, t111, t112, t113⟩, A30, H⟩ := H
  replace H : ((slot_Parse.f a1).bind fun bt115 => (if t113 = 0 then (slot_Pick.j0 k t113 bt115.2.2.2 false t110 t111 t112 bt115.1 bt115.2.1 bt115.2.2.1) else (slot_Pick.j0 k t113 bt115.2.2.2 (bt115.2.2.2 != 0) t110 t111 t112 bt115.1 bt115.2.1 bt115.2.2.1))) = some (r1, r2, r3, r4, r5) := H
  have A3 := Aside0.mk A30
  clear A30
  replace H := Option.bind_eq_some_iff.mp H
  obtain ⟨⟨t115, t116, t117, t118⟩, A40, H⟩ := H
  replace H : (if t113 = 0 then (slot_Pick.j0 k t113 t118 false t110 t111 t112 t115 t116 t117) else (slot_Pick.j0 k t113 t118 (t118 != 0) t110 t111 t112 t115 t116 t117)) = some (r1, r2, r3, r4, r5) := H
  have A4 := Aside0.mk A40
  clear A40
  have HC5 := Aside0.mk H
  clear H
  go_enter Try.func20, Try.ntmps20
  go_upto_region 3 with (first | ((with_reducible refine gate_dst (N := 5) rfl ?_); refine box_event ?hg (N := 5) ?hd (cs := #[.int .i64 0, .int .i64 0, .int .i64 0]) (t := 23) ?hr ?_; (case hd => rfl); (case hg => rfl); (case hr => first | (go_simp; done) | (go_simp; rfl)); intro gb109 hg w6 hbox hb; have n0_ := Aside0.mk (below_step (by repeat (first | (with_reducible first | exact HB.out | apply below_alloc | apply pw_below_drewN | apply below_drew1) | exact HB.out)) hb); have n1_ := Aside0.mk (hbox); have n2_ := Aside0.mk ((by rw [hg]; exact (below_size (by repeat (first | (with_reducible first | exact HB.out | apply below_alloc | apply pw_below_drewN | apply below_drew1) | exact HB.out))) : w.heap.size ≤ gb109)); have n3_ := Aside0.mk ((by rw [hg]; exact (below_size (by repeat (first | (with_reducible first | exact HB.out | apply below_alloc | apply pw_below_drewN | apply below_drew1) | exact HB.out))) : w.heap.size ≤ gb109)); clear HB; have HB := n0_; have BK109 := n1_; have GW109 := n2_; have GE109 := n3_; clear n0_ n1_ n2_ n3_; clear hb hbox hg) | ((with_reducible refine gate_callee (f := 18) rfl ?_); refine goesL_ (some 13) rfl rfl Try.func18 (by kernel_rfl) rfl #[.string a0] rfl (by (try simp only [List.map_toArray, List.map_cons, List.map_nil]); first | done | rfl | (simp only [List.length_drop, List.length_take]; rfl)) ?_; (with_reducible refine (slot_Parse.calls a0 t110 t111 t112 t113 _ A3.out).mono ?_); rintro e w7 ⟨rfl, hb⟩; refine ⟨_, rfl, ?_⟩; have n0_ := Aside0.mk (blk_below (g := gb109) (o := .cells #[.int .i64 0, .int .i64 0, .int .i64 0] 23 (0, 0)) (by (with_reducible repeat (first | refine blk_drewN ?_ _ | refine blk_drew ?_ | refine blk_alloc ?_ _)); exact BK109.out) hb); have n1_ := Aside0.mk (below_step (by repeat (first | (with_reducible first | exact HB.out | apply below_alloc | apply pw_below_drewN | apply below_drew1 | refine below_set ?_ GE109.out) | exact HB.out)) hb); clear BK109; clear HB; have BK109 := n0_; have HB := n1_; clear n0_ n1_; (try clear hb); (try clear hb2); (try clear hk); (try clear hi)) | ((with_reducible refine gate_dst (N := 7) rfl ?_); refine box_event ?hg (N := 7) ?hd (cs := #[.int .i64 0, .int .i64 0, .int .i64 0]) (t := 23) ?hr ?_; (case hd => rfl); (case hg => rfl); (case hr => first | (go_simp; done) | (go_simp; rfl)); intro gb114 hg w8 hbox hb; have n0_ := Aside0.mk (blk_below (g := gb109) (o := .cells #[.int .i64 0, .int .i64 0, .int .i64 0] 23 (0, 0)) (by (with_reducible repeat (first | refine blk_drewN ?_ _ | refine blk_drew ?_ | refine blk_alloc ?_ _)); exact BK109.out) hb); have n1_ := Aside0.mk (below_step (by repeat (first | (with_reducible first | exact HB.out | apply below_alloc | apply pw_below_drewN | apply below_drew1 | refine below_set ?_ GE109.out) | exact HB.out)) hb); have n2_ := Aside0.mk (hbox); have n3_ := Aside0.mk ((by rw [hg]; exact (below_size (by repeat (first | (with_reducible first | exact HB.out | apply below_alloc | apply pw_below_drewN | apply below_drew1 | refine below_set ?_ GE109.out) | exact HB.out))) : w.heap.size ≤ gb114)); have n4_ := Aside0.mk ((by rw [hg]; exact (below_size (by repeat (first | (with_reducible first | exact HB.out | apply below_alloc | apply pw_below_drewN | apply below_drew1 | refine below_set ?_ GE109.out) | exact HB.out))) : w.heap.size ≤ gb114)); have n5_ := Aside0.mk ((by rw [hg]; exact Nat.ne_of_lt (blk_lt (g := gb109) (o := .cells #[.int .i64 0, .int .i64 0, .int .i64 0] 23 (0, 0)) (by (with_reducible repeat (first | refine blk_drewN ?_ _ | refine blk_drew ?_ | refine blk_alloc ?_ _)); exact BK109.out)) : gb109 ≠ gb114)); have n6_ := Aside0.mk ((by rw [hg]; exact Nat.ne_of_gt (blk_lt (g := gb109) (o := .cells #[.int .i64 0, .int .i64 0, .int .i64 0] 23 (0, 0)) (by (with_reducible repeat (first | refine blk_drewN ?_ _ | refine blk_drew ?_ | refine blk_alloc ?_ _)); exact BK109.out)) : gb114 ≠ gb109)); clear BK109; clear HB; have BK109 := n0_; have HB := n1_; have BK114 := n2_; have GW114 := n3_; have GE114 := n4_; have NB109_114 := n5_; have NB114_109 := n6_; clear n0_ n1_ n2_ n3_ n4_ n5_ n6_; clear hb hbox hg; have hnb9 := NB114_109.out; have hnc9 := NB109_114.out; have hcz10_0 : w8.cell? ⟨gb114, 0, none⟩ = some (.int .i64 0) := (blk_cell BK114.out 0).trans rfl; have hcz10_1 : w8.cell? ⟨gb114, 1, none⟩ = some (.int .i64 0) := (blk_cell BK114.out 1).trans rfl; have hcz10_2 : w8.cell? ⟨gb114, 2, none⟩ = some (.int .i64 0) := (blk_cell BK114.out 2).trans rfl; have hfz10_0 := blk_frozen BK114.out 0; have hfz10_1 := blk_frozen BK114.out 1; have hfz10_2 := blk_frozen BK114.out 2) | ((with_reducible refine gate_callee (f := 18) rfl ?_); refine goesL_ (some 18) rfl rfl Try.func18 (by kernel_rfl) rfl #[.string a1] rfl (by (try simp only [List.map_toArray, List.map_cons, List.map_nil]); first | done | rfl | (simp only [List.length_drop, List.length_take]; rfl)) ?_; (with_reducible refine (slot_Parse.calls a1 t115 t116 t117 t118 _ A4.out).mono ?_); rintro e w11 ⟨rfl, hb⟩; refine ⟨_, rfl, ?_⟩; have n0_ := Aside0.mk (blk_below (g := gb109) (o := .cells #[.int .i64 0, .int .i64 0, .int .i64 0] 23 (0, 0)) (by (with_reducible repeat (first | refine blk_drewN ?_ _ | refine blk_drew ?_ | refine blk_alloc ?_ _)); refine blk_far ?_ NB109_114.out _; (with_reducible repeat (first | refine blk_drewN ?_ _ | refine blk_drew ?_ | refine blk_alloc ?_ _)); refine blk_far ?_ NB109_114.out _; (with_reducible repeat (first | refine blk_drewN ?_ _ | refine blk_drew ?_ | refine blk_alloc ?_ _)); refine blk_far ?_ NB109_114.out _; (with_reducible repeat (first | refine blk_drewN ?_ _ | refine blk_drew ?_ | refine blk_alloc ?_ _)); exact BK109.out) hb); have n1_ := Aside0.mk (blk_below (g := gb114) (o := .cells #[.int .i64 t110, .int .i64 t111, .int .i64 t112] 23 (0, 0)) (by (with_reducible repeat (first | refine blk_drewN ?_ _ | refine blk_drew ?_ | refine blk_alloc ?_ _)); refine blk_put (cs := #[.int .i64 t110, .int .i64 t111, .int .i64 0]) ?_ 2 _ rfl; (with_reducible repeat (first | refine blk_drewN ?_ _ | refine blk_drew ?_ | refine blk_alloc ?_ _)); refine blk_put (cs := #[.int .i64 t110, .int .i64 0, .int .i64 0]) ?_ 1 _ rfl; (with_reducible repeat (first | refine blk_drewN ?_ _ | refine blk_drew ?_ | refine blk_alloc ?_ _)); refine blk_put (cs := #[.int .i64 0, .int .i64 0, .int .i64 0]) ?_ 0 _ rfl; (with_reducible repeat (first | refine blk_drewN ?_ _ | refine blk_drew ?_ | refine blk_alloc ?_ _)); exact BK114.out) hb); have n2_ := Aside0.mk (below_step (by repeat (first | (with_reducible first | exact HB.out | apply below_alloc | apply pw_below_drewN | apply below_drew1 | refine below_set ?_ GE109.out | refine below_set ?_ GE114.out) | exact HB.out)) hb); clear BK109; clear BK114; clear HB; have BK109 := n0_; have BK114 := n1_; have HB := n2_; clear n0_ n1_ n2_; (try clear hb); (try clear hb2); (try clear hk); (try clear hi)) | ((with_reducible refine gate_dst (N := 9) rfl ?_); refine box_event ?hg (N := 9) ?hd (cs := #[.int .i64 0, .int .i64 0, .int .i64 0]) (t := 23) ?hr ?_; (case hd => rfl); (case hg => rfl); (case hr => first | (go_simp; done) | (go_simp; rfl)); intro gb119 hg w12 hbox hb; have n0_ := Aside0.mk (blk_below (g := gb109) (o := .cells #[.int .i64 0, .int .i64 0, .int .i64 0] 23 (0, 0)) (by (with_reducible repeat (first | refine blk_drewN ?_ _ | refine blk_drew ?_ | refine blk_alloc ?_ _)); exact BK109.out) hb); have n1_ := Aside0.mk (blk_below (g := gb114) (o := .cells #[.int .i64 t110, .int .i64 t111, .int .i64 t112] 23 (0, 0)) (by (with_reducible repeat (first | refine blk_drewN ?_ _ | refine blk_drew ?_ | refine blk_alloc ?_ _)); exact BK114.out) hb); have n2_ := Aside0.mk (below_step (by repeat (first | (with_reducible first | exact HB.out | apply below_alloc | apply pw_below_drewN | apply below_drew1 | refine below_set ?_ GE109.out | refine below_set ?_ GE114.out) | exact HB.out)) hb); have n3_ := Aside0.mk (hbox); have n4_ := Aside0.mk ((by rw [hg]; exact (below_size (by repeat (first | (with_reducible first | exact HB.out | apply below_alloc | apply pw_below_drewN | apply below_drew1 | refine below_set ?_ GE109.out | refine below_set ?_ GE114.out) | exact HB.out))) : w.heap.size ≤ gb119)); have n5_ := Aside0.mk ((by rw [hg]; exact (below_size (by repeat (first | (with_reducible first | exact HB.out | apply below_alloc | apply pw_below_drewN | apply below_drew1 | refine below_set ?_ GE109.out | refine below_set ?_ GE114.out) | exact HB.out))) : w.heap.size ≤ gb119)); have n6_ := Aside0.mk ((by rw [hg]; exact Nat.ne_of_lt (blk_lt (g := gb109) (o := .cells #[.int .i64 0, .int .i64 0, .int .i64 0] 23 (0, 0)) (by (with_reducible repeat (first | refine blk_drewN ?_ _ | refine blk_drew ?_ | refine blk_alloc ?_ _)); exact BK109.out)) : gb109 ≠ gb119)); have n7_ := Aside0.mk ((by rw [hg]; exact Nat.ne_of_gt (blk_lt (g := gb109) (o := .cells #[.int .i64 0, .int .i64 0, .int .i64 0] 23 (0, 0)) (by (with_reducible repeat (first | refine blk_drewN ?_ _ | refine blk_drew ?_ | refine blk_alloc ?_ _)); exact BK109.out)) : gb119 ≠ gb109)); have n8_ := Aside0.mk ((by rw [hg]; exact Nat.ne_of_lt (blk_lt (g := gb114) (o := .cells #[.int .i64 t110, .int .i64 t111, .int .i64 t112] 23 (0, 0)) (by (with_reducible repeat (first | refine blk_drewN ?_ _ | refine blk_drew ?_ | refine blk_alloc ?_ _)); exact BK114.out)) : gb114 ≠ gb119)); have n9_ := Aside0.mk ((by rw [hg]; exact Nat.ne_of_gt (blk_lt (g := gb114) (o := .cells #[.int .i64 t110, .int .i64 t111, .int .i64 t112] 23 (0, 0)) (by (with_reducible repeat (first | refine blk_drewN ?_ _ | refine blk_drew ?_ | refine blk_alloc ?_ _)); exact BK114.out)) : gb119 ≠ gb114)); clear BK109; clear BK114; clear HB; have BK109 := n0_; have BK114 := n1_; have HB := n2_; have BK119 := n3_; have GW119 := n4_; have GE119 := n5_; have NB109_119 := n6_; have NB119_109 := n7_; have NB114_119 := n8_; have NB119_114 := n9_; clear n0_ n1_ n2_ n3_ n4_ n5_ n6_ n7_ n8_ n9_; clear hb hbox hg; have hnb13 := NB119_109.out; have hnc13 := NB109_119.out; have hnb14 := NB119_114.out; have hnc14 := NB114_119.out; have hcz15_0 : w12.cell? ⟨gb119, 0, none⟩ = some (.int .i64 0) := (blk_cell BK119.out 0).trans rfl; have hcz15_1 : w12.cell? ⟨gb119, 1, none⟩ = some (.int .i64 0) := (blk_cell BK119.out 1).trans rfl; have hcz15_2 : w12.cell? ⟨gb119, 2, none⟩ = some (.int .i64 0) := (blk_cell BK119.out 2).trans rfl; have hfz15_0 := blk_frozen BK119.out 0; have hfz15_1 := blk_frozen BK119.out 1; have hfz15_2 := blk_frozen BK119.out 2))
  (try simp only [Act.put, List.setIfInBounds_toArray, List.set_cons_zero, List.set_cons_succ])
  go_cut [21] (fun v21 wc => ∃ (kq : Nat) (x21_4 : Bool), v21 = .bool x21_4 ∧ Aside0 (slot_Pick.j0 kq t113 t118 x21_4 t110 t111 t112 t115 t116 t117 = some (r1, r2, r3, r4, r5)) ∧ Aside0 (kq ≤ k) ∧ Aside0 (wc.heap[gb109]? = some (.cells #[.int .i64 0, .int .i64 0, .int .i64 0] 23 (0, 0))) ∧ Aside0 (wc.heap[gb114]? = some (.cells #[.int .i64 t110, .int .i64 t111, .int .i64 t112] 23 (0, 0))) ∧ Aside0 (wc.heap[gb119]? = some (.cells #[.int .i64 t115, .int .i64 t116, .int .i64 t117] 23 (0, 0))) ∧ Aside0 (Below w.heap.size w wc))
  case first =>
    have H := HC5.out
    clear HC5
    by_cases c16 : t113 = 0
    · rw [if_pos c16] at H
      have c16b0 : (t113 == 0) = true := beq_iff_eq.mpr c16
      have c16b1 : (t113 != 0) = false := bne_eq_false_iff_eq.mpr c16
      clear c16
      (first | rw [c16b0] | (simp only [i64_w, i32_w]; rw [c16b0]) | skip)
      have H' := Aside0.mk H
      clear H
      go_wp2
      go_meet
      case rel => exact ⟨_, (false), (by first | rfl | (simp; done) | (simp [*]; done)), H', ⟨by first | omega | exact Nat.le_refl _⟩, ⟨by (with_reducible repeat (first | refine blk_drewN ?_ _ | refine blk_drew ?_ | refine blk_alloc ?_ _)); refine blk_far ?_ NB109_119.out _; (with_reducible repeat (first | refine blk_drewN ?_ _ | refine blk_drew ?_ | refine blk_alloc ?_ _)); refine blk_far ?_ NB109_119.out _; (with_reducible repeat (first | refine blk_drewN ?_ _ | refine blk_drew ?_ | refine blk_alloc ?_ _)); refine blk_far ?_ NB109_119.out _; (with_reducible repeat (first | refine blk_drewN ?_ _ | refine blk_drew ?_ | refine blk_alloc ?_ _)); exact BK109.out⟩, ⟨by (with_reducible repeat (first | refine blk_drewN ?_ _ | refine blk_drew ?_ | refine blk_alloc ?_ _)); refine blk_far ?_ NB114_119.out _; (with_reducible repeat (first | refine blk_drewN ?_ _ | refine blk_drew ?_ | refine blk_alloc ?_ _)); refine blk_far ?_ NB114_119.out _; (with_reducible repeat (first | refine blk_drewN ?_ _ | refine blk_drew ?_ | refine blk_alloc ?_ _)); refine blk_far ?_ NB114_119.out _; (with_reducible repeat (first | refine blk_drewN ?_ _ | refine blk_drew ?_ | refine blk_alloc ?_ _)); exact BK114.out⟩, ⟨by (with_reducible repeat (first | refine blk_drewN ?_ _ | refine blk_drew ?_ | refine blk_alloc ?_ _)); refine blk_put (cs := #[.int .i64 t115, .int .i64 t116, .int .i64 0]) ?_ 2 _ rfl; (with_reducible repeat (first | refine blk_drewN ?_ _ | refine blk_drew ?_ | refine blk_alloc ?_ _)); refine blk_put (cs := #[.int .i64 t115, .int .i64 0, .int .i64 0]) ?_ 1 _ rfl; (with_reducible repeat (first | refine blk_drewN ?_ _ | refine blk_drew ?_ | refine blk_alloc ?_ _)); refine blk_put (cs := #[.int .i64 0, .int .i64 0, .int .i64 0]) ?_ 0 _ rfl; (with_reducible repeat (first | refine blk_drewN ?_ _ | refine blk_drew ?_ | refine blk_alloc ?_ _)); exact BK119.out⟩, ⟨by repeat (first | (with_reducible first | exact HB.out | apply below_alloc | apply pw_below_drewN | apply below_drew1 | refine below_set ?_ GE109.out | refine below_set ?_ GE114.out | refine below_set ?_ GE119.out) | exact HB.out)⟩⟩
    · rw [if_neg c16] at H
      have c16b0 : (t113 == 0) = false := beq_eq_false_iff_ne.mpr c16
      have c16b1 : (t113 != 0) = true := bne_iff_ne.mpr c16
      (first | rw [c16b0] | (simp only [i64_w, i32_w]; rw [c16b0]) | skip)
      have H' := Aside0.mk H
      clear H
      go_wp2
      go_meet
      case rel => exact ⟨_, ((t118 != 0)), (by first | rfl | (simp; done) | (simp [*]; done)), H', ⟨by first | omega | exact Nat.le_refl _⟩, ⟨by (with_reducible repeat (first | refine blk_drewN ?_ _ | refine blk_drew ?_ | refine blk_alloc ?_ _)); refine blk_far ?_ NB109_119.out _; (with_reducible repeat (first | refine blk_drewN ?_ _ | refine blk_drew ?_ | refine blk_alloc ?_ _)); refine blk_far ?_ NB109_119.out _; (with_reducible repeat (first | refine blk_drewN ?_ _ | refine blk_drew ?_ | refine blk_alloc ?_ _)); refine blk_far ?_ NB109_119.out _; (with_reducible repeat (first | refine blk_drewN ?_ _ | refine blk_drew ?_ | refine blk_alloc ?_ _)); exact BK109.out⟩, ⟨by (with_reducible repeat (first | refine blk_drewN ?_ _ | refine blk_drew ?_ | refine blk_alloc ?_ _)); refine blk_far ?_ NB114_119.out _; (with_reducible repeat (first | refine blk_drewN ?_ _ | refine blk_drew ?_ | refine blk_alloc ?_ _)); refine blk_far ?_ NB114_119.out _; (with_reducible repeat (first | refine blk_drewN ?_ _ | refine blk_drew ?_ | refine blk_alloc ?_ _)); refine blk_far ?_ NB114_119.out _; (with_reducible repeat (first | refine blk_drewN ?_ _ | refine blk_drew ?_ | refine blk_alloc ?_ _)); exact BK114.out⟩, ⟨by (with_reducible repeat (first | refine blk_drewN ?_ _ | refine blk_drew ?_ | refine blk_alloc ?_ _)); refine blk_put (cs := #[.int .i64 t115, .int .i64 t116, .int .i64 0]) ?_ 2 _ rfl; (with_reducible repeat (first | refine blk_drewN ?_ _ | refine blk_drew ?_ | refine blk_alloc ?_ _)); refine blk_put (cs := #[.int .i64 t115, .int .i64 0, .int .i64 0]) ?_ 1 _ rfl; (with_reducible repeat (first | refine blk_drewN ?_ _ | refine blk_drew ?_ | refine blk_alloc ?_ _)); refine blk_put (cs := #[.int .i64 0, .int .i64 0, .int .i64 0]) ?_ 0 _ rfl; (with_reducible repeat (first | refine blk_drewN ?_ _ | refine blk_drew ?_ | refine blk_alloc ?_ _)); exact BK119.out⟩, ⟨by repeat (first | (with_reducible first | exact HB.out | apply below_alloc | apply pw_below_drewN | apply below_drew1 | refine below_set ?_ GE109.out | refine below_set ?_ GE114.out | refine below_set ?_ GE119.out) | exact HB.out)⟩⟩
  case rest =>
    clear HC5
    try clear c1
    try clear c2
    try clear p2
    try clear c9
    try clear c13
    try clear c14
    try clear c16
    try clear c16b0
    try clear c16b1
    try clear hcz10_0
    try clear hcz10_1
    try clear hcz10_2
    try clear hcz15_0
    try clear hcz15_1
    try clear hcz15_2
    try clear hfz10_0
    try clear hfz10_1
    try clear hfz10_2
    try clear hfz15_0
    try clear hfz15_1
    try clear hfz15_2
    obtain ⟨kq, x21_4, rfl, HA, HJ4, BK109, BK114, BK119, HB⟩ := hcut
    cases kq with
    | zero => exact absurd HA.out (by simp [slot_Pick.j0])
    | succ kj4 =>
      have H := HA.out
      clear HA
      simp only [slot_Pick.j0] at H
      by_cases c17 : x21_4 = true
      · subst c17
        have H1 : (some (0, 0, 0, 0, 4)) = some (r1, r2, r3, r4, r5) := by rw [if_pos rfl] at H; exact H
        clear H
        have H := H1
        clear H1
        simp only [Option.some.injEq, Prod.mk.injEq] at H
        obtain ⟨rfl, rfl, rfl, rfl, rfl⟩ := H
        have hnb18 := NB109_114.out
        have hnc18 := NB114_109.out
        have hnb19 := NB109_119.out
        have hnc19 := NB119_109.out
        have hcz20_0 : wc.cell? ⟨gb109, 0, none⟩ = some (.int .i64 0) := (blk_cell BK109.out 0).trans rfl
        have hcz20_1 : wc.cell? ⟨gb109, 1, none⟩ = some (.int .i64 0) := (blk_cell BK109.out 1).trans rfl
        have hcz20_2 : wc.cell? ⟨gb109, 2, none⟩ = some (.int .i64 0) := (blk_cell BK109.out 2).trans rfl
        have hfz20_0 := blk_frozen BK109.out 0
        have hfz20_1 := blk_frozen BK109.out 1
        have hfz20_2 := blk_frozen BK109.out 2
        go_wp2
        refine bodyPost_ret (results_list (rs := [.tmp 4, .cell 5 23, .tmp 6]) rfl (by simp) (.tmp (.cell gb109 23 #[.int .i64 0, .int .i64 0, .int .i64 0] (0, 0) _ rfl (by (with_reducible repeat (first | refine blk_drewN ?_ _ | refine blk_drew ?_ | refine blk_alloc ?_ _)); refine blk_put (cs := #[.int .i64 0, .int .i64 0, .int .i64 0]) ?_ 2 _ rfl; (with_reducible repeat (first | refine blk_drewN ?_ _ | refine blk_drew ?_ | refine blk_alloc ?_ _)); refine blk_put (cs := #[.int .i64 0, .int .i64 0, .int .i64 0]) ?_ 1 _ rfl; (with_reducible repeat (first | refine blk_drewN ?_ _ | refine blk_drew ?_ | refine blk_alloc ?_ _)); refine blk_put (cs := #[.int .i64 0, .int .i64 0, .int .i64 0]) ?_ 0 _ rfl; (with_reducible repeat (first | refine blk_drewN ?_ _ | refine blk_drew ?_ | refine blk_alloc ?_ _)); exact BK109.out) Try.underlying23 rfl (by kernel_rfl) (.tmp .nil)))) rfl ?_
        exact ⟨by first | rfl | (simp [errW_none, errW_some] <;> rfl) | (simp [*, errW_none, errW_some] <;> rfl), by repeat (first | (with_reducible first | exact HB.out | apply below_alloc | apply pw_below_drewN | apply below_drew1 | refine below_set ?_ GE109.out | refine below_set ?_ GE114.out | refine below_set ?_ GE119.out) | exact HB.out)⟩
      · replace c17 := Bool.eq_false_iff.mpr c17
        subst c17
        have H1 : (if t113 = 0 then (if t118 = 0 then (if t115 > t110 then (some (1, t115, t116, t117, 0)) else (some (0, t110, t111, t112, 0))) else (some (0, t110, t111, t112, 0))) else (some (1, t115, t116, t117, 0))) = some (r1, r2, r3, r4, r5) := by rw [if_neg (show ¬ (false = true) by decide)] at H; exact H
        clear H
        have H := H1
        clear H1
        by_cases c21 : t113 = 0
        · rw [if_pos c21] at H
          have c21b0 : (t113 == 0) = true := beq_iff_eq.mpr c21
          have c21b1 : (t113 != 0) = false := bne_eq_false_iff_eq.mpr c21
          clear c21
          by_cases c22 : t118 = 0
          · rw [if_pos c22] at H
            have c22b0 : (t118 == 0) = true := beq_iff_eq.mpr c22
            have c22b1 : (t118 != 0) = false := bne_eq_false_iff_eq.mpr c22
            clear c22
            by_cases c23 : t115 > t110
            · rw [if_pos c23] at H
              have c23b0 : decide (t110 < t115) = true := decide_eq_true c23
              clear c23
              simp only [Option.some.injEq, Prod.mk.injEq] at H
              obtain ⟨rfl, rfl, rfl, rfl, rfl⟩ := H
              have hnb24 := NB119_109.out
              have hnc24 := NB109_119.out
              have hnb25 := NB119_114.out
              have hnc25 := NB114_119.out
              have hcz26_0 : wc.cell? ⟨gb119, 0, none⟩ = some (.int .i64 t115) := (blk_cell BK119.out 0).trans rfl
              have hcz26_1 : wc.cell? ⟨gb119, 1, none⟩ = some (.int .i64 t116) := (blk_cell BK119.out 1).trans rfl
              have hcz26_2 : wc.cell? ⟨gb119, 2, none⟩ = some (.int .i64 t117) := (blk_cell BK119.out 2).trans rfl
              have hfz26_0 := blk_frozen BK119.out 0
              have hfz26_1 := blk_frozen BK119.out 1
              have hfz26_2 := blk_frozen BK119.out 2
              have hnb27 := NB114_109.out
              have hnc27 := NB109_114.out
              have hcz28_0 : wc.cell? ⟨gb114, 0, none⟩ = some (.int .i64 t110) := (blk_cell BK114.out 0).trans rfl
              have hcz28_1 : wc.cell? ⟨gb114, 1, none⟩ = some (.int .i64 t111) := (blk_cell BK114.out 1).trans rfl
              have hcz28_2 : wc.cell? ⟨gb114, 2, none⟩ = some (.int .i64 t112) := (blk_cell BK114.out 2).trans rfl
              have hfz28_0 := blk_frozen BK114.out 0
              have hfz28_1 := blk_frozen BK114.out 1
              have hfz28_2 := blk_frozen BK114.out 2
              try go_wp2
              have n0_ := Aside0.mk (blk_drew BK109.out)
              have n1_ := Aside0.mk (blk_drew BK114.out)
              have n2_ := Aside0.mk (blk_drew BK119.out)
              have n3_ := Aside0.mk (below_drew1 HB.out)
              clear BK109
              clear BK114
              clear BK119
              clear HB
              have BK109 := n0_
              have BK114 := n1_
              have BK119 := n2_
              have HB := n3_
              clear n0_ n1_ n2_ n3_
              refine start_ (n := 4) (S := fun w' => w'.cell? ⟨gb119, 0, none⟩ = some (.int .i64 t115) ∧ w'.cell? ⟨gb119, 1, none⟩ = some (.int .i64 t116) ∧ w'.cell? ⟨gb119, 2, none⟩ = some (.int .i64 t117)) (ds := []) #[false, false, false, false] (by kernel_rfl) rfl rfl ⟨(blk_cell BK119.out 0).trans rfl, (blk_cell BK119.out 1).trans rfl, (blk_cell BK119.out 2).trans rfl⟩ (fun hHeld => ?_)
              generalize wc.drew = w29 at BK109 BK114 BK119 HB hHeld ⊢
              refine pure_ (i := 1) (N := some 4) (v := ?_) (a' := ?_) #[false, true, false, false] rfl rfl (by kernel_rfl) (fun _ _ _ h => h) (Or.inl ⟨by rfl, ?_⟩) ?_ ?_
              rotate_left
              · intro w'
                go_simp
                with_reducible rfl
              rotate_left
              · simp only [Act.put, List.setIfInBounds_toArray, List.set_cons_zero, List.set_cons_succ, i64_w, i32_w]
                rfl
              refine take_ (i := 0) (N := some 43) (v := ?_) (a' := ?_) #[true, true, false, false] rfl rfl (by kernel_rfl) (fun _ _ _ h => h) (Or.inl ⟨by rfl, ?_⟩) hHeld ?_ ?_
              rotate_left
              · rintro w' ⟨s0, s1, s2⟩
                go_simp
                with_reducible rfl
              rotate_left
              · simp only [Act.put, List.setIfInBounds_toArray, List.set_cons_zero, List.set_cons_succ, i64_w, i32_w]
                rfl
              refine one_ (i := 2) (N := none) #[true, true, true, false] rfl rfl (by kernel_rfl) (by decide) (fun K hK => ?_)
              have hs30 : w29.cell? ⟨gb109, 0, none⟩ = some (.int .i64 0) := (blk_cell BK109.out 0).trans rfl
              have hfs30 := blk_frozen BK109.out 0
              have hns30_1 := NB114_109.out
              have hns30_2 := NB119_109.out
              have hms30_1 := NB109_114.out
              have hms30_2 := NB109_119.out
              have hs31 : w29.cell? ⟨gb109, 1, none⟩ = some (.int .i64 0) := (blk_cell BK109.out 1).trans rfl
              have hfs31 := blk_frozen BK109.out 1
              have hns31_1 := NB114_109.out
              have hns31_2 := NB119_109.out
              have hms31_1 := NB109_114.out
              have hms31_2 := NB109_119.out
              have hs32 : w29.cell? ⟨gb109, 2, none⟩ = some (.int .i64 0) := (blk_cell BK109.out 2).trans rfl
              have hfs32 := blk_frozen BK109.out 2
              have hns32_1 := NB114_109.out
              have hns32_2 := NB119_109.out
              have hms32_1 := NB109_114.out
              have hms32_2 := NB109_119.out
              refine skip_ (w1 := ?_) (by rfl) rfl ?_ ?_
              rotate_left
              · go_simp
                rfl
              refine hK.out _ _ ⟨((cell_far (p := ⟨gb109, _, none⟩) NB119_109.out _).trans (((cell_far (p := ⟨gb109, _, none⟩) NB119_109.out _).trans (((cell_far (p := ⟨gb109, _, none⟩) NB119_109.out _).trans (hHeld.1)))))), ((cell_far (p := ⟨gb109, _, none⟩) NB119_109.out _).trans (((cell_far (p := ⟨gb109, _, none⟩) NB119_109.out _).trans (((cell_far (p := ⟨gb109, _, none⟩) NB119_109.out _).trans (hHeld.2.1)))))), ((cell_far (p := ⟨gb109, _, none⟩) NB119_109.out _).trans (((cell_far (p := ⟨gb109, _, none⟩) NB119_109.out _).trans (((cell_far (p := ⟨gb109, _, none⟩) NB119_109.out _).trans (hHeld.2.2))))))⟩ (fun hHeld => ?_)
              clear hK K
              refine pure_ (i := 3) (N := some 6) (v := ?_) (a' := ?_) #[true, true, true, true] rfl rfl (by kernel_rfl) (fun _ _ _ h => h) (Or.inl ⟨by rfl, ?_⟩) ?_ ?_
              rotate_left
              · intro w'
                go_simp
                with_reducible rfl
              rotate_left
              · simp only [Act.put, List.setIfInBounds_toArray, List.set_cons_zero, List.set_cons_succ, i64_w, i32_w]
                rfl
              refine done_ (by kernel_rfl) ?_
              try go_wp2
              refine bodyPost_ret (results_list (rs := [.tmp 4, .cell 5 23, .tmp 6]) rfl (by simp) (.tmp (.cell gb109 23 #[.int .i64 t115, .int .i64 t116, .int .i64 t117] (0, 0) _ rfl (by (with_reducible repeat (first | refine blk_drewN ?_ _ | refine blk_drew ?_ | refine blk_alloc ?_ _)); refine blk_put (cs := #[.int .i64 t115, .int .i64 t116, .int .i64 0]) ?_ 2 _ rfl; (with_reducible repeat (first | refine blk_drewN ?_ _ | refine blk_drew ?_ | refine blk_alloc ?_ _)); refine blk_put (cs := #[.int .i64 t115, .int .i64 0, .int .i64 0]) ?_ 1 _ rfl; (with_reducible repeat (first | refine blk_drewN ?_ _ | refine blk_drew ?_ | refine blk_alloc ?_ _)); refine blk_put (cs := #[.int .i64 0, .int .i64 0, .int .i64 0]) ?_ 0 _ rfl; (with_reducible repeat (first | refine blk_drewN ?_ _ | refine blk_drew ?_ | refine blk_alloc ?_ _)); exact BK109.out) Try.underlying23 rfl (by kernel_rfl) (.tmp .nil)))) rfl ?_
              exact ⟨by first | rfl | (simp [errW_none, errW_some] <;> rfl) | (simp [*, errW_none, errW_some] <;> rfl), by repeat (first | (with_reducible first | exact HB.out | apply below_alloc | apply pw_below_drewN | apply below_drew1 | refine below_set ?_ GE109.out | refine below_set ?_ GE114.out | refine below_set ?_ GE119.out) | exact HB.out)⟩
            · rw [if_neg c23] at H
              have c23b0 : decide (t110 < t115) = false := decide_eq_false c23
              clear c23
              simp only [Option.some.injEq, Prod.mk.injEq] at H
              obtain ⟨rfl, rfl, rfl, rfl, rfl⟩ := H
              have hnb33 := NB119_109.out
              have hnc33 := NB109_119.out
              have hnb34 := NB119_114.out
              have hnc34 := NB114_119.out
              have hcz35_0 : wc.cell? ⟨gb119, 0, none⟩ = some (.int .i64 t115) := (blk_cell BK119.out 0).trans rfl
              have hcz35_1 : wc.cell? ⟨gb119, 1, none⟩ = some (.int .i64 t116) := (blk_cell BK119.out 1).trans rfl
              have hcz35_2 : wc.cell? ⟨gb119, 2, none⟩ = some (.int .i64 t117) := (blk_cell BK119.out 2).trans rfl
              have hfz35_0 := blk_frozen BK119.out 0
              have hfz35_1 := blk_frozen BK119.out 1
              have hfz35_2 := blk_frozen BK119.out 2
              have hnb36 := NB114_109.out
              have hnc36 := NB109_114.out
              have hcz37_0 : wc.cell? ⟨gb114, 0, none⟩ = some (.int .i64 t110) := (blk_cell BK114.out 0).trans rfl
              have hcz37_1 : wc.cell? ⟨gb114, 1, none⟩ = some (.int .i64 t111) := (blk_cell BK114.out 1).trans rfl
              have hcz37_2 : wc.cell? ⟨gb114, 2, none⟩ = some (.int .i64 t112) := (blk_cell BK114.out 2).trans rfl
              have hfz37_0 := blk_frozen BK114.out 0
              have hfz37_1 := blk_frozen BK114.out 1
              have hfz37_2 := blk_frozen BK114.out 2
              try go_wp2
              have n0_ := Aside0.mk (blk_drew BK109.out)
              have n1_ := Aside0.mk (blk_drew BK114.out)
              have n2_ := Aside0.mk (blk_drew BK119.out)
              have n3_ := Aside0.mk (below_drew1 HB.out)
              clear BK109
              clear BK114
              clear BK119
              clear HB
              have BK109 := n0_
              have BK114 := n1_
              have BK119 := n2_
              have HB := n3_
              clear n0_ n1_ n2_ n3_
              refine start_ (n := 4) (S := fun w' => w'.cell? ⟨gb114, 0, none⟩ = some (.int .i64 t110) ∧ w'.cell? ⟨gb114, 1, none⟩ = some (.int .i64 t111) ∧ w'.cell? ⟨gb114, 2, none⟩ = some (.int .i64 t112)) (ds := []) #[false, false, false, false] (by kernel_rfl) rfl rfl ⟨(blk_cell BK114.out 0).trans rfl, (blk_cell BK114.out 1).trans rfl, (blk_cell BK114.out 2).trans rfl⟩ (fun hHeld => ?_)
              generalize wc.drew = w38 at BK109 BK114 BK119 HB hHeld ⊢
              refine pure_ (i := 1) (N := some 4) (v := ?_) (a' := ?_) #[false, true, false, false] rfl rfl (by kernel_rfl) (fun _ _ _ h => h) (Or.inl ⟨by rfl, ?_⟩) ?_ ?_
              rotate_left
              · intro w'
                go_simp
                with_reducible rfl
              rotate_left
              · simp only [Act.put, List.setIfInBounds_toArray, List.set_cons_zero, List.set_cons_succ, i64_w, i32_w]
                rfl
              refine take_ (i := 0) (N := some 44) (v := ?_) (a' := ?_) #[true, true, false, false] rfl rfl (by kernel_rfl) (fun _ _ _ h => h) (Or.inl ⟨by rfl, ?_⟩) hHeld ?_ ?_
              rotate_left
              · rintro w' ⟨s0, s1, s2⟩
                go_simp
                with_reducible rfl
              rotate_left
              · simp only [Act.put, List.setIfInBounds_toArray, List.set_cons_zero, List.set_cons_succ, i64_w, i32_w]
                rfl
              refine one_ (i := 2) (N := none) #[true, true, true, false] rfl rfl (by kernel_rfl) (by decide) (fun K hK => ?_)
              have hs39 : w38.cell? ⟨gb109, 0, none⟩ = some (.int .i64 0) := (blk_cell BK109.out 0).trans rfl
              have hfs39 := blk_frozen BK109.out 0
              have hns39_1 := NB114_109.out
              have hns39_2 := NB119_109.out
              have hms39_1 := NB109_114.out
              have hms39_2 := NB109_119.out
              have hs40 : w38.cell? ⟨gb109, 1, none⟩ = some (.int .i64 0) := (blk_cell BK109.out 1).trans rfl
              have hfs40 := blk_frozen BK109.out 1
              have hns40_1 := NB114_109.out
              have hns40_2 := NB119_109.out
              have hms40_1 := NB109_114.out
              have hms40_2 := NB109_119.out
              have hs41 : w38.cell? ⟨gb109, 2, none⟩ = some (.int .i64 0) := (blk_cell BK109.out 2).trans rfl
              have hfs41 := blk_frozen BK109.out 2
              have hns41_1 := NB114_109.out
              have hns41_2 := NB119_109.out
              have hms41_1 := NB109_114.out
              have hms41_2 := NB109_119.out
              refine skip_ (w1 := ?_) (by rfl) rfl ?_ ?_
              rotate_left
              · go_simp
                rfl
              refine hK.out _ _ ⟨((cell_far (p := ⟨gb109, _, none⟩) NB114_109.out _).trans (((cell_far (p := ⟨gb109, _, none⟩) NB114_109.out _).trans (((cell_far (p := ⟨gb109, _, none⟩) NB114_109.out _).trans (hHeld.1)))))), ((cell_far (p := ⟨gb109, _, none⟩) NB114_109.out _).trans (((cell_far (p := ⟨gb109, _, none⟩) NB114_109.out _).trans (((cell_far (p := ⟨gb109, _, none⟩) NB114_109.out _).trans (hHeld.2.1)))))), ((cell_far (p := ⟨gb109, _, none⟩) NB114_109.out _).trans (((cell_far (p := ⟨gb109, _, none⟩) NB114_109.out _).trans (((cell_far (p := ⟨gb109, _, none⟩) NB114_109.out _).trans (hHeld.2.2))))))⟩ (fun hHeld => ?_)
              clear hK K
              refine pure_ (i := 3) (N := some 6) (v := ?_) (a' := ?_) #[true, true, true, true] rfl rfl (by kernel_rfl) (fun _ _ _ h => h) (Or.inl ⟨by rfl, ?_⟩) ?_ ?_
              rotate_left
              · intro w'
                go_simp
                with_reducible rfl
              rotate_left
              · simp only [Act.put, List.setIfInBounds_toArray, List.set_cons_zero, List.set_cons_succ, i64_w, i32_w]
                rfl
              refine done_ (by kernel_rfl) ?_
              try go_wp2
              refine bodyPost_ret (results_list (rs := [.tmp 4, .cell 5 23, .tmp 6]) rfl (by simp) (.tmp (.cell gb109 23 #[.int .i64 t110, .int .i64 t111, .int .i64 t112] (0, 0) _ rfl (by (with_reducible repeat (first | refine blk_drewN ?_ _ | refine blk_drew ?_ | refine blk_alloc ?_ _)); refine blk_put (cs := #[.int .i64 t110, .int .i64 t111, .int .i64 0]) ?_ 2 _ rfl; (with_reducible repeat (first | refine blk_drewN ?_ _ | refine blk_drew ?_ | refine blk_alloc ?_ _)); refine blk_put (cs := #[.int .i64 t110, .int .i64 0, .int .i64 0]) ?_ 1 _ rfl; (with_reducible repeat (first | refine blk_drewN ?_ _ | refine blk_drew ?_ | refine blk_alloc ?_ _)); refine blk_put (cs := #[.int .i64 0, .int .i64 0, .int .i64 0]) ?_ 0 _ rfl; (with_reducible repeat (first | refine blk_drewN ?_ _ | refine blk_drew ?_ | refine blk_alloc ?_ _)); exact BK109.out) Try.underlying23 rfl (by kernel_rfl) (.tmp .nil)))) rfl ?_
              exact ⟨by first | rfl | (simp [errW_none, errW_some] <;> rfl) | (simp [*, errW_none, errW_some] <;> rfl), by repeat (first | (with_reducible first | exact HB.out | apply below_alloc | apply pw_below_drewN | apply below_drew1 | refine below_set ?_ GE109.out | refine below_set ?_ GE114.out | refine below_set ?_ GE119.out) | exact HB.out)⟩
          · rw [if_neg c22] at H
            have c22b0 : (t118 == 0) = false := beq_eq_false_iff_ne.mpr c22
            have c22b1 : (t118 != 0) = true := bne_iff_ne.mpr c22
            simp only [Option.some.injEq, Prod.mk.injEq] at H
            obtain ⟨rfl, rfl, rfl, rfl, rfl⟩ := H
            try go_wp2
            have n0_ := Aside0.mk (blk_drew BK109.out)
            have n1_ := Aside0.mk (blk_drew BK114.out)
            have n2_ := Aside0.mk (blk_drew BK119.out)
            have n3_ := Aside0.mk (below_drew1 HB.out)
            clear BK109
            clear BK114
            clear BK119
            clear HB
            have BK109 := n0_
            have BK114 := n1_
            have BK119 := n2_
            have HB := n3_
            clear n0_ n1_ n2_ n3_
            refine start_ (n := 4) (S := fun w' => w'.cell? ⟨gb114, 0, none⟩ = some (.int .i64 t110) ∧ w'.cell? ⟨gb114, 1, none⟩ = some (.int .i64 t111) ∧ w'.cell? ⟨gb114, 2, none⟩ = some (.int .i64 t112)) (ds := []) #[false, false, false, false] (by kernel_rfl) rfl rfl ⟨(blk_cell BK114.out 0).trans rfl, (blk_cell BK114.out 1).trans rfl, (blk_cell BK114.out 2).trans rfl⟩ (fun hHeld => ?_)
            generalize wc.drew = w42 at BK109 BK114 BK119 HB hHeld ⊢
            refine pure_ (i := 1) (N := some 4) (v := ?_) (a' := ?_) #[false, true, false, false] rfl rfl (by kernel_rfl) (fun _ _ _ h => h) (Or.inl ⟨by rfl, ?_⟩) ?_ ?_
            rotate_left
            · intro w'
              go_simp
              with_reducible rfl
            rotate_left
            · simp only [Act.put, List.setIfInBounds_toArray, List.set_cons_zero, List.set_cons_succ, i64_w, i32_w]
              rfl
            refine take_ (i := 0) (N := some 44) (v := ?_) (a' := ?_) #[true, true, false, false] rfl rfl (by kernel_rfl) (fun _ _ _ h => h) (Or.inl ⟨by rfl, ?_⟩) hHeld ?_ ?_
            rotate_left
            · rintro w' ⟨s0, s1, s2⟩
              go_simp
              with_reducible rfl
            rotate_left
            · simp only [Act.put, List.setIfInBounds_toArray, List.set_cons_zero, List.set_cons_succ, i64_w, i32_w]
              rfl
            refine one_ (i := 2) (N := none) #[true, true, true, false] rfl rfl (by kernel_rfl) (by decide) (fun K hK => ?_)
            have hs43 : w42.cell? ⟨gb109, 0, none⟩ = some (.int .i64 0) := (blk_cell BK109.out 0).trans rfl
            have hfs43 := blk_frozen BK109.out 0
            have hns43_1 := NB114_109.out
            have hns43_2 := NB119_109.out
            have hms43_1 := NB109_114.out
            have hms43_2 := NB109_119.out
            have hs44 : w42.cell? ⟨gb109, 1, none⟩ = some (.int .i64 0) := (blk_cell BK109.out 1).trans rfl
            have hfs44 := blk_frozen BK109.out 1
            have hns44_1 := NB114_109.out
            have hns44_2 := NB119_109.out
            have hms44_1 := NB109_114.out
            have hms44_2 := NB109_119.out
            have hs45 : w42.cell? ⟨gb109, 2, none⟩ = some (.int .i64 0) := (blk_cell BK109.out 2).trans rfl
            have hfs45 := blk_frozen BK109.out 2
            have hns45_1 := NB114_109.out
            have hns45_2 := NB119_109.out
            have hms45_1 := NB109_114.out
            have hms45_2 := NB109_119.out
            refine skip_ (w1 := ?_) (by rfl) rfl ?_ ?_
            rotate_left
            · go_simp
              rfl
            refine hK.out _ _ ⟨((cell_far (p := ⟨gb109, _, none⟩) NB114_109.out _).trans (((cell_far (p := ⟨gb109, _, none⟩) NB114_109.out _).trans (((cell_far (p := ⟨gb109, _, none⟩) NB114_109.out _).trans (hHeld.1)))))), ((cell_far (p := ⟨gb109, _, none⟩) NB114_109.out _).trans (((cell_far (p := ⟨gb109, _, none⟩) NB114_109.out _).trans (((cell_far (p := ⟨gb109, _, none⟩) NB114_109.out _).trans (hHeld.2.1)))))), ((cell_far (p := ⟨gb109, _, none⟩) NB114_109.out _).trans (((cell_far (p := ⟨gb109, _, none⟩) NB114_109.out _).trans (((cell_far (p := ⟨gb109, _, none⟩) NB114_109.out _).trans (hHeld.2.2))))))⟩ (fun hHeld => ?_)
            clear hK K
            refine pure_ (i := 3) (N := some 6) (v := ?_) (a' := ?_) #[true, true, true, true] rfl rfl (by kernel_rfl) (fun _ _ _ h => h) (Or.inl ⟨by rfl, ?_⟩) ?_ ?_
            rotate_left
            · intro w'
              go_simp
              with_reducible rfl
            rotate_left
            · simp only [Act.put, List.setIfInBounds_toArray, List.set_cons_zero, List.set_cons_succ, i64_w, i32_w]
              rfl
            refine done_ (by kernel_rfl) ?_
            try go_wp2
            refine bodyPost_ret (results_list (rs := [.tmp 4, .cell 5 23, .tmp 6]) rfl (by simp) (.tmp (.cell gb109 23 #[.int .i64 t110, .int .i64 t111, .int .i64 t112] (0, 0) _ rfl (by (with_reducible repeat (first | refine blk_drewN ?_ _ | refine blk_drew ?_ | refine blk_alloc ?_ _)); refine blk_put (cs := #[.int .i64 t110, .int .i64 t111, .int .i64 0]) ?_ 2 _ rfl; (with_reducible repeat (first | refine blk_drewN ?_ _ | refine blk_drew ?_ | refine blk_alloc ?_ _)); refine blk_put (cs := #[.int .i64 t110, .int .i64 0, .int .i64 0]) ?_ 1 _ rfl; (with_reducible repeat (first | refine blk_drewN ?_ _ | refine blk_drew ?_ | refine blk_alloc ?_ _)); refine blk_put (cs := #[.int .i64 0, .int .i64 0, .int .i64 0]) ?_ 0 _ rfl; (with_reducible repeat (first | refine blk_drewN ?_ _ | refine blk_drew ?_ | refine blk_alloc ?_ _)); exact BK109.out) Try.underlying23 rfl (by kernel_rfl) (.tmp .nil)))) rfl ?_
            exact ⟨by first | rfl | (simp [errW_none, errW_some] <;> rfl) | (simp [*, errW_none, errW_some] <;> rfl), by repeat (first | (with_reducible first | exact HB.out | apply below_alloc | apply pw_below_drewN | apply below_drew1 | refine below_set ?_ GE109.out | refine below_set ?_ GE114.out | refine below_set ?_ GE119.out) | exact HB.out)⟩
        · rw [if_neg c21] at H
          have c21b0 : (t113 == 0) = false := beq_eq_false_iff_ne.mpr c21
          have c21b1 : (t113 != 0) = true := bne_iff_ne.mpr c21
          simp only [Option.some.injEq, Prod.mk.injEq] at H
          obtain ⟨rfl, rfl, rfl, rfl, rfl⟩ := H
          try go_wp2
          have n0_ := Aside0.mk (blk_drew BK109.out)
          have n1_ := Aside0.mk (blk_drew BK114.out)
          have n2_ := Aside0.mk (blk_drew BK119.out)
          have n3_ := Aside0.mk (below_drew1 HB.out)
          clear BK109
          clear BK114
          clear BK119
          clear HB
          have BK109 := n0_
          have BK114 := n1_
          have BK119 := n2_
          have HB := n3_
          clear n0_ n1_ n2_ n3_
          refine start_ (n := 4) (S := fun w' => w'.cell? ⟨gb119, 0, none⟩ = some (.int .i64 t115) ∧ w'.cell? ⟨gb119, 1, none⟩ = some (.int .i64 t116) ∧ w'.cell? ⟨gb119, 2, none⟩ = some (.int .i64 t117)) (ds := []) #[false, false, false, false] (by kernel_rfl) rfl rfl ⟨(blk_cell BK119.out 0).trans rfl, (blk_cell BK119.out 1).trans rfl, (blk_cell BK119.out 2).trans rfl⟩ (fun hHeld => ?_)
          generalize wc.drew = w46 at BK109 BK114 BK119 HB hHeld ⊢
          refine pure_ (i := 1) (N := some 4) (v := ?_) (a' := ?_) #[false, true, false, false] rfl rfl (by kernel_rfl) (fun _ _ _ h => h) (Or.inl ⟨by rfl, ?_⟩) ?_ ?_
          rotate_left
          · intro w'
            go_simp
            with_reducible rfl
          rotate_left
          · simp only [Act.put, List.setIfInBounds_toArray, List.set_cons_zero, List.set_cons_succ, i64_w, i32_w]
            rfl
          refine take_ (i := 0) (N := some 43) (v := ?_) (a' := ?_) #[true, true, false, false] rfl rfl (by kernel_rfl) (fun _ _ _ h => h) (Or.inl ⟨by rfl, ?_⟩) hHeld ?_ ?_
          rotate_left
          · rintro w' ⟨s0, s1, s2⟩
            go_simp
            with_reducible rfl
          rotate_left
          · simp only [Act.put, List.setIfInBounds_toArray, List.set_cons_zero, List.set_cons_succ, i64_w, i32_w]
            rfl
          refine one_ (i := 2) (N := none) #[true, true, true, false] rfl rfl (by kernel_rfl) (by decide) (fun K hK => ?_)
          have hs47 : w46.cell? ⟨gb109, 0, none⟩ = some (.int .i64 0) := (blk_cell BK109.out 0).trans rfl
          have hfs47 := blk_frozen BK109.out 0
          have hns47_1 := NB114_109.out
          have hns47_2 := NB119_109.out
          have hms47_1 := NB109_114.out
          have hms47_2 := NB109_119.out
          have hs48 : w46.cell? ⟨gb109, 1, none⟩ = some (.int .i64 0) := (blk_cell BK109.out 1).trans rfl
          have hfs48 := blk_frozen BK109.out 1
          have hns48_1 := NB114_109.out
          have hns48_2 := NB119_109.out
          have hms48_1 := NB109_114.out
          have hms48_2 := NB109_119.out
          have hs49 : w46.cell? ⟨gb109, 2, none⟩ = some (.int .i64 0) := (blk_cell BK109.out 2).trans rfl
          have hfs49 := blk_frozen BK109.out 2
          have hns49_1 := NB114_109.out
          have hns49_2 := NB119_109.out
          have hms49_1 := NB109_114.out
          have hms49_2 := NB109_119.out
          refine skip_ (w1 := ?_) (by rfl) rfl ?_ ?_
          rotate_left
          · go_simp
            rfl
          refine hK.out _ _ ⟨((cell_far (p := ⟨gb109, _, none⟩) NB119_109.out _).trans (((cell_far (p := ⟨gb109, _, none⟩) NB119_109.out _).trans (((cell_far (p := ⟨gb109, _, none⟩) NB119_109.out _).trans (hHeld.1)))))), ((cell_far (p := ⟨gb109, _, none⟩) NB119_109.out _).trans (((cell_far (p := ⟨gb109, _, none⟩) NB119_109.out _).trans (((cell_far (p := ⟨gb109, _, none⟩) NB119_109.out _).trans (hHeld.2.1)))))), ((cell_far (p := ⟨gb109, _, none⟩) NB119_109.out _).trans (((cell_far (p := ⟨gb109, _, none⟩) NB119_109.out _).trans (((cell_far (p := ⟨gb109, _, none⟩) NB119_109.out _).trans (hHeld.2.2))))))⟩ (fun hHeld => ?_)
          clear hK K
          refine pure_ (i := 3) (N := some 6) (v := ?_) (a' := ?_) #[true, true, true, true] rfl rfl (by kernel_rfl) (fun _ _ _ h => h) (Or.inl ⟨by rfl, ?_⟩) ?_ ?_
          rotate_left
          · intro w'
            go_simp
            with_reducible rfl
          rotate_left
          · simp only [Act.put, List.setIfInBounds_toArray, List.set_cons_zero, List.set_cons_succ, i64_w, i32_w]
            rfl
          refine done_ (by kernel_rfl) ?_
          try go_wp2
          refine bodyPost_ret (results_list (rs := [.tmp 4, .cell 5 23, .tmp 6]) rfl (by simp) (.tmp (.cell gb109 23 #[.int .i64 t115, .int .i64 t116, .int .i64 t117] (0, 0) _ rfl (by (with_reducible repeat (first | refine blk_drewN ?_ _ | refine blk_drew ?_ | refine blk_alloc ?_ _)); refine blk_put (cs := #[.int .i64 t115, .int .i64 t116, .int .i64 0]) ?_ 2 _ rfl; (with_reducible repeat (first | refine blk_drewN ?_ _ | refine blk_drew ?_ | refine blk_alloc ?_ _)); refine blk_put (cs := #[.int .i64 t115, .int .i64 0, .int .i64 0]) ?_ 1 _ rfl; (with_reducible repeat (first | refine blk_drewN ?_ _ | refine blk_drew ?_ | refine blk_alloc ?_ _)); refine blk_put (cs := #[.int .i64 0, .int .i64 0, .int .i64 0]) ?_ 0 _ rfl; (with_reducible repeat (first | refine blk_drewN ?_ _ | refine blk_drew ?_ | refine blk_alloc ?_ _)); exact BK109.out) Try.underlying23 rfl (by kernel_rfl) (.tmp .nil)))) rfl ?_
          exact ⟨by first | rfl | (simp [errW_none, errW_some] <;> rfl) | (simp [*, errW_none, errW_some] <;> rfl), by repeat (first | (with_reducible first | exact HB.out | apply below_alloc | apply pw_below_drewN | apply below_drew1 | refine below_set ?_ GE109.out | refine below_set ?_ GE114.out | refine below_set ?_ GE119.out) | exact HB.out)⟩

end Go.Proofs.Ythjnkapkhphpeaa.P
end
section
-- Written by a program of this session (xprint.py, over the kit's print). Not trusted: Lean checks it.
namespace Go.Proofs.Ythjnkapkhphpeaa.P
open Go.RowKit Go.Proofs.YthjnkapkhphpeaaW.PrintWords Go.Proofs.YthjnkapkhphpeaaW.PrintLast Go.Proofs.YthjnkapkhphpeaaW.PrintMore
attribute [local go_sem] max2_int min2_int max_two min_two max_three min_three max_four min_four   -- for this text's walks alone
set_option linter.unusedVariables false
set_option linter.unusedSimpArgs false

/-! ### assartref03_Right: function 25 -/
def assartref03_Right.f (a0_0 : Int) (a0_1 : Int) (a0_2 : Int) : Option (Bool) := if a0_0 ≥ 1 then (if a0_0 ≤ 2147483647 then (if a0_1 ≥ 0 then (if a0_1 ≤ 2147483647 then (if a0_2 ≥ 0 then (some (decide (a0_2 ≤ 4294967295))) else (some false)) else (some false)) else (some false)) else (some false)) else (some false)
set_option maxHeartbeats 8000000 in
set_option maxRecDepth 100000 in
theorem assartref03_Right.calls (a0_0 : Int) (a0_1 : Int) (a0_2 : Int) (r : Bool) (w : World) (h : assartref03_Right.f a0_0 a0_1 a0_2 = some r) :
    Calls Try.prog 25 #[.agg #[.int .i64 a0_0, .int .i64 a0_1, .int .i64 a0_2]] w fun e w' => e = .returned (.bool r) ∧ Below w.heap.size w w' := by
  have hu23 := Try.underlying23
  have HB := Aside0.mk (Below.refl w.heap.size w)
  have H : (if a0_0 ≥ 1 then (if a0_0 ≤ 2147483647 then (if a0_1 ≥ 0 then (if a0_1 ≤ 2147483647 then (if a0_2 ≥ 0 then (some (decide (a0_2 ≤ 4294967295))) else (some false)) else (some false)) else (some false)) else (some false)) else (some false)) = some r := h
  clear h
  by_cases c2 : a0_0 ≥ 1
  · rw [if_pos c2] at H
    have c2b0 : decide (1 ≤ a0_0) = true := decide_eq_true c2
    clear c2
    by_cases c3 : a0_0 ≤ 2147483647
    · rw [if_pos c3] at H
      have c3b0 : decide (a0_0 ≤ 2147483647) = true := decide_eq_true c3
      clear c3
      by_cases c4 : a0_1 ≥ 0
      · rw [if_pos c4] at H
        have c4b0 : decide (0 ≤ a0_1) = true := decide_eq_true c4
        clear c4
        by_cases c5 : a0_1 ≤ 2147483647
        · rw [if_pos c5] at H
          have c5b0 : decide (a0_1 ≤ 2147483647) = true := decide_eq_true c5
          clear c5
          by_cases c6 : a0_2 ≥ 0
          · rw [if_pos c6] at H
            have c6b0 : decide (0 ≤ a0_2) = true := decide_eq_true c6
            clear c6
            obtain rfl := Option.some.inj H
            go_enter Try.func25, Try.ntmps25
            go_wp2_with (first | ((with_reducible refine gate_dst (N := 1) rfl ?_); refine box_event ?hg (N := 1) ?hd (cs := #[.int .i64 a0_0, .int .i64 a0_1, .int .i64 a0_2]) (t := 23) ?hr ?_; (case hd => rfl); (case hg => rfl); (case hr => first | (go_simp; done) | (go_simp; rfl)); intro gb121 hg w7 hbox hb; have n0_ := Aside0.mk (below_step (by repeat (first | (with_reducible first | exact HB.out | apply below_alloc | apply pw_below_drewN | apply below_drew1) | exact HB.out)) hb); have n1_ := Aside0.mk (hbox); have n2_ := Aside0.mk ((by rw [hg]; exact (below_size (by repeat (first | (with_reducible first | exact HB.out | apply below_alloc | apply pw_below_drewN | apply below_drew1) | exact HB.out))) : w.heap.size ≤ gb121)); have n3_ := Aside0.mk ((by rw [hg]; exact (below_size (by repeat (first | (with_reducible first | exact HB.out | apply below_alloc | apply pw_below_drewN | apply below_drew1) | exact HB.out))) : w.heap.size ≤ gb121)); clear HB; have HB := n0_; have BK121 := n1_; have GW121 := n2_; have GE121 := n3_; clear n0_ n1_ n2_ n3_; clear hb hbox hg; have hcz8_0 : w7.cell? ⟨gb121, 0, none⟩ = some (.int .i64 a0_0) := (blk_cell BK121.out 0).trans rfl; have hcz8_1 : w7.cell? ⟨gb121, 1, none⟩ = some (.int .i64 a0_1) := (blk_cell BK121.out 1).trans rfl; have hcz8_2 : w7.cell? ⟨gb121, 2, none⟩ = some (.int .i64 a0_2) := (blk_cell BK121.out 2).trans rfl; have hfz8_0 := blk_frozen BK121.out 0; have hfz8_1 := blk_frozen BK121.out 1; have hfz8_2 := blk_frozen BK121.out 2))
            go_ret
            exact ⟨by first | rfl | (simp [errW_none, errW_some] <;> rfl) | (simp [*, errW_none, errW_some] <;> rfl), by repeat (first | (with_reducible first | exact HB.out | apply below_alloc | apply pw_below_drewN | apply below_drew1 | refine below_set ?_ GE121.out) | exact HB.out)⟩
          · rw [if_neg c6] at H
            have c6b0 : decide (0 ≤ a0_2) = false := decide_eq_false c6
            clear c6
            obtain rfl := Option.some.inj H
            go_enter Try.func25, Try.ntmps25
            go_wp2_with (first | ((with_reducible refine gate_dst (N := 1) rfl ?_); refine box_event ?hg (N := 1) ?hd (cs := #[.int .i64 a0_0, .int .i64 a0_1, .int .i64 a0_2]) (t := 23) ?hr ?_; (case hd => rfl); (case hg => rfl); (case hr => first | (go_simp; done) | (go_simp; rfl)); intro gb121 hg w9 hbox hb; have n0_ := Aside0.mk (below_step (by repeat (first | (with_reducible first | exact HB.out | apply below_alloc | apply pw_below_drewN | apply below_drew1) | exact HB.out)) hb); have n1_ := Aside0.mk (hbox); have n2_ := Aside0.mk ((by rw [hg]; exact (below_size (by repeat (first | (with_reducible first | exact HB.out | apply below_alloc | apply pw_below_drewN | apply below_drew1) | exact HB.out))) : w.heap.size ≤ gb121)); have n3_ := Aside0.mk ((by rw [hg]; exact (below_size (by repeat (first | (with_reducible first | exact HB.out | apply below_alloc | apply pw_below_drewN | apply below_drew1) | exact HB.out))) : w.heap.size ≤ gb121)); clear HB; have HB := n0_; have BK121 := n1_; have GW121 := n2_; have GE121 := n3_; clear n0_ n1_ n2_ n3_; clear hb hbox hg; have hcz10_0 : w9.cell? ⟨gb121, 0, none⟩ = some (.int .i64 a0_0) := (blk_cell BK121.out 0).trans rfl; have hcz10_1 : w9.cell? ⟨gb121, 1, none⟩ = some (.int .i64 a0_1) := (blk_cell BK121.out 1).trans rfl; have hcz10_2 : w9.cell? ⟨gb121, 2, none⟩ = some (.int .i64 a0_2) := (blk_cell BK121.out 2).trans rfl; have hfz10_0 := blk_frozen BK121.out 0; have hfz10_1 := blk_frozen BK121.out 1; have hfz10_2 := blk_frozen BK121.out 2))
            go_ret
            exact ⟨by first | rfl | (simp [errW_none, errW_some] <;> rfl) | (simp [*, errW_none, errW_some] <;> rfl), by repeat (first | (with_reducible first | exact HB.out | apply below_alloc | apply pw_below_drewN | apply below_drew1 | refine below_set ?_ GE121.out) | exact HB.out)⟩
        · rw [if_neg c5] at H
          have c5b0 : decide (a0_1 ≤ 2147483647) = false := decide_eq_false c5
          clear c5
          obtain rfl := Option.some.inj H
          go_enter Try.func25, Try.ntmps25
          go_wp2_with (first | ((with_reducible refine gate_dst (N := 1) rfl ?_); refine box_event ?hg (N := 1) ?hd (cs := #[.int .i64 a0_0, .int .i64 a0_1, .int .i64 a0_2]) (t := 23) ?hr ?_; (case hd => rfl); (case hg => rfl); (case hr => first | (go_simp; done) | (go_simp; rfl)); intro gb121 hg w11 hbox hb; have n0_ := Aside0.mk (below_step (by repeat (first | (with_reducible first | exact HB.out | apply below_alloc | apply pw_below_drewN | apply below_drew1) | exact HB.out)) hb); have n1_ := Aside0.mk (hbox); have n2_ := Aside0.mk ((by rw [hg]; exact (below_size (by repeat (first | (with_reducible first | exact HB.out | apply below_alloc | apply pw_below_drewN | apply below_drew1) | exact HB.out))) : w.heap.size ≤ gb121)); have n3_ := Aside0.mk ((by rw [hg]; exact (below_size (by repeat (first | (with_reducible first | exact HB.out | apply below_alloc | apply pw_below_drewN | apply below_drew1) | exact HB.out))) : w.heap.size ≤ gb121)); clear HB; have HB := n0_; have BK121 := n1_; have GW121 := n2_; have GE121 := n3_; clear n0_ n1_ n2_ n3_; clear hb hbox hg; have hcz12_0 : w11.cell? ⟨gb121, 0, none⟩ = some (.int .i64 a0_0) := (blk_cell BK121.out 0).trans rfl; have hcz12_1 : w11.cell? ⟨gb121, 1, none⟩ = some (.int .i64 a0_1) := (blk_cell BK121.out 1).trans rfl; have hcz12_2 : w11.cell? ⟨gb121, 2, none⟩ = some (.int .i64 a0_2) := (blk_cell BK121.out 2).trans rfl; have hfz12_0 := blk_frozen BK121.out 0; have hfz12_1 := blk_frozen BK121.out 1; have hfz12_2 := blk_frozen BK121.out 2))
          go_ret
          exact ⟨by first | rfl | (simp [errW_none, errW_some] <;> rfl) | (simp [*, errW_none, errW_some] <;> rfl), by repeat (first | (with_reducible first | exact HB.out | apply below_alloc | apply pw_below_drewN | apply below_drew1 | refine below_set ?_ GE121.out) | exact HB.out)⟩
      · rw [if_neg c4] at H
        have c4b0 : decide (0 ≤ a0_1) = false := decide_eq_false c4
        clear c4
        obtain rfl := Option.some.inj H
        go_enter Try.func25, Try.ntmps25
        go_wp2_with (first | ((with_reducible refine gate_dst (N := 1) rfl ?_); refine box_event ?hg (N := 1) ?hd (cs := #[.int .i64 a0_0, .int .i64 a0_1, .int .i64 a0_2]) (t := 23) ?hr ?_; (case hd => rfl); (case hg => rfl); (case hr => first | (go_simp; done) | (go_simp; rfl)); intro gb121 hg w13 hbox hb; have n0_ := Aside0.mk (below_step (by repeat (first | (with_reducible first | exact HB.out | apply below_alloc | apply pw_below_drewN | apply below_drew1) | exact HB.out)) hb); have n1_ := Aside0.mk (hbox); have n2_ := Aside0.mk ((by rw [hg]; exact (below_size (by repeat (first | (with_reducible first | exact HB.out | apply below_alloc | apply pw_below_drewN | apply below_drew1) | exact HB.out))) : w.heap.size ≤ gb121)); have n3_ := Aside0.mk ((by rw [hg]; exact (below_size (by repeat (first | (with_reducible first | exact HB.out | apply below_alloc | apply pw_below_drewN | apply below_drew1) | exact HB.out))) : w.heap.size ≤ gb121)); clear HB; have HB := n0_; have BK121 := n1_; have GW121 := n2_; have GE121 := n3_; clear n0_ n1_ n2_ n3_; clear hb hbox hg; have hcz14_0 : w13.cell? ⟨gb121, 0, none⟩ = some (.int .i64 a0_0) := (blk_cell BK121.out 0).trans rfl; have hcz14_1 : w13.cell? ⟨gb121, 1, none⟩ = some (.int .i64 a0_1) := (blk_cell BK121.out 1).trans rfl; have hcz14_2 : w13.cell? ⟨gb121, 2, none⟩ = some (.int .i64 a0_2) := (blk_cell BK121.out 2).trans rfl; have hfz14_0 := blk_frozen BK121.out 0; have hfz14_1 := blk_frozen BK121.out 1; have hfz14_2 := blk_frozen BK121.out 2))
        go_ret
        exact ⟨by first | rfl | (simp [errW_none, errW_some] <;> rfl) | (simp [*, errW_none, errW_some] <;> rfl), by repeat (first | (with_reducible first | exact HB.out | apply below_alloc | apply pw_below_drewN | apply below_drew1 | refine below_set ?_ GE121.out) | exact HB.out)⟩
    · rw [if_neg c3] at H
      have c3b0 : decide (a0_0 ≤ 2147483647) = false := decide_eq_false c3
      clear c3
      obtain rfl := Option.some.inj H
      go_enter Try.func25, Try.ntmps25
      go_wp2_with (first | ((with_reducible refine gate_dst (N := 1) rfl ?_); refine box_event ?hg (N := 1) ?hd (cs := #[.int .i64 a0_0, .int .i64 a0_1, .int .i64 a0_2]) (t := 23) ?hr ?_; (case hd => rfl); (case hg => rfl); (case hr => first | (go_simp; done) | (go_simp; rfl)); intro gb121 hg w15 hbox hb; have n0_ := Aside0.mk (below_step (by repeat (first | (with_reducible first | exact HB.out | apply below_alloc | apply pw_below_drewN | apply below_drew1) | exact HB.out)) hb); have n1_ := Aside0.mk (hbox); have n2_ := Aside0.mk ((by rw [hg]; exact (below_size (by repeat (first | (with_reducible first | exact HB.out | apply below_alloc | apply pw_below_drewN | apply below_drew1) | exact HB.out))) : w.heap.size ≤ gb121)); have n3_ := Aside0.mk ((by rw [hg]; exact (below_size (by repeat (first | (with_reducible first | exact HB.out | apply below_alloc | apply pw_below_drewN | apply below_drew1) | exact HB.out))) : w.heap.size ≤ gb121)); clear HB; have HB := n0_; have BK121 := n1_; have GW121 := n2_; have GE121 := n3_; clear n0_ n1_ n2_ n3_; clear hb hbox hg; have hcz16_0 : w15.cell? ⟨gb121, 0, none⟩ = some (.int .i64 a0_0) := (blk_cell BK121.out 0).trans rfl; have hcz16_1 : w15.cell? ⟨gb121, 1, none⟩ = some (.int .i64 a0_1) := (blk_cell BK121.out 1).trans rfl; have hcz16_2 : w15.cell? ⟨gb121, 2, none⟩ = some (.int .i64 a0_2) := (blk_cell BK121.out 2).trans rfl; have hfz16_0 := blk_frozen BK121.out 0; have hfz16_1 := blk_frozen BK121.out 1; have hfz16_2 := blk_frozen BK121.out 2))
      go_ret
      exact ⟨by first | rfl | (simp [errW_none, errW_some] <;> rfl) | (simp [*, errW_none, errW_some] <;> rfl), by repeat (first | (with_reducible first | exact HB.out | apply below_alloc | apply pw_below_drewN | apply below_drew1 | refine below_set ?_ GE121.out) | exact HB.out)⟩
  · rw [if_neg c2] at H
    have c2b0 : decide (1 ≤ a0_0) = false := decide_eq_false c2
    clear c2
    obtain rfl := Option.some.inj H
    go_enter Try.func25, Try.ntmps25
    go_wp2_with (first | ((with_reducible refine gate_dst (N := 1) rfl ?_); refine box_event ?hg (N := 1) ?hd (cs := #[.int .i64 a0_0, .int .i64 a0_1, .int .i64 a0_2]) (t := 23) ?hr ?_; (case hd => rfl); (case hg => rfl); (case hr => first | (go_simp; done) | (go_simp; rfl)); intro gb121 hg w17 hbox hb; have n0_ := Aside0.mk (below_step (by repeat (first | (with_reducible first | exact HB.out | apply below_alloc | apply pw_below_drewN | apply below_drew1) | exact HB.out)) hb); have n1_ := Aside0.mk (hbox); have n2_ := Aside0.mk ((by rw [hg]; exact (below_size (by repeat (first | (with_reducible first | exact HB.out | apply below_alloc | apply pw_below_drewN | apply below_drew1) | exact HB.out))) : w.heap.size ≤ gb121)); have n3_ := Aside0.mk ((by rw [hg]; exact (below_size (by repeat (first | (with_reducible first | exact HB.out | apply below_alloc | apply pw_below_drewN | apply below_drew1) | exact HB.out))) : w.heap.size ≤ gb121)); clear HB; have HB := n0_; have BK121 := n1_; have GW121 := n2_; have GE121 := n3_; clear n0_ n1_ n2_ n3_; clear hb hbox hg; have hcz18_0 : w17.cell? ⟨gb121, 0, none⟩ = some (.int .i64 a0_0) := (blk_cell BK121.out 0).trans rfl; have hcz18_1 : w17.cell? ⟨gb121, 1, none⟩ = some (.int .i64 a0_1) := (blk_cell BK121.out 1).trans rfl; have hcz18_2 : w17.cell? ⟨gb121, 2, none⟩ = some (.int .i64 a0_2) := (blk_cell BK121.out 2).trans rfl; have hfz18_0 := blk_frozen BK121.out 0; have hfz18_1 := blk_frozen BK121.out 1; have hfz18_2 := blk_frozen BK121.out 2))
    go_ret
    exact ⟨by first | rfl | (simp [errW_none, errW_some] <;> rfl) | (simp [*, errW_none, errW_some] <;> rfl), by repeat (first | (with_reducible first | exact HB.out | apply below_alloc | apply pw_below_drewN | apply below_drew1 | refine below_set ?_ GE121.out) | exact HB.out)⟩

end Go.Proofs.Ythjnkapkhphpeaa.P
end
section
/- The plain mathematics of the check sum: the register, bit by bit; it is linear, and no burst within 32 bits is lost. -/
namespace Crc

def poly : BitVec 32 := 0xedb88320#32
/-- One step of the register. -/
def S (n : BitVec 32) : BitVec 32 := if n.getLsbD 0 then (n >>> 1) ^^^ poly else n >>> 1
def Sn : Nat → BitVec 32 → BitVec 32
  | 0, n => n
  | k + 1, n => Sn k (S n)
def byte (n c : BitVec 32) : BitVec 32 := Sn 8 (n ^^^ c)
def reg (n : BitVec 32) (l : List (BitVec 32)) : BitVec 32 := l.foldl byte n

theorem poly_msb : poly.getLsbD 31 = true := by decide

theorem S_xor (a b : BitVec 32) : S (a ^^^ b) = S a ^^^ S b := by
  unfold S
  have h : (a ^^^ b).getLsbD 0 = (a.getLsbD 0 ^^ b.getLsbD 0) := BitVec.getLsbD_xor
  have hs : (a ^^^ b) >>> 1 = (a >>> 1) ^^^ (b >>> 1) := BitVec.ushiftRight_xor_distrib _ _ _
  rw [h, hs]
  cases ha : a.getLsbD 0 <;> cases hb : b.getLsbD 0 <;> simp
  · rw [BitVec.xor_assoc]
  · rw [BitVec.xor_assoc, BitVec.xor_assoc, BitVec.xor_comm poly]
  · rw [BitVec.xor_assoc, BitVec.xor_comm poly, BitVec.xor_assoc, BitVec.xor_self]; simp

theorem S_zero : S 0 = 0 := by decide

theorem S_inj {a : BitVec 32} (h : S a = 0) : a = 0 := by
  unfold S at h
  cases hb : a.getLsbD 0 with
  | true =>
    rw [hb] at h
    simp only [if_true] at h
    have h31 := congrArg (fun x => BitVec.getLsbD x 31) h
    rw [BitVec.getLsbD_xor, poly_msb] at h31
    simp at h31
  | false =>
    rw [hb] at h
    simp only [Bool.false_eq_true, if_false] at h
    apply BitVec.eq_of_getLsbD_eq
    intro i hi
    cases i with
    | zero => simpa using hb
    | succ i =>
      have := congrArg (fun x => BitVec.getLsbD x i) h
      simpa [Nat.add_comm] using this

theorem Sn_xor : ∀ k (a b : BitVec 32), Sn k (a ^^^ b) = Sn k a ^^^ Sn k b
  | 0, _, _ => rfl
  | k + 1, a, b => by simp only [Sn, S_xor, Sn_xor k]
theorem Sn_zero : ∀ k, Sn k 0 = 0
  | 0 => rfl
  | k + 1 => by simp only [Sn, S_zero, Sn_zero k]
theorem Sn_inj : ∀ k {a : BitVec 32}, Sn k a = 0 → a = 0
  | 0, _, h => h
  | k + 1, _, h => S_inj (Sn_inj k h)
theorem Sn_eq {k : Nat} {a b : BitVec 32} (h : Sn k a = Sn k b) : a = b := by
  have : Sn k (a ^^^ b) = 0 := by rw [Sn_xor, h, BitVec.xor_self]; rfl
  have := Sn_inj k this
  exact BitVec.xor_eq_zero_iff.1 this

/-- One bit fed. -/
def bw (b : Bool) : BitVec 32 := if b then 1 else 0
def feed (n : BitVec 32) (b : Bool) : BitVec 32 := S (n ^^^ bw b)
def feeds (n : BitVec 32) (l : List Bool) : BitVec 32 := l.foldl feed n
/-- The k lowest bits, the lowest first. -/
def bits : Nat → BitVec 32 → List Bool
  | 0, _ => []
  | k + 1, c => c.getLsbD 0 :: bits k (c >>> 1)

theorem S_even (c : BitVec 32) (h : c.getLsbD 0 = false) : S c = c >>> 1 := by unfold S; rw [h]; rfl

theorem split_low (c : BitVec 32) : c = bw (c.getLsbD 0) ^^^ ((c >>> 1) <<< 1) := by
  apply BitVec.eq_of_getLsbD_eq
  intro i hi
  rw [BitVec.getLsbD_xor]
  cases i with
  | zero => cases h : c.getLsbD 0 <;> simp [bw]
  | succ i =>
    have h1 : (bw (c.getLsbD 0)).getLsbD (i + 1) = false := by
      cases c.getLsbD 0 <;> simp [bw]
    rw [h1]
    simp [Nat.add_comm, hi]

theorem S_shl (x : BitVec 32) (h : x.getLsbD 31 = false) : S (x <<< 1) = x := by
  rw [S_even _ (by simp)]
  apply BitVec.eq_of_getLsbD_eq
  intro i hi
  rw [BitVec.getLsbD_ushiftRight, BitVec.getLsbD_shiftLeft]
  have : i = 31 ∨ i < 31 := by omega
  rcases this with rfl | h1
  · rw [h]; decide
  · have h2 : decide (1 + i < 32) = true := by simp; omega
    rw [h2]; simp

theorem Sn_feeds : ∀ k (n c : BitVec 32), k ≤ 32 → c.toNat < 2 ^ k → Sn k (n ^^^ c) = feeds n (bits k c)
  | 0, n, c, _, h => by
    have : c = 0 := by apply BitVec.eq_of_toNat_eq; simp at h ⊢; exact h
    subst this; simp [Sn, feeds, bits]
  | k + 1, n, c, hk, h => by
    have hs : (c >>> 1).toNat < 2 ^ k := by
      simp only [BitVec.toNat_ushiftRight, Nat.shiftRight_eq_div_pow]
      rw [Nat.pow_succ] at h; omega
    have h31 : (c >>> 1).getLsbD 31 = false := by simp
    have e : S (n ^^^ c) = feed n (c.getLsbD 0) ^^^ (c >>> 1) := by
      conv => lhs; rw [split_low c]
      rw [← BitVec.xor_assoc, S_xor, S_shl _ h31]; rfl
    simp only [Sn, bits, feeds, List.foldl_cons]
    rw [e]
    exact Sn_feeds k _ _ (by omega) hs

theorem feeds_append (n : BitVec 32) (l m : List Bool) : feeds n (l ++ m) = feeds (feeds n l) m := by simp [feeds]

theorem feeds_zeros : ∀ k (n : BitVec 32), feeds n (List.replicate k false) = Sn k n
  | 0, _ => rfl
  | k + 1, n => by
    have : feeds n (List.replicate (k + 1) false) = feeds (feed n false) (List.replicate k false) := by simp [List.replicate_succ, feeds]
    rw [this, feeds_zeros k]; simp [feed, bw, Sn]

/-- No burst within 32 bits is lost. -/
theorem burst (p q : Nat) (w : BitVec 32) (hw : w ≠ 0) : feeds 0 (List.replicate p false ++ bits 32 w ++ List.replicate q false) ≠ 0 := by
  rw [feeds_append, feeds_append, feeds_zeros, feeds_zeros, Sn_zero]
  intro h
  have h := Sn_inj q h
  rw [← Sn_feeds 32 0 w (Nat.le_refl _) w.isLt] at h
  have h := Sn_inj 32 h
  simp at h
  exact hw h

theorem feeds_xor : ∀ (l m : List Bool) (a b : BitVec 32), l.length = m.length → feeds (a ^^^ b) (List.zipWith (· ^^ ·) l m) = feeds a l ^^^ feeds b m
  | [], [], _, _, _ => by simp [feeds]
  | x :: l, y :: m, a, b, h => by
    have hx : bw (x ^^ y) = bw x ^^^ bw y := by cases x <;> cases y <;> simp [bw]
    have e : feed (a ^^^ b) (x ^^ y) = feed a x ^^^ feed b y := by
      simp only [feed, hx]
      rw [← S_xor]
      congr 1
      simp only [BitVec.xor_assoc]
      congr 1
      simp only [← BitVec.xor_assoc]
      rw [BitVec.xor_comm b (bw x)]
    have := feeds_xor l m (feed a x) (feed b y) (by simpa using h)
    simp only [feeds, List.zipWith_cons_cons, List.foldl_cons] at this ⊢
    rw [e]; exact this

end Crc
end
section
/- The check sum as Go tells it is the register's; a row with its sum behind ends in one register. -/
namespace Go.Proofs.Ythjnkapkhphpeaa.P
open Go.RowKit Go.Proofs.YthjnkapkhphpeaaW.PrintWords Go.Proofs.YthjnkapkhphpeaaW.PrintLast Go.Proofs.YthjnkapkhphpeaaW.PrintMore
set_option linter.unusedVariables false
set_option linter.unusedSimpArgs false
open Crc (S Sn feeds)
theorem xor_nat (a b : BitVec 32) : Go.bits .xor .u32 (a.toNat : Int) (b.toNat : Int) = ((a ^^^ b).toNat : Int) := by
  unfold Go.bits
  simp only [IntKind.bits, BitVec.ofInt_natCast]
  rw [wrap_u32 _ (by omega) (by have := (a ^^^ b).isLt; simp only [BitVec.ofNat_toNat, BitVec.setWidth_eq]; omega)]
  simp only [BitVec.ofNat_toNat, BitVec.setWidth_eq]
  rfl
theorem st_S (v : BitVec 32) : st (v.toNat : Int) = ((S v).toNat : Int) := by
  have hv := v.isLt
  unfold st S
  rw [and1 (by omega) (by omega)]
  have hb : v.getLsbD 0 = decide ((v.toNat : Int) % 2 = 1) := by
    rw [BitVec.getLsbD_eq_getElem (by omega), BitVec.getElem_eq_testBit_toNat, Nat.testBit_zero]
    congr 1
    simp
    omega
  have hh : (v.toNat : Int) / (2 : Int) = ((v >>> 1).toNat : Int) := by
    rw [BitVec.toNat_ushiftRight, Nat.shiftRight_eq_div_pow]; simp
  rw [hb, hh]
  by_cases h : (v.toNat : Int) % 2 = 1
  · rw [h, decide_eq_true rfl]
    simp only [beq_self_eq_true, if_true]
    exact xor_nat (v >>> 1) Crc.poly
  · have : ((v.toNat : Int) % 2 == 1) = false := by simpa using h
    rw [this, decide_eq_false h]
    simp
theorem stN_Sn : ∀ k (v : BitVec 32), stN k (v.toNat : Int) = ((Sn k v).toNat : Int)
  | 0, _ => rfl
  | k + 1, v => by rw [stN, st_S, stN_Sn k]; rfl
def foldB (n : BitVec 32) (l : List Int) : BitVec 32 := l.foldl (fun n c => Sn 8 (n ^^^ BitVec.ofInt 32 c)) n
theorem byteI_B (v : BitVec 32) (c : Int) (h0 : 0 ≤ c) (h1 : c < 4294967296) : byteI (v.toNat : Int) c = ((Sn 8 (v ^^^ BitVec.ofInt 32 c)).toNat : Int) := by
  unfold byteI
  rw [Int.emod_eq_of_lt h0 h1]
  obtain ⟨m, rfl⟩ := Int.eq_ofNat_of_zero_le h0
  have hm : ((BitVec.ofNat 32 m).toNat : Int) = (m : Int) := by rw [BitVec.toNat_ofNat, Nat.mod_eq_of_lt (by omega)]
  rw [← hm, xor_nat, stN_Sn, hm]
  simp
theorem fold_B (l : List Int) (hb : ∀ x ∈ l, 0 ≤ x ∧ x < 256) : ∀ v : BitVec 32, l.foldl byteI (v.toNat : Int) = ((foldB v l).toNat : Int) := by
  induction l with
  | nil => intro v; rfl
  | cons c l ih =>
    intro v
    have hc := hb c (by simp)
    simp only [List.foldl_cons, foldB]
    rw [byteI_B v c hc.1 (by omega)]
    exact ih (fun x hx => hb x (by simp [hx])) _
theorem regI_B (l : List Int) (hb : ∀ x ∈ l, 0 ≤ x ∧ x < 256) : regI l = ((foldB (BitVec.allOnes 32) l).toNat : Int) := fold_B l hb (BitVec.allOnes 32)
theorem crc_B (l : List Int) (hb : ∀ x ∈ l, 0 ≤ x ∧ x < 256) : crc l = ((BitVec.allOnes 32 ^^^ foldB (BitVec.allOnes 32) l).toNat : Int) := by
  unfold crc
  have h1 : IntKind.u32.max = ((BitVec.allOnes 32).toNat : Int) := by decide
  rw [regI_B l hb, h1, xor_nat, w64 (by omega) (by have := (BitVec.allOnes 32 ^^^ foldB (BitVec.allOnes 32) l).isLt; omega)]
theorem foldB_append (n : BitVec 32) (l m : List Int) : foldB n (l ++ m) = foldB (foldB n l) m := by simp [foldB]
/-- The bits of a row of bytes, the lowest first. -/
def rowBits (l : List Int) : List Bool := l.flatMap fun c => Crc.bits 8 (BitVec.ofInt 32 c)
theorem foldB_feeds (l : List Int) (hb : ∀ x ∈ l, 0 ≤ x ∧ x < 256) : ∀ n, foldB n l = feeds n (rowBits l) := by
  induction l with
  | nil => intro n; rfl
  | cons c l ih =>
    intro n
    have hc := hb c (by simp)
    have e : Sn 8 (n ^^^ BitVec.ofInt 32 c) = feeds n (Crc.bits 8 (BitVec.ofInt 32 c)) := by
      refine Crc.Sn_feeds 8 n _ (by omega) ?_
      obtain ⟨m, rfl⟩ := Int.eq_ofNat_of_zero_le hc.1
      simp
      omega
    show foldB (Sn 8 (n ^^^ BitVec.ofInt 32 c)) l = feeds n (Crc.bits 8 (BitVec.ofInt 32 c) ++ rowBits l)
    rw [Crc.feeds_append, ← e]
    exact ih (fun x hx => hb x (by simp [hx])) _
theorem bits_range : ∀ k (c : BitVec 32), Crc.bits k c = (List.range k).map (fun i => c.getLsbD i)
  | 0, _ => rfl
  | k + 1, c => by
    rw [Crc.bits, bits_range k, List.range_succ_eq_map, List.map_cons, List.map_map]
    congr 1
    refine List.map_congr_left fun i _ => ?_
    simp [Nat.add_comm]
theorem byte_bit (x : BitVec 32) (j i : Nat) (hi : i < 8) : (BitVec.ofInt 32 ((x.toNat : Int) / 256 ^ j % 256)).getLsbD i = x.getLsbD (8 * j + i) := by
  have e : ((x.toNat : Int) / 256 ^ j % 256) = ((x.toNat / 2 ^ (8 * j) % 2 ^ 8 : Nat) : Int) := by
    rw [Nat.pow_mul]; simp
  rw [e, BitVec.ofInt_natCast, BitVec.getLsbD_ofNat, Nat.testBit_mod_two_pow, Nat.testBit_div_two_pow]
  simp [hi, show i < 32 by omega, BitVec.getLsbD]
  rw [Nat.add_comm]
theorem rowBits_le (x : BitVec 32) : rowBits (le (x.toNat : Int) 4) = Crc.bits 32 x := by
  have b := byte_bit x
  have b0 := fun i hi => b 0 i hi
  have b1 := fun i hi => b 1 i hi
  have b2 := fun i hi => b 2 i hi
  have b3 := fun i hi => b 3 i hi
  simp only [Nat.mul_zero, Nat.zero_add, Nat.mul_one] at b0 b1
  have e0 : (256 : Int) ^ 0 = 1 := rfl
  have e1 : (256 : Int) ^ 1 = 256 := rfl
  have e2 : (256 : Int) ^ 2 = 65536 := rfl
  have e3 : (256 : Int) ^ 3 = 16777216 := rfl
  rw [e0] at b0
  rw [e1] at b1
  rw [e2] at b2
  rw [e3] at b3
  simp only [Int.ediv_one] at b0
  have h0 : Crc.bits 8 (BitVec.ofInt 32 ((x.toNat : Int) % 256)) = (List.range 8).map (fun i => x.getLsbD i) := by rw [bits_range]; exact List.map_congr_left fun i hi => b0 i (List.mem_range.1 hi)
  have h1 : Crc.bits 8 (BitVec.ofInt 32 ((x.toNat : Int) / 256 % 256)) = (List.range 8).map (fun i => x.getLsbD (8 + i)) := by rw [bits_range]; exact List.map_congr_left fun i hi => b1 i (List.mem_range.1 hi)
  have h2 : Crc.bits 8 (BitVec.ofInt 32 ((x.toNat : Int) / 65536 % 256)) = (List.range 8).map (fun i => x.getLsbD (8 * 2 + i)) := by rw [bits_range]; exact List.map_congr_left fun i hi => b2 i (List.mem_range.1 hi)
  have h3 : Crc.bits 8 (BitVec.ofInt 32 ((x.toNat : Int) / 16777216 % 256)) = (List.range 8).map (fun i => x.getLsbD (8 * 3 + i)) := by rw [bits_range]; exact List.map_congr_left fun i hi => b3 i (List.mem_range.1 hi)
  show rowBits (le4 (x.toNat : Int)) = _
  simp only [rowBits, le4, List.flatMap_cons, List.flatMap_nil]
  rw [h0, h1, h2, h3, bits_range]
  rfl
theorem le_word (x : BitVec 32) (n : BitVec 32) : foldB n (le (x.toNat : Int) 4) = Sn 32 (n ^^^ x) := by
  have hb : ∀ y ∈ le (x.toNat : Int) 4, 0 ≤ y ∧ y < 256 := by
    intro y hy
    have hy : y ∈ le4 (x.toNat : Int) := hy
    simp only [le4, List.mem_cons, List.not_mem_nil, or_false] at hy
    rcases hy with rfl | rfl | rfl | rfl <;> omega
  rw [foldB_feeds _ hb, rowBits_le, Crc.Sn_feeds 32 n x (Nat.le_refl _) x.isLt]
/-- A row with its check sum behind ends in one register, whatever it is. -/
theorem residue (l : List Int) (hb : ∀ x ∈ l, 0 ≤ x ∧ x < 256) : foldB (BitVec.allOnes 32) (l ++ le (crc l) 4) = Sn 32 (BitVec.allOnes 32) := by
  rw [foldB_append, crc_B l hb, le_word]
  congr 1
  rw [BitVec.xor_comm, BitVec.xor_assoc, BitVec.xor_self]
  simp
theorem sums_same (l m : List Int) (hl : ∀ x ∈ l, 0 ≤ x ∧ x < 256) (hm : ∀ x ∈ m, 0 ≤ x ∧ x < 256) : crc (l ++ le (crc l) 4 ++ m) = crc ([0] ++ le (crc [0]) 4 ++ m) := by
  have h4 : ∀ k : List Int, ∀ y ∈ le (crc k) 4, 0 ≤ y ∧ y < 256 := by
    intro k y hy
    have hy : y ∈ le4 (crc k) := hy
    simp only [le4, List.mem_cons, List.not_mem_nil, or_false] at hy
    rcases hy with rfl | rfl | rfl | rfl <;> omega
  have h0 : ∀ x ∈ ([0] : List Int), 0 ≤ x ∧ x < 256 := by simp
  have hall : ∀ k : List Int, (∀ x ∈ k, 0 ≤ x ∧ x < 256) → ∀ x ∈ k ++ le (crc k) 4 ++ m, 0 ≤ x ∧ x < 256 := by
    intro k hk x hx
    simp only [List.mem_append] at hx
    rcases hx with (hx | hx) | hx
    · exact hk x hx
    · exact h4 k x hx
    · exact hm x hx
  rw [crc_B _ (hall l hl), crc_B _ (hall [0] h0), foldB_append _ (l ++ _), foldB_append _ ([0] ++ _), residue l hl, residue [0] h0]
end Go.Proofs.Ythjnkapkhphpeaa.P
end
section
/- The plain laws of slot: what is printed, parsed and picked. -/
namespace Go.Proofs.Ythjnkapkhphpeaa.P
open Go.RowKit Go.Proofs.YthjnkapkhphpeaaW.PrintWords Go.Proofs.YthjnkapkhphpeaaW.PrintLast Go.Proofs.YthjnkapkhphpeaaW.PrintMore
set_option linter.unusedVariables false
set_option linter.unusedSimpArgs false
theorem toList_inj {x y : ByteArray} (h : x.toList = y.toList) : x = y := by
  rw [ByteArray.toList_eq, ByteArray.toList_eq] at h
  cases x; cases y
  simp at h
  rw [h]
abbrev Rt (g s m : Int) : Prop := 1 ≤ g ∧ g ≤ 2147483647 ∧ 0 ≤ s ∧ s ≤ 2147483647 ∧ 0 ≤ m ∧ m < 4294967296
def blk (g s m : Int) : ByteArray := strOfNums (pad (slot_Print.row g s m) ++ le (crc (pad (slot_Print.row g s m))) 4)
theorem row_eq (g s m : Int) : slot_Print.row g s m = 97 :: 115 :: (le4 g ++ le4 s ++ le4 m) := by simp [slot_Print.row, le, le4]
theorem row_len (g s m : Int) : (slot_Print.row g s m).length = 14 := by simp [row_eq, le4]
theorem row_bd (g s m : Int) : ∀ x ∈ slot_Print.row g s m, 0 ≤ x ∧ x < 256 := by
  intro x hx
  simp only [row_eq, le4, List.mem_cons, List.mem_append, List.not_mem_nil, or_false] at hx
  omega
theorem print_ok {g s m : Int} (h : Rt g s m) : slot_Print.f g s m = some (blk g s m, 0) := by
  unfold slot_Print.f
  rw [if_pos ((right_iff _ _ _).2 h)]
  unfold num_Seal.f
  rw [if_neg (by rw [row_len]; omega)]
  rfl
theorem print_bad {g s m : Int} (h : ¬ Rt g s m) : slot_Print.f g s m = some (⟨#[]⟩, 1) := by
  unfold slot_Print.f
  rw [if_neg fun hr => h ((right_iff _ _ _).1 hr)]
theorem open_blk (g s m : Int) : num_Open.f (blk g s m) = some (pad (slot_Print.row g s m), 0) := open_seal (by rw [row_len]; omega) (row_bd g s m)
theorem blk_size (g s m : Int) : (blk g s m).size = 40 := seal_size (by rw [row_len]; omega)
theorem lev_row {g s m : Int} (h : Rt g s m) : lev (pad (slot_Print.row g s m)) 2 4 = g ∧ lev (pad (slot_Print.row g s m)) 6 4 = s ∧ lev (pad (slot_Print.row g s m)) 10 4 = m := by
  unfold Rt at h
  simp [row_eq, le4, pad, lev, rd]
  omega
theorem prefix_of (T : List Int) : strings_HasPrefix.f (strOfNums (97 :: 115 :: T)) ⟨#[97, 115]⟩ = some true := by
  have hs : (strOfNums (97 :: 115 :: T)).size = T.length + 2 := by simp [strOfNums, ByteArray.size]
  have h2 : ((⟨#[97, 115]⟩ : ByteArray).size : Int) = 2 := rfl
  unfold strings_HasPrefix.f stringslite_HasPrefix.f
  rw [h2, hs, if_pos (by omega), if_pos (by omega), if_pos (by omega)]
  simp [ByteArray.toList_eq, strOfNums]
theorem prefix_blk (g s m : Int) : strings_HasPrefix.f (blk g s m) ⟨#[97, 115]⟩ = some true := by
  unfold blk pad
  rw [row_eq]
  simp only [List.cons_append]
  exact prefix_of _
theorem prefix_any (b : ByteArray) : ∃ p, strings_HasPrefix.f b ⟨#[97, 115]⟩ = some p := by
  have h2 : ((⟨#[97, 115]⟩ : ByteArray).size : Int) = 2 := rfl
  unfold strings_HasPrefix.f stringslite_HasPrefix.f
  rw [h2]
  by_cases h : (b.size : Int) ≥ 2
  · rw [if_pos h, if_pos (by omega), if_pos h]
    exact ⟨_, rfl⟩
  · rw [if_neg h]
    exact ⟨_, rfl⟩
theorem parse_blk {g s m : Int} (h : Rt g s m) : slot_Parse.f (blk g s m) = some (g, s, m, 0) := by
  obtain ⟨h1, h2, h3⟩ := lev_row h
  unfold slot_Parse.f
  rw [open_blk, Option.bind_some, prefix_blk, Option.bind_some, if_pos ⟨rfl, rfl⟩]
  simp only [h1, h2, h3]
  rw [print_ok h, Option.bind_some, if_pos ⟨rfl, rfl⟩]
theorem parse_cases (b : ByteArray) : slot_Parse.f b = some (0, 0, 0, 2) ∨ ∃ g s m, Rt g s m ∧ b = blk g s m ∧ slot_Parse.f b = some (g, s, m, 0) := by
  obtain ⟨⟨l, e⟩, ho⟩ : ∃ o, num_Open.f b = some o := by unfold num_Open.f; split <;> exact ⟨_, rfl⟩
  obtain ⟨p, hp⟩ := prefix_any b
  unfold slot_Parse.f
  rw [ho, Option.bind_some, hp, Option.bind_some]
  by_cases hc : e = 0 ∧ p = true
  · rw [if_pos hc]
    by_cases hr : Rt (lev l 2 4) (lev l 6 4) (lev l 10 4)
    · simp only []
      rw [print_ok hr, Option.bind_some]
      by_cases hx : (blk (lev l 2 4) (lev l 6 4) (lev l 10 4)).toList = b.toList
      · rw [if_pos ⟨rfl, hx⟩]
        exact .inr ⟨_, _, _, hr, (toList_inj hx).symm, rfl⟩
      · rw [if_neg fun h => hx h.2]
        exact .inl rfl
    · simp only []
      rw [print_bad hr, Option.bind_some, if_neg (by simp)]
      exact .inl rfl
  · rw [if_neg hc]
    exact .inl rfl
theorem pick_val (k : Nat) {a b : ByteArray} {x1 x2 x3 e y1 y2 y3 f : Int} (hx : slot_Parse.f a = some (x1, x2, x3, e)) (hy : slot_Parse.f b = some (y1, y2, y3, f)) :
    slot_Pick.f (k + 1) a b = some (if e ≠ 0 ∧ f ≠ 0 then (0, 0, 0, 0, 4) else if e ≠ 0 ∨ (f = 0 ∧ y1 > x1) then (1, y1, y2, y3, 0) else (0, x1, x2, x3, 0)) := by
  unfold slot_Pick.f
  rw [hx, Option.bind_some, hy, Option.bind_some]
  simp only [slot_Pick.j0]
  by_cases he : e = 0
  · subst he
    by_cases hf : f = 0
    · subst hf
      by_cases hg : y1 > x1 <;> simp [hg]
    · simp [hf]
  · by_cases hf : f = 0
    · subst hf
      simp [he]
    · simp [he, hf]
theorem refRight_val (a b c : Int) : assartref03_Right.f a b c = some (decide (Rt a b c)) := by
  unfold assartref03_Right.f Rt
  by_cases h1 : a ≥ 1
  · by_cases h2 : a ≤ 2147483647
    · by_cases h3 : b ≥ 0
      · by_cases h4 : b ≤ 2147483647
        · by_cases h5 : c ≥ 0
          · simp [h1, h2, h3, h4, h5]
            omega
          · have : ¬ 0 ≤ c := h5
            simp [h1, h2, h3, h4, this]
        · simp [h1, h2, h3, h4]
      · have : ¬ 0 ≤ b := h3
        simp [h1, h2, this]
    · simp [h1, h2]
  · have : ¬ 1 ≤ a := h1
    simp [this]
end Go.Proofs.Ythjnkapkhphpeaa.P
end
section
-- Written by a program of this session (xprint.py, over the kit's print). Not trusted: Lean checks it.
namespace Go.Proofs.Ythjnkapkhphpeaa.P
open Go.RowKit Go.Proofs.YthjnkapkhphpeaaW.PrintWords Go.Proofs.YthjnkapkhphpeaaW.PrintLast Go.Proofs.YthjnkapkhphpeaaW.PrintMore
attribute [local go_sem] max2_int min2_int max_two min_two max_three min_three max_four min_four   -- for this text's walks alone
set_option linter.unusedVariables false
set_option linter.unusedSimpArgs false

/-! ### slot_Book: function 22 -/
def slot_Book.f (l0 : List Int) : Option (Int × Int) := (num_Sum.f l0).bind fun t120 => (some ((l0.length : Int), t120))
set_option maxHeartbeats 8000000 in
set_option maxRecDepth 100000 in
theorem slot_Book.calls (A0 : Option Addr) (c0 : Nat) (l0 : List Int) (r1 : Int) (r2 : Int) (w : World) (hr0 : Kd.C (Kd.int .u8) w A0 l0.length l0) (hc0 : l0.length ≤ c0) (h : slot_Book.f l0 = some (r1, r2)) :
    Calls Try.prog 22 #[.slice A0 l0.length c0] w fun e w' => e = .returned (.tuple #[.int .i64 r1, .int .i64 r2]) ∧ Drawn0 w w' := by
  have HR0 := Aside0.mk hr0
  have HC0 := Aside0.mk hc0
  clear hr0 hc0
  have H : ((num_Sum.f l0).bind fun t120 => (some ((l0.length : Int), t120))) = some (r1, r2) := h
  clear h
  replace H := Option.bind_eq_some_iff.mp H
  obtain ⟨t120, A20, H⟩ := H
  replace H : (some ((l0.length : Int), t120)) = some (r1, r2) := H
  have A2 := Aside0.mk A20
  clear A20
  simp only [Option.some.injEq, Prod.mk.injEq] at H
  obtain ⟨rfl, rfl⟩ := H
  go_enter Try.func22, Try.ntmps22
  go_wp2_with (first | ((with_reducible refine gate_callee (f := 52) rfl ?_); refine goesL_ (some 7) rfl rfl Try.func52 (by kernel_rfl) rfl #[.slice A0 l0.length c0] rfl (by (try simp only [List.map_toArray, List.map_cons, List.map_nil]); first | done | rfl | (simp only [List.length_drop, List.length_take]; rfl)) ?_; (with_reducible refine (num_Sum.calls _ _ l0 t120 _ ?side1 ?side2 A2.out).mono ?_); (case side1 => repeat (first | exact HR0.out | (with_reducible refine Kd.C_alloc ?_ _) | (with_reducible refine Kd.C_drewN ?_ _) | (with_reducible refine Kd.C_drew ?_))); (case side2 => exact HC0.out); rintro e w' ⟨rfl, ⟨nd, rfl⟩⟩; refine ⟨_, rfl, ?_⟩))
  go_ret2
  exact ⟨by first | rfl | (simp; done) | (simp [*]; done), by repeat (first | exact Drawn0.refl _ | apply Drawn0.step)⟩

end Go.Proofs.Ythjnkapkhphpeaa.P
end
section
/- assartlaw03.shown: the document's example holds. -/
namespace Go.Proofs.Ythjnkapkhphpeaa.P
open Go.RowKit Go.Proofs.YthjnkapkhphpeaaW.PrintWords Go.Proofs.YthjnkapkhphpeaaW.PrintLast Go.Proofs.YthjnkapkhphpeaaW.PrintMore
set_option linter.unusedVariables false
set_option linter.unusedSimpArgs false
def assartlaw03_shown.f : Option Bool := some true
theorem shown_val : assartlaw03_shown.f = some true := rfl
set_option maxHeartbeats 8000000 in
set_option maxRecDepth 100000 in
theorem assartlaw03_shown.calls (r : Bool) (w : World) (h : assartlaw03_shown.f = some r) :
    Calls Try.prog 15 #[] w fun e w' => e = .returned (.bool r) ∧ Below w.heap.size w w' := by
  have hu23 := Try.underlying23
  obtain rfl := Option.some.inj h
  clear h
  have r1 : Rt 1 3 4 := by decide
  have r2 : Rt 2 5 6 := by decide
  have hp1 := print_ok r1
  have hp2 := print_ok r2
  have hq1 := parse_blk r1
  have hpk := pick_val 0 (parse_blk r1) (parse_blk r2)
  simp at hpk
  obtain ⟨S1, e1⟩ : ∃ S, blk 1 3 4 = S := ⟨_, rfl⟩
  obtain ⟨S2, e2⟩ : ∃ S, blk 2 5 6 = S := ⟨_, rfl⟩
  rw [e1] at hp1 hq1 hpk
  rw [e2] at hp2 hpk
  have HP1 := Aside0.mk hp1
  have HP2 := Aside0.mk hp2
  have HQ1 := Aside0.mk hq1
  have HPK := Aside0.mk hpk
  clear hp1 hp2 hq1 hpk e1 e2 r1 r2
  go_enter Try.func15, Try.ntmps15
  go_wp2_with fail
  refine (slot_Print.calls _ _ _ _ _ _ HP1.out).mono ?_
  rintro e wa ⟨rfl, hb⟩
  have HBa := Aside0.mk hb
  clear hb
  go_wp2_with fail
  refine (slot_Print.calls _ _ _ _ _ _ HP2.out).mono ?_
  rintro e wb ⟨rfl, hb⟩
  have HBb : Aside0 (Below w.heap.size w wb) := ⟨HBa.out.trans (hb.mono HBa.out.size)⟩
  clear hb HBa
  go_wp2_with fail
  refine (slot_Pick.calls 1 _ _ _ _ _ _ _ _ HPK.out).mono ?_
  rintro e wc ⟨rfl, hb⟩
  have HBc : Aside0 (Below w.heap.size w wc) := ⟨HBb.out.trans (hb.mono HBb.out.size)⟩
  clear hb HBb
  go_wp2_with (first | ((with_reducible refine gate_dst (N := 6) rfl ?_); refine box_event ?hg (N := 6) ?hd (cs := #[.int .i64 0, .int .i64 0, .int .i64 0]) (t := 23) ?hr ?_; (case hd => rfl); (case hg => rfl); (case hr => first | (go_simp; done) | (go_simp; rfl)); intro g6 hg wd hbox hb; have HBd := Aside0.mk (HBc.out.trans (hb.mono HBc.out.size)); have HK6 := Aside0.mk hbox; have HG6 : Aside0 (w.heap.size ≤ g6) := ⟨by rw [hg]; exact HBc.out.size⟩; have f0 := blk_frozen hbox 0; have f1 := blk_frozen hbox 1; have f2 := blk_frozen hbox 2; have x0 : wd.cell? ⟨g6, 0, none⟩ = some (.int .i64 0) := (blk_cell hbox 0).trans rfl; have x1 : wd.cell? ⟨g6, 1, none⟩ = some (.int .i64 0) := (blk_cell hbox 1).trans rfl; have x2 : wd.cell? ⟨g6, 2, none⟩ = some (.int .i64 0) := (blk_cell hbox 2).trans rfl; clear hb hbox hg) | fail)
  have h6 := blk_put (cs' := #[.int .i64 2, .int .i64 5, .int .i64 6]) (blk_put (cs' := #[.int .i64 2, .int .i64 5, .int .i64 0]) (blk_put (cs' := #[.int .i64 2, .int .i64 0, .int .i64 0]) HK6.out 0 (.int .i64 2) rfl) 1 (.int .i64 5) rfl) 2 (.int .i64 6) rfl
  have hB6 := below_set (j := 2) (v := .int .i64 6) (below_set (j := 1) (v := .int .i64 5) (below_set (j := 0) (v := .int .i64 2) HBd.out HG6.out) HG6.out) HG6.out
  have H6 := Aside0.mk h6
  have HB6 := Aside0.mk hB6
  clear h6 hB6 f0 f1 f2 x0 x1 x2 HK6 HBd HBc
  refine (slot_Parse.calls _ _ _ _ _ _ HQ1.out).mono ?_
  rintro e we ⟨rfl, hb⟩
  have HBe : Aside0 (Below w.heap.size w we) := ⟨HB6.out.trans (hb.mono HB6.out.size)⟩
  have H6e := Aside0.mk (blk_below H6.out hb)
  clear hb HB6 H6
  go_wp2_with (first | ((with_reducible refine gate_dst (N := 8) rfl ?_); refine box_event ?hg (N := 8) ?hd (cs := #[.int .i64 0, .int .i64 0, .int .i64 0]) (t := 23) ?hr ?_; (case hd => rfl); (case hg => rfl); (case hr => first | (go_simp; done) | (go_simp; rfl)); intro g8 hg wf hbox hb; have HBf := Aside0.mk (HBe.out.trans (hb.mono HBe.out.size)); have HK8 := Aside0.mk hbox; have HG8 : Aside0 (w.heap.size ≤ g8) := ⟨by rw [hg]; exact HBe.out.size⟩; have HNE : Aside0 (g6 ≠ g8) := ⟨by have := blk_lt H6e.out; rw [hg]; omega⟩; have H6f := Aside0.mk (blk_below H6e.out hb); have kc := Joins.run_convert_bytes_const_at (P := Try.prog) (((wf.setCell ⟨g8, 0, none⟩ (.int .i64 1)).setCell ⟨g8, 1, none⟩ (.int .i64 3)).setCell ⟨g8, 2, none⟩ (.int .i64 4)) 24 5 #[.int .u8 49, .int .u8 50, .int .u8 51, .int .u8 52, .int .u8 53, .int .u8 54, .int .u8 55, .int .u8 56, .int .u8 57] 9 9 wf.heap.size (by simp [World.setCell]) Try.underlying24 Try.underlying5; have f0 := blk_frozen hbox 0; have f1 := blk_frozen hbox 1; have f2 := blk_frozen hbox 2; have x0 : wf.cell? ⟨g8, 0, none⟩ = some (.int .i64 0) := (blk_cell hbox 0).trans rfl; have x1 : wf.cell? ⟨g8, 1, none⟩ = some (.int .i64 0) := (blk_cell hbox 1).trans rfl; have x2 : wf.cell? ⟨g8, 2, none⟩ = some (.int .i64 0) := (blk_cell hbox 2).trans rfl; clear hb hbox hg) | fail)
  clear kc
  have h8 := blk_put (cs' := #[.int .i64 1, .int .i64 3, .int .i64 4]) (blk_put (cs' := #[.int .i64 1, .int .i64 3, .int .i64 0]) (blk_put (cs' := #[.int .i64 1, .int .i64 0, .int .i64 0]) HK8.out 0 (.int .i64 1) rfl) 1 (.int .i64 3) rfl) 2 (.int .i64 4) rfl
  have h6 := blk_far (blk_far (blk_far H6f.out (p := ⟨g8, 0, none⟩) HNE.out (.int .i64 1)) (p := ⟨g8, 1, none⟩) HNE.out (.int .i64 3)) (p := ⟨g8, 2, none⟩) HNE.out (.int .i64 4)
  have hB8 := below_set (j := 2) (v := .int .i64 4) (below_set (j := 1) (v := .int .i64 3) (below_set (j := 0) (v := .int .i64 1) HBf.out HG8.out) HG8.out) HG8.out
  have hsz : (((wf.setCell ⟨g8, 0, none⟩ (.int .i64 1)).setCell ⟨g8, 1, none⟩ (.int .i64 3)).setCell ⟨g8, 2, none⟩ (.int .i64 4)).heap.size = wf.heap.size := by simp [World.setCell]
  have hL := lit_C (((wf.setCell ⟨g8, 0, none⟩ (.int .i64 1)).setCell ⟨g8, 1, none⟩ (.int .i64 3)).setCell ⟨g8, 2, none⟩ (.int .i64 4)) 5 [49, 50, 51, 52, 53, 54, 55, 56, 57] (9, 10) (by simp)
  rw [hsz] at hL
  have h8a := blk_alloc h8 (.cells #[.int .u8 49, .int .u8 50, .int .u8 51, .int .u8 52, .int .u8 53, .int .u8 54, .int .u8 55, .int .u8 56, .int .u8 57] 5 (9, 10))
  have h6a := blk_alloc h6 (.cells #[.int .u8 49, .int .u8 50, .int .u8 51, .int .u8 52, .int .u8 53, .int .u8 54, .int .u8 55, .int .u8 56, .int .u8 57] 5 (9, 10))
  have hBa := hB8.alloc hB8.size (.cells #[.int .u8 49, .int .u8 50, .int .u8 51, .int .u8 52, .int .u8 53, .int .u8 54, .int .u8 55, .int .u8 56, .int .u8 57] 5 (9, 10))
  have hbk : slot_Book.f [49, 50, 51, 52, 53, 54, 55, 56, 57] = some (9, 3421780262) := by
    have hs : num_Sum.f [49, 50, 51, 52, 53, 54, 55, 56, 57] = some 3421780262 := by unfold num_Sum.f; rw [if_pos (by simp)]; exact congrArg some sum_ex
    unfold slot_Book.f
    rw [hs, Option.bind_some]
    rfl
  have HC := slot_Book.calls (some ⟨wf.heap.size, 0, none⟩) 9 [49, 50, 51, 52, 53, 54, 55, 56, 57] 9 3421780262 _ hL (by simp) hbk
  clear hL hbk f0 f1 f2 x0 x1 x2
  refine HC.mono ?_
  rintro e wh ⟨rfl, ⟨nd, rfl⟩⟩
  clear HC
  generalize hW : ((((wf.setCell ⟨g8, 0, none⟩ (.int .i64 1)).setCell ⟨g8, 1, none⟩ (.int .i64 3)).setCell ⟨g8, 2, none⟩ (.int .i64 4)).alloc (.cells (encs (Value.int .u8) [49, 50, 51, 52, 53, 54, 55, 56, 57]).toArray 5 (9, 10))).drewN nd = wx
  have h8x : wx.heap[g8]? = some (.cells #[.int .i64 1, .int .i64 3, .int .i64 4] 23 (0, 0)) := by rw [← hW]; exact h8a
  have h6x : wx.heap[g6]? = some (.cells #[.int .i64 2, .int .i64 5, .int .i64 6] 23 (0, 0)) := by rw [← hW]; exact h6a
  have HBx : Aside0 (Below w.heap.size w wx) := ⟨by rw [← hW]; exact pw_below_drewN hBa nd⟩
  have y0 : wx.cell? ⟨g6, 0, none⟩ = some (.int .i64 2) := (blk_cell h6x 0).trans rfl
  have y1 : wx.cell? ⟨g6, 1, none⟩ = some (.int .i64 5) := (blk_cell h6x 1).trans rfl
  have y2 : wx.cell? ⟨g6, 2, none⟩ = some (.int .i64 6) := (blk_cell h6x 2).trans rfl
  have z0 : wx.cell? ⟨g8, 0, none⟩ = some (.int .i64 1) := (blk_cell h8x 0).trans rfl
  have z1 : wx.cell? ⟨g8, 1, none⟩ = some (.int .i64 3) := (blk_cell h8x 1).trans rfl
  have z2 : wx.cell? ⟨g8, 2, none⟩ = some (.int .i64 4) := (blk_cell h8x 2).trans rfl
  have heq : ∀ W, (binOp .eql 23 (.agg #[.int .i64 2, .int .i64 5, .int .i64 6]) (.agg #[.int .i64 2, .int .i64 5, .int .i64 6])).run Try.prog W = .ok (.bool true) W := fun _ => by kernel_rfl
  clear h8 h6 hB8 hsz h8a h6a hBa hW HK8 H6f HG8 HNE HBf h8x h6x HG6 H6e HBe
  go_wp2_with fail
  refine (slot_Right.calls 1 3 4 true _ (by decide)).mono ?_
  rintro e wz ⟨rfl, hb⟩
  have HBz : Aside0 (Below w.heap.size w wz) := ⟨HBx.out.trans (hb.mono HBx.out.size)⟩
  clear hb HBx
  go_wp2
  go_ret
  exact ⟨rfl, HBz.out⟩
end Go.Proofs.Ythjnkapkhphpeaa.P
end
section
-- Written by a program of this session (xprint.py, over the kit's print). Not trusted: Lean checks it.
namespace Go.Proofs.Ythjnkapkhphpeaa.P
open Go.RowKit Go.Proofs.YthjnkapkhphpeaaW.PrintWords Go.Proofs.YthjnkapkhphpeaaW.PrintLast Go.Proofs.YthjnkapkhphpeaaW.PrintMore
attribute [local go_sem] max2_int min2_int max_two min_two max_three min_three max_four min_four   -- for this text's walks alone
set_option linter.unusedVariables false
set_option linter.unusedSimpArgs false

/-! ### assartref03_Print: function 17 -/
def assartref03_Print.f (k : Nat) (a0_0 : Int) (a0_1 : Int) (a0_2 : Int) : Option (ByteArray × Int) := (assartref03_Right.f a0_0 a0_1 a0_2).bind fun t147 => (if t147 = true then ((some (([97, 115] : List Int) : List Int)).bind fun y148 => ((assartref01_Put.f k a0_0 4).bind fun t151 => (if y148.length + t151.length < 140737488355328 then ((some (y148 ++ t151 : List Int)).bind fun y154 => ((assartref01_Put.f k a0_1 4).bind fun t157 => (if y154.length + t157.length < 140737488355328 then ((some (y154 ++ t157 : List Int)).bind fun y160 => ((assartref01_Put.f k a0_2 4).bind fun t163 => (if y160.length + t163.length < 140737488355328 then ((assartref01_Seal.f k (y160 ++ t163)).bind fun bt169 => (some (bt169.1, bt169.2))) else (none)))) else (none)))) else (none)))) else (some ((⟨#[]⟩ : ByteArray), 1)))
theorem assartref03_Print.mono : ∀ a0 a1 a2 k, LeO (assartref03_Print.f k a0 a1 a2) (assartref03_Print.f (k + 1) a0 a1 a2) := by
  intro a0 a1 a2 k
  unfold assartref03_Print.f
  repeat' first
      | (with_reducible exact assartref01_Put.mono _ _ _)
      | (with_reducible exact assartref01_Seal.mono _ _)
      | (with_reducible exact LeO.refl _)
      | (with_reducible exact LeO.none _)
      | (with_reducible refine LeO.ite ?_ ?_)
      | (with_reducible refine LeO.bind ?_ (fun _ => ?_))
      | exact assartref01_Put.mono _ _ _
      | exact assartref01_Seal.mono _ _
      | exact LeO.none _
      | refine LeO.ite ?_ ?_
      | refine LeO.bind ?_ (fun _ => ?_)
set_option maxHeartbeats 8000000 in
set_option maxRecDepth 100000 in
theorem assartref03_Print.calls (k : Nat) (a0_0 : Int) (a0_1 : Int) (a0_2 : Int) (r1 : ByteArray) (r2 : Int) (w : World) (h : assartref03_Print.f k a0_0 a0_1 a0_2 = some (r1, r2)) :
    Calls Try.prog 17 #[.agg #[.int .i64 a0_0, .int .i64 a0_1, .int .i64 a0_2]] w fun e w' => e = .returned (.tuple #[.string r1, .int .i64 r2]) ∧ Below w.heap.size w w' := by
  have hu23 := Try.underlying23
  have HB := Aside0.mk (Below.refl w.heap.size w)
  have H : ((assartref03_Right.f a0_0 a0_1 a0_2).bind fun t147 => (if t147 = true then ((some (([97, 115] : List Int) : List Int)).bind fun y148 => ((assartref01_Put.f k a0_0 4).bind fun t151 => (if y148.length + t151.length < 140737488355328 then ((some (y148 ++ t151 : List Int)).bind fun y154 => ((assartref01_Put.f k a0_1 4).bind fun t157 => (if y154.length + t157.length < 140737488355328 then ((some (y154 ++ t157 : List Int)).bind fun y160 => ((assartref01_Put.f k a0_2 4).bind fun t163 => (if y160.length + t163.length < 140737488355328 then ((assartref01_Seal.f k (y160 ++ t163)).bind fun bt169 => (some (bt169.1, bt169.2))) else (none)))) else (none)))) else (none)))) else (some ((⟨#[]⟩ : ByteArray), 1)))) = some (r1, r2) := h
  clear h
  replace H := Option.bind_eq_some_iff.mp H
  obtain ⟨t147, A20, H⟩ := H
  replace H : (if t147 = true then ((some (([97, 115] : List Int) : List Int)).bind fun y148 => ((assartref01_Put.f k a0_0 4).bind fun t151 => (if y148.length + t151.length < 140737488355328 then ((some (y148 ++ t151 : List Int)).bind fun y154 => ((assartref01_Put.f k a0_1 4).bind fun t157 => (if y154.length + t157.length < 140737488355328 then ((some (y154 ++ t157 : List Int)).bind fun y160 => ((assartref01_Put.f k a0_2 4).bind fun t163 => (if y160.length + t163.length < 140737488355328 then ((assartref01_Seal.f k (y160 ++ t163)).bind fun bt169 => (some (bt169.1, bt169.2))) else (none)))) else (none)))) else (none)))) else (some ((⟨#[]⟩ : ByteArray), 1))) = some (r1, r2) := H
  have A2 := Aside0.mk A20
  clear A20
  by_cases c3 : t147 = true
  · subst c3
    have H1 : ((some (([97, 115] : List Int) : List Int)).bind fun y148 => ((assartref01_Put.f k a0_0 4).bind fun t151 => (if y148.length + t151.length < 140737488355328 then ((some (y148 ++ t151 : List Int)).bind fun y154 => ((assartref01_Put.f k a0_1 4).bind fun t157 => (if y154.length + t157.length < 140737488355328 then ((some (y154 ++ t157 : List Int)).bind fun y160 => ((assartref01_Put.f k a0_2 4).bind fun t163 => (if y160.length + t163.length < 140737488355328 then ((assartref01_Seal.f k (y160 ++ t163)).bind fun bt169 => (some (bt169.1, bt169.2))) else (none)))) else (none)))) else (none)))) = some (r1, r2) := by rw [if_pos rfl] at H; exact H
    clear H
    have H := H1
    clear H1
    obtain ⟨y148, hy148⟩ : ∃ y_ : List Int, y_ = (([97, 115] : List Int)) := ⟨_, rfl⟩
    replace H : ((assartref01_Put.f k a0_0 4).bind fun t151 => (if y148.length + t151.length < 140737488355328 then ((some (y148 ++ t151 : List Int)).bind fun y154 => ((assartref01_Put.f k a0_1 4).bind fun t157 => (if y154.length + t157.length < 140737488355328 then ((some (y154 ++ t157 : List Int)).bind fun y160 => ((assartref01_Put.f k a0_2 4).bind fun t163 => (if y160.length + t163.length < 140737488355328 then ((assartref01_Seal.f k (y160 ++ t163)).bind fun bt169 => (some (bt169.1, bt169.2))) else (none)))) else (none)))) else (none))) = some (r1, r2) := by first | (rw [hy148]; with_reducible exact H) | (have H2_ := (Option.bind_some _ _).symm.trans H; rw [hy148]; with_reducible exact H2_) | (have H2_ := (Option.bind_some _ _).symm.trans H; with_reducible exact H2_) | with_reducible exact H | (rw [hy148]; exact H) | exact H
    have Ny148 := Aside0.mk hy148
    clear hy148
    replace H := Option.bind_eq_some_iff.mp H
    obtain ⟨t151, A40, H⟩ := H
    replace H : (if y148.length + t151.length < 140737488355328 then ((some (y148 ++ t151 : List Int)).bind fun y154 => ((assartref01_Put.f k a0_1 4).bind fun t157 => (if y154.length + t157.length < 140737488355328 then ((some (y154 ++ t157 : List Int)).bind fun y160 => ((assartref01_Put.f k a0_2 4).bind fun t163 => (if y160.length + t163.length < 140737488355328 then ((assartref01_Seal.f k (y160 ++ t163)).bind fun bt169 => (some (bt169.1, bt169.2))) else (none)))) else (none)))) else (none)) = some (r1, r2) := H
    have A4 := Aside0.mk A40
    clear A40
    by_cases c5 : y148.length + t151.length < 140737488355328
    · rw [if_pos c5] at H
      have LMc5 := Aside0.mk c5
      clear c5
      obtain ⟨y154, hy154⟩ : ∃ y_ : List Int, y_ = (y148 ++ t151) := ⟨_, rfl⟩
      replace H : ((assartref01_Put.f k a0_1 4).bind fun t157 => (if y154.length + t157.length < 140737488355328 then ((some (y154 ++ t157 : List Int)).bind fun y160 => ((assartref01_Put.f k a0_2 4).bind fun t163 => (if y160.length + t163.length < 140737488355328 then ((assartref01_Seal.f k (y160 ++ t163)).bind fun bt169 => (some (bt169.1, bt169.2))) else (none)))) else (none))) = some (r1, r2) := by first | (rw [hy154]; with_reducible exact H) | (have H2_ := (Option.bind_some _ _).symm.trans H; rw [hy154]; with_reducible exact H2_) | (have H2_ := (Option.bind_some _ _).symm.trans H; with_reducible exact H2_) | with_reducible exact H | (rw [hy154]; exact H) | exact H
      have Ny154 := Aside0.mk hy154
      clear hy154
      replace H := Option.bind_eq_some_iff.mp H
      obtain ⟨t157, A60, H⟩ := H
      replace H : (if y154.length + t157.length < 140737488355328 then ((some (y154 ++ t157 : List Int)).bind fun y160 => ((assartref01_Put.f k a0_2 4).bind fun t163 => (if y160.length + t163.length < 140737488355328 then ((assartref01_Seal.f k (y160 ++ t163)).bind fun bt169 => (some (bt169.1, bt169.2))) else (none)))) else (none)) = some (r1, r2) := H
      have A6 := Aside0.mk A60
      clear A60
      by_cases c7 : y154.length + t157.length < 140737488355328
      · rw [if_pos c7] at H
        have LMc7 := Aside0.mk c7
        clear c7
        obtain ⟨y160, hy160⟩ : ∃ y_ : List Int, y_ = (y154 ++ t157) := ⟨_, rfl⟩
        replace H : ((assartref01_Put.f k a0_2 4).bind fun t163 => (if y160.length + t163.length < 140737488355328 then ((assartref01_Seal.f k (y160 ++ t163)).bind fun bt169 => (some (bt169.1, bt169.2))) else (none))) = some (r1, r2) := by first | (rw [hy160]; with_reducible exact H) | (have H2_ := (Option.bind_some _ _).symm.trans H; rw [hy160]; with_reducible exact H2_) | (have H2_ := (Option.bind_some _ _).symm.trans H; with_reducible exact H2_) | with_reducible exact H | (rw [hy160]; exact H) | exact H
        have Ny160 := Aside0.mk hy160
        clear hy160
        replace H := Option.bind_eq_some_iff.mp H
        obtain ⟨t163, A80, H⟩ := H
        replace H : (if y160.length + t163.length < 140737488355328 then ((assartref01_Seal.f k (y160 ++ t163)).bind fun bt169 => (some (bt169.1, bt169.2))) else (none)) = some (r1, r2) := H
        have A8 := Aside0.mk A80
        clear A80
        by_cases c9 : y160.length + t163.length < 140737488355328
        · rw [if_pos c9] at H
          have LMc9 := Aside0.mk c9
          clear c9
          obtain ⟨y166, hy166⟩ : ∃ y_ : List Int, y_ = (y160 ++ t163) := ⟨_, rfl⟩
          replace H : ((assartref01_Seal.f k y166).bind fun bt169 => (some (bt169.1, bt169.2))) = some (r1, r2) := by first | (rw [hy166]; with_reducible exact H) | (have H2_ := (Option.bind_some _ _).symm.trans H; rw [hy166]; with_reducible exact H2_) | (have H2_ := (Option.bind_some _ _).symm.trans H; with_reducible exact H2_) | with_reducible exact H | (rw [hy166]; exact H) | exact H
          have Ny166 := Aside0.mk hy166
          clear hy166
          replace H := Option.bind_eq_some_iff.mp H
          obtain ⟨⟨t169, t170⟩, A100, H⟩ := H
          replace H : (some (t169, t170)) = some (r1, r2) := H
          have A10 := Aside0.mk A100
          clear A100
          simp only [Option.some.injEq, Prod.mk.injEq] at H
          obtain ⟨rfl, rfl⟩ := H
          go_enter Try.func17, Try.ntmps17
          go_wp2_with (first | ((with_reducible refine gate_dst (N := 1) rfl ?_); refine box_event ?hg (N := 1) ?hd (cs := #[.int .i64 a0_0, .int .i64 a0_1, .int .i64 a0_2]) (t := 23) ?hr ?_; (case hd => rfl); (case hg => rfl); (case hr => first | (go_simp; done) | (go_simp; rfl)); intro gb146 hg w11 hbox hb; have n0_ := Aside0.mk (below_step (by repeat (first | (with_reducible first | exact HB.out | apply below_alloc | apply pw_below_drewN | apply below_drew1) | exact HB.out)) hb); have n1_ := Aside0.mk (hbox); have n2_ := Aside0.mk ((by rw [hg]; exact (below_size (by repeat (first | (with_reducible first | exact HB.out | apply below_alloc | apply pw_below_drewN | apply below_drew1) | exact HB.out))) : w.heap.size ≤ gb146)); have n3_ := Aside0.mk ((by rw [hg]; exact (below_size (by repeat (first | (with_reducible first | exact HB.out | apply below_alloc | apply pw_below_drewN | apply below_drew1) | exact HB.out))) : w.heap.size ≤ gb146)); clear HB; have HB := n0_; have BK146 := n1_; have GW146 := n2_; have GE146 := n3_; clear n0_ n1_ n2_ n3_; clear hb hbox hg; have hcz12_0 : w11.cell? ⟨gb146, 0, none⟩ = some (.int .i64 a0_0) := (blk_cell BK146.out 0).trans rfl; have hcz12_1 : w11.cell? ⟨gb146, 1, none⟩ = some (.int .i64 a0_1) := (blk_cell BK146.out 1).trans rfl; have hcz12_2 : w11.cell? ⟨gb146, 2, none⟩ = some (.int .i64 a0_2) := (blk_cell BK146.out 2).trans rfl; have hfz12_0 := blk_frozen BK146.out 0; have hfz12_1 := blk_frozen BK146.out 1; have hfz12_2 := blk_frozen BK146.out 2) | ((with_reducible refine gate_callee (f := 25) rfl ?_); refine goesL_ (some 7) rfl rfl Try.func25 (by kernel_rfl) rfl #[.agg #[.int .i64 a0_0, .int .i64 a0_1, .int .i64 a0_2]] rfl (by (try simp only [List.map_toArray, List.map_cons, List.map_nil]); first | done | rfl | (simp only [List.length_drop, List.length_take]; rfl)) ?_; (with_reducible refine (assartref03_Right.calls a0_0 a0_1 a0_2 true _ A2.out).mono ?_); rintro e w13 ⟨rfl, hb⟩; refine ⟨_, rfl, ?_⟩; have n0_ := Aside0.mk (blk_below (g := gb146) (o := .cells #[.int .i64 a0_0, .int .i64 a0_1, .int .i64 a0_2] 23 (0, 0)) (by (with_reducible repeat (first | refine blk_drewN ?_ _ | refine blk_drew ?_ | refine blk_alloc ?_ _)); exact BK146.out) hb); have n1_ := Aside0.mk (below_step (by repeat (first | (with_reducible first | exact HB.out | apply below_alloc | apply pw_below_drewN | apply below_drew1 | refine below_set ?_ GE146.out) | exact HB.out)) hb); clear BK146; clear HB; have BK146 := n0_; have HB := n1_; clear n0_ n1_; (try clear hb); (try clear hb2); (try clear hk); (try clear hi)) | ((with_reducible refine gate_dst (N := 10) rfl ?_); refine Kd.R_lit (Kd.int .u8) _ 5 ?hg (N := 10) ?hd (xs := ([97, 115] : List Int)) (inner := [.int .u8 97, .int .u8 115]) (ok := fun _ => True) (okp := fun _ => True) ?hr ?hp (fun _ hk => hk) trivial (Below.refl _ _) (Nat.le_refl _) (by simp) ?_; (case hd => rfl); (case hg => rfl); (case hr => first | (go_simp; done) | (go_simp; rfl)); (case hp => exact (Reps.one (show Kd.M (Kd.int .u8) _ _ _ 97 [.int .u8 97] from rfl) (Reps.one (show Kd.M (Kd.int .u8) _ _ _ 115 [.int .u8 115] from rfl) (Reps.none _ _)))); intro v149 w14 ho15 hb hg_ hnew_; clear hg_ hnew_; (first | rw [← Ny148.out] at ho15 | (simp only [Int.reduceToNat] at ho15; rw [← Ny148.out] at ho15)); have n0_ := Aside0.mk (Kd.R_lower ho15 (below_size (by repeat (first | (with_reducible first | exact HB.out | apply below_alloc | apply pw_below_drewN | apply below_drew1 | refine below_set ?_ GE146.out) | exact HB.out)))); have n1_ := Aside0.mk (blk_below (g := gb146) (o := .cells #[.int .i64 a0_0, .int .i64 a0_1, .int .i64 a0_2] 23 (0, 0)) (by (with_reducible repeat (first | refine blk_drewN ?_ _ | refine blk_drew ?_ | refine blk_alloc ?_ _)); exact BK146.out) hb); have n2_ := Aside0.mk (below_step (by repeat (first | (with_reducible first | exact HB.out | apply below_alloc | apply pw_below_drewN | apply below_drew1 | refine below_set ?_ GE146.out) | exact HB.out)) hb); clear BK146; clear HB; have HO150 := n0_; have BK146 := n1_; have HB := n2_; clear n0_ n1_ n2_; clear hb ho15; have hcz16_0 : w14.cell? ⟨gb146, 0, none⟩ = some (.int .i64 a0_0) := (blk_cell BK146.out 0).trans rfl; have hcz16_1 : w14.cell? ⟨gb146, 1, none⟩ = some (.int .i64 a0_1) := (blk_cell BK146.out 1).trans rfl; have hcz16_2 : w14.cell? ⟨gb146, 2, none⟩ = some (.int .i64 a0_2) := (blk_cell BK146.out 2).trans rfl; have hfz16_0 := blk_frozen BK146.out 0; have hfz16_1 := blk_frozen BK146.out 1; have hfz16_2 := blk_frozen BK146.out 2) | ((with_reducible refine gate_callee (f := 45) rfl ?_); refine goesL_ (some 14) rfl rfl Try.func45 (by kernel_rfl) rfl #[.int .i64 a0_0, .int .i64 4] rfl (by (try simp only [List.map_toArray, List.map_cons, List.map_nil]); first | done | rfl | (simp only [List.length_drop, List.length_take]; rfl)) ?_; (with_reducible refine (assartref01_Put.calls k a0_0 4 t151 _ A4.out).mono ?_); rintro e w17 ⟨v152, rfl, ho0, hb⟩; refine ⟨_, rfl, ?_⟩; have n0_ := Aside0.mk (Kd.R_elder' (by (with_reducible repeat (first | apply Kd.R_alloc | apply Kd.R_drewN | apply Kd.R_drew)); exact HO150.out) (Kd.R_base ho0) hb); have n1_ := Aside0.mk (Kd.R_lower (Kd.R_new' ho0 (Kd.R_lt (by (with_reducible repeat (first | apply Kd.R_alloc | apply Kd.R_drewN | apply Kd.R_drew)); exact HO150.out))) (below_size (by repeat (first | (with_reducible first | exact HB.out | apply below_alloc | apply pw_below_drewN | apply below_drew1 | refine below_set ?_ GE146.out) | exact HB.out)))); have n2_ := Aside0.mk (blk_below (g := gb146) (o := .cells #[.int .i64 a0_0, .int .i64 a0_1, .int .i64 a0_2] 23 (0, 0)) (by (with_reducible repeat (first | refine blk_drewN ?_ _ | refine blk_drew ?_ | refine blk_alloc ?_ _)); exact BK146.out) hb); have n3_ := Aside0.mk (below_step (by repeat (first | (with_reducible first | exact HB.out | apply below_alloc | apply pw_below_drewN | apply below_drew1 | refine below_set ?_ GE146.out) | exact HB.out)) hb); clear HO150; clear BK146; clear HB; have HO150 := n0_; have HO153 := n1_; have BK146 := n2_; have HB := n3_; clear n0_ n1_ n2_ n3_; (try clear hb); (try clear hb2); (try clear hk); (try clear hi); (try clear ho0); obtain ⟨Ao19, co19, eo19⟩ := Kd.R_slice HO153.out; subst eo19) | ((with_reducible refine gate_builtin (b := .append) (xs := #[.tmp 11, .tmp 14]) rfl ?_); at_builtin; refine Kd.R_append_rows (Kd.int .u8) (w0 := w) w.heap.size rfl (.tmp 11) (.tmp 14) 24 5 (.int .u8 0) 1 rfl Try.underlying24 info5 rfl (by decide) (by omega) v149 y148 t151 _ _ _ (fun k_ => some k_ ≠ (.slice Ao19 t151.length co19 : Value).ownBlock) (fun _ => False) rfl rfl ?aO ?aR (fun _ _ h => h) (fun _ h => h.elim) ?aF ?aB ?aS ?aL ?_; (case aR => repeat (first | exact (Kd.R_reads' HO153.out).2.2 | (with_reducible refine Kd.C_alloc ?_ _) | (with_reducible refine Kd.C_drewN ?_ _) | (with_reducible refine Kd.C_drew ?_))); (case aB => exact (by repeat (first | (with_reducible first | exact HB.out | apply below_alloc | apply pw_below_drewN | apply below_drew1 | refine below_set ?_ GE146.out) | exact HB.out))); (case aF => exact (fun k_ hk => Kd.fresh' (Kd.R_lt (by (with_reducible repeat (first | apply Kd.R_alloc | apply Kd.R_drewN | apply Kd.R_drew)); exact HO153.out)) k_ hk)); (case aO => exact (by (with_reducible repeat (first | apply Kd.R_alloc | apply Kd.R_drewN | apply Kd.R_drew)); exact Kd.R_mono HO150.out (fun _ hk => hk.2))); (case aS => exact (below_size (by repeat (first | (with_reducible first | exact HB.out | apply below_alloc | apply pw_below_drewN | apply below_drew1 | refine below_set ?_ GE146.out) | exact HB.out)))); (case aL => have := LMc5.out; omega); intro v155 w18 ho hb hg hat; rw [← Ny154.out] at ho; have n0_ := Aside0.mk (blk_grown (g := gb146) (o := .cells #[.int .i64 a0_0, .int .i64 a0_1, .int .i64 a0_2] 23 (0, 0)) (by (with_reducible repeat (first | refine blk_drewN ?_ _ | refine blk_drew ?_ | refine blk_alloc ?_ _)); exact BK146.out) hg (Kd.R_ne HO150.out BK146.out (by decide))); have n1_ := Aside0.mk (Kd.R_after (ok := (fun _ => True)) (by (with_reducible repeat (first | apply Kd.R_alloc | apply Kd.R_drewN | apply Kd.R_drew)); exact HO153.out) hg hat); have n2_ := Aside0.mk (hb); have n3_ := Aside0.mk (ho); clear BK146; clear HO153; clear HB; clear HO150; have BK146 := n0_; have HO153 := n1_; have HB := n2_; have HO156 := n3_; clear n0_ n1_ n2_ n3_; clear ho hb hg hat; have hcz20_0 : w18.cell? ⟨gb146, 0, none⟩ = some (.int .i64 a0_0) := (blk_cell BK146.out 0).trans rfl; have hcz20_1 : w18.cell? ⟨gb146, 1, none⟩ = some (.int .i64 a0_1) := (blk_cell BK146.out 1).trans rfl; have hcz20_2 : w18.cell? ⟨gb146, 2, none⟩ = some (.int .i64 a0_2) := (blk_cell BK146.out 2).trans rfl; have hfz20_0 := blk_frozen BK146.out 0; have hfz20_1 := blk_frozen BK146.out 1; have hfz20_2 := blk_frozen BK146.out 2) | ((with_reducible refine gate_callee (f := 45) rfl ?_); refine goesL_ (some 19) rfl rfl Try.func45 (by kernel_rfl) rfl #[.int .i64 a0_1, .int .i64 4] rfl (by (try simp only [List.map_toArray, List.map_cons, List.map_nil]); first | done | rfl | (simp only [List.length_drop, List.length_take]; rfl)) ?_; (with_reducible refine (assartref01_Put.calls k a0_1 4 t157 _ A6.out).mono ?_); rintro e w21 ⟨v158, rfl, ho0, hb⟩; refine ⟨_, rfl, ?_⟩; have n0_ := Aside0.mk (Kd.R_elder' (by (with_reducible repeat (first | apply Kd.R_alloc | apply Kd.R_drewN | apply Kd.R_drew)); exact HO153.out) (Kd.R_base ho0) hb); have n1_ := Aside0.mk (Kd.R_elder' (by (with_reducible repeat (first | apply Kd.R_alloc | apply Kd.R_drewN | apply Kd.R_drew)); exact HO156.out) (Kd.R_base ho0) hb); have n2_ := Aside0.mk (Kd.R_lower (Kd.R_new' (Kd.R_new' ho0 (Kd.R_lt (by (with_reducible repeat (first | apply Kd.R_alloc | apply Kd.R_drewN | apply Kd.R_drew)); exact HO153.out))) (Kd.R_lt (by (with_reducible repeat (first | apply Kd.R_alloc | apply Kd.R_drewN | apply Kd.R_drew)); exact HO156.out))) (below_size (by repeat (first | (with_reducible first | exact HB.out | apply below_alloc | apply pw_below_drewN | apply below_drew1 | refine below_set ?_ GE146.out) | exact HB.out)))); have n3_ := Aside0.mk (blk_below (g := gb146) (o := .cells #[.int .i64 a0_0, .int .i64 a0_1, .int .i64 a0_2] 23 (0, 0)) (by (with_reducible repeat (first | refine blk_drewN ?_ _ | refine blk_drew ?_ | refine blk_alloc ?_ _)); exact BK146.out) hb); have n4_ := Aside0.mk (below_step (by repeat (first | (with_reducible first | exact HB.out | apply below_alloc | apply pw_below_drewN | apply below_drew1 | refine below_set ?_ GE146.out) | exact HB.out)) hb); clear HO153; clear HO156; clear BK146; clear HB; have HO153 := n0_; have HO156 := n1_; have HO159 := n2_; have BK146 := n3_; have HB := n4_; clear n0_ n1_ n2_ n3_ n4_; (try clear hb); (try clear hb2); (try clear hk); (try clear hi); (try clear ho0); obtain ⟨Ao23, co23, eo23⟩ := Kd.R_slice HO159.out; subst eo23) | ((with_reducible refine gate_builtin (b := .append) (xs := #[.tmp 16, .tmp 19]) rfl ?_); at_builtin; refine Kd.R_append_rows (Kd.int .u8) (w0 := w) w.heap.size rfl (.tmp 16) (.tmp 19) 24 5 (.int .u8 0) 1 rfl Try.underlying24 info5 rfl (by decide) (by omega) v155 y154 t157 _ _ _ (fun k_ => some k_ ≠ (.slice Ao19 t151.length co19 : Value).ownBlock ∧ some k_ ≠ (.slice Ao23 t157.length co23 : Value).ownBlock) (fun _ => False) rfl rfl ?aO ?aR (fun _ _ h => h) (fun _ h => h.elim) ?aF ?aB ?aS ?aL ?_; (case aR => repeat (first | exact (Kd.R_reads' HO159.out).2.2 | (with_reducible refine Kd.C_alloc ?_ _) | (with_reducible refine Kd.C_drewN ?_ _) | (with_reducible refine Kd.C_drew ?_))); (case aB => exact (by repeat (first | (with_reducible first | exact HB.out | apply below_alloc | apply pw_below_drewN | apply below_drew1 | refine below_set ?_ GE146.out) | exact HB.out))); (case aF => exact (fun k_ hk => ⟨Kd.fresh' (Kd.R_lt (by (with_reducible repeat (first | apply Kd.R_alloc | apply Kd.R_drewN | apply Kd.R_drew)); exact HO153.out)) k_ hk, Kd.fresh' (Kd.R_lt (by (with_reducible repeat (first | apply Kd.R_alloc | apply Kd.R_drewN | apply Kd.R_drew)); exact HO159.out)) k_ hk⟩)); (case aO => exact (by (with_reducible repeat (first | apply Kd.R_alloc | apply Kd.R_drewN | apply Kd.R_drew)); exact HO156.out)); (case aS => exact (below_size (by repeat (first | (with_reducible first | exact HB.out | apply below_alloc | apply pw_below_drewN | apply below_drew1 | refine below_set ?_ GE146.out) | exact HB.out)))); (case aL => have := LMc7.out; omega); intro v161 w22 ho hb hg hat; rw [← Ny160.out] at ho; have n0_ := Aside0.mk (blk_grown (g := gb146) (o := .cells #[.int .i64 a0_0, .int .i64 a0_1, .int .i64 a0_2] 23 (0, 0)) (by (with_reducible repeat (first | refine blk_drewN ?_ _ | refine blk_drew ?_ | refine blk_alloc ?_ _)); exact BK146.out) hg (Kd.R_ne HO156.out BK146.out (by decide))); have n1_ := Aside0.mk (Kd.R_after (ok := (fun k_ => some k_ ≠ (.slice Ao23 t157.length co23 : Value).ownBlock)) (by (with_reducible repeat (first | apply Kd.R_alloc | apply Kd.R_drewN | apply Kd.R_drew)); exact Kd.R_mono HO153.out (fun _ hk => ⟨hk.2, hk.1.2⟩)) hg hat); have n2_ := Aside0.mk (Kd.R_after (ok := (fun k_ => some k_ ≠ (.slice Ao19 t151.length co19 : Value).ownBlock)) (by (with_reducible repeat (first | apply Kd.R_alloc | apply Kd.R_drewN | apply Kd.R_drew)); exact Kd.R_mono HO159.out (fun _ hk => ⟨hk.1.2, hk.2⟩)) hg hat); have n3_ := Aside0.mk (hb); have n4_ := Aside0.mk (ho); clear BK146; clear HO153; clear HO159; clear HB; clear HO156; have BK146 := n0_; have HO153 := n1_; have HO159 := n2_; have HB := n3_; have HO162 := n4_; clear n0_ n1_ n2_ n3_ n4_; clear ho hb hg hat; have hcz24_0 : w22.cell? ⟨gb146, 0, none⟩ = some (.int .i64 a0_0) := (blk_cell BK146.out 0).trans rfl; have hcz24_1 : w22.cell? ⟨gb146, 1, none⟩ = some (.int .i64 a0_1) := (blk_cell BK146.out 1).trans rfl; have hcz24_2 : w22.cell? ⟨gb146, 2, none⟩ = some (.int .i64 a0_2) := (blk_cell BK146.out 2).trans rfl; have hfz24_0 := blk_frozen BK146.out 0; have hfz24_1 := blk_frozen BK146.out 1; have hfz24_2 := blk_frozen BK146.out 2) | ((with_reducible refine gate_callee (f := 45) rfl ?_); refine goesL_ (some 24) rfl rfl Try.func45 (by kernel_rfl) rfl #[.int .i64 a0_2, .int .i64 4] rfl (by (try simp only [List.map_toArray, List.map_cons, List.map_nil]); first | done | rfl | (simp only [List.length_drop, List.length_take]; rfl)) ?_; (with_reducible refine (assartref01_Put.calls k a0_2 4 t163 _ A8.out).mono ?_); rintro e w25 ⟨v164, rfl, ho0, hb⟩; refine ⟨_, rfl, ?_⟩; have n0_ := Aside0.mk (Kd.R_elder' (by (with_reducible repeat (first | apply Kd.R_alloc | apply Kd.R_drewN | apply Kd.R_drew)); exact HO153.out) (Kd.R_base ho0) hb); have n1_ := Aside0.mk (Kd.R_elder' (by (with_reducible repeat (first | apply Kd.R_alloc | apply Kd.R_drewN | apply Kd.R_drew)); exact HO159.out) (Kd.R_base ho0) hb); have n2_ := Aside0.mk (Kd.R_elder' (by (with_reducible repeat (first | apply Kd.R_alloc | apply Kd.R_drewN | apply Kd.R_drew)); exact HO162.out) (Kd.R_base ho0) hb); have n3_ := Aside0.mk (Kd.R_lower (Kd.R_new' (Kd.R_new' (Kd.R_new' ho0 (Kd.R_lt (by (with_reducible repeat (first | apply Kd.R_alloc | apply Kd.R_drewN | apply Kd.R_drew)); exact HO153.out))) (Kd.R_lt (by (with_reducible repeat (first | apply Kd.R_alloc | apply Kd.R_drewN | apply Kd.R_drew)); exact HO159.out))) (Kd.R_lt (by (with_reducible repeat (first | apply Kd.R_alloc | apply Kd.R_drewN | apply Kd.R_drew)); exact HO162.out))) (below_size (by repeat (first | (with_reducible first | exact HB.out | apply below_alloc | apply pw_below_drewN | apply below_drew1 | refine below_set ?_ GE146.out) | exact HB.out)))); have n4_ := Aside0.mk (blk_below (g := gb146) (o := .cells #[.int .i64 a0_0, .int .i64 a0_1, .int .i64 a0_2] 23 (0, 0)) (by (with_reducible repeat (first | refine blk_drewN ?_ _ | refine blk_drew ?_ | refine blk_alloc ?_ _)); exact BK146.out) hb); have n5_ := Aside0.mk (below_step (by repeat (first | (with_reducible first | exact HB.out | apply below_alloc | apply pw_below_drewN | apply below_drew1 | refine below_set ?_ GE146.out) | exact HB.out)) hb); clear HO153; clear HO159; clear HO162; clear BK146; clear HB; have HO153 := n0_; have HO159 := n1_; have HO162 := n2_; have HO165 := n3_; have BK146 := n4_; have HB := n5_; clear n0_ n1_ n2_ n3_ n4_ n5_; (try clear hb); (try clear hb2); (try clear hk); (try clear hi); (try clear ho0); obtain ⟨Ao27, co27, eo27⟩ := Kd.R_slice HO165.out; subst eo27) | ((with_reducible refine gate_builtin (b := .append) (xs := #[.tmp 21, .tmp 24]) rfl ?_); at_builtin; refine Kd.R_append_rows (Kd.int .u8) (w0 := w) w.heap.size rfl (.tmp 21) (.tmp 24) 24 5 (.int .u8 0) 1 rfl Try.underlying24 info5 rfl (by decide) (by omega) v161 y160 t163 _ _ _ (fun k_ => some k_ ≠ (.slice Ao19 t151.length co19 : Value).ownBlock ∧ some k_ ≠ (.slice Ao23 t157.length co23 : Value).ownBlock ∧ some k_ ≠ (.slice Ao27 t163.length co27 : Value).ownBlock) (fun _ => False) rfl rfl ?aO ?aR (fun _ _ h => h) (fun _ h => h.elim) ?aF ?aB ?aS ?aL ?_; (case aR => repeat (first | exact (Kd.R_reads' HO165.out).2.2 | (with_reducible refine Kd.C_alloc ?_ _) | (with_reducible refine Kd.C_drewN ?_ _) | (with_reducible refine Kd.C_drew ?_))); (case aB => exact (by repeat (first | (with_reducible first | exact HB.out | apply below_alloc | apply pw_below_drewN | apply below_drew1 | refine below_set ?_ GE146.out) | exact HB.out))); (case aF => exact (fun k_ hk => ⟨Kd.fresh' (Kd.R_lt (by (with_reducible repeat (first | apply Kd.R_alloc | apply Kd.R_drewN | apply Kd.R_drew)); exact HO153.out)) k_ hk, Kd.fresh' (Kd.R_lt (by (with_reducible repeat (first | apply Kd.R_alloc | apply Kd.R_drewN | apply Kd.R_drew)); exact HO159.out)) k_ hk, Kd.fresh' (Kd.R_lt (by (with_reducible repeat (first | apply Kd.R_alloc | apply Kd.R_drewN | apply Kd.R_drew)); exact HO165.out)) k_ hk⟩)); (case aO => exact (by (with_reducible repeat (first | apply Kd.R_alloc | apply Kd.R_drewN | apply Kd.R_drew)); exact Kd.R_mono HO162.out (fun _ hk => ⟨hk.1.1, ⟨hk.1.2, hk.2⟩⟩))); (case aS => exact (below_size (by repeat (first | (with_reducible first | exact HB.out | apply below_alloc | apply pw_below_drewN | apply below_drew1 | refine below_set ?_ GE146.out) | exact HB.out)))); (case aL => have := LMc9.out; omega); intro v167 w26 ho hb hg hat; rw [← Ny166.out] at ho; have n0_ := Aside0.mk (blk_grown (g := gb146) (o := .cells #[.int .i64 a0_0, .int .i64 a0_1, .int .i64 a0_2] 23 (0, 0)) (by (with_reducible repeat (first | refine blk_drewN ?_ _ | refine blk_drew ?_ | refine blk_alloc ?_ _)); exact BK146.out) hg (Kd.R_ne HO162.out BK146.out (by decide))); have n1_ := Aside0.mk (Kd.R_after (ok := (fun k_ => some k_ ≠ (.slice Ao23 t157.length co23 : Value).ownBlock ∧ some k_ ≠ (.slice Ao27 t163.length co27 : Value).ownBlock)) (by (with_reducible repeat (first | apply Kd.R_alloc | apply Kd.R_drewN | apply Kd.R_drew)); exact Kd.R_mono HO153.out (fun _ hk => ⟨⟨hk.1.1, hk.2⟩, hk.1.2⟩)) hg hat); have n2_ := Aside0.mk (Kd.R_after (ok := (fun k_ => some k_ ≠ (.slice Ao19 t151.length co19 : Value).ownBlock ∧ some k_ ≠ (.slice Ao27 t163.length co27 : Value).ownBlock)) (by (with_reducible repeat (first | apply Kd.R_alloc | apply Kd.R_drewN | apply Kd.R_drew)); exact Kd.R_mono HO159.out (fun _ hk => ⟨⟨hk.1.1, hk.2⟩, hk.1.2⟩)) hg hat); have n3_ := Aside0.mk (Kd.R_after (ok := (fun k_ => some k_ ≠ (.slice Ao19 t151.length co19 : Value).ownBlock ∧ some k_ ≠ (.slice Ao23 t157.length co23 : Value).ownBlock)) (by (with_reducible repeat (first | apply Kd.R_alloc | apply Kd.R_drewN | apply Kd.R_drew)); exact Kd.R_mono HO165.out (fun _ hk => ⟨⟨hk.1.1.2, hk.1.2⟩, hk.2⟩)) hg hat); have n4_ := Aside0.mk (hb); have n5_ := Aside0.mk (ho); clear BK146; clear HO153; clear HO159; clear HO165; clear HB; clear HO162; have BK146 := n0_; have HO153 := n1_; have HO159 := n2_; have HO165 := n3_; have HB := n4_; have HO168 := n5_; clear n0_ n1_ n2_ n3_ n4_ n5_; clear ho hb hg hat; obtain ⟨Ao28, co28, eo28⟩ := Kd.R_slice HO168.out; subst eo28) | ((with_reducible refine gate_callee (f := 46) rfl ?_); refine goesL_ (some 27) rfl rfl Try.func46 (by kernel_rfl) rfl #[.slice Ao28 y166.length co28] rfl (by (try simp only [List.map_toArray, List.map_cons, List.map_nil]); first | done | rfl | (simp only [List.length_drop, List.length_take]; rfl)) ?_; (with_reducible refine (assartref01_Seal.calls k _ _ y166 t169 t170 _ ?side1 ?side2 A10.out).mono ?_); (case side1 => repeat (first | exact (Kd.R_reads' HO168.out).2.2 | (with_reducible refine Kd.C_alloc ?_ _) | (with_reducible refine Kd.C_drewN ?_ _) | (with_reducible refine Kd.C_drew ?_))); (case side2 => exact (Kd.R_reads' HO168.out).2.1); rintro e w29 ⟨rfl, hb⟩; refine ⟨_, rfl, ?_⟩; have n0_ := Aside0.mk (Kd.R_below (by (with_reducible repeat (first | apply Kd.R_alloc | apply Kd.R_drewN | apply Kd.R_drew)); exact HO153.out) hb); have n1_ := Aside0.mk (Kd.R_below (by (with_reducible repeat (first | apply Kd.R_alloc | apply Kd.R_drewN | apply Kd.R_drew)); exact HO159.out) hb); have n2_ := Aside0.mk (Kd.R_below (by (with_reducible repeat (first | apply Kd.R_alloc | apply Kd.R_drewN | apply Kd.R_drew)); exact HO165.out) hb); have n3_ := Aside0.mk (Kd.R_below (by (with_reducible repeat (first | apply Kd.R_alloc | apply Kd.R_drewN | apply Kd.R_drew)); exact HO168.out) hb); have n4_ := Aside0.mk (blk_below (g := gb146) (o := .cells #[.int .i64 a0_0, .int .i64 a0_1, .int .i64 a0_2] 23 (0, 0)) (by (with_reducible repeat (first | refine blk_drewN ?_ _ | refine blk_drew ?_ | refine blk_alloc ?_ _)); exact BK146.out) hb); have n5_ := Aside0.mk (below_step (by repeat (first | (with_reducible first | exact HB.out | apply below_alloc | apply pw_below_drewN | apply below_drew1 | refine below_set ?_ GE146.out) | exact HB.out)) hb); clear HO153; clear HO159; clear HO165; clear HO168; clear BK146; clear HB; have HO153 := n0_; have HO159 := n1_; have HO165 := n2_; have HO168 := n3_; have BK146 := n4_; have HB := n5_; clear n0_ n1_ n2_ n3_ n4_ n5_; (try clear hb); (try clear hb2); (try clear hk); (try clear hi)))
          go_ret2
          exact ⟨by first | rfl | (simp [errW_none, errW_some] <;> rfl) | (simp [*, errW_none, errW_some] <;> rfl), by repeat (first | (with_reducible first | exact HB.out | apply below_alloc | apply pw_below_drewN | apply below_drew1 | refine below_set ?_ GE146.out) | exact HB.out)⟩
        · rw [if_neg c9] at H
          exact absurd H (by simp)
      · rw [if_neg c7] at H
        exact absurd H (by simp)
    · rw [if_neg c5] at H
      exact absurd H (by simp)
  · replace c3 := Bool.eq_false_iff.mpr c3
    subst c3
    have H1 : (some ((⟨#[]⟩ : ByteArray), 1)) = some (r1, r2) := by rw [if_neg (show ¬ (false = true) by decide)] at H; exact H
    clear H
    have H := H1
    clear H1
    simp only [Option.some.injEq, Prod.mk.injEq] at H
    obtain ⟨rfl, rfl⟩ := H
    go_enter Try.func17, Try.ntmps17
    go_wp2_with (first | ((with_reducible refine gate_dst (N := 1) rfl ?_); refine box_event ?hg (N := 1) ?hd (cs := #[.int .i64 a0_0, .int .i64 a0_1, .int .i64 a0_2]) (t := 23) ?hr ?_; (case hd => rfl); (case hg => rfl); (case hr => first | (go_simp; done) | (go_simp; rfl)); intro gb146 hg w30 hbox hb; have n0_ := Aside0.mk (below_step (by repeat (first | (with_reducible first | exact HB.out | apply below_alloc | apply pw_below_drewN | apply below_drew1) | exact HB.out)) hb); have n1_ := Aside0.mk (hbox); have n2_ := Aside0.mk ((by rw [hg]; exact (below_size (by repeat (first | (with_reducible first | exact HB.out | apply below_alloc | apply pw_below_drewN | apply below_drew1) | exact HB.out))) : w.heap.size ≤ gb146)); have n3_ := Aside0.mk ((by rw [hg]; exact (below_size (by repeat (first | (with_reducible first | exact HB.out | apply below_alloc | apply pw_below_drewN | apply below_drew1) | exact HB.out))) : w.heap.size ≤ gb146)); clear HB; have HB := n0_; have BK146 := n1_; have GW146 := n2_; have GE146 := n3_; clear n0_ n1_ n2_ n3_; clear hb hbox hg; have hcz31_0 : w30.cell? ⟨gb146, 0, none⟩ = some (.int .i64 a0_0) := (blk_cell BK146.out 0).trans rfl; have hcz31_1 : w30.cell? ⟨gb146, 1, none⟩ = some (.int .i64 a0_1) := (blk_cell BK146.out 1).trans rfl; have hcz31_2 : w30.cell? ⟨gb146, 2, none⟩ = some (.int .i64 a0_2) := (blk_cell BK146.out 2).trans rfl; have hfz31_0 := blk_frozen BK146.out 0; have hfz31_1 := blk_frozen BK146.out 1; have hfz31_2 := blk_frozen BK146.out 2) | ((with_reducible refine gate_callee (f := 25) rfl ?_); refine goesL_ (some 7) rfl rfl Try.func25 (by kernel_rfl) rfl #[.agg #[.int .i64 a0_0, .int .i64 a0_1, .int .i64 a0_2]] rfl (by (try simp only [List.map_toArray, List.map_cons, List.map_nil]); first | done | rfl | (simp only [List.length_drop, List.length_take]; rfl)) ?_; (with_reducible refine (assartref03_Right.calls a0_0 a0_1 a0_2 false _ A2.out).mono ?_); rintro e w32 ⟨rfl, hb⟩; refine ⟨_, rfl, ?_⟩; have n0_ := Aside0.mk (blk_below (g := gb146) (o := .cells #[.int .i64 a0_0, .int .i64 a0_1, .int .i64 a0_2] 23 (0, 0)) (by (with_reducible repeat (first | refine blk_drewN ?_ _ | refine blk_drew ?_ | refine blk_alloc ?_ _)); exact BK146.out) hb); have n1_ := Aside0.mk (below_step (by repeat (first | (with_reducible first | exact HB.out | apply below_alloc | apply pw_below_drewN | apply below_drew1 | refine below_set ?_ GE146.out) | exact HB.out)) hb); clear BK146; clear HB; have BK146 := n0_; have HB := n1_; clear n0_ n1_; (try clear hb); (try clear hb2); (try clear hk); (try clear hi)))
    go_ret2
    exact ⟨by first | rfl | (simp [errW_none, errW_some] <;> rfl) | (simp [*, errW_none, errW_some] <;> rfl), by repeat (first | (with_reducible first | exact HB.out | apply below_alloc | apply pw_below_drewN | apply below_drew1 | refine below_set ?_ GE146.out) | exact HB.out)⟩

end Go.Proofs.Ythjnkapkhphpeaa.P
end
section
namespace Go.Proofs.Ythjnkapkhphpeaa.P
open Go.RowKit Go.Proofs.YthjnkapkhphpeaaW.PrintWords Go.Proofs.YthjnkapkhphpeaaW.PrintLast Go.Proofs.YthjnkapkhphpeaaW.PrintMore
set_option linter.unusedVariables false
set_option linter.unusedSimpArgs false
def assartref01_Open.f (a0 : ByteArray) : Option (List Int × Int) := num_Open.f a0
set_option maxHeartbeats 4000000 in
set_option maxRecDepth 100000 in
theorem assartref01_Open.calls (a0 : ByteArray) (r1 : List Int) (r2 : Int) (w : World) (h : assartref01_Open.f a0 = some (r1, r2)) :
    Calls Try.prog 50 #[.string a0] w fun e w' => ∃ v0_ : Value, e = .returned (.tuple #[v0_, .int .i64 r2]) ∧ Kd.V (Kd.int .u8) 5 w' w.heap.size (fun k_ => w.heap.size ≤ k_) v0_ r1 ∧ Below w.heap.size w w' := by
  have HH := Aside0.mk h
  clear h
  by_cases h40 : a0.size = 40
  · have hb : (bytesOf a0).length = 40 := by rw [bytesOf_length]; exact h40
    have h40b : ((a0.size : Int) != 40) = false := by rw [h40]; rfl
    go_enter Try.func50, Try.ntmps50
    go_wp2_with ((with_reducible refine gate_dst (N := 12) rfl ?_); refine V_conv (w0 := w) w.heap.size rfl 9 24 5 (.tmp 11) rfl a0 rfl Try.underlying9 Try.underlying24 Try.underlying5 (by omega) (Below.refl _ _) (Nat.le_refl _) ?_)
    intro v1 w1 hV hB hg
    clear hg
    obtain ⟨A1, c1, rfl, hc1, hF⟩ := hV
    have HF := Aside0.mk hF
    have HB := Aside0.mk hB
    clear hF hB
    rw [hb] at hc1
    have HC := Aside0.mk (Kd.F_now HF.out)
    have hbd := bytesOf_bd a0
    have htk := assartref01_Take.calls 6 A1 c1 (bytesOf a0) 36 4 _ _ _ w1 HC.out (by omega) (refTake_val 0 _ 36 4 (by omega) hbd (by omega) (by omega) (by omega) (by omega))
    obtain ⟨x, hx⟩ : ∃ x, lev (bytesOf a0) 36 4 = x := ⟨_, rfl⟩
    rw [hx] at htk
    have HX := Aside0.mk hx
    clear hx hbd
    rw [hb]
    rw [hb] at htk
    go_wp2_with fail
    refine htk.mono ?_
    rintro e w2 ⟨rfl, ⟨nd, rfl⟩⟩
    clear htk
    have hlt : ((bytesOf a0).take 36).length = 36 := by rw [List.length_take, hb]; rfl
    have hsm := assartref01_Sum.calls 400 A1 c1 ((bytesOf a0).take 36) _ (w1.drewN nd) (Kd.C_drewN (Kd.C_take HC.out (by omega)) nd) (by omega) (refSum_val _ (by omega) (fun x hx => bytesOf_bd a0 x (List.mem_of_mem_take hx)) 400 (by omega))
    rw [hlt] at hsm
    obtain ⟨y, hy⟩ : ∃ y, crc ((bytesOf a0).take 36) = y := ⟨_, rfl⟩
    have HY := Aside0.mk hy
    have hsm' : Calls Try.prog 53 #[.slice A1 36 c1] (w1.drewN nd) fun e w' => e = .returned (.int .i64 y) ∧ Drawn0 (w1.drewN nd) w' := by rw [← hy]; exact hsm
    clear hsm hy hlt hb
    go_wp2_with fail
    refine hsm'.mono ?_
    rintro e w2 ⟨rfl, ⟨nd2, rfl⟩⟩
    clear hsm'
    by_cases hxy : x = y
    · have hxb : (x != y) = false := by rw [hxy]; simp
      have HXY := Aside0.mk hxy
      clear hxy
      go_wp2
      have H := HH.out
      have hb : (bytesOf a0).length = 40 := by rw [bytesOf_length]; exact h40
      have hlt : ((bytesOf a0).take 36).length = 36 := by rw [List.length_take, hb]; rfl
      have hns : isSealed (bytesOf a0) = true := by simp [isSealed, HX.out, HY.out, HXY.out, hb]
      simp only [assartref01_Open.f, num_Open.f, hns, if_true, Option.some.injEq, Prod.mk.injEq] at H
      obtain ⟨rfl, rfl⟩ := H
      have hV : Kd.V (Kd.int .u8) 5 w1 w.heap.size (fun k_ => w.heap.size ≤ k_) (.slice A1 ((bytesOf a0).take 36).length c1) ((bytesOf a0).take 36) := Kd.V_mk (by omega) (Kd.F_take HF.out (by omega))
      rw [hlt] at hV
      go_ret2
      exact ⟨_, rfl, Kd.V_drewN hV _, pw_below_drewN HB.out _⟩
    · have hxb : (x != y) = true := by rw [bne_iff_ne]; exact hxy
      have HXY := Aside0.mk hxy
      clear hxy
      go_wp2
      have H := HH.out
      have hns : isSealed (bytesOf a0) = false := by simp [isSealed, HX.out, HY.out, HXY.out]
      simp only [assartref01_Open.f, num_Open.f, hns, Bool.false_eq_true, if_false, Option.some.injEq, Prod.mk.injEq] at H
      obtain ⟨rfl, rfl⟩ := H
      go_ret2
      exact ⟨_, rfl, Kd.V_nil _ _ _ _ _, pw_below_drewN HB.out _⟩
  · have h40b : ((a0.size : Int) != 40) = true := by rw [bne_iff_ne]; omega
    go_enter Try.func50, Try.ntmps50
    go_wp2
    have H := HH.out
    have hns : isSealed (bytesOf a0) = false := by simp [isSealed, bytesOf_length, h40]
    simp only [assartref01_Open.f, num_Open.f, hns, Bool.false_eq_true, if_false, Option.some.injEq, Prod.mk.injEq] at H
    obtain ⟨rfl, rfl⟩ := H
    go_ret2
    exact ⟨_, rfl, Kd.V_nil _ _ _ _ _, Below.refl _ _⟩
end Go.Proofs.Ythjnkapkhphpeaa.P
end
section
-- Written by a program of this session (xprint.py, over the kit's print). Not trusted: Lean checks it.
namespace Go.Proofs.Ythjnkapkhphpeaa.P
open Go.RowKit Go.Proofs.YthjnkapkhphpeaaW.PrintWords Go.Proofs.YthjnkapkhphpeaaW.PrintLast Go.Proofs.YthjnkapkhphpeaaW.PrintMore
attribute [local go_sem] max2_int min2_int max_two min_two max_three min_three max_four min_four   -- for this text's walks alone
set_option linter.unusedVariables false
set_option linter.unusedSimpArgs false

/-! ### assartref03_Parse: function 19 -/
def assartref03_Parse.f (k : Nat) (a0 : ByteArray) : Option (Int × Int × Int × Int) := (assartref01_Open.f a0).bind fun bt173 => (if bt173.2 = 0 then ((assartref01_Take.f k bt173.1 2 4).bind fun bt177 => ((assartref01_Take.f k bt173.1 6 4).bind fun bt180 => ((assartref01_Take.f k bt173.1 10 4).bind fun bt183 => ((assartref03_Print.f k bt177.1 bt180.1 bt183.1).bind fun bt187 => (if bt187.2 = 0 then (if bt187.1.toList = a0.toList then (some (bt177.1, bt180.1, bt183.1, 0)) else (some (0, 0, 0, 2))) else (some (0, 0, 0, 2))))))) else (some (0, 0, 0, 2)))
theorem assartref03_Parse.mono : ∀ a0 k, LeO (assartref03_Parse.f k a0) (assartref03_Parse.f (k + 1) a0) := by
  intro a0 k
  unfold assartref03_Parse.f
  repeat' first
      | (with_reducible exact assartref01_Take.mono _ _ _ _)
      | (with_reducible exact assartref03_Print.mono _ _ _ _)
      | (with_reducible exact LeO.refl _)
      | (with_reducible exact LeO.none _)
      | (with_reducible refine LeO.ite ?_ ?_)
      | (with_reducible refine LeO.bind ?_ (fun _ => ?_))
      | exact assartref01_Take.mono _ _ _ _
      | exact assartref03_Print.mono _ _ _ _
      | exact LeO.none _
      | refine LeO.ite ?_ ?_
      | refine LeO.bind ?_ (fun _ => ?_)
set_option maxHeartbeats 8000000 in
set_option maxRecDepth 100000 in
theorem assartref03_Parse.calls (k : Nat) (a0 : ByteArray) (r1 : Int) (r2 : Int) (r3 : Int) (r4 : Int) (w : World) (h : assartref03_Parse.f k a0 = some (r1, r2, r3, r4)) :
    Calls Try.prog 19 #[.string a0] w fun e w' => e = .returned (.tuple #[.agg #[.int .i64 r1, .int .i64 r2, .int .i64 r3], .int .i64 r4]) ∧ Below w.heap.size w w' := by
  have hu23 := Try.underlying23
  have HB := Aside0.mk (Below.refl w.heap.size w)
  have H : ((assartref01_Open.f a0).bind fun bt173 => (if bt173.2 = 0 then ((assartref01_Take.f k bt173.1 2 4).bind fun bt177 => ((assartref01_Take.f k bt173.1 6 4).bind fun bt180 => ((assartref01_Take.f k bt173.1 10 4).bind fun bt183 => ((assartref03_Print.f k bt177.1 bt180.1 bt183.1).bind fun bt187 => (if bt187.2 = 0 then (if bt187.1.toList = a0.toList then (some (bt177.1, bt180.1, bt183.1, 0)) else (some (0, 0, 0, 2))) else (some (0, 0, 0, 2))))))) else (some (0, 0, 0, 2)))) = some (r1, r2, r3, r4) := h
  clear h
  replace H := Option.bind_eq_some_iff.mp H
  obtain ⟨⟨t173, t176⟩, A20, H⟩ := H
  replace H : (if t176 = 0 then ((assartref01_Take.f k t173 2 4).bind fun bt177 => ((assartref01_Take.f k t173 6 4).bind fun bt180 => ((assartref01_Take.f k t173 10 4).bind fun bt183 => ((assartref03_Print.f k bt177.1 bt180.1 bt183.1).bind fun bt187 => (if bt187.2 = 0 then (if bt187.1.toList = a0.toList then (some (bt177.1, bt180.1, bt183.1, 0)) else (some (0, 0, 0, 2))) else (some (0, 0, 0, 2))))))) else (some (0, 0, 0, 2))) = some (r1, r2, r3, r4) := H
  have A2 := Aside0.mk A20
  clear A20
  by_cases c3 : t176 = 0
  · rw [if_pos c3] at H
    have c3b0 : (t176 == 0) = true := beq_iff_eq.mpr c3
    have c3b1 : (t176 != 0) = false := bne_eq_false_iff_eq.mpr c3
    clear c3
    replace H := Option.bind_eq_some_iff.mp H
    obtain ⟨⟨t177, t178, t179⟩, A40, H⟩ := H
    replace H : ((assartref01_Take.f k t173 6 4).bind fun bt180 => ((assartref01_Take.f k t173 10 4).bind fun bt183 => ((assartref03_Print.f k t177 bt180.1 bt183.1).bind fun bt187 => (if bt187.2 = 0 then (if bt187.1.toList = a0.toList then (some (t177, bt180.1, bt183.1, 0)) else (some (0, 0, 0, 2))) else (some (0, 0, 0, 2)))))) = some (r1, r2, r3, r4) := H
    have A4 := Aside0.mk A40
    clear A40
    replace H := Option.bind_eq_some_iff.mp H
    obtain ⟨⟨t180, t181, t182⟩, A50, H⟩ := H
    replace H : ((assartref01_Take.f k t173 10 4).bind fun bt183 => ((assartref03_Print.f k t177 t180 bt183.1).bind fun bt187 => (if bt187.2 = 0 then (if bt187.1.toList = a0.toList then (some (t177, t180, bt183.1, 0)) else (some (0, 0, 0, 2))) else (some (0, 0, 0, 2))))) = some (r1, r2, r3, r4) := H
    have A5 := Aside0.mk A50
    clear A50
    replace H := Option.bind_eq_some_iff.mp H
    obtain ⟨⟨t183, t184, t185⟩, A60, H⟩ := H
    replace H : ((assartref03_Print.f k t177 t180 t183).bind fun bt187 => (if bt187.2 = 0 then (if bt187.1.toList = a0.toList then (some (t177, t180, t183, 0)) else (some (0, 0, 0, 2))) else (some (0, 0, 0, 2)))) = some (r1, r2, r3, r4) := H
    have A6 := Aside0.mk A60
    clear A60
    replace H := Option.bind_eq_some_iff.mp H
    obtain ⟨⟨t187, t188⟩, A70, H⟩ := H
    replace H : (if t188 = 0 then (if t187.toList = a0.toList then (some (t177, t180, t183, 0)) else (some (0, 0, 0, 2))) else (some (0, 0, 0, 2))) = some (r1, r2, r3, r4) := H
    have A7 := Aside0.mk A70
    clear A70
    by_cases c8 : t188 = 0
    · rw [if_pos c8] at H
      have c8b0 : (t188 == 0) = true := beq_iff_eq.mpr c8
      have c8b1 : (t188 != 0) = false := bne_eq_false_iff_eq.mpr c8
      clear c8
      by_cases c9 : t187.toList = a0.toList
      · rw [if_pos c9] at H
        have c9b0 : (t187.toList == a0.toList) = true := beq_iff_eq.mpr c9
        have c9b1 : (t187.toList != a0.toList) = false := bne_eq_false_iff_eq.mpr c9
        clear c9
        simp only [Option.some.injEq, Prod.mk.injEq] at H
        obtain ⟨rfl, rfl, rfl, rfl⟩ := H
        go_enter Try.func19, Try.ntmps19
        go_wp2_with (first | ((with_reducible refine gate_dst (N := 2) rfl ?_); refine box_event ?hg (N := 2) ?hd (cs := #[.int .i64 0, .int .i64 0, .int .i64 0]) (t := 23) ?hr ?_; (case hd => rfl); (case hg => rfl); (case hr => first | (go_simp; done) | (go_simp; rfl)); intro gb172 hg w10 hbox hb; have n0_ := Aside0.mk (below_step (by repeat (first | (with_reducible first | exact HB.out | apply below_alloc | apply pw_below_drewN | apply below_drew1) | exact HB.out)) hb); have n1_ := Aside0.mk (hbox); have n2_ := Aside0.mk ((by rw [hg]; exact (below_size (by repeat (first | (with_reducible first | exact HB.out | apply below_alloc | apply pw_below_drewN | apply below_drew1) | exact HB.out))) : w.heap.size ≤ gb172)); have n3_ := Aside0.mk ((by rw [hg]; exact (below_size (by repeat (first | (with_reducible first | exact HB.out | apply below_alloc | apply pw_below_drewN | apply below_drew1) | exact HB.out))) : w.heap.size ≤ gb172)); clear HB; have HB := n0_; have BK172 := n1_; have GW172 := n2_; have GE172 := n3_; clear n0_ n1_ n2_ n3_; clear hb hbox hg) | ((with_reducible refine gate_callee (f := 50) rfl ?_); refine goesL_ (some 20) rfl rfl Try.func50 (by kernel_rfl) rfl #[.string a0] rfl (by (try simp only [List.map_toArray, List.map_cons, List.map_nil]); first | done | rfl | (simp only [List.length_drop, List.length_take]; rfl)) ?_; (with_reducible refine (assartref01_Open.calls a0 t173 t176 _ A2.out).mono ?_); rintro e w11 ⟨v174, rfl, ho0, hb⟩; refine ⟨_, rfl, ?_⟩; have n0_ := Aside0.mk (Kd.V_lower (Kd.V_mono (ok' := fun k_ => k_ ≠ gb172) ho0 (fun k_ hk_ => (Kd.freshB (g := gb172) (o := .cells #[.int .i64 0, .int .i64 0, .int .i64 0] 23 (0, 0)) (by (with_reducible repeat (first | refine blk_drewN ?_ _ | refine blk_drew ?_ | refine blk_alloc ?_ _)); exact BK172.out) k_ hk_))) (below_size (by repeat (first | (with_reducible first | exact HB.out | apply below_alloc | apply pw_below_drewN | apply below_drew1 | refine below_set ?_ GE172.out) | exact HB.out)))); have n1_ := Aside0.mk (blk_below (g := gb172) (o := .cells #[.int .i64 0, .int .i64 0, .int .i64 0] 23 (0, 0)) (by (with_reducible repeat (first | refine blk_drewN ?_ _ | refine blk_drew ?_ | refine blk_alloc ?_ _)); exact BK172.out) hb); have n2_ := Aside0.mk (below_step (by repeat (first | (with_reducible first | exact HB.out | apply below_alloc | apply pw_below_drewN | apply below_drew1 | refine below_set ?_ GE172.out) | exact HB.out)) hb); clear BK172; clear HB; have HO175 := n0_; have BK172 := n1_; have HB := n2_; clear n0_ n1_ n2_; (try clear hb); (try clear hb2); (try clear hk); (try clear hi); (try clear ho0); obtain ⟨Ao12, co12, eo12⟩ := Kd.V_slice HO175.out; subst eo12) | ((with_reducible refine gate_callee (f := 51) rfl ?_); refine goesL_ (some 28) rfl rfl Try.func51 (by kernel_rfl) rfl #[.slice Ao12 t173.length co12, .int .i64 2, .int .i64 4] rfl (by (try simp only [List.map_toArray, List.map_cons, List.map_nil]); first | done | rfl | (simp only [List.length_drop, List.length_take]; rfl)) ?_; (with_reducible refine (assartref01_Take.calls k _ _ t173 2 4 t177 t178 t179 _ ?side1 ?side2 A4.out).mono ?_); (case side1 => repeat (first | exact (Kd.V_reads' HO175.out).2.2 | (with_reducible refine Kd.C_alloc ?_ _) | (with_reducible refine Kd.C_drewN ?_ _) | (with_reducible refine Kd.C_drew ?_))); (case side2 => exact (Kd.V_reads' HO175.out).2.1); rintro e w' ⟨rfl, ⟨nd, rfl⟩⟩; refine ⟨_, rfl, ?_⟩; (try (rw [drewN_self w11]; generalize hq_ : World.drewN w11 _ = w11; have n0_ : Aside0 (Kd.V (Kd.int .u8) 5 w11 w.heap.size (fun k_ => k_ ≠ gb172) (.slice Ao12 t173.length co12) t173) := ⟨by rw [← hq_]; exact (by (with_reducible repeat (first | apply Kd.V_alloc | apply Kd.V_drewN | apply Kd.V_drew)); exact HO175.out)⟩; have n1_ : Aside0 (w11.heap[gb172]? = some (.cells #[.int .i64 0, .int .i64 0, .int .i64 0] 23 (0, 0))) := ⟨by rw [← hq_]; exact (by (with_reducible repeat (first | refine blk_drewN ?_ _ | refine blk_drew ?_ | refine blk_alloc ?_ _)); exact BK172.out)⟩; have n2_ : Aside0 (Below w.heap.size w w11) := ⟨by rw [← hq_]; exact (by repeat (first | (with_reducible first | exact HB.out | apply below_alloc | apply pw_below_drewN | apply below_drew1 | refine below_set ?_ GE172.out) | exact HB.out))⟩; clear HO175 BK172 HB hq_; have HO175 := n0_; have BK172 := n1_; have HB := n2_; clear n0_ n1_ n2_))) | ((with_reducible refine gate_callee (f := 51) rfl ?_); refine goesL_ (some 34) rfl rfl Try.func51 (by kernel_rfl) rfl #[.slice Ao12 t173.length co12, .int .i64 6, .int .i64 4] rfl (by (try simp only [List.map_toArray, List.map_cons, List.map_nil]); first | done | rfl | (simp only [List.length_drop, List.length_take]; rfl)) ?_; (with_reducible refine (assartref01_Take.calls k _ _ t173 6 4 t180 t181 t182 _ ?side1 ?side2 A5.out).mono ?_); (case side1 => repeat (first | exact (Kd.V_reads' HO175.out).2.2 | (with_reducible refine Kd.C_alloc ?_ _) | (with_reducible refine Kd.C_drewN ?_ _) | (with_reducible refine Kd.C_drew ?_))); (case side2 => exact (Kd.V_reads' HO175.out).2.1); rintro e w' ⟨rfl, ⟨nd, rfl⟩⟩; refine ⟨_, rfl, ?_⟩; (try (rw [drewN_self w11]; generalize hq_ : World.drewN w11 _ = w11; have n0_ : Aside0 (Kd.V (Kd.int .u8) 5 w11 w.heap.size (fun k_ => k_ ≠ gb172) (.slice Ao12 t173.length co12) t173) := ⟨by rw [← hq_]; exact (by (with_reducible repeat (first | apply Kd.V_alloc | apply Kd.V_drewN | apply Kd.V_drew)); exact HO175.out)⟩; have n1_ : Aside0 (w11.heap[gb172]? = some (.cells #[.int .i64 0, .int .i64 0, .int .i64 0] 23 (0, 0))) := ⟨by rw [← hq_]; exact (by (with_reducible repeat (first | refine blk_drewN ?_ _ | refine blk_drew ?_ | refine blk_alloc ?_ _)); exact BK172.out)⟩; have n2_ : Aside0 (Below w.heap.size w w11) := ⟨by rw [← hq_]; exact (by repeat (first | (with_reducible first | exact HB.out | apply below_alloc | apply pw_below_drewN | apply below_drew1 | refine below_set ?_ GE172.out) | exact HB.out))⟩; clear HO175 BK172 HB hq_; have HO175 := n0_; have BK172 := n1_; have HB := n2_; clear n0_ n1_ n2_))) | ((with_reducible refine gate_callee (f := 51) rfl ?_); refine goesL_ (some 40) rfl rfl Try.func51 (by kernel_rfl) rfl #[.slice Ao12 t173.length co12, .int .i64 10, .int .i64 4] rfl (by (try simp only [List.map_toArray, List.map_cons, List.map_nil]); first | done | rfl | (simp only [List.length_drop, List.length_take]; rfl)) ?_; (with_reducible refine (assartref01_Take.calls k _ _ t173 10 4 t183 t184 t185 _ ?side1 ?side2 A6.out).mono ?_); (case side1 => repeat (first | exact (Kd.V_reads' HO175.out).2.2 | (with_reducible refine Kd.C_alloc ?_ _) | (with_reducible refine Kd.C_drewN ?_ _) | (with_reducible refine Kd.C_drew ?_))); (case side2 => exact (Kd.V_reads' HO175.out).2.1); rintro e w' ⟨rfl, ⟨nd, rfl⟩⟩; refine ⟨_, rfl, ?_⟩; (try (rw [drewN_self w11]; generalize hq_ : World.drewN w11 _ = w11; have n0_ : Aside0 (Kd.V (Kd.int .u8) 5 w11 w.heap.size (fun k_ => k_ ≠ gb172) (.slice Ao12 t173.length co12) t173) := ⟨by rw [← hq_]; exact (by (with_reducible repeat (first | apply Kd.V_alloc | apply Kd.V_drewN | apply Kd.V_drew)); exact HO175.out)⟩; have n1_ : Aside0 (w11.heap[gb172]? = some (.cells #[.int .i64 0, .int .i64 0, .int .i64 0] 23 (0, 0))) := ⟨by rw [← hq_]; exact (by (with_reducible repeat (first | refine blk_drewN ?_ _ | refine blk_drew ?_ | refine blk_alloc ?_ _)); exact BK172.out)⟩; have n2_ : Aside0 (Below w.heap.size w w11) := ⟨by rw [← hq_]; exact (by repeat (first | (with_reducible first | exact HB.out | apply below_alloc | apply pw_below_drewN | apply below_drew1 | refine below_set ?_ GE172.out) | exact HB.out))⟩; clear HO175 BK172 HB hq_; have HO175 := n0_; have BK172 := n1_; have HB := n2_; clear n0_ n1_ n2_))) | ((with_reducible refine gate_dst (N := 15) rfl ?_); refine box_event ?hg (N := 15) ?hd (cs := #[.int .i64 0, .int .i64 0, .int .i64 0]) (t := 23) ?hr ?_; (case hd => rfl); (case hg => rfl); (case hr => first | (go_simp; done) | (go_simp; rfl)); intro gb186 hg w13 hbox hb; have n0_ := Aside0.mk (Kd.V_below (Kd.V_elderB (by (with_reducible repeat (first | apply Kd.V_alloc | apply Kd.V_drewN | apply Kd.V_drew)); exact HO175.out) gb186 (Nat.le_of_eq hg.symm)) hb); have n1_ := Aside0.mk (blk_below (g := gb172) (o := .cells #[.int .i64 0, .int .i64 0, .int .i64 0] 23 (0, 0)) (by (with_reducible repeat (first | refine blk_drewN ?_ _ | refine blk_drew ?_ | refine blk_alloc ?_ _)); exact BK172.out) hb); have n2_ := Aside0.mk (below_step (by repeat (first | (with_reducible first | exact HB.out | apply below_alloc | apply pw_below_drewN | apply below_drew1 | refine below_set ?_ GE172.out) | exact HB.out)) hb); have n3_ := Aside0.mk (hbox); have n4_ := Aside0.mk ((by rw [hg]; exact (below_size (by repeat (first | (with_reducible first | exact HB.out | apply below_alloc | apply pw_below_drewN | apply below_drew1 | refine below_set ?_ GE172.out) | exact HB.out))) : w.heap.size ≤ gb186)); have n5_ := Aside0.mk ((by rw [hg]; exact (below_size (by repeat (first | (with_reducible first | exact HB.out | apply below_alloc | apply pw_below_drewN | apply below_drew1 | refine below_set ?_ GE172.out) | exact HB.out))) : w.heap.size ≤ gb186)); have n6_ := Aside0.mk ((by rw [hg]; exact Nat.ne_of_lt (blk_lt (g := gb172) (o := .cells #[.int .i64 0, .int .i64 0, .int .i64 0] 23 (0, 0)) (by (with_reducible repeat (first | refine blk_drewN ?_ _ | refine blk_drew ?_ | refine blk_alloc ?_ _)); exact BK172.out)) : gb172 ≠ gb186)); have n7_ := Aside0.mk ((by rw [hg]; exact Nat.ne_of_gt (blk_lt (g := gb172) (o := .cells #[.int .i64 0, .int .i64 0, .int .i64 0] 23 (0, 0)) (by (with_reducible repeat (first | refine blk_drewN ?_ _ | refine blk_drew ?_ | refine blk_alloc ?_ _)); exact BK172.out)) : gb186 ≠ gb172)); clear HO175; clear BK172; clear HB; have HO175 := n0_; have BK172 := n1_; have HB := n2_; have BK186 := n3_; have GW186 := n4_; have GE186 := n5_; have NB172_186 := n6_; have NB186_172 := n7_; clear n0_ n1_ n2_ n3_ n4_ n5_ n6_ n7_; clear hb hbox hg; have hnb14 := NB186_172.out; have hnc14 := NB172_186.out; have hcz15_0 : w13.cell? ⟨gb186, 0, none⟩ = some (.int .i64 0) := (blk_cell BK186.out 0).trans rfl; have hcz15_1 : w13.cell? ⟨gb186, 1, none⟩ = some (.int .i64 0) := (blk_cell BK186.out 1).trans rfl; have hcz15_2 : w13.cell? ⟨gb186, 2, none⟩ = some (.int .i64 0) := (blk_cell BK186.out 2).trans rfl; have hfz15_0 := blk_frozen BK186.out 0; have hfz15_1 := blk_frozen BK186.out 1; have hfz15_2 := blk_frozen BK186.out 2) | ((with_reducible refine gate_callee (f := 17) rfl ?_); refine goesL_ (some 50) rfl rfl Try.func17 (by kernel_rfl) rfl #[.agg #[.int .i64 t177, .int .i64 t180, .int .i64 t183]] rfl (by (try simp only [List.map_toArray, List.map_cons, List.map_nil]); first | done | rfl | (simp only [List.length_drop, List.length_take]; rfl)) ?_; (with_reducible refine (assartref03_Print.calls k t177 t180 t183 t187 t188 _ A7.out).mono ?_); rintro e w16 ⟨rfl, hb⟩; refine ⟨_, rfl, ?_⟩; have n0_ := Aside0.mk (Kd.V_below (by (with_reducible repeat (first | apply Kd.V_alloc | apply Kd.V_drewN | apply Kd.V_drew)); exact (Kd.V_mono (Kd.V_far (p := ⟨gb186, 2, none⟩) (Kd.V_far (p := ⟨gb186, 1, none⟩) (Kd.V_far (p := ⟨gb186, 0, none⟩) (Kd.V_mono HO175.out (fun k_ hk => (⟨hk, hk.2⟩ : _ ∧ k_ ≠ gb186))) (fun _ hk => hk.2) (.int .i64 t177)) (fun _ hk => hk.2) (.int .i64 t180)) (fun _ hk => hk.2) (.int .i64 t183)) (fun _ h_ => h_.1))) hb); have n1_ := Aside0.mk (blk_below (g := gb172) (o := .cells #[.int .i64 0, .int .i64 0, .int .i64 0] 23 (0, 0)) (by (with_reducible repeat (first | refine blk_drewN ?_ _ | refine blk_drew ?_ | refine blk_alloc ?_ _)); refine blk_far ?_ NB172_186.out _; (with_reducible repeat (first | refine blk_drewN ?_ _ | refine blk_drew ?_ | refine blk_alloc ?_ _)); refine blk_far ?_ NB172_186.out _; (with_reducible repeat (first | refine blk_drewN ?_ _ | refine blk_drew ?_ | refine blk_alloc ?_ _)); refine blk_far ?_ NB172_186.out _; (with_reducible repeat (first | refine blk_drewN ?_ _ | refine blk_drew ?_ | refine blk_alloc ?_ _)); exact BK172.out) hb); have n2_ := Aside0.mk (blk_below (g := gb186) (o := .cells #[.int .i64 t177, .int .i64 t180, .int .i64 t183] 23 (0, 0)) (by (with_reducible repeat (first | refine blk_drewN ?_ _ | refine blk_drew ?_ | refine blk_alloc ?_ _)); refine blk_put (cs := #[.int .i64 t177, .int .i64 t180, .int .i64 0]) ?_ 2 _ rfl; (with_reducible repeat (first | refine blk_drewN ?_ _ | refine blk_drew ?_ | refine blk_alloc ?_ _)); refine blk_put (cs := #[.int .i64 t177, .int .i64 0, .int .i64 0]) ?_ 1 _ rfl; (with_reducible repeat (first | refine blk_drewN ?_ _ | refine blk_drew ?_ | refine blk_alloc ?_ _)); refine blk_put (cs := #[.int .i64 0, .int .i64 0, .int .i64 0]) ?_ 0 _ rfl; (with_reducible repeat (first | refine blk_drewN ?_ _ | refine blk_drew ?_ | refine blk_alloc ?_ _)); exact BK186.out) hb); have n3_ := Aside0.mk (below_step (by repeat (first | (with_reducible first | exact HB.out | apply below_alloc | apply pw_below_drewN | apply below_drew1 | refine below_set ?_ GE172.out | refine below_set ?_ GE186.out) | exact HB.out)) hb); clear HO175; clear BK172; clear BK186; clear HB; have HO175 := n0_; have BK172 := n1_; have BK186 := n2_; have HB := n3_; clear n0_ n1_ n2_ n3_; (try clear hb); (try clear hb2); (try clear hk); (try clear hi); have hcz17_0 : w16.cell? ⟨gb186, 0, none⟩ = some (.int .i64 t177) := (blk_cell BK186.out 0).trans rfl; have hcz17_1 : w16.cell? ⟨gb186, 1, none⟩ = some (.int .i64 t180) := (blk_cell BK186.out 1).trans rfl; have hcz17_2 : w16.cell? ⟨gb186, 2, none⟩ = some (.int .i64 t183) := (blk_cell BK186.out 2).trans rfl; have hfz17_0 := blk_frozen BK186.out 0; have hfz17_1 := blk_frozen BK186.out 1; have hfz17_2 := blk_frozen BK186.out 2; have hcz18_0 : w16.cell? ⟨gb172, 0, none⟩ = some (.int .i64 0) := (blk_cell BK172.out 0).trans rfl; have hcz18_1 : w16.cell? ⟨gb172, 1, none⟩ = some (.int .i64 0) := (blk_cell BK172.out 1).trans rfl; have hcz18_2 : w16.cell? ⟨gb172, 2, none⟩ = some (.int .i64 0) := (blk_cell BK172.out 2).trans rfl; have hfz18_0 := blk_frozen BK172.out 0; have hfz18_1 := blk_frozen BK172.out 1; have hfz18_2 := blk_frozen BK172.out 2))
        refine bodyPost_ret (results_ct rfl _ _ gb172 23 #[.int .i64 t177, .int .i64 t180, .int .i64 t183] (0, 0) _ rfl (by (with_reducible repeat (first | refine blk_drewN ?_ _ | refine blk_drew ?_ | refine blk_alloc ?_ _)); refine blk_put (cs := #[.int .i64 t177, .int .i64 t180, .int .i64 0]) ?_ 2 _ rfl; (with_reducible repeat (first | refine blk_drewN ?_ _ | refine blk_drew ?_ | refine blk_alloc ?_ _)); refine blk_put (cs := #[.int .i64 t177, .int .i64 0, .int .i64 0]) ?_ 1 _ rfl; (with_reducible repeat (first | refine blk_drewN ?_ _ | refine blk_drew ?_ | refine blk_alloc ?_ _)); refine blk_put (cs := #[.int .i64 0, .int .i64 0, .int .i64 0]) ?_ 0 _ rfl; (with_reducible repeat (first | refine blk_drewN ?_ _ | refine blk_drew ?_ | refine blk_alloc ?_ _)); exact BK172.out) Try.underlying23 rfl (by kernel_rfl)) rfl ?_
        exact ⟨by first | rfl | (simp [errW_none, errW_some] <;> rfl) | (simp [*, errW_none, errW_some] <;> rfl), by repeat (first | (with_reducible first | exact HB.out | apply below_alloc | apply pw_below_drewN | apply below_drew1 | refine below_set ?_ GE172.out | refine below_set ?_ GE186.out) | exact HB.out)⟩
      · rw [if_neg c9] at H
        have c9b0 : (t187.toList == a0.toList) = false := beq_eq_false_iff_ne.mpr c9
        have c9b1 : (t187.toList != a0.toList) = true := bne_iff_ne.mpr c9
        simp only [Option.some.injEq, Prod.mk.injEq] at H
        obtain ⟨rfl, rfl, rfl, rfl⟩ := H
        go_enter Try.func19, Try.ntmps19
        go_wp2_with (first | ((with_reducible refine gate_dst (N := 2) rfl ?_); refine box_event ?hg (N := 2) ?hd (cs := #[.int .i64 0, .int .i64 0, .int .i64 0]) (t := 23) ?hr ?_; (case hd => rfl); (case hg => rfl); (case hr => first | (go_simp; done) | (go_simp; rfl)); intro gb172 hg w19 hbox hb; have n0_ := Aside0.mk (below_step (by repeat (first | (with_reducible first | exact HB.out | apply below_alloc | apply pw_below_drewN | apply below_drew1) | exact HB.out)) hb); have n1_ := Aside0.mk (hbox); have n2_ := Aside0.mk ((by rw [hg]; exact (below_size (by repeat (first | (with_reducible first | exact HB.out | apply below_alloc | apply pw_below_drewN | apply below_drew1) | exact HB.out))) : w.heap.size ≤ gb172)); have n3_ := Aside0.mk ((by rw [hg]; exact (below_size (by repeat (first | (with_reducible first | exact HB.out | apply below_alloc | apply pw_below_drewN | apply below_drew1) | exact HB.out))) : w.heap.size ≤ gb172)); clear HB; have HB := n0_; have BK172 := n1_; have GW172 := n2_; have GE172 := n3_; clear n0_ n1_ n2_ n3_; clear hb hbox hg) | ((with_reducible refine gate_callee (f := 50) rfl ?_); refine goesL_ (some 20) rfl rfl Try.func50 (by kernel_rfl) rfl #[.string a0] rfl (by (try simp only [List.map_toArray, List.map_cons, List.map_nil]); first | done | rfl | (simp only [List.length_drop, List.length_take]; rfl)) ?_; (with_reducible refine (assartref01_Open.calls a0 t173 t176 _ A2.out).mono ?_); rintro e w20 ⟨v174, rfl, ho0, hb⟩; refine ⟨_, rfl, ?_⟩; have n0_ := Aside0.mk (Kd.V_lower (Kd.V_mono (ok' := fun k_ => k_ ≠ gb172) ho0 (fun k_ hk_ => (Kd.freshB (g := gb172) (o := .cells #[.int .i64 0, .int .i64 0, .int .i64 0] 23 (0, 0)) (by (with_reducible repeat (first | refine blk_drewN ?_ _ | refine blk_drew ?_ | refine blk_alloc ?_ _)); exact BK172.out) k_ hk_))) (below_size (by repeat (first | (with_reducible first | exact HB.out | apply below_alloc | apply pw_below_drewN | apply below_drew1 | refine below_set ?_ GE172.out) | exact HB.out)))); have n1_ := Aside0.mk (blk_below (g := gb172) (o := .cells #[.int .i64 0, .int .i64 0, .int .i64 0] 23 (0, 0)) (by (with_reducible repeat (first | refine blk_drewN ?_ _ | refine blk_drew ?_ | refine blk_alloc ?_ _)); exact BK172.out) hb); have n2_ := Aside0.mk (below_step (by repeat (first | (with_reducible first | exact HB.out | apply below_alloc | apply pw_below_drewN | apply below_drew1 | refine below_set ?_ GE172.out) | exact HB.out)) hb); clear BK172; clear HB; have HO175 := n0_; have BK172 := n1_; have HB := n2_; clear n0_ n1_ n2_; (try clear hb); (try clear hb2); (try clear hk); (try clear hi); (try clear ho0); obtain ⟨Ao21, co21, eo21⟩ := Kd.V_slice HO175.out; subst eo21) | ((with_reducible refine gate_callee (f := 51) rfl ?_); refine goesL_ (some 28) rfl rfl Try.func51 (by kernel_rfl) rfl #[.slice Ao21 t173.length co21, .int .i64 2, .int .i64 4] rfl (by (try simp only [List.map_toArray, List.map_cons, List.map_nil]); first | done | rfl | (simp only [List.length_drop, List.length_take]; rfl)) ?_; (with_reducible refine (assartref01_Take.calls k _ _ t173 2 4 t177 t178 t179 _ ?side1 ?side2 A4.out).mono ?_); (case side1 => repeat (first | exact (Kd.V_reads' HO175.out).2.2 | (with_reducible refine Kd.C_alloc ?_ _) | (with_reducible refine Kd.C_drewN ?_ _) | (with_reducible refine Kd.C_drew ?_))); (case side2 => exact (Kd.V_reads' HO175.out).2.1); rintro e w' ⟨rfl, ⟨nd, rfl⟩⟩; refine ⟨_, rfl, ?_⟩; (try (rw [drewN_self w20]; generalize hq_ : World.drewN w20 _ = w20; have n0_ : Aside0 (Kd.V (Kd.int .u8) 5 w20 w.heap.size (fun k_ => k_ ≠ gb172) (.slice Ao21 t173.length co21) t173) := ⟨by rw [← hq_]; exact (by (with_reducible repeat (first | apply Kd.V_alloc | apply Kd.V_drewN | apply Kd.V_drew)); exact HO175.out)⟩; have n1_ : Aside0 (w20.heap[gb172]? = some (.cells #[.int .i64 0, .int .i64 0, .int .i64 0] 23 (0, 0))) := ⟨by rw [← hq_]; exact (by (with_reducible repeat (first | refine blk_drewN ?_ _ | refine blk_drew ?_ | refine blk_alloc ?_ _)); exact BK172.out)⟩; have n2_ : Aside0 (Below w.heap.size w w20) := ⟨by rw [← hq_]; exact (by repeat (first | (with_reducible first | exact HB.out | apply below_alloc | apply pw_below_drewN | apply below_drew1 | refine below_set ?_ GE172.out) | exact HB.out))⟩; clear HO175 BK172 HB hq_; have HO175 := n0_; have BK172 := n1_; have HB := n2_; clear n0_ n1_ n2_))) | ((with_reducible refine gate_callee (f := 51) rfl ?_); refine goesL_ (some 34) rfl rfl Try.func51 (by kernel_rfl) rfl #[.slice Ao21 t173.length co21, .int .i64 6, .int .i64 4] rfl (by (try simp only [List.map_toArray, List.map_cons, List.map_nil]); first | done | rfl | (simp only [List.length_drop, List.length_take]; rfl)) ?_; (with_reducible refine (assartref01_Take.calls k _ _ t173 6 4 t180 t181 t182 _ ?side1 ?side2 A5.out).mono ?_); (case side1 => repeat (first | exact (Kd.V_reads' HO175.out).2.2 | (with_reducible refine Kd.C_alloc ?_ _) | (with_reducible refine Kd.C_drewN ?_ _) | (with_reducible refine Kd.C_drew ?_))); (case side2 => exact (Kd.V_reads' HO175.out).2.1); rintro e w' ⟨rfl, ⟨nd, rfl⟩⟩; refine ⟨_, rfl, ?_⟩; (try (rw [drewN_self w20]; generalize hq_ : World.drewN w20 _ = w20; have n0_ : Aside0 (Kd.V (Kd.int .u8) 5 w20 w.heap.size (fun k_ => k_ ≠ gb172) (.slice Ao21 t173.length co21) t173) := ⟨by rw [← hq_]; exact (by (with_reducible repeat (first | apply Kd.V_alloc | apply Kd.V_drewN | apply Kd.V_drew)); exact HO175.out)⟩; have n1_ : Aside0 (w20.heap[gb172]? = some (.cells #[.int .i64 0, .int .i64 0, .int .i64 0] 23 (0, 0))) := ⟨by rw [← hq_]; exact (by (with_reducible repeat (first | refine blk_drewN ?_ _ | refine blk_drew ?_ | refine blk_alloc ?_ _)); exact BK172.out)⟩; have n2_ : Aside0 (Below w.heap.size w w20) := ⟨by rw [← hq_]; exact (by repeat (first | (with_reducible first | exact HB.out | apply below_alloc | apply pw_below_drewN | apply below_drew1 | refine below_set ?_ GE172.out) | exact HB.out))⟩; clear HO175 BK172 HB hq_; have HO175 := n0_; have BK172 := n1_; have HB := n2_; clear n0_ n1_ n2_))) | ((with_reducible refine gate_callee (f := 51) rfl ?_); refine goesL_ (some 40) rfl rfl Try.func51 (by kernel_rfl) rfl #[.slice Ao21 t173.length co21, .int .i64 10, .int .i64 4] rfl (by (try simp only [List.map_toArray, List.map_cons, List.map_nil]); first | done | rfl | (simp only [List.length_drop, List.length_take]; rfl)) ?_; (with_reducible refine (assartref01_Take.calls k _ _ t173 10 4 t183 t184 t185 _ ?side1 ?side2 A6.out).mono ?_); (case side1 => repeat (first | exact (Kd.V_reads' HO175.out).2.2 | (with_reducible refine Kd.C_alloc ?_ _) | (with_reducible refine Kd.C_drewN ?_ _) | (with_reducible refine Kd.C_drew ?_))); (case side2 => exact (Kd.V_reads' HO175.out).2.1); rintro e w' ⟨rfl, ⟨nd, rfl⟩⟩; refine ⟨_, rfl, ?_⟩; (try (rw [drewN_self w20]; generalize hq_ : World.drewN w20 _ = w20; have n0_ : Aside0 (Kd.V (Kd.int .u8) 5 w20 w.heap.size (fun k_ => k_ ≠ gb172) (.slice Ao21 t173.length co21) t173) := ⟨by rw [← hq_]; exact (by (with_reducible repeat (first | apply Kd.V_alloc | apply Kd.V_drewN | apply Kd.V_drew)); exact HO175.out)⟩; have n1_ : Aside0 (w20.heap[gb172]? = some (.cells #[.int .i64 0, .int .i64 0, .int .i64 0] 23 (0, 0))) := ⟨by rw [← hq_]; exact (by (with_reducible repeat (first | refine blk_drewN ?_ _ | refine blk_drew ?_ | refine blk_alloc ?_ _)); exact BK172.out)⟩; have n2_ : Aside0 (Below w.heap.size w w20) := ⟨by rw [← hq_]; exact (by repeat (first | (with_reducible first | exact HB.out | apply below_alloc | apply pw_below_drewN | apply below_drew1 | refine below_set ?_ GE172.out) | exact HB.out))⟩; clear HO175 BK172 HB hq_; have HO175 := n0_; have BK172 := n1_; have HB := n2_; clear n0_ n1_ n2_))) | ((with_reducible refine gate_dst (N := 15) rfl ?_); refine box_event ?hg (N := 15) ?hd (cs := #[.int .i64 0, .int .i64 0, .int .i64 0]) (t := 23) ?hr ?_; (case hd => rfl); (case hg => rfl); (case hr => first | (go_simp; done) | (go_simp; rfl)); intro gb186 hg w22 hbox hb; have n0_ := Aside0.mk (Kd.V_below (Kd.V_elderB (by (with_reducible repeat (first | apply Kd.V_alloc | apply Kd.V_drewN | apply Kd.V_drew)); exact HO175.out) gb186 (Nat.le_of_eq hg.symm)) hb); have n1_ := Aside0.mk (blk_below (g := gb172) (o := .cells #[.int .i64 0, .int .i64 0, .int .i64 0] 23 (0, 0)) (by (with_reducible repeat (first | refine blk_drewN ?_ _ | refine blk_drew ?_ | refine blk_alloc ?_ _)); exact BK172.out) hb); have n2_ := Aside0.mk (below_step (by repeat (first | (with_reducible first | exact HB.out | apply below_alloc | apply pw_below_drewN | apply below_drew1 | refine below_set ?_ GE172.out) | exact HB.out)) hb); have n3_ := Aside0.mk (hbox); have n4_ := Aside0.mk ((by rw [hg]; exact (below_size (by repeat (first | (with_reducible first | exact HB.out | apply below_alloc | apply pw_below_drewN | apply below_drew1 | refine below_set ?_ GE172.out) | exact HB.out))) : w.heap.size ≤ gb186)); have n5_ := Aside0.mk ((by rw [hg]; exact (below_size (by repeat (first | (with_reducible first | exact HB.out | apply below_alloc | apply pw_below_drewN | apply below_drew1 | refine below_set ?_ GE172.out) | exact HB.out))) : w.heap.size ≤ gb186)); have n6_ := Aside0.mk ((by rw [hg]; exact Nat.ne_of_lt (blk_lt (g := gb172) (o := .cells #[.int .i64 0, .int .i64 0, .int .i64 0] 23 (0, 0)) (by (with_reducible repeat (first | refine blk_drewN ?_ _ | refine blk_drew ?_ | refine blk_alloc ?_ _)); exact BK172.out)) : gb172 ≠ gb186)); have n7_ := Aside0.mk ((by rw [hg]; exact Nat.ne_of_gt (blk_lt (g := gb172) (o := .cells #[.int .i64 0, .int .i64 0, .int .i64 0] 23 (0, 0)) (by (with_reducible repeat (first | refine blk_drewN ?_ _ | refine blk_drew ?_ | refine blk_alloc ?_ _)); exact BK172.out)) : gb186 ≠ gb172)); clear HO175; clear BK172; clear HB; have HO175 := n0_; have BK172 := n1_; have HB := n2_; have BK186 := n3_; have GW186 := n4_; have GE186 := n5_; have NB172_186 := n6_; have NB186_172 := n7_; clear n0_ n1_ n2_ n3_ n4_ n5_ n6_ n7_; clear hb hbox hg; have hnb23 := NB186_172.out; have hnc23 := NB172_186.out; have hcz24_0 : w22.cell? ⟨gb186, 0, none⟩ = some (.int .i64 0) := (blk_cell BK186.out 0).trans rfl; have hcz24_1 : w22.cell? ⟨gb186, 1, none⟩ = some (.int .i64 0) := (blk_cell BK186.out 1).trans rfl; have hcz24_2 : w22.cell? ⟨gb186, 2, none⟩ = some (.int .i64 0) := (blk_cell BK186.out 2).trans rfl; have hfz24_0 := blk_frozen BK186.out 0; have hfz24_1 := blk_frozen BK186.out 1; have hfz24_2 := blk_frozen BK186.out 2) | ((with_reducible refine gate_callee (f := 17) rfl ?_); refine goesL_ (some 50) rfl rfl Try.func17 (by kernel_rfl) rfl #[.agg #[.int .i64 t177, .int .i64 t180, .int .i64 t183]] rfl (by (try simp only [List.map_toArray, List.map_cons, List.map_nil]); first | done | rfl | (simp only [List.length_drop, List.length_take]; rfl)) ?_; (with_reducible refine (assartref03_Print.calls k t177 t180 t183 t187 t188 _ A7.out).mono ?_); rintro e w25 ⟨rfl, hb⟩; refine ⟨_, rfl, ?_⟩; have n0_ := Aside0.mk (Kd.V_below (by (with_reducible repeat (first | apply Kd.V_alloc | apply Kd.V_drewN | apply Kd.V_drew)); exact (Kd.V_mono (Kd.V_far (p := ⟨gb186, 2, none⟩) (Kd.V_far (p := ⟨gb186, 1, none⟩) (Kd.V_far (p := ⟨gb186, 0, none⟩) (Kd.V_mono HO175.out (fun k_ hk => (⟨hk, hk.2⟩ : _ ∧ k_ ≠ gb186))) (fun _ hk => hk.2) (.int .i64 t177)) (fun _ hk => hk.2) (.int .i64 t180)) (fun _ hk => hk.2) (.int .i64 t183)) (fun _ h_ => h_.1))) hb); have n1_ := Aside0.mk (blk_below (g := gb172) (o := .cells #[.int .i64 0, .int .i64 0, .int .i64 0] 23 (0, 0)) (by (with_reducible repeat (first | refine blk_drewN ?_ _ | refine blk_drew ?_ | refine blk_alloc ?_ _)); refine blk_far ?_ NB172_186.out _; (with_reducible repeat (first | refine blk_drewN ?_ _ | refine blk_drew ?_ | refine blk_alloc ?_ _)); refine blk_far ?_ NB172_186.out _; (with_reducible repeat (first | refine blk_drewN ?_ _ | refine blk_drew ?_ | refine blk_alloc ?_ _)); refine blk_far ?_ NB172_186.out _; (with_reducible repeat (first | refine blk_drewN ?_ _ | refine blk_drew ?_ | refine blk_alloc ?_ _)); exact BK172.out) hb); have n2_ := Aside0.mk (blk_below (g := gb186) (o := .cells #[.int .i64 t177, .int .i64 t180, .int .i64 t183] 23 (0, 0)) (by (with_reducible repeat (first | refine blk_drewN ?_ _ | refine blk_drew ?_ | refine blk_alloc ?_ _)); refine blk_put (cs := #[.int .i64 t177, .int .i64 t180, .int .i64 0]) ?_ 2 _ rfl; (with_reducible repeat (first | refine blk_drewN ?_ _ | refine blk_drew ?_ | refine blk_alloc ?_ _)); refine blk_put (cs := #[.int .i64 t177, .int .i64 0, .int .i64 0]) ?_ 1 _ rfl; (with_reducible repeat (first | refine blk_drewN ?_ _ | refine blk_drew ?_ | refine blk_alloc ?_ _)); refine blk_put (cs := #[.int .i64 0, .int .i64 0, .int .i64 0]) ?_ 0 _ rfl; (with_reducible repeat (first | refine blk_drewN ?_ _ | refine blk_drew ?_ | refine blk_alloc ?_ _)); exact BK186.out) hb); have n3_ := Aside0.mk (below_step (by repeat (first | (with_reducible first | exact HB.out | apply below_alloc | apply pw_below_drewN | apply below_drew1 | refine below_set ?_ GE172.out | refine below_set ?_ GE186.out) | exact HB.out)) hb); clear HO175; clear BK172; clear BK186; clear HB; have HO175 := n0_; have BK172 := n1_; have BK186 := n2_; have HB := n3_; clear n0_ n1_ n2_ n3_; (try clear hb); (try clear hb2); (try clear hk); (try clear hi); have hcz26_0 : w25.cell? ⟨gb172, 0, none⟩ = some (.int .i64 0) := (blk_cell BK172.out 0).trans rfl; have hcz26_1 : w25.cell? ⟨gb172, 1, none⟩ = some (.int .i64 0) := (blk_cell BK172.out 1).trans rfl; have hcz26_2 : w25.cell? ⟨gb172, 2, none⟩ = some (.int .i64 0) := (blk_cell BK172.out 2).trans rfl; have hfz26_0 := blk_frozen BK172.out 0; have hfz26_1 := blk_frozen BK172.out 1; have hfz26_2 := blk_frozen BK172.out 2))
        refine bodyPost_ret (results_ct rfl _ _ gb172 23 #[.int .i64 0, .int .i64 0, .int .i64 0] (0, 0) _ rfl (by (with_reducible repeat (first | refine blk_drewN ?_ _ | refine blk_drew ?_ | refine blk_alloc ?_ _)); refine blk_put (cs := #[.int .i64 0, .int .i64 0, .int .i64 0]) ?_ 2 _ rfl; (with_reducible repeat (first | refine blk_drewN ?_ _ | refine blk_drew ?_ | refine blk_alloc ?_ _)); refine blk_put (cs := #[.int .i64 0, .int .i64 0, .int .i64 0]) ?_ 1 _ rfl; (with_reducible repeat (first | refine blk_drewN ?_ _ | refine blk_drew ?_ | refine blk_alloc ?_ _)); refine blk_put (cs := #[.int .i64 0, .int .i64 0, .int .i64 0]) ?_ 0 _ rfl; (with_reducible repeat (first | refine blk_drewN ?_ _ | refine blk_drew ?_ | refine blk_alloc ?_ _)); exact BK172.out) Try.underlying23 rfl (by kernel_rfl)) rfl ?_
        exact ⟨by first | rfl | (simp [errW_none, errW_some] <;> rfl) | (simp [*, errW_none, errW_some] <;> rfl), by repeat (first | (with_reducible first | exact HB.out | apply below_alloc | apply pw_below_drewN | apply below_drew1 | refine below_set ?_ GE172.out | refine below_set ?_ GE186.out) | exact HB.out)⟩
    · rw [if_neg c8] at H
      have c8b0 : (t188 == 0) = false := beq_eq_false_iff_ne.mpr c8
      have c8b1 : (t188 != 0) = true := bne_iff_ne.mpr c8
      simp only [Option.some.injEq, Prod.mk.injEq] at H
      obtain ⟨rfl, rfl, rfl, rfl⟩ := H
      go_enter Try.func19, Try.ntmps19
      go_wp2_with (first | ((with_reducible refine gate_dst (N := 2) rfl ?_); refine box_event ?hg (N := 2) ?hd (cs := #[.int .i64 0, .int .i64 0, .int .i64 0]) (t := 23) ?hr ?_; (case hd => rfl); (case hg => rfl); (case hr => first | (go_simp; done) | (go_simp; rfl)); intro gb172 hg w27 hbox hb; have n0_ := Aside0.mk (below_step (by repeat (first | (with_reducible first | exact HB.out | apply below_alloc | apply pw_below_drewN | apply below_drew1) | exact HB.out)) hb); have n1_ := Aside0.mk (hbox); have n2_ := Aside0.mk ((by rw [hg]; exact (below_size (by repeat (first | (with_reducible first | exact HB.out | apply below_alloc | apply pw_below_drewN | apply below_drew1) | exact HB.out))) : w.heap.size ≤ gb172)); have n3_ := Aside0.mk ((by rw [hg]; exact (below_size (by repeat (first | (with_reducible first | exact HB.out | apply below_alloc | apply pw_below_drewN | apply below_drew1) | exact HB.out))) : w.heap.size ≤ gb172)); clear HB; have HB := n0_; have BK172 := n1_; have GW172 := n2_; have GE172 := n3_; clear n0_ n1_ n2_ n3_; clear hb hbox hg) | ((with_reducible refine gate_callee (f := 50) rfl ?_); refine goesL_ (some 20) rfl rfl Try.func50 (by kernel_rfl) rfl #[.string a0] rfl (by (try simp only [List.map_toArray, List.map_cons, List.map_nil]); first | done | rfl | (simp only [List.length_drop, List.length_take]; rfl)) ?_; (with_reducible refine (assartref01_Open.calls a0 t173 t176 _ A2.out).mono ?_); rintro e w28 ⟨v174, rfl, ho0, hb⟩; refine ⟨_, rfl, ?_⟩; have n0_ := Aside0.mk (Kd.V_lower (Kd.V_mono (ok' := fun k_ => k_ ≠ gb172) ho0 (fun k_ hk_ => (Kd.freshB (g := gb172) (o := .cells #[.int .i64 0, .int .i64 0, .int .i64 0] 23 (0, 0)) (by (with_reducible repeat (first | refine blk_drewN ?_ _ | refine blk_drew ?_ | refine blk_alloc ?_ _)); exact BK172.out) k_ hk_))) (below_size (by repeat (first | (with_reducible first | exact HB.out | apply below_alloc | apply pw_below_drewN | apply below_drew1 | refine below_set ?_ GE172.out) | exact HB.out)))); have n1_ := Aside0.mk (blk_below (g := gb172) (o := .cells #[.int .i64 0, .int .i64 0, .int .i64 0] 23 (0, 0)) (by (with_reducible repeat (first | refine blk_drewN ?_ _ | refine blk_drew ?_ | refine blk_alloc ?_ _)); exact BK172.out) hb); have n2_ := Aside0.mk (below_step (by repeat (first | (with_reducible first | exact HB.out | apply below_alloc | apply pw_below_drewN | apply below_drew1 | refine below_set ?_ GE172.out) | exact HB.out)) hb); clear BK172; clear HB; have HO175 := n0_; have BK172 := n1_; have HB := n2_; clear n0_ n1_ n2_; (try clear hb); (try clear hb2); (try clear hk); (try clear hi); (try clear ho0); obtain ⟨Ao29, co29, eo29⟩ := Kd.V_slice HO175.out; subst eo29) | ((with_reducible refine gate_callee (f := 51) rfl ?_); refine goesL_ (some 28) rfl rfl Try.func51 (by kernel_rfl) rfl #[.slice Ao29 t173.length co29, .int .i64 2, .int .i64 4] rfl (by (try simp only [List.map_toArray, List.map_cons, List.map_nil]); first | done | rfl | (simp only [List.length_drop, List.length_take]; rfl)) ?_; (with_reducible refine (assartref01_Take.calls k _ _ t173 2 4 t177 t178 t179 _ ?side1 ?side2 A4.out).mono ?_); (case side1 => repeat (first | exact (Kd.V_reads' HO175.out).2.2 | (with_reducible refine Kd.C_alloc ?_ _) | (with_reducible refine Kd.C_drewN ?_ _) | (with_reducible refine Kd.C_drew ?_))); (case side2 => exact (Kd.V_reads' HO175.out).2.1); rintro e w' ⟨rfl, ⟨nd, rfl⟩⟩; refine ⟨_, rfl, ?_⟩; (try (rw [drewN_self w28]; generalize hq_ : World.drewN w28 _ = w28; have n0_ : Aside0 (Kd.V (Kd.int .u8) 5 w28 w.heap.size (fun k_ => k_ ≠ gb172) (.slice Ao29 t173.length co29) t173) := ⟨by rw [← hq_]; exact (by (with_reducible repeat (first | apply Kd.V_alloc | apply Kd.V_drewN | apply Kd.V_drew)); exact HO175.out)⟩; have n1_ : Aside0 (w28.heap[gb172]? = some (.cells #[.int .i64 0, .int .i64 0, .int .i64 0] 23 (0, 0))) := ⟨by rw [← hq_]; exact (by (with_reducible repeat (first | refine blk_drewN ?_ _ | refine blk_drew ?_ | refine blk_alloc ?_ _)); exact BK172.out)⟩; have n2_ : Aside0 (Below w.heap.size w w28) := ⟨by rw [← hq_]; exact (by repeat (first | (with_reducible first | exact HB.out | apply below_alloc | apply pw_below_drewN | apply below_drew1 | refine below_set ?_ GE172.out) | exact HB.out))⟩; clear HO175 BK172 HB hq_; have HO175 := n0_; have BK172 := n1_; have HB := n2_; clear n0_ n1_ n2_))) | ((with_reducible refine gate_callee (f := 51) rfl ?_); refine goesL_ (some 34) rfl rfl Try.func51 (by kernel_rfl) rfl #[.slice Ao29 t173.length co29, .int .i64 6, .int .i64 4] rfl (by (try simp only [List.map_toArray, List.map_cons, List.map_nil]); first | done | rfl | (simp only [List.length_drop, List.length_take]; rfl)) ?_; (with_reducible refine (assartref01_Take.calls k _ _ t173 6 4 t180 t181 t182 _ ?side1 ?side2 A5.out).mono ?_); (case side1 => repeat (first | exact (Kd.V_reads' HO175.out).2.2 | (with_reducible refine Kd.C_alloc ?_ _) | (with_reducible refine Kd.C_drewN ?_ _) | (with_reducible refine Kd.C_drew ?_))); (case side2 => exact (Kd.V_reads' HO175.out).2.1); rintro e w' ⟨rfl, ⟨nd, rfl⟩⟩; refine ⟨_, rfl, ?_⟩; (try (rw [drewN_self w28]; generalize hq_ : World.drewN w28 _ = w28; have n0_ : Aside0 (Kd.V (Kd.int .u8) 5 w28 w.heap.size (fun k_ => k_ ≠ gb172) (.slice Ao29 t173.length co29) t173) := ⟨by rw [← hq_]; exact (by (with_reducible repeat (first | apply Kd.V_alloc | apply Kd.V_drewN | apply Kd.V_drew)); exact HO175.out)⟩; have n1_ : Aside0 (w28.heap[gb172]? = some (.cells #[.int .i64 0, .int .i64 0, .int .i64 0] 23 (0, 0))) := ⟨by rw [← hq_]; exact (by (with_reducible repeat (first | refine blk_drewN ?_ _ | refine blk_drew ?_ | refine blk_alloc ?_ _)); exact BK172.out)⟩; have n2_ : Aside0 (Below w.heap.size w w28) := ⟨by rw [← hq_]; exact (by repeat (first | (with_reducible first | exact HB.out | apply below_alloc | apply pw_below_drewN | apply below_drew1 | refine below_set ?_ GE172.out) | exact HB.out))⟩; clear HO175 BK172 HB hq_; have HO175 := n0_; have BK172 := n1_; have HB := n2_; clear n0_ n1_ n2_))) | ((with_reducible refine gate_callee (f := 51) rfl ?_); refine goesL_ (some 40) rfl rfl Try.func51 (by kernel_rfl) rfl #[.slice Ao29 t173.length co29, .int .i64 10, .int .i64 4] rfl (by (try simp only [List.map_toArray, List.map_cons, List.map_nil]); first | done | rfl | (simp only [List.length_drop, List.length_take]; rfl)) ?_; (with_reducible refine (assartref01_Take.calls k _ _ t173 10 4 t183 t184 t185 _ ?side1 ?side2 A6.out).mono ?_); (case side1 => repeat (first | exact (Kd.V_reads' HO175.out).2.2 | (with_reducible refine Kd.C_alloc ?_ _) | (with_reducible refine Kd.C_drewN ?_ _) | (with_reducible refine Kd.C_drew ?_))); (case side2 => exact (Kd.V_reads' HO175.out).2.1); rintro e w' ⟨rfl, ⟨nd, rfl⟩⟩; refine ⟨_, rfl, ?_⟩; (try (rw [drewN_self w28]; generalize hq_ : World.drewN w28 _ = w28; have n0_ : Aside0 (Kd.V (Kd.int .u8) 5 w28 w.heap.size (fun k_ => k_ ≠ gb172) (.slice Ao29 t173.length co29) t173) := ⟨by rw [← hq_]; exact (by (with_reducible repeat (first | apply Kd.V_alloc | apply Kd.V_drewN | apply Kd.V_drew)); exact HO175.out)⟩; have n1_ : Aside0 (w28.heap[gb172]? = some (.cells #[.int .i64 0, .int .i64 0, .int .i64 0] 23 (0, 0))) := ⟨by rw [← hq_]; exact (by (with_reducible repeat (first | refine blk_drewN ?_ _ | refine blk_drew ?_ | refine blk_alloc ?_ _)); exact BK172.out)⟩; have n2_ : Aside0 (Below w.heap.size w w28) := ⟨by rw [← hq_]; exact (by repeat (first | (with_reducible first | exact HB.out | apply below_alloc | apply pw_below_drewN | apply below_drew1 | refine below_set ?_ GE172.out) | exact HB.out))⟩; clear HO175 BK172 HB hq_; have HO175 := n0_; have BK172 := n1_; have HB := n2_; clear n0_ n1_ n2_))) | ((with_reducible refine gate_dst (N := 15) rfl ?_); refine box_event ?hg (N := 15) ?hd (cs := #[.int .i64 0, .int .i64 0, .int .i64 0]) (t := 23) ?hr ?_; (case hd => rfl); (case hg => rfl); (case hr => first | (go_simp; done) | (go_simp; rfl)); intro gb186 hg w30 hbox hb; have n0_ := Aside0.mk (Kd.V_below (Kd.V_elderB (by (with_reducible repeat (first | apply Kd.V_alloc | apply Kd.V_drewN | apply Kd.V_drew)); exact HO175.out) gb186 (Nat.le_of_eq hg.symm)) hb); have n1_ := Aside0.mk (blk_below (g := gb172) (o := .cells #[.int .i64 0, .int .i64 0, .int .i64 0] 23 (0, 0)) (by (with_reducible repeat (first | refine blk_drewN ?_ _ | refine blk_drew ?_ | refine blk_alloc ?_ _)); exact BK172.out) hb); have n2_ := Aside0.mk (below_step (by repeat (first | (with_reducible first | exact HB.out | apply below_alloc | apply pw_below_drewN | apply below_drew1 | refine below_set ?_ GE172.out) | exact HB.out)) hb); have n3_ := Aside0.mk (hbox); have n4_ := Aside0.mk ((by rw [hg]; exact (below_size (by repeat (first | (with_reducible first | exact HB.out | apply below_alloc | apply pw_below_drewN | apply below_drew1 | refine below_set ?_ GE172.out) | exact HB.out))) : w.heap.size ≤ gb186)); have n5_ := Aside0.mk ((by rw [hg]; exact (below_size (by repeat (first | (with_reducible first | exact HB.out | apply below_alloc | apply pw_below_drewN | apply below_drew1 | refine below_set ?_ GE172.out) | exact HB.out))) : w.heap.size ≤ gb186)); have n6_ := Aside0.mk ((by rw [hg]; exact Nat.ne_of_lt (blk_lt (g := gb172) (o := .cells #[.int .i64 0, .int .i64 0, .int .i64 0] 23 (0, 0)) (by (with_reducible repeat (first | refine blk_drewN ?_ _ | refine blk_drew ?_ | refine blk_alloc ?_ _)); exact BK172.out)) : gb172 ≠ gb186)); have n7_ := Aside0.mk ((by rw [hg]; exact Nat.ne_of_gt (blk_lt (g := gb172) (o := .cells #[.int .i64 0, .int .i64 0, .int .i64 0] 23 (0, 0)) (by (with_reducible repeat (first | refine blk_drewN ?_ _ | refine blk_drew ?_ | refine blk_alloc ?_ _)); exact BK172.out)) : gb186 ≠ gb172)); clear HO175; clear BK172; clear HB; have HO175 := n0_; have BK172 := n1_; have HB := n2_; have BK186 := n3_; have GW186 := n4_; have GE186 := n5_; have NB172_186 := n6_; have NB186_172 := n7_; clear n0_ n1_ n2_ n3_ n4_ n5_ n6_ n7_; clear hb hbox hg; have hnb31 := NB186_172.out; have hnc31 := NB172_186.out; have hcz32_0 : w30.cell? ⟨gb186, 0, none⟩ = some (.int .i64 0) := (blk_cell BK186.out 0).trans rfl; have hcz32_1 : w30.cell? ⟨gb186, 1, none⟩ = some (.int .i64 0) := (blk_cell BK186.out 1).trans rfl; have hcz32_2 : w30.cell? ⟨gb186, 2, none⟩ = some (.int .i64 0) := (blk_cell BK186.out 2).trans rfl; have hfz32_0 := blk_frozen BK186.out 0; have hfz32_1 := blk_frozen BK186.out 1; have hfz32_2 := blk_frozen BK186.out 2) | ((with_reducible refine gate_callee (f := 17) rfl ?_); refine goesL_ (some 50) rfl rfl Try.func17 (by kernel_rfl) rfl #[.agg #[.int .i64 t177, .int .i64 t180, .int .i64 t183]] rfl (by (try simp only [List.map_toArray, List.map_cons, List.map_nil]); first | done | rfl | (simp only [List.length_drop, List.length_take]; rfl)) ?_; (with_reducible refine (assartref03_Print.calls k t177 t180 t183 t187 t188 _ A7.out).mono ?_); rintro e w33 ⟨rfl, hb⟩; refine ⟨_, rfl, ?_⟩; have n0_ := Aside0.mk (Kd.V_below (by (with_reducible repeat (first | apply Kd.V_alloc | apply Kd.V_drewN | apply Kd.V_drew)); exact (Kd.V_mono (Kd.V_far (p := ⟨gb186, 2, none⟩) (Kd.V_far (p := ⟨gb186, 1, none⟩) (Kd.V_far (p := ⟨gb186, 0, none⟩) (Kd.V_mono HO175.out (fun k_ hk => (⟨hk, hk.2⟩ : _ ∧ k_ ≠ gb186))) (fun _ hk => hk.2) (.int .i64 t177)) (fun _ hk => hk.2) (.int .i64 t180)) (fun _ hk => hk.2) (.int .i64 t183)) (fun _ h_ => h_.1))) hb); have n1_ := Aside0.mk (blk_below (g := gb172) (o := .cells #[.int .i64 0, .int .i64 0, .int .i64 0] 23 (0, 0)) (by (with_reducible repeat (first | refine blk_drewN ?_ _ | refine blk_drew ?_ | refine blk_alloc ?_ _)); refine blk_far ?_ NB172_186.out _; (with_reducible repeat (first | refine blk_drewN ?_ _ | refine blk_drew ?_ | refine blk_alloc ?_ _)); refine blk_far ?_ NB172_186.out _; (with_reducible repeat (first | refine blk_drewN ?_ _ | refine blk_drew ?_ | refine blk_alloc ?_ _)); refine blk_far ?_ NB172_186.out _; (with_reducible repeat (first | refine blk_drewN ?_ _ | refine blk_drew ?_ | refine blk_alloc ?_ _)); exact BK172.out) hb); have n2_ := Aside0.mk (blk_below (g := gb186) (o := .cells #[.int .i64 t177, .int .i64 t180, .int .i64 t183] 23 (0, 0)) (by (with_reducible repeat (first | refine blk_drewN ?_ _ | refine blk_drew ?_ | refine blk_alloc ?_ _)); refine blk_put (cs := #[.int .i64 t177, .int .i64 t180, .int .i64 0]) ?_ 2 _ rfl; (with_reducible repeat (first | refine blk_drewN ?_ _ | refine blk_drew ?_ | refine blk_alloc ?_ _)); refine blk_put (cs := #[.int .i64 t177, .int .i64 0, .int .i64 0]) ?_ 1 _ rfl; (with_reducible repeat (first | refine blk_drewN ?_ _ | refine blk_drew ?_ | refine blk_alloc ?_ _)); refine blk_put (cs := #[.int .i64 0, .int .i64 0, .int .i64 0]) ?_ 0 _ rfl; (with_reducible repeat (first | refine blk_drewN ?_ _ | refine blk_drew ?_ | refine blk_alloc ?_ _)); exact BK186.out) hb); have n3_ := Aside0.mk (below_step (by repeat (first | (with_reducible first | exact HB.out | apply below_alloc | apply pw_below_drewN | apply below_drew1 | refine below_set ?_ GE172.out | refine below_set ?_ GE186.out) | exact HB.out)) hb); clear HO175; clear BK172; clear BK186; clear HB; have HO175 := n0_; have BK172 := n1_; have BK186 := n2_; have HB := n3_; clear n0_ n1_ n2_ n3_; (try clear hb); (try clear hb2); (try clear hk); (try clear hi); have hcz34_0 : w33.cell? ⟨gb172, 0, none⟩ = some (.int .i64 0) := (blk_cell BK172.out 0).trans rfl; have hcz34_1 : w33.cell? ⟨gb172, 1, none⟩ = some (.int .i64 0) := (blk_cell BK172.out 1).trans rfl; have hcz34_2 : w33.cell? ⟨gb172, 2, none⟩ = some (.int .i64 0) := (blk_cell BK172.out 2).trans rfl; have hfz34_0 := blk_frozen BK172.out 0; have hfz34_1 := blk_frozen BK172.out 1; have hfz34_2 := blk_frozen BK172.out 2))
      refine bodyPost_ret (results_ct rfl _ _ gb172 23 #[.int .i64 0, .int .i64 0, .int .i64 0] (0, 0) _ rfl (by (with_reducible repeat (first | refine blk_drewN ?_ _ | refine blk_drew ?_ | refine blk_alloc ?_ _)); refine blk_put (cs := #[.int .i64 0, .int .i64 0, .int .i64 0]) ?_ 2 _ rfl; (with_reducible repeat (first | refine blk_drewN ?_ _ | refine blk_drew ?_ | refine blk_alloc ?_ _)); refine blk_put (cs := #[.int .i64 0, .int .i64 0, .int .i64 0]) ?_ 1 _ rfl; (with_reducible repeat (first | refine blk_drewN ?_ _ | refine blk_drew ?_ | refine blk_alloc ?_ _)); refine blk_put (cs := #[.int .i64 0, .int .i64 0, .int .i64 0]) ?_ 0 _ rfl; (with_reducible repeat (first | refine blk_drewN ?_ _ | refine blk_drew ?_ | refine blk_alloc ?_ _)); exact BK172.out) Try.underlying23 rfl (by kernel_rfl)) rfl ?_
      exact ⟨by first | rfl | (simp [errW_none, errW_some] <;> rfl) | (simp [*, errW_none, errW_some] <;> rfl), by repeat (first | (with_reducible first | exact HB.out | apply below_alloc | apply pw_below_drewN | apply below_drew1 | refine below_set ?_ GE172.out | refine below_set ?_ GE186.out) | exact HB.out)⟩
  · rw [if_neg c3] at H
    have c3b0 : (t176 == 0) = false := beq_eq_false_iff_ne.mpr c3
    have c3b1 : (t176 != 0) = true := bne_iff_ne.mpr c3
    simp only [Option.some.injEq, Prod.mk.injEq] at H
    obtain ⟨rfl, rfl, rfl, rfl⟩ := H
    go_enter Try.func19, Try.ntmps19
    go_wp2_with (first | ((with_reducible refine gate_dst (N := 2) rfl ?_); refine box_event ?hg (N := 2) ?hd (cs := #[.int .i64 0, .int .i64 0, .int .i64 0]) (t := 23) ?hr ?_; (case hd => rfl); (case hg => rfl); (case hr => first | (go_simp; done) | (go_simp; rfl)); intro gb172 hg w35 hbox hb; have n0_ := Aside0.mk (below_step (by repeat (first | (with_reducible first | exact HB.out | apply below_alloc | apply pw_below_drewN | apply below_drew1) | exact HB.out)) hb); have n1_ := Aside0.mk (hbox); have n2_ := Aside0.mk ((by rw [hg]; exact (below_size (by repeat (first | (with_reducible first | exact HB.out | apply below_alloc | apply pw_below_drewN | apply below_drew1) | exact HB.out))) : w.heap.size ≤ gb172)); have n3_ := Aside0.mk ((by rw [hg]; exact (below_size (by repeat (first | (with_reducible first | exact HB.out | apply below_alloc | apply pw_below_drewN | apply below_drew1) | exact HB.out))) : w.heap.size ≤ gb172)); clear HB; have HB := n0_; have BK172 := n1_; have GW172 := n2_; have GE172 := n3_; clear n0_ n1_ n2_ n3_; clear hb hbox hg) | ((with_reducible refine gate_callee (f := 50) rfl ?_); refine goesL_ (some 20) rfl rfl Try.func50 (by kernel_rfl) rfl #[.string a0] rfl (by (try simp only [List.map_toArray, List.map_cons, List.map_nil]); first | done | rfl | (simp only [List.length_drop, List.length_take]; rfl)) ?_; (with_reducible refine (assartref01_Open.calls a0 t173 t176 _ A2.out).mono ?_); rintro e w36 ⟨v174, rfl, ho0, hb⟩; refine ⟨_, rfl, ?_⟩; have n0_ := Aside0.mk (Kd.V_lower (Kd.V_mono (ok' := fun k_ => k_ ≠ gb172) ho0 (fun k_ hk_ => (Kd.freshB (g := gb172) (o := .cells #[.int .i64 0, .int .i64 0, .int .i64 0] 23 (0, 0)) (by (with_reducible repeat (first | refine blk_drewN ?_ _ | refine blk_drew ?_ | refine blk_alloc ?_ _)); exact BK172.out) k_ hk_))) (below_size (by repeat (first | (with_reducible first | exact HB.out | apply below_alloc | apply pw_below_drewN | apply below_drew1 | refine below_set ?_ GE172.out) | exact HB.out)))); have n1_ := Aside0.mk (blk_below (g := gb172) (o := .cells #[.int .i64 0, .int .i64 0, .int .i64 0] 23 (0, 0)) (by (with_reducible repeat (first | refine blk_drewN ?_ _ | refine blk_drew ?_ | refine blk_alloc ?_ _)); exact BK172.out) hb); have n2_ := Aside0.mk (below_step (by repeat (first | (with_reducible first | exact HB.out | apply below_alloc | apply pw_below_drewN | apply below_drew1 | refine below_set ?_ GE172.out) | exact HB.out)) hb); clear BK172; clear HB; have HO175 := n0_; have BK172 := n1_; have HB := n2_; clear n0_ n1_ n2_; (try clear hb); (try clear hb2); (try clear hk); (try clear hi); (try clear ho0); have hcz37_0 : w36.cell? ⟨gb172, 0, none⟩ = some (.int .i64 0) := (blk_cell BK172.out 0).trans rfl; have hcz37_1 : w36.cell? ⟨gb172, 1, none⟩ = some (.int .i64 0) := (blk_cell BK172.out 1).trans rfl; have hcz37_2 : w36.cell? ⟨gb172, 2, none⟩ = some (.int .i64 0) := (blk_cell BK172.out 2).trans rfl; have hfz37_0 := blk_frozen BK172.out 0; have hfz37_1 := blk_frozen BK172.out 1; have hfz37_2 := blk_frozen BK172.out 2))
    refine bodyPost_ret (results_ct rfl _ _ gb172 23 #[.int .i64 0, .int .i64 0, .int .i64 0] (0, 0) _ rfl (by (with_reducible repeat (first | refine blk_drewN ?_ _ | refine blk_drew ?_ | refine blk_alloc ?_ _)); refine blk_put (cs := #[.int .i64 0, .int .i64 0, .int .i64 0]) ?_ 2 _ rfl; (with_reducible repeat (first | refine blk_drewN ?_ _ | refine blk_drew ?_ | refine blk_alloc ?_ _)); refine blk_put (cs := #[.int .i64 0, .int .i64 0, .int .i64 0]) ?_ 1 _ rfl; (with_reducible repeat (first | refine blk_drewN ?_ _ | refine blk_drew ?_ | refine blk_alloc ?_ _)); refine blk_put (cs := #[.int .i64 0, .int .i64 0, .int .i64 0]) ?_ 0 _ rfl; (with_reducible repeat (first | refine blk_drewN ?_ _ | refine blk_drew ?_ | refine blk_alloc ?_ _)); exact BK172.out) Try.underlying23 rfl (by kernel_rfl)) rfl ?_
    exact ⟨by first | rfl | (simp [errW_none, errW_some] <;> rfl) | (simp [*, errW_none, errW_some] <;> rfl), by repeat (first | (with_reducible first | exact HB.out | apply below_alloc | apply pw_below_drewN | apply below_drew1 | refine below_set ?_ GE172.out) | exact HB.out)⟩

end Go.Proofs.Ythjnkapkhphpeaa.P
end
section
-- Written by a program of this session (xprint.py, over the kit's print). Not trusted: Lean checks it.
namespace Go.Proofs.Ythjnkapkhphpeaa.P
open Go.RowKit Go.Proofs.YthjnkapkhphpeaaW.PrintWords Go.Proofs.YthjnkapkhphpeaaW.PrintLast Go.Proofs.YthjnkapkhphpeaaW.PrintMore
attribute [local go_sem] max2_int min2_int max_two min_two max_three min_three max_four min_four   -- for this text's walks alone
set_option linter.unusedVariables false
set_option linter.unusedSimpArgs false

/-! ### assartref03_Pick: function 21 -/
def assartref03_Pick.j0 : Nat → Int → Int → Bool → Int → Int → Int → Int → Int → Int → Option (Int × Int × Int × Int × Int)
  | 0, _, _, _, _, _, _, _, _, _ => none
  | k + 1, x8, x10, x26, x195000, x195001, x195002, x200000, x200001, x200002 => if x26 = true then (some (0, 0, 0, 0, 4)) else (if x8 = 0 then (if x10 = 0 then (if x200000 > x195000 then (some (1, x200000, x200001, x200002, 0)) else (some (0, x195000, x195001, x195002, 0))) else (some (0, x195000, x195001, x195002, 0))) else (some (1, x200000, x200001, x200002, 0)))
def assartref03_Pick.f (k : Nat) (a0 : ByteArray) (a1 : ByteArray) : Option (Int × Int × Int × Int × Int) := (assartref03_Parse.f k a0).bind fun bt190 => ((assartref03_Parse.f k a1).bind fun bt195 => (if bt190.2.2.2 = 0 then (assartref03_Pick.j0 k bt190.2.2.2 bt195.2.2.2 false bt190.1 bt190.2.1 bt190.2.2.1 bt195.1 bt195.2.1 bt195.2.2.1) else (assartref03_Pick.j0 k bt190.2.2.2 bt195.2.2.2 (bt195.2.2.2 != 0) bt190.1 bt190.2.1 bt190.2.2.1 bt195.1 bt195.2.1 bt195.2.2.1)))
theorem assartref03_Pick.mono_l : ∀ k, (∀ y0 y1 y2 y3 y4 y5 y6 y7 y8, LeO (assartref03_Pick.j0 k y0 y1 y2 y3 y4 y5 y6 y7 y8) (assartref03_Pick.j0 (k + 1) y0 y1 y2 y3 y4 y5 y6 y7 y8))
  | 0 => fun _ _ _ _ _ _ _ _ _ r h => by simp [assartref03_Pick.j0] at h
  | k + 1 => by
    have ih0 := assartref03_Pick.mono_l k
    · intro y0 y1 y2 y3 y4 y5 y6 y7 y8
      unfold assartref03_Pick.j0
      repeat' first
      | (with_reducible exact ih0 _ _ _ _ _ _ _ _ _)
      | (with_reducible exact assartref03_Parse.mono _ _)
      | (with_reducible exact LeO.refl _)
      | (with_reducible exact LeO.none _)
      | (with_reducible refine LeO.ite ?_ ?_)
      | (with_reducible refine LeO.bind ?_ (fun _ => ?_))
      | exact ih0 _ _ _ _ _ _ _ _ _
      | exact assartref03_Parse.mono _ _
      | exact LeO.none _
      | refine LeO.ite ?_ ?_
      | refine LeO.bind ?_ (fun _ => ?_)
theorem assartref03_Pick.mono : ∀ a0 a1 k, LeO (assartref03_Pick.f k a0 a1) (assartref03_Pick.f (k + 1) a0 a1) := by
  intro a0 a1 k
  have ih0 := assartref03_Pick.mono_l k
  unfold assartref03_Pick.f
  repeat' first
      | (with_reducible exact ih0 _ _ _ _ _ _ _ _ _)
      | (with_reducible exact assartref03_Parse.mono _ _)
      | (with_reducible exact LeO.refl _)
      | (with_reducible exact LeO.none _)
      | (with_reducible refine LeO.ite ?_ ?_)
      | (with_reducible refine LeO.bind ?_ (fun _ => ?_))
      | exact ih0 _ _ _ _ _ _ _ _ _
      | exact assartref03_Parse.mono _ _
      | exact LeO.none _
      | refine LeO.ite ?_ ?_
      | refine LeO.bind ?_ (fun _ => ?_)
set_option maxHeartbeats 8000000 in
set_option maxRecDepth 100000 in
theorem assartref03_Pick.calls (k : Nat) (a0 : ByteArray) (a1 : ByteArray) (r1 : Int) (r2 : Int) (r3 : Int) (r4 : Int) (r5 : Int) (w : World) (h : assartref03_Pick.f k a0 a1 = some (r1, r2, r3, r4, r5)) :
    Calls Try.prog 21 #[.string a0, .string a1] w fun e w' => e = .returned (.tuple #[.int .i64 r1, .agg #[.int .i64 r2, .int .i64 r3, .int .i64 r4], .int .i64 r5]) ∧ Below w.heap.size w w' := by
  have hu23 := Try.underlying23
  have HB := Aside0.mk (Below.refl w.heap.size w)
  have H : ((assartref03_Parse.f k a0).bind fun bt190 => ((assartref03_Parse.f k a1).bind fun bt195 => (if bt190.2.2.2 = 0 then (assartref03_Pick.j0 k bt190.2.2.2 bt195.2.2.2 false bt190.1 bt190.2.1 bt190.2.2.1 bt195.1 bt195.2.1 bt195.2.2.1) else (assartref03_Pick.j0 k bt190.2.2.2 bt195.2.2.2 (bt195.2.2.2 != 0) bt190.1 bt190.2.1 bt190.2.2.1 bt195.1 bt195.2.1 bt195.2.2.1)))) = some (r1, r2, r3, r4, r5) := h
  clear h
  replace H := Option.bind_eq_some_iff.mp H
  obtain ⟨⟨t190, t191, t192, t193⟩, A30, H⟩ := H
  replace H : ((assartref03_Parse.f k a1).bind fun bt195 => (if t193 = 0 then (assartref03_Pick.j0 k t193 bt195.2.2.2 false t190 t191 t192 bt195.1 bt195.2.1 bt195.2.2.1) else (assartref03_Pick.j0 k t193 bt195.2.2.2 (bt195.2.2.2 != 0) t190 t191 t192 bt195.1 bt195.2.1 bt195.2.2.1))) = some (r1, r2, r3, r4, r5) := H
  have A3 := Aside0.mk A30
  clear A30
  replace H := Option.bind_eq_some_iff.mp H
  obtain ⟨⟨t195, t196, t197, t198⟩, A40, H⟩ := H
  replace H : (if t193 = 0 then (assartref03_Pick.j0 k t193 t198 false t190 t191 t192 t195 t196 t197) else (assartref03_Pick.j0 k t193 t198 (t198 != 0) t190 t191 t192 t195 t196 t197)) = some (r1, r2, r3, r4, r5) := H
  have A4 := Aside0.mk A40
  clear A40
  have HC5 := Aside0.mk H
  clear H
  go_enter Try.func21, Try.ntmps21
  go_upto_region 3 with (first | ((with_reducible refine gate_dst (N := 5) rfl ?_); refine box_event ?hg (N := 5) ?hd (cs := #[.int .i64 0, .int .i64 0, .int .i64 0]) (t := 23) ?hr ?_; (case hd => rfl); (case hg => rfl); (case hr => first | (go_simp; done) | (go_simp; rfl)); intro gb189 hg w6 hbox hb; have n0_ := Aside0.mk (below_step (by repeat (first | (with_reducible first | exact HB.out | apply below_alloc | apply pw_below_drewN | apply below_drew1) | exact HB.out)) hb); have n1_ := Aside0.mk (hbox); have n2_ := Aside0.mk ((by rw [hg]; exact (below_size (by repeat (first | (with_reducible first | exact HB.out | apply below_alloc | apply pw_below_drewN | apply below_drew1) | exact HB.out))) : w.heap.size ≤ gb189)); have n3_ := Aside0.mk ((by rw [hg]; exact (below_size (by repeat (first | (with_reducible first | exact HB.out | apply below_alloc | apply pw_below_drewN | apply below_drew1) | exact HB.out))) : w.heap.size ≤ gb189)); clear HB; have HB := n0_; have BK189 := n1_; have GW189 := n2_; have GE189 := n3_; clear n0_ n1_ n2_ n3_; clear hb hbox hg) | ((with_reducible refine gate_callee (f := 19) rfl ?_); refine goesL_ (some 13) rfl rfl Try.func19 (by kernel_rfl) rfl #[.string a0] rfl (by (try simp only [List.map_toArray, List.map_cons, List.map_nil]); first | done | rfl | (simp only [List.length_drop, List.length_take]; rfl)) ?_; (with_reducible refine (assartref03_Parse.calls k a0 t190 t191 t192 t193 _ A3.out).mono ?_); rintro e w7 ⟨rfl, hb⟩; refine ⟨_, rfl, ?_⟩; have n0_ := Aside0.mk (blk_below (g := gb189) (o := .cells #[.int .i64 0, .int .i64 0, .int .i64 0] 23 (0, 0)) (by (with_reducible repeat (first | refine blk_drewN ?_ _ | refine blk_drew ?_ | refine blk_alloc ?_ _)); exact BK189.out) hb); have n1_ := Aside0.mk (below_step (by repeat (first | (with_reducible first | exact HB.out | apply below_alloc | apply pw_below_drewN | apply below_drew1 | refine below_set ?_ GE189.out) | exact HB.out)) hb); clear BK189; clear HB; have BK189 := n0_; have HB := n1_; clear n0_ n1_; (try clear hb); (try clear hb2); (try clear hk); (try clear hi)) | ((with_reducible refine gate_dst (N := 7) rfl ?_); refine box_event ?hg (N := 7) ?hd (cs := #[.int .i64 0, .int .i64 0, .int .i64 0]) (t := 23) ?hr ?_; (case hd => rfl); (case hg => rfl); (case hr => first | (go_simp; done) | (go_simp; rfl)); intro gb194 hg w8 hbox hb; have n0_ := Aside0.mk (blk_below (g := gb189) (o := .cells #[.int .i64 0, .int .i64 0, .int .i64 0] 23 (0, 0)) (by (with_reducible repeat (first | refine blk_drewN ?_ _ | refine blk_drew ?_ | refine blk_alloc ?_ _)); exact BK189.out) hb); have n1_ := Aside0.mk (below_step (by repeat (first | (with_reducible first | exact HB.out | apply below_alloc | apply pw_below_drewN | apply below_drew1 | refine below_set ?_ GE189.out) | exact HB.out)) hb); have n2_ := Aside0.mk (hbox); have n3_ := Aside0.mk ((by rw [hg]; exact (below_size (by repeat (first | (with_reducible first | exact HB.out | apply below_alloc | apply pw_below_drewN | apply below_drew1 | refine below_set ?_ GE189.out) | exact HB.out))) : w.heap.size ≤ gb194)); have n4_ := Aside0.mk ((by rw [hg]; exact (below_size (by repeat (first | (with_reducible first | exact HB.out | apply below_alloc | apply pw_below_drewN | apply below_drew1 | refine below_set ?_ GE189.out) | exact HB.out))) : w.heap.size ≤ gb194)); have n5_ := Aside0.mk ((by rw [hg]; exact Nat.ne_of_lt (blk_lt (g := gb189) (o := .cells #[.int .i64 0, .int .i64 0, .int .i64 0] 23 (0, 0)) (by (with_reducible repeat (first | refine blk_drewN ?_ _ | refine blk_drew ?_ | refine blk_alloc ?_ _)); exact BK189.out)) : gb189 ≠ gb194)); have n6_ := Aside0.mk ((by rw [hg]; exact Nat.ne_of_gt (blk_lt (g := gb189) (o := .cells #[.int .i64 0, .int .i64 0, .int .i64 0] 23 (0, 0)) (by (with_reducible repeat (first | refine blk_drewN ?_ _ | refine blk_drew ?_ | refine blk_alloc ?_ _)); exact BK189.out)) : gb194 ≠ gb189)); clear BK189; clear HB; have BK189 := n0_; have HB := n1_; have BK194 := n2_; have GW194 := n3_; have GE194 := n4_; have NB189_194 := n5_; have NB194_189 := n6_; clear n0_ n1_ n2_ n3_ n4_ n5_ n6_; clear hb hbox hg; have hnb9 := NB194_189.out; have hnc9 := NB189_194.out; have hcz10_0 : w8.cell? ⟨gb194, 0, none⟩ = some (.int .i64 0) := (blk_cell BK194.out 0).trans rfl; have hcz10_1 : w8.cell? ⟨gb194, 1, none⟩ = some (.int .i64 0) := (blk_cell BK194.out 1).trans rfl; have hcz10_2 : w8.cell? ⟨gb194, 2, none⟩ = some (.int .i64 0) := (blk_cell BK194.out 2).trans rfl; have hfz10_0 := blk_frozen BK194.out 0; have hfz10_1 := blk_frozen BK194.out 1; have hfz10_2 := blk_frozen BK194.out 2) | ((with_reducible refine gate_callee (f := 19) rfl ?_); refine goesL_ (some 18) rfl rfl Try.func19 (by kernel_rfl) rfl #[.string a1] rfl (by (try simp only [List.map_toArray, List.map_cons, List.map_nil]); first | done | rfl | (simp only [List.length_drop, List.length_take]; rfl)) ?_; (with_reducible refine (assartref03_Parse.calls k a1 t195 t196 t197 t198 _ A4.out).mono ?_); rintro e w11 ⟨rfl, hb⟩; refine ⟨_, rfl, ?_⟩; have n0_ := Aside0.mk (blk_below (g := gb189) (o := .cells #[.int .i64 0, .int .i64 0, .int .i64 0] 23 (0, 0)) (by (with_reducible repeat (first | refine blk_drewN ?_ _ | refine blk_drew ?_ | refine blk_alloc ?_ _)); refine blk_far ?_ NB189_194.out _; (with_reducible repeat (first | refine blk_drewN ?_ _ | refine blk_drew ?_ | refine blk_alloc ?_ _)); refine blk_far ?_ NB189_194.out _; (with_reducible repeat (first | refine blk_drewN ?_ _ | refine blk_drew ?_ | refine blk_alloc ?_ _)); refine blk_far ?_ NB189_194.out _; (with_reducible repeat (first | refine blk_drewN ?_ _ | refine blk_drew ?_ | refine blk_alloc ?_ _)); exact BK189.out) hb); have n1_ := Aside0.mk (blk_below (g := gb194) (o := .cells #[.int .i64 t190, .int .i64 t191, .int .i64 t192] 23 (0, 0)) (by (with_reducible repeat (first | refine blk_drewN ?_ _ | refine blk_drew ?_ | refine blk_alloc ?_ _)); refine blk_put (cs := #[.int .i64 t190, .int .i64 t191, .int .i64 0]) ?_ 2 _ rfl; (with_reducible repeat (first | refine blk_drewN ?_ _ | refine blk_drew ?_ | refine blk_alloc ?_ _)); refine blk_put (cs := #[.int .i64 t190, .int .i64 0, .int .i64 0]) ?_ 1 _ rfl; (with_reducible repeat (first | refine blk_drewN ?_ _ | refine blk_drew ?_ | refine blk_alloc ?_ _)); refine blk_put (cs := #[.int .i64 0, .int .i64 0, .int .i64 0]) ?_ 0 _ rfl; (with_reducible repeat (first | refine blk_drewN ?_ _ | refine blk_drew ?_ | refine blk_alloc ?_ _)); exact BK194.out) hb); have n2_ := Aside0.mk (below_step (by repeat (first | (with_reducible first | exact HB.out | apply below_alloc | apply pw_below_drewN | apply below_drew1 | refine below_set ?_ GE189.out | refine below_set ?_ GE194.out) | exact HB.out)) hb); clear BK189; clear BK194; clear HB; have BK189 := n0_; have BK194 := n1_; have HB := n2_; clear n0_ n1_ n2_; (try clear hb); (try clear hb2); (try clear hk); (try clear hi)) | ((with_reducible refine gate_dst (N := 9) rfl ?_); refine box_event ?hg (N := 9) ?hd (cs := #[.int .i64 0, .int .i64 0, .int .i64 0]) (t := 23) ?hr ?_; (case hd => rfl); (case hg => rfl); (case hr => first | (go_simp; done) | (go_simp; rfl)); intro gb199 hg w12 hbox hb; have n0_ := Aside0.mk (blk_below (g := gb189) (o := .cells #[.int .i64 0, .int .i64 0, .int .i64 0] 23 (0, 0)) (by (with_reducible repeat (first | refine blk_drewN ?_ _ | refine blk_drew ?_ | refine blk_alloc ?_ _)); exact BK189.out) hb); have n1_ := Aside0.mk (blk_below (g := gb194) (o := .cells #[.int .i64 t190, .int .i64 t191, .int .i64 t192] 23 (0, 0)) (by (with_reducible repeat (first | refine blk_drewN ?_ _ | refine blk_drew ?_ | refine blk_alloc ?_ _)); exact BK194.out) hb); have n2_ := Aside0.mk (below_step (by repeat (first | (with_reducible first | exact HB.out | apply below_alloc | apply pw_below_drewN | apply below_drew1 | refine below_set ?_ GE189.out | refine below_set ?_ GE194.out) | exact HB.out)) hb); have n3_ := Aside0.mk (hbox); have n4_ := Aside0.mk ((by rw [hg]; exact (below_size (by repeat (first | (with_reducible first | exact HB.out | apply below_alloc | apply pw_below_drewN | apply below_drew1 | refine below_set ?_ GE189.out | refine below_set ?_ GE194.out) | exact HB.out))) : w.heap.size ≤ gb199)); have n5_ := Aside0.mk ((by rw [hg]; exact (below_size (by repeat (first | (with_reducible first | exact HB.out | apply below_alloc | apply pw_below_drewN | apply below_drew1 | refine below_set ?_ GE189.out | refine below_set ?_ GE194.out) | exact HB.out))) : w.heap.size ≤ gb199)); have n6_ := Aside0.mk ((by rw [hg]; exact Nat.ne_of_lt (blk_lt (g := gb189) (o := .cells #[.int .i64 0, .int .i64 0, .int .i64 0] 23 (0, 0)) (by (with_reducible repeat (first | refine blk_drewN ?_ _ | refine blk_drew ?_ | refine blk_alloc ?_ _)); exact BK189.out)) : gb189 ≠ gb199)); have n7_ := Aside0.mk ((by rw [hg]; exact Nat.ne_of_gt (blk_lt (g := gb189) (o := .cells #[.int .i64 0, .int .i64 0, .int .i64 0] 23 (0, 0)) (by (with_reducible repeat (first | refine blk_drewN ?_ _ | refine blk_drew ?_ | refine blk_alloc ?_ _)); exact BK189.out)) : gb199 ≠ gb189)); have n8_ := Aside0.mk ((by rw [hg]; exact Nat.ne_of_lt (blk_lt (g := gb194) (o := .cells #[.int .i64 t190, .int .i64 t191, .int .i64 t192] 23 (0, 0)) (by (with_reducible repeat (first | refine blk_drewN ?_ _ | refine blk_drew ?_ | refine blk_alloc ?_ _)); exact BK194.out)) : gb194 ≠ gb199)); have n9_ := Aside0.mk ((by rw [hg]; exact Nat.ne_of_gt (blk_lt (g := gb194) (o := .cells #[.int .i64 t190, .int .i64 t191, .int .i64 t192] 23 (0, 0)) (by (with_reducible repeat (first | refine blk_drewN ?_ _ | refine blk_drew ?_ | refine blk_alloc ?_ _)); exact BK194.out)) : gb199 ≠ gb194)); clear BK189; clear BK194; clear HB; have BK189 := n0_; have BK194 := n1_; have HB := n2_; have BK199 := n3_; have GW199 := n4_; have GE199 := n5_; have NB189_199 := n6_; have NB199_189 := n7_; have NB194_199 := n8_; have NB199_194 := n9_; clear n0_ n1_ n2_ n3_ n4_ n5_ n6_ n7_ n8_ n9_; clear hb hbox hg; have hnb13 := NB199_189.out; have hnc13 := NB189_199.out; have hnb14 := NB199_194.out; have hnc14 := NB194_199.out; have hcz15_0 : w12.cell? ⟨gb199, 0, none⟩ = some (.int .i64 0) := (blk_cell BK199.out 0).trans rfl; have hcz15_1 : w12.cell? ⟨gb199, 1, none⟩ = some (.int .i64 0) := (blk_cell BK199.out 1).trans rfl; have hcz15_2 : w12.cell? ⟨gb199, 2, none⟩ = some (.int .i64 0) := (blk_cell BK199.out 2).trans rfl; have hfz15_0 := blk_frozen BK199.out 0; have hfz15_1 := blk_frozen BK199.out 1; have hfz15_2 := blk_frozen BK199.out 2))
  (try simp only [Act.put, List.setIfInBounds_toArray, List.set_cons_zero, List.set_cons_succ])
  go_cut [26] (fun v26 wc => ∃ (kq : Nat) (x26_4 : Bool), v26 = .bool x26_4 ∧ Aside0 (assartref03_Pick.j0 kq t193 t198 x26_4 t190 t191 t192 t195 t196 t197 = some (r1, r2, r3, r4, r5)) ∧ Aside0 (kq ≤ k) ∧ Aside0 (wc.heap[gb189]? = some (.cells #[.int .i64 0, .int .i64 0, .int .i64 0] 23 (0, 0))) ∧ Aside0 (wc.heap[gb194]? = some (.cells #[.int .i64 t190, .int .i64 t191, .int .i64 t192] 23 (0, 0))) ∧ Aside0 (wc.heap[gb199]? = some (.cells #[.int .i64 t195, .int .i64 t196, .int .i64 t197] 23 (0, 0))) ∧ Aside0 (Below w.heap.size w wc))
  case first =>
    have H := HC5.out
    clear HC5
    by_cases c16 : t193 = 0
    · rw [if_pos c16] at H
      have c16b0 : (t193 == 0) = true := beq_iff_eq.mpr c16
      have c16b1 : (t193 != 0) = false := bne_eq_false_iff_eq.mpr c16
      clear c16
      (first | rw [c16b0] | (simp only [i64_w, i32_w]; rw [c16b0]) | skip)
      have H' := Aside0.mk H
      clear H
      go_wp2
      go_meet
      case rel => exact ⟨_, (false), (by first | rfl | (simp; done) | (simp [*]; done)), H', ⟨by first | omega | exact Nat.le_refl _⟩, ⟨by (with_reducible repeat (first | refine blk_drewN ?_ _ | refine blk_drew ?_ | refine blk_alloc ?_ _)); refine blk_far ?_ NB189_199.out _; (with_reducible repeat (first | refine blk_drewN ?_ _ | refine blk_drew ?_ | refine blk_alloc ?_ _)); refine blk_far ?_ NB189_199.out _; (with_reducible repeat (first | refine blk_drewN ?_ _ | refine blk_drew ?_ | refine blk_alloc ?_ _)); refine blk_far ?_ NB189_199.out _; (with_reducible repeat (first | refine blk_drewN ?_ _ | refine blk_drew ?_ | refine blk_alloc ?_ _)); exact BK189.out⟩, ⟨by (with_reducible repeat (first | refine blk_drewN ?_ _ | refine blk_drew ?_ | refine blk_alloc ?_ _)); refine blk_far ?_ NB194_199.out _; (with_reducible repeat (first | refine blk_drewN ?_ _ | refine blk_drew ?_ | refine blk_alloc ?_ _)); refine blk_far ?_ NB194_199.out _; (with_reducible repeat (first | refine blk_drewN ?_ _ | refine blk_drew ?_ | refine blk_alloc ?_ _)); refine blk_far ?_ NB194_199.out _; (with_reducible repeat (first | refine blk_drewN ?_ _ | refine blk_drew ?_ | refine blk_alloc ?_ _)); exact BK194.out⟩, ⟨by (with_reducible repeat (first | refine blk_drewN ?_ _ | refine blk_drew ?_ | refine blk_alloc ?_ _)); refine blk_put (cs := #[.int .i64 t195, .int .i64 t196, .int .i64 0]) ?_ 2 _ rfl; (with_reducible repeat (first | refine blk_drewN ?_ _ | refine blk_drew ?_ | refine blk_alloc ?_ _)); refine blk_put (cs := #[.int .i64 t195, .int .i64 0, .int .i64 0]) ?_ 1 _ rfl; (with_reducible repeat (first | refine blk_drewN ?_ _ | refine blk_drew ?_ | refine blk_alloc ?_ _)); refine blk_put (cs := #[.int .i64 0, .int .i64 0, .int .i64 0]) ?_ 0 _ rfl; (with_reducible repeat (first | refine blk_drewN ?_ _ | refine blk_drew ?_ | refine blk_alloc ?_ _)); exact BK199.out⟩, ⟨by repeat (first | (with_reducible first | exact HB.out | apply below_alloc | apply pw_below_drewN | apply below_drew1 | refine below_set ?_ GE189.out | refine below_set ?_ GE194.out | refine below_set ?_ GE199.out) | exact HB.out)⟩⟩
    · rw [if_neg c16] at H
      have c16b0 : (t193 == 0) = false := beq_eq_false_iff_ne.mpr c16
      have c16b1 : (t193 != 0) = true := bne_iff_ne.mpr c16
      (first | rw [c16b0] | (simp only [i64_w, i32_w]; rw [c16b0]) | skip)
      have H' := Aside0.mk H
      clear H
      go_wp2
      go_meet
      case rel => exact ⟨_, ((t198 != 0)), (by first | rfl | (simp; done) | (simp [*]; done)), H', ⟨by first | omega | exact Nat.le_refl _⟩, ⟨by (with_reducible repeat (first | refine blk_drewN ?_ _ | refine blk_drew ?_ | refine blk_alloc ?_ _)); refine blk_far ?_ NB189_199.out _; (with_reducible repeat (first | refine blk_drewN ?_ _ | refine blk_drew ?_ | refine blk_alloc ?_ _)); refine blk_far ?_ NB189_199.out _; (with_reducible repeat (first | refine blk_drewN ?_ _ | refine blk_drew ?_ | refine blk_alloc ?_ _)); refine blk_far ?_ NB189_199.out _; (with_reducible repeat (first | refine blk_drewN ?_ _ | refine blk_drew ?_ | refine blk_alloc ?_ _)); exact BK189.out⟩, ⟨by (with_reducible repeat (first | refine blk_drewN ?_ _ | refine blk_drew ?_ | refine blk_alloc ?_ _)); refine blk_far ?_ NB194_199.out _; (with_reducible repeat (first | refine blk_drewN ?_ _ | refine blk_drew ?_ | refine blk_alloc ?_ _)); refine blk_far ?_ NB194_199.out _; (with_reducible repeat (first | refine blk_drewN ?_ _ | refine blk_drew ?_ | refine blk_alloc ?_ _)); refine blk_far ?_ NB194_199.out _; (with_reducible repeat (first | refine blk_drewN ?_ _ | refine blk_drew ?_ | refine blk_alloc ?_ _)); exact BK194.out⟩, ⟨by (with_reducible repeat (first | refine blk_drewN ?_ _ | refine blk_drew ?_ | refine blk_alloc ?_ _)); refine blk_put (cs := #[.int .i64 t195, .int .i64 t196, .int .i64 0]) ?_ 2 _ rfl; (with_reducible repeat (first | refine blk_drewN ?_ _ | refine blk_drew ?_ | refine blk_alloc ?_ _)); refine blk_put (cs := #[.int .i64 t195, .int .i64 0, .int .i64 0]) ?_ 1 _ rfl; (with_reducible repeat (first | refine blk_drewN ?_ _ | refine blk_drew ?_ | refine blk_alloc ?_ _)); refine blk_put (cs := #[.int .i64 0, .int .i64 0, .int .i64 0]) ?_ 0 _ rfl; (with_reducible repeat (first | refine blk_drewN ?_ _ | refine blk_drew ?_ | refine blk_alloc ?_ _)); exact BK199.out⟩, ⟨by repeat (first | (with_reducible first | exact HB.out | apply below_alloc | apply pw_below_drewN | apply below_drew1 | refine below_set ?_ GE189.out | refine below_set ?_ GE194.out | refine below_set ?_ GE199.out) | exact HB.out)⟩⟩
  case rest =>
    clear HC5
    try clear c1
    try clear c2
    try clear p2
    try clear c9
    try clear c13
    try clear c14
    try clear c16
    try clear c16b0
    try clear c16b1
    try clear hcz10_0
    try clear hcz10_1
    try clear hcz10_2
    try clear hcz15_0
    try clear hcz15_1
    try clear hcz15_2
    try clear hfz10_0
    try clear hfz10_1
    try clear hfz10_2
    try clear hfz15_0
    try clear hfz15_1
    try clear hfz15_2
    obtain ⟨kq, x26_4, rfl, HA, HJ4, BK189, BK194, BK199, HB⟩ := hcut
    cases kq with
    | zero => exact absurd HA.out (by simp [assartref03_Pick.j0])
    | succ kj4 =>
      have H := HA.out
      clear HA
      simp only [assartref03_Pick.j0] at H
      by_cases c17 : x26_4 = true
      · subst c17
        have H1 : (some (0, 0, 0, 0, 4)) = some (r1, r2, r3, r4, r5) := by rw [if_pos rfl] at H; exact H
        clear H
        have H := H1
        clear H1
        simp only [Option.some.injEq, Prod.mk.injEq] at H
        obtain ⟨rfl, rfl, rfl, rfl, rfl⟩ := H
        have hnb18 := NB189_194.out
        have hnc18 := NB194_189.out
        have hnb19 := NB189_199.out
        have hnc19 := NB199_189.out
        have hcz20_0 : wc.cell? ⟨gb189, 0, none⟩ = some (.int .i64 0) := (blk_cell BK189.out 0).trans rfl
        have hcz20_1 : wc.cell? ⟨gb189, 1, none⟩ = some (.int .i64 0) := (blk_cell BK189.out 1).trans rfl
        have hcz20_2 : wc.cell? ⟨gb189, 2, none⟩ = some (.int .i64 0) := (blk_cell BK189.out 2).trans rfl
        have hfz20_0 := blk_frozen BK189.out 0
        have hfz20_1 := blk_frozen BK189.out 1
        have hfz20_2 := blk_frozen BK189.out 2
        go_wp2
        refine bodyPost_ret (results_list (rs := [.tmp 4, .cell 5 23, .tmp 6]) rfl (by simp) (.tmp (.cell gb189 23 #[.int .i64 0, .int .i64 0, .int .i64 0] (0, 0) _ rfl (by (with_reducible repeat (first | refine blk_drewN ?_ _ | refine blk_drew ?_ | refine blk_alloc ?_ _)); refine blk_put (cs := #[.int .i64 0, .int .i64 0, .int .i64 0]) ?_ 2 _ rfl; (with_reducible repeat (first | refine blk_drewN ?_ _ | refine blk_drew ?_ | refine blk_alloc ?_ _)); refine blk_put (cs := #[.int .i64 0, .int .i64 0, .int .i64 0]) ?_ 1 _ rfl; (with_reducible repeat (first | refine blk_drewN ?_ _ | refine blk_drew ?_ | refine blk_alloc ?_ _)); refine blk_put (cs := #[.int .i64 0, .int .i64 0, .int .i64 0]) ?_ 0 _ rfl; (with_reducible repeat (first | refine blk_drewN ?_ _ | refine blk_drew ?_ | refine blk_alloc ?_ _)); exact BK189.out) Try.underlying23 rfl (by kernel_rfl) (.tmp .nil)))) rfl ?_
        exact ⟨by first | rfl | (simp [errW_none, errW_some] <;> rfl) | (simp [*, errW_none, errW_some] <;> rfl), by repeat (first | (with_reducible first | exact HB.out | apply below_alloc | apply pw_below_drewN | apply below_drew1 | refine below_set ?_ GE189.out | refine below_set ?_ GE194.out | refine below_set ?_ GE199.out) | exact HB.out)⟩
      · replace c17 := Bool.eq_false_iff.mpr c17
        subst c17
        have H1 : (if t193 = 0 then (if t198 = 0 then (if t195 > t190 then (some (1, t195, t196, t197, 0)) else (some (0, t190, t191, t192, 0))) else (some (0, t190, t191, t192, 0))) else (some (1, t195, t196, t197, 0))) = some (r1, r2, r3, r4, r5) := by rw [if_neg (show ¬ (false = true) by decide)] at H; exact H
        clear H
        have H := H1
        clear H1
        by_cases c21 : t193 = 0
        · rw [if_pos c21] at H
          have c21b0 : (t193 == 0) = true := beq_iff_eq.mpr c21
          have c21b1 : (t193 != 0) = false := bne_eq_false_iff_eq.mpr c21
          clear c21
          by_cases c22 : t198 = 0
          · rw [if_pos c22] at H
            have c22b0 : (t198 == 0) = true := beq_iff_eq.mpr c22
            have c22b1 : (t198 != 0) = false := bne_eq_false_iff_eq.mpr c22
            clear c22
            by_cases c23 : t195 > t190
            · rw [if_pos c23] at H
              have c23b0 : decide (t190 < t195) = true := decide_eq_true c23
              clear c23
              simp only [Option.some.injEq, Prod.mk.injEq] at H
              obtain ⟨rfl, rfl, rfl, rfl, rfl⟩ := H
              have hnb24 := NB199_189.out
              have hnc24 := NB189_199.out
              have hnb25 := NB199_194.out
              have hnc25 := NB194_199.out
              have hcz26_0 : wc.cell? ⟨gb199, 0, none⟩ = some (.int .i64 t195) := (blk_cell BK199.out 0).trans rfl
              have hcz26_1 : wc.cell? ⟨gb199, 1, none⟩ = some (.int .i64 t196) := (blk_cell BK199.out 1).trans rfl
              have hcz26_2 : wc.cell? ⟨gb199, 2, none⟩ = some (.int .i64 t197) := (blk_cell BK199.out 2).trans rfl
              have hfz26_0 := blk_frozen BK199.out 0
              have hfz26_1 := blk_frozen BK199.out 1
              have hfz26_2 := blk_frozen BK199.out 2
              have hnb27 := NB194_189.out
              have hnc27 := NB189_194.out
              have hcz28_0 : wc.cell? ⟨gb194, 0, none⟩ = some (.int .i64 t190) := (blk_cell BK194.out 0).trans rfl
              have hcz28_1 : wc.cell? ⟨gb194, 1, none⟩ = some (.int .i64 t191) := (blk_cell BK194.out 1).trans rfl
              have hcz28_2 : wc.cell? ⟨gb194, 2, none⟩ = some (.int .i64 t192) := (blk_cell BK194.out 2).trans rfl
              have hfz28_0 := blk_frozen BK194.out 0
              have hfz28_1 := blk_frozen BK194.out 1
              have hfz28_2 := blk_frozen BK194.out 2
              try go_wp2
              have n0_ := Aside0.mk (blk_drew BK189.out)
              have n1_ := Aside0.mk (blk_drew BK194.out)
              have n2_ := Aside0.mk (blk_drew BK199.out)
              have n3_ := Aside0.mk (below_drew1 HB.out)
              clear BK189
              clear BK194
              clear BK199
              clear HB
              have BK189 := n0_
              have BK194 := n1_
              have BK199 := n2_
              have HB := n3_
              clear n0_ n1_ n2_ n3_
              refine start_ (n := 4) (S := fun w' => w'.cell? ⟨gb199, 0, none⟩ = some (.int .i64 t195) ∧ w'.cell? ⟨gb199, 1, none⟩ = some (.int .i64 t196) ∧ w'.cell? ⟨gb199, 2, none⟩ = some (.int .i64 t197)) (ds := []) #[false, false, false, false] (by kernel_rfl) rfl rfl ⟨(blk_cell BK199.out 0).trans rfl, (blk_cell BK199.out 1).trans rfl, (blk_cell BK199.out 2).trans rfl⟩ (fun hHeld => ?_)
              generalize wc.drew = w29 at BK189 BK194 BK199 HB hHeld ⊢
              refine pure_ (i := 1) (N := some 4) (v := ?_) (a' := ?_) #[false, true, false, false] rfl rfl (by kernel_rfl) (fun _ _ _ h => h) (Or.inl ⟨by rfl, ?_⟩) ?_ ?_
              rotate_left
              · intro w'
                go_simp
                with_reducible rfl
              rotate_left
              · simp only [Act.put, List.setIfInBounds_toArray, List.set_cons_zero, List.set_cons_succ, i64_w, i32_w]
                rfl
              refine take_ (i := 0) (N := some 41) (v := ?_) (a' := ?_) #[true, true, false, false] rfl rfl (by kernel_rfl) (fun _ _ _ h => h) (Or.inl ⟨by rfl, ?_⟩) hHeld ?_ ?_
              rotate_left
              · rintro w' ⟨s0, s1, s2⟩
                go_simp
                with_reducible rfl
              rotate_left
              · simp only [Act.put, List.setIfInBounds_toArray, List.set_cons_zero, List.set_cons_succ, i64_w, i32_w]
                rfl
              refine one_ (i := 2) (N := none) #[true, true, true, false] rfl rfl (by kernel_rfl) (by decide) (fun K hK => ?_)
              have hs30 : w29.cell? ⟨gb189, 0, none⟩ = some (.int .i64 0) := (blk_cell BK189.out 0).trans rfl
              have hfs30 := blk_frozen BK189.out 0
              have hns30_1 := NB194_189.out
              have hns30_2 := NB199_189.out
              have hms30_1 := NB189_194.out
              have hms30_2 := NB189_199.out
              have hs31 : w29.cell? ⟨gb189, 1, none⟩ = some (.int .i64 0) := (blk_cell BK189.out 1).trans rfl
              have hfs31 := blk_frozen BK189.out 1
              have hns31_1 := NB194_189.out
              have hns31_2 := NB199_189.out
              have hms31_1 := NB189_194.out
              have hms31_2 := NB189_199.out
              have hs32 : w29.cell? ⟨gb189, 2, none⟩ = some (.int .i64 0) := (blk_cell BK189.out 2).trans rfl
              have hfs32 := blk_frozen BK189.out 2
              have hns32_1 := NB194_189.out
              have hns32_2 := NB199_189.out
              have hms32_1 := NB189_194.out
              have hms32_2 := NB189_199.out
              refine skip_ (w1 := ?_) (by rfl) rfl ?_ ?_
              rotate_left
              · go_simp
                rfl
              refine hK.out _ _ ⟨((cell_far (p := ⟨gb189, _, none⟩) NB199_189.out _).trans (((cell_far (p := ⟨gb189, _, none⟩) NB199_189.out _).trans (((cell_far (p := ⟨gb189, _, none⟩) NB199_189.out _).trans (hHeld.1)))))), ((cell_far (p := ⟨gb189, _, none⟩) NB199_189.out _).trans (((cell_far (p := ⟨gb189, _, none⟩) NB199_189.out _).trans (((cell_far (p := ⟨gb189, _, none⟩) NB199_189.out _).trans (hHeld.2.1)))))), ((cell_far (p := ⟨gb189, _, none⟩) NB199_189.out _).trans (((cell_far (p := ⟨gb189, _, none⟩) NB199_189.out _).trans (((cell_far (p := ⟨gb189, _, none⟩) NB199_189.out _).trans (hHeld.2.2))))))⟩ (fun hHeld => ?_)
              clear hK K
              refine pure_ (i := 3) (N := some 6) (v := ?_) (a' := ?_) #[true, true, true, true] rfl rfl (by kernel_rfl) (fun _ _ _ h => h) (Or.inl ⟨by rfl, ?_⟩) ?_ ?_
              rotate_left
              · intro w'
                go_simp
                with_reducible rfl
              rotate_left
              · simp only [Act.put, List.setIfInBounds_toArray, List.set_cons_zero, List.set_cons_succ, i64_w, i32_w]
                rfl
              refine done_ (by kernel_rfl) ?_
              try go_wp2
              refine bodyPost_ret (results_list (rs := [.tmp 4, .cell 5 23, .tmp 6]) rfl (by simp) (.tmp (.cell gb189 23 #[.int .i64 t195, .int .i64 t196, .int .i64 t197] (0, 0) _ rfl (by (with_reducible repeat (first | refine blk_drewN ?_ _ | refine blk_drew ?_ | refine blk_alloc ?_ _)); refine blk_put (cs := #[.int .i64 t195, .int .i64 t196, .int .i64 0]) ?_ 2 _ rfl; (with_reducible repeat (first | refine blk_drewN ?_ _ | refine blk_drew ?_ | refine blk_alloc ?_ _)); refine blk_put (cs := #[.int .i64 t195, .int .i64 0, .int .i64 0]) ?_ 1 _ rfl; (with_reducible repeat (first | refine blk_drewN ?_ _ | refine blk_drew ?_ | refine blk_alloc ?_ _)); refine blk_put (cs := #[.int .i64 0, .int .i64 0, .int .i64 0]) ?_ 0 _ rfl; (with_reducible repeat (first | refine blk_drewN ?_ _ | refine blk_drew ?_ | refine blk_alloc ?_ _)); exact BK189.out) Try.underlying23 rfl (by kernel_rfl) (.tmp .nil)))) rfl ?_
              exact ⟨by first | rfl | (simp [errW_none, errW_some] <;> rfl) | (simp [*, errW_none, errW_some] <;> rfl), by repeat (first | (with_reducible first | exact HB.out | apply below_alloc | apply pw_below_drewN | apply below_drew1 | refine below_set ?_ GE189.out | refine below_set ?_ GE194.out | refine below_set ?_ GE199.out) | exact HB.out)⟩
            · rw [if_neg c23] at H
              have c23b0 : decide (t190 < t195) = false := decide_eq_false c23
              clear c23
              simp only [Option.some.injEq, Prod.mk.injEq] at H
              obtain ⟨rfl, rfl, rfl, rfl, rfl⟩ := H
              have hnb33 := NB199_189.out
              have hnc33 := NB189_199.out
              have hnb34 := NB199_194.out
              have hnc34 := NB194_199.out
              have hcz35_0 : wc.cell? ⟨gb199, 0, none⟩ = some (.int .i64 t195) := (blk_cell BK199.out 0).trans rfl
              have hcz35_1 : wc.cell? ⟨gb199, 1, none⟩ = some (.int .i64 t196) := (blk_cell BK199.out 1).trans rfl
              have hcz35_2 : wc.cell? ⟨gb199, 2, none⟩ = some (.int .i64 t197) := (blk_cell BK199.out 2).trans rfl
              have hfz35_0 := blk_frozen BK199.out 0
              have hfz35_1 := blk_frozen BK199.out 1
              have hfz35_2 := blk_frozen BK199.out 2
              have hnb36 := NB194_189.out
              have hnc36 := NB189_194.out
              have hcz37_0 : wc.cell? ⟨gb194, 0, none⟩ = some (.int .i64 t190) := (blk_cell BK194.out 0).trans rfl
              have hcz37_1 : wc.cell? ⟨gb194, 1, none⟩ = some (.int .i64 t191) := (blk_cell BK194.out 1).trans rfl
              have hcz37_2 : wc.cell? ⟨gb194, 2, none⟩ = some (.int .i64 t192) := (blk_cell BK194.out 2).trans rfl
              have hfz37_0 := blk_frozen BK194.out 0
              have hfz37_1 := blk_frozen BK194.out 1
              have hfz37_2 := blk_frozen BK194.out 2
              try go_wp2
              have n0_ := Aside0.mk (blk_drew BK189.out)
              have n1_ := Aside0.mk (blk_drew BK194.out)
              have n2_ := Aside0.mk (blk_drew BK199.out)
              have n3_ := Aside0.mk (below_drew1 HB.out)
              clear BK189
              clear BK194
              clear BK199
              clear HB
              have BK189 := n0_
              have BK194 := n1_
              have BK199 := n2_
              have HB := n3_
              clear n0_ n1_ n2_ n3_
              refine start_ (n := 4) (S := fun w' => w'.cell? ⟨gb194, 0, none⟩ = some (.int .i64 t190) ∧ w'.cell? ⟨gb194, 1, none⟩ = some (.int .i64 t191) ∧ w'.cell? ⟨gb194, 2, none⟩ = some (.int .i64 t192)) (ds := []) #[false, false, false, false] (by kernel_rfl) rfl rfl ⟨(blk_cell BK194.out 0).trans rfl, (blk_cell BK194.out 1).trans rfl, (blk_cell BK194.out 2).trans rfl⟩ (fun hHeld => ?_)
              generalize wc.drew = w38 at BK189 BK194 BK199 HB hHeld ⊢
              refine pure_ (i := 1) (N := some 4) (v := ?_) (a' := ?_) #[false, true, false, false] rfl rfl (by kernel_rfl) (fun _ _ _ h => h) (Or.inl ⟨by rfl, ?_⟩) ?_ ?_
              rotate_left
              · intro w'
                go_simp
                with_reducible rfl
              rotate_left
              · simp only [Act.put, List.setIfInBounds_toArray, List.set_cons_zero, List.set_cons_succ, i64_w, i32_w]
                rfl
              refine take_ (i := 0) (N := some 42) (v := ?_) (a' := ?_) #[true, true, false, false] rfl rfl (by kernel_rfl) (fun _ _ _ h => h) (Or.inl ⟨by rfl, ?_⟩) hHeld ?_ ?_
              rotate_left
              · rintro w' ⟨s0, s1, s2⟩
                go_simp
                with_reducible rfl
              rotate_left
              · simp only [Act.put, List.setIfInBounds_toArray, List.set_cons_zero, List.set_cons_succ, i64_w, i32_w]
                rfl
              refine one_ (i := 2) (N := none) #[true, true, true, false] rfl rfl (by kernel_rfl) (by decide) (fun K hK => ?_)
              have hs39 : w38.cell? ⟨gb189, 0, none⟩ = some (.int .i64 0) := (blk_cell BK189.out 0).trans rfl
              have hfs39 := blk_frozen BK189.out 0
              have hns39_1 := NB194_189.out
              have hns39_2 := NB199_189.out
              have hms39_1 := NB189_194.out
              have hms39_2 := NB189_199.out
              have hs40 : w38.cell? ⟨gb189, 1, none⟩ = some (.int .i64 0) := (blk_cell BK189.out 1).trans rfl
              have hfs40 := blk_frozen BK189.out 1
              have hns40_1 := NB194_189.out
              have hns40_2 := NB199_189.out
              have hms40_1 := NB189_194.out
              have hms40_2 := NB189_199.out
              have hs41 : w38.cell? ⟨gb189, 2, none⟩ = some (.int .i64 0) := (blk_cell BK189.out 2).trans rfl
              have hfs41 := blk_frozen BK189.out 2
              have hns41_1 := NB194_189.out
              have hns41_2 := NB199_189.out
              have hms41_1 := NB189_194.out
              have hms41_2 := NB189_199.out
              refine skip_ (w1 := ?_) (by rfl) rfl ?_ ?_
              rotate_left
              · go_simp
                rfl
              refine hK.out _ _ ⟨((cell_far (p := ⟨gb189, _, none⟩) NB194_189.out _).trans (((cell_far (p := ⟨gb189, _, none⟩) NB194_189.out _).trans (((cell_far (p := ⟨gb189, _, none⟩) NB194_189.out _).trans (hHeld.1)))))), ((cell_far (p := ⟨gb189, _, none⟩) NB194_189.out _).trans (((cell_far (p := ⟨gb189, _, none⟩) NB194_189.out _).trans (((cell_far (p := ⟨gb189, _, none⟩) NB194_189.out _).trans (hHeld.2.1)))))), ((cell_far (p := ⟨gb189, _, none⟩) NB194_189.out _).trans (((cell_far (p := ⟨gb189, _, none⟩) NB194_189.out _).trans (((cell_far (p := ⟨gb189, _, none⟩) NB194_189.out _).trans (hHeld.2.2))))))⟩ (fun hHeld => ?_)
              clear hK K
              refine pure_ (i := 3) (N := some 6) (v := ?_) (a' := ?_) #[true, true, true, true] rfl rfl (by kernel_rfl) (fun _ _ _ h => h) (Or.inl ⟨by rfl, ?_⟩) ?_ ?_
              rotate_left
              · intro w'
                go_simp
                with_reducible rfl
              rotate_left
              · simp only [Act.put, List.setIfInBounds_toArray, List.set_cons_zero, List.set_cons_succ, i64_w, i32_w]
                rfl
              refine done_ (by kernel_rfl) ?_
              try go_wp2
              refine bodyPost_ret (results_list (rs := [.tmp 4, .cell 5 23, .tmp 6]) rfl (by simp) (.tmp (.cell gb189 23 #[.int .i64 t190, .int .i64 t191, .int .i64 t192] (0, 0) _ rfl (by (with_reducible repeat (first | refine blk_drewN ?_ _ | refine blk_drew ?_ | refine blk_alloc ?_ _)); refine blk_put (cs := #[.int .i64 t190, .int .i64 t191, .int .i64 0]) ?_ 2 _ rfl; (with_reducible repeat (first | refine blk_drewN ?_ _ | refine blk_drew ?_ | refine blk_alloc ?_ _)); refine blk_put (cs := #[.int .i64 t190, .int .i64 0, .int .i64 0]) ?_ 1 _ rfl; (with_reducible repeat (first | refine blk_drewN ?_ _ | refine blk_drew ?_ | refine blk_alloc ?_ _)); refine blk_put (cs := #[.int .i64 0, .int .i64 0, .int .i64 0]) ?_ 0 _ rfl; (with_reducible repeat (first | refine blk_drewN ?_ _ | refine blk_drew ?_ | refine blk_alloc ?_ _)); exact BK189.out) Try.underlying23 rfl (by kernel_rfl) (.tmp .nil)))) rfl ?_
              exact ⟨by first | rfl | (simp [errW_none, errW_some] <;> rfl) | (simp [*, errW_none, errW_some] <;> rfl), by repeat (first | (with_reducible first | exact HB.out | apply below_alloc | apply pw_below_drewN | apply below_drew1 | refine below_set ?_ GE189.out | refine below_set ?_ GE194.out | refine below_set ?_ GE199.out) | exact HB.out)⟩
          · rw [if_neg c22] at H
            have c22b0 : (t198 == 0) = false := beq_eq_false_iff_ne.mpr c22
            have c22b1 : (t198 != 0) = true := bne_iff_ne.mpr c22
            simp only [Option.some.injEq, Prod.mk.injEq] at H
            obtain ⟨rfl, rfl, rfl, rfl, rfl⟩ := H
            try go_wp2
            have n0_ := Aside0.mk (blk_drew BK189.out)
            have n1_ := Aside0.mk (blk_drew BK194.out)
            have n2_ := Aside0.mk (blk_drew BK199.out)
            have n3_ := Aside0.mk (below_drew1 HB.out)
            clear BK189
            clear BK194
            clear BK199
            clear HB
            have BK189 := n0_
            have BK194 := n1_
            have BK199 := n2_
            have HB := n3_
            clear n0_ n1_ n2_ n3_
            refine start_ (n := 4) (S := fun w' => w'.cell? ⟨gb194, 0, none⟩ = some (.int .i64 t190) ∧ w'.cell? ⟨gb194, 1, none⟩ = some (.int .i64 t191) ∧ w'.cell? ⟨gb194, 2, none⟩ = some (.int .i64 t192)) (ds := []) #[false, false, false, false] (by kernel_rfl) rfl rfl ⟨(blk_cell BK194.out 0).trans rfl, (blk_cell BK194.out 1).trans rfl, (blk_cell BK194.out 2).trans rfl⟩ (fun hHeld => ?_)
            generalize wc.drew = w42 at BK189 BK194 BK199 HB hHeld ⊢
            refine pure_ (i := 1) (N := some 4) (v := ?_) (a' := ?_) #[false, true, false, false] rfl rfl (by kernel_rfl) (fun _ _ _ h => h) (Or.inl ⟨by rfl, ?_⟩) ?_ ?_
            rotate_left
            · intro w'
              go_simp
              with_reducible rfl
            rotate_left
            · simp only [Act.put, List.setIfInBounds_toArray, List.set_cons_zero, List.set_cons_succ, i64_w, i32_w]
              rfl
            refine take_ (i := 0) (N := some 42) (v := ?_) (a' := ?_) #[true, true, false, false] rfl rfl (by kernel_rfl) (fun _ _ _ h => h) (Or.inl ⟨by rfl, ?_⟩) hHeld ?_ ?_
            rotate_left
            · rintro w' ⟨s0, s1, s2⟩
              go_simp
              with_reducible rfl
            rotate_left
            · simp only [Act.put, List.setIfInBounds_toArray, List.set_cons_zero, List.set_cons_succ, i64_w, i32_w]
              rfl
            refine one_ (i := 2) (N := none) #[true, true, true, false] rfl rfl (by kernel_rfl) (by decide) (fun K hK => ?_)
            have hs43 : w42.cell? ⟨gb189, 0, none⟩ = some (.int .i64 0) := (blk_cell BK189.out 0).trans rfl
            have hfs43 := blk_frozen BK189.out 0
            have hns43_1 := NB194_189.out
            have hns43_2 := NB199_189.out
            have hms43_1 := NB189_194.out
            have hms43_2 := NB189_199.out
            have hs44 : w42.cell? ⟨gb189, 1, none⟩ = some (.int .i64 0) := (blk_cell BK189.out 1).trans rfl
            have hfs44 := blk_frozen BK189.out 1
            have hns44_1 := NB194_189.out
            have hns44_2 := NB199_189.out
            have hms44_1 := NB189_194.out
            have hms44_2 := NB189_199.out
            have hs45 : w42.cell? ⟨gb189, 2, none⟩ = some (.int .i64 0) := (blk_cell BK189.out 2).trans rfl
            have hfs45 := blk_frozen BK189.out 2
            have hns45_1 := NB194_189.out
            have hns45_2 := NB199_189.out
            have hms45_1 := NB189_194.out
            have hms45_2 := NB189_199.out
            refine skip_ (w1 := ?_) (by rfl) rfl ?_ ?_
            rotate_left
            · go_simp
              rfl
            refine hK.out _ _ ⟨((cell_far (p := ⟨gb189, _, none⟩) NB194_189.out _).trans (((cell_far (p := ⟨gb189, _, none⟩) NB194_189.out _).trans (((cell_far (p := ⟨gb189, _, none⟩) NB194_189.out _).trans (hHeld.1)))))), ((cell_far (p := ⟨gb189, _, none⟩) NB194_189.out _).trans (((cell_far (p := ⟨gb189, _, none⟩) NB194_189.out _).trans (((cell_far (p := ⟨gb189, _, none⟩) NB194_189.out _).trans (hHeld.2.1)))))), ((cell_far (p := ⟨gb189, _, none⟩) NB194_189.out _).trans (((cell_far (p := ⟨gb189, _, none⟩) NB194_189.out _).trans (((cell_far (p := ⟨gb189, _, none⟩) NB194_189.out _).trans (hHeld.2.2))))))⟩ (fun hHeld => ?_)
            clear hK K
            refine pure_ (i := 3) (N := some 6) (v := ?_) (a' := ?_) #[true, true, true, true] rfl rfl (by kernel_rfl) (fun _ _ _ h => h) (Or.inl ⟨by rfl, ?_⟩) ?_ ?_
            rotate_left
            · intro w'
              go_simp
              with_reducible rfl
            rotate_left
            · simp only [Act.put, List.setIfInBounds_toArray, List.set_cons_zero, List.set_cons_succ, i64_w, i32_w]
              rfl
            refine done_ (by kernel_rfl) ?_
            try go_wp2
            refine bodyPost_ret (results_list (rs := [.tmp 4, .cell 5 23, .tmp 6]) rfl (by simp) (.tmp (.cell gb189 23 #[.int .i64 t190, .int .i64 t191, .int .i64 t192] (0, 0) _ rfl (by (with_reducible repeat (first | refine blk_drewN ?_ _ | refine blk_drew ?_ | refine blk_alloc ?_ _)); refine blk_put (cs := #[.int .i64 t190, .int .i64 t191, .int .i64 0]) ?_ 2 _ rfl; (with_reducible repeat (first | refine blk_drewN ?_ _ | refine blk_drew ?_ | refine blk_alloc ?_ _)); refine blk_put (cs := #[.int .i64 t190, .int .i64 0, .int .i64 0]) ?_ 1 _ rfl; (with_reducible repeat (first | refine blk_drewN ?_ _ | refine blk_drew ?_ | refine blk_alloc ?_ _)); refine blk_put (cs := #[.int .i64 0, .int .i64 0, .int .i64 0]) ?_ 0 _ rfl; (with_reducible repeat (first | refine blk_drewN ?_ _ | refine blk_drew ?_ | refine blk_alloc ?_ _)); exact BK189.out) Try.underlying23 rfl (by kernel_rfl) (.tmp .nil)))) rfl ?_
            exact ⟨by first | rfl | (simp [errW_none, errW_some] <;> rfl) | (simp [*, errW_none, errW_some] <;> rfl), by repeat (first | (with_reducible first | exact HB.out | apply below_alloc | apply pw_below_drewN | apply below_drew1 | refine below_set ?_ GE189.out | refine below_set ?_ GE194.out | refine below_set ?_ GE199.out) | exact HB.out)⟩
        · rw [if_neg c21] at H
          have c21b0 : (t193 == 0) = false := beq_eq_false_iff_ne.mpr c21
          have c21b1 : (t193 != 0) = true := bne_iff_ne.mpr c21
          simp only [Option.some.injEq, Prod.mk.injEq] at H
          obtain ⟨rfl, rfl, rfl, rfl, rfl⟩ := H
          try go_wp2
          have n0_ := Aside0.mk (blk_drew BK189.out)
          have n1_ := Aside0.mk (blk_drew BK194.out)
          have n2_ := Aside0.mk (blk_drew BK199.out)
          have n3_ := Aside0.mk (below_drew1 HB.out)
          clear BK189
          clear BK194
          clear BK199
          clear HB
          have BK189 := n0_
          have BK194 := n1_
          have BK199 := n2_
          have HB := n3_
          clear n0_ n1_ n2_ n3_
          refine start_ (n := 4) (S := fun w' => w'.cell? ⟨gb199, 0, none⟩ = some (.int .i64 t195) ∧ w'.cell? ⟨gb199, 1, none⟩ = some (.int .i64 t196) ∧ w'.cell? ⟨gb199, 2, none⟩ = some (.int .i64 t197)) (ds := []) #[false, false, false, false] (by kernel_rfl) rfl rfl ⟨(blk_cell BK199.out 0).trans rfl, (blk_cell BK199.out 1).trans rfl, (blk_cell BK199.out 2).trans rfl⟩ (fun hHeld => ?_)
          generalize wc.drew = w46 at BK189 BK194 BK199 HB hHeld ⊢
          refine pure_ (i := 1) (N := some 4) (v := ?_) (a' := ?_) #[false, true, false, false] rfl rfl (by kernel_rfl) (fun _ _ _ h => h) (Or.inl ⟨by rfl, ?_⟩) ?_ ?_
          rotate_left
          · intro w'
            go_simp
            with_reducible rfl
          rotate_left
          · simp only [Act.put, List.setIfInBounds_toArray, List.set_cons_zero, List.set_cons_succ, i64_w, i32_w]
            rfl
          refine take_ (i := 0) (N := some 41) (v := ?_) (a' := ?_) #[true, true, false, false] rfl rfl (by kernel_rfl) (fun _ _ _ h => h) (Or.inl ⟨by rfl, ?_⟩) hHeld ?_ ?_
          rotate_left
          · rintro w' ⟨s0, s1, s2⟩
            go_simp
            with_reducible rfl
          rotate_left
          · simp only [Act.put, List.setIfInBounds_toArray, List.set_cons_zero, List.set_cons_succ, i64_w, i32_w]
            rfl
          refine one_ (i := 2) (N := none) #[true, true, true, false] rfl rfl (by kernel_rfl) (by decide) (fun K hK => ?_)
          have hs47 : w46.cell? ⟨gb189, 0, none⟩ = some (.int .i64 0) := (blk_cell BK189.out 0).trans rfl
          have hfs47 := blk_frozen BK189.out 0
          have hns47_1 := NB194_189.out
          have hns47_2 := NB199_189.out
          have hms47_1 := NB189_194.out
          have hms47_2 := NB189_199.out
          have hs48 : w46.cell? ⟨gb189, 1, none⟩ = some (.int .i64 0) := (blk_cell BK189.out 1).trans rfl
          have hfs48 := blk_frozen BK189.out 1
          have hns48_1 := NB194_189.out
          have hns48_2 := NB199_189.out
          have hms48_1 := NB189_194.out
          have hms48_2 := NB189_199.out
          have hs49 : w46.cell? ⟨gb189, 2, none⟩ = some (.int .i64 0) := (blk_cell BK189.out 2).trans rfl
          have hfs49 := blk_frozen BK189.out 2
          have hns49_1 := NB194_189.out
          have hns49_2 := NB199_189.out
          have hms49_1 := NB189_194.out
          have hms49_2 := NB189_199.out
          refine skip_ (w1 := ?_) (by rfl) rfl ?_ ?_
          rotate_left
          · go_simp
            rfl
          refine hK.out _ _ ⟨((cell_far (p := ⟨gb189, _, none⟩) NB199_189.out _).trans (((cell_far (p := ⟨gb189, _, none⟩) NB199_189.out _).trans (((cell_far (p := ⟨gb189, _, none⟩) NB199_189.out _).trans (hHeld.1)))))), ((cell_far (p := ⟨gb189, _, none⟩) NB199_189.out _).trans (((cell_far (p := ⟨gb189, _, none⟩) NB199_189.out _).trans (((cell_far (p := ⟨gb189, _, none⟩) NB199_189.out _).trans (hHeld.2.1)))))), ((cell_far (p := ⟨gb189, _, none⟩) NB199_189.out _).trans (((cell_far (p := ⟨gb189, _, none⟩) NB199_189.out _).trans (((cell_far (p := ⟨gb189, _, none⟩) NB199_189.out _).trans (hHeld.2.2))))))⟩ (fun hHeld => ?_)
          clear hK K
          refine pure_ (i := 3) (N := some 6) (v := ?_) (a' := ?_) #[true, true, true, true] rfl rfl (by kernel_rfl) (fun _ _ _ h => h) (Or.inl ⟨by rfl, ?_⟩) ?_ ?_
          rotate_left
          · intro w'
            go_simp
            with_reducible rfl
          rotate_left
          · simp only [Act.put, List.setIfInBounds_toArray, List.set_cons_zero, List.set_cons_succ, i64_w, i32_w]
            rfl
          refine done_ (by kernel_rfl) ?_
          try go_wp2
          refine bodyPost_ret (results_list (rs := [.tmp 4, .cell 5 23, .tmp 6]) rfl (by simp) (.tmp (.cell gb189 23 #[.int .i64 t195, .int .i64 t196, .int .i64 t197] (0, 0) _ rfl (by (with_reducible repeat (first | refine blk_drewN ?_ _ | refine blk_drew ?_ | refine blk_alloc ?_ _)); refine blk_put (cs := #[.int .i64 t195, .int .i64 t196, .int .i64 0]) ?_ 2 _ rfl; (with_reducible repeat (first | refine blk_drewN ?_ _ | refine blk_drew ?_ | refine blk_alloc ?_ _)); refine blk_put (cs := #[.int .i64 t195, .int .i64 0, .int .i64 0]) ?_ 1 _ rfl; (with_reducible repeat (first | refine blk_drewN ?_ _ | refine blk_drew ?_ | refine blk_alloc ?_ _)); refine blk_put (cs := #[.int .i64 0, .int .i64 0, .int .i64 0]) ?_ 0 _ rfl; (with_reducible repeat (first | refine blk_drewN ?_ _ | refine blk_drew ?_ | refine blk_alloc ?_ _)); exact BK189.out) Try.underlying23 rfl (by kernel_rfl) (.tmp .nil)))) rfl ?_
          exact ⟨by first | rfl | (simp [errW_none, errW_some] <;> rfl) | (simp [*, errW_none, errW_some] <;> rfl), by repeat (first | (with_reducible first | exact HB.out | apply below_alloc | apply pw_below_drewN | apply below_drew1 | refine below_set ?_ GE189.out | refine below_set ?_ GE194.out | refine below_set ?_ GE199.out) | exact HB.out)⟩

end Go.Proofs.Ythjnkapkhphpeaa.P
end
section
-- Written by a program of this session (xprint.py, over the kit's print). Not trusted: Lean checks it.
namespace Go.Proofs.Ythjnkapkhphpeaa.P
open Go.RowKit Go.Proofs.YthjnkapkhphpeaaW.PrintWords Go.Proofs.YthjnkapkhphpeaaW.PrintLast Go.Proofs.YthjnkapkhphpeaaW.PrintMore
attribute [local go_sem] max2_int min2_int max_two min_two max_three min_three max_four min_four   -- for this text's walks alone
set_option linter.unusedVariables false
set_option linter.unusedSimpArgs false

/-! ### assartref03_Book: function 23 -/
def assartref03_Book.f (k : Nat) (l0 : List Int) : Option (Int × Int) := (assartref01_Sum.f k l0).bind fun t200 => (some ((l0.length : Int), t200))
theorem assartref03_Book.mono : ∀ a0 k, LeO (assartref03_Book.f k a0) (assartref03_Book.f (k + 1) a0) := by
  intro a0 k
  unfold assartref03_Book.f
  repeat' first
      | (with_reducible exact assartref01_Sum.mono _ _)
      | (with_reducible exact LeO.refl _)
      | (with_reducible exact LeO.none _)
      | (with_reducible refine LeO.ite ?_ ?_)
      | (with_reducible refine LeO.bind ?_ (fun _ => ?_))
      | exact assartref01_Sum.mono _ _
      | exact LeO.none _
      | refine LeO.ite ?_ ?_
      | refine LeO.bind ?_ (fun _ => ?_)
set_option maxHeartbeats 8000000 in
set_option maxRecDepth 100000 in
theorem assartref03_Book.calls (k : Nat) (A0 : Option Addr) (c0 : Nat) (l0 : List Int) (r1 : Int) (r2 : Int) (w : World) (hr0 : Kd.C (Kd.int .u8) w A0 l0.length l0) (hc0 : l0.length ≤ c0) (h : assartref03_Book.f k l0 = some (r1, r2)) :
    Calls Try.prog 23 #[.slice A0 l0.length c0] w fun e w' => e = .returned (.tuple #[.int .i64 r1, .int .i64 r2]) ∧ Drawn0 w w' := by
  have HR0 := Aside0.mk hr0
  have HC0 := Aside0.mk hc0
  clear hr0 hc0
  have H : ((assartref01_Sum.f k l0).bind fun t200 => (some ((l0.length : Int), t200))) = some (r1, r2) := h
  clear h
  replace H := Option.bind_eq_some_iff.mp H
  obtain ⟨t200, A20, H⟩ := H
  replace H : (some ((l0.length : Int), t200)) = some (r1, r2) := H
  have A2 := Aside0.mk A20
  clear A20
  simp only [Option.some.injEq, Prod.mk.injEq] at H
  obtain ⟨rfl, rfl⟩ := H
  go_enter Try.func23, Try.ntmps23
  go_wp2_with (first | ((with_reducible refine gate_callee (f := 53) rfl ?_); refine goesL_ (some 7) rfl rfl Try.func53 (by kernel_rfl) rfl #[.slice A0 l0.length c0] rfl (by (try simp only [List.map_toArray, List.map_cons, List.map_nil]); first | done | rfl | (simp only [List.length_drop, List.length_take]; rfl)) ?_; (with_reducible refine (assartref01_Sum.calls k _ _ l0 t200 _ ?side1 ?side2 A2.out).mono ?_); (case side1 => repeat (first | exact HR0.out | (with_reducible refine Kd.C_alloc ?_ _) | (with_reducible refine Kd.C_drewN ?_ _) | (with_reducible refine Kd.C_drew ?_))); (case side2 => exact HC0.out); rintro e w' ⟨rfl, ⟨nd, rfl⟩⟩; refine ⟨_, rfl, ?_⟩))
  go_ret2
  exact ⟨by first | rfl | (simp; done) | (simp [*]; done), by repeat (first | exact Drawn0.refl _ | apply Drawn0.step)⟩

end Go.Proofs.Ythjnkapkhphpeaa.P
end
