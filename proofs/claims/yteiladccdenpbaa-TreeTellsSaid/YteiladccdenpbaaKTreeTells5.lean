/- Texts of this claim's proof put together: F3, HRow, QTreeTells, E0, PTree0, PTr, PTrV, PTrB, PureTreeTells, LawTreeTells. -/
import Derived.Test.YteiladccdenpbaaProg
import Derived.Test.YteiladccdenpbaaRows
import Derived.Test.YteiladccdenpbaaKTreeTells4
section
namespace Go.Proofs.Yteiladccdenpbaa.P
open Go.RowKit Go.Proofs.YteiladccdenpbaaW.PrintWords Go.Proofs.YteiladccdenpbaaW.PrintLast Go.Proofs.YteiladccdenpbaaW.PrintMore
attribute [local go_sem] max2_int min2_int max_two min_two max_three min_three max_four min_four
set_option linter.unusedVariables false
set_option linter.unusedSimpArgs false
def assartlaw07_TreeTells.j0 : Nat → Int → Bool → Bool → Bool → List (S55) → Int → Option (Bool)
 | 0, _, _, _, _, _, _ => none
 | k + 1, x1, x7, x8, x30, x230000, x230001 => if x30 = true then (some false) else (if x7 = true then (if x8 = true then ((tree_High.f k x230000 x230001 x1).bind fun t236 => ((assartref07_High.f k x230000 x230001 x1).bind fun t237 => (if t236 = t237 then ((tree_Nodes.f k x230000 x230001 x1).bind fun t238 => ((assartref07_Nodes.f k x230000 x230001 x1).bind fun t241 => ((assartref07_Ints.f k t238 t241).bind fun t244 => (some t244)))) else (some false)))) else (some true)) else (some false))
def assartlaw07_TreeTells.f (k : Nat) (l0_0 : List (S55)) (a0_1 : Int) (a1 : Int) (a2 : Int) : Option (Bool) := (assartlaw07_shown.f).bind fun t230 => ((assartref05_May.f k l0_0 a0_1 60).bind fun t231 => (if t231 = true then ((assartref07_Right.f k l0_0 a0_1 a1).bind fun t232 => ((tree_Right.f k l0_0 a0_1 a1).bind fun t233 => (if (t233 != t232) = true then (assartlaw07_TreeTells.j0 k a1 t230 t232 true l0_0 a0_1) else ((tree_Need.f (wrap64 (a2))).bind fun t234 => ((assartref07_Need.f (wrap64 (a2))).bind fun t235 => (assartlaw07_TreeTells.j0 k a1 t230 t232 (t234 != t235) l0_0 a0_1)))))) else (some t230)))
def assartlaw07_TreeTells.T7 : Bool × List (List Nat × List Nat) := (true, [([], []), ([0], [0]), ([1], [1]), ([2, 1], [1, 2]), ([3, 1, 1], [1, 3]), ([4], [4]), ([4], [4]), ([5, 6, 4, 4], [4, 5, 6]), ([4], [4]), ([4], [4]), ([8, 9, 7, 4], [4, 8, 9]), ([7, 10, 4], [4, 7, 10]), ([11, 10, 4], [4, 11]), ([12], [12]), ([12], [12]), ([13, 14, 12, 12], [12, 13, 14]), ([12], [12]), ([12], [12]), ([16, 17, 15, 12], [12, 16, 17]), ([15, 18, 18, 12], [12, 15, 18]), ([12, 19, 4], [4, 12, 19]), ([4, 20, 1], [1, 4, 20]), ([1, 21], [1, 21]), ([22, 19, 0, 1, 2, 3, 4, 5, 6, 7, 8, 9, 10, 11, 12, 13, 14, 15, 16, 17, 18, 19, 20, 21, 22], [22])])
def assartlaw07_TreeTells.B7 : List Nat := [0, 1, 3, 7, 15, 31, 31, 127, 31, 31, 1023, 2047, 4095, 8191, 8191, 32767, 8191, 8191, 262143, 524287, 1048575, 2097151, 4194303, 8388607]
theorem assartlaw07_TreeTells.tab7 : rtab .any (opsOf Try.f3 7) = assartlaw07_TreeTells.T7 := by kernel_rfl
theorem assartlaw07_TreeTells.bits7 : waitsOk assartlaw07_TreeTells.T7.2 assartlaw07_TreeTells.B7 = true := by kernel_rfl
set_option maxHeartbeats 8000000 in
set_option maxRecDepth 100000 in
theorem assartlaw07_TreeTells.calls (k : Nat) (A0_0 : Option Addr) (c0_0 : Nat) (l0_0 : List (S55)) (a0_1 : Int) (a1 : Int) (a2 : Int) (r : Bool) (w : World) (hr0_0 : Kd.C k55 w A0_0 l0_0.length l0_0) (hc0_0 : l0_0.length ≤ c0_0) (h : assartlaw07_TreeTells.f k l0_0 a0_1 a1 a2 = some r) :
  Calls Try.prog 3 #[.agg #[.slice A0_0 l0_0.length c0_0, .int .i64 a0_1], .int .i64 a1, .int .u16 a2] w fun e w' => e = .returned (.bool r) ∧ Below w.heap.size w w' := by
 have hu24 := Try.underlying24
 have HR0_0 := Aside0.mk hr0_0
 have HC0_0 := Aside0.mk hc0_0
 clear hr0_0 hc0_0
 have HB := Aside0.mk (Below.refl w.heap.size w)
 have H : ((assartlaw07_shown.f).bind fun t230 => ((assartref05_May.f k l0_0 a0_1 60).bind fun t231 => (if t231 = true then ((assartref07_Right.f k l0_0 a0_1 a1).bind fun t232 => ((tree_Right.f k l0_0 a0_1 a1).bind fun t233 => (if (t233 != t232) = true then (assartlaw07_TreeTells.j0 k a1 t230 t232 true l0_0 a0_1) else ((tree_Need.f (wrap64 (a2))).bind fun t234 => ((assartref07_Need.f (wrap64 (a2))).bind fun t235 => (assartlaw07_TreeTells.j0 k a1 t230 t232 (t234 != t235) l0_0 a0_1)))))) else (some t230)))) = some r := h
 clear h
 replace H := Option.bind_eq_some_iff.mp H
 obtain ⟨t230, A40, H⟩ := H
 replace H : ((assartref05_May.f k l0_0 a0_1 60).bind fun t231 => (if t231 = true then ((assartref07_Right.f k l0_0 a0_1 a1).bind fun t232 => ((tree_Right.f k l0_0 a0_1 a1).bind fun t233 => (if (t233 != t232) = true then (assartlaw07_TreeTells.j0 k a1 t230 t232 true l0_0 a0_1) else ((tree_Need.f (wrap64 (a2))).bind fun t234 => ((assartref07_Need.f (wrap64 (a2))).bind fun t235 => (assartlaw07_TreeTells.j0 k a1 t230 t232 (t234 != t235) l0_0 a0_1)))))) else (some t230))) = some r := H
 have A4 := Aside0.mk A40
 clear A40
 replace H := Option.bind_eq_some_iff.mp H
 obtain ⟨t231, A50, H⟩ := H
 replace H : (if t231 = true then ((assartref07_Right.f k l0_0 a0_1 a1).bind fun t232 => ((tree_Right.f k l0_0 a0_1 a1).bind fun t233 => (if (t233 != t232) = true then (assartlaw07_TreeTells.j0 k a1 t230 t232 true l0_0 a0_1) else ((tree_Need.f (wrap64 (a2))).bind fun t234 => ((assartref07_Need.f (wrap64 (a2))).bind fun t235 => (assartlaw07_TreeTells.j0 k a1 t230 t232 (t234 != t235) l0_0 a0_1)))))) else (some t230)) = some r := H
 have A5 := Aside0.mk A50
 clear A50
 by_cases c6 : t231 = true
 ·subst c6
  have H1 : ((assartref07_Right.f k l0_0 a0_1 a1).bind fun t232 => ((tree_Right.f k l0_0 a0_1 a1).bind fun t233 => (if (t233 != t232) = true then (assartlaw07_TreeTells.j0 k a1 t230 t232 true l0_0 a0_1) else ((tree_Need.f (wrap64 (a2))).bind fun t234 => ((assartref07_Need.f (wrap64 (a2))).bind fun t235 => (assartlaw07_TreeTells.j0 k a1 t230 t232 (t234 != t235) l0_0 a0_1)))))) = some r := by rw [if_pos rfl] at H; exact H
  clear H
  have H := H1
  clear H1
  replace H := Option.bind_eq_some_iff.mp H
  obtain ⟨t232, A70, H⟩ := H
  replace H : ((tree_Right.f k l0_0 a0_1 a1).bind fun t233 => (if (t233 != t232) = true then (assartlaw07_TreeTells.j0 k a1 t230 t232 true l0_0 a0_1) else ((tree_Need.f (wrap64 (a2))).bind fun t234 => ((assartref07_Need.f (wrap64 (a2))).bind fun t235 => (assartlaw07_TreeTells.j0 k a1 t230 t232 (t234 != t235) l0_0 a0_1))))) = some r := H
  have A7 := Aside0.mk A70
  clear A70
  have HC8 := Aside0.mk H
  clear H
  go_enter Try.func3, Try.ntmps3
  go_upto_region 5 with (first | ((with_reducible refine gate_dst (N := 3) rfl ?_); refine box_event ?hg (N := 3) ?hd (cs := #[.slice A0_0 l0_0.length c0_0, .int .i64 a0_1]) (t := 24) ?hr ?_; (case hd => rfl); (case hg => rfl); (case hr => first | (go_simp; done) | (go_simp; rfl)); intro gb229 hg w9 hbox hb; have n0_ := Aside0.mk (below_step (by repeat (first | (with_reducible first | exact HB.out | apply below_alloc | apply pw_below_drewN | apply below_drew1) | exact HB.out)) hb); have n1_ := Aside0.mk (hbox); have n2_ := Aside0.mk ((by rw [hg]; exact (below_size (by repeat (first | (with_reducible first | exact HB.out | apply below_alloc | apply pw_below_drewN | apply below_drew1) | exact HB.out))) : w.heap.size ≤ gb229)); have n3_ := Aside0.mk ((by rw [hg]; exact (below_size (by repeat (first | (with_reducible first | exact HB.out | apply below_alloc | apply pw_below_drewN | apply below_drew1) | exact HB.out))) : w.heap.size ≤ gb229)); clear HB; have HB := n0_; have BK229 := n1_; have GW229 := n2_; have GE229 := n3_; clear n0_ n1_ n2_ n3_; clear hb hbox hg) | ((with_reducible refine gate_callee (f := 15) rfl ?_); refine goesL_ (some 9) rfl rfl Try.func15 (by kernel_rfl) rfl #[] rfl (by (try simp only [List.map_toArray, List.map_cons, List.map_nil]); first | done | rfl | (simp only [List.length_drop, List.length_take]; rfl)) ?_; (with_reducible refine (assartlaw07_shown.calls  t230 _ A4.out).mono ?_); rintro e w10 ⟨rfl, hb⟩; refine ⟨_, rfl, ?_⟩; have n0_ := Aside0.mk (blk_below (g := gb229) (o := .cells #[.slice A0_0 l0_0.length c0_0, .int .i64 a0_1] 24 (0, 0)) (by (with_reducible repeat (first | refine blk_drewN ?_ _ | refine blk_drew ?_ | refine blk_alloc ?_ _)); exact BK229.out) hb); have n1_ := Aside0.mk (below_step (by repeat (first | (with_reducible first | exact HB.out | apply below_alloc | apply pw_below_drewN | apply below_drew1 | refine below_set ?_ GE229.out) | exact HB.out)) hb); clear BK229; clear HB; have BK229 := n0_; have HB := n1_; clear n0_ n1_; (try clear hb); (try clear hb2); (try clear hk); (try clear hi); have hcz11_0 : w10.cell? ⟨gb229, 0, none⟩ = some (.slice A0_0 l0_0.length c0_0) := (blk_cell BK229.out 0).trans rfl; have hcz11_1 : w10.cell? ⟨gb229, 1, none⟩ = some (.int .i64 a0_1) := (blk_cell BK229.out 1).trans rfl; have hfz11_0 := blk_frozen BK229.out 0; have hfz11_1 := blk_frozen BK229.out 1) | ((with_reducible refine gate_callee (f := 16) rfl ?_); refine goesL_ (some 11) rfl rfl Try.func16 (by kernel_rfl) rfl #[.agg #[.slice A0_0 l0_0.length c0_0, .int .i64 a0_1], .int .i64 60] rfl (by (try simp only [List.map_toArray, List.map_cons, List.map_nil]); first | done | rfl | (simp only [List.length_drop, List.length_take]; rfl)) ?_; (with_reducible refine (assartref05_May.calls k _ _ l0_0 a0_1 60 true _ ?side1 ?side2 A5.out).mono ?_); (case side1 => repeat (first | exact (Kd.C_below HR0_0.out HB.out) | (with_reducible refine Kd.C_alloc ?_ _) | (with_reducible refine Kd.C_drewN ?_ _) | (with_reducible refine Kd.C_drew ?_))); (case side2 => exact HC0_0.out); rintro e w12 ⟨rfl, hb⟩; refine ⟨_, rfl, ?_⟩; have n0_ := Aside0.mk (blk_below (g := gb229) (o := .cells #[.slice A0_0 l0_0.length c0_0, .int .i64 a0_1] 24 (0, 0)) (by (with_reducible repeat (first | refine blk_drewN ?_ _ | refine blk_drew ?_ | refine blk_alloc ?_ _)); exact BK229.out) hb); have n1_ := Aside0.mk (below_step (by repeat (first | (with_reducible first | exact HB.out | apply below_alloc | apply pw_below_drewN | apply below_drew1 | refine below_set ?_ GE229.out) | exact HB.out)) hb); clear BK229; clear HB; have BK229 := n0_; have HB := n1_; clear n0_ n1_; (try clear hb); (try clear hb2); (try clear hk); (try clear hi); have hcz13_0 : w12.cell? ⟨gb229, 0, none⟩ = some (.slice A0_0 l0_0.length c0_0) := (blk_cell BK229.out 0).trans rfl; have hcz13_1 : w12.cell? ⟨gb229, 1, none⟩ = some (.int .i64 a0_1) := (blk_cell BK229.out 1).trans rfl; have hfz13_0 := blk_frozen BK229.out 0; have hfz13_1 := blk_frozen BK229.out 1) | ((with_reducible refine gate_callee (f := 17) rfl ?_); refine goesL_ (some 16) rfl rfl Try.func17 (by kernel_rfl) rfl #[.agg #[.slice A0_0 l0_0.length c0_0, .int .i64 a0_1], .int .i64 a1] rfl (by (try simp only [List.map_toArray, List.map_cons, List.map_nil]); first | done | rfl | (simp only [List.length_drop, List.length_take]; rfl)) ?_; (with_reducible refine (assartref07_Right.calls k _ _ l0_0 a0_1 a1 t232 _ ?side1 ?side2 A7.out).mono ?_); (case side1 => repeat (first | exact (Kd.C_below HR0_0.out HB.out) | (with_reducible refine Kd.C_alloc ?_ _) | (with_reducible refine Kd.C_drewN ?_ _) | (with_reducible refine Kd.C_drew ?_))); (case side2 => exact HC0_0.out); rintro e w14 ⟨rfl, hb⟩; refine ⟨_, rfl, ?_⟩; have n0_ := Aside0.mk (blk_below (g := gb229) (o := .cells #[.slice A0_0 l0_0.length c0_0, .int .i64 a0_1] 24 (0, 0)) (by (with_reducible repeat (first | refine blk_drewN ?_ _ | refine blk_drew ?_ | refine blk_alloc ?_ _)); exact BK229.out) hb); have n1_ := Aside0.mk (below_step (by repeat (first | (with_reducible first | exact HB.out | apply below_alloc | apply pw_below_drewN | apply below_drew1 | refine below_set ?_ GE229.out) | exact HB.out)) hb); clear BK229; clear HB; have BK229 := n0_; have HB := n1_; clear n0_ n1_; (try clear hb); (try clear hb2); (try clear hk); (try clear hi)))
  (try simp only [Act.put, List.setIfInBounds_toArray, List.set_cons_zero, List.set_cons_succ])
  go_cut [30] (fun v30 wc => ∃ (kq : Nat) (x30_7 : Bool), v30 = .bool x30_7 ∧ Aside0 (assartlaw07_TreeTells.j0 kq a1 t230 t232 x30_7 l0_0 a0_1 = some r) ∧ Aside0 (kq ≤ k) ∧ Aside0 (wc.heap[gb229]? = some (.cells #[(.slice A0_0 l0_0.length c0_0), .int .i64 a0_1] 24 (0, 0))) ∧ Aside0 (Below w.heap.size w wc))
  case first =>
   have H := HC8.out
   clear HC8
   replace H := Option.bind_eq_some_iff.mp H
   obtain ⟨t233, A150, H⟩ := H
   replace H : (if (t233 != t232) = true then (assartlaw07_TreeTells.j0 k a1 t230 t232 true l0_0 a0_1) else ((tree_Need.f (wrap64 (a2))).bind fun t234 => ((assartref07_Need.f (wrap64 (a2))).bind fun t235 => (assartlaw07_TreeTells.j0 k a1 t230 t232 (t234 != t235) l0_0 a0_1)))) = some r := H
   have A15 := Aside0.mk A150
   clear A150
   by_cases c16 : (t233 != t232) = true
   ·rw [if_pos c16] at H
    have c16b0 : (t233 != t232) = true := c16
    (try (have c16b1 : decide (t233 = t232) = false := by simpa using c16))
    (try (have c16b2 : (t233 == t232) = false := by simpa using c16))
    (try (have c16b3 : ¬ (t233 = t232) := by simpa using c16))
    clear c16
    (first | rw [c16b0] | (simp only [i64_w, i32_w]; rw [c16b0]) | skip)
    have H' := Aside0.mk H
    clear H
    have hcz17_0 : w14.cell? ⟨gb229, 0, none⟩ = some (.slice A0_0 l0_0.length c0_0) := (blk_cell BK229.out 0).trans rfl
    have hcz17_1 : w14.cell? ⟨gb229, 1, none⟩ = some (.int .i64 a0_1) := (blk_cell BK229.out 1).trans rfl
    have hfz17_0 := blk_frozen BK229.out 0
    have hfz17_1 := blk_frozen BK229.out 1
    go_wp2_with (first | ((with_reducible refine gate_callee (f := 18) rfl ?_); refine goesL_ (some 19) rfl rfl Try.func18 (by kernel_rfl) rfl #[.agg #[.slice A0_0 l0_0.length c0_0, .int .i64 a0_1], .int .i64 a1] rfl (by (try simp only [List.map_toArray, List.map_cons, List.map_nil]); first | done | rfl | (simp only [List.length_drop, List.length_take]; rfl)) ?_; (with_reducible refine (tree_Right.calls k _ _ l0_0 a0_1 a1 t233 _ ?side1 ?side2 A15.out).mono ?_); (case side1 => repeat (first | exact (Kd.C_below HR0_0.out HB.out) | (with_reducible refine Kd.C_alloc ?_ _) | (with_reducible refine Kd.C_drewN ?_ _) | (with_reducible refine Kd.C_drew ?_))); (case side2 => exact HC0_0.out); rintro e w18 ⟨rfl, hb⟩; refine ⟨_, rfl, ?_⟩; have n0_ := Aside0.mk (blk_below (g := gb229) (o := .cells #[.slice A0_0 l0_0.length c0_0, .int .i64 a0_1] 24 (0, 0)) (by (with_reducible repeat (first | refine blk_drewN ?_ _ | refine blk_drew ?_ | refine blk_alloc ?_ _)); exact BK229.out) hb); have n1_ := Aside0.mk (below_step (by repeat (first | (with_reducible first | exact HB.out | apply below_alloc | apply pw_below_drewN | apply below_drew1 | refine below_set ?_ GE229.out) | exact HB.out)) hb); clear BK229; clear HB; have BK229 := n0_; have HB := n1_; clear n0_ n1_; (try clear hb); (try clear hb2); (try clear hk); (try clear hi)))
    go_meet
    case rel => exact ⟨_, (true), (by first | rfl | (simp; done) | (simp [*]; done)), H', ⟨by first | omega | exact Nat.le_refl _⟩, ⟨by (with_reducible repeat (first | refine blk_drewN ?_ _ | refine blk_drew ?_ | refine blk_alloc ?_ _)); exact BK229.out⟩, ⟨by repeat (first | (with_reducible first | exact HB.out | apply below_alloc | apply pw_below_drewN | apply below_drew1 | refine below_set ?_ GE229.out) | exact HB.out)⟩⟩
   ·rw [if_neg c16] at H
    have c16b0 : (t233 != t232) = false := by simpa using c16
    (try (have c16b1 : decide (t233 = t232) = true := by simpa using c16))
    (try (have c16b2 : (t233 == t232) = true := by simpa using c16))
    clear c16
    (first | rw [c16b0] | (simp only [i64_w, i32_w]; rw [c16b0]) | skip)
    replace H := Option.bind_eq_some_iff.mp H
    obtain ⟨t234, A190, H⟩ := H
    replace H : ((assartref07_Need.f (wrap64 (a2))).bind fun t235 => (assartlaw07_TreeTells.j0 k a1 t230 t232 (t234 != t235) l0_0 a0_1)) = some r := H
    have A19 := Aside0.mk A190
    clear A190
    replace H := Option.bind_eq_some_iff.mp H
    obtain ⟨t235, A200, H⟩ := H
    replace H : (assartlaw07_TreeTells.j0 k a1 t230 t232 (t234 != t235) l0_0 a0_1) = some r := H
    have A20 := Aside0.mk A200
    clear A200
    have H' := Aside0.mk H
    clear H
    have hcz21_0 : w14.cell? ⟨gb229, 0, none⟩ = some (.slice A0_0 l0_0.length c0_0) := (blk_cell BK229.out 0).trans rfl
    have hcz21_1 : w14.cell? ⟨gb229, 1, none⟩ = some (.int .i64 a0_1) := (blk_cell BK229.out 1).trans rfl
    have hfz21_0 := blk_frozen BK229.out 0
    have hfz21_1 := blk_frozen BK229.out 1
    go_wp2_with (first | ((with_reducible refine gate_callee (f := 18) rfl ?_); refine goesL_ (some 19) rfl rfl Try.func18 (by kernel_rfl) rfl #[.agg #[.slice A0_0 l0_0.length c0_0, .int .i64 a0_1], .int .i64 a1] rfl (by (try simp only [List.map_toArray, List.map_cons, List.map_nil]); first | done | rfl | (simp only [List.length_drop, List.length_take]; rfl)) ?_; (with_reducible refine (tree_Right.calls k _ _ l0_0 a0_1 a1 t233 _ ?side1 ?side2 A15.out).mono ?_); (case side1 => repeat (first | exact (Kd.C_below HR0_0.out HB.out) | (with_reducible refine Kd.C_alloc ?_ _) | (with_reducible refine Kd.C_drewN ?_ _) | (with_reducible refine Kd.C_drew ?_))); (case side2 => exact HC0_0.out); rintro e w22 ⟨rfl, hb⟩; refine ⟨_, rfl, ?_⟩; have n0_ := Aside0.mk (blk_below (g := gb229) (o := .cells #[.slice A0_0 l0_0.length c0_0, .int .i64 a0_1] 24 (0, 0)) (by (with_reducible repeat (first | refine blk_drewN ?_ _ | refine blk_drew ?_ | refine blk_alloc ?_ _)); exact BK229.out) hb); have n1_ := Aside0.mk (below_step (by repeat (first | (with_reducible first | exact HB.out | apply below_alloc | apply pw_below_drewN | apply below_drew1 | refine below_set ?_ GE229.out) | exact HB.out)) hb); clear BK229; clear HB; have BK229 := n0_; have HB := n1_; clear n0_ n1_; (try clear hb); (try clear hb2); (try clear hk); (try clear hi)) | (go_at_call 19; (with_reducible refine (tree_Need.calls (wrap64 (a2)) t234 _ A19.out).mono ?_); rintro e w' ⟨rfl, ⟨nd, rfl⟩⟩) | (go_at_call 20; (with_reducible refine (assartref07_Need.calls (wrap64 (a2)) t235 _ A20.out).mono ?_); rintro e w' ⟨rfl, ⟨nd, rfl⟩⟩))
    go_meet
    case rel => exact ⟨_, ((t234 != t235)), (by first | rfl | (simp; done) | (simp [*]; done)), H', ⟨by first | omega | exact Nat.le_refl _⟩, ⟨by (with_reducible repeat (first | refine blk_drewN ?_ _ | refine blk_drew ?_ | refine blk_alloc ?_ _)); exact BK229.out⟩, ⟨by repeat (first | (with_reducible first | exact HB.out | apply below_alloc | apply pw_below_drewN | apply below_drew1 | refine below_set ?_ GE229.out) | exact HB.out)⟩⟩
  case rest =>
   clear HC8
   try clear c1
   try clear p2
   try clear c3
   try clear c6
   try clear p6
   try clear c15
   try clear c16
   try clear c16b0
   try clear c16b1
   try clear c16b2
   try clear c17
   try clear c18
   try clear hcz11_0
   try clear hcz11_1
   try clear hcz13_0
   try clear hcz13_1
   try clear hcz17_0
   try clear hcz17_1
   try clear hcz21_0
   try clear hcz21_1
   try clear hfz11_0
   try clear hfz11_1
   try clear hfz13_0
   try clear hfz13_1
   try clear hfz17_0
   try clear hfz17_1
   try clear hfz21_0
   try clear hfz21_1
   obtain ⟨kq, x30_7, rfl, HA, HJ7, BK229, HB⟩ := hcut
   cases kq with
   | zero => exact absurd HA.out (by simp [assartlaw07_TreeTells.j0])
   | succ kj7 =>
    have H := HA.out
    clear HA
    simp only [assartlaw07_TreeTells.j0] at H
    by_cases c23 : x30_7 = true
    ·subst c23
     have H1 : (some false) = some r := by rw [if_pos rfl] at H; exact H
     clear H
     have H := H1
     clear H1
     obtain rfl := Option.some.inj H
     go_wp2
     go_ret
     exact ⟨by first | rfl | (simp [errW_none, errW_some] <;> rfl) | (simp [*, errW_none, errW_some] <;> rfl), by repeat (first | (with_reducible first | exact HB.out | apply below_alloc | apply pw_below_drewN | apply below_drew1 | refine below_set ?_ GE229.out) | exact HB.out)⟩
    ·replace c23 := Bool.eq_false_iff.mpr c23
     subst c23
     have H1 : (if t230 = true then (if t232 = true then ((tree_High.f kj7 l0_0 a0_1 a1).bind fun t236 => ((assartref07_High.f kj7 l0_0 a0_1 a1).bind fun t237 => (if t236 = t237 then ((tree_Nodes.f kj7 l0_0 a0_1 a1).bind fun t238 => ((assartref07_Nodes.f kj7 l0_0 a0_1 a1).bind fun t241 => ((assartref07_Ints.f kj7 t238 t241).bind fun t244 => (some t244)))) else (some false)))) else (some true)) else (some false)) = some r := by rw [if_neg (show ¬ (false = true) by decide)] at H; exact H
     clear H
     have H := H1
     clear H1
     by_cases c24 : t230 = true
     ·subst c24
      have H1 : (if t232 = true then ((tree_High.f kj7 l0_0 a0_1 a1).bind fun t236 => ((assartref07_High.f kj7 l0_0 a0_1 a1).bind fun t237 => (if t236 = t237 then ((tree_Nodes.f kj7 l0_0 a0_1 a1).bind fun t238 => ((assartref07_Nodes.f kj7 l0_0 a0_1 a1).bind fun t241 => ((assartref07_Ints.f kj7 t238 t241).bind fun t244 => (some t244)))) else (some false)))) else (some true)) = some r := by rw [if_pos rfl] at H; exact H
      clear H
      have H := H1
      clear H1
      by_cases c25 : t232 = true
      ·subst c25
       have H1 : ((tree_High.f kj7 l0_0 a0_1 a1).bind fun t236 => ((assartref07_High.f kj7 l0_0 a0_1 a1).bind fun t237 => (if t236 = t237 then ((tree_Nodes.f kj7 l0_0 a0_1 a1).bind fun t238 => ((assartref07_Nodes.f kj7 l0_0 a0_1 a1).bind fun t241 => ((assartref07_Ints.f kj7 t238 t241).bind fun t244 => (some t244)))) else (some false)))) = some r := by rw [if_pos rfl] at H; exact H
       clear H
       have H := H1
       clear H1
       replace H := Option.bind_eq_some_iff.mp H
       obtain ⟨t236, A260, H⟩ := H
       replace H : ((assartref07_High.f kj7 l0_0 a0_1 a1).bind fun t237 => (if t236 = t237 then ((tree_Nodes.f kj7 l0_0 a0_1 a1).bind fun t238 => ((assartref07_Nodes.f kj7 l0_0 a0_1 a1).bind fun t241 => ((assartref07_Ints.f kj7 t238 t241).bind fun t244 => (some t244)))) else (some false))) = some r := H
       have A26 := Aside0.mk A260
       clear A260
       replace H := Option.bind_eq_some_iff.mp H
       obtain ⟨t237, A270, H⟩ := H
       replace H : (if t236 = t237 then ((tree_Nodes.f kj7 l0_0 a0_1 a1).bind fun t238 => ((assartref07_Nodes.f kj7 l0_0 a0_1 a1).bind fun t241 => ((assartref07_Ints.f kj7 t238 t241).bind fun t244 => (some t244)))) else (some false)) = some r := H
       have A27 := Aside0.mk A270
       clear A270
       by_cases c28 : t236 = t237
       ·rw [if_pos c28] at H
        have c28b0 : (t236 == t237) = true := beq_iff_eq.mpr c28
        have c28b1 : (t236 != t237) = false := bne_eq_false_iff_eq.mpr c28
        clear c28
        replace H := Option.bind_eq_some_iff.mp H
        obtain ⟨t238, A290, H⟩ := H
        replace H : ((assartref07_Nodes.f kj7 l0_0 a0_1 a1).bind fun t241 => ((assartref07_Ints.f kj7 t238 t241).bind fun t244 => (some t244))) = some r := H
        have A29 := Aside0.mk A290
        clear A290
        replace H := Option.bind_eq_some_iff.mp H
        obtain ⟨t241, A300, H⟩ := H
        replace H : ((assartref07_Ints.f kj7 t238 t241).bind fun t244 => (some t244)) = some r := H
        have A30 := Aside0.mk A300
        clear A300
        replace H := Option.bind_eq_some_iff.mp H
        obtain ⟨t244, A310, H⟩ := H
        replace H : (some t244) = some r := H
        have A31 := Aside0.mk A310
        clear A310
        obtain rfl := Option.some.inj H
        try go_wp2
        have n0_ := Aside0.mk (blk_drew BK229.out)
        have n1_ := Aside0.mk (below_drew1 HB.out)
        clear BK229
        clear HB
        have BK229 := n0_
        have HB := n1_
        clear n0_ n1_
        refine start_ (n := 24) (S := fun w' => w'.cell? ⟨gb229, 0, none⟩ = some (.slice A0_0 l0_0.length c0_0) ∧ w'.cell? ⟨gb229, 1, none⟩ = some (.int .i64 a0_1)) (ds := []) #[false, false, false, false, false, false, false, false, false, false, false, false, false, false, false, false, false, false, false, false, false, false, false, false] (by kernel_rfl) rfl rfl ⟨(blk_cell BK229.out 0).trans rfl, (blk_cell BK229.out 1).trans rfl⟩ (fun hHeld => ?_); refine with_tabW assartlaw07_TreeTells.tab7 assartlaw07_TreeTells.bits7 (fun HT_ HW_ => ?_)
        generalize wc.drew = w32 at BK229 HB hHeld ⊢
        refine pure_ (i := 0) (N := some 31) (v := ?_) (a' := ?_) #[true, false, false, false, false, false, false, false, false, false, false, false, false, false, false, false, false, false, false, false, false, false, false, false] rfl rfl (any_of HT_.out (by kernel_rfl)) (fun _ _ _ h => h) (Or.inl ⟨by rfl, ?_⟩) ?_ ?_
        rotate_left
        ·intro w'
         go_simp
         with_reducible rfl
        rotate_left
        ·simp only [Act.put, List.setIfInBounds_toArray, List.set_cons_zero, List.set_cons_succ, i64_w, i32_w]
         rfl
        refine pure_ (i := 1) (N := some 32) (v := ?_) (a' := ?_) #[true, true, false, false, false, false, false, false, false, false, false, false, false, false, false, false, false, false, false, false, false, false, false, false] rfl rfl (any_of HT_.out (by kernel_rfl)) (fun _ _ _ h => h) (Or.inl ⟨by rfl, ?_⟩) ?_ ?_
        rotate_left
        ·intro w'
         go_simp
         with_reducible rfl
        rotate_left
        ·simp only [Act.put, List.setIfInBounds_toArray, List.set_cons_zero, List.set_cons_succ, i64_w, i32_w]
         rfl
        refine pure_ (i := 2) (N := some 33) (v := ?_) (a' := ?_) #[true, true, true, false, false, false, false, false, false, false, false, false, false, false, false, false, false, false, false, false, false, false, false, false] rfl rfl (any_of HT_.out (by kernel_rfl)) (fun _ _ _ h => h) (Or.inl ⟨by rfl, ?_⟩) ?_ ?_
        rotate_left
        ·intro w'
         go_simp
         with_reducible rfl
        rotate_left
        ·simp only [Act.put, List.setIfInBounds_toArray, List.set_cons_zero, List.set_cons_succ, i64_w, i32_w]
         rfl
        refine pure_ (i := 3) (N := some 34) (v := ?_) (a' := ?_) #[true, true, true, true, false, false, false, false, false, false, false, false, false, false, false, false, false, false, false, false, false, false, false, false] rfl rfl (any_of HT_.out (by kernel_rfl)) (fun _ _ _ h => h) (Or.inl ⟨by rfl, ?_⟩) ?_ ?_
        rotate_left
        ·intro w'
         go_simp
         with_reducible rfl
        rotate_left
        ·simp only [Act.put, List.setIfInBounds_toArray, List.set_cons_zero, List.set_cons_succ, i64_w, i32_w]
         rfl
        refine pure_ (i := 4) (N := some 35) (v := ?_) (a' := ?_) #[true, true, true, true, true, false, false, false, false, false, false, false, false, false, false, false, false, false, false, false, false, false, false, false] rfl rfl (any_of HT_.out (by kernel_rfl)) (fun _ _ _ h => h) (Or.inl ⟨by rfl, ?_⟩) ?_ ?_
        rotate_left
        ·intro w'
         go_simp
         with_reducible rfl
        rotate_left
        ·simp only [Act.put, List.setIfInBounds_toArray, List.set_cons_zero, List.set_cons_succ, i64_w, i32_w]
         rfl
        refine pure_ (i := 6) (N := some 37) (v := ?_) (a' := ?_) #[true, true, true, true, true, false, true, false, false, false, false, false, false, false, false, false, false, false, false, false, false, false, false, false] rfl rfl (any_of HT_.out (by kernel_rfl)) (fun _ _ _ h => h) (Or.inl ⟨by rfl, ?_⟩) ?_ ?_
        rotate_left
        ·intro w'
         go_simp
         with_reducible rfl
        rotate_left
        ·simp only [Act.put, List.setIfInBounds_toArray, List.set_cons_zero, List.set_cons_succ, i64_w, i32_w]
         rfl
        refine pure_ (i := 9) (N := some 40) (v := ?_) (a' := ?_) #[true, true, true, true, true, false, true, false, false, true, false, false, false, false, false, false, false, false, false, false, false, false, false, false] rfl rfl (any_of HT_.out (by kernel_rfl)) (fun _ _ _ h => h) (Or.inl ⟨by rfl, ?_⟩) ?_ ?_
        rotate_left
        ·intro w'
         go_simp
         with_reducible rfl
        rotate_left
        ·simp only [Act.put, List.setIfInBounds_toArray, List.set_cons_zero, List.set_cons_succ, i64_w, i32_w]
         rfl
        refine take_ (i := 5) (N := some 36) (v := ?_) (a' := ?_) #[true, true, true, true, true, true, true, false, false, true, false, false, false, false, false, false, false, false, false, false, false, false, false, false] rfl rfl (take_ofW HT_.out HW_.out (by kernel_rfl)) (fun _ _ _ h => h) (Or.inl ⟨by rfl, ?_⟩) hHeld ?_ ?_
        rotate_left
        ·rintro w' ⟨s0, s1⟩
         go_simp
         with_reducible rfl
        rotate_left
        ·simp only [Act.put, List.setIfInBounds_toArray, List.set_cons_zero, List.set_cons_succ, i64_w, i32_w]
         rfl
        refine take_ (i := 8) (N := some 39) (v := ?_) (a' := ?_) #[true, true, true, true, true, true, true, false, true, true, false, false, false, false, false, false, false, false, false, false, false, false, false, false] rfl rfl (take_ofW HT_.out HW_.out (by kernel_rfl)) (fun _ _ _ h => h) (Or.inl ⟨by rfl, ?_⟩) hHeld ?_ ?_
        rotate_left
        ·rintro w' ⟨s0, s1⟩
         go_simp
         with_reducible rfl
        rotate_left
        ·simp only [Act.put, List.setIfInBounds_toArray, List.set_cons_zero, List.set_cons_succ, i64_w, i32_w]
         rfl
        refine one_ (i := 7) (N := some 38) #[true, true, true, true, true, true, true, true, true, true, false, false, false, false, false, false, false, false, false, false, false, false, false, false] rfl rfl (one_of HT_.out (by kernel_rfl)) (by decide) (fun K hK => ?_)
        refine goes_ Try.func21 (by kernel_rfl) rfl #[.agg #[.slice A0_0 l0_0.length c0_0, .int .i64 a0_1], .int .i64 a1] (by rfl) rfl rfl (by (try simp only [List.map_toArray, List.map_cons, List.map_nil]); first | done | rfl | (simp only [List.length_drop, List.length_take]; rfl)) ?_
        with_reducible refine (tree_High.calls kj7 _ _ l0_0 a0_1 a1 t236 _ ?side1 ?side2 A26.out).mono ?_
        (case side1 => repeat (first | exact (Kd.C_below HR0_0.out HB.out) | (with_reducible refine Kd.C_alloc ?_ _) | (with_reducible refine Kd.C_drewN ?_ _) | (with_reducible refine Kd.C_drew ?_)))
        (case side2 => exact HC0_0.out)
        rintro e w33 ⟨rfl, hb⟩
        refine ⟨_, rfl, ?_⟩
        have n0_ := Aside0.mk (blk_below (g := gb229) (o := .cells #[.slice A0_0 l0_0.length c0_0, .int .i64 a0_1] 24 (0, 0)) (by (with_reducible repeat (first | refine blk_drewN ?_ _ | refine blk_drew ?_ | refine blk_alloc ?_ _)); exact BK229.out) hb)
        have n1_ := Aside0.mk (below_step (by repeat (first | (with_reducible first | exact HB.out | apply below_alloc | apply pw_below_drewN | apply below_drew1 | refine below_set ?_ GE229.out) | exact HB.out)) hb)
        clear BK229
        clear HB
        have BK229 := n0_
        have HB := n1_
        clear n0_ n1_
        (try clear hb)
        (try clear hb2)
        (try clear hk)
        (try clear hi)
        refine hK.out _ _ ⟨(blk_cell BK229.out 0).trans rfl, (blk_cell BK229.out 1).trans rfl⟩ (fun hHeld => ?_)
        clear hK K
        refine norm_ (a' := ?_) ?_ ?_
        rotate_left
        ·show Act.put _ (some 38) _ = _
         simp only [Act.put, List.setIfInBounds_toArray, List.set_cons_zero, List.set_cons_succ, i64_w, i32_w]
         rfl
        refine one_ (i := 10) (N := some 41) #[true, true, true, true, true, true, true, true, true, true, true, false, false, false, false, false, false, false, false, false, false, false, false, false] rfl rfl (one_of HT_.out (by kernel_rfl)) (by decide) (fun K hK => ?_)
        refine goes_ Try.func22 (by kernel_rfl) rfl #[.agg #[.slice A0_0 l0_0.length c0_0, .int .i64 a0_1], .int .i64 a1] (by rfl) rfl rfl (by (try simp only [List.map_toArray, List.map_cons, List.map_nil]); first | done | rfl | (simp only [List.length_drop, List.length_take]; rfl)) ?_
        with_reducible refine (assartref07_High.calls kj7 _ _ l0_0 a0_1 a1 t237 _ ?side1 ?side2 A27.out).mono ?_
        (case side1 => repeat (first | exact (Kd.C_below HR0_0.out HB.out) | (with_reducible refine Kd.C_alloc ?_ _) | (with_reducible refine Kd.C_drewN ?_ _) | (with_reducible refine Kd.C_drew ?_)))
        (case side2 => exact HC0_0.out)
        rintro e w34 ⟨rfl, hb⟩
        refine ⟨_, rfl, ?_⟩
        have n0_ := Aside0.mk (blk_below (g := gb229) (o := .cells #[.slice A0_0 l0_0.length c0_0, .int .i64 a0_1] 24 (0, 0)) (by (with_reducible repeat (first | refine blk_drewN ?_ _ | refine blk_drew ?_ | refine blk_alloc ?_ _)); exact BK229.out) hb)
        have n1_ := Aside0.mk (below_step (by repeat (first | (with_reducible first | exact HB.out | apply below_alloc | apply pw_below_drewN | apply below_drew1 | refine below_set ?_ GE229.out) | exact HB.out)) hb)
        clear BK229
        clear HB
        have BK229 := n0_
        have HB := n1_
        clear n0_ n1_
        (try clear hb)
        (try clear hb2)
        (try clear hk)
        (try clear hi)
        refine hK.out _ _ ⟨(blk_cell BK229.out 0).trans rfl, (blk_cell BK229.out 1).trans rfl⟩ (fun hHeld => ?_)
        clear hK K
        refine norm_ (a' := ?_) ?_ ?_
        rotate_left
        ·show Act.put _ (some 41) _ = _
         simp only [Act.put, List.setIfInBounds_toArray, List.set_cons_zero, List.set_cons_succ, i64_w, i32_w]
         rfl
        refine pure_ (i := 11) (N := some 42) (v := ?_) (a' := ?_) #[true, true, true, true, true, true, true, true, true, true, true, true, false, false, false, false, false, false, false, false, false, false, false, false] rfl rfl (any_of HT_.out (by kernel_rfl)) (fun _ _ _ h => h) (Or.inl ⟨by rfl, ?_⟩) ?_ ?_
        rotate_left
        ·intro w'
         go_simp
         with_reducible rfl
        rotate_left
        ·simp only [Act.put, List.setIfInBounds_toArray, List.set_cons_zero, List.set_cons_succ, i64_w, i32_w]
         rfl
        refine pure_ (i := 12) (N := some 43) (v := ?_) (a' := ?_) #[true, true, true, true, true, true, true, true, true, true, true, true, true, false, false, false, false, false, false, false, false, false, false, false] rfl rfl (any_of HT_.out (by kernel_rfl)) (fun _ _ _ h => h) (Or.inl ⟨by rfl, ?_⟩) ?_ ?_
        rotate_left
        ·intro w'
         go_simp
         with_reducible rfl
        rotate_left
        ·simp only [Act.put, List.setIfInBounds_toArray, List.set_cons_zero, List.set_cons_succ, i64_w, i32_w]
         rfl
        refine pure_ (i := 14) (N := some 45) (v := ?_) (a' := ?_) #[true, true, true, true, true, true, true, true, true, true, true, true, true, false, true, false, false, false, false, false, false, false, false, false] rfl rfl (any_of HT_.out (by kernel_rfl)) (fun _ _ _ h => h) (Or.inl ⟨by rfl, ?_⟩) ?_ ?_
        rotate_left
        ·intro w'
         go_simp
         with_reducible rfl
        rotate_left
        ·simp only [Act.put, List.setIfInBounds_toArray, List.set_cons_zero, List.set_cons_succ, i64_w, i32_w]
         rfl
        refine pure_ (i := 17) (N := some 48) (v := ?_) (a' := ?_) #[true, true, true, true, true, true, true, true, true, true, true, true, true, false, true, false, false, true, false, false, false, false, false, false] rfl rfl (any_of HT_.out (by kernel_rfl)) (fun _ _ _ h => h) (Or.inl ⟨by rfl, ?_⟩) ?_ ?_
        rotate_left
        ·intro w'
         go_simp
         with_reducible rfl
        rotate_left
        ·simp only [Act.put, List.setIfInBounds_toArray, List.set_cons_zero, List.set_cons_succ, i64_w, i32_w]
         rfl
        refine take_ (i := 13) (N := some 44) (v := ?_) (a' := ?_) #[true, true, true, true, true, true, true, true, true, true, true, true, true, true, true, false, false, true, false, false, false, false, false, false] rfl rfl (take_ofW HT_.out HW_.out (by kernel_rfl)) (fun _ _ _ h => h) (Or.inl ⟨by rfl, ?_⟩) hHeld ?_ ?_
        rotate_left
        ·rintro w' ⟨s0, s1⟩
         go_simp
         with_reducible rfl
        rotate_left
        ·simp only [Act.put, List.setIfInBounds_toArray, List.set_cons_zero, List.set_cons_succ, i64_w, i32_w]
         rfl
        refine take_ (i := 16) (N := some 47) (v := ?_) (a' := ?_) #[true, true, true, true, true, true, true, true, true, true, true, true, true, true, true, false, true, true, false, false, false, false, false, false] rfl rfl (take_ofW HT_.out HW_.out (by kernel_rfl)) (fun _ _ _ h => h) (Or.inl ⟨by rfl, ?_⟩) hHeld ?_ ?_
        rotate_left
        ·rintro w' ⟨s0, s1⟩
         go_simp
         with_reducible rfl
        rotate_left
        ·simp only [Act.put, List.setIfInBounds_toArray, List.set_cons_zero, List.set_cons_succ, i64_w, i32_w]
         rfl
        refine one_ (i := 15) (N := some 46) #[true, true, true, true, true, true, true, true, true, true, true, true, true, true, true, true, true, true, false, false, false, false, false, false] rfl rfl (one_of HT_.out (by kernel_rfl)) (by decide) (fun K hK => ?_)
        refine goes_ Try.func24 (by kernel_rfl) rfl #[.agg #[.slice A0_0 l0_0.length c0_0, .int .i64 a0_1], .int .i64 a1] (by rfl) rfl rfl (by (try simp only [List.map_toArray, List.map_cons, List.map_nil]); first | done | rfl | (simp only [List.length_drop, List.length_take]; rfl)) ?_
        with_reducible refine (tree_Nodes.calls kj7 _ _ l0_0 a0_1 a1 t238 _ ?side1 ?side2 A29.out).mono ?_
        (case side1 => repeat (first | exact (Kd.C_below HR0_0.out HB.out) | (with_reducible refine Kd.C_alloc ?_ _) | (with_reducible refine Kd.C_drewN ?_ _) | (with_reducible refine Kd.C_drew ?_)))
        (case side2 => exact HC0_0.out)
        rintro e w35 ⟨v239, rfl, ho0, hb⟩
        refine ⟨_, rfl, ?_⟩
        have n0_ := Aside0.mk (Kd.R_lower ho0 (below_size (by repeat (first | (with_reducible first | exact HB.out | apply below_alloc | apply pw_below_drewN | apply below_drew1 | refine below_set ?_ GE229.out) | exact HB.out))))
        have n1_ := Aside0.mk (blk_below (g := gb229) (o := .cells #[.slice A0_0 l0_0.length c0_0, .int .i64 a0_1] 24 (0, 0)) (by (with_reducible repeat (first | refine blk_drewN ?_ _ | refine blk_drew ?_ | refine blk_alloc ?_ _)); exact BK229.out) hb)
        have n2_ := Aside0.mk (below_step (by repeat (first | (with_reducible first | exact HB.out | apply below_alloc | apply pw_below_drewN | apply below_drew1 | refine below_set ?_ GE229.out) | exact HB.out)) hb)
        clear BK229
        clear HB
        have HO240 := n0_
        have BK229 := n1_
        have HB := n2_
        clear n0_ n1_ n2_
        (try clear hb)
        (try clear hb2)
        (try clear hk)
        (try clear hi)
        (try clear ho0)
        refine hK.out _ _ ⟨(blk_cell BK229.out 0).trans rfl, (blk_cell BK229.out 1).trans rfl⟩ (fun hHeld => ?_)
        clear hK K
        refine norm_ (a' := ?_) ?_ ?_
        rotate_left
        ·show Act.put _ (some 46) _ = _
         simp only [Act.put, List.setIfInBounds_toArray, List.set_cons_zero, List.set_cons_succ, i64_w, i32_w]
         rfl
        refine one_ (i := 18) (N := some 49) #[true, true, true, true, true, true, true, true, true, true, true, true, true, true, true, true, true, true, true, false, false, false, false, false] rfl rfl (one_of HT_.out (by kernel_rfl)) (by decide) (fun K hK => ?_)
        refine goes_ Try.func25 (by kernel_rfl) rfl #[.agg #[.slice A0_0 l0_0.length c0_0, .int .i64 a0_1], .int .i64 a1] (by rfl) rfl rfl (by (try simp only [List.map_toArray, List.map_cons, List.map_nil]); first | done | rfl | (simp only [List.length_drop, List.length_take]; rfl)) ?_
        with_reducible refine (assartref07_Nodes.calls kj7 _ _ l0_0 a0_1 a1 t241 _ ?side1 ?side2 A30.out).mono ?_
        (case side1 => repeat (first | exact (Kd.C_below HR0_0.out HB.out) | (with_reducible refine Kd.C_alloc ?_ _) | (with_reducible refine Kd.C_drewN ?_ _) | (with_reducible refine Kd.C_drew ?_)))
        (case side2 => exact HC0_0.out)
        rintro e w36 ⟨v242, rfl, ho0, hb⟩
        refine ⟨_, rfl, ?_⟩
        have n0_ := Aside0.mk (Kd.R_elder' (by (with_reducible repeat (first | apply Kd.R_alloc | apply Kd.R_drewN | apply Kd.R_drew)); exact HO240.out) (Kd.R_base ho0) hb)
        have n1_ := Aside0.mk (Kd.R_lower (Kd.R_new' ho0 (Kd.R_lt (by (with_reducible repeat (first | apply Kd.R_alloc | apply Kd.R_drewN | apply Kd.R_drew)); exact HO240.out))) (below_size (by repeat (first | (with_reducible first | exact HB.out | apply below_alloc | apply pw_below_drewN | apply below_drew1 | refine below_set ?_ GE229.out) | exact HB.out))))
        have n2_ := Aside0.mk (blk_below (g := gb229) (o := .cells #[.slice A0_0 l0_0.length c0_0, .int .i64 a0_1] 24 (0, 0)) (by (with_reducible repeat (first | refine blk_drewN ?_ _ | refine blk_drew ?_ | refine blk_alloc ?_ _)); exact BK229.out) hb)
        have n3_ := Aside0.mk (below_step (by repeat (first | (with_reducible first | exact HB.out | apply below_alloc | apply pw_below_drewN | apply below_drew1 | refine below_set ?_ GE229.out) | exact HB.out)) hb)
        clear HO240
        clear BK229
        clear HB
        have HO240 := n0_
        have HO243 := n1_
        have BK229 := n2_
        have HB := n3_
        clear n0_ n1_ n2_ n3_
        (try clear hb)
        (try clear hb2)
        (try clear hk)
        (try clear hi)
        (try clear ho0)
        obtain ⟨Ao37, co37, eo37⟩ := Kd.R_slice HO240.out
        (first | subst eo37 | (injection eo37 with f1_ f2_ f3_; have f4_ := f1_.symm; have f5_ := f3_.symm; clear f1_ f2_ f3_; subst f4_; subst f5_))
        obtain ⟨Ao38, co38, eo38⟩ := Kd.R_slice HO243.out
        (first | subst eo38 | (injection eo38 with f1_ f2_ f3_; have f4_ := f1_.symm; have f5_ := f3_.symm; clear f1_ f2_ f3_; subst f4_; subst f5_))
        refine hK.out _ _ ⟨(blk_cell BK229.out 0).trans rfl, (blk_cell BK229.out 1).trans rfl⟩ (fun hHeld => ?_)
        clear hK K
        refine norm_ (a' := ?_) ?_ ?_
        rotate_left
        ·show Act.put _ (some 49) _ = _
         simp only [Act.put, List.setIfInBounds_toArray, List.set_cons_zero, List.set_cons_succ, i64_w, i32_w]
         rfl
        refine one_ (i := 19) (N := some 50) #[true, true, true, true, true, true, true, true, true, true, true, true, true, true, true, true, true, true, true, true, false, false, false, false] rfl rfl (one_of HT_.out (by kernel_rfl)) (by decide) (fun K hK => ?_)
        refine goes_ Try.func23 (by kernel_rfl) rfl #[.slice Ao37 t238.length co37, .slice Ao38 t241.length co38] (by rfl) rfl rfl (by (try simp only [List.map_toArray, List.map_cons, List.map_nil]); first | done | rfl | (simp only [List.length_drop, List.length_take]; rfl)) ?_
        with_reducible refine (assartref07_Ints.calls kj7 _ _ t238 _ _ t241 t244 _ ?side1 ?side2 ?side3 ?side4 A31.out).mono ?_
        (case side1 => repeat (first | exact (Kd.R_reads' HO240.out).2.2 | (with_reducible refine Kd.C_alloc ?_ _) | (with_reducible refine Kd.C_drewN ?_ _) | (with_reducible refine Kd.C_drew ?_)))
        (case side2 => exact (Kd.R_reads' HO240.out).2.1)
        (case side3 => repeat (first | exact (Kd.R_reads' HO243.out).2.2 | (with_reducible refine Kd.C_alloc ?_ _) | (with_reducible refine Kd.C_drewN ?_ _) | (with_reducible refine Kd.C_drew ?_)))
        (case side4 => exact (Kd.R_reads' HO243.out).2.1)
        rintro e w' ⟨rfl, ⟨nd, rfl⟩⟩
        refine ⟨_, rfl, ?_⟩
        refine hK.out _ _ ⟨(blk_cell BK229.out 0).trans rfl, (blk_cell BK229.out 1).trans rfl⟩ (fun hHeld => ?_)
        clear hK K
        refine norm_ (a' := ?_) ?_ ?_
        rotate_left
        ·show Act.put _ (some 50) _ = _
         simp only [Act.put, List.setIfInBounds_toArray, List.set_cons_zero, List.set_cons_succ, i64_w, i32_w]
         rfl
        refine pure_ (i := 20) (N := some 51) (v := ?_) (a' := ?_) #[true, true, true, true, true, true, true, true, true, true, true, true, true, true, true, true, true, true, true, true, true, false, false, false] rfl rfl (any_of HT_.out (by kernel_rfl)) (fun _ _ _ h => h) (Or.inl ⟨by rfl, ?_⟩) ?_ ?_
        rotate_left
        ·intro w'
         go_simp
         with_reducible rfl
        rotate_left
        ·simp only [Act.put, List.setIfInBounds_toArray, List.set_cons_zero, List.set_cons_succ, i64_w, i32_w]
         rfl
        refine pure_ (i := 21) (N := some 52) (v := ?_) (a' := ?_) #[true, true, true, true, true, true, true, true, true, true, true, true, true, true, true, true, true, true, true, true, true, true, false, false] rfl rfl (any_of HT_.out (by kernel_rfl)) (fun _ _ _ h => h) (Or.inl ⟨by rfl, ?_⟩) ?_ ?_
        rotate_left
        ·intro w'
         go_simp
         with_reducible rfl
        rotate_left
        ·simp only [Act.put, List.setIfInBounds_toArray, List.set_cons_zero, List.set_cons_succ, i64_w, i32_w]
         rfl
        refine pure_ (i := 22) (N := some 53) (v := ?_) (a' := ?_) #[true, true, true, true, true, true, true, true, true, true, true, true, true, true, true, true, true, true, true, true, true, true, true, false] rfl rfl (any_of HT_.out (by kernel_rfl)) (fun _ _ _ h => h) (Or.inl ⟨by rfl, ?_⟩) ?_ ?_
        rotate_left
        ·intro w'
         go_simp
         with_reducible rfl
        rotate_left
        ·simp only [Act.put, List.setIfInBounds_toArray, List.set_cons_zero, List.set_cons_succ, i64_w, i32_w]
         rfl
        refine pure_ (i := 23) (N := some 6) (v := ?_) (a' := ?_) #[true, true, true, true, true, true, true, true, true, true, true, true, true, true, true, true, true, true, true, true, true, true, true, true] rfl rfl (any_of HT_.out (by kernel_rfl)) (fun _ _ _ h => h) (Or.inl ⟨by rfl, ?_⟩) ?_ ?_
        rotate_left
        ·intro w'
         go_simp
         with_reducible rfl
        rotate_left
        ·simp only [Act.put, List.setIfInBounds_toArray, List.set_cons_zero, List.set_cons_succ, i64_w, i32_w]
         rfl
        refine done_ (done_of HT_.out (by kernel_rfl)) ?_
        try go_wp2
        go_ret
        exact ⟨by first | rfl | (simp [errW_none, errW_some] <;> rfl) | (simp [*, errW_none, errW_some] <;> rfl), by repeat (first | (with_reducible first | exact HB.out | apply below_alloc | apply pw_below_drewN | apply below_drew1 | refine below_set ?_ GE229.out) | exact HB.out)⟩
       ·rw [if_neg c28] at H
        have c28b0 : (t236 == t237) = false := beq_eq_false_iff_ne.mpr c28
        have c28b1 : (t236 != t237) = true := bne_iff_ne.mpr c28
        obtain rfl := Option.some.inj H
        try go_wp2
        have n0_ := Aside0.mk (blk_drew BK229.out)
        have n1_ := Aside0.mk (below_drew1 HB.out)
        clear BK229
        clear HB
        have BK229 := n0_
        have HB := n1_
        clear n0_ n1_
        refine start_ (n := 24) (S := fun w' => w'.cell? ⟨gb229, 0, none⟩ = some (.slice A0_0 l0_0.length c0_0) ∧ w'.cell? ⟨gb229, 1, none⟩ = some (.int .i64 a0_1)) (ds := []) #[false, false, false, false, false, false, false, false, false, false, false, false, false, false, false, false, false, false, false, false, false, false, false, false] (by kernel_rfl) rfl rfl ⟨(blk_cell BK229.out 0).trans rfl, (blk_cell BK229.out 1).trans rfl⟩ (fun hHeld => ?_); refine with_tabW assartlaw07_TreeTells.tab7 assartlaw07_TreeTells.bits7 (fun HT_ HW_ => ?_)
        generalize wc.drew = w39 at BK229 HB hHeld ⊢
        refine pure_ (i := 0) (N := some 31) (v := ?_) (a' := ?_) #[true, false, false, false, false, false, false, false, false, false, false, false, false, false, false, false, false, false, false, false, false, false, false, false] rfl rfl (any_of HT_.out (by kernel_rfl)) (fun _ _ _ h => h) (Or.inl ⟨by rfl, ?_⟩) ?_ ?_
        rotate_left
        ·intro w'
         go_simp
         with_reducible rfl
        rotate_left
        ·simp only [Act.put, List.setIfInBounds_toArray, List.set_cons_zero, List.set_cons_succ, i64_w, i32_w]
         rfl
        refine pure_ (i := 1) (N := some 32) (v := ?_) (a' := ?_) #[true, true, false, false, false, false, false, false, false, false, false, false, false, false, false, false, false, false, false, false, false, false, false, false] rfl rfl (any_of HT_.out (by kernel_rfl)) (fun _ _ _ h => h) (Or.inl ⟨by rfl, ?_⟩) ?_ ?_
        rotate_left
        ·intro w'
         go_simp
         with_reducible rfl
        rotate_left
        ·simp only [Act.put, List.setIfInBounds_toArray, List.set_cons_zero, List.set_cons_succ, i64_w, i32_w]
         rfl
        refine pure_ (i := 2) (N := some 33) (v := ?_) (a' := ?_) #[true, true, true, false, false, false, false, false, false, false, false, false, false, false, false, false, false, false, false, false, false, false, false, false] rfl rfl (any_of HT_.out (by kernel_rfl)) (fun _ _ _ h => h) (Or.inl ⟨by rfl, ?_⟩) ?_ ?_
        rotate_left
        ·intro w'
         go_simp
         with_reducible rfl
        rotate_left
        ·simp only [Act.put, List.setIfInBounds_toArray, List.set_cons_zero, List.set_cons_succ, i64_w, i32_w]
         rfl
        refine pure_ (i := 3) (N := some 34) (v := ?_) (a' := ?_) #[true, true, true, true, false, false, false, false, false, false, false, false, false, false, false, false, false, false, false, false, false, false, false, false] rfl rfl (any_of HT_.out (by kernel_rfl)) (fun _ _ _ h => h) (Or.inl ⟨by rfl, ?_⟩) ?_ ?_
        rotate_left
        ·intro w'
         go_simp
         with_reducible rfl
        rotate_left
        ·simp only [Act.put, List.setIfInBounds_toArray, List.set_cons_zero, List.set_cons_succ, i64_w, i32_w]
         rfl
        refine pure_ (i := 4) (N := some 35) (v := ?_) (a' := ?_) #[true, true, true, true, true, false, false, false, false, false, false, false, false, false, false, false, false, false, false, false, false, false, false, false] rfl rfl (any_of HT_.out (by kernel_rfl)) (fun _ _ _ h => h) (Or.inl ⟨by rfl, ?_⟩) ?_ ?_
        rotate_left
        ·intro w'
         go_simp
         with_reducible rfl
        rotate_left
        ·simp only [Act.put, List.setIfInBounds_toArray, List.set_cons_zero, List.set_cons_succ, i64_w, i32_w]
         rfl
        refine pure_ (i := 6) (N := some 37) (v := ?_) (a' := ?_) #[true, true, true, true, true, false, true, false, false, false, false, false, false, false, false, false, false, false, false, false, false, false, false, false] rfl rfl (any_of HT_.out (by kernel_rfl)) (fun _ _ _ h => h) (Or.inl ⟨by rfl, ?_⟩) ?_ ?_
        rotate_left
        ·intro w'
         go_simp
         with_reducible rfl
        rotate_left
        ·simp only [Act.put, List.setIfInBounds_toArray, List.set_cons_zero, List.set_cons_succ, i64_w, i32_w]
         rfl
        refine pure_ (i := 9) (N := some 40) (v := ?_) (a' := ?_) #[true, true, true, true, true, false, true, false, false, true, false, false, false, false, false, false, false, false, false, false, false, false, false, false] rfl rfl (any_of HT_.out (by kernel_rfl)) (fun _ _ _ h => h) (Or.inl ⟨by rfl, ?_⟩) ?_ ?_
        rotate_left
        ·intro w'
         go_simp
         with_reducible rfl
        rotate_left
        ·simp only [Act.put, List.setIfInBounds_toArray, List.set_cons_zero, List.set_cons_succ, i64_w, i32_w]
         rfl
        refine take_ (i := 5) (N := some 36) (v := ?_) (a' := ?_) #[true, true, true, true, true, true, true, false, false, true, false, false, false, false, false, false, false, false, false, false, false, false, false, false] rfl rfl (take_ofW HT_.out HW_.out (by kernel_rfl)) (fun _ _ _ h => h) (Or.inl ⟨by rfl, ?_⟩) hHeld ?_ ?_
        rotate_left
        ·rintro w' ⟨s0, s1⟩
         go_simp
         with_reducible rfl
        rotate_left
        ·simp only [Act.put, List.setIfInBounds_toArray, List.set_cons_zero, List.set_cons_succ, i64_w, i32_w]
         rfl
        refine take_ (i := 8) (N := some 39) (v := ?_) (a' := ?_) #[true, true, true, true, true, true, true, false, true, true, false, false, false, false, false, false, false, false, false, false, false, false, false, false] rfl rfl (take_ofW HT_.out HW_.out (by kernel_rfl)) (fun _ _ _ h => h) (Or.inl ⟨by rfl, ?_⟩) hHeld ?_ ?_
        rotate_left
        ·rintro w' ⟨s0, s1⟩
         go_simp
         with_reducible rfl
        rotate_left
        ·simp only [Act.put, List.setIfInBounds_toArray, List.set_cons_zero, List.set_cons_succ, i64_w, i32_w]
         rfl
        refine one_ (i := 7) (N := some 38) #[true, true, true, true, true, true, true, true, true, true, false, false, false, false, false, false, false, false, false, false, false, false, false, false] rfl rfl (one_of HT_.out (by kernel_rfl)) (by decide) (fun K hK => ?_)
        refine goes_ Try.func21 (by kernel_rfl) rfl #[.agg #[.slice A0_0 l0_0.length c0_0, .int .i64 a0_1], .int .i64 a1] (by rfl) rfl rfl (by (try simp only [List.map_toArray, List.map_cons, List.map_nil]); first | done | rfl | (simp only [List.length_drop, List.length_take]; rfl)) ?_
        with_reducible refine (tree_High.calls kj7 _ _ l0_0 a0_1 a1 t236 _ ?side1 ?side2 A26.out).mono ?_
        (case side1 => repeat (first | exact (Kd.C_below HR0_0.out HB.out) | (with_reducible refine Kd.C_alloc ?_ _) | (with_reducible refine Kd.C_drewN ?_ _) | (with_reducible refine Kd.C_drew ?_)))
        (case side2 => exact HC0_0.out)
        rintro e w40 ⟨rfl, hb⟩
        refine ⟨_, rfl, ?_⟩
        have n0_ := Aside0.mk (blk_below (g := gb229) (o := .cells #[.slice A0_0 l0_0.length c0_0, .int .i64 a0_1] 24 (0, 0)) (by (with_reducible repeat (first | refine blk_drewN ?_ _ | refine blk_drew ?_ | refine blk_alloc ?_ _)); exact BK229.out) hb)
        have n1_ := Aside0.mk (below_step (by repeat (first | (with_reducible first | exact HB.out | apply below_alloc | apply pw_below_drewN | apply below_drew1 | refine below_set ?_ GE229.out) | exact HB.out)) hb)
        clear BK229
        clear HB
        have BK229 := n0_
        have HB := n1_
        clear n0_ n1_
        (try clear hb)
        (try clear hb2)
        (try clear hk)
        (try clear hi)
        refine hK.out _ _ ⟨(blk_cell BK229.out 0).trans rfl, (blk_cell BK229.out 1).trans rfl⟩ (fun hHeld => ?_)
        clear hK K
        refine norm_ (a' := ?_) ?_ ?_
        rotate_left
        ·show Act.put _ (some 38) _ = _
         simp only [Act.put, List.setIfInBounds_toArray, List.set_cons_zero, List.set_cons_succ, i64_w, i32_w]
         rfl
        refine one_ (i := 10) (N := some 41) #[true, true, true, true, true, true, true, true, true, true, true, false, false, false, false, false, false, false, false, false, false, false, false, false] rfl rfl (one_of HT_.out (by kernel_rfl)) (by decide) (fun K hK => ?_)
        refine goes_ Try.func22 (by kernel_rfl) rfl #[.agg #[.slice A0_0 l0_0.length c0_0, .int .i64 a0_1], .int .i64 a1] (by rfl) rfl rfl (by (try simp only [List.map_toArray, List.map_cons, List.map_nil]); first | done | rfl | (simp only [List.length_drop, List.length_take]; rfl)) ?_
        with_reducible refine (assartref07_High.calls kj7 _ _ l0_0 a0_1 a1 t237 _ ?side1 ?side2 A27.out).mono ?_
        (case side1 => repeat (first | exact (Kd.C_below HR0_0.out HB.out) | (with_reducible refine Kd.C_alloc ?_ _) | (with_reducible refine Kd.C_drewN ?_ _) | (with_reducible refine Kd.C_drew ?_)))
        (case side2 => exact HC0_0.out)
        rintro e w41 ⟨rfl, hb⟩
        refine ⟨_, rfl, ?_⟩
        have n0_ := Aside0.mk (blk_below (g := gb229) (o := .cells #[.slice A0_0 l0_0.length c0_0, .int .i64 a0_1] 24 (0, 0)) (by (with_reducible repeat (first | refine blk_drewN ?_ _ | refine blk_drew ?_ | refine blk_alloc ?_ _)); exact BK229.out) hb)
        have n1_ := Aside0.mk (below_step (by repeat (first | (with_reducible first | exact HB.out | apply below_alloc | apply pw_below_drewN | apply below_drew1 | refine below_set ?_ GE229.out) | exact HB.out)) hb)
        clear BK229
        clear HB
        have BK229 := n0_
        have HB := n1_
        clear n0_ n1_
        (try clear hb)
        (try clear hb2)
        (try clear hk)
        (try clear hi)
        refine hK.out _ _ ⟨(blk_cell BK229.out 0).trans rfl, (blk_cell BK229.out 1).trans rfl⟩ (fun hHeld => ?_)
        clear hK K
        refine norm_ (a' := ?_) ?_ ?_
        rotate_left
        ·show Act.put _ (some 41) _ = _
         simp only [Act.put, List.setIfInBounds_toArray, List.set_cons_zero, List.set_cons_succ, i64_w, i32_w]
         rfl
        refine pure_ (i := 11) (N := some 42) (v := ?_) (a' := ?_) #[true, true, true, true, true, true, true, true, true, true, true, true, false, false, false, false, false, false, false, false, false, false, false, false] rfl rfl (any_of HT_.out (by kernel_rfl)) (fun _ _ _ h => h) (Or.inl ⟨by rfl, ?_⟩) ?_ ?_
        rotate_left
        ·intro w'
         go_simp
         with_reducible rfl
        rotate_left
        ·simp only [Act.put, List.setIfInBounds_toArray, List.set_cons_zero, List.set_cons_succ, i64_w, i32_w]
         rfl
        refine pure_ (i := 12) (N := some 43) (v := ?_) (a' := ?_) #[true, true, true, true, true, true, true, true, true, true, true, true, true, false, false, false, false, false, false, false, false, false, false, false] rfl rfl (any_of HT_.out (by kernel_rfl)) (fun _ _ _ h => h) (Or.inl ⟨by rfl, ?_⟩) ?_ ?_
        rotate_left
        ·intro w'
         go_simp
         with_reducible rfl
        rotate_left
        ·simp only [Act.put, List.setIfInBounds_toArray, List.set_cons_zero, List.set_cons_succ, i64_w, i32_w]
         rfl
        refine pure_ (i := 13) (N := some 44) (v := undef) (a' := ?_) #[true, true, true, true, true, true, true, true, true, true, true, true, true, true, false, false, false, false, false, false, false, false, false, false] rfl rfl (any_of HT_.out (by kernel_rfl)) (fun _ _ _ h => h) (Or.inr ⟨by rfl, rfl⟩) ?_ ?_
        rotate_left
        ·simp only [Act.put, List.setIfInBounds_toArray, List.set_cons_zero, List.set_cons_succ, i64_w, i32_w]
         rfl
        refine pure_ (i := 14) (N := some 45) (v := undef) (a' := ?_) #[true, true, true, true, true, true, true, true, true, true, true, true, true, true, true, false, false, false, false, false, false, false, false, false] rfl rfl (any_of HT_.out (by kernel_rfl)) (fun _ _ _ h => h) (Or.inr ⟨by rfl, rfl⟩) ?_ ?_
        rotate_left
        ·simp only [Act.put, List.setIfInBounds_toArray, List.set_cons_zero, List.set_cons_succ, i64_w, i32_w]
         rfl
        refine pure_ (i := 15) (N := some 46) (v := undef) (a' := ?_) #[true, true, true, true, true, true, true, true, true, true, true, true, true, true, true, true, false, false, false, false, false, false, false, false] rfl rfl (any_of HT_.out (by kernel_rfl)) (fun _ _ _ h => h) (Or.inr ⟨by rfl, rfl⟩) ?_ ?_
        rotate_left
        ·simp only [Act.put, List.setIfInBounds_toArray, List.set_cons_zero, List.set_cons_succ, i64_w, i32_w]
         rfl
        refine pure_ (i := 16) (N := some 47) (v := undef) (a' := ?_) #[true, true, true, true, true, true, true, true, true, true, true, true, true, true, true, true, true, false, false, false, false, false, false, false] rfl rfl (any_of HT_.out (by kernel_rfl)) (fun _ _ _ h => h) (Or.inr ⟨by rfl, rfl⟩) ?_ ?_
        rotate_left
        ·simp only [Act.put, List.setIfInBounds_toArray, List.set_cons_zero, List.set_cons_succ, i64_w, i32_w]
         rfl
        refine pure_ (i := 17) (N := some 48) (v := undef) (a' := ?_) #[true, true, true, true, true, true, true, true, true, true, true, true, true, true, true, true, true, true, false, false, false, false, false, false] rfl rfl (any_of HT_.out (by kernel_rfl)) (fun _ _ _ h => h) (Or.inr ⟨by rfl, rfl⟩) ?_ ?_
        rotate_left
        ·simp only [Act.put, List.setIfInBounds_toArray, List.set_cons_zero, List.set_cons_succ, i64_w, i32_w]
         rfl
        refine pure_ (i := 18) (N := some 49) (v := undef) (a' := ?_) #[true, true, true, true, true, true, true, true, true, true, true, true, true, true, true, true, true, true, true, false, false, false, false, false] rfl rfl (any_of HT_.out (by kernel_rfl)) (fun _ _ _ h => h) (Or.inr ⟨by rfl, rfl⟩) ?_ ?_
        rotate_left
        ·simp only [Act.put, List.setIfInBounds_toArray, List.set_cons_zero, List.set_cons_succ, i64_w, i32_w]
         rfl
        refine pure_ (i := 19) (N := some 50) (v := undef) (a' := ?_) #[true, true, true, true, true, true, true, true, true, true, true, true, true, true, true, true, true, true, true, true, false, false, false, false] rfl rfl (any_of HT_.out (by kernel_rfl)) (fun _ _ _ h => h) (Or.inr ⟨by rfl, rfl⟩) ?_ ?_
        rotate_left
        ·simp only [Act.put, List.setIfInBounds_toArray, List.set_cons_zero, List.set_cons_succ, i64_w, i32_w]
         rfl
        refine pure_ (i := 20) (N := some 51) (v := ?_) (a' := ?_) #[true, true, true, true, true, true, true, true, true, true, true, true, true, true, true, true, true, true, true, true, true, false, false, false] rfl rfl (any_of HT_.out (by kernel_rfl)) (fun _ _ _ h => h) (Or.inl ⟨by rfl, ?_⟩) ?_ ?_
        rotate_left
        ·intro w'
         go_simp
         with_reducible rfl
        rotate_left
        ·simp only [Act.put, List.setIfInBounds_toArray, List.set_cons_zero, List.set_cons_succ, i64_w, i32_w]
         rfl
        refine pure_ (i := 21) (N := some 52) (v := ?_) (a' := ?_) #[true, true, true, true, true, true, true, true, true, true, true, true, true, true, true, true, true, true, true, true, true, true, false, false] rfl rfl (any_of HT_.out (by kernel_rfl)) (fun _ _ _ h => h) (Or.inl ⟨by rfl, ?_⟩) ?_ ?_
        rotate_left
        ·intro w'
         go_simp
         with_reducible rfl
        rotate_left
        ·simp only [Act.put, List.setIfInBounds_toArray, List.set_cons_zero, List.set_cons_succ, i64_w, i32_w]
         rfl
        refine pure_ (i := 22) (N := some 53) (v := ?_) (a' := ?_) #[true, true, true, true, true, true, true, true, true, true, true, true, true, true, true, true, true, true, true, true, true, true, true, false] rfl rfl (any_of HT_.out (by kernel_rfl)) (fun _ _ _ h => h) (Or.inl ⟨by rfl, ?_⟩) ?_ ?_
        rotate_left
        ·intro w'
         go_simp
         with_reducible rfl
        rotate_left
        ·simp only [Act.put, List.setIfInBounds_toArray, List.set_cons_zero, List.set_cons_succ, i64_w, i32_w]
         rfl
        refine pure_ (i := 23) (N := some 6) (v := ?_) (a' := ?_) #[true, true, true, true, true, true, true, true, true, true, true, true, true, true, true, true, true, true, true, true, true, true, true, true] rfl rfl (any_of HT_.out (by kernel_rfl)) (fun _ _ _ h => h) (Or.inl ⟨by rfl, ?_⟩) ?_ ?_
        rotate_left
        ·intro w'
         go_simp
         with_reducible rfl
        rotate_left
        ·simp only [Act.put, List.setIfInBounds_toArray, List.set_cons_zero, List.set_cons_succ, i64_w, i32_w]
         rfl
        refine done_ (done_of HT_.out (by kernel_rfl)) ?_
        try go_wp2
        go_ret
        exact ⟨by first | rfl | (simp [errW_none, errW_some] <;> rfl) | (simp [*, errW_none, errW_some] <;> rfl), by repeat (first | (with_reducible first | exact HB.out | apply below_alloc | apply pw_below_drewN | apply below_drew1 | refine below_set ?_ GE229.out) | exact HB.out)⟩
      ·replace c25 := Bool.eq_false_iff.mpr c25
       subst c25
       have H1 : (some true) = some r := by rw [if_neg (show ¬ (false = true) by decide)] at H; exact H
       clear H
       have H := H1
       clear H1
       obtain rfl := Option.some.inj H
       try go_wp2
       have n0_ := Aside0.mk (blk_drew BK229.out)
       have n1_ := Aside0.mk (below_drew1 HB.out)
       clear BK229
       clear HB
       have BK229 := n0_
       have HB := n1_
       clear n0_ n1_
       refine start_ (n := 24) (S := fun w' => True) (ds := []) #[false, false, false, false, false, false, false, false, false, false, false, false, false, false, false, false, false, false, false, false, false, false, false, false] (by kernel_rfl) rfl rfl trivial (fun hHeld => ?_); refine with_tabW assartlaw07_TreeTells.tab7 assartlaw07_TreeTells.bits7 (fun HT_ HW_ => ?_)
       generalize wc.drew = w42 at BK229 HB hHeld ⊢
       refine pure_ (i := 0) (N := some 31) (v := ?_) (a' := ?_) #[true, false, false, false, false, false, false, false, false, false, false, false, false, false, false, false, false, false, false, false, false, false, false, false] rfl rfl (any_of HT_.out (by kernel_rfl)) (fun _ _ _ h => h) (Or.inl ⟨by rfl, ?_⟩) ?_ ?_
       rotate_left
       ·intro w'
        go_simp
        with_reducible rfl
       rotate_left
       ·simp only [Act.put, List.setIfInBounds_toArray, List.set_cons_zero, List.set_cons_succ, i64_w, i32_w]
        rfl
       refine pure_ (i := 1) (N := some 32) (v := ?_) (a' := ?_) #[true, true, false, false, false, false, false, false, false, false, false, false, false, false, false, false, false, false, false, false, false, false, false, false] rfl rfl (any_of HT_.out (by kernel_rfl)) (fun _ _ _ h => h) (Or.inl ⟨by rfl, ?_⟩) ?_ ?_
       rotate_left
       ·intro w'
        go_simp
        with_reducible rfl
       rotate_left
       ·simp only [Act.put, List.setIfInBounds_toArray, List.set_cons_zero, List.set_cons_succ, i64_w, i32_w]
        rfl
       refine pure_ (i := 2) (N := some 33) (v := ?_) (a' := ?_) #[true, true, true, false, false, false, false, false, false, false, false, false, false, false, false, false, false, false, false, false, false, false, false, false] rfl rfl (any_of HT_.out (by kernel_rfl)) (fun _ _ _ h => h) (Or.inl ⟨by rfl, ?_⟩) ?_ ?_
       rotate_left
       ·intro w'
        go_simp
        with_reducible rfl
       rotate_left
       ·simp only [Act.put, List.setIfInBounds_toArray, List.set_cons_zero, List.set_cons_succ, i64_w, i32_w]
        rfl
       refine pure_ (i := 3) (N := some 34) (v := ?_) (a' := ?_) #[true, true, true, true, false, false, false, false, false, false, false, false, false, false, false, false, false, false, false, false, false, false, false, false] rfl rfl (any_of HT_.out (by kernel_rfl)) (fun _ _ _ h => h) (Or.inl ⟨by rfl, ?_⟩) ?_ ?_
       rotate_left
       ·intro w'
        go_simp
        with_reducible rfl
       rotate_left
       ·simp only [Act.put, List.setIfInBounds_toArray, List.set_cons_zero, List.set_cons_succ, i64_w, i32_w]
        rfl
       refine pure_ (i := 4) (N := some 35) (v := ?_) (a' := ?_) #[true, true, true, true, true, false, false, false, false, false, false, false, false, false, false, false, false, false, false, false, false, false, false, false] rfl rfl (any_of HT_.out (by kernel_rfl)) (fun _ _ _ h => h) (Or.inl ⟨by rfl, ?_⟩) ?_ ?_
       rotate_left
       ·intro w'
        go_simp
        with_reducible rfl
       rotate_left
       ·simp only [Act.put, List.setIfInBounds_toArray, List.set_cons_zero, List.set_cons_succ, i64_w, i32_w]
        rfl
       refine pure_ (i := 5) (N := some 36) (v := undef) (a' := ?_) #[true, true, true, true, true, true, false, false, false, false, false, false, false, false, false, false, false, false, false, false, false, false, false, false] rfl rfl (any_of HT_.out (by kernel_rfl)) (fun _ _ _ h => h) (Or.inr ⟨by rfl, rfl⟩) ?_ ?_
       rotate_left
       ·simp only [Act.put, List.setIfInBounds_toArray, List.set_cons_zero, List.set_cons_succ, i64_w, i32_w]
        rfl
       refine pure_ (i := 6) (N := some 37) (v := undef) (a' := ?_) #[true, true, true, true, true, true, true, false, false, false, false, false, false, false, false, false, false, false, false, false, false, false, false, false] rfl rfl (any_of HT_.out (by kernel_rfl)) (fun _ _ _ h => h) (Or.inr ⟨by rfl, rfl⟩) ?_ ?_
       rotate_left
       ·simp only [Act.put, List.setIfInBounds_toArray, List.set_cons_zero, List.set_cons_succ, i64_w, i32_w]
        rfl
       refine pure_ (i := 7) (N := some 38) (v := undef) (a' := ?_) #[true, true, true, true, true, true, true, true, false, false, false, false, false, false, false, false, false, false, false, false, false, false, false, false] rfl rfl (any_of HT_.out (by kernel_rfl)) (fun _ _ _ h => h) (Or.inr ⟨by rfl, rfl⟩) ?_ ?_
       rotate_left
       ·simp only [Act.put, List.setIfInBounds_toArray, List.set_cons_zero, List.set_cons_succ, i64_w, i32_w]
        rfl
       refine pure_ (i := 8) (N := some 39) (v := undef) (a' := ?_) #[true, true, true, true, true, true, true, true, true, false, false, false, false, false, false, false, false, false, false, false, false, false, false, false] rfl rfl (any_of HT_.out (by kernel_rfl)) (fun _ _ _ h => h) (Or.inr ⟨by rfl, rfl⟩) ?_ ?_
       rotate_left
       ·simp only [Act.put, List.setIfInBounds_toArray, List.set_cons_zero, List.set_cons_succ, i64_w, i32_w]
        rfl
       refine pure_ (i := 9) (N := some 40) (v := undef) (a' := ?_) #[true, true, true, true, true, true, true, true, true, true, false, false, false, false, false, false, false, false, false, false, false, false, false, false] rfl rfl (any_of HT_.out (by kernel_rfl)) (fun _ _ _ h => h) (Or.inr ⟨by rfl, rfl⟩) ?_ ?_
       rotate_left
       ·simp only [Act.put, List.setIfInBounds_toArray, List.set_cons_zero, List.set_cons_succ, i64_w, i32_w]
        rfl
       refine pure_ (i := 10) (N := some 41) (v := undef) (a' := ?_) #[true, true, true, true, true, true, true, true, true, true, true, false, false, false, false, false, false, false, false, false, false, false, false, false] rfl rfl (any_of HT_.out (by kernel_rfl)) (fun _ _ _ h => h) (Or.inr ⟨by rfl, rfl⟩) ?_ ?_
       rotate_left
       ·simp only [Act.put, List.setIfInBounds_toArray, List.set_cons_zero, List.set_cons_succ, i64_w, i32_w]
        rfl
       refine pure_ (i := 11) (N := some 42) (v := undef) (a' := ?_) #[true, true, true, true, true, true, true, true, true, true, true, true, false, false, false, false, false, false, false, false, false, false, false, false] rfl rfl (any_of HT_.out (by kernel_rfl)) (fun _ _ _ h => h) (Or.inr ⟨by rfl, rfl⟩) ?_ ?_
       rotate_left
       ·simp only [Act.put, List.setIfInBounds_toArray, List.set_cons_zero, List.set_cons_succ, i64_w, i32_w]
        rfl
       refine pure_ (i := 12) (N := some 43) (v := undef) (a' := ?_) #[true, true, true, true, true, true, true, true, true, true, true, true, true, false, false, false, false, false, false, false, false, false, false, false] rfl rfl (any_of HT_.out (by kernel_rfl)) (fun _ _ _ h => h) (Or.inr ⟨by rfl, rfl⟩) ?_ ?_
       rotate_left
       ·simp only [Act.put, List.setIfInBounds_toArray, List.set_cons_zero, List.set_cons_succ, i64_w, i32_w]
        rfl
       refine pure_ (i := 13) (N := some 44) (v := undef) (a' := ?_) #[true, true, true, true, true, true, true, true, true, true, true, true, true, true, false, false, false, false, false, false, false, false, false, false] rfl rfl (any_of HT_.out (by kernel_rfl)) (fun _ _ _ h => h) (Or.inr ⟨by rfl, rfl⟩) ?_ ?_
       rotate_left
       ·simp only [Act.put, List.setIfInBounds_toArray, List.set_cons_zero, List.set_cons_succ, i64_w, i32_w]
        rfl
       refine pure_ (i := 14) (N := some 45) (v := undef) (a' := ?_) #[true, true, true, true, true, true, true, true, true, true, true, true, true, true, true, false, false, false, false, false, false, false, false, false] rfl rfl (any_of HT_.out (by kernel_rfl)) (fun _ _ _ h => h) (Or.inr ⟨by rfl, rfl⟩) ?_ ?_
       rotate_left
       ·simp only [Act.put, List.setIfInBounds_toArray, List.set_cons_zero, List.set_cons_succ, i64_w, i32_w]
        rfl
       refine pure_ (i := 15) (N := some 46) (v := undef) (a' := ?_) #[true, true, true, true, true, true, true, true, true, true, true, true, true, true, true, true, false, false, false, false, false, false, false, false] rfl rfl (any_of HT_.out (by kernel_rfl)) (fun _ _ _ h => h) (Or.inr ⟨by rfl, rfl⟩) ?_ ?_
       rotate_left
       ·simp only [Act.put, List.setIfInBounds_toArray, List.set_cons_zero, List.set_cons_succ, i64_w, i32_w]
        rfl
       refine pure_ (i := 16) (N := some 47) (v := undef) (a' := ?_) #[true, true, true, true, true, true, true, true, true, true, true, true, true, true, true, true, true, false, false, false, false, false, false, false] rfl rfl (any_of HT_.out (by kernel_rfl)) (fun _ _ _ h => h) (Or.inr ⟨by rfl, rfl⟩) ?_ ?_
       rotate_left
       ·simp only [Act.put, List.setIfInBounds_toArray, List.set_cons_zero, List.set_cons_succ, i64_w, i32_w]
        rfl
       refine pure_ (i := 17) (N := some 48) (v := undef) (a' := ?_) #[true, true, true, true, true, true, true, true, true, true, true, true, true, true, true, true, true, true, false, false, false, false, false, false] rfl rfl (any_of HT_.out (by kernel_rfl)) (fun _ _ _ h => h) (Or.inr ⟨by rfl, rfl⟩) ?_ ?_
       rotate_left
       ·simp only [Act.put, List.setIfInBounds_toArray, List.set_cons_zero, List.set_cons_succ, i64_w, i32_w]
        rfl
       refine pure_ (i := 18) (N := some 49) (v := undef) (a' := ?_) #[true, true, true, true, true, true, true, true, true, true, true, true, true, true, true, true, true, true, true, false, false, false, false, false] rfl rfl (any_of HT_.out (by kernel_rfl)) (fun _ _ _ h => h) (Or.inr ⟨by rfl, rfl⟩) ?_ ?_
       rotate_left
       ·simp only [Act.put, List.setIfInBounds_toArray, List.set_cons_zero, List.set_cons_succ, i64_w, i32_w]
        rfl
       refine pure_ (i := 19) (N := some 50) (v := undef) (a' := ?_) #[true, true, true, true, true, true, true, true, true, true, true, true, true, true, true, true, true, true, true, true, false, false, false, false] rfl rfl (any_of HT_.out (by kernel_rfl)) (fun _ _ _ h => h) (Or.inr ⟨by rfl, rfl⟩) ?_ ?_
       rotate_left
       ·simp only [Act.put, List.setIfInBounds_toArray, List.set_cons_zero, List.set_cons_succ, i64_w, i32_w]
        rfl
       refine pure_ (i := 20) (N := some 51) (v := undef) (a' := ?_) #[true, true, true, true, true, true, true, true, true, true, true, true, true, true, true, true, true, true, true, true, true, false, false, false] rfl rfl (any_of HT_.out (by kernel_rfl)) (fun _ _ _ h => h) (Or.inr ⟨by rfl, rfl⟩) ?_ ?_
       rotate_left
       ·simp only [Act.put, List.setIfInBounds_toArray, List.set_cons_zero, List.set_cons_succ, i64_w, i32_w]
        rfl
       refine pure_ (i := 21) (N := some 52) (v := ?_) (a' := ?_) #[true, true, true, true, true, true, true, true, true, true, true, true, true, true, true, true, true, true, true, true, true, true, false, false] rfl rfl (any_of HT_.out (by kernel_rfl)) (fun _ _ _ h => h) (Or.inl ⟨by rfl, ?_⟩) ?_ ?_
       rotate_left
       ·intro w'
        go_simp
        with_reducible rfl
       rotate_left
       ·simp only [Act.put, List.setIfInBounds_toArray, List.set_cons_zero, List.set_cons_succ, i64_w, i32_w]
        rfl
       refine pure_ (i := 22) (N := some 53) (v := ?_) (a' := ?_) #[true, true, true, true, true, true, true, true, true, true, true, true, true, true, true, true, true, true, true, true, true, true, true, false] rfl rfl (any_of HT_.out (by kernel_rfl)) (fun _ _ _ h => h) (Or.inl ⟨by rfl, ?_⟩) ?_ ?_
       rotate_left
       ·intro w'
        go_simp
        with_reducible rfl
       rotate_left
       ·simp only [Act.put, List.setIfInBounds_toArray, List.set_cons_zero, List.set_cons_succ, i64_w, i32_w]
        rfl
       refine pure_ (i := 23) (N := some 6) (v := ?_) (a' := ?_) #[true, true, true, true, true, true, true, true, true, true, true, true, true, true, true, true, true, true, true, true, true, true, true, true] rfl rfl (any_of HT_.out (by kernel_rfl)) (fun _ _ _ h => h) (Or.inl ⟨by rfl, ?_⟩) ?_ ?_
       rotate_left
       ·intro w'
        go_simp
        with_reducible rfl
       rotate_left
       ·simp only [Act.put, List.setIfInBounds_toArray, List.set_cons_zero, List.set_cons_succ, i64_w, i32_w]
        rfl
       refine done_ (done_of HT_.out (by kernel_rfl)) ?_
       try go_wp2
       go_ret
       exact ⟨by first | rfl | (simp [errW_none, errW_some] <;> rfl) | (simp [*, errW_none, errW_some] <;> rfl), by repeat (first | (with_reducible first | exact HB.out | apply below_alloc | apply pw_below_drewN | apply below_drew1 | refine below_set ?_ GE229.out) | exact HB.out)⟩
     ·replace c24 := Bool.eq_false_iff.mpr c24
      subst c24
      have H1 : (some false) = some r := by rw [if_neg (show ¬ (false = true) by decide)] at H; exact H
      clear H
      have H := H1
      clear H1
      obtain rfl := Option.some.inj H
      try go_wp2
      have n0_ := Aside0.mk (blk_drew BK229.out)
      have n1_ := Aside0.mk (below_drew1 HB.out)
      clear BK229
      clear HB
      have BK229 := n0_
      have HB := n1_
      clear n0_ n1_
      refine start_ (n := 24) (S := fun w' => True) (ds := []) #[false, false, false, false, false, false, false, false, false, false, false, false, false, false, false, false, false, false, false, false, false, false, false, false] (by kernel_rfl) rfl rfl trivial (fun hHeld => ?_); refine with_tabW assartlaw07_TreeTells.tab7 assartlaw07_TreeTells.bits7 (fun HT_ HW_ => ?_)
      generalize wc.drew = w43 at BK229 HB hHeld ⊢
      refine pure_ (i := 0) (N := some 31) (v := ?_) (a' := ?_) #[true, false, false, false, false, false, false, false, false, false, false, false, false, false, false, false, false, false, false, false, false, false, false, false] rfl rfl (any_of HT_.out (by kernel_rfl)) (fun _ _ _ h => h) (Or.inl ⟨by rfl, ?_⟩) ?_ ?_
      rotate_left
      ·intro w'
       go_simp
       with_reducible rfl
      rotate_left
      ·simp only [Act.put, List.setIfInBounds_toArray, List.set_cons_zero, List.set_cons_succ, i64_w, i32_w]
       rfl
      refine pure_ (i := 1) (N := some 32) (v := ?_) (a' := ?_) #[true, true, false, false, false, false, false, false, false, false, false, false, false, false, false, false, false, false, false, false, false, false, false, false] rfl rfl (any_of HT_.out (by kernel_rfl)) (fun _ _ _ h => h) (Or.inl ⟨by rfl, ?_⟩) ?_ ?_
      rotate_left
      ·intro w'
       go_simp
       with_reducible rfl
      rotate_left
      ·simp only [Act.put, List.setIfInBounds_toArray, List.set_cons_zero, List.set_cons_succ, i64_w, i32_w]
       rfl
      refine pure_ (i := 2) (N := some 33) (v := undef) (a' := ?_) #[true, true, true, false, false, false, false, false, false, false, false, false, false, false, false, false, false, false, false, false, false, false, false, false] rfl rfl (any_of HT_.out (by kernel_rfl)) (fun _ _ _ h => h) (Or.inr ⟨by rfl, rfl⟩) ?_ ?_
      rotate_left
      ·simp only [Act.put, List.setIfInBounds_toArray, List.set_cons_zero, List.set_cons_succ, i64_w, i32_w]
       rfl
      refine pure_ (i := 3) (N := some 34) (v := undef) (a' := ?_) #[true, true, true, true, false, false, false, false, false, false, false, false, false, false, false, false, false, false, false, false, false, false, false, false] rfl rfl (any_of HT_.out (by kernel_rfl)) (fun _ _ _ h => h) (Or.inr ⟨by rfl, rfl⟩) ?_ ?_
      rotate_left
      ·simp only [Act.put, List.setIfInBounds_toArray, List.set_cons_zero, List.set_cons_succ, i64_w, i32_w]
       rfl
      refine pure_ (i := 4) (N := some 35) (v := undef) (a' := ?_) #[true, true, true, true, true, false, false, false, false, false, false, false, false, false, false, false, false, false, false, false, false, false, false, false] rfl rfl (any_of HT_.out (by kernel_rfl)) (fun _ _ _ h => h) (Or.inr ⟨by rfl, rfl⟩) ?_ ?_
      rotate_left
      ·simp only [Act.put, List.setIfInBounds_toArray, List.set_cons_zero, List.set_cons_succ, i64_w, i32_w]
       rfl
      refine pure_ (i := 5) (N := some 36) (v := undef) (a' := ?_) #[true, true, true, true, true, true, false, false, false, false, false, false, false, false, false, false, false, false, false, false, false, false, false, false] rfl rfl (any_of HT_.out (by kernel_rfl)) (fun _ _ _ h => h) (Or.inr ⟨by rfl, rfl⟩) ?_ ?_
      rotate_left
      ·simp only [Act.put, List.setIfInBounds_toArray, List.set_cons_zero, List.set_cons_succ, i64_w, i32_w]
       rfl
      refine pure_ (i := 6) (N := some 37) (v := undef) (a' := ?_) #[true, true, true, true, true, true, true, false, false, false, false, false, false, false, false, false, false, false, false, false, false, false, false, false] rfl rfl (any_of HT_.out (by kernel_rfl)) (fun _ _ _ h => h) (Or.inr ⟨by rfl, rfl⟩) ?_ ?_
      rotate_left
      ·simp only [Act.put, List.setIfInBounds_toArray, List.set_cons_zero, List.set_cons_succ, i64_w, i32_w]
       rfl
      refine pure_ (i := 7) (N := some 38) (v := undef) (a' := ?_) #[true, true, true, true, true, true, true, true, false, false, false, false, false, false, false, false, false, false, false, false, false, false, false, false] rfl rfl (any_of HT_.out (by kernel_rfl)) (fun _ _ _ h => h) (Or.inr ⟨by rfl, rfl⟩) ?_ ?_
      rotate_left
      ·simp only [Act.put, List.setIfInBounds_toArray, List.set_cons_zero, List.set_cons_succ, i64_w, i32_w]
       rfl
      refine pure_ (i := 8) (N := some 39) (v := undef) (a' := ?_) #[true, true, true, true, true, true, true, true, true, false, false, false, false, false, false, false, false, false, false, false, false, false, false, false] rfl rfl (any_of HT_.out (by kernel_rfl)) (fun _ _ _ h => h) (Or.inr ⟨by rfl, rfl⟩) ?_ ?_
      rotate_left
      ·simp only [Act.put, List.setIfInBounds_toArray, List.set_cons_zero, List.set_cons_succ, i64_w, i32_w]
       rfl
      refine pure_ (i := 9) (N := some 40) (v := undef) (a' := ?_) #[true, true, true, true, true, true, true, true, true, true, false, false, false, false, false, false, false, false, false, false, false, false, false, false] rfl rfl (any_of HT_.out (by kernel_rfl)) (fun _ _ _ h => h) (Or.inr ⟨by rfl, rfl⟩) ?_ ?_
      rotate_left
      ·simp only [Act.put, List.setIfInBounds_toArray, List.set_cons_zero, List.set_cons_succ, i64_w, i32_w]
       rfl
      refine pure_ (i := 10) (N := some 41) (v := undef) (a' := ?_) #[true, true, true, true, true, true, true, true, true, true, true, false, false, false, false, false, false, false, false, false, false, false, false, false] rfl rfl (any_of HT_.out (by kernel_rfl)) (fun _ _ _ h => h) (Or.inr ⟨by rfl, rfl⟩) ?_ ?_
      rotate_left
      ·simp only [Act.put, List.setIfInBounds_toArray, List.set_cons_zero, List.set_cons_succ, i64_w, i32_w]
       rfl
      refine pure_ (i := 11) (N := some 42) (v := undef) (a' := ?_) #[true, true, true, true, true, true, true, true, true, true, true, true, false, false, false, false, false, false, false, false, false, false, false, false] rfl rfl (any_of HT_.out (by kernel_rfl)) (fun _ _ _ h => h) (Or.inr ⟨by rfl, rfl⟩) ?_ ?_
      rotate_left
      ·simp only [Act.put, List.setIfInBounds_toArray, List.set_cons_zero, List.set_cons_succ, i64_w, i32_w]
       rfl
      refine pure_ (i := 12) (N := some 43) (v := undef) (a' := ?_) #[true, true, true, true, true, true, true, true, true, true, true, true, true, false, false, false, false, false, false, false, false, false, false, false] rfl rfl (any_of HT_.out (by kernel_rfl)) (fun _ _ _ h => h) (Or.inr ⟨by rfl, rfl⟩) ?_ ?_
      rotate_left
      ·simp only [Act.put, List.setIfInBounds_toArray, List.set_cons_zero, List.set_cons_succ, i64_w, i32_w]
       rfl
      refine pure_ (i := 13) (N := some 44) (v := undef) (a' := ?_) #[true, true, true, true, true, true, true, true, true, true, true, true, true, true, false, false, false, false, false, false, false, false, false, false] rfl rfl (any_of HT_.out (by kernel_rfl)) (fun _ _ _ h => h) (Or.inr ⟨by rfl, rfl⟩) ?_ ?_
      rotate_left
      ·simp only [Act.put, List.setIfInBounds_toArray, List.set_cons_zero, List.set_cons_succ, i64_w, i32_w]
       rfl
      refine pure_ (i := 14) (N := some 45) (v := undef) (a' := ?_) #[true, true, true, true, true, true, true, true, true, true, true, true, true, true, true, false, false, false, false, false, false, false, false, false] rfl rfl (any_of HT_.out (by kernel_rfl)) (fun _ _ _ h => h) (Or.inr ⟨by rfl, rfl⟩) ?_ ?_
      rotate_left
      ·simp only [Act.put, List.setIfInBounds_toArray, List.set_cons_zero, List.set_cons_succ, i64_w, i32_w]
       rfl
      refine pure_ (i := 15) (N := some 46) (v := undef) (a' := ?_) #[true, true, true, true, true, true, true, true, true, true, true, true, true, true, true, true, false, false, false, false, false, false, false, false] rfl rfl (any_of HT_.out (by kernel_rfl)) (fun _ _ _ h => h) (Or.inr ⟨by rfl, rfl⟩) ?_ ?_
      rotate_left
      ·simp only [Act.put, List.setIfInBounds_toArray, List.set_cons_zero, List.set_cons_succ, i64_w, i32_w]
       rfl
      refine pure_ (i := 16) (N := some 47) (v := undef) (a' := ?_) #[true, true, true, true, true, true, true, true, true, true, true, true, true, true, true, true, true, false, false, false, false, false, false, false] rfl rfl (any_of HT_.out (by kernel_rfl)) (fun _ _ _ h => h) (Or.inr ⟨by rfl, rfl⟩) ?_ ?_
      rotate_left
      ·simp only [Act.put, List.setIfInBounds_toArray, List.set_cons_zero, List.set_cons_succ, i64_w, i32_w]
       rfl
      refine pure_ (i := 17) (N := some 48) (v := undef) (a' := ?_) #[true, true, true, true, true, true, true, true, true, true, true, true, true, true, true, true, true, true, false, false, false, false, false, false] rfl rfl (any_of HT_.out (by kernel_rfl)) (fun _ _ _ h => h) (Or.inr ⟨by rfl, rfl⟩) ?_ ?_
      rotate_left
      ·simp only [Act.put, List.setIfInBounds_toArray, List.set_cons_zero, List.set_cons_succ, i64_w, i32_w]
       rfl
      refine pure_ (i := 18) (N := some 49) (v := undef) (a' := ?_) #[true, true, true, true, true, true, true, true, true, true, true, true, true, true, true, true, true, true, true, false, false, false, false, false] rfl rfl (any_of HT_.out (by kernel_rfl)) (fun _ _ _ h => h) (Or.inr ⟨by rfl, rfl⟩) ?_ ?_
      rotate_left
      ·simp only [Act.put, List.setIfInBounds_toArray, List.set_cons_zero, List.set_cons_succ, i64_w, i32_w]
       rfl
      refine pure_ (i := 19) (N := some 50) (v := undef) (a' := ?_) #[true, true, true, true, true, true, true, true, true, true, true, true, true, true, true, true, true, true, true, true, false, false, false, false] rfl rfl (any_of HT_.out (by kernel_rfl)) (fun _ _ _ h => h) (Or.inr ⟨by rfl, rfl⟩) ?_ ?_
      rotate_left
      ·simp only [Act.put, List.setIfInBounds_toArray, List.set_cons_zero, List.set_cons_succ, i64_w, i32_w]
       rfl
      refine pure_ (i := 20) (N := some 51) (v := undef) (a' := ?_) #[true, true, true, true, true, true, true, true, true, true, true, true, true, true, true, true, true, true, true, true, true, false, false, false] rfl rfl (any_of HT_.out (by kernel_rfl)) (fun _ _ _ h => h) (Or.inr ⟨by rfl, rfl⟩) ?_ ?_
      rotate_left
      ·simp only [Act.put, List.setIfInBounds_toArray, List.set_cons_zero, List.set_cons_succ, i64_w, i32_w]
       rfl
      refine pure_ (i := 21) (N := some 52) (v := undef) (a' := ?_) #[true, true, true, true, true, true, true, true, true, true, true, true, true, true, true, true, true, true, true, true, true, true, false, false] rfl rfl (any_of HT_.out (by kernel_rfl)) (fun _ _ _ h => h) (Or.inr ⟨by rfl, rfl⟩) ?_ ?_
      rotate_left
      ·simp only [Act.put, List.setIfInBounds_toArray, List.set_cons_zero, List.set_cons_succ, i64_w, i32_w]
       rfl
      refine pure_ (i := 22) (N := some 53) (v := ?_) (a' := ?_) #[true, true, true, true, true, true, true, true, true, true, true, true, true, true, true, true, true, true, true, true, true, true, true, false] rfl rfl (any_of HT_.out (by kernel_rfl)) (fun _ _ _ h => h) (Or.inl ⟨by rfl, ?_⟩) ?_ ?_
      rotate_left
      ·intro w'
       go_simp
       with_reducible rfl
      rotate_left
      ·simp only [Act.put, List.setIfInBounds_toArray, List.set_cons_zero, List.set_cons_succ, i64_w, i32_w]
       rfl
      refine pure_ (i := 23) (N := some 6) (v := ?_) (a' := ?_) #[true, true, true, true, true, true, true, true, true, true, true, true, true, true, true, true, true, true, true, true, true, true, true, true] rfl rfl (any_of HT_.out (by kernel_rfl)) (fun _ _ _ h => h) (Or.inl ⟨by rfl, ?_⟩) ?_ ?_
      rotate_left
      ·intro w'
       go_simp
       with_reducible rfl
      rotate_left
      ·simp only [Act.put, List.setIfInBounds_toArray, List.set_cons_zero, List.set_cons_succ, i64_w, i32_w]
       rfl
      refine done_ (done_of HT_.out (by kernel_rfl)) ?_
      try go_wp2
      go_ret
      exact ⟨by first | rfl | (simp [errW_none, errW_some] <;> rfl) | (simp [*, errW_none, errW_some] <;> rfl), by repeat (first | (with_reducible first | exact HB.out | apply below_alloc | apply pw_below_drewN | apply below_drew1 | refine below_set ?_ GE229.out) | exact HB.out)⟩
 ·replace c6 := Bool.eq_false_iff.mpr c6
  subst c6
  have H1 : (some t230) = some r := by rw [if_neg (show ¬ (false = true) by decide)] at H; exact H
  clear H
  have H := H1
  clear H1
  obtain rfl := Option.some.inj H
  go_enter Try.func3, Try.ntmps3
  go_wp2_with (first | ((with_reducible refine gate_dst (N := 3) rfl ?_); refine box_event ?hg (N := 3) ?hd (cs := #[.slice A0_0 l0_0.length c0_0, .int .i64 a0_1]) (t := 24) ?hr ?_; (case hd => rfl); (case hg => rfl); (case hr => first | (go_simp; done) | (go_simp; rfl)); intro gb229 hg w44 hbox hb; have n0_ := Aside0.mk (below_step (by repeat (first | (with_reducible first | exact HB.out | apply below_alloc | apply pw_below_drewN | apply below_drew1) | exact HB.out)) hb); have n1_ := Aside0.mk (hbox); have n2_ := Aside0.mk ((by rw [hg]; exact (below_size (by repeat (first | (with_reducible first | exact HB.out | apply below_alloc | apply pw_below_drewN | apply below_drew1) | exact HB.out))) : w.heap.size ≤ gb229)); have n3_ := Aside0.mk ((by rw [hg]; exact (below_size (by repeat (first | (with_reducible first | exact HB.out | apply below_alloc | apply pw_below_drewN | apply below_drew1) | exact HB.out))) : w.heap.size ≤ gb229)); clear HB; have HB := n0_; have BK229 := n1_; have GW229 := n2_; have GE229 := n3_; clear n0_ n1_ n2_ n3_; clear hb hbox hg) | ((with_reducible refine gate_callee (f := 15) rfl ?_); refine goesL_ (some 9) rfl rfl Try.func15 (by kernel_rfl) rfl #[] rfl (by (try simp only [List.map_toArray, List.map_cons, List.map_nil]); first | done | rfl | (simp only [List.length_drop, List.length_take]; rfl)) ?_; (with_reducible refine (assartlaw07_shown.calls  t230 _ A4.out).mono ?_); rintro e w45 ⟨rfl, hb⟩; refine ⟨_, rfl, ?_⟩; have n0_ := Aside0.mk (blk_below (g := gb229) (o := .cells #[.slice A0_0 l0_0.length c0_0, .int .i64 a0_1] 24 (0, 0)) (by (with_reducible repeat (first | refine blk_drewN ?_ _ | refine blk_drew ?_ | refine blk_alloc ?_ _)); exact BK229.out) hb); have n1_ := Aside0.mk (below_step (by repeat (first | (with_reducible first | exact HB.out | apply below_alloc | apply pw_below_drewN | apply below_drew1 | refine below_set ?_ GE229.out) | exact HB.out)) hb); clear BK229; clear HB; have BK229 := n0_; have HB := n1_; clear n0_ n1_; (try clear hb); (try clear hb2); (try clear hk); (try clear hi); have hcz46_0 : w45.cell? ⟨gb229, 0, none⟩ = some (.slice A0_0 l0_0.length c0_0) := (blk_cell BK229.out 0).trans rfl; have hcz46_1 : w45.cell? ⟨gb229, 1, none⟩ = some (.int .i64 a0_1) := (blk_cell BK229.out 1).trans rfl; have hfz46_0 := blk_frozen BK229.out 0; have hfz46_1 := blk_frozen BK229.out 1) | ((with_reducible refine gate_callee (f := 16) rfl ?_); refine goesL_ (some 11) rfl rfl Try.func16 (by kernel_rfl) rfl #[.agg #[.slice A0_0 l0_0.length c0_0, .int .i64 a0_1], .int .i64 60] rfl (by (try simp only [List.map_toArray, List.map_cons, List.map_nil]); first | done | rfl | (simp only [List.length_drop, List.length_take]; rfl)) ?_; (with_reducible refine (assartref05_May.calls k _ _ l0_0 a0_1 60 false _ ?side1 ?side2 A5.out).mono ?_); (case side1 => repeat (first | exact (Kd.C_below HR0_0.out HB.out) | (with_reducible refine Kd.C_alloc ?_ _) | (with_reducible refine Kd.C_drewN ?_ _) | (with_reducible refine Kd.C_drew ?_))); (case side2 => exact HC0_0.out); rintro e w47 ⟨rfl, hb⟩; refine ⟨_, rfl, ?_⟩; have n0_ := Aside0.mk (blk_below (g := gb229) (o := .cells #[.slice A0_0 l0_0.length c0_0, .int .i64 a0_1] 24 (0, 0)) (by (with_reducible repeat (first | refine blk_drewN ?_ _ | refine blk_drew ?_ | refine blk_alloc ?_ _)); exact BK229.out) hb); have n1_ := Aside0.mk (below_step (by repeat (first | (with_reducible first | exact HB.out | apply below_alloc | apply pw_below_drewN | apply below_drew1 | refine below_set ?_ GE229.out) | exact HB.out)) hb); clear BK229; clear HB; have BK229 := n0_; have HB := n1_; clear n0_ n1_; (try clear hb); (try clear hb2); (try clear hk); (try clear hi)))
  go_ret
  exact ⟨by first | rfl | (simp [errW_none, errW_some] <;> rfl) | (simp [*, errW_none, errW_some] <;> rfl), by repeat (first | (with_reducible first | exact HB.out | apply below_alloc | apply pw_below_drewN | apply below_drew1 | refine below_set ?_ GE229.out) | exact HB.out)⟩
end Go.Proofs.Yteiladccdenpbaa.P
end
section
namespace Go.Proofs.Yteiladccdenpbaa.P
open Go.RowKit Go.Proofs.YteiladccdenpbaaW.PrintWords Go.Proofs.YteiladccdenpbaaW.PrintLast Go.Proofs.YteiladccdenpbaaW.PrintMore
set_option linter.unusedVariables false
set_option linter.unusedSimpArgs false
structure Opens {α : Type} (P : Program) (t : TypeId) (d : Kd α) (ok : α → Prop) : Prop where
  sz : P.cellsOf t = d.sz
  op : ∀ {H : Type} {enc : TypeId × Value → H} {W : World} {base : Nat} {spare : Nat → Bool} {held : Bool} {fuel : Nat} {cs : List Value} {y : DataW H × List MemPlace}, DataW.trod enc P W base spare held fuel t cs = some y → (DataW.weights P t y.1).all (· ≤ reachBytes) = true → ∃ x, d.K W x cs ∧ ok x
theorem Opens.int {P : Program} {t : TypeId} {k : IntKind} (h : P.underlying t = some (.int k)) (hs : P.cellsOf t = 1) : Opens P t (Kd.int k) (fun n => (Lit.int k n).wf = true) :=
  ⟨hs, fun hy _ => by
    obtain ⟨n, rfl, _, hw⟩ := DataW.trod_int h hy
    exact ⟨n, rfl, hw⟩⟩
theorem Opens.bool {P : Program} {t : TypeId} (h : P.underlying t = some .bool) (hs : P.cellsOf t = 1) : Opens P t Kd.bool (fun _ => True) :=
  ⟨hs, fun hy _ => by
    obtain ⟨b, rfl, _⟩ := DataW.trod_bool h hy
    exact ⟨b, rfl, trivial⟩⟩
theorem choose_row {α : Type} {R : Nat → α → Prop} : ∀ n, (∀ i, i < n → ∃ x, R i x) → ∃ xs : List α, xs.length = n ∧ ∀ i x, xs[i]? = some x → R i x
  | 0, _ => ⟨[], rfl, fun i x h => by simp at h⟩
  | n + 1, h => by
    obtain ⟨xs, hl, hx⟩ := choose_row n (fun i hi => h i (by omega))
    obtain ⟨x, hr⟩ := h n (by omega)
    refine ⟨xs ++ [x], by simp [hl], fun i z hz => ?_⟩
    by_cases hi : i < n
    · rw [List.getElem?_append_left (by omega)] at hz
      exact hx i z hz
    · rw [List.getElem?_append_right (by omega)] at hz
      have : i - xs.length = 0 := by
        rcases Nat.eq_zero_or_pos (i - xs.length) with h0 | h0
        · exact h0
        · rw [List.getElem?_eq_none (by simp; omega)] at hz; cases hz
      rw [this] at hz
      simp at hz
      subst hz
      have : i = n := by omega
      rw [this]; exact hr
theorem weightsAll_mem {H : Type} {P : Program} {e : TypeId} : ∀ {ds : List (DataW H)}, (DataW.weightsAll P e ds).all (· ≤ reachBytes) = true → ∀ d ∈ ds, (DataW.weights P e d).all (· ≤ reachBytes) = true
  | [], _, d, hd => by cases hd
  | a :: ds, h, d, hd => by
    simp only [DataW.weightsAll, List.all_append, Bool.and_eq_true] at h
    rcases List.mem_cons.1 hd with rfl | hd
    · exact h.1
    · exact weightsAll_mem h.2 d hd
theorem Opens.slice {α : Type} {P : Program} {t e : TypeId} {d : Kd α} {ok : α → Prop} {B : Nat} (h : P.underlying t = some (.slice e)) (hs : P.cellsOf t = 1) (hB : P.bytesOf e = B) (he : Opens P e d ok) : Opens P t (Kd.slice e d) (fun xs => xs.length * B ≤ 140737488351232 ∧ ∀ x ∈ xs, ok x) :=
  ⟨hs, fun {H enc W base spare held fuel cs y} hy hw => by
    rcases DataW.trod_slice h hy with ⟨rfl, rfl⟩ | ⟨a, len, cap, elems, rest, n, rfl, rfl, rfl, hb, hl, hc, hel, hi, _, _⟩
    · exact ⟨[], ⟨none, 0, rfl, Nat.le_refl _, Kd.C_nil _ _⟩, by simp⟩
    · unfold DataW.weights at hw
      rw [h] at hw
      simp only [List.all_cons, List.all_append, Bool.and_eq_true, decide_eq_true_eq, hB, List.length_map] at hw
      obtain ⟨hw0, hw1, _⟩ := hw
      have hx : ∀ i, i < len → ∃ x, ok x ∧ ∃ c, c.length = d.sz ∧ d.K W x c ∧ W.cells? base (a.add (i * d.sz)) d.sz = some c := by
        intro i hlt
        have h1 := hi i hlt
        rw [List.getElem?_eq_getElem (by omega)] at h1
        obtain ⟨c, hc1, hc2⟩ := Option.bind_eq_some_iff.1 h1
        obtain ⟨x, hK, hok⟩ := he.op hc2 (weightsAll_mem hw1 _ (List.mem_map_of_mem (List.getElem_mem _)))
        rw [he.sz] at hc1
        exact ⟨x, hok, c, d.K_len hK, hK, hc1⟩
      obtain ⟨xs, hxl, hxs⟩ := choose_row len hx
      refine ⟨xs, ⟨some a, cap, by rw [hxl], by omega, rfl, ?_, fun hpos => ⟨a, rfl, fun j p hj => ?_⟩⟩, ?_, ?_⟩
      · simp only [maxLen] at hc; omega
      · obtain ⟨_, c, hcl, hK, hcc⟩ := hxs j p hj
        refine ⟨c, hcl, hK, fun i u hu => ?_⟩
        obtain ⟨_, _, hcell⟩ := World.cells?_some hcc
        have hi : i < d.sz := by rw [← hcl]; exact (List.getElem?_eq_some_iff.1 hu).1
        have := hcell i hi
        rw [Addr.add_add] at this
        rw [this, hu]
      · rw [hxl, ← hel]
        refine Nat.le_trans (Nat.mul_le_mul_right _ (Nat.le_add_right _ _)) hw0
      · intro x hx
        obtain ⟨i, hlt, rfl⟩ := List.getElem_of_mem hx
        exact (hxs i _ (List.getElem?_eq_getElem hlt)).1⟩
theorem weights_at {H : Type} {P : Program} : ∀ {ts : List TypeId} {ds : List (DataW H)} {j : Nat} {t : TypeId} {d : DataW H}, (DataW.weightsEach P ts ds).all (· ≤ reachBytes) = true → ts[j]? = some t → ds[j]? = some d → (DataW.weights P t d).all (· ≤ reachBytes) = true
  | [], _, _, _, _, _, ht, _ => by simp at ht
  | _ :: _, [], _, _, _, _, _, hd => by simp at hd
  | t0 :: ts, d0 :: ds, 0, _, _, h, ht, hd => by
    simp only [List.getElem?_cons_zero, Option.some.injEq] at ht hd
    subst ht; subst hd
    simp only [DataW.weightsEach, List.all_append, Bool.and_eq_true] at h
    exact h.1
  | t0 :: ts, d0 :: ds, j + 1, _, _, h, ht, hd => by
    simp only [List.getElem?_cons_succ] at ht hd
    simp only [DataW.weightsEach, List.all_append, Bool.and_eq_true] at h
    exact weights_at h.2 ht hd
structure OpensFs {α : Type} (P : Program) (fs : List Field) (off : Nat) (d : Kd α) (ok : α → Prop) : Prop where
  op : ∀ {H : Type} {enc : TypeId × Value → H} {W : World} {base : Nat} {spare : Nat → Bool} {held : Bool} {fuel : Nat} {cs : List Value} {ys : List (DataW H × List MemPlace)},
    (∀ (i : Nat) (f : Field), fs[i]? = some f → DataW.trod enc P W base spare held fuel f.type ((cs.drop f.offset).take (P.cellsOf f.type)) = ys[i]?) → ys.length = fs.length →
    (DataW.weightsEach P (fs.map (·.type)) (ys.map (·.1))).all (· ≤ reachBytes) = true → cs.length = off + d.sz → ∃ x, d.K W x (cs.drop off) ∧ ok x
theorem OpensFs.one {α : Type} {P : Program} {f : Field} {t : TypeId} {off : Nat} {d : Kd α} {ok : α → Prop} (ht : f.type = t) (hoff : f.offset = off) (h : Opens P t d ok) : OpensFs P [f] off d ok :=
  ⟨fun {H enc W base spare held fuel cs ys} hy hl hw hcs => by
    obtain ⟨y, rfl⟩ : ∃ y, ys = [y] := by
      cases ys with
      | nil => simp at hl
      | cons y ys => cases ys with
        | nil => exact ⟨y, rfl⟩
        | cons => simp at hl
    have h0 := hy 0 f rfl
    simp only [List.getElem?_cons_zero] at h0
    simp only [List.map_cons, List.map_nil, DataW.weightsEach, List.append_nil] at hw
    rw [ht] at h0 hw
    obtain ⟨x, hK, hok⟩ := h.op h0 hw
    rw [hoff, List.take_of_length_le (by rw [List.length_drop, h.sz]; omega)] at hK
    exact ⟨x, hK, hok⟩⟩
theorem OpensFs.cons {α β : Type} {P : Program} {f : Field} {fs : List Field} {t : TypeId} {off n : Nat} {d : Kd α} {d' : Kd β} {ok : α → Prop} {ok' : β → Prop} (ht : f.type = t) (hoff : f.offset = off) (h : Opens P t d ok) (hn : off + d.sz = n) (hr : OpensFs P fs n d' ok') :
    OpensFs P (f :: fs) off (Kd.pair d d') (fun x => ok x.1 ∧ ok' x.2) :=
  ⟨fun {H enc W base spare held fuel cs ys} hy hl hw hcs => by
    cases ys with
    | nil => simp at hl
    | cons y ys =>
      have h0 := hy 0 f rfl
      simp only [List.getElem?_cons_zero] at h0
      simp only [List.map_cons, DataW.weightsEach, List.all_append, Bool.and_eq_true] at hw
      have hw0 := hw.1
      rw [ht] at h0 hw0
      obtain ⟨x, hK, hok⟩ := h.op h0 hw0
      have hsz : (Kd.pair d d').sz = d.sz + d'.sz := rfl
      rw [hsz] at hcs
      obtain ⟨x', hK', hok'⟩ := hr.op (fun i g hg => hy (i + 1) g (by simpa using hg)) (by simpa using hl) hw.2 (by omega)
      refine ⟨(x, x'), ⟨_, _, ?_, hK, hK'⟩, hok, hok'⟩
      rw [hoff, h.sz, ← hn, ← List.drop_drop]
      exact (List.take_append_drop _ _).symm⟩
theorem Opens.struct {α β : Type} {P : Program} {t : TypeId} {fs : Array Field} {fl : List Field} {d : Kd α} {ok : α → Prop} (f : β → α) (g : α → β) (hfg : ∀ x, f (g x) = x) (h : P.underlying t = some (.struct fs)) (hfl : fs.toList = fl) (hs : P.cellsOf t = d.sz) (ho : OpensFs P fl 0 d ok) :
    Opens P t (Kd.iso d f) (fun x => ok (f x)) :=
  ⟨hs, fun {H enc W base spare held fuel cs y} hy hw => by
    obtain ⟨xs, n, rfl, rfl, hcl, hxl, hx⟩ := DataW.trod_struct h hy
    unfold DataW.weights at hw
    rw [h] at hw
    simp only [hfl] at hw
    subst hfl
    obtain ⟨x, hK, hok⟩ := ho.op (ys := xs) (fun i f hf => hx i f (by simpa using hf)) (by simpa using hxl) hw (by omega)
    rw [List.drop_zero] at hK
    refine ⟨g x, ?_, ?_⟩
    · show d.K W (f (g x)) cs
      rw [hfg]; exact hK
    · rw [hfg]; exact hok⟩
end Go.Proofs.Yteiladccdenpbaa.P
end
section
namespace Go.Proofs.Yteiladccdenpbaa.P
open Go.RowKit Go.Proofs.YteiladccdenpbaaW.PrintWords Go.Proofs.YteiladccdenpbaaW.PrintLast Go.Proofs.YteiladccdenpbaaW.PrintMore
attribute [local go_sem] max2_int min2_int max_two min_two max_three min_three max_four min_four
set_option linter.unusedVariables false
set_option linter.unusedSimpArgs false
def ok49 (x : S49) : Prop := (fun x => (Lit.int .i64 x).wf = true) x.f0 ∧ (fun x => (Lit.int .i64 x).wf = true) x.f1
theorem opens49 : Opens Try.prog 49 k49 ok49 := Opens.struct (fs := _) (fun x : S49 => (x.f0, x.f1)) (fun p => ⟨p.1, p.2⟩) (fun _ => rfl) Try.underlying49 rfl (by kernel_rfl) (OpensFs.cons rfl rfl (Opens.int Try.underlying3 (by kernel_rfl)) rfl (OpensFs.one rfl rfl (Opens.int Try.underlying3 (by kernel_rfl))))
def ok53 (x : S53) : Prop := (fun x => True) x.f0 ∧ (fun x => x.length * 16 ≤ 140737488351232 ∧ ∀ y ∈ x, (ok49) y) x.f1
theorem opens53 : Opens Try.prog 53 k53 ok53 := Opens.struct (fs := _) (fun x : S53 => (x.f0, x.f1)) (fun p => ⟨p.1, p.2⟩) (fun _ => rfl) Try.underlying53 rfl (by kernel_rfl) (OpensFs.cons rfl rfl (Opens.bool Try.underlying4 (by kernel_rfl)) rfl (OpensFs.one rfl rfl (Opens.slice (B := 16) Try.underlying43 (by kernel_rfl) (by kernel_rfl) opens49)))
def ok55 (x : S55) : Prop := (fun x => (Lit.int .i64 x).wf = true) x.f0 ∧ (fun x => True) x.f1 ∧ (ok53) x.f2
theorem opens55 : Opens Try.prog 55 k55 ok55 := Opens.struct (fs := _) (fun x : S55 => (x.f0, x.f1, x.f2)) (fun p => ⟨p.1, p.2.1, p.2.2⟩) (fun _ => rfl) Try.underlying55 rfl (by kernel_rfl) (OpensFs.cons rfl rfl (Opens.int Try.underlying3 (by kernel_rfl)) rfl (OpensFs.cons rfl rfl (Opens.bool Try.underlying4 (by kernel_rfl)) rfl (OpensFs.one rfl rfl opens53)))
def assartlaw07_TreeTells.QPure : Prop := ∀ (l0_0 : List (S55)) (a0_1 : Int) (a1 : Int) (a2 : Int), (l0_0.length * 48 ≤ 140737488351232 ∧ ∀ x ∈ l0_0, ok55 x) → ((Lit.int .i64 a0_1).wf = true) → ((Lit.int .i64 a1).wf = true) → ((Lit.int .u16 a2).wf = true) → ∃ k, assartlaw07_TreeTells.f k l0_0 a0_1 a1 a2 = some true
end Go.Proofs.Yteiladccdenpbaa.P
end
section
namespace Go.Proofs.Yteiladccdenpbaa.P
open Go.RowKit Go.Proofs.YteiladccdenpbaaW.PrintWords Go.Proofs.YteiladccdenpbaaW.PrintLast Go.Proofs.YteiladccdenpbaaW.PrintMore
attribute [local go_sem] max2_int min2_int max_two min_two max_three min_three max_four min_four
set_option linter.unusedVariables false
set_option linter.unusedSimpArgs false
theorem eqA49 (d : Nat) (w : World) (x0 y0 : Int) (x1 y1 : Int) :
  (Op.equalIn (d + 2) 49 (.agg #[.int .i64 x0, .int .i64 x1]) (.agg #[.int .i64 y0, .int .i64 y1])).run Try.prog w = .ok (x0 == y0 && (x1 == y1)) w := by
 refine eqA_of Try.underlying49 (by kernel_rfl) ?_
 refine eqf_cons (by rfl) (by go_simp; rfl) (by go_simp; rfl) (by go_simp) ?_
 exact eqf_last (by rfl) (by go_simp; rfl) (by go_simp; rfl) (by go_simp)
end Go.Proofs.Yteiladccdenpbaa.P
end
section
namespace Go.Proofs.Yteiladccdenpbaa.P
open Go.RowKit Go.Proofs.YteiladccdenpbaaW.PrintWords Go.Proofs.YteiladccdenpbaaW.PrintLast Go.Proofs.YteiladccdenpbaaW.PrintMore
set_option linter.unusedVariables false
set_option linter.unusedSimpArgs false
instance decS49 : DecidableEq S49 := fun x y =>
  if h : x.f0 = y.f0 ∧ x.f1 = y.f1 then isTrue (by cases x; cases y; simp at h; simp [h]) else isFalse (fun e => h (by rw [e]; exact ⟨rfl, rfl⟩))
abbrev kAt (l : List S49) (i : Nat) : Int := (rd_T49 l (i : Nat)).f0
abbrev vAt (l : List S49) (i : Nat) : Int := (rd_T49 l (i : Nat)).f1
theorem rd_eq (l : List S49) (i : Nat) (h : i < l.length) : rd_T49 l (i : Nat) = l[i] := by simp [rd_T49, h]
theorem wsucc (j : Nat) (h : j < 2000000) : wrap64 ((j : Int) + 1) = ((j + 1 : Nat) : Int) := by unfold wrap64; omega
theorem wpred (j : Nat) (h0 : 0 < j) (h : j < 2000000) : wrap64 ((j : Int) - 1) = ((j - 1 : Nat) : Int) := by unfold wrap64; omega
def okAt (l : List S49) (i : Nat) : Prop := 0 ≤ kAt l i ∧ kAt l i ≤ 2147483647 ∧ 0 ≤ vAt l i ∧ vAt l i ≤ 2147483647 ∧ (0 < i → kAt l (i - 1) < kAt l i)
instance (l : List S49) (i : Nat) : Decidable (okAt l i) := by unfold okAt; infer_instance
def okFrom (l : List S49) (j : Nat) : Prop := ∀ i, i < l.length → j ≤ i → okAt l i
instance (l : List S49) (j : Nat) : Decidable (okFrom l j) := by unfold okFrom; infer_instance
theorem okFrom_end (l : List S49) : okFrom l l.length := fun i h1 h2 => by omega
theorem okFrom_step {l : List S49} {j : Nat} (h : j < l.length) : okFrom l j ↔ okAt l j ∧ okFrom l (j + 1) :=
  ⟨fun hh => ⟨hh j h (Nat.le_refl _), fun i h1 h2 => hh i h1 (by omega)⟩, fun ⟨h1, h2⟩ i hi hj => by
    by_cases e : i = j
    · subst e; exact h1
    · exact h2 i hi (by omega)⟩
theorem okFrom_dec {l : List S49} {j : Nat} (h : j < l.length) : decide (okFrom l j) = (decide (okAt l j) && decide (okFrom l (j + 1))) := by
  rw [← Bool.decide_and, decide_eq_decide]
  exact okFrom_step h
def RtN (l : List S49) : Prop := 1 ≤ l.length ∧ l.length ≤ 4 ∧ okFrom l 0
instance (l : List S49) : Decidable (RtN l) := by unfold RtN; infer_instance
theorem refRight04_l0 (leaf : Bool) (l : List S49) (hl : l.length ≤ 1000) : ∀ (d k j : Nat), j + d = l.length → d < k → assartref04_Right.l0 k (j : Int) leaf l = some (decide (okFrom l j)) := by
  intro d
  induction d with
  | zero =>
    intro k j hj hk
    obtain ⟨k, rfl⟩ : ∃ m, k = m + 1 := ⟨k - 1, by omega⟩
    obtain rfl : j = l.length := by omega
    simp only [assartref04_Right.l0]
    rw [if_neg (by omega), decide_eq_true (okFrom_end l)]
  | succ d ih =>
    intro k j hj hk
    obtain ⟨k, rfl⟩ : ∃ m, k = m + 1 := ⟨k - 1, by omega⟩
    have hlt : j < l.length := by omega
    have ih' := ih k (j + 1) (by omega) (by omega)
    simp only [assartref04_Right.l0]
    rw [okFrom_dec hlt, if_pos (by omega), if_pos (by omega), wsucc j (by omega), ih']
    by_cases h1 : kAt l j < 0
    · rw [if_pos h1, decide_eq_false (fun h : okAt l j => by have := h.1; omega), Bool.false_and]
    by_cases h2 : kAt l j > 2147483647
    · rw [if_neg h1, if_pos h2, decide_eq_false (fun h : okAt l j => by have := h.2.1; omega), Bool.false_and]
    by_cases h3 : vAt l j < 0
    · rw [if_neg h1, if_neg h2, if_pos h3, decide_eq_false (fun h : okAt l j => by have := h.2.2.1; omega), Bool.false_and]
    by_cases h4 : vAt l j > 2147483647
    · rw [if_neg h1, if_neg h2, if_neg h3, if_pos h4, decide_eq_false (fun h : okAt l j => by have := h.2.2.2.1; omega), Bool.false_and]
    rw [if_neg h1, if_neg h2, if_neg h3, if_neg h4]
    by_cases h5 : j = 0
    · subst h5
      rw [if_neg (by simp), decide_eq_true (show okAt l 0 from ⟨by omega, by omega, by omega, by omega, fun h => absurd h (by omega)⟩), Bool.true_and]
    · rw [if_pos (by omega), wpred j (by omega) (by omega), if_pos (by omega), if_pos (by omega)]
      by_cases h6 : kAt l (j - 1) ≥ kAt l j
      · rw [if_pos h6, decide_eq_false (fun h : okAt l j => by have := h.2.2.2.2 (by omega); omega), Bool.false_and]
      · rw [if_neg h6, decide_eq_true (show okAt l j from ⟨by omega, by omega, by omega, by omega, fun _ => by omega⟩), Bool.true_and]
theorem refRight04_val (leaf : Bool) (l : List S49) (k : Nat) (hk : 2 + l.length ≤ k ∨ 6 ≤ k) : assartref04_Right.f k leaf l = some (decide (RtN l)) := by
  unfold assartref04_Right.f
  obtain ⟨k, rfl⟩ : ∃ m, k = m + 1 := ⟨k - 1, by omega⟩
  by_cases h1 : l.length < 1
  · rw [if_pos (by omega)]
    simp only [assartref04_Right.j0]
    rw [if_pos trivial, decide_eq_false (fun h : RtN l => by have := h.1; omega)]
  · rw [if_neg (by omega)]
    simp only [assartref04_Right.j0]
    by_cases h4 : l.length ≤ 4
    · rw [decide_eq_false (show ¬ (l.length : Int) > 4 by omega), if_neg (by simp)]
      have := refRight04_l0 leaf l (by omega) l.length k 0 (by omega) (by omega)
      rw [show ((0 : Nat) : Int) = 0 from rfl] at this
      rw [this]
      congr 1
      rw [decide_eq_decide]
      exact ⟨fun h => ⟨by omega, h4, h⟩, fun h => h.2.2⟩
    · rw [decide_eq_true (show (l.length : Int) > 4 by omega), if_pos rfl, decide_eq_false (fun h : RtN l => h4 h.2.1)]
theorem rising_of {l : List S49} (h : RtN l) : rising l = true := by
  have step : ∀ i, i + 1 < l.length → kAt l i < kAt l (i + 1) := fun i hi => (h.2.2 (i + 1) hi (by omega)).2.2.2.2 (by omega)
  have all : ∀ d a, a + d + 1 < l.length → kAt l a < kAt l (a + d + 1) := by
    intro d
    induction d with
    | zero => intro a ha; exact step a ha
    | succ d ih => intro a ha; have h1 := ih a (by omega); have h2 := step (a + d + 1) (by omega); rw [show a + (d + 1) + 1 = a + d + 1 + 1 by omega]; omega
  unfold rising
  rw [List.all_eq_true]
  intro b hb
  rw [List.all_eq_true]
  intro a ha
  have hb := List.mem_range.1 hb
  have ha := List.mem_range.1 ha
  have := all (b - a - 1) a (by omega)
  rw [show a + (b - a - 1) + 1 = b by omega] at this
  exact decide_eq_true this
abbrev It (l : List S55) (p : Int) : List S49 := (rd_T55 l p).f2.f1
abbrev Lf (l : List S55) (p : Int) : Bool := (rd_T55 l p).f2.f0
abbrev Rf (l : List S55) (p : Int) : Int := (rd_T55 l p).f0
def plR (n : Nat) (it : List S49) : Prop := ∀ i, i < it.length → 0 ≤ vAt it i ∧ vAt it i < n
instance (n : Nat) (it : List S49) : Decidable (plR n it) := by unfold plR; infer_instance
def plF (n : Nat) (it : List S49) (j : Nat) : Prop := ∀ i, i < it.length → j ≤ i → 0 ≤ vAt it i ∧ vAt it i < n
instance (n : Nat) (it : List S49) (j : Nat) : Decidable (plF n it j) := by unfold plF; infer_instance
theorem plF_step {n : Nat} {it : List S49} {j : Nat} (h : j < it.length) : plF n it j ↔ (0 ≤ vAt it j ∧ vAt it j < n) ∧ plF n it (j + 1) :=
  ⟨fun hh => ⟨hh j h (Nat.le_refl _), fun i h1 h2 => hh i h1 (by omega)⟩, fun ⟨h1, h2⟩ i hi hj => by
    by_cases e : i = j
    · subst e; exact h1
    · exact h2 i hi (by omega)⟩
theorem places_l0 (l : List S55) (kp : Int) (it : List S49) (hl : it.length ≤ 1000) : ∀ (d k j : Nat), j + d = it.length → 2 * d + 2 ≤ k → assartref05_places.l0 k (j : Int) l kp false it = some (decide (plF l.length it j)) := by
  intro d
  induction d with
  | zero =>
    intro k j hj hk
    obtain ⟨k, rfl⟩ : ∃ m, k = m + 2 := ⟨k - 2, by omega⟩
    simp only [assartref05_places.l0]
    rw [if_neg (by omega)]
    simp only [assartref05_places.j1]
    rw [if_neg (by simp), decide_eq_true (show plF l.length it j from fun i h1 h2 => by omega)]
  | succ d ih =>
    intro k j hj hk
    obtain ⟨k, rfl⟩ : ∃ m, k = m + 2 := ⟨k - 2, by omega⟩
    simp only [assartref05_places.l0]
    rw [if_pos (by omega)]
    simp only [assartref05_places.j1]
    rw [if_pos (show (!false) = true from rfl), if_pos (by omega), if_pos (by omega), wsucc j (by omega), ih k (j + 1) (by omega) (by omega)]
    by_cases h1 : vAt it j < 0
    · rw [if_pos h1, decide_eq_false (fun h => by have := (h j (by omega) (Nat.le_refl _)).1; omega)]
    · rw [if_neg h1]
      by_cases h2 : vAt it j ≥ (l.length : Int)
      · rw [if_pos h2, decide_eq_false (fun h => by have := (h j (by omega) (Nat.le_refl _)).2; omega)]
      · rw [if_neg h2]
        congr 1
        rw [decide_eq_decide, plF_step (j := j) (by omega)]
        exact ⟨fun h => ⟨⟨by omega, by omega⟩, h⟩, fun h => h.2⟩
theorem places_val (l : List S55) (kp : Int) (leaf : Bool) (it : List S49) (hl : it.length ≤ 1000) (k : Nat) (hk : 2 * it.length + 2 ≤ k) : assartref05_places.f k l kp leaf it = some (decide (leaf = true ∨ plR l.length it)) := by
  unfold assartref05_places.f
  cases leaf with
  | true =>
    obtain ⟨k, rfl⟩ : ∃ m, k = m + 2 := ⟨k - 2, by omega⟩
    simp only [assartref05_places.l0]
    by_cases h : 0 < (it.length : Int)
    · rw [if_pos h]
      simp only [assartref05_places.j1]
      rw [if_neg (by simp), decide_eq_true (.inl trivial)]
    · rw [if_neg h]
      simp only [assartref05_places.j1]
      rw [if_neg (by simp), decide_eq_true (.inl trivial)]
  | false =>
    have := places_l0 l kp it hl it.length k 0 (by omega) (by omega)
    rw [show ((0 : Nat) : Int) = 0 from rfl] at this
    rw [this]
    congr 1
    rw [decide_eq_decide]
    exact ⟨fun h => .inr fun i hi => h i hi (Nat.zero_le _), fun h i hi _ => (h.resolve_left (by simp)) i hi⟩
def cellR (n : Nat) (c : S55) : Prop := (c.f0 = 0 ∧ c.f2.f0 = false ∧ c.f2.f1.length = 0) ∨ (0 < c.f0 ∧ c.f0 ≤ 2147483647 ∧ c.f1 = false ∧ RtN c.f2.f1 ∧ (c.f2.f0 = true ∨ plR n c.f2.f1))
instance (n : Nat) (c : S55) : Decidable (cellR n c) := by unfold cellR; infer_instance
theorem cell_val (l : List S55) (kp : Int) (c : S55) (k : Nat) (hk : 12 ≤ k) : assartref05_cell.f k l kp c.f0 c.f1 c.f2.f0 c.f2.f1 = some (decide (cellR l.length c)) := by
  unfold assartref05_cell.f
  by_cases h0 : c.f0 = 0
  · rw [if_pos h0]
    by_cases hl : c.f2.f0 = true
    · rw [if_pos hl, decide_eq_false]
      rintro (h | h)
      · rw [hl] at h; exact absurd h.2.1 (by simp)
      · omega
    · rw [if_neg hl]
      have e : ((c.f2.f1.length : Int) == 0) = decide (cellR l.length c) := by
        by_cases hz : c.f2.f1.length = 0
        · rw [decide_eq_true (.inl ⟨h0, by simpa using hl, hz⟩)]
          simp [hz]
        · rw [decide_eq_false]
          · simp [hz]
          · rintro (h | h)
            · exact hz h.2.2
            · omega
      rw [e]
  · rw [if_neg h0, refRight04_val _ _ _ (.inr (by omega)), Option.bind_some]
    by_cases h1 : c.f0 > 0
    · rw [if_pos h1]
      by_cases h2 : c.f0 ≤ 2147483647
      · rw [if_pos h2]
        by_cases h3 : c.f1 = true
        · rw [if_pos h3, decide_eq_false]
          rintro (h | h)
          · exact h0 h.1
          · rw [h3] at h; exact absurd h.2.2.1 (by simp)
        · rw [if_neg h3]
          by_cases h4 : RtN c.f2.f1
          · rw [if_pos (decide_eq_true h4), places_val l kp _ _ (by have := h4.2.1; omega) k (by have := h4.2.1; omega), Option.bind_some]
            congr 1
            rw [decide_eq_decide]
            exact ⟨fun h => .inr ⟨h1, h2, by simpa using h3, h4, h⟩, fun h => by
              rcases h with h | h
              · exact absurd h.1 h0
              · exact h.2.2.2.2⟩
          · rw [if_neg (by simpa using h4), decide_eq_false]
            rintro (h | h)
            · exact h0 h.1
            · exact h4 h.2.2.2.1
      · rw [if_neg h2, decide_eq_false]
        rintro (h | h)
        · exact h0 h.1
        · omega
    · rw [if_neg h1, decide_eq_false]
      rintro (h | h)
      · exact h0 h.1
      · omega
def cellsR (l : List S55) (j : Nat) : Prop := ∀ i, i < l.length → j ≤ i → cellR l.length (rd_T55 l (i : Nat))
instance (l : List S55) (j : Nat) : Decidable (cellsR l j) := by unfold cellsR; infer_instance
theorem cellsR_step {l : List S55} {j : Nat} (h : j < l.length) : cellsR l j ↔ cellR l.length (rd_T55 l (j : Nat)) ∧ cellsR l (j + 1) :=
  ⟨fun hh => ⟨hh j h (Nat.le_refl _), fun i h1 h2 => hh i h1 (by omega)⟩, fun ⟨h1, h2⟩ i hi hj => by
    by_cases e : i = j
    · subst e; exact h1
    · exact h2 i hi (by omega)⟩
theorem right05_l0 (l : List S55) (kp : Int) (hl : l.length ≤ 2000) : ∀ (d k j : Nat), j + d = l.length → d + 13 ≤ k → assartref05_Right.l0 k (j : Int) l kp = some (decide (cellsR l j)) := by
  intro d
  induction d with
  | zero =>
    intro k j hj hk
    obtain ⟨k, rfl⟩ : ∃ m, k = m + 1 := ⟨k - 1, by omega⟩
    simp only [assartref05_Right.l0]
    rw [if_neg (by omega), decide_eq_true (show cellsR l j from fun i h1 h2 => by omega)]
  | succ d ih =>
    intro k j hj hk
    obtain ⟨k, rfl⟩ : ∃ m, k = m + 1 := ⟨k - 1, by omega⟩
    simp only [assartref05_Right.l0]
    rw [if_pos (by omega), if_pos (by omega), cell_val l kp (rd_T55 l (j : Nat)) k (by omega), Option.bind_some, wsucc j (by omega), ih k (j + 1) (by omega) (by omega)]
    by_cases h : cellR l.length (rd_T55 l (j : Nat))
    · rw [if_pos (decide_eq_true h)]
      congr 1
      rw [decide_eq_decide, cellsR_step (j := j) (by omega)]
      exact ⟨fun hh => ⟨h, hh⟩, fun hh => hh.2⟩
    · rw [if_neg (by simpa using h), decide_eq_false]
      exact fun hh => h (hh j (by omega) (Nat.le_refl _))
def heapR (l : List S55) (kp : Int) : Prop := 1 ≤ l.length ∧ l.length ≤ 2000 ∧ 0 ≤ kp ∧ kp ≤ l.length ∧ cellsR l 0
instance (l : List S55) (kp : Int) : Decidable (heapR l kp) := by unfold heapR; infer_instance
theorem right05_val (l : List S55) (kp : Int) (k : Nat) (hk : 2020 ≤ k ∨ l.length + 20 ≤ k) : assartref05_Right.f k l kp = some (decide (heapR l kp)) := by
  unfold assartref05_Right.f
  obtain ⟨k, rfl⟩ : ∃ m, k = m + 1 := ⟨k - 1, by omega⟩
  by_cases h1 : (l.length : Int) < 1
  · rw [if_pos h1]
    simp only [assartref05_Right.j0]
    rw [if_pos trivial, decide_eq_false (fun h => by have := h.1; omega)]
  · rw [if_neg h1]
    by_cases h2 : (l.length : Int) > 2000
    · rw [if_pos h2]
      simp only [assartref05_Right.j0]
      rw [if_pos trivial, decide_eq_false (fun h => by have := h.2.1; omega)]
    · rw [if_neg h2]
      by_cases h3 : kp < 0
      · rw [if_pos h3]
        simp only [assartref05_Right.j0]
        rw [if_pos trivial, decide_eq_false (fun h => by have := h.2.2.1; omega)]
      · rw [if_neg h3]
        simp only [assartref05_Right.j0]
        by_cases h4 : kp > (l.length : Int)
        · rw [if_pos (decide_eq_true h4), decide_eq_false (fun h => by have := h.2.2.2.1; omega)]
        · rw [if_neg (by simpa using h4)]
          have := right05_l0 l kp (by omega) l.length k 0 (by omega) (by omega)
          rw [show ((0 : Nat) : Int) = 0 from rfl] at this
          rw [this]
          congr 1
          rw [decide_eq_decide]
          exact ⟨fun h => ⟨by omega, by omega, by omega, by omega, h⟩, fun h => h.2.2.2.2⟩
def smallF (l : List S55) (j : Nat) : Prop := ∀ i, i < l.length → j ≤ i → (It l (i : Nat)).length ≤ 10 ∧ Rf l (i : Nat) ≤ 1000000
instance (l : List S55) (j : Nat) : Decidable (smallF l j) := by unfold smallF; infer_instance
theorem smallF_step {l : List S55} {j : Nat} (h : j < l.length) : smallF l j ↔ ((It l (j : Nat)).length ≤ 10 ∧ Rf l (j : Nat) ≤ 1000000) ∧ smallF l (j + 1) :=
  ⟨fun hh => ⟨hh j h (Nat.le_refl _), fun i h1 h2 => hh i h1 (by omega)⟩, fun ⟨h1, h2⟩ i hi hj => by
    by_cases e : i = j
    · subst e; exact h1
    · exact h2 i hi (by omega)⟩
theorem small_l0 (l : List S55) (kp : Int) (hl : l.length ≤ 2000) : ∀ (d k j : Nat), j + d = l.length → d + 1 ≤ k → assartref05_Small.l0 k (j : Int) l kp = some (decide (smallF l j)) := by
  intro d
  induction d with
  | zero =>
    intro k j hj hk
    obtain ⟨k, rfl⟩ : ∃ m, k = m + 1 := ⟨k - 1, by omega⟩
    simp only [assartref05_Small.l0]
    rw [if_neg (by omega), decide_eq_true (show smallF l j from fun i h1 h2 => by omega)]
  | succ d ih =>
    intro k j hj hk
    obtain ⟨k, rfl⟩ : ∃ m, k = m + 1 := ⟨k - 1, by omega⟩
    simp only [assartref05_Small.l0]
    rw [if_pos (by omega), if_pos (by omega), wsucc j (by omega), ih k (j + 1) (by omega) (by omega)]
    by_cases h1 : ((It l (j : Nat)).length : Int) > 10
    · rw [if_pos h1, decide_eq_false (fun h => by have := (h j (by omega) (Nat.le_refl _)).1; omega)]
    · rw [if_neg h1]
      by_cases h2 : Rf l (j : Nat) > 1000000
      · rw [if_pos h2, decide_eq_false (fun h => by have := (h j (by omega) (Nat.le_refl _)).2; omega)]
      · rw [if_neg h2]
        congr 1
        rw [decide_eq_decide, smallF_step (j := j) (by omega)]
        exact ⟨fun h => ⟨⟨by omega, by omega⟩, h⟩, fun h => h.2⟩
def mayH (l : List S55) (kp : Int) (m : Nat) : Prop := l.length ≤ m ∧ smallF l 0 ∧ heapR l kp
instance (l : List S55) (kp : Int) (m : Nat) : Decidable (mayH l kp m) := by unfold mayH; infer_instance
theorem may05_val (l : List S55) (kp : Int) (m : Nat) (hm : m ≤ 2000) (k : Nat) (hk : 2020 ≤ k) : assartref05_May.f k l kp m = some (decide (mayH l kp m)) := by
  unfold assartref05_May.f assartref05_Small.f
  by_cases h1 : (l.length : Int) > m
  · rw [if_pos h1, Option.bind_some, if_neg (by simp), decide_eq_false (fun h => by have := h.1; omega)]
  · rw [if_neg h1]
    have := small_l0 l kp (by omega) l.length k 0 (by omega) (by omega)
    rw [show ((0 : Nat) : Int) = 0 from rfl] at this
    rw [this, Option.bind_some]
    by_cases h2 : smallF l 0
    · rw [if_pos (decide_eq_true h2), right05_val l kp k (.inl hk), Option.bind_some]
      congr 1
      rw [decide_eq_decide]
      exact ⟨fun h => ⟨by omega, h2, h⟩, fun h => h.2.2⟩
    · rw [if_neg (by simpa using h2), decide_eq_false (fun h => h2 h.2.1)]
end Go.Proofs.Yteiladccdenpbaa.P
end
section
namespace Go.Proofs.Yteiladccdenpbaa.P
open Go.RowKit Go.Proofs.YteiladccdenpbaaW.PrintWords Go.Proofs.YteiladccdenpbaaW.PrintLast Go.Proofs.YteiladccdenpbaaW.PrintMore
set_option linter.unusedVariables false
set_option linter.unusedSimpArgs false
def HR (l : List S55) : Prop := l.length ≤ 2000 ∧ ∀ p : Int, 0 ≤ p → p < (l.length : Int) → cellR l.length (rd_T55 l p)
theorem HR.of {l : List S55} {kp : Int} (h : heapR l kp) : HR l := ⟨h.2.1, fun p h0 h1 => by
  have := h.2.2.2.2 p.toNat (by omega) (Nat.zero_le _)
  rwa [Int.toNat_of_nonneg h0] at this⟩
theorem HR.rn {l : List S55} (H : HR l) {p : Int} (h0 : 0 ≤ p) (h1 : p < (l.length : Int)) (hr : 0 < Rf l p) : RtN (It l p) := by
  rcases H.2 p h0 h1 with h | h
  · have := h.1; simp only [Rf] at hr; omega
  · exact h.2.2.2.1
theorem HR.ch {l : List S55} (H : HR l) {p : Int} (h0 : 0 ≤ p) (h1 : p < (l.length : Int)) (hr : 0 < Rf l p) (hf : Lf l p = false) {i : Nat} (hi : i < (It l p).length) : 0 ≤ vAt (It l p) i ∧ vAt (It l p) i < (l.length : Int) := by
  rcases H.2 p h0 h1 with h | h
  · have := h.1; simp only [Rf] at hr; omega
  · rcases h.2.2.2.2 with hh | hh
    · simp only [Lf] at hf; rw [hf] at hh; cases hh
    · exact hh i hi
theorem HR.rf {l : List S55} (H : HR l) {p : Int} (h0 : 0 ≤ p) (h1 : p < (l.length : Int)) : 0 ≤ Rf l p ∧ Rf l p ≤ 2147483647 := by
  rcases H.2 p h0 h1 with h | h
  · have := h.1; simp only [Rf]; omega
  · have := h.1; have := h.2.1; simp only [Rf]; omega
abbrev lo (l : List S55) (p : Int) : Int := kAt (It l p) 0
def Hi (l : List S55) : Nat → Int → Int
  | 0, _ => 0
  | 1, p => kAt (It l p) ((It l p).length - 1)
  | h + 2, p => Hi l (h + 1) (vAt (It l p) ((It l p).length - 1))
def Tr (l : List S55) : Nat → Int → Prop
  | 0, _ => False
  | 1, p => 0 ≤ p ∧ p < (l.length : Int) ∧ 0 < Rf l p ∧ Lf l p = true
  | h + 2, p => 0 ≤ p ∧ p < (l.length : Int) ∧ 0 < Rf l p ∧ Lf l p = false ∧ ∀ i, i < (It l p).length →
      Tr l (h + 1) (vAt (It l p) i) ∧ lo l (vAt (It l p) i) = kAt (It l p) i ∧ (i + 1 < (It l p).length → Hi l (h + 1) (vAt (It l p) i) < kAt (It l p) (i + 1))
def Ls (l : List S55) : Nat → Int → List S49
  | 0, _ => []
  | 1, p => It l p
  | h + 2, p => (It l p).flatMap fun x => Ls l (h + 1) x.f1
def Ns (l : List S55) : Nat → Int → List Int
  | 0, _ => []
  | 1, p => [p]
  | h + 2, p => p :: (It l p).flatMap fun x => Ns l (h + 1) x.f1
theorem Tr.base {l : List S55} {h : Nat} {p : Int} (t : Tr l h p) : 0 ≤ p ∧ p < (l.length : Int) ∧ 0 < Rf l p := by
  match h, t with
  | 1, t => exact ⟨t.1, t.2.1, t.2.2.1⟩
  | h + 2, t => exact ⟨t.1, t.2.1, t.2.2.1⟩
theorem Tr.pos {l : List S55} {h : Nat} {p : Int} (t : Tr l h p) : 1 ≤ h := by
  match h, t with
  | h + 1, t => omega
theorem Tr.rn {l : List S55} (H : HR l) {h : Nat} {p : Int} (t : Tr l h p) : RtN (It l p) := H.rn t.base.1 t.base.2.1 t.base.2.2
theorem Tr.leaf {l : List S55} {h : Nat} {p : Int} (t : Tr l h p) : Lf l p = decide (h = 1) := by
  match h, t with
  | 1, t => exact t.2.2.2
  | h + 2, t => rw [t.2.2.2.1, decide_eq_false (by omega)]
theorem mem_at {l : List S49} {x : S49} (h : x ∈ l) : ∃ i, i < l.length ∧ x.f0 = kAt l i ∧ x.f1 = vAt l i := by
  obtain ⟨i, hi, rfl⟩ := List.mem_iff_getElem.1 h
  exact ⟨i, hi, by simp only [kAt, rd_eq l i hi], by simp only [vAt, rd_eq l i hi]⟩
theorem rising_all {l : List S49} (h : RtN l) {i j : Nat} (hij : i < j) (hj : j < l.length) : kAt l i < kAt l j := rising_lt (rising_of h) i j hij hj
theorem rising_le {l : List S49} (h : RtN l) {i j : Nat} (hij : i ≤ j) (hj : j < l.length) : kAt l i ≤ kAt l j := by
  by_cases e : i = j
  · subst e; exact Int.le_refl _
  · have := rising_all h (show i < j by omega) hj; omega
theorem key_bd {l : List S49} (h : RtN l) {i : Nat} (hi : i < l.length) : 0 ≤ kAt l i ∧ kAt l i ≤ 2147483647 := ⟨(h.2.2 i hi (by omega)).1, (h.2.2 i hi (by omega)).2.1⟩
theorem tr_uniq0 {l : List S55} (H : HR l) : ∀ (h h' : Nat) (p : Int), Tr l h p → Tr l h' p → h = h' := by
  intro h
  induction h with
  | zero => intro h' p t; exact t.elim
  | succ h ih =>
    intro h' p t t'
    have a := t.leaf
    have b := t'.leaf
    rw [a] at b
    have c : (h + 1 = 1) ↔ (h' = 1) := by rw [← decide_eq_decide]; exact b
    match h, h', t, t', ih with
    | 0, h', t, t', ih => exact (c.1 rfl).symm
    | h + 1, 0, t, t', ih => exact t'.elim
    | h + 1, 1, t, t', ih => exact c.2 rfl
    | h + 1, h' + 2, t, t', ih =>
      have hl := (t.rn H).1
      have := ih (h' + 1) _ (t.2.2.2.2 0 (by omega)).1 (t'.2.2.2.2 0 (by omega)).1
      omega
theorem tr_uniq {l : List S55} (H : HR l) {h h' : Nat} {p : Int} (t : Tr l h p) (t' : Tr l h' p) : h = h' := tr_uniq0 H h h' p t t'
structure Said1 (l : List S55) (h : Nat) (p : Int) : Prop where
  le : lo l p ≤ Hi l h p
  lo0 : 0 ≤ lo l p
  hi1 : Hi l h p ≤ 2147483647
  bd : ∀ x ∈ Ls l h p, lo l p ≤ x.f0 ∧ x.f0 ≤ Hi l h p
  hd : ∃ x xs, Ls l h p = x :: xs ∧ x.f0 = lo l p
  pw : (Ls l h p).Pairwise fun a b => a.f0 < b.f0
theorem gap {l : List S55} (H : HR l) {h : Nat} {p : Int} (t : Tr l (h + 2) p) {i j : Nat} (hij : i < j) (hj : j < (It l p).length) : Hi l (h + 1) (vAt (It l p) i) < kAt (It l p) j := by
  have := (t.2.2.2.2 i (by omega)).2.2 (by omega)
  have := rising_le (t.rn H) (show i + 1 ≤ j by omega) hj
  omega
theorem getE {l : List S49} {i : Nat} (hi : i < l.length) : (l[i]).f0 = kAt l i ∧ (l[i]).f1 = vAt l i := by simp only [kAt, vAt, rd_eq l i hi, and_self]
theorem said1 {l : List S55} (H : HR l) : ∀ (h : Nat) (p : Int), Tr l h p → Said1 l h p := by
  intro h
  induction h with
  | zero => intro p t; exact t.elim
  | succ h ih =>
    intro p t
    have hn := t.rn H
    have hl := hn.1
    match h, t, ih with
    | 0, t, ih =>
      refine ⟨rising_le hn (Nat.zero_le _) (by omega), (key_bd hn (by omega)).1, (key_bd hn (show (It l p).length - 1 < _ by omega)).2, ?_, ?_, ?_⟩
      · intro x hx
        have hx : x ∈ It l p := hx
        obtain ⟨i, hi, hk, _⟩ := mem_at hx
        rw [hk]
        exact ⟨rising_le hn (Nat.zero_le _) hi, rising_le hn (by omega) (by omega)⟩
      · cases hc : It l p with
        | nil => rw [hc] at hl; simp at hl
        | cons x xs => exact ⟨x, xs, hc, by simp only [lo, hc, kAt, rd_T49]; rfl⟩
      · show (It l p).Pairwise _
        rw [List.pairwise_iff_getElem]
        intro i j hi hj hij
        rw [(getE hi).1, (getE hj).1]
        exact rising_all hn hij hj
    | h + 1, t, ih =>
      have tc := t.2.2.2.2
      have hlast := tc ((It l p).length - 1) (by omega)
      have s1 := ih _ hlast.1
      refine ⟨?_, (key_bd hn (by omega)).1, s1.hi1, ?_, ?_, ?_⟩
      · show lo l p ≤ Hi l (h + 1) (vAt (It l p) ((It l p).length - 1))
        have := s1.le
        rw [hlast.2.1] at this
        have := rising_le hn (Nat.zero_le ((It l p).length - 1)) (by omega)
        simp only [lo]; omega
      · intro x hx
        obtain ⟨y, hy, hx⟩ := List.mem_flatMap.1 hx
        obtain ⟨i, hi, hk, hv⟩ := mem_at hy
        rw [hv] at hx
        have si := ih _ (tc i hi).1
        have := si.bd x hx
        rw [(tc i hi).2.1] at this
        have h0 := rising_le hn (Nat.zero_le i) hi
        refine ⟨by simp only [lo]; omega, ?_⟩
        show _ ≤ Hi l (h + 1) (vAt (It l p) ((It l p).length - 1))
        by_cases e : i = (It l p).length - 1
        · subst e; exact this.2
        · have g := gap H t (show i < (It l p).length - 1 by omega) (by omega)
          have := s1.le
          rw [hlast.2.1] at this
          omega
      · cases hc : It l p with
        | nil => rw [hc] at hl; simp at hl
        | cons x xs =>
          have t0 := tc 0 (by omega)
          obtain ⟨y, ys, hy, hk⟩ := (ih _ t0.1).hd
          refine ⟨y, ys ++ xs.flatMap fun x => Ls l (h + 1) x.f1, ?_, ?_⟩
          · show (It l p).flatMap _ = _
            have e : x.f1 = vAt (It l p) 0 := by rw [hc]; simp only [vAt, rd_T49]; rfl
            rw [hc, List.flatMap_cons, e, hy]
            rfl
          · rw [hk]; exact t0.2.1
      · show ((It l p).flatMap _).Pairwise _
        rw [List.pairwise_flatMap]
        refine ⟨fun x hx => ?_, ?_⟩
        · obtain ⟨i, hi, hk, hv⟩ := mem_at hx
          rw [hv]
          exact (ih _ (tc i hi).1).pw
        · rw [List.pairwise_iff_getElem]
          intro i j hi hj hij x hx y hy
          rw [(getE hi).2] at hx
          rw [(getE hj).2] at hy
          have a := ((ih _ (tc i hi).1).bd x hx).2
          have b := ((ih _ (tc j hj).1).bd y hy).1
          rw [(tc j hj).2.1] at b
          have := gap H t hij hj
          omega
theorem ns_mem {l : List S55} (H : HR l) : ∀ (h : Nat) (p : Int), Tr l h p → ∀ q ∈ Ns l h p, ∃ h', h' ≤ h ∧ Tr l h' q ∧ lo l p ≤ lo l q ∧ lo l q ≤ Hi l h p := by
  intro h
  induction h with
  | zero => intro p t; exact t.elim
  | succ h ih =>
    intro p t q hq
    have hn := t.rn H
    have hl := hn.1
    match h, t, ih, hq with
    | 0, t, ih, hq =>
      obtain rfl : q = p := by simpa [Ns] using hq
      exact ⟨1, Nat.le_refl _, t, Int.le_refl _, (said1 H _ _ t).le⟩
    | h + 1, t, ih, hq =>
      rcases List.mem_cons.1 hq with rfl | hq
      · exact ⟨_, Nat.le_refl _, t, Int.le_refl _, (said1 H _ _ t).le⟩
      · obtain ⟨y, hy, hq⟩ := List.mem_flatMap.1 hq
        obtain ⟨i, hi, hk, hv⟩ := mem_at hy
        rw [hv] at hq
        have tc := t.2.2.2.2
        obtain ⟨h', hh, t', a, b⟩ := ih _ (tc i hi).1 q hq
        rw [(tc i hi).2.1] at a
        have h0 := rising_le hn (Nat.zero_le i) hi
        refine ⟨h', by omega, t', by simp only [lo] at a ⊢; omega, ?_⟩
        show _ ≤ Hi l (h + 1) (vAt (It l p) ((It l p).length - 1))
        by_cases e : i = (It l p).length - 1
        · subst e; exact b
        · have g := gap H t (show i < (It l p).length - 1 by omega) (by omega)
          have hlast := tc ((It l p).length - 1) (by omega)
          have := (said1 H _ _ hlast.1).le
          rw [hlast.2.1] at this
          omega
theorem ns_nodup {l : List S55} (H : HR l) : ∀ (h : Nat) (p : Int), Tr l h p → (Ns l h p).Nodup := by
  intro h
  induction h with
  | zero => intro p t; exact t.elim
  | succ h ih =>
    intro p t
    match h, t, ih with
    | 0, t, ih => simp [Ns]
    | h + 1, t, ih =>
      have tc := t.2.2.2.2
      show (p :: _).Nodup
      rw [List.nodup_cons]
      refine ⟨fun hq => ?_, ?_⟩
      · obtain ⟨y, hy, hq⟩ := List.mem_flatMap.1 hq
        obtain ⟨i, hi, hk, hv⟩ := mem_at hy
        rw [hv] at hq
        obtain ⟨h', hh, t', _⟩ := ns_mem H _ _ (tc i hi).1 p hq
        have := tr_uniq H t t'
        omega
      · show List.Pairwise _ _
        rw [List.pairwise_flatMap]
        refine ⟨fun x hx => ?_, ?_⟩
        · obtain ⟨i, hi, hk, hv⟩ := mem_at hx
          rw [hv]
          exact ih _ (tc i hi).1
        · rw [List.pairwise_iff_getElem]
          intro i j hi hj hij x hx y hy e
          subst e
          rw [(getE hi).2] at hx
          rw [(getE hj).2] at hy
          obtain ⟨_, _, _, _, a⟩ := ns_mem H _ _ (tc i hi).1 x hx
          obtain ⟨_, _, _, b, _⟩ := ns_mem H _ _ (tc j hj).1 x hy
          rw [(tc j hj).2.1] at b
          have := gap H t hij hj
          omega
theorem pigeon : ∀ (n : Nat) (L : List Int), L.Nodup → (∀ x ∈ L, 0 ≤ x ∧ x < (n : Int)) → L.length ≤ n := by
  intro n
  induction n with
  | zero =>
    intro L _ h
    cases L with
    | nil => exact Nat.le_refl _
    | cons x xs => have := h x (List.mem_cons_self ..); omega
  | succ n ih =>
    intro L hn h
    by_cases hm : (n : Int) ∈ L
    · have := ih (L.erase (n : Int)) (hn.erase _) (fun x hx => by
        have := (hn.mem_erase_iff).1 hx
        have := h x this.2
        omega)
      rw [List.length_erase_of_mem hm] at this
      omega
    · have := ih L hn (fun x hx => by
        have a := h x hx
        have : x ≠ (n : Int) := fun e => hm (e ▸ hx)
        omega)
      omega
theorem ns_len {l : List S55} (H : HR l) {h : Nat} {p : Int} (t : Tr l h p) : (Ns l h p).length ≤ l.length :=
  pigeon _ _ (ns_nodup H h p t) fun x hx => by
    obtain ⟨_, _, t', _⟩ := ns_mem H _ _ t x hx
    exact ⟨t'.base.1, t'.base.2.1⟩
theorem drop_at (l : List S49) (i : Nat) (h : i < l.length) : l.drop i = rd_T49 l (i : Nat) :: l.drop (i + 1) := by
  rw [List.drop_eq_getElem_cons h, rd_eq l i h]
end Go.Proofs.Yteiladccdenpbaa.P
end
section
namespace Go.Proofs.Yteiladccdenpbaa.P
open Go.RowKit Go.Proofs.YteiladccdenpbaaW.PrintWords Go.Proofs.YteiladccdenpbaaW.PrintLast Go.Proofs.YteiladccdenpbaaW.PrintMore
set_option linter.unusedVariables false
set_option linter.unusedSimpArgs false
theorem Tr.nl {l : List S55} {h : Nat} {p : Int} (t : Tr l (h + 2) p) : ¬ (rd_T55 l p).f2.f0 = true := by
  have := t.2.2.2.1
  simp only [Lf] at this
  rw [this]
  simp
theorem high_l0 {l : List S55} {kp : Int} (H : HR l) : ∀ (h k : Nat) (x p : Int), Tr l h p → 0 ≤ x → x + h ≤ 2000 → h ≤ k → tree_High.l0 k x p l kp = some (x + h) := by
  intro h
  induction h with
  | zero => intro k x p t; exact t.elim
  | succ h ih =>
    intro k x p t hx hb hk
    have hn := (t.rn H).1
    obtain ⟨k, rfl⟩ : ∃ m, k = m + 1 := ⟨k - 1, by omega⟩
    have tb := t.base
    simp only [tree_High.l0]
    rw [if_pos (show p ≥ 0 from tb.1), if_pos tb.1, if_pos tb.2.1]
    have hw : wrap64 (x + 1) = x + 1 := by unfold wrap64; omega
    match h, t, ih with
    | 0, t, ih => rw [if_pos t.2.2.2, hw]; rfl
    | h + 1, t, ih =>
      rw [if_neg t.nl, if_pos (show (0 : Int) < ((It l p).length : Int) by omega), hw]
      have := ih k (x + 1) _ (t.2.2.2.2 0 (by omega)).1 (by omega) (by omega) (by omega)
      refine Eq.trans this ?_
      congr 1
      omega
theorem high_val {l : List S55} {kp : Int} (H : HR l) {h : Nat} {p : Int} (t : Tr l h p) (hh : h ≤ 1000) {k : Nat} (hk : h ≤ k) : tree_High.f k l kp p = some (h : Int) := by
  unfold tree_High.f
  rw [high_l0 H h k 0 p t (by omega) (by omega) hk]
  simp
theorem high_neg {l : List S55} {kp : Int} {p : Int} (hp : p < 0) {k : Nat} (hk : 1 ≤ k) : tree_High.f k l kp p = some 0 := by
  obtain ⟨k, rfl⟩ : ∃ m, k = m + 1 := ⟨k - 1, by omega⟩
  unfold tree_High.f
  simp only [tree_High.l0]
  rw [if_neg (by omega)]
theorem refHigh_val {l : List S55} {kp : Int} (H : HR l) : ∀ (h k : Nat) (p : Int), Tr l h p → h ≤ 1000 → h ≤ k → assartref07_High.f k l kp p = some (h : Int) := by
  intro h
  induction h with
  | zero => intro k p t; exact t.elim
  | succ h ih =>
    intro k p t hb hk
    have hn := (t.rn H).1
    obtain ⟨k, rfl⟩ : ∃ m, k = m + 1 := ⟨k - 1, by omega⟩
    have tb := t.base
    simp only [assartref07_High.f]
    rw [if_neg (by omega), if_pos tb.1, if_pos tb.2.1]
    match h, t, ih with
    | 0, t, ih => rw [if_pos t.2.2.2]; rfl
    | h + 1, t, ih =>
      rw [if_neg t.nl, if_pos (show (0 : Int) < ((It l p).length : Int) by omega)]
      have := ih k _ (t.2.2.2.2 0 (by omega)).1 (by omega) (by omega)
      refine Eq.trans (congrArg (fun o => Option.bind o _) this) ?_
      simp only [Option.bind_some]
      congr 1
      unfold wrap64
      omega
theorem refHigh_neg {l : List S55} {kp : Int} {p : Int} (hp : p < 0) {k : Nat} (hk : 1 ≤ k) : assartref07_High.f k l kp p = some 0 := by
  obtain ⟨k, rfl⟩ : ∃ m, k = m + 1 := ⟨k - 1, by omega⟩
  simp only [assartref07_High.f]
  rw [if_pos hp]
theorem nodes_skip {l : List S55} {kp : Int} (acc : List Int) (it it2 : List S49) (hl : it.length ≤ 1000) : ∀ (d k j : Nat), j + d = it.length → d < k → tree_Nodes.l0 k acc it (it.length : Int) (j : Int) l kp true it2 = some acc := by
  intro d
  induction d with
  | zero =>
    intro k j hj hk
    obtain ⟨k, rfl⟩ : ∃ m, k = m + 1 := ⟨k - 1, by omega⟩
    simp only [tree_Nodes.l0]
    rw [if_neg (by omega)]
  | succ d ih =>
    intro k j hj hk
    obtain ⟨k, rfl⟩ : ∃ m, k = m + 1 := ⟨k - 1, by omega⟩
    simp only [tree_Nodes.l0]
    rw [if_pos (by omega), if_pos (by omega), if_pos (by omega), if_pos trivial, wsucc j (by omega)]
    exact ih k (j + 1) (by omega) (by omega)
theorem nodes_loop {l : List S55} {kp : Int} (it it2 : List S49) (hl : it.length ≤ 1000) (F : Int → List Int) (m : Nat)
    (hF : ∀ i, i < it.length → ∀ k, m ≤ k → tree_Nodes.f k l kp (vAt it i) = some (F (vAt it i)) ∧ (F (vAt it i)).length ≤ 100000) :
    ∀ (d k j : Nat) (acc : List Int), j + d = it.length → m + d + 1 ≤ k → acc.length ≤ 100000 * (j + 1) → tree_Nodes.l0 k acc it (it.length : Int) (j : Int) l kp false it2 = some (acc ++ (it.drop j).flatMap fun x => F x.f1) := by
  intro d
  induction d with
  | zero =>
    intro k j acc hj hk ha
    obtain ⟨k, rfl⟩ : ∃ m, k = m + 1 := ⟨k - 1, by omega⟩
    simp only [tree_Nodes.l0]
    rw [if_neg (by omega), List.drop_eq_nil_of_le (by omega)]
    simp
  | succ d ih =>
    intro k j acc hj hk ha
    obtain ⟨k, rfl⟩ : ∃ m, k = m + 1 := ⟨k - 1, by omega⟩
    have hf := hF j (by omega) k (by omega)
    simp only [tree_Nodes.l0]
    rw [if_pos (by omega), if_pos (by omega), if_pos (by omega), if_neg (by simp), hf.1, Option.bind_some, if_pos (by omega), wsucc j (by omega),
      ih k (j + 1) (acc ++ F (vAt it j)) (by omega) (by omega) (by rw [List.length_append]; omega), drop_at it j (by omega), List.flatMap_cons, List.append_assoc]
theorem nodes_val {l : List S55} {kp : Int} (H : HR l) : ∀ (h k : Nat) (p : Int), Tr l h p → 6 * h ≤ k → tree_Nodes.f k l kp p = some (Ns l h p) := by
  intro h
  induction h with
  | zero => intro k p t; exact t.elim
  | succ h ih =>
    intro k p t hk
    have hn := (t.rn H).2.1
    obtain ⟨k, rfl⟩ : ∃ m, k = m + 1 := ⟨k - 1, by omega⟩
    have tb := t.base
    simp only [tree_Nodes.f]
    rw [if_neg (by omega), if_pos tb.1, if_pos tb.2.1]
    match h, t, ih with
    | 0, t, ih =>
      have hlf : (rd_T55 l p).f2.f0 = true := t.2.2.2
      rw [hlf]
      exact nodes_skip [p] (It l p) _ (by omega) _ k 0 (Nat.zero_add _) (by omega)
    | h + 1, t, ih =>
      have hlf : (rd_T55 l p).f2.f0 = false := t.2.2.2.1
      rw [hlf]
      have := nodes_loop (kp := kp) (It l p) (It l p) (by omega) (Ns l (h + 1)) (6 * (h + 1)) (fun i hi k hk => ⟨ih k _ (t.2.2.2.2 i hi).1 hk, by
        have := ns_len H (t.2.2.2.2 i hi).1
        have := H.1
        omega⟩) _ k 0 [p] (Nat.zero_add _) (by omega) (by simp)
      exact this
theorem nodes_neg {l : List S55} {kp : Int} {p : Int} (hp : p < 0) {k : Nat} (hk : 1 ≤ k) : tree_Nodes.f k l kp p = some [] := by
  obtain ⟨k, rfl⟩ : ∃ m, k = m + 1 := ⟨k - 1, by omega⟩
  simp only [tree_Nodes.f]
  rw [if_pos hp]
theorem refNodes_loop {l : List S55} {kp : Int} (it : List S49) (hl : it.length ≤ 1000) (F : Int → List Int) (m : Nat)
    (hF : ∀ i, i < it.length → ∀ k, m ≤ k → assartref07_Nodes.f k l kp (vAt it i) = some (F (vAt it i)) ∧ (F (vAt it i)).length ≤ 100000) :
    ∀ (d k j : Nat) (acc : List Int), j + d = it.length → m + d + 1 ≤ k → acc.length ≤ 100000 * (j + 1) → assartref07_Nodes.l0 k acc (j : Int) l kp false it = some (acc ++ (it.drop j).flatMap fun x => F x.f1) := by
  intro d
  induction d with
  | zero =>
    intro k j acc hj hk ha
    obtain ⟨k, rfl⟩ : ∃ m, k = m + 1 := ⟨k - 1, by omega⟩
    simp only [assartref07_Nodes.l0]
    rw [if_neg (by omega), List.drop_eq_nil_of_le (by omega)]
    simp
  | succ d ih =>
    intro k j acc hj hk ha
    obtain ⟨k, rfl⟩ : ∃ m, k = m + 1 := ⟨k - 1, by omega⟩
    have hf := hF j (by omega) k (by omega)
    simp only [assartref07_Nodes.l0]
    rw [if_pos (by omega), if_neg (by simp), if_pos (by omega), hf.1, Option.bind_some, if_pos (by omega), wsucc j (by omega),
      ih k (j + 1) (acc ++ F (vAt it j)) (by omega) (by omega) (by rw [List.length_append]; omega), drop_at it j (by omega), List.flatMap_cons, List.append_assoc]
theorem refNodes_val {l : List S55} {kp : Int} (H : HR l) : ∀ (h k : Nat) (p : Int), Tr l h p → 6 * h ≤ k → assartref07_Nodes.f k l kp p = some (Ns l h p) := by
  intro h
  induction h with
  | zero => intro k p t; exact t.elim
  | succ h ih =>
    intro k p t hk
    have hn := t.rn H
    obtain ⟨k, rfl⟩ : ∃ m, k = m + 1 := ⟨k - 1, by omega⟩
    have tb := t.base
    simp only [assartref07_Nodes.f]
    rw [if_neg (by omega), if_pos tb.1, if_pos tb.2.1]
    match h, t, ih with
    | 0, t, ih =>
      have hlf : (rd_T55 l p).f2.f0 = true := t.2.2.2
      obtain ⟨k, rfl⟩ : ∃ m, k = m + 1 := ⟨k - 1, by omega⟩
      have := hn.1
      simp only [assartref07_Nodes.l0]
      rw [hlf, if_pos (show (0 : Int) < ((It l p).length : Int) by omega), if_pos rfl]
      rfl
    | h + 1, t, ih =>
      have hlf : (rd_T55 l p).f2.f0 = false := t.2.2.2.1
      rw [hlf]
      have := hn.2.1
      have := refNodes_loop (kp := kp) (It l p) (by omega) (Ns l (h + 1)) (6 * (h + 1)) (fun i hi k hk => ⟨ih k _ (t.2.2.2.2 i hi).1 hk, by
        have := ns_len H (t.2.2.2.2 i hi).1
        have := H.1
        omega⟩) _ k 0 [p] (Nat.zero_add _) (by omega) (by simp)
      exact this
theorem refNodes_neg {l : List S55} {kp : Int} {p : Int} (hp : p < 0) {k : Nat} (hk : 1 ≤ k) : assartref07_Nodes.f k l kp p = some [] := by
  obtain ⟨k, rfl⟩ : ∃ m, k = m + 1 := ⟨k - 1, by omega⟩
  simp only [assartref07_Nodes.f]
  rw [if_pos hp]
theorem ints_l0 (a b : List Int) (hl : a.length ≤ 1000000) (hab : a.length = b.length) : ∀ (d k j : Nat), j + d = a.length → d < k → a.drop j = b.drop j → assartref07_Ints.l0 k a b (j : Int) = some true := by
  intro d
  induction d with
  | zero =>
    intro k j hj hk _
    obtain ⟨k, rfl⟩ : ∃ m, k = m + 1 := ⟨k - 1, by omega⟩
    simp only [assartref07_Ints.l0]
    rw [if_neg (by omega)]
  | succ d ih =>
    intro k j hj hk he
    obtain ⟨k, rfl⟩ : ∃ m, k = m + 1 := ⟨k - 1, by omega⟩
    simp only [assartref07_Ints.l0]
    have h1 : j < a.length := by omega
    have h2 : j < b.length := by omega
    rw [List.drop_eq_getElem_cons h1, List.drop_eq_getElem_cons h2] at he
    have he := List.cons.inj he
    rw [if_pos (by omega), if_pos (by omega), if_pos (by omega), if_pos (by simp only [rd, Int.toNat_natCast, List.getD_eq_getElem?_getD, List.getElem?_eq_getElem h1, List.getElem?_eq_getElem h2, Option.getD_some]; exact he.1), wsucc j (by omega)]
    exact ih k (j + 1) (by omega) (by omega) he.2
theorem ints_same (a : List Int) (hl : a.length ≤ 1000000) {k : Nat} (hk : a.length < k) : assartref07_Ints.f k a a = some true := by
  unfold assartref07_Ints.f
  rw [if_pos rfl]
  exact ints_l0 a a hl rfl _ k 0 (Nat.zero_add _) hk rfl
end Go.Proofs.Yteiladccdenpbaa.P
end
section
namespace Go.Proofs.Yteiladccdenpbaa.P
open Go.RowKit Go.Proofs.YteiladccdenpbaaW.PrintWords Go.Proofs.YteiladccdenpbaaW.PrintLast Go.Proofs.YteiladccdenpbaaW.PrintMore
set_option linter.unusedVariables false
set_option linter.unusedSimpArgs false
def Pre (l : List S55) (it : List S49) (c j : Nat) : Prop := ∀ i, i < j → Tr l c (vAt it i) ∧ lo l (vAt it i) = kAt it i ∧ (i + 1 < j → Hi l c (vAt it i) < kAt it (i + 1))
theorem Pre.snoc {l : List S55} {it : List S49} {c j : Nat} (h : Pre l it c j) (t : Tr l c (vAt it j)) (k : lo l (vAt it j) = kAt it j) (g : 0 < j → Hi l c (vAt it (j - 1)) < kAt it j) : Pre l it c (j + 1) := fun i hi => by
  by_cases e : i = j
  · subst e; exact ⟨t, k, fun h => by omega⟩
  · refine ⟨(h i (by omega)).1, (h i (by omega)).2.1, fun h2 => ?_⟩
    by_cases e2 : i + 1 = j
    · have := g (by omega)
      rw [show j - 1 = i by omega] at this
      rw [e2]
      exact this
    · exact (h i (by omega)).2.2 (by omega)
theorem pre_tr {l : List S55} {p : Int} (h0 : 0 ≤ p) (h1 : p < (l.length : Int)) (hr : 0 < Rf l p) (hl : Lf l p = false) {c : Nat} (hc : 1 ≤ c) : Tr l (c + 1) p ↔ Pre l (It l p) c (It l p).length := by
  obtain ⟨c, rfl⟩ : ∃ m, c = m + 1 := ⟨c - 1, by omega⟩
  exact ⟨fun t i hi => t.2.2.2.2 i hi, fun h => ⟨h0, h1, hr, hl, fun i hi => h i hi⟩⟩
abbrev BS (l : List S55) (p : Int) (m : Nat) (r : Int × Int × Int × Bool) : Prop :=
  (r.2.2.2 = true → ∃ h, h ≤ m ∧ Tr l h p ∧ r.1 = lo l p ∧ r.2.1 = Hi l h p ∧ r.2.2.1 = (h : Int)) ∧ (r.2.2.2 = false → ∀ h, h ≤ m → ¬ Tr l h p)
abbrev BL (l : List S55) (it : List S49) (m : Nat) (r : Int × Int × Int × Bool) : Prop :=
  (r.2.2.2 = true → ∃ c, 1 ≤ c ∧ c ≤ m ∧ Pre l it c it.length ∧ r.1 = kAt it 0 ∧ r.2.1 = Hi l c (vAt it (it.length - 1)) ∧ r.2.2.1 = (c : Int) + 1) ∧ (r.2.2.2 = false → ∀ c, c ≤ m → ¬ Pre l it c it.length)
theorem below_loop {l : List S55} {kp : Int} (H : HR l) (it : List S49) (lf : Bool) (hl0 : 0 < it.length) (hl : it.length ≤ 1000) (m : Nat) (hm : m ≤ 1000)
    (hF : ∀ i, i < it.length → ∀ k, 10 * m + 10 ≤ k → ∃ r, assartref07_below.f k l kp (vAt it i) (m : Int) = some r ∧ BS l (vAt it i) m r) :
    ∀ (d k j : Nat) (a b c : Int) (is : Bool), j + d = it.length → 10 * m + 10 + 2 * d + 1 ≤ k →
      (0 < j → ∃ h : Nat, 1 ≤ h ∧ h ≤ m ∧ Pre l it h j ∧ a = kAt it 0 ∧ b = Hi l h (vAt it (j - 1)) ∧ c = (h : Int) + 1) →
      ∃ r, assartref07_below.l0 k ((m + 1 : Nat) : Int) (j : Int) l kp lf it a b c is = some r ∧ BL l it m r := by
  intro d
  induction d with
  | zero =>
    intro k j a b c is hj hk hI
    obtain ⟨k, rfl⟩ : ∃ m, k = m + 1 := ⟨k - 1, by omega⟩
    obtain rfl : j = it.length := by omega
    simp only [assartref07_below.l0]
    rw [if_neg (by omega)]
    exact ⟨_, rfl, fun _ => hI hl0, fun h => by cases h⟩
  | succ d ih =>
    intro k j a b c is hj hk hI
    obtain ⟨k, rfl⟩ : ∃ m, k = m + 2 := ⟨k - 2, by omega⟩
    obtain ⟨x, hx, hs⟩ := hF j (by omega) (k + 1) (by omega)
    simp only [assartref07_below.l0]
    have hw : wrap64 (((m + 1 : Nat) : Int) - 1) = (m : Int) := by unfold wrap64; omega
    rw [if_pos (by omega), if_pos (by omega), hw, show (rd_T49 it (j : Nat)).f1 = vAt it j from rfl, show (rd_T49 it (j : Nat)).f0 = kAt it j from rfl, hx, Option.bind_some]
    have no : ∀ r : Int × Int × Int × Bool, r = (0, 0, 0, false) → (∀ c, c ≤ m → Pre l it c it.length → False) → ∃ r', (some r : Option (Int × Int × Int × Bool)) = some r' ∧ BL l it m r' :=
      fun r e h => ⟨r, rfl, fun hh => (by rw [e] at hh; cases hh), fun _ c hc hp => h c hc hp⟩
    by_cases h1 : x.2.2.2 = true
    · rw [if_pos h1]
      obtain ⟨h, hhm, ht, hlo, hhi, hhg⟩ := hs.1 h1
      have hh1 := ht.pos
      by_cases h2 : x.1 = kAt it j
      · rw [if_pos h2]
        by_cases h3 : (j : Int) > 0
        · obtain ⟨c', c1, c2, hp, rfl, rfl, rfl⟩ := hI (by omega)
          rw [if_pos h3]
          by_cases h4 : Hi l c' (vAt it (j - 1)) ≥ x.1
          · rw [if_pos h4]
            simp only [assartref07_below.j1]
            rw [if_pos trivial]
            refine no _ rfl fun c hc hq => ?_
            have e := tr_uniq H (hp (j - 1) (by omega)).1 (hq (j - 1) (by omega)).1
            subst e
            have := (hq (j - 1) (by omega)).2.2 (by omega)
            rw [show j - 1 + 1 = j by omega] at this
            omega
          · rw [if_neg h4]
            have hw2 : wrap64 (x.2.2.1 + 1) = (h : Int) + 1 := by rw [hhg]; unfold wrap64; omega
            rw [hw2]
            by_cases h5 : c' = h
            · subst h5
              simp only [assartref07_below.j1]
              rw [if_neg (by simp), if_neg (by omega), wsucc j (by omega)]
              exact ih k (j + 1) _ _ _ _ (by omega) (by omega) (fun _ => ⟨c', c1, c2, hp.snoc ht (by rw [← hlo, h2]) (fun _ => by omega), rfl, by rw [hhi]; rfl, rfl⟩)
            · simp only [assartref07_below.j1]
              rw [if_pos (by rw [bne_iff_ne]; omega)]
              refine no _ rfl fun c hc hq => ?_
              have e := tr_uniq H (hp (j - 1) (by omega)).1 (hq (j - 1) (by omega)).1
              have e2 := tr_uniq H ht (hq j (by omega)).1
              omega
        · obtain rfl : j = 0 := by omega
          rw [if_neg h3]
          simp only [assartref07_below.j1]
          have hw2 : wrap64 (x.2.2.1 + 1) = (h : Int) + 1 := by rw [hhg]; unfold wrap64; omega
          rw [if_neg (by simp), if_pos (show ((0 : Nat) : Int) = 0 from rfl), wsucc 0 (by omega), hw2]
          exact ih k (0 + 1) _ _ _ _ (by omega) (by omega) (fun _ => ⟨h, hh1, hhm, Pre.snoc (fun i hi => by omega) ht (by rw [← hlo, h2]) (fun h => by omega), h2, hhi, rfl⟩)
      · rw [if_neg h2]
        simp only [assartref07_below.j1]
        rw [if_pos trivial]
        refine no _ rfl fun c hc hq => ?_
        have := (hq j (by omega)).2.1
        omega
    · rw [if_neg h1]
      simp only [assartref07_below.j1]
      rw [if_pos trivial]
      rw [Bool.not_eq_true] at h1
      exact no _ rfl fun c hc hq => hs.2 h1 c hc (hq j (by omega)).1
theorem below_val {l : List S55} {kp : Int} (H : HR l) : ∀ (m k : Nat) (p : Int), m ≤ 1000 → 0 ≤ p → p < (l.length : Int) → 10 * m + 10 ≤ k → ∃ r, assartref07_below.f k l kp p (m : Int) = some r ∧ BS l p m r := by
  intro m
  induction m with
  | zero =>
    intro k p hm h0 h1 hk
    obtain ⟨k, rfl⟩ : ∃ m, k = m + 1 := ⟨k - 1, by omega⟩
    have none : ∀ h, h ≤ 0 → ¬ Tr l h p := fun h hh t => by have := t.pos; omega
    simp only [assartref07_below.f]
    rw [if_pos h0, if_pos h1]
    by_cases hr : Rf l p < 1
    · rw [if_pos hr]
      exact ⟨_, rfl, fun h => (by cases h), fun _ => none⟩
    · rw [if_neg hr]
      have hn := H.rn h0 h1 (by omega)
      have := hn.1
      have := hn.2.1
      by_cases hl : (rd_T55 l p).f2.f0 = true
      · have hw : wrap64 (((rd_T55 l p).f2.f1.length : Int) - 1) = (((It l p).length - 1 : Nat) : Int) := by
          show wrap64 (((It l p).length : Int) - 1) = _
          unfold wrap64; omega
        rw [if_pos hl, if_pos (show (0 : Int) < ((It l p).length : Int) by omega), hw, if_pos (by omega), if_pos (show (((It l p).length - 1 : Nat) : Int) < ((It l p).length : Int) by omega)]
        exact ⟨_, rfl, fun h => by simp at h, fun _ => none⟩
      · rw [if_neg hl, if_pos (by omega)]
        exact ⟨_, rfl, fun h => (by cases h), fun _ => none⟩
  | succ m ih =>
    intro k p hm h0 h1 hk
    obtain ⟨k, rfl⟩ : ∃ m, k = m + 1 := ⟨k - 1, by omega⟩
    simp only [assartref07_below.f]
    rw [if_pos h0, if_pos h1]
    by_cases hr : Rf l p < 1
    · rw [if_pos hr]
      exact ⟨_, rfl, fun h => (by cases h), fun _ h _ t => (by have := t.base.2.2; omega)⟩
    · rw [if_neg hr]
      have hn := H.rn h0 h1 (by omega)
      have := hn.1
      have := hn.2.1
      by_cases hl : (rd_T55 l p).f2.f0 = true
      · have hw : wrap64 (((rd_T55 l p).f2.f1.length : Int) - 1) = (((It l p).length - 1 : Nat) : Int) := by
          show wrap64 (((It l p).length : Int) - 1) = _
          unfold wrap64; omega
        rw [if_pos hl, if_pos (show (0 : Int) < ((It l p).length : Int) by omega), hw, if_pos (by omega), if_pos (show (((It l p).length - 1 : Nat) : Int) < ((It l p).length : Int) by omega)]
        refine ⟨_, rfl, fun _ => ⟨1, by omega, ⟨h0, h1, by omega, hl⟩, rfl, rfl, rfl⟩, fun h => ?_⟩
        have := of_decide_eq_false h
        omega
      · rw [if_neg hl]
        rw [Bool.not_eq_true] at hl
        have hlf : Lf l p = false := hl
        by_cases hm1 : m = 0
        · subst hm1
          rw [if_pos (by omega)]
          refine ⟨_, rfl, fun h => (by cases h), fun _ h hh t => ?_⟩
          have a := t.leaf
          rw [hlf] at a
          have := t.pos
          have := of_decide_eq_false a.symm
          omega
        · rw [if_neg (by omega)]
          obtain ⟨r, hr', hs⟩ := below_loop (kp := kp) H (It l p) (Lf l p) (by omega) (by omega) m (by omega) (fun i hi k hk => by
            have := H.ch h0 h1 (by omega) hlf hi
            exact ih k _ (by omega) this.1 this.2 hk) _ k 0 0 0 0 false (Nat.zero_add _) (by omega) (fun h => by omega)
          refine ⟨r, hr', fun h => ?_, fun h h' hh t => ?_⟩
          · obtain ⟨c, c1, c2, hp, e1, e2, e3⟩ := hs.1 h
            refine ⟨c + 1, by omega, (pre_tr h0 h1 (by omega) hlf c1).2 hp, e1, ?_, by rw [e3]; rfl⟩
            obtain ⟨c, rfl⟩ : ∃ m, c = m + 1 := ⟨c - 1, by omega⟩
            exact e2
          · have a := t.leaf
            rw [hlf] at a
            have a := of_decide_eq_false a.symm
            have := t.pos
            obtain ⟨c, rfl⟩ : ∃ c, h' = c + 1 := ⟨h' - 1, by omega⟩
            exact hs.2 h c (by omega) ((pre_tr h0 h1 (by omega) hlf (by omega)).1 t)
def RightP (l : List S55) (root : Int) : Prop := root = -1 ∨ ∃ h, h ≤ 20 ∧ Tr l h root
theorem refRight_val {l : List S55} {kp : Int} (H : HR l) (root : Int) {k : Nat} (hk : 300 ≤ k) : ∃ b, assartref07_Right.f k l kp root = some b ∧ (b = true ↔ RightP l root) := by
  unfold assartref07_Right.f assartref05_Used.f
  by_cases h : root = -1
  · rw [if_pos h]
    exact ⟨true, rfl, fun _ => .inl h, fun _ => rfl⟩
  · rw [if_neg h]
    have none : (root < 0 ∨ (l.length : Int) ≤ root ∨ Rf l root ≤ 0) → ¬ RightP l root := by
      rintro hh (e | ⟨c, _, t⟩)
      · exact h e
      · have := t.base; omega
    by_cases h0 : root ≥ 0
    · rw [if_pos h0]
      by_cases h1 : root < (l.length : Int)
      · rw [if_pos h1, if_pos h0, Option.bind_some]
        by_cases h2 : (rd_T55 l root).f0 > 0
        · rw [if_pos (decide_eq_true h2)]
          obtain ⟨r, hr, hs⟩ := below_val (kp := kp) H 20 k root (by omega) h0 h1 (by omega)
          rw [show ((20 : Nat) : Int) = 20 from rfl] at hr
          rw [hr, Option.bind_some]
          refine ⟨_, rfl, fun hb => ?_, fun hb => ?_⟩
          · obtain ⟨c, hc, t, _⟩ := hs.1 hb
            exact .inr ⟨c, hc, t⟩
          · rcases hb with hb | ⟨c, hc, t⟩
            · exact absurd hb h
            · cases hb : r.2.2.2 with
              | true => rfl
              | false => exact absurd t (hs.2 hb c hc)
        · rw [if_neg (by simpa using h2)]
          exact ⟨_, rfl, fun h => (by cases h), fun hb => absurd hb (none (by simp only [Rf]; omega))⟩
      · rw [if_neg h1, Option.bind_some, if_neg (by simp)]
        exact ⟨_, rfl, fun h => (by cases h), fun hb => absurd hb (none (by omega))⟩
    · rw [if_neg h0, Option.bind_some, if_neg (by simp)]
      exact ⟨_, rfl, fun h => (by cases h), fun hb => absurd hb (none (by omega))⟩
abbrev WS (l : List S55) (p : Int) (c : Nat) (r : Int × Int × Bool) : Prop := (r.2.2 = true ↔ Tr l c p) ∧ (r.2.2 = true → r.1 = lo l p ∧ r.2.1 = Hi l c p)
theorem whole_loop {l : List S55} {kp : Int} (H : HR l) (it : List S49) (hl0 : 0 < it.length) (hl : it.length ≤ 1000) (c : Nat) (hc : 1 ≤ c) (hm : c ≤ 1000)
    (hF : ∀ i, i < it.length → ∀ k, 8 * c + 8 ≤ k → ∃ r, tree_whole.f k l kp (vAt it i) (c : Int) = some r ∧ WS l (vAt it i) c r) :
    ∀ (d k j : Nat) (a b : Int), j + d = it.length → 8 * c + 8 + d + 1 ≤ k → Pre l it c j → (0 < j → b = Hi l c (vAt it (j - 1))) →
      ∃ r, tree_whole.l0 k ((c + 1 : Nat) : Int) it (it.length : Int) (j : Int) l kp a b = some r ∧ (r.2.2 = true ↔ Pre l it c it.length) ∧ (r.2.2 = true → r.1 = a ∧ r.2.1 = Hi l c (vAt it (it.length - 1))) := by
  intro d
  induction d with
  | zero =>
    intro k j a b hj hk hp hb
    obtain ⟨k, rfl⟩ : ∃ m, k = m + 1 := ⟨k - 1, by omega⟩
    obtain rfl : j = it.length := by omega
    simp only [tree_whole.l0]
    rw [if_neg (by omega)]
    exact ⟨_, rfl, ⟨fun _ => hp, fun _ => rfl⟩, fun _ => ⟨rfl, hb hl0⟩⟩
  | succ d ih =>
    intro k j a b hj hk hp hb
    obtain ⟨k, rfl⟩ : ∃ m, k = m + 1 := ⟨k - 1, by omega⟩
    obtain ⟨x, hx, hs1, hs2⟩ := hF j (by omega) k (by omega)
    simp only [tree_whole.l0]
    have hw : wrap64 (((c + 1 : Nat) : Int) - 1) = (c : Int) := by unfold wrap64; omega
    rw [if_pos (by omega), if_pos (by omega), if_pos (by omega), hw, show (rd_T49 it (j : Nat)).f1 = vAt it j from rfl, show (rd_T49 it (j : Nat)).f0 = kAt it j from rfl, hx, Option.bind_some, wsucc j (by omega)]
    have no : ∀ u v : Int, (Pre l it c it.length → False) → ∃ r, some (u, v, false) = some r ∧ (r.2.2 = true ↔ Pre l it c it.length) ∧ (r.2.2 = true → r.1 = a ∧ r.2.1 = Hi l c (vAt it (it.length - 1))) :=
      fun u v h => ⟨_, rfl, ⟨fun h => (by cases h), fun hh => (h hh).elim⟩, fun h => by cases h⟩
    by_cases h1 : x.2.2 = true
    · rw [if_pos h1]
      have ht := hs1.1 h1
      obtain ⟨hlo, hhi⟩ := hs2 h1
      by_cases h2 : x.1 = kAt it j
      · rw [if_pos h2]
        by_cases h3 : (j : Int) > 0
        · rw [if_pos h3]
          have hb := hb (by omega)
          by_cases h4 : b ≥ kAt it j
          · rw [if_pos h4]
            refine no _ _ fun hq => ?_
            have := (hq (j - 1) (by omega)).2.2 (by omega)
            rw [show j - 1 + 1 = j by omega] at this
            omega
          · rw [if_neg h4]
            exact ih k (j + 1) _ _ (by omega) (by omega) (hp.snoc ht (by rw [← hlo, h2]) (fun _ => by omega)) (fun _ => by rw [hhi]; rfl)
        · rw [if_neg h3]
          exact ih k (j + 1) _ _ (by omega) (by omega) (hp.snoc ht (by rw [← hlo, h2]) (fun h => by omega)) (fun _ => by rw [hhi]; rfl)
      · rw [if_neg h2]
        refine no _ _ fun hq => ?_
        have := (hq j (by omega)).2.1
        omega
    · rw [if_neg h1]
      exact no _ _ fun hq => h1 (hs1.2 (hq j (by omega)).1)
theorem whole_val {l : List S55} {kp : Int} (H : HR l) : ∀ (c k : Nat) (p : Int), 1 ≤ c → c ≤ 1000 → 0 ≤ p → p < (l.length : Int) → 8 * c + 8 ≤ k → ∃ r, tree_whole.f k l kp p (c : Int) = some r ∧ WS l p c r := by
  intro c
  induction c with
  | zero => intro k p h; omega
  | succ c ih =>
    intro k p _ hc h0 h1 hk
    obtain ⟨k, rfl⟩ : ∃ m, k = m + 2 := ⟨k - 2, by omega⟩
    have no : ∀ u v : Int, ¬ Tr l (c + 1) p → ∃ r, some (u, v, false) = some r ∧ WS l p (c + 1) r :=
      fun u v h => ⟨_, rfl, ⟨fun h => (by cases h), fun hh => (h hh).elim⟩, fun h => by cases h⟩
    simp only [tree_whole.f]
    rw [if_pos h0, if_pos h1]
    have hrf := (H.rf h0 h1).1
    by_cases hr : (rd_T55 l p).f0 = 0
    · rw [if_pos hr]
      exact no _ _ fun t => by have := t.base.2.2; simp only [Rf] at this; omega
    · rw [if_neg hr]
      have hr : 0 < Rf l p := by simp only [Rf] at hrf ⊢; omega
      have hn := H.rn h0 h1 hr
      have := hn.1
      have := hn.2.1
      have hw : wrap64 (((rd_T55 l p).f2.f1.length : Int) - 1) = (((It l p).length - 1 : Nat) : Int) := by
        show wrap64 (((It l p).length : Int) - 1) = _
        unfold wrap64; omega
      by_cases hl : (rd_T55 l p).f2.f0 = true
      · rw [if_pos hl]
        simp only [tree_whole.j0]
        rw [if_pos trivial, if_pos (show (0 : Int) < ((It l p).length : Int) by omega), hw, if_pos (by omega), if_pos (show (((It l p).length - 1 : Nat) : Int) < ((It l p).length : Int) by omega), if_pos hl]
        by_cases e : c = 0
        · subst e
          exact ⟨_, rfl, ⟨fun _ => ⟨h0, h1, hr, hl⟩, fun _ => rfl⟩, fun _ => ⟨rfl, rfl⟩⟩
        · rw [show (((c + 1 : Nat) : Int) == 1) = false from beq_eq_false_iff_ne.2 (by omega)]
          refine no _ _ fun t => ?_
          have a := t.leaf
          simp only [Lf] at a
          rw [hl] at a
          have := of_decide_eq_true a.symm
          omega
      · rw [if_neg hl]
        rw [Bool.not_eq_true] at hl
        simp only [tree_whole.j0]
        by_cases e : c = 0
        · subst e
          rw [if_pos (by rfl), if_pos (show (0 : Int) < ((It l p).length : Int) by omega), hw, if_pos (by omega), if_pos (show (((It l p).length - 1 : Nat) : Int) < ((It l p).length : Int) by omega), if_neg (by rw [hl]; simp)]
          refine no _ _ fun t => ?_
          have a := t.leaf
          simp only [Lf] at a
          rw [hl] at a
          cases a
        · rw [if_neg (by rw [beq_iff_eq]; omega), if_pos (show (0 : Int) < ((It l p).length : Int) by omega)]
          obtain ⟨r, hr', hs1, hs2⟩ := whole_loop (kp := kp) H (It l p) (by omega) (by omega) c (by omega) (by omega) (fun i hi k hk => by
            have := H.ch h0 h1 hr hl hi
            exact ih k _ (by omega) (by omega) this.1 this.2 hk) _ k 0 (kAt (It l p) 0) 0 (Nat.zero_add _) (by omega) (fun i hi => by omega) (fun h => by omega)
          refine ⟨r, hr', hs1.trans (pre_tr h0 h1 hr hl (by omega)).symm, fun h => ⟨(hs2 h).1, ?_⟩⟩
          obtain ⟨c, rfl⟩ : ∃ m, c = m + 1 := ⟨c - 1, by omega⟩
          exact (hs2 h).2
def LD (l : List S55) : Nat → Int → Prop
  | 0, p => Lf l p = true
  | m + 1, p => Lf l p = false ∧ 0 < Rf l (vAt (It l p) 0) ∧ LD l m (vAt (It l p) 0)
theorem tr_ld {l : List S55} (H : HR l) : ∀ (h : Nat) (p : Int), Tr l (h + 1) p → LD l h p := by
  intro h
  induction h with
  | zero => intro p t; exact t.2.2.2
  | succ h ih =>
    intro p t
    have hn := (t.rn H).1
    have t0 := (t.2.2.2.2 0 (by omega)).1
    exact ⟨t.2.2.2.1, t0.base.2.2, ih _ t0⟩
theorem right_l0 {l : List S55} {kp : Int} (H : HR l) (root : Int) (r0 : 0 ≤ root) (r1 : root < (l.length : Int)) : ∀ (d j k : Nat) (p : Int), j + d = 20 → 1 ≤ j → 0 ≤ p → p < (l.length : Int) → 0 < Rf l p → 200 + d ≤ k →
    ∃ r, tree_Right.l0 k root (j : Int) p l kp = some r ∧ (r = true ↔ ∃ m, m ≤ d ∧ LD l m p ∧ Tr l (j + m) root) := by
  intro d
  induction d with
  | zero =>
    intro j k p hj hj1 h0 h1 hr hk
    obtain ⟨k, rfl⟩ : ∃ m, k = m + 1 := ⟨k - 1, by omega⟩
    simp only [tree_Right.l0]
    rw [if_pos h0, if_pos h1]
    by_cases hl : (rd_T55 l p).f2.f0 = true
    · rw [if_pos hl]
      obtain ⟨r, hr', hs, _⟩ := whole_val (kp := kp) H j k root hj1 (by omega) r0 r1 (by omega)
      rw [hr', Option.bind_some]
      refine ⟨_, rfl, hs.trans ⟨fun t => ⟨0, Nat.le_refl _, hl, t⟩, fun ⟨m, hm, _, t⟩ => ?_⟩⟩
      obtain rfl : m = 0 := by omega
      exact t
    · rw [if_neg hl, if_pos (by omega)]
      refine ⟨_, rfl, fun h => (by cases h), fun ⟨m, hm, hd, _⟩ => ?_⟩
      obtain rfl : m = 0 := by omega
      exact absurd hd hl
  | succ d ih =>
    intro j k p hj hj1 h0 h1 hr hk
    obtain ⟨k, rfl⟩ : ∃ m, k = m + 1 := ⟨k - 1, by omega⟩
    have hn := (H.rn h0 h1 hr).1
    simp only [tree_Right.l0]
    rw [if_pos h0, if_pos h1]
    by_cases hl : (rd_T55 l p).f2.f0 = true
    · rw [if_pos hl]
      obtain ⟨r, hr', hs, _⟩ := whole_val (kp := kp) H j k root hj1 (by omega) r0 r1 (by omega)
      rw [hr', Option.bind_some]
      refine ⟨_, rfl, hs.trans ⟨fun t => ⟨0, by omega, hl, t⟩, fun ⟨m, hm, hd, t⟩ => ?_⟩⟩
      match m, hd, t with
      | 0, hd, t => exact t
      | m + 1, hd, t => exact absurd (show Lf l p = true from hl) (by rw [hd.1]; simp)
    · rw [if_neg hl, if_neg (by omega), if_pos (show (0 : Int) < ((It l p).length : Int) by omega)]
      rw [Bool.not_eq_true] at hl
      have hch := H.ch h0 h1 hr hl (show 0 < (It l p).length by omega)
      have hw : wrap64 ((j : Int) + 1) = ((j + 1 : Nat) : Int) := wsucc j (by omega)
      rw [if_pos (show 0 ≤ (rd_T49 (rd_T55 l p).f2.f1 0).f1 from hch.1), if_pos (show (rd_T49 (rd_T55 l p).f2.f1 0).f1 < (l.length : Int) from hch.2), hw]
      have hrf := (H.rf hch.1 hch.2).1
      by_cases h3 : (rd_T55 l (rd_T49 (rd_T55 l p).f2.f1 0).f1).f0 = 0
      · rw [if_pos h3]
        have h3 : Rf l (vAt (It l p) 0) = 0 := h3
        refine ⟨_, rfl, fun h => (by cases h), fun ⟨m, hm, hd, _⟩ => ?_⟩
        match m, hd with
        | 0, hd => exact absurd hd (by show ¬ (rd_T55 l p).f2.f0 = true; rw [hl]; simp)
        | m + 1, hd => have := hd.2.1; omega
      · rw [if_neg h3]
        have h3 : ¬ Rf l (vAt (It l p) 0) = 0 := h3
        obtain ⟨r, hr', hs⟩ := ih (j + 1) k (vAt (It l p) 0) (by omega) (by omega) hch.1 hch.2 (by omega) (by omega)
        refine ⟨r, hr', hs.trans ⟨fun ⟨m, hm, hd, t⟩ => ⟨m + 1, by omega, ⟨hl, by omega, hd⟩, by rw [show j + (m + 1) = j + 1 + m by omega]; exact t⟩, fun ⟨m, hm, hd, t⟩ => ?_⟩⟩
        match m, hd, t with
        | 0, hd, t => exact absurd hd (by show ¬ (rd_T55 l p).f2.f0 = true; rw [hl]; simp)
        | m + 1, hd, t => exact ⟨m, by omega, hd.2.2, by rw [show j + 1 + m = j + (m + 1) by omega]; exact t⟩
theorem right_val {l : List S55} {kp : Int} (H : HR l) (root : Int) {k : Nat} (hk : 300 ≤ k) : ∃ b, tree_Right.f k l kp root = some b ∧ (b = true ↔ RightP l root) := by
  unfold tree_Right.f
  obtain ⟨k, rfl⟩ : ∃ m, k = m + 1 := ⟨k - 1, by omega⟩
  by_cases h : root = -1
  · rw [if_pos h]
    exact ⟨true, rfl, fun _ => .inl h, fun _ => rfl⟩
  · rw [if_neg h]
    simp only [tree_Right.j0]
    have none : (root < 0 ∨ (l.length : Int) ≤ root ∨ Rf l root ≤ 0) → ¬ RightP l root := by
      rintro hh (e | ⟨c, _, t⟩)
      · exact h e
      · have := t.base; omega
    by_cases h0 : root < 0
    · rw [if_pos h0, if_pos trivial]
      exact ⟨_, rfl, fun h => (by cases h), fun hb => absurd hb (none (by omega))⟩
    · rw [if_neg h0]
      by_cases h1 : root ≥ (l.length : Int)
      · rw [if_pos h1, if_pos trivial]
        exact ⟨_, rfl, fun h => (by cases h), fun hb => absurd hb (none (by omega))⟩
      · rw [if_neg h1, if_pos (by omega), if_pos (by omega)]
        have hrf := (H.rf (p := root) (by omega) (by omega)).1
        by_cases h2 : Rf l root = 0
        · rw [if_pos (beq_iff_eq.2 h2)]
          exact ⟨_, rfl, fun h => (by cases h), fun hb => absurd hb (none (by omega))⟩
        · rw [if_neg (by rw [beq_iff_eq]; exact h2)]
          obtain ⟨r, hr, hs⟩ := right_l0 (kp := kp) H root (by omega) (by omega) 19 1 k root (by omega) (by omega) (by omega) (by omega) (by omega) (by omega)
          rw [show ((1 : Nat) : Int) = 1 from rfl] at hr
          refine ⟨r, hr, hs.trans ⟨fun ⟨m, hm, _, t⟩ => .inr ⟨1 + m, by omega, t⟩, fun hb => ?_⟩⟩
          rcases hb with hb | ⟨c, hc, t⟩
          · exact absurd hb h
          · have := t.pos
            obtain ⟨c, rfl⟩ : ∃ m, c = m + 1 := ⟨c - 1, by omega⟩
            exact ⟨c, by omega, tr_ld H c root t, by rw [Nat.add_comm]; exact t⟩
end Go.Proofs.Yteiladccdenpbaa.P
end
section
namespace Go.Proofs.Yteiladccdenpbaa.Pure
open Go.RowKit Go.Proofs.Yteiladccdenpbaa.P Go.Proofs.YteiladccdenpbaaW.PrintWords Go.Proofs.YteiladccdenpbaaW.PrintLast
theorem TreeTells : assartlaw07_TreeTells.QPure := by
  intro l kp root n _ _ _ hn
  refine ⟨10000, ?_⟩
  unfold assartlaw07_TreeTells.f assartlaw07_shown.f tree_Need.f assartref07_Need.f
  have := may05_val l kp 60 (by omega) 10000 (by omega)
  rw [show ((60 : Nat) : Int) = 60 from rfl] at this
  rw [Option.bind_some, this, Option.bind_some]
  by_cases h : mayH l kp 60
  · have H := HR.of h.2.2
    rw [if_pos (decide_eq_true h)]
    obtain ⟨b, hb, hs⟩ := refRight_val (kp := kp) H root (k := 10000) (by omega)
    obtain ⟨c, hc, hs2⟩ := right_val (kp := kp) H root (k := 10000) (by omega)
    have e : c = b := by rw [Bool.eq_iff_iff, hs, hs2]
    subst e
    rw [hb, Option.bind_some, hc, Option.bind_some, if_neg (by simp), Option.bind_some, Option.bind_some]
    rw [show (10000 : Nat) = 9999 + 1 from rfl]
    simp only [assartlaw07_TreeTells.j0]
    rw [if_neg (by simp), if_pos trivial]
    by_cases hr : c = true
    · rw [if_pos hr]
      rcases hs.1 hr with e | ⟨h', hh, t⟩
      · rw [high_neg (by omega) (by omega), Option.bind_some, refHigh_neg (by omega) (by omega), Option.bind_some, if_pos rfl, nodes_neg (by omega) (by omega), Option.bind_some, refNodes_neg (by omega) (by omega), Option.bind_some, ints_same [] (by simp) (by simp), Option.bind_some]
      · have hl := ns_len H t
        have := h.1
        rw [high_val H t (by omega) (by omega), Option.bind_some, refHigh_val H h' _ root t (by omega) (by omega), Option.bind_some, if_pos rfl, nodes_val H h' _ root t (by omega), Option.bind_some, refNodes_val H h' _ root t (by omega), Option.bind_some, ints_same _ (by omega) (by omega), Option.bind_some]
    · rw [if_neg hr]
  · rw [if_neg (by simpa using h)]
end Go.Proofs.Yteiladccdenpbaa.Pure
end
section
namespace Go.Proofs.Yteiladccdenpbaa.treeTells
open Go.ChangeShapes Go.WideShapes Go.ChangeAt Go.RowKit Go.Proofs.Yteiladccdenpbaa.P Go.Proofs.YteiladccdenpbaaW.PrintWords Go.Proofs.YteiladccdenpbaaW.PrintLast Go.Proofs.YteiladccdenpbaaW.PrintMore
open Go.ChangeMaps (open_string shut_string)
set_option linter.unusedVariables false
set_option linter.unusedSimpArgs false
theorem own : ownKnob Try.prog.godebug = none := by kernel_rfl
theorem laidOut : laidOutB Try.prog = true := by kernel_rfl
set_option maxHeartbeats 1000000 in
set_option maxRecDepth 100000 in
theorem lifted (os : Os) (started : os.Started) (H : Type) (enc : TypeId × Value → H) :
  ReturnsInHanded {} Try.checked os 3 .any (Rows.treeTellsSpec.pre6 enc Try.prog Try.f3 Rows.treeTellsRow.domain false) (Rows.treeTellsSpec.post enc Try.prog Try.f3 false true false false) := by
 refine returnsInHanded_of_change_sized (C := Try.checked) own started (by kernel_rfl) Try.func3
  (ChangeSpec.witness6 (enc := enc) (C := Try.checked) false ⟨#[], #[.agg #[.slice none 0 0, .int .i64 0], .int .i64 0, .int .u16 0], []⟩ 8 (by kernel_rfl) (by kernel_rfl) (by kernel_rfl) (by kernel_rfl)) ?_
 intro W base args ds gs before hval0 hW hcnd hsz0 _
 have hsz : (DataW.weightsEach Try.prog (Try.f3.params.toList ++ Rows.treeTellsSpec.plain.varTypes Try.prog) (ds ++ gs)).all (· ≤ reachBytes) = true := hsz0
 have hval : ∀ (j : Nat) t v, Try.f3.params[j]? = some t → args[j]? = some v → Value.okWide Try.prog W .any base t v := hval0
 have hW' := hW
 obtain ⟨p, q, hA0, hV, rfl, hfz, hnd⟩ := hW
 have hA : DataW.TrodAll enc Try.prog W 0 (fun _ => true) true Try.f3.params.toList args.toList ds p := hA0
 rw [Try.params3] at hA hval hsz
 obtain ⟨v0, vs0, d0, ds0, p0, q0, hargs, rfl, rfl, h0, r0⟩ := trodAll_cons hA
 obtain ⟨v1, vs1, d1, ds1, p1, q1, rfl, rfl, rfl, h1, r1⟩ := trodAll_cons r0
 obtain ⟨v2, vs2, d2, ds2, p2, q2, rfl, rfl, rfl, h2, r2⟩ := trodAll_cons r1
 obtain ⟨rfl, rfl, rfl⟩ := trodAll_nil r2
 obtain rfl : args = #[v0, v1, v2] := by cases args; simp_all
 obtain ⟨rfl, rfl⟩ := trodVars_none hV
 have k0 := h0
 have lt0 : ∀ x ∈ p0, x.block < W.heap.size := by obtain ⟨m, hm⟩ := k0; exact DataW.trod_lt m _ _ _ hm
 have wt0 := weights_at hsz (j := 0) (t := 24) (d := d0) rfl rfl
 obtain ⟨fuel0, hf0⟩ := h0
 obtain ⟨x0, hK0, hok0⟩ := (Opens.struct (f := id) (g := id) (fun _ => rfl) Try.underlying24 rfl (by kernel_rfl) (OpensFs.cons rfl rfl (Opens.slice (B := 48) Try.underlying22 (by kernel_rfl) (by kernel_rfl) opens55) rfl (OpensFs.one rfl rfl (Opens.int Try.underlying3 (by kernel_rfl))))).op hf0 wt0
 obtain ⟨cs0, rfl, hsz0⟩ := okWide_struct Try.underlying24 (hval 0 24 v0 rfl rfl)
 obtain ⟨l0_0, a0_1⟩ := x0
 obtain ⟨L0, hL0⟩ : ∃ L, (Value.agg cs0).cells.toList = L := ⟨_, rfl⟩
 rw [hL0] at hK0
 obtain ⟨_, _, rfl, ⟨A0_0, c0_0, rfl, hc0_0, hr0_0⟩, rfl⟩ := hK0
 obtain rfl : cs0 = #[.slice A0_0 l0_0.length c0_0, .int .i64 a0_1] := by have h := hL0; simp [Value.cells] at h; cases cs0; simp_all
 obtain ⟨o0_0, o0_1⟩ := hok0
 have k1 := h1
 have lt1 : ∀ x ∈ p1, x.block < W.heap.size := by obtain ⟨m, hm⟩ := k1; exact DataW.trod_lt m _ _ _ hm
 have wt1 := weights_at hsz (j := 1) (t := 3) (d := d1) rfl rfl
 obtain ⟨a1, rfl, _, _, o1⟩ := open_int Try.underlying3 (hval 1 3 v1 rfl rfl) h1
 have k2 := h2
 have lt2 : ∀ x ∈ p2, x.block < W.heap.size := by obtain ⟨m, hm⟩ := k2; exact DataW.trod_lt m _ _ _ hm
 have wt2 := weights_at hsz (j := 2) (t := 25) (d := d2) rfl rfl
 obtain ⟨a2, rfl, _, _, o2⟩ := open_int Try.underlying25 (hval 2 25 v2 rfl rfl) h2
 clear hA0 hval0 hsz0 hsz
 obtain ⟨k, h⟩ := Pure.TreeTells l0_0 a0_1 a1 a2 o0_0 o0_1 o1 o2
 refine (assartlaw07_TreeTells.calls k _ _ l0_0 a0_1 a1 a2 true W hr0_0 hc0_0 h).mono fun e W' ⟨he, bel0⟩ => ?_
 have bel := bel0
 subst he
 exact ⟨_, rfl, _, _, _, [], _, [], hW', trodAll_mk1 (shut_bool Try.underlying4 _), (trodAll_cons_mk (Below.trod laidOut (by kernel_rfl) (of_decide_eq_true (by kernel_rfl)) k0 bel lt0) (trodAll_cons_mk (Below.trod laidOut (by kernel_rfl) (of_decide_eq_true (by kernel_rfl)) k1 bel lt1) (trodAll_cons_mk (Below.trod laidOut (by kernel_rfl) (of_decide_eq_true (by kernel_rfl)) k2 bel lt2) trodAll_mk0))), rfl, bel.frame _, fun h => by cases h⟩
theorem over : Rows.treeTellsRow.holds Try.pinned (OpenSpec.ofChange Rows.treeTellsSpec) :=
 OpenClaim.holds_of_wide 3 Try.f3 rfl rfl rfl rfl rfl rfl rfl ⟨rfl, rfl, rfl, rfl, rfl⟩ rfl rfl rfl rfl rfl (by kernel_rfl) Try.func3 (by kernel_rfl)
  (of_decide_eq_true (by kernel_rfl)) (by unfold Func.isWrapper; first | (rw [if_pos (by decide +kernel)]; kernel_rfl) | (rw [if_neg (by decide +kernel)]; exact ⟨rfl, rfl⟩))
  (fun os started H enc _ => lifted os started H enc)
theorem proved : Rows.TreeTellsSaid := over
#print axioms proved
end Go.Proofs.Yteiladccdenpbaa.treeTells
namespace Go.Proofs.Yteiladccdenpbaa
theorem treeTells_holds : Rows.TreeTellsSaid := treeTells.proved
end Go.Proofs.Yteiladccdenpbaa
end
