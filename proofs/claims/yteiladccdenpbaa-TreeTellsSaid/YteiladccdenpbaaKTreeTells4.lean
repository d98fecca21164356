/- Texts of this claim's proof put together: F22, F23, F24, F25, HAt, F27, F56, HBelow, HItems, HScan, HShown7. -/
import Derived.Test.YteiladccdenpbaaProg
import Derived.Test.YteiladccdenpbaaRows
import Derived.Test.YteiladccdenpbaaKTreeTells3
section
namespace Go.Proofs.Yteiladccdenpbaa.P
open Go.RowKit Go.Proofs.YteiladccdenpbaaW.PrintWords Go.Proofs.YteiladccdenpbaaW.PrintLast Go.Proofs.YteiladccdenpbaaW.PrintMore
attribute [local go_sem] max2_int min2_int max_two min_two max_three min_three max_four min_four
set_option linter.unusedVariables false
set_option linter.unusedSimpArgs false
def assartref07_High.f : Nat → List (S55) → Int → Int → Option (Int)
 | 0, _, _, _ => none
 | k + 1, l0_0, a0_1, a1 => if a1 < 0 then (some 0) else (if 0 ≤ a1 then (if a1 < (l0_0.length : Int) then (if (rd_T55 l0_0 a1).f2.f0 = true then (some 1) else (if 0 < (((rd_T55 l0_0 a1).f2.f1).length : Int) then ((assartref07_High.f k l0_0 a0_1 ((rd_T49 ((rd_T55 l0_0 a1).f2.f1) 0).f1)).bind fun t215 => (some (wrap64 (1 + t215)))) else (none))) else (none)) else (none))
def assartref07_High.T6 : Bool × List (List Nat × List Nat) := (true, [([], []), ([], []), ([1], [1]), ([2], [2]), ([3], [3]), ([4], [4]), ([0, 5], [0, 5]), ([6], [6]), ([7, 6, 0, 1, 2, 3, 4, 5, 6, 7], [7])])
def assartref07_High.B6 : List Nat := [0, 0, 2, 6, 14, 30, 63, 127, 255]
theorem assartref07_High.tab6 : rtab .any (opsOf Try.f22 6) = assartref07_High.T6 := by kernel_rfl
theorem assartref07_High.bits6 : waitsOk assartref07_High.T6.2 assartref07_High.B6 = true := by kernel_rfl
set_option maxHeartbeats 8000000 in
set_option maxRecDepth 100000 in
theorem assartref07_High.calls (k : Nat) : ∀ (A0_0 : Option Addr) (c0_0 : Nat) (l0_0 : List (S55)) (a0_1 : Int) (a1 : Int) (r : Int) (w : World) (hr0_0 : Kd.C k55 w A0_0 l0_0.length l0_0) (hc0_0 : l0_0.length ≤ c0_0) (h : assartref07_High.f k l0_0 a0_1 a1 = some r),
  Calls Try.prog 22 #[.agg #[.slice A0_0 l0_0.length c0_0, .int .i64 a0_1], .int .i64 a1] w fun e w' => e = .returned (.int .i64 r) ∧ Below w.heap.size w w' := by
 induction k using Nat.strongRecOn with
 | _ k ih =>
 intro A0_0 c0_0 l0_0 a0_1 a1 r w hr0_0 hc0_0 h
 cases k with
 | zero => exact absurd h (by simp [assartref07_High.f])
 | succ k =>
 simp only [assartref07_High.f] at h
 have hu24 := Try.underlying24
 have hu53 := Try.underlying53
 have HR0_0 := Aside0.mk hr0_0
 have HC0_0 := Aside0.mk hc0_0
 clear hr0_0 hc0_0
 have HB := Aside0.mk (Below.refl w.heap.size w)
 have H : (if a1 < 0 then (some 0) else (if 0 ≤ a1 then (if a1 < (l0_0.length : Int) then (if (rd_T55 l0_0 a1).f2.f0 = true then (some 1) else (if 0 < (((rd_T55 l0_0 a1).f2.f1).length : Int) then ((assartref07_High.f k l0_0 a0_1 ((rd_T49 ((rd_T55 l0_0 a1).f2.f1) 0).f1)).bind fun t215 => (some (wrap64 (1 + t215)))) else (none))) else (none)) else (none))) = some r := h
 clear h
 by_cases c3 : a1 < 0
 ·rw [if_pos c3] at H
  have c3b0 : decide (a1 < 0) = true := decide_eq_true c3
  clear c3
  obtain rfl := Option.some.inj H
  go_enter Try.func22, Try.ntmps22
  go_wp2_with (first | ((with_reducible refine gate_dst (N := 2) rfl ?_); refine box_event ?hg (N := 2) ?hd (cs := #[.slice A0_0 l0_0.length c0_0, .int .i64 a0_1]) (t := 24) ?hr ?_; (case hd => rfl); (case hg => rfl); (case hr => first | (go_simp; done) | (go_simp; rfl)); intro gb211 hg w4 hbox hb; have n0_ := Aside0.mk (below_step (by repeat (first | (with_reducible first | exact HB.out | apply below_alloc | apply pw_below_drewN | apply below_drew1) | exact HB.out)) hb); have n1_ := Aside0.mk (hbox); have n2_ := Aside0.mk ((by rw [hg]; exact (below_size (by repeat (first | (with_reducible first | exact HB.out | apply below_alloc | apply pw_below_drewN | apply below_drew1) | exact HB.out))) : w.heap.size ≤ gb211)); have n3_ := Aside0.mk ((by rw [hg]; exact (below_size (by repeat (first | (with_reducible first | exact HB.out | apply below_alloc | apply pw_below_drewN | apply below_drew1) | exact HB.out))) : w.heap.size ≤ gb211)); clear HB; have HB := n0_; have BK211 := n1_; have GW211 := n2_; have GE211 := n3_; clear n0_ n1_ n2_ n3_; clear hb hbox hg))
  go_ret
  exact ⟨by first | rfl | (simp [errW_none, errW_some] <;> rfl) | (simp [*, errW_none, errW_some] <;> rfl), by repeat (first | (with_reducible first | exact HB.out | apply below_alloc | apply pw_below_drewN | apply below_drew1 | refine below_set ?_ GE211.out) | exact HB.out)⟩
 ·rw [if_neg c3] at H
  have c3b0 : decide (a1 < 0) = false := decide_eq_false c3
  clear c3
  by_cases c5 : 0 ≤ a1
  ·rw [if_pos c5] at H
   have c5b0 : decide (0 ≤ a1) = true := decide_eq_true c5
   clear c5
   by_cases c6 : a1 < (l0_0.length : Int)
   ·rw [if_pos c6] at H
    have c6b0 : decide (a1 < (l0_0.length : Int)) = true := decide_eq_true c6
    clear c6
    obtain ⟨bq7, hbq7⟩ : ∃ b_ : Bool, b_ = ((rd_T55 l0_0 a1).f2.f0) := ⟨_, rfl⟩
    replace H : (if bq7 = true then (some 1) else (if 0 < (((rd_T55 l0_0 a1).f2.f1).length : Int) then ((assartref07_High.f k l0_0 a0_1 ((rd_T49 ((rd_T55 l0_0 a1).f2.f1) 0).f1)).bind fun t215 => (some (wrap64 (1 + t215)))) else (none))) = some r := by rw [← hbq7] at H; exact H
    have Nbq7 := Aside0.mk hbq7
    clear hbq7
    by_cases c8 : bq7 = true
    ·subst c8
     have H1 : (some 1) = some r := by rw [if_pos rfl] at H; exact H
     clear H
     have H := H1
     clear H1
     obtain rfl := Option.some.inj H
     go_enter Try.func22, Try.ntmps22
     go_wp2_with (first | ((with_reducible refine gate_dst (N := 2) rfl ?_); refine box_event ?hg (N := 2) ?hd (cs := #[.slice A0_0 l0_0.length c0_0, .int .i64 a0_1]) (t := 24) ?hr ?_; (case hd => rfl); (case hg => rfl); (case hr => first | (go_simp; done) | (go_simp; rfl)); intro gb211 hg w9 hbox hb; have n0_ := Aside0.mk (below_step (by repeat (first | (with_reducible first | exact HB.out | apply below_alloc | apply pw_below_drewN | apply below_drew1) | exact HB.out)) hb); have n1_ := Aside0.mk (hbox); have n2_ := Aside0.mk ((by rw [hg]; exact (below_size (by repeat (first | (with_reducible first | exact HB.out | apply below_alloc | apply pw_below_drewN | apply below_drew1) | exact HB.out))) : w.heap.size ≤ gb211)); have n3_ := Aside0.mk ((by rw [hg]; exact (below_size (by repeat (first | (with_reducible first | exact HB.out | apply below_alloc | apply pw_below_drewN | apply below_drew1) | exact HB.out))) : w.heap.size ≤ gb211)); clear HB; have HB := n0_; have BK211 := n1_; have GW211 := n2_; have GE211 := n3_; clear n0_ n1_ n2_ n3_; clear hb hbox hg; have hcz10_0 : w9.cell? ⟨gb211, 0, none⟩ = some (.slice A0_0 l0_0.length c0_0) := (blk_cell BK211.out 0).trans rfl; have hcz10_1 : w9.cell? ⟨gb211, 1, none⟩ = some (.int .i64 a0_1) := (blk_cell BK211.out 1).trans rfl; have hfz10_0 := blk_frozen BK211.out 0; have hfz10_1 := blk_frozen BK211.out 1; have p212 : 0 ≤ (a1 : Int) := of_decide_eq_true (by first | (with_reducible assumption) | assumption); have q212 : a1 < (l0_0.length : Int) := of_decide_eq_true (by first | (with_reducible assumption) | assumption); obtain ⟨ad212, A212_3, c212_3, e212, hx212_0, hx212_1, hx212_2, hx212_3, hl212_3, hi212_3⟩ := at_T55 HR0_0.out a1 p212 q212; (try rw [← Nbq7.out] at hx212_1); (try rw [← Nbq7.out] at hx212_2); cases e212; replace hx212_0 := (HB.out.cell (World.block_lt_of_cell? w _ hx212_0)).trans hx212_0; replace hx212_1 := (HB.out.cell (World.block_lt_of_cell? w _ hx212_1)).trans hx212_1; replace hx212_2 := (HB.out.cell (World.block_lt_of_cell? w _ hx212_2)).trans hx212_2; replace hx212_3 := (HB.out.cell (World.block_lt_of_cell? w _ hx212_3)).trans hx212_3; have HR212_3 := Aside0.mk hi212_3; have HC212_3 := Aside0.mk hl212_3; clear hi212_3 hl212_3; replace p212 := eq_true p212; replace q212 := eq_true q212) | ((with_reducible refine gate_dst (N := 5) rfl ?_); refine box_event ?hg (N := 5) ?hd (cs := #[.bool false, .slice none 0 0]) (t := 53) ?hr ?_; (case hd => rfl); (case hg => rfl); (case hr => first | (go_simp; done) | (go_simp; rfl)); intro gb213 hg w11 hbox hb; have n0_ := Aside0.mk (blk_below (g := gb211) (o := .cells #[.slice (some ad212) l0_0.length c0_0, .int .i64 a0_1] 24 (0, 0)) (by (with_reducible repeat (first | refine blk_drewN ?_ _ | refine blk_drew ?_ | refine blk_alloc ?_ _)); exact BK211.out) hb); have n1_ := Aside0.mk (below_step (by repeat (first | (with_reducible first | exact HB.out | apply below_alloc | apply pw_below_drewN | apply below_drew1 | refine below_set ?_ GE211.out) | exact HB.out)) hb); have n2_ := Aside0.mk (hbox); have n3_ := Aside0.mk ((by rw [hg]; exact (below_size (by repeat (first | (with_reducible first | exact HB.out | apply below_alloc | apply pw_below_drewN | apply below_drew1 | refine below_set ?_ GE211.out) | exact HB.out))) : w.heap.size ≤ gb213)); have n4_ := Aside0.mk ((by rw [hg]; exact (below_size (by repeat (first | (with_reducible first | exact HB.out | apply below_alloc | apply pw_below_drewN | apply below_drew1 | refine below_set ?_ GE211.out) | exact HB.out))) : w.heap.size ≤ gb213)); have n5_ := Aside0.mk ((by rw [hg]; exact Nat.ne_of_lt (blk_lt (g := gb211) (o := .cells #[.slice (some ad212) l0_0.length c0_0, .int .i64 a0_1] 24 (0, 0)) (by (with_reducible repeat (first | refine blk_drewN ?_ _ | refine blk_drew ?_ | refine blk_alloc ?_ _)); exact BK211.out)) : gb211 ≠ gb213)); have n6_ := Aside0.mk ((by rw [hg]; exact Nat.ne_of_gt (blk_lt (g := gb211) (o := .cells #[.slice (some ad212) l0_0.length c0_0, .int .i64 a0_1] 24 (0, 0)) (by (with_reducible repeat (first | refine blk_drewN ?_ _ | refine blk_drew ?_ | refine blk_alloc ?_ _)); exact BK211.out)) : gb213 ≠ gb211)); clear BK211; clear HB; have BK211 := n0_; have HB := n1_; have BK213 := n2_; have GW213 := n3_; have GE213 := n4_; have NB211_213 := n5_; have NB213_211 := n6_; clear n0_ n1_ n2_ n3_ n4_ n5_ n6_; clear hb hbox hg; have hnb12 := NB213_211.out; have hnc12 := NB211_213.out; have hcz13_0 : w11.cell? ⟨gb213, 0, none⟩ = some (.bool false) := (blk_cell BK213.out 0).trans rfl; have hcz13_1 : w11.cell? ⟨gb213, 1, none⟩ = some (.slice none 0 0) := (blk_cell BK213.out 1).trans rfl; have hfz13_0 := blk_frozen BK213.out 0; have hfz13_1 := blk_frozen BK213.out 1))
     go_ret
     exact ⟨by first | rfl | (simp [errW_none, errW_some] <;> rfl) | (simp [*, errW_none, errW_some] <;> rfl), by repeat (first | (with_reducible first | exact HB.out | apply below_alloc | apply pw_below_drewN | apply below_drew1 | refine below_set ?_ GE211.out | refine below_set ?_ GE213.out) | exact HB.out)⟩
    ·replace c8 := Bool.eq_false_iff.mpr c8
     subst c8
     have H1 : (if 0 < (((rd_T55 l0_0 a1).f2.f1).length : Int) then ((assartref07_High.f k l0_0 a0_1 ((rd_T49 ((rd_T55 l0_0 a1).f2.f1) 0).f1)).bind fun t215 => (some (wrap64 (1 + t215)))) else (none)) = some r := by rw [if_neg (show ¬ (false = true) by decide)] at H; exact H
     clear H
     have H := H1
     clear H1
     by_cases c14 : 0 < (((rd_T55 l0_0 a1).f2.f1).length : Int)
     ·rw [if_pos c14] at H
      have c14b0 : decide (0 < (((rd_T55 l0_0 a1).f2.f1).length : Int)) = true := decide_eq_true c14
      have c14b1 : decide (0 < ((rd_T55 l0_0 a1).f2.f1).length) = true := decide_eq_true (by omega)
      clear c14
      replace H := Option.bind_eq_some_iff.mp H
      obtain ⟨t215, A150, H⟩ := H
      replace H : (some (wrap64 (1 + t215))) = some r := H
      have A15 := Aside0.mk A150
      clear A150
      obtain rfl := Option.some.inj H
      go_enter Try.func22, Try.ntmps22
      try go_wp2_with (first | ((with_reducible refine gate_dst (N := 2) rfl ?_); refine box_event ?hg (N := 2) ?hd (cs := #[.slice A0_0 l0_0.length c0_0, .int .i64 a0_1]) (t := 24) ?hr ?_; (case hd => rfl); (case hg => rfl); (case hr => first | (go_simp; done) | (go_simp; rfl)); intro gb211 hg w16 hbox hb; have n0_ := Aside0.mk (below_step (by repeat (first | (with_reducible first | exact HB.out | apply below_alloc | apply pw_below_drewN | apply below_drew1) | exact HB.out)) hb); have n1_ := Aside0.mk (hbox); have n2_ := Aside0.mk ((by rw [hg]; exact (below_size (by repeat (first | (with_reducible first | exact HB.out | apply below_alloc | apply pw_below_drewN | apply below_drew1) | exact HB.out))) : w.heap.size ≤ gb211)); have n3_ := Aside0.mk ((by rw [hg]; exact (below_size (by repeat (first | (with_reducible first | exact HB.out | apply below_alloc | apply pw_below_drewN | apply below_drew1) | exact HB.out))) : w.heap.size ≤ gb211)); clear HB; have HB := n0_; have BK211 := n1_; have GW211 := n2_; have GE211 := n3_; clear n0_ n1_ n2_ n3_; clear hb hbox hg; have hcz17_0 : w16.cell? ⟨gb211, 0, none⟩ = some (.slice A0_0 l0_0.length c0_0) := (blk_cell BK211.out 0).trans rfl; have hcz17_1 : w16.cell? ⟨gb211, 1, none⟩ = some (.int .i64 a0_1) := (blk_cell BK211.out 1).trans rfl; have hfz17_0 := blk_frozen BK211.out 0; have hfz17_1 := blk_frozen BK211.out 1; have p212 : 0 ≤ (a1 : Int) := of_decide_eq_true (by first | (with_reducible assumption) | assumption); have q212 : a1 < (l0_0.length : Int) := of_decide_eq_true (by first | (with_reducible assumption) | assumption); obtain ⟨ad212, A212_3, c212_3, e212, hx212_0, hx212_1, hx212_2, hx212_3, hl212_3, hi212_3⟩ := at_T55 HR0_0.out a1 p212 q212; (try rw [← Nbq7.out] at hx212_1); (try rw [← Nbq7.out] at hx212_2); cases e212; replace hx212_0 := (HB.out.cell (World.block_lt_of_cell? w _ hx212_0)).trans hx212_0; replace hx212_1 := (HB.out.cell (World.block_lt_of_cell? w _ hx212_1)).trans hx212_1; replace hx212_2 := (HB.out.cell (World.block_lt_of_cell? w _ hx212_2)).trans hx212_2; replace hx212_3 := (HB.out.cell (World.block_lt_of_cell? w _ hx212_3)).trans hx212_3; have HR212_3 := Aside0.mk hi212_3; have HC212_3 := Aside0.mk hl212_3; clear hi212_3 hl212_3; replace p212 := eq_true p212; replace q212 := eq_true q212) | ((with_reducible refine gate_dst (N := 5) rfl ?_); refine box_event ?hg (N := 5) ?hd (cs := #[.bool false, .slice none 0 0]) (t := 53) ?hr ?_; (case hd => rfl); (case hg => rfl); (case hr => first | (go_simp; done) | (go_simp; rfl)); intro gb213 hg w18 hbox hb; have n0_ := Aside0.mk (blk_below (g := gb211) (o := .cells #[.slice (some ad212) l0_0.length c0_0, .int .i64 a0_1] 24 (0, 0)) (by (with_reducible repeat (first | refine blk_drewN ?_ _ | refine blk_drew ?_ | refine blk_alloc ?_ _)); exact BK211.out) hb); have n1_ := Aside0.mk (below_step (by repeat (first | (with_reducible first | exact HB.out | apply below_alloc | apply pw_below_drewN | apply below_drew1 | refine below_set ?_ GE211.out) | exact HB.out)) hb); have n2_ := Aside0.mk (hbox); have n3_ := Aside0.mk ((by rw [hg]; exact (below_size (by repeat (first | (with_reducible first | exact HB.out | apply below_alloc | apply pw_below_drewN | apply below_drew1 | refine below_set ?_ GE211.out) | exact HB.out))) : w.heap.size ≤ gb213)); have n4_ := Aside0.mk ((by rw [hg]; exact (below_size (by repeat (first | (with_reducible first | exact HB.out | apply below_alloc | apply pw_below_drewN | apply below_drew1 | refine below_set ?_ GE211.out) | exact HB.out))) : w.heap.size ≤ gb213)); have n5_ := Aside0.mk ((by rw [hg]; exact Nat.ne_of_lt (blk_lt (g := gb211) (o := .cells #[.slice (some ad212) l0_0.length c0_0, .int .i64 a0_1] 24 (0, 0)) (by (with_reducible repeat (first | refine blk_drewN ?_ _ | refine blk_drew ?_ | refine blk_alloc ?_ _)); exact BK211.out)) : gb211 ≠ gb213)); have n6_ := Aside0.mk ((by rw [hg]; exact Nat.ne_of_gt (blk_lt (g := gb211) (o := .cells #[.slice (some ad212) l0_0.length c0_0, .int .i64 a0_1] 24 (0, 0)) (by (with_reducible repeat (first | refine blk_drewN ?_ _ | refine blk_drew ?_ | refine blk_alloc ?_ _)); exact BK211.out)) : gb213 ≠ gb211)); clear BK211; clear HB; have BK211 := n0_; have HB := n1_; have BK213 := n2_; have GW213 := n3_; have GE213 := n4_; have NB211_213 := n5_; have NB213_211 := n6_; clear n0_ n1_ n2_ n3_ n4_ n5_ n6_; clear hb hbox hg; have hnb19 := NB213_211.out; have hnc19 := NB211_213.out; have hcz20_0 : w18.cell? ⟨gb213, 0, none⟩ = some (.bool false) := (blk_cell BK213.out 0).trans rfl; have hcz20_1 : w18.cell? ⟨gb213, 1, none⟩ = some (.slice none 0 0) := (blk_cell BK213.out 1).trans rfl; have hfz20_0 := blk_frozen BK213.out 0; have hfz20_1 := blk_frozen BK213.out 1))
      have n0_ : Aside0 (((w18.setCell ⟨gb213, 0, none⟩ (.bool false)).setCell ⟨gb213, 1, none⟩ (.slice A212_3 ((rd_T55 l0_0 a1).f2.f1).length c212_3)).heap[gb211]? = some (.cells #[.slice (some ad212) l0_0.length c0_0, .int .i64 a0_1] 24 (0, 0))) := ⟨by (with_reducible repeat (first | refine blk_drewN ?_ _ | refine blk_drew ?_ | refine blk_alloc ?_ _)); refine blk_far ?_ NB211_213.out _; (with_reducible repeat (first | refine blk_drewN ?_ _ | refine blk_drew ?_ | refine blk_alloc ?_ _)); refine blk_far ?_ NB211_213.out _; (with_reducible repeat (first | refine blk_drewN ?_ _ | refine blk_drew ?_ | refine blk_alloc ?_ _)); exact BK211.out⟩
      have n1_ : Aside0 (((w18.setCell ⟨gb213, 0, none⟩ (.bool false)).setCell ⟨gb213, 1, none⟩ (.slice A212_3 ((rd_T55 l0_0 a1).f2.f1).length c212_3)).heap[gb213]? = some (.cells #[.bool false, .slice A212_3 ((rd_T55 l0_0 a1).f2.f1).length c212_3] 53 (0, 0))) := ⟨by (with_reducible repeat (first | refine blk_drewN ?_ _ | refine blk_drew ?_ | refine blk_alloc ?_ _)); refine blk_put (cs := #[.bool false, .slice none 0 0]) ?_ 1 _ rfl; (with_reducible repeat (first | refine blk_drewN ?_ _ | refine blk_drew ?_ | refine blk_alloc ?_ _)); refine blk_put (cs := #[.bool false, .slice none 0 0]) ?_ 0 _ rfl; (with_reducible repeat (first | refine blk_drewN ?_ _ | refine blk_drew ?_ | refine blk_alloc ?_ _)); exact BK213.out⟩
      have n2_ : Aside0 (Below w.heap.size w ((w18.setCell ⟨gb213, 0, none⟩ (.bool false)).setCell ⟨gb213, 1, none⟩ (.slice A212_3 ((rd_T55 l0_0 a1).f2.f1).length c212_3))) := ⟨by repeat (first | (with_reducible first | exact HB.out | apply below_alloc | apply pw_below_drewN | apply below_drew1 | refine below_set ?_ GE211.out | refine below_set ?_ GE213.out) | exact HB.out)⟩
      (try clear BK211)
      (try clear BK213)
      (try clear HB)
      generalize ((w18.setCell ⟨gb213, 0, none⟩ (.bool false)).setCell ⟨gb213, 1, none⟩ (.slice A212_3 ((rd_T55 l0_0 a1).f2.f1).length c212_3)) = w21 at n0_ n1_ n2_ ⊢
      have BK211 := n0_
      have BK213 := n1_
      have HB := n2_
      clear n0_ n1_ n2_
      have n0_ := Aside0.mk (blk_drew BK211.out)
      have n1_ := Aside0.mk (blk_drew BK213.out)
      have n2_ := Aside0.mk (below_drew1 HB.out)
      clear BK211
      clear BK213
      clear HB
      have BK211 := n0_
      have BK213 := n1_
      have HB := n2_
      clear n0_ n1_ n2_
      have p214 : 0 ≤ (0 : Int) := (by omega)
      have q214 : 0 < (((rd_T55 l0_0 a1).f2.f1).length : Int) := of_decide_eq_true (by first | (with_reducible assumption) | assumption)
      obtain ⟨ad214, e214, hx214_0, hx214_1⟩ := at_T49 HR212_3.out 0 p214 q214
      have hw214_1 := hx214_1
      (try rw [show ((0 : Int)).toNat = 0 from rfl] at hw214_1)
      (try rw [show 0 * 2 = 0 from rfl] at hw214_1)
      (try rw [Addr.add_zero'] at hw214_1)
      have hw214_0 := hx214_0
      (try rw [show ((0 : Int)).toNat = 0 from rfl] at hw214_0)
      (try rw [show 0 * 2 = 0 from rfl] at hw214_0)
      (try rw [Addr.add_zero'] at hw214_0)
      cases e214
      have qi214 : (0 < ((rd_T55 l0_0 a1).f2.f1).length) = True := eq_true (by omega)
      (try rw [show ((0 : Int)).toNat = 0 from rfl] at hx214_0)
      (try rw [show 0 * 2 = 0 from rfl] at hx214_0)
      (try rw [Addr.add_zero'] at hx214_0)
      (try rw [show ((0 : Int)).toNat = 0 from rfl] at hx214_1)
      (try rw [show 0 * 2 = 0 from rfl] at hx214_1)
      (try rw [Addr.add_zero'] at hx214_1)
      replace hx214_0 := (HB.out.cell (World.block_lt_of_cell? w _ hx214_0)).trans hx214_0
      replace hx214_1 := (HB.out.cell (World.block_lt_of_cell? w _ hx214_1)).trans hx214_1
      replace p214 := eq_true p214
      replace q214 := eq_true q214
      refine start_ (n := 9) (S := fun w' => w'.cell? ⟨gb211, 0, none⟩ = some (.slice (some ad212) l0_0.length c0_0) ∧ w'.cell? ⟨gb211, 1, none⟩ = some (.int .i64 a0_1) ∧ w'.cell? ⟨gb213, 0, none⟩ = some (.bool false) ∧ w'.cell? ⟨gb213, 1, none⟩ = some (.slice (some ad214) ((rd_T55 l0_0 a1).f2.f1).length c212_3) ∧ w'.cell? ad214 = some (.int .i64 ((rd_T49 ((rd_T55 l0_0 a1).f2.f1) 0).f0)) ∧ w'.cell? ⟨ad214.block, ad214.off + 1, none⟩ = some (.int .i64 ((rd_T49 ((rd_T55 l0_0 a1).f2.f1) 0).f1))) (ds := []) #[false, false, false, false, false, false, false, false, false] (by kernel_rfl) rfl rfl ⟨(blk_cell BK211.out 0).trans rfl, (blk_cell BK211.out 1).trans rfl, (blk_cell BK213.out 0).trans rfl, (blk_cell BK213.out 1).trans rfl, ((HB.out.cell (World.block_lt_of_cell? w _ hw214_0)).trans hw214_0), ((HB.out.cell (World.block_lt_of_cell? w _ hw214_1)).trans hw214_1)⟩ (fun hHeld => ?_); refine with_tabW assartref07_High.tab6 assartref07_High.bits6 (fun HT_ HW_ => ?_)
      generalize w21.drew = w22 at BK211 BK213 HB hx214_0 hx214_1 hHeld ⊢
      refine pure_ (i := 1) (N := some 17) (v := ?_) (a' := ?_) #[false, true, false, false, false, false, false, false, false] rfl rfl (any_of HT_.out (by kernel_rfl)) (fun _ _ _ h => h) (Or.inl ⟨by rfl, ?_⟩) ?_ ?_
      rotate_left
      ·intro w'
       go_simp
       with_reducible rfl
      rotate_left
      ·simp only [Act.put, List.setIfInBounds_toArray, List.set_cons_zero, List.set_cons_succ, i64_w, i32_w]
       rfl
      refine take_ (i := 0) (N := some 16) (v := ?_) (a' := ?_) #[true, true, false, false, false, false, false, false, false] rfl rfl (take_ofW HT_.out HW_.out (by kernel_rfl)) (fun _ _ _ h => h) (Or.inl ⟨by rfl, ?_⟩) hHeld ?_ ?_
      rotate_left
      ·rintro w' ⟨s0, s1, s2, s3, s4, s5⟩
       go_simp
       with_reducible rfl
      rotate_left
      ·simp only [Act.put, List.setIfInBounds_toArray, List.set_cons_zero, List.set_cons_succ, i64_w, i32_w]
       rfl
      refine take_ (i := 2) (N := some 18) (v := ?_) (a' := ?_) #[true, true, true, false, false, false, false, false, false] rfl rfl (take_ofW HT_.out HW_.out (by kernel_rfl)) (fun _ _ _ h => h) (Or.inl ⟨by rfl, ?_⟩) hHeld ?_ ?_
      rotate_left
      ·rintro w' ⟨s0, s1, s2, s3, s4, s5⟩
       go_simp
       with_reducible rfl
      rotate_left
      ·simp only [Act.put, List.setIfInBounds_toArray, List.set_cons_zero, List.set_cons_succ, i64_w, i32_w]
       rfl
      refine pure_ (i := 3) (N := some 19) (v := ?_) (a' := ?_) #[true, true, true, true, false, false, false, false, false] rfl rfl (any_of HT_.out (by kernel_rfl)) (fun _ _ _ h => h) (Or.inl ⟨by rfl, ?_⟩) ?_ ?_
      rotate_left
      ·intro w'
       go_simp
       with_reducible rfl
      rotate_left
      ·simp only [Act.put, List.setIfInBounds_toArray, List.set_cons_zero, List.set_cons_succ, i64_w, i32_w]
       rfl
      refine pure_ (i := 4) (N := some 20) (v := ?_) (a' := ?_) #[true, true, true, true, true, false, false, false, false] rfl rfl (any_of HT_.out (by kernel_rfl)) (fun _ _ _ h => h) (Or.inl ⟨by rfl, ?_⟩) ?_ ?_
      rotate_left
      ·intro w'
       go_simp
       with_reducible rfl
      rotate_left
      ·simp only [Act.put, List.setIfInBounds_toArray, List.set_cons_zero, List.set_cons_succ, i64_w, i32_w]
       rfl
      refine take_ (i := 5) (N := some 21) (v := ?_) (a' := ?_) #[true, true, true, true, true, true, false, false, false] rfl rfl (take_ofW HT_.out HW_.out (by kernel_rfl)) (fun _ _ _ h => h) (Or.inl ⟨by rfl, ?_⟩) hHeld ?_ ?_
      rotate_left
      ·rintro w' ⟨s0, s1, s2, s3, s4, s5⟩
       go_simp
       with_reducible rfl
      rotate_left
      ·simp only [Act.put, List.setIfInBounds_toArray, List.set_cons_zero, List.set_cons_succ, i64_w, i32_w]
       rfl
      refine one_ (i := 6) (N := some 22) #[true, true, true, true, true, true, true, false, false] rfl rfl (one_of HT_.out (by kernel_rfl)) (by decide) (fun K hK => ?_)
      refine goes_ Try.func22 (by kernel_rfl) rfl #[.agg #[.slice (some ad212) l0_0.length c0_0, .int .i64 a0_1], .int .i64 ((rd_T49 ((rd_T55 l0_0 a1).f2.f1) 0).f1)] (by rfl) rfl rfl (by (try simp only [List.map_toArray, List.map_cons, List.map_nil]); first | done | rfl | (simp only [List.length_drop, List.length_take]; rfl)) ?_
      with_reducible refine (ih k (by omega) _ _ l0_0 a0_1 ((rd_T49 ((rd_T55 l0_0 a1).f2.f1) 0).f1) t215 _ ?side1 ?side2 A15.out).mono ?_
      (case side1 => repeat (first | exact (Kd.C_below HR0_0.out HB.out) | (with_reducible refine Kd.C_alloc ?_ _) | (with_reducible refine Kd.C_drewN ?_ _) | (with_reducible refine Kd.C_drew ?_)))
      (case side2 => exact HC0_0.out)
      rintro e w23 ⟨rfl, hb⟩
      refine ⟨_, rfl, ?_⟩
      have n0_ := Aside0.mk (blk_below (g := gb211) (o := .cells #[.slice (some ad212) l0_0.length c0_0, .int .i64 a0_1] 24 (0, 0)) (by (with_reducible repeat (first | refine blk_drewN ?_ _ | refine blk_drew ?_ | refine blk_alloc ?_ _)); exact BK211.out) hb)
      have n1_ := Aside0.mk (blk_below (g := gb213) (o := .cells #[.bool false, .slice (some ad214) ((rd_T55 l0_0 a1).f2.f1).length c212_3] 53 (0, 0)) (by (with_reducible repeat (first | refine blk_drewN ?_ _ | refine blk_drew ?_ | refine blk_alloc ?_ _)); exact BK213.out) hb)
      have n2_ := Aside0.mk (below_step (by repeat (first | (with_reducible first | exact HB.out | apply below_alloc | apply pw_below_drewN | apply below_drew1 | refine below_set ?_ GE211.out | refine below_set ?_ GE213.out) | exact HB.out)) hb)
      clear BK211
      clear BK213
      clear HB
      have BK211 := n0_
      have BK213 := n1_
      have HB := n2_
      clear n0_ n1_ n2_
      (try clear hb)
      (try clear hb2)
      (try clear hk)
      (try clear hi)
      refine hK.out _ _ ⟨(blk_cell BK211.out 0).trans rfl, (blk_cell BK211.out 1).trans rfl, (blk_cell BK213.out 0).trans rfl, (blk_cell BK213.out 1).trans rfl, ((HB.out.cell (World.block_lt_of_cell? w _ hw214_0)).trans hw214_0), ((HB.out.cell (World.block_lt_of_cell? w _ hw214_1)).trans hw214_1)⟩ (fun hHeld => ?_)
      clear hK K
      refine norm_ (a' := ?_) ?_ ?_
      rotate_left
      ·show Act.put _ (some 22) _ = _
       simp only [Act.put, List.setIfInBounds_toArray, List.set_cons_zero, List.set_cons_succ, i64_w, i32_w]
       rfl
      refine pure_ (i := 7) (N := some 23) (v := ?_) (a' := ?_) #[true, true, true, true, true, true, true, true, false] rfl rfl (any_of HT_.out (by kernel_rfl)) (fun _ _ _ h => h) (Or.inl ⟨by rfl, ?_⟩) ?_ ?_
      rotate_left
      ·intro w'
       go_simp
       with_reducible rfl
      rotate_left
      ·simp only [Act.put, List.setIfInBounds_toArray, List.set_cons_zero, List.set_cons_succ, i64_w, i32_w]
       rfl
      refine pure_ (i := 8) (N := some 4) (v := ?_) (a' := ?_) #[true, true, true, true, true, true, true, true, true] rfl rfl (any_of HT_.out (by kernel_rfl)) (fun _ _ _ h => h) (Or.inl ⟨by rfl, ?_⟩) ?_ ?_
      rotate_left
      ·intro w'
       go_simp
       with_reducible rfl
      rotate_left
      ·simp only [Act.put, List.setIfInBounds_toArray, List.set_cons_zero, List.set_cons_succ, i64_w, i32_w]
       rfl
      refine done_ (done_of HT_.out (by kernel_rfl)) ?_
      try go_wp2
      go_ret
      exact ⟨by first | rfl | (simp [errW_none, errW_some] <;> rfl) | (simp [*, errW_none, errW_some] <;> rfl), by repeat (first | (with_reducible first | exact HB.out | apply below_alloc | apply pw_below_drewN | apply below_drew1 | refine below_set ?_ GE211.out | refine below_set ?_ GE213.out) | exact HB.out)⟩
     ·rw [if_neg c14] at H
      exact absurd H (by simp)
   ·rw [if_neg c6] at H
    exact absurd H (by simp)
  ·rw [if_neg c5] at H
   exact absurd H (by simp)
end Go.Proofs.Yteiladccdenpbaa.P
end
section
namespace Go.Proofs.Yteiladccdenpbaa.P
open Go.RowKit Go.Proofs.YteiladccdenpbaaW.PrintWords Go.Proofs.YteiladccdenpbaaW.PrintLast Go.Proofs.YteiladccdenpbaaW.PrintMore
attribute [local go_sem] max2_int min2_int max_two min_two max_three min_three max_four min_four
set_option linter.unusedVariables false
set_option linter.unusedSimpArgs false
def assartref07_Ints.l0 : Nat → List Int → List Int → Int → Option (Bool)
 | 0, _, _, _ => none
 | k + 1, x0, x1, x5 => if x5 < (x0.length : Int) then (if 0 ≤ x5 then (if x5 < (x1.length : Int) then (if (rd x0 x5) = (rd x1 x5) then (assartref07_Ints.l0 k x0 x1 (wrap64 (x5 + 1))) else (some false)) else (none)) else (none)) else (some true)
def assartref07_Ints.f (k : Nat) (l0 : List Int) (l1 : List Int) : Option (Bool) := if (l0.length : Int) = (l1.length : Int) then (assartref07_Ints.l0 k l0 l1 0) else (some false)
set_option maxHeartbeats 8000000 in
set_option maxRecDepth 100000 in
theorem assartref07_Ints.calls (k : Nat) (A0 : Option Addr) (c0 : Nat) (l0 : List Int) (A1 : Option Addr) (c1 : Nat) (l1 : List Int) (r : Bool) (w : World) (hr0 : Kd.C (Kd.int .i64) w A0 l0.length l0) (hc0 : l0.length ≤ c0) (hr1 : Kd.C (Kd.int .i64) w A1 l1.length l1) (hc1 : l1.length ≤ c1) (h : assartref07_Ints.f k l0 l1 = some r) :
  Calls Try.prog 23 #[.slice A0 l0.length c0, .slice A1 l1.length c1] w fun e w' => e = .returned (.bool r) ∧ Drawn0 w w' := by
 have HR0 := Aside0.mk hr0
 have HC0 := Aside0.mk hc0
 clear hr0 hc0
 have HR1 := Aside0.mk hr1
 have HC1 := Aside0.mk hc1
 clear hr1 hc1
 have H : (if (l0.length : Int) = (l1.length : Int) then (assartref07_Ints.l0 k l0 l1 0) else (some false)) = some r := h
 clear h
 by_cases c3 : (l0.length : Int) = (l1.length : Int)
 ·rw [if_pos c3] at H
  have c3b0 : ((l0.length : Int) == (l1.length : Int)) = true := beq_iff_eq.mpr c3
  have c3b1 : ((l0.length : Int) != (l1.length : Int)) = false := bne_eq_false_iff_eq.mpr c3
  have c3b2 : (l0.length == l1.length) = true := by first | simpa using c3 | (simp at c3 ⊢; omega)
  clear c3
  have H' := Aside0.mk H
  clear H
  go_enter Try.func23, Try.ntmps23
  go_wp2
  repeat (go_quiet (fail); try go_wp2)
  go_loopg [5] k (fun kq v5 w' => ∃ (x5_1 : Int), v5 = .int .i64 x5_1 ∧ Aside0 (assartref07_Ints.l0 kq l0 l1 x5_1 = some r) ∧ Aside0 (kq ≤ k) ∧ Drawn0 w w')
  case atStart => exact ⟨(0), (by first | rfl | (simp; done) | (simp [*]; done)), H', ⟨Nat.le_refl _⟩, by repeat (first | exact Drawn0.refl _ | apply Drawn0.step)⟩
  case round =>
   clear H'
   try clear c1
   try clear c2
   try clear p2
   try clear c3
   try clear c3b0
   try clear c3b1
   try clear c3b2
   obtain ⟨x5_1, rfl, HA, HK1, ⟨m1, rfl⟩⟩ := hrel
   cases gk with
   | zero => exact absurd HA.out (by simp [assartref07_Ints.l0])
   | succ k1 =>
    have H := HA.out
    clear HA
    simp only [assartref07_Ints.l0] at H
    by_cases c4 : x5_1 < (l0.length : Int)
    ·rw [if_pos c4] at H
     have c4b0 : decide (x5_1 < (l0.length : Int)) = true := decide_eq_true c4
     clear c4
     by_cases c5 : 0 ≤ x5_1
     ·rw [if_pos c5] at H
      have c5b0 : decide (0 ≤ x5_1) = true := decide_eq_true c5
      clear c5
      by_cases c6 : x5_1 < (l1.length : Int)
      ·rw [if_pos c6] at H
       have c6b0 : decide (x5_1 < (l1.length : Int)) = true := decide_eq_true c6
       clear c6
       by_cases c7 : (rd l0 x5_1) = (rd l1 x5_1)
       ·rw [if_pos c7] at H
        have c7b0 : ((rd l0 x5_1) == (rd l1 x5_1)) = true := beq_iff_eq.mpr c7
        have c7b1 : ((rd l0 x5_1) != (rd l1 x5_1)) = false := bne_eq_false_iff_eq.mpr c7
        clear c7
        have H' := Aside0.mk H
        clear H
        have p130 : 0 ≤ (x5_1 : Int) := of_decide_eq_true (by first | (with_reducible assumption) | assumption)
        have q130 : x5_1 < (l0.length : Int) := of_decide_eq_true (by first | (with_reducible assumption) | assumption)
        obtain ⟨ad130, e130, hx130_0⟩ := Kd.at_int HR0.out x5_1 p130 q130
        cases e130
        replace p130 := eq_true p130
        replace q130 := eq_true q130
        have p131 : 0 ≤ (x5_1 : Int) := of_decide_eq_true (by first | (with_reducible assumption) | assumption)
        have q131 : x5_1 < (l1.length : Int) := of_decide_eq_true (by first | (with_reducible assumption) | assumption)
        obtain ⟨ad131, e131, hx131_0⟩ := Kd.at_int HR1.out x5_1 p131 q131
        cases e131
        replace p131 := eq_true p131
        replace q131 := eq_true q131
        go_wp2
        repeat (go_quiet (fail); try go_wp2)
        go_roundg k1
        case measure => have := HK1.out; omega
        case rel => exact ⟨(wrap64 (x5_1 + 1)), (by first | rfl | (simp; done) | (simp [*]; done)), H', ⟨by have := HK1.out; omega⟩, by repeat (first | exact Drawn0.refl _ | apply Drawn0.step)⟩
       ·rw [if_neg c7] at H
        have c7b0 : ((rd l0 x5_1) == (rd l1 x5_1)) = false := beq_eq_false_iff_ne.mpr c7
        have c7b1 : ((rd l0 x5_1) != (rd l1 x5_1)) = true := bne_iff_ne.mpr c7
        obtain rfl := Option.some.inj H
        have p130 : 0 ≤ (x5_1 : Int) := of_decide_eq_true (by first | (with_reducible assumption) | assumption)
        have q130 : x5_1 < (l0.length : Int) := of_decide_eq_true (by first | (with_reducible assumption) | assumption)
        obtain ⟨ad130, e130, hx130_0⟩ := Kd.at_int HR0.out x5_1 p130 q130
        cases e130
        replace p130 := eq_true p130
        replace q130 := eq_true q130
        have p131 : 0 ≤ (x5_1 : Int) := of_decide_eq_true (by first | (with_reducible assumption) | assumption)
        have q131 : x5_1 < (l1.length : Int) := of_decide_eq_true (by first | (with_reducible assumption) | assumption)
        obtain ⟨ad131, e131, hx131_0⟩ := Kd.at_int HR1.out x5_1 p131 q131
        cases e131
        replace p131 := eq_true p131
        replace q131 := eq_true q131
        go_wp2
        repeat (go_quiet (fail); try go_wp2)
        go_ret
        exact ⟨by first | rfl | (simp; done) | (simp [*]; done), by repeat (first | exact Drawn0.refl _ | apply Drawn0.step)⟩
      ·rw [if_neg c6] at H
       exact absurd H (by simp)
     ·rw [if_neg c5] at H
      exact absurd H (by simp)
    ·rw [if_neg c4] at H
     have c4b0 : decide (x5_1 < (l0.length : Int)) = false := decide_eq_false c4
     clear c4
     obtain rfl := Option.some.inj H
     go_wp2
     repeat (go_quiet (fail); try go_wp2)
     go_ret
     exact ⟨by first | rfl | (simp; done) | (simp [*]; done), by repeat (first | exact Drawn0.refl _ | apply Drawn0.step)⟩
 ·rw [if_neg c3] at H
  have c3b0 : ((l0.length : Int) == (l1.length : Int)) = false := beq_eq_false_iff_ne.mpr c3
  have c3b1 : ((l0.length : Int) != (l1.length : Int)) = true := bne_iff_ne.mpr c3
  have c3b2 : (l0.length == l1.length) = false := by first | simpa using c3 | (simp at c3 ⊢; omega)
  obtain rfl := Option.some.inj H
  go_enter Try.func23, Try.ntmps23
  go_wp2
  repeat (go_quiet (fail); try go_wp2)
  go_ret
  exact ⟨by first | rfl | (simp; done) | (simp [*]; done), by repeat (first | exact Drawn0.refl _ | apply Drawn0.step)⟩
end Go.Proofs.Yteiladccdenpbaa.P
end
section
namespace Go.Proofs.Yteiladccdenpbaa.P
open Go.RowKit Go.Proofs.YteiladccdenpbaaW.PrintWords Go.Proofs.YteiladccdenpbaaW.PrintLast Go.Proofs.YteiladccdenpbaaW.PrintMore
attribute [local go_sem] max2_int min2_int max_two min_two max_three min_three max_four min_four
set_option linter.unusedVariables false
set_option linter.unusedSimpArgs false
mutual
def tree_Nodes.l0 : Nat → List Int → List (S49) → Int → Int → List (S55) → Int → Bool → List (S49) → Option (List Int)
 | 0, _, _, _, _, _, _, _, _ => none
 | k + 1, x5, x20, x21, x22, x133000, x133001, x138000, x138001 => if x22 < x21 then (if 0 ≤ x22 then (if x22 < (x20.length : Int) then (if x138000 = true then (tree_Nodes.l0 k x5 x20 x21 (wrap64 (x22 + 1)) x133000 x133001 x138000 x138001) else ((tree_Nodes.f k x133000 x133001 ((rd_T49 x20 x22).f1)).bind fun t140 => (if x5.length + t140.length < 17592186044416 then (tree_Nodes.l0 k (x5 ++ t140) x20 x21 (wrap64 (x22 + 1)) x133000 x133001 x138000 x138001) else (none)))) else (none)) else (none)) else (some x5)
def tree_Nodes.f : Nat → List (S55) → Int → Int → Option (List Int)
 | 0, _, _, _ => none
 | k + 1, l0_0, a0_1, a1 => if a1 < 0 then (some ([] : List Int)) else (if 0 ≤ a1 then (if a1 < (l0_0.length : Int) then (tree_Nodes.l0 k (([a1] : List Int)) ((rd_T55 l0_0 a1).f2.f1) (((rd_T55 l0_0 a1).f2.f1).length : Int) 0 l0_0 a0_1 ((rd_T55 l0_0 a1).f2.f0) ((rd_T55 l0_0 a1).f2.f1)) else (none)) else (none))
end
set_option maxHeartbeats 8000000 in
set_option maxRecDepth 100000 in
theorem tree_Nodes.calls (k : Nat) : ∀ (A0_0 : Option Addr) (c0_0 : Nat) (l0_0 : List (S55)) (a0_1 : Int) (a1 : Int) (r : List Int) (w : World) (hr0_0 : Kd.C k55 w A0_0 l0_0.length l0_0) (hc0_0 : l0_0.length ≤ c0_0) (h : tree_Nodes.f k l0_0 a0_1 a1 = some r),
  Calls Try.prog 24 #[.agg #[.slice A0_0 l0_0.length c0_0, .int .i64 a0_1], .int .i64 a1] w fun e w' => ∃ v0_ : Value, e = .returned (v0_) ∧ Kd.R (Kd.int .i64) 3 w' w.heap.size (fun _ => True) v0_ r ∧ Below w.heap.size w w' := by
 induction k using Nat.strongRecOn with
 | _ k ih =>
 intro A0_0 c0_0 l0_0 a0_1 a1 r w hr0_0 hc0_0 h
 cases k with
 | zero => exact absurd h (by simp [tree_Nodes.f])
 | succ k =>
 simp only [tree_Nodes.f] at h
 have hu24 := Try.underlying24
 have hu53 := Try.underlying53
 have hu49 := Try.underlying49
 have HR0_0 := Aside0.mk hr0_0
 have HC0_0 := Aside0.mk hc0_0
 clear hr0_0 hc0_0
 have HB := Aside0.mk (Below.refl w.heap.size w)
 have H : (if a1 < 0 then (some ([] : List Int)) else (if 0 ≤ a1 then (if a1 < (l0_0.length : Int) then (tree_Nodes.l0 k (([a1] : List Int)) ((rd_T55 l0_0 a1).f2.f1) (((rd_T55 l0_0 a1).f2.f1).length : Int) 0 l0_0 a0_1 ((rd_T55 l0_0 a1).f2.f0) ((rd_T55 l0_0 a1).f2.f1)) else (none)) else (none))) = some r := h
 clear h
 by_cases c3 : a1 < 0
 ·rw [if_pos c3] at H
  have c3b0 : decide (a1 < 0) = true := decide_eq_true c3
  clear c3
  obtain rfl := Option.some.inj H
  go_enter Try.func24, Try.ntmps24
  go_wp2_with (first | ((with_reducible refine gate_dst (N := 2) rfl ?_); refine box_event ?hg (N := 2) ?hd (cs := #[.slice A0_0 l0_0.length c0_0, .int .i64 a0_1]) (t := 24) ?hr ?_; (case hd => rfl); (case hg => rfl); (case hr => first | (go_simp; done) | (go_simp; rfl)); intro gb132 hg w4 hbox hb; have n0_ := Aside0.mk (below_step (by repeat (first | (with_reducible first | exact HB.out | apply below_alloc | apply pw_below_drewN | apply below_drew1) | exact HB.out)) hb); have n1_ := Aside0.mk (hbox); have n2_ := Aside0.mk ((by rw [hg]; exact (below_size (by repeat (first | (with_reducible first | exact HB.out | apply below_alloc | apply pw_below_drewN | apply below_drew1) | exact HB.out))) : w.heap.size ≤ gb132)); have n3_ := Aside0.mk ((by rw [hg]; exact (below_size (by repeat (first | (with_reducible first | exact HB.out | apply below_alloc | apply pw_below_drewN | apply below_drew1) | exact HB.out))) : w.heap.size ≤ gb132)); clear HB; have HB := n0_; have BK132 := n1_; have GW132 := n2_; have GE132 := n3_; clear n0_ n1_ n2_ n3_; clear hb hbox hg))
  go_ret
  exact ⟨_, by first | rfl | (simp [errW_none, errW_some] <;> rfl) | (simp [*, errW_none, errW_some] <;> rfl), by first | exact Kd.R_nil _ _ _ _ _ | exact Kd.N_nil _ _ _ _ _ | exact Kd.V_nil _ _ _ _ _ | exact Kd.Q_nil _ _ _ _ _ | exact Kd.S_nil _ _ _ _ _, by repeat (first | (with_reducible first | exact HB.out | apply below_alloc | apply pw_below_drewN | apply below_drew1 | refine below_set ?_ GE132.out) | exact HB.out)⟩
 ·rw [if_neg c3] at H
  have c3b0 : decide (a1 < 0) = false := decide_eq_false c3
  clear c3
  obtain ⟨y133, hy133⟩ : ∃ y_ : List Int, y_ = (([a1] : List Int)) := ⟨_, rfl⟩
  replace H : (if 0 ≤ a1 then (if a1 < (l0_0.length : Int) then (tree_Nodes.l0 k y133 ((rd_T55 l0_0 a1).f2.f1) (((rd_T55 l0_0 a1).f2.f1).length : Int) 0 l0_0 a0_1 ((rd_T55 l0_0 a1).f2.f0) ((rd_T55 l0_0 a1).f2.f1)) else (none)) else (none)) = some r := by first | (rw [hy133]; with_reducible exact H) | (have H2_ := (Option.bind_some _ _).symm.trans H; rw [hy133]; with_reducible exact H2_) | (have H2_ := (Option.bind_some _ _).symm.trans H; with_reducible exact H2_) | with_reducible exact H | (rw [hy133]; exact H) | exact H
  have Ny133 := Aside0.mk hy133
  clear hy133
  by_cases c5 : 0 ≤ a1
  ·rw [if_pos c5] at H
   have c5b0 : decide (0 ≤ a1) = true := decide_eq_true c5
   clear c5
   by_cases c6 : a1 < (l0_0.length : Int)
   ·rw [if_pos c6] at H
    have c6b0 : decide (a1 < (l0_0.length : Int)) = true := decide_eq_true c6
    clear c6
    have H' := Aside0.mk H
    clear H
    go_enter Try.func24, Try.ntmps24
    go_wp2_with (first | ((with_reducible refine gate_dst (N := 2) rfl ?_); refine box_event ?hg (N := 2) ?hd (cs := #[.slice A0_0 l0_0.length c0_0, .int .i64 a0_1]) (t := 24) ?hr ?_; (case hd => rfl); (case hg => rfl); (case hr => first | (go_simp; done) | (go_simp; rfl)); intro gb132 hg w7 hbox hb; have n0_ := Aside0.mk (below_step (by repeat (first | (with_reducible first | exact HB.out | apply below_alloc | apply pw_below_drewN | apply below_drew1) | exact HB.out)) hb); have n1_ := Aside0.mk (hbox); have n2_ := Aside0.mk ((by rw [hg]; exact (below_size (by repeat (first | (with_reducible first | exact HB.out | apply below_alloc | apply pw_below_drewN | apply below_drew1) | exact HB.out))) : w.heap.size ≤ gb132)); have n3_ := Aside0.mk ((by rw [hg]; exact (below_size (by repeat (first | (with_reducible first | exact HB.out | apply below_alloc | apply pw_below_drewN | apply below_drew1) | exact HB.out))) : w.heap.size ≤ gb132)); clear HB; have HB := n0_; have BK132 := n1_; have GW132 := n2_; have GE132 := n3_; clear n0_ n1_ n2_ n3_; clear hb hbox hg) | ((with_reducible refine gate_dst (N := 12) rfl ?_); refine Kd.R_lit (Kd.int .i64) _ 3 ?hg (N := 12) ?hd (xs := ([a1] : List Int)) (inner := [.int .i64 a1]) (ok := fun _ => True) (okp := fun _ => True) ?hr ?hp (fun _ hk => hk) trivial (Below.refl _ _) (Nat.le_refl _) (by simp) ?_; (case hd => rfl); (case hg => rfl); (case hr => first | (go_simp; done) | (go_simp; rfl)); (case hp => exact (Reps.one (show Kd.M (Kd.int .i64) _ _ _ a1 [.int .i64 a1] from rfl) (Reps.none _ _))); intro v134 w8 ho9 hb hg_ hnew_; clear hg_ hnew_; (first | rw [← Ny133.out] at ho9 | (simp only [Int.reduceToNat] at ho9; rw [← Ny133.out] at ho9)); have n0_ := Aside0.mk (Kd.R_lower ho9 (below_size (by repeat (first | (with_reducible first | exact HB.out | apply below_alloc | apply pw_below_drewN | apply below_drew1 | refine below_set ?_ GE132.out) | exact HB.out)))); have n1_ := Aside0.mk (blk_below (g := gb132) (o := .cells #[.slice A0_0 l0_0.length c0_0, .int .i64 a0_1] 24 (0, 0)) (by (with_reducible repeat (first | refine blk_drewN ?_ _ | refine blk_drew ?_ | refine blk_alloc ?_ _)); exact BK132.out) hb); have n2_ := Aside0.mk (below_step (by repeat (first | (with_reducible first | exact HB.out | apply below_alloc | apply pw_below_drewN | apply below_drew1 | refine below_set ?_ GE132.out) | exact HB.out)) hb); clear BK132; clear HB; have HO135 := n0_; have BK132 := n1_; have HB := n2_; clear n0_ n1_ n2_; clear hb ho9; have hcz10_0 : w8.cell? ⟨gb132, 0, none⟩ = some (.slice A0_0 l0_0.length c0_0) := (blk_cell BK132.out 0).trans rfl; have hcz10_1 : w8.cell? ⟨gb132, 1, none⟩ = some (.int .i64 a0_1) := (blk_cell BK132.out 1).trans rfl; have hfz10_0 := blk_frozen BK132.out 0; have hfz10_1 := blk_frozen BK132.out 1; have p136 : 0 ≤ (a1 : Int) := of_decide_eq_true (by first | (with_reducible assumption) | assumption); have q136 : a1 < (l0_0.length : Int) := of_decide_eq_true (by first | (with_reducible assumption) | assumption); obtain ⟨ad136, A136_3, c136_3, e136, hx136_0, hx136_1, hx136_2, hx136_3, hl136_3, hi136_3⟩ := at_T55 HR0_0.out a1 p136 q136; cases e136; replace hx136_0 := (HB.out.cell (World.block_lt_of_cell? w _ hx136_0)).trans hx136_0; replace hx136_1 := (HB.out.cell (World.block_lt_of_cell? w _ hx136_1)).trans hx136_1; replace hx136_2 := (HB.out.cell (World.block_lt_of_cell? w _ hx136_2)).trans hx136_2; replace hx136_3 := (HB.out.cell (World.block_lt_of_cell? w _ hx136_3)).trans hx136_3; have HR136_3 := Aside0.mk hi136_3; have HC136_3 := Aside0.mk hl136_3; clear hi136_3 hl136_3; replace p136 := eq_true p136; replace q136 := eq_true q136) | ((with_reducible refine gate_dst (N := 6) rfl ?_); refine box_event ?hg (N := 6) ?hd (cs := #[.bool false, .slice none 0 0]) (t := 53) ?hr ?_; (case hd => rfl); (case hg => rfl); (case hr => first | (go_simp; done) | (go_simp; rfl)); intro gb137 hg w11 hbox hb; have n0_ := Aside0.mk (Kd.R_below (by (with_reducible repeat (first | apply Kd.R_alloc | apply Kd.R_drewN | apply Kd.R_drew)); exact HO135.out) hb); have n1_ := Aside0.mk (blk_below (g := gb132) (o := .cells #[.slice (some ad136) l0_0.length c0_0, .int .i64 a0_1] 24 (0, 0)) (by (with_reducible repeat (first | refine blk_drewN ?_ _ | refine blk_drew ?_ | refine blk_alloc ?_ _)); exact BK132.out) hb); have n2_ := Aside0.mk (below_step (by repeat (first | (with_reducible first | exact HB.out | apply below_alloc | apply pw_below_drewN | apply below_drew1 | refine below_set ?_ GE132.out) | exact HB.out)) hb); have n3_ := Aside0.mk (hbox); have n4_ := Aside0.mk ((by rw [hg]; exact (below_size (by repeat (first | (with_reducible first | exact HB.out | apply below_alloc | apply pw_below_drewN | apply below_drew1 | refine below_set ?_ GE132.out) | exact HB.out))) : w.heap.size ≤ gb137)); have n5_ := Aside0.mk ((by rw [hg]; exact (below_size (by repeat (first | (with_reducible first | exact HB.out | apply below_alloc | apply pw_below_drewN | apply below_drew1 | refine below_set ?_ GE132.out) | exact HB.out))) : w.heap.size ≤ gb137)); have n6_ := Aside0.mk ((by rw [hg]; exact Nat.ne_of_lt (blk_lt (g := gb132) (o := .cells #[.slice (some ad136) l0_0.length c0_0, .int .i64 a0_1] 24 (0, 0)) (by (with_reducible repeat (first | refine blk_drewN ?_ _ | refine blk_drew ?_ | refine blk_alloc ?_ _)); exact BK132.out)) : gb132 ≠ gb137)); have n7_ := Aside0.mk ((by rw [hg]; exact Nat.ne_of_gt (blk_lt (g := gb132) (o := .cells #[.slice (some ad136) l0_0.length c0_0, .int .i64 a0_1] 24 (0, 0)) (by (with_reducible repeat (first | refine blk_drewN ?_ _ | refine blk_drew ?_ | refine blk_alloc ?_ _)); exact BK132.out)) : gb137 ≠ gb132)); clear HO135; clear BK132; clear HB; have HO135 := n0_; have BK132 := n1_; have HB := n2_; have BK137 := n3_; have GW137 := n4_; have GE137 := n5_; have NB132_137 := n6_; have NB137_132 := n7_; clear n0_ n1_ n2_ n3_ n4_ n5_ n6_ n7_; clear hb hbox hg; have hnb12 := NB137_132.out; have hnc12 := NB132_137.out; have hcz13_0 : w11.cell? ⟨gb137, 0, none⟩ = some (.bool false) := (blk_cell BK137.out 0).trans rfl; have hcz13_1 : w11.cell? ⟨gb137, 1, none⟩ = some (.slice none 0 0) := (blk_cell BK137.out 1).trans rfl; have hfz13_0 := blk_frozen BK137.out 0; have hfz13_1 := blk_frozen BK137.out 1))
    go_loopg [5, 22] k (fun kq v5 v22 w' => ∃ (x5_1 : List Int) (x22_1 : Int), v22 = .int .i64 x22_1 ∧ Aside0 (tree_Nodes.l0 kq x5_1 ((rd_T55 l0_0 a1).f2.f1) (((rd_T55 l0_0 a1).f2.f1).length : Int) x22_1 l0_0 a0_1 ((rd_T55 l0_0 a1).f2.f0) ((rd_T55 l0_0 a1).f2.f1) = some r) ∧ Aside0 (kq ≤ k) ∧ Aside0 (Kd.R (Kd.int .i64) 3 w' w.heap.size (fun _ => True) v5 x5_1) ∧ Aside0 (w'.heap[gb132]? = some (.cells #[(.slice (some ad136) l0_0.length c0_0), .int .i64 a0_1] 24 (0, 0))) ∧ Aside0 (w'.heap[gb137]? = some (.cells #[.bool ((rd_T55 l0_0 a1).f2.f0), (.slice A136_3 ((rd_T55 l0_0 a1).f2.f1).length c136_3)] 53 (0, 0))) ∧ Aside0 (Below w.heap.size w w'))
    case atStart => exact ⟨(y133), (0), (by first | rfl | (simp; done) | (simp [*]; done)), H', ⟨Nat.le_refl _⟩, ⟨by (with_reducible repeat (first | apply Kd.R_alloc | apply Kd.R_drewN | apply Kd.R_drew)); exact Kd.R_mono (Kd.R_far (p := ⟨gb137, 1, none⟩) (Kd.R_far (p := ⟨gb137, 0, none⟩) (Kd.R_types HO135.out BK137.out (by decide)) (fun _ hk => hk.2) (.bool ((rd_T55 l0_0 a1).f2.f0))) (fun _ hk => hk.2) (.slice A136_3 ((rd_T55 l0_0 a1).f2.f1).length c136_3)) (fun _ hk => trivial)⟩, ⟨by (with_reducible repeat (first | refine blk_drewN ?_ _ | refine blk_drew ?_ | refine blk_alloc ?_ _)); refine blk_far ?_ NB132_137.out _; (with_reducible repeat (first | refine blk_drewN ?_ _ | refine blk_drew ?_ | refine blk_alloc ?_ _)); refine blk_far ?_ NB132_137.out _; (with_reducible repeat (first | refine blk_drewN ?_ _ | refine blk_drew ?_ | refine blk_alloc ?_ _)); exact BK132.out⟩, ⟨by (with_reducible repeat (first | refine blk_drewN ?_ _ | refine blk_drew ?_ | refine blk_alloc ?_ _)); refine blk_put (cs := #[.bool ((rd_T55 l0_0 a1).f2.f0), .slice none 0 0]) ?_ 1 _ rfl; (with_reducible repeat (first | refine blk_drewN ?_ _ | refine blk_drew ?_ | refine blk_alloc ?_ _)); refine blk_put (cs := #[.bool false, .slice none 0 0]) ?_ 0 _ rfl; (with_reducible repeat (first | refine blk_drewN ?_ _ | refine blk_drew ?_ | refine blk_alloc ?_ _)); exact BK137.out⟩, ⟨by repeat (first | (with_reducible first | exact HB.out | apply below_alloc | apply pw_below_drewN | apply below_drew1 | refine below_set ?_ GE132.out | refine below_set ?_ GE137.out) | exact HB.out)⟩⟩
    case round =>
     clear H'
     try clear c1
     try clear p1
     try clear q1
     try clear hx1
     try clear c2
     try clear p2
     try clear c3
     try clear c3b0
     try clear c5
     try clear c5b0
     try clear c6
     try clear c6b0
     try clear c12
     try clear c13
     try clear p13
     try clear q13
     try clear hx13
     try clear hcz10_0
     try clear hcz10_1
     try clear hcz13_0
     try clear hcz13_1
     try clear hfz10_0
     try clear hfz10_1
     try clear hfz13_0
     try clear hfz13_1
     try clear hx136_0
     try clear hx136_1
     try clear hx136_2
     try clear hx136_3
     try clear p136
     try clear q136
     obtain ⟨x5_1, x22_1, rfl, HA, HK1, HO_5, BK132, BK137, HB⟩ := hrel
     cases gk with
     | zero => exact absurd HA.out (by simp [tree_Nodes.l0])
     | succ k1 =>
      have H := HA.out
      clear HA
      simp only [tree_Nodes.l0] at H
      by_cases c14 : x22_1 < (((rd_T55 l0_0 a1).f2.f1).length : Int)
      ·rw [if_pos c14] at H
       have c14b0 : decide (x22_1 < (((rd_T55 l0_0 a1).f2.f1).length : Int)) = true := decide_eq_true c14
       clear c14
       by_cases c15 : 0 ≤ x22_1
       ·rw [if_pos c15] at H
        have c15b0 : decide (0 ≤ x22_1) = true := decide_eq_true c15
        clear c15
        by_cases c16 : x22_1 < (((rd_T55 l0_0 a1).f2.f1).length : Int)
        ·rw [if_pos c16] at H
         have c16b0 : decide (x22_1 < (((rd_T55 l0_0 a1).f2.f1).length : Int)) = true := decide_eq_true c16
         clear c16
         by_cases c17 : ((rd_T55 l0_0 a1).f2.f0) = true
         ·rw [if_pos c17] at H
          have c17b0 : ((rd_T55 l0_0 a1).f2.f0) = true := c17
          clear c17
          have H' := Aside0.mk H
          clear H
          have p138 : 0 ≤ (x22_1 : Int) := of_decide_eq_true (by first | (with_reducible assumption) | assumption)
          have q138 : x22_1 < (((rd_T55 l0_0 a1).f2.f1).length : Int) := of_decide_eq_true (by first | (with_reducible assumption) | assumption)
          obtain ⟨ad138, e138, hx138_0, hx138_1⟩ := at_T49 HR136_3.out x22_1 p138 q138
          cases e138
          replace hx138_0 := (HB.out.cell (World.block_lt_of_cell? w _ hx138_0)).trans hx138_0
          replace hx138_1 := (HB.out.cell (World.block_lt_of_cell? w _ hx138_1)).trans hx138_1
          replace p138 := eq_true p138
          replace q138 := eq_true q138
          go_wp2_with (first | ((with_reducible refine gate_dst (N := 8) rfl ?_); refine box_event ?hg (N := 8) ?hd (cs := #[.int .i64 0, .int .i64 0]) (t := 49) ?hr ?_; (case hd => rfl); (case hg => rfl); (case hr => first | (go_simp; done) | (go_simp; rfl)); intro gb139 hg w18 hbox hb; have n0_ := Aside0.mk (Kd.R_below (by (with_reducible repeat (first | apply Kd.R_alloc | apply Kd.R_drewN | apply Kd.R_drew)); exact HO_5.out) hb); have n1_ := Aside0.mk (blk_below (g := gb132) (o := .cells #[.slice (some ad136) l0_0.length c0_0, .int .i64 a0_1] 24 (0, 0)) (by (with_reducible repeat (first | refine blk_drewN ?_ _ | refine blk_drew ?_ | refine blk_alloc ?_ _)); exact BK132.out) hb); have n2_ := Aside0.mk (blk_below (g := gb137) (o := .cells #[.bool ((rd_T55 l0_0 a1).f2.f0), .slice (some ad138) ((rd_T55 l0_0 a1).f2.f1).length c136_3] 53 (0, 0)) (by (with_reducible repeat (first | refine blk_drewN ?_ _ | refine blk_drew ?_ | refine blk_alloc ?_ _)); exact BK137.out) hb); have n3_ := Aside0.mk (below_step (by repeat (first | (with_reducible first | exact HB.out | apply below_alloc | apply pw_below_drewN | apply below_drew1 | refine below_set ?_ GE132.out | refine below_set ?_ GE137.out) | exact HB.out)) hb); have n4_ := Aside0.mk (hbox); have n5_ := Aside0.mk ((by rw [hg]; exact (below_size (by repeat (first | (with_reducible first | exact HB.out | apply below_alloc | apply pw_below_drewN | apply below_drew1 | refine below_set ?_ GE132.out | refine below_set ?_ GE137.out) | exact HB.out))) : w.heap.size ≤ gb139)); have n6_ := Aside0.mk ((by rw [hg]; exact (below_size (by repeat (first | (with_reducible first | exact HB.out | apply below_alloc | apply pw_below_drewN | apply below_drew1 | refine below_set ?_ GE132.out | refine below_set ?_ GE137.out) | exact HB.out))) : w.heap.size ≤ gb139)); have n7_ := Aside0.mk ((by rw [hg]; exact Nat.ne_of_lt (blk_lt (g := gb132) (o := .cells #[.slice (some ad136) l0_0.length c0_0, .int .i64 a0_1] 24 (0, 0)) (by (with_reducible repeat (first | refine blk_drewN ?_ _ | refine blk_drew ?_ | refine blk_alloc ?_ _)); exact BK132.out)) : gb132 ≠ gb139)); have n8_ := Aside0.mk ((by rw [hg]; exact Nat.ne_of_gt (blk_lt (g := gb132) (o := .cells #[.slice (some ad136) l0_0.length c0_0, .int .i64 a0_1] 24 (0, 0)) (by (with_reducible repeat (first | refine blk_drewN ?_ _ | refine blk_drew ?_ | refine blk_alloc ?_ _)); exact BK132.out)) : gb139 ≠ gb132)); have n9_ := Aside0.mk ((by rw [hg]; exact Nat.ne_of_lt (blk_lt (g := gb137) (o := .cells #[.bool ((rd_T55 l0_0 a1).f2.f0), .slice (some ad138) ((rd_T55 l0_0 a1).f2.f1).length c136_3] 53 (0, 0)) (by (with_reducible repeat (first | refine blk_drewN ?_ _ | refine blk_drew ?_ | refine blk_alloc ?_ _)); exact BK137.out)) : gb137 ≠ gb139)); have n10_ := Aside0.mk ((by rw [hg]; exact Nat.ne_of_gt (blk_lt (g := gb137) (o := .cells #[.bool ((rd_T55 l0_0 a1).f2.f0), .slice (some ad138) ((rd_T55 l0_0 a1).f2.f1).length c136_3] 53 (0, 0)) (by (with_reducible repeat (first | refine blk_drewN ?_ _ | refine blk_drew ?_ | refine blk_alloc ?_ _)); exact BK137.out)) : gb139 ≠ gb137)); clear HO_5; clear BK132; clear BK137; clear HB; have HO_5 := n0_; have BK132 := n1_; have BK137 := n2_; have HB := n3_; have BK139 := n4_; have GW139 := n5_; have GE139 := n6_; have NB132_139 := n7_; have NB139_132 := n8_; have NB137_139 := n9_; have NB139_137 := n10_; clear n0_ n1_ n2_ n3_ n4_ n5_ n6_ n7_ n8_ n9_ n10_; clear hb hbox hg; have hnb19 := NB139_132.out; have hnc19 := NB132_139.out; have hnb20 := NB139_137.out; have hnc20 := NB137_139.out; have hcz21_0 : w18.cell? ⟨gb139, 0, none⟩ = some (.int .i64 0) := (blk_cell BK139.out 0).trans rfl; have hcz21_1 : w18.cell? ⟨gb139, 1, none⟩ = some (.int .i64 0) := (blk_cell BK139.out 1).trans rfl; have hfz21_0 := blk_frozen BK139.out 0; have hfz21_1 := blk_frozen BK139.out 1; have hnb22 := NB137_132.out; have hnc22 := NB132_137.out; have hcz23_0 : w18.cell? ⟨gb137, 0, none⟩ = some (.bool ((rd_T55 l0_0 a1).f2.f0)) := (blk_cell BK137.out 0).trans rfl; have hcz23_1 : w18.cell? ⟨gb137, 1, none⟩ = some (.slice (some ad138) ((rd_T55 l0_0 a1).f2.f1).length c136_3) := (blk_cell BK137.out 1).trans rfl; have hfz23_0 := blk_frozen BK137.out 0; have hfz23_1 := blk_frozen BK137.out 1))
          rw [show (Value.agg #[Value.bool true, Value.slice (some ad138) ((rd_T55 l0_0 a1).f2.f1).length c136_3]) = Value.agg #[Value.bool ((rd_T55 l0_0 a1).f2.f0), Value.slice (some ad138) ((rd_T55 l0_0 a1).f2.f1).length c136_3] by rw [c17b0]]
          go_roundg k1
          case measure => have := HK1.out; omega
          case rel => exact ⟨(x5_1), (wrap64 (x22_1 + 1)), (by first | rfl | (simp; done) | (simp [*]; done)), H', ⟨by have := HK1.out; omega⟩, ⟨by (with_reducible repeat (first | apply Kd.R_alloc | apply Kd.R_drewN | apply Kd.R_drew)); exact Kd.R_mono (Kd.R_far (p := ⟨gb139, 1, none⟩) (Kd.R_far (p := ⟨gb139, 0, none⟩) (Kd.R_types HO_5.out BK139.out (by decide)) (fun _ hk => hk.2) (.int .i64 ((rd_T49 ((rd_T55 l0_0 a1).f2.f1) x22_1).f0))) (fun _ hk => hk.2) (.int .i64 ((rd_T49 ((rd_T55 l0_0 a1).f2.f1) x22_1).f1))) (fun _ hk => trivial)⟩, ⟨by (with_reducible repeat (first | refine blk_drewN ?_ _ | refine blk_drew ?_ | refine blk_alloc ?_ _)); refine blk_far ?_ NB132_139.out _; (with_reducible repeat (first | refine blk_drewN ?_ _ | refine blk_drew ?_ | refine blk_alloc ?_ _)); refine blk_far ?_ NB132_139.out _; (with_reducible repeat (first | refine blk_drewN ?_ _ | refine blk_drew ?_ | refine blk_alloc ?_ _)); exact BK132.out⟩, ⟨by (with_reducible repeat (first | refine blk_drewN ?_ _ | refine blk_drew ?_ | refine blk_alloc ?_ _)); refine blk_far ?_ NB137_139.out _; (with_reducible repeat (first | refine blk_drewN ?_ _ | refine blk_drew ?_ | refine blk_alloc ?_ _)); refine blk_far ?_ NB137_139.out _; (with_reducible repeat (first | refine blk_drewN ?_ _ | refine blk_drew ?_ | refine blk_alloc ?_ _)); exact BK137.out⟩, ⟨by repeat (first | (with_reducible first | exact HB.out | apply below_alloc | apply pw_below_drewN | apply below_drew1 | refine below_set ?_ GE132.out | refine below_set ?_ GE137.out | refine below_set ?_ GE139.out) | exact HB.out)⟩⟩
         ·rw [if_neg c17] at H
          have c17b0 : ((rd_T55 l0_0 a1).f2.f0) = false := by simpa using c17
          clear c17
          replace H := Option.bind_eq_some_iff.mp H
          obtain ⟨t140, A240, H⟩ := H
          replace H : (if x5_1.length + t140.length < 17592186044416 then (tree_Nodes.l0 k1 (x5_1 ++ t140) ((rd_T55 l0_0 a1).f2.f1) (((rd_T55 l0_0 a1).f2.f1).length : Int) (wrap64 (x22_1 + 1)) l0_0 a0_1 ((rd_T55 l0_0 a1).f2.f0) ((rd_T55 l0_0 a1).f2.f1)) else (none)) = some r := H
          have A24 := Aside0.mk A240
          clear A240
          by_cases c25 : x5_1.length + t140.length < 17592186044416
          ·rw [if_pos c25] at H
           have LMc25 := Aside0.mk c25
           clear c25
           obtain ⟨y143, hy143⟩ : ∃ y_ : List Int, y_ = (x5_1 ++ t140) := ⟨_, rfl⟩
           replace H : (tree_Nodes.l0 k1 y143 ((rd_T55 l0_0 a1).f2.f1) (((rd_T55 l0_0 a1).f2.f1).length : Int) (wrap64 (x22_1 + 1)) l0_0 a0_1 ((rd_T55 l0_0 a1).f2.f0) ((rd_T55 l0_0 a1).f2.f1)) = some r := by first | (rw [hy143]; with_reducible exact H) | (have H2_ := (Option.bind_some _ _).symm.trans H; rw [hy143]; with_reducible exact H2_) | (have H2_ := (Option.bind_some _ _).symm.trans H; with_reducible exact H2_) | with_reducible exact H | (rw [hy143]; exact H) | exact H
           have Ny143 := Aside0.mk hy143
           clear hy143
           have H' := Aside0.mk H
           clear H
           have p138 : 0 ≤ (x22_1 : Int) := of_decide_eq_true (by first | (with_reducible assumption) | assumption)
           have q138 : x22_1 < (((rd_T55 l0_0 a1).f2.f1).length : Int) := of_decide_eq_true (by first | (with_reducible assumption) | assumption)
           obtain ⟨ad138, e138, hx138_0, hx138_1⟩ := at_T49 HR136_3.out x22_1 p138 q138
           cases e138
           replace hx138_0 := (HB.out.cell (World.block_lt_of_cell? w _ hx138_0)).trans hx138_0
           replace hx138_1 := (HB.out.cell (World.block_lt_of_cell? w _ hx138_1)).trans hx138_1
           replace p138 := eq_true p138
           replace q138 := eq_true q138
           go_wp2_with (first | ((with_reducible refine gate_dst (N := 8) rfl ?_); refine box_event ?hg (N := 8) ?hd (cs := #[.int .i64 0, .int .i64 0]) (t := 49) ?hr ?_; (case hd => rfl); (case hg => rfl); (case hr => first | (go_simp; done) | (go_simp; rfl)); intro gb139 hg w26 hbox hb; have n0_ := Aside0.mk (Kd.R_below (by (with_reducible repeat (first | apply Kd.R_alloc | apply Kd.R_drewN | apply Kd.R_drew)); exact HO_5.out) hb); have n1_ := Aside0.mk (blk_below (g := gb132) (o := .cells #[.slice (some ad136) l0_0.length c0_0, .int .i64 a0_1] 24 (0, 0)) (by (with_reducible repeat (first | refine blk_drewN ?_ _ | refine blk_drew ?_ | refine blk_alloc ?_ _)); exact BK132.out) hb); have n2_ := Aside0.mk (blk_below (g := gb137) (o := .cells #[.bool ((rd_T55 l0_0 a1).f2.f0), .slice (some ad138) ((rd_T55 l0_0 a1).f2.f1).length c136_3] 53 (0, 0)) (by (with_reducible repeat (first | refine blk_drewN ?_ _ | refine blk_drew ?_ | refine blk_alloc ?_ _)); exact BK137.out) hb); have n3_ := Aside0.mk (below_step (by repeat (first | (with_reducible first | exact HB.out | apply below_alloc | apply pw_below_drewN | apply below_drew1 | refine below_set ?_ GE132.out | refine below_set ?_ GE137.out) | exact HB.out)) hb); have n4_ := Aside0.mk (hbox); have n5_ := Aside0.mk ((by rw [hg]; exact (below_size (by repeat (first | (with_reducible first | exact HB.out | apply below_alloc | apply pw_below_drewN | apply below_drew1 | refine below_set ?_ GE132.out | refine below_set ?_ GE137.out) | exact HB.out))) : w.heap.size ≤ gb139)); have n6_ := Aside0.mk ((by rw [hg]; exact (below_size (by repeat (first | (with_reducible first | exact HB.out | apply below_alloc | apply pw_below_drewN | apply below_drew1 | refine below_set ?_ GE132.out | refine below_set ?_ GE137.out) | exact HB.out))) : w.heap.size ≤ gb139)); have n7_ := Aside0.mk ((by rw [hg]; exact Nat.ne_of_lt (blk_lt (g := gb132) (o := .cells #[.slice (some ad136) l0_0.length c0_0, .int .i64 a0_1] 24 (0, 0)) (by (with_reducible repeat (first | refine blk_drewN ?_ _ | refine blk_drew ?_ | refine blk_alloc ?_ _)); exact BK132.out)) : gb132 ≠ gb139)); have n8_ := Aside0.mk ((by rw [hg]; exact Nat.ne_of_gt (blk_lt (g := gb132) (o := .cells #[.slice (some ad136) l0_0.length c0_0, .int .i64 a0_1] 24 (0, 0)) (by (with_reducible repeat (first | refine blk_drewN ?_ _ | refine blk_drew ?_ | refine blk_alloc ?_ _)); exact BK132.out)) : gb139 ≠ gb132)); have n9_ := Aside0.mk ((by rw [hg]; exact Nat.ne_of_lt (blk_lt (g := gb137) (o := .cells #[.bool ((rd_T55 l0_0 a1).f2.f0), .slice (some ad138) ((rd_T55 l0_0 a1).f2.f1).length c136_3] 53 (0, 0)) (by (with_reducible repeat (first | refine blk_drewN ?_ _ | refine blk_drew ?_ | refine blk_alloc ?_ _)); exact BK137.out)) : gb137 ≠ gb139)); have n10_ := Aside0.mk ((by rw [hg]; exact Nat.ne_of_gt (blk_lt (g := gb137) (o := .cells #[.bool ((rd_T55 l0_0 a1).f2.f0), .slice (some ad138) ((rd_T55 l0_0 a1).f2.f1).length c136_3] 53 (0, 0)) (by (with_reducible repeat (first | refine blk_drewN ?_ _ | refine blk_drew ?_ | refine blk_alloc ?_ _)); exact BK137.out)) : gb139 ≠ gb137)); clear HO_5; clear BK132; clear BK137; clear HB; have HO_5 := n0_; have BK132 := n1_; have BK137 := n2_; have HB := n3_; have BK139 := n4_; have GW139 := n5_; have GE139 := n6_; have NB132_139 := n7_; have NB139_132 := n8_; have NB137_139 := n9_; have NB139_137 := n10_; clear n0_ n1_ n2_ n3_ n4_ n5_ n6_ n7_ n8_ n9_ n10_; clear hb hbox hg; have hnb27 := NB139_132.out; have hnc27 := NB132_139.out; have hnb28 := NB139_137.out; have hnc28 := NB137_139.out; have hcz29_0 : w26.cell? ⟨gb139, 0, none⟩ = some (.int .i64 0) := (blk_cell BK139.out 0).trans rfl; have hcz29_1 : w26.cell? ⟨gb139, 1, none⟩ = some (.int .i64 0) := (blk_cell BK139.out 1).trans rfl; have hfz29_0 := blk_frozen BK139.out 0; have hfz29_1 := blk_frozen BK139.out 1; have hnb30 := NB137_132.out; have hnc30 := NB132_137.out; have hcz31_0 : w26.cell? ⟨gb137, 0, none⟩ = some (.bool ((rd_T55 l0_0 a1).f2.f0)) := (blk_cell BK137.out 0).trans rfl; have hcz31_1 : w26.cell? ⟨gb137, 1, none⟩ = some (.slice (some ad138) ((rd_T55 l0_0 a1).f2.f1).length c136_3) := (blk_cell BK137.out 1).trans rfl; have hfz31_0 := blk_frozen BK137.out 0; have hfz31_1 := blk_frozen BK137.out 1; have hcz32_0 : w26.cell? ⟨gb132, 0, none⟩ = some (.slice (some ad136) l0_0.length c0_0) := (blk_cell BK132.out 0).trans rfl; have hcz32_1 : w26.cell? ⟨gb132, 1, none⟩ = some (.int .i64 a0_1) := (blk_cell BK132.out 1).trans rfl; have hfz32_0 := blk_frozen BK132.out 0; have hfz32_1 := blk_frozen BK132.out 1) | ((with_reducible refine gate_callee (f := 24) rfl ?_); refine goesL_ (some 33) rfl rfl Try.func24 (by kernel_rfl) rfl #[.agg #[.slice (some ad136) l0_0.length c0_0, .int .i64 a0_1], .int .i64 ((rd_T49 ((rd_T55 l0_0 a1).f2.f1) x22_1).f1)] rfl (by (try simp only [List.map_toArray, List.map_cons, List.map_nil]); first | done | rfl | (simp only [List.length_drop, List.length_take]; rfl)) ?_; (with_reducible refine (ih k1 (by have := HK1.out; omega) _ _ l0_0 a0_1 ((rd_T49 ((rd_T55 l0_0 a1).f2.f1) x22_1).f1) t140 _ ?side1 ?side2 A24.out).mono ?_); (case side1 => exact Kd.C_below HR0_0.out (by repeat (first | (with_reducible first | exact HB.out | apply below_alloc | apply pw_below_drewN | apply below_drew1 | refine below_set ?_ GE132.out | refine below_set ?_ GE137.out | refine below_set ?_ GE139.out) | exact HB.out))); (case side2 => exact HC0_0.out); rintro e w33 ⟨v141, rfl, ho0, hb⟩; refine ⟨_, rfl, ?_⟩; have n0_ := Aside0.mk (Kd.R_elder' (by (with_reducible repeat (first | apply Kd.R_alloc | apply Kd.R_drewN | apply Kd.R_drew)); exact (Kd.R_mono (Kd.R_far (p := ⟨gb139, 1, none⟩) (Kd.R_far (p := ⟨gb139, 0, none⟩) (Kd.R_types HO_5.out BK139.out (by decide)) (fun _ hk => hk.2) (.int .i64 ((rd_T49 ((rd_T55 l0_0 a1).f2.f1) x22_1).f0))) (fun _ hk => hk.2) (.int .i64 ((rd_T49 ((rd_T55 l0_0 a1).f2.f1) x22_1).f1))) (fun _ h_ => h_.1))) (Kd.R_base ho0) hb); have n1_ := Aside0.mk (Kd.R_lower (Kd.R_new' ho0 (Kd.R_lt (by (with_reducible repeat (first | apply Kd.R_alloc | apply Kd.R_drewN | apply Kd.R_drew)); exact (Kd.R_mono (Kd.R_far (p := ⟨gb139, 1, none⟩) (Kd.R_far (p := ⟨gb139, 0, none⟩) (Kd.R_types HO_5.out BK139.out (by decide)) (fun _ hk => hk.2) (.int .i64 ((rd_T49 ((rd_T55 l0_0 a1).f2.f1) x22_1).f0))) (fun _ hk => hk.2) (.int .i64 ((rd_T49 ((rd_T55 l0_0 a1).f2.f1) x22_1).f1))) (fun _ h_ => h_.1))))) (below_size (by repeat (first | (with_reducible first | exact HB.out | apply below_alloc | apply pw_below_drewN | apply below_drew1 | refine below_set ?_ GE132.out | refine below_set ?_ GE137.out | refine below_set ?_ GE139.out) | exact HB.out)))); have n2_ := Aside0.mk (blk_below (g := gb132) (o := .cells #[.slice (some ad136) l0_0.length c0_0, .int .i64 a0_1] 24 (0, 0)) (by (with_reducible repeat (first | refine blk_drewN ?_ _ | refine blk_drew ?_ | refine blk_alloc ?_ _)); refine blk_far ?_ NB132_139.out _; (with_reducible repeat (first | refine blk_drewN ?_ _ | refine blk_drew ?_ | refine blk_alloc ?_ _)); refine blk_far ?_ NB132_139.out _; (with_reducible repeat (first | refine blk_drewN ?_ _ | refine blk_drew ?_ | refine blk_alloc ?_ _)); exact BK132.out) hb); have n3_ := Aside0.mk (blk_below (g := gb137) (o := .cells #[.bool ((rd_T55 l0_0 a1).f2.f0), .slice (some ad138) ((rd_T55 l0_0 a1).f2.f1).length c136_3] 53 (0, 0)) (by (with_reducible repeat (first | refine blk_drewN ?_ _ | refine blk_drew ?_ | refine blk_alloc ?_ _)); refine blk_far ?_ NB137_139.out _; (with_reducible repeat (first | refine blk_drewN ?_ _ | refine blk_drew ?_ | refine blk_alloc ?_ _)); refine blk_far ?_ NB137_139.out _; (with_reducible repeat (first | refine blk_drewN ?_ _ | refine blk_drew ?_ | refine blk_alloc ?_ _)); exact BK137.out) hb); have n4_ := Aside0.mk (blk_below (g := gb139) (o := .cells #[.int .i64 ((rd_T49 ((rd_T55 l0_0 a1).f2.f1) x22_1).f0), .int .i64 ((rd_T49 ((rd_T55 l0_0 a1).f2.f1) x22_1).f1)] 49 (0, 0)) (by (with_reducible repeat (first | refine blk_drewN ?_ _ | refine blk_drew ?_ | refine blk_alloc ?_ _)); refine blk_put (cs := #[.int .i64 ((rd_T49 ((rd_T55 l0_0 a1).f2.f1) x22_1).f0), .int .i64 0]) ?_ 1 _ rfl; (with_reducible repeat (first | refine blk_drewN ?_ _ | refine blk_drew ?_ | refine blk_alloc ?_ _)); refine blk_put (cs := #[.int .i64 0, .int .i64 0]) ?_ 0 _ rfl; (with_reducible repeat (first | refine blk_drewN ?_ _ | refine blk_drew ?_ | refine blk_alloc ?_ _)); exact BK139.out) hb); have n5_ := Aside0.mk (below_step (by repeat (first | (with_reducible first | exact HB.out | apply below_alloc | apply pw_below_drewN | apply below_drew1 | refine below_set ?_ GE132.out | refine below_set ?_ GE137.out | refine below_set ?_ GE139.out) | exact HB.out)) hb); clear HO_5; clear BK132; clear BK137; clear BK139; clear HB; have HO_5 := n0_; have HO142 := n1_; have BK132 := n2_; have BK137 := n3_; have BK139 := n4_; have HB := n5_; clear n0_ n1_ n2_ n3_ n4_ n5_; (try clear hb); (try clear hb2); (try clear hk); (try clear hi); (try clear ho0); obtain ⟨Ao35, co35, eo35⟩ := Kd.R_slice HO142.out; subst eo35) | ((with_reducible refine gate_builtin (b := .append) (xs := #[.tmp 29, .tmp 33]) rfl ?_); at_builtin; refine Kd.R_append_rows (Kd.int .i64) (w0 := w) w.heap.size rfl (.tmp 29) (.tmp 33) 31 3 (.int .i64 0) 8 rfl Try.underlying31 info3 rfl (by decide) (by omega) u5 x5_1 t140 _ _ _ (fun k_ => some k_ ≠ (.slice Ao35 t140.length co35 : Value).ownBlock) (fun _ => False) rfl rfl ?aO ?aR (fun _ _ h => h) (fun _ h => h.elim) ?aF ?aB ?aS ?aL ?_; (case aR => repeat (first | exact (Kd.R_reads' HO142.out).2.2 | (with_reducible refine Kd.C_alloc ?_ _) | (with_reducible refine Kd.C_drewN ?_ _) | (with_reducible refine Kd.C_drew ?_))); (case aB => exact (by repeat (first | (with_reducible first | exact HB.out | apply below_alloc | apply pw_below_drewN | apply below_drew1 | refine below_set ?_ GE132.out | refine below_set ?_ GE137.out | refine below_set ?_ GE139.out) | exact HB.out))); (case aF => exact (fun k_ hk => Kd.fresh' (Kd.R_lt (by (with_reducible repeat (first | apply Kd.R_alloc | apply Kd.R_drewN | apply Kd.R_drew)); exact HO142.out)) k_ hk)); (case aO => exact (by (with_reducible repeat (first | apply Kd.R_alloc | apply Kd.R_drewN | apply Kd.R_drew)); exact Kd.R_mono HO_5.out (fun _ hk => hk.2))); (case aS => exact (below_size (by repeat (first | (with_reducible first | exact HB.out | apply below_alloc | apply pw_below_drewN | apply below_drew1 | refine below_set ?_ GE132.out | refine below_set ?_ GE137.out | refine below_set ?_ GE139.out) | exact HB.out)))); (case aL => have := LMc25.out; omega); intro v144 w34 ho hb hg hat; rw [← Ny143.out] at ho; have n0_ := Aside0.mk (blk_grown (g := gb132) (o := .cells #[.slice (some ad136) l0_0.length c0_0, .int .i64 a0_1] 24 (0, 0)) (by (with_reducible repeat (first | refine blk_drewN ?_ _ | refine blk_drew ?_ | refine blk_alloc ?_ _)); exact BK132.out) hg (Kd.R_ne HO_5.out BK132.out (by decide))); have n1_ := Aside0.mk (blk_grown (g := gb137) (o := .cells #[.bool ((rd_T55 l0_0 a1).f2.f0), .slice (some ad138) ((rd_T55 l0_0 a1).f2.f1).length c136_3] 53 (0, 0)) (by (with_reducible repeat (first | refine blk_drewN ?_ _ | refine blk_drew ?_ | refine blk_alloc ?_ _)); exact BK137.out) hg (Kd.R_ne HO_5.out BK137.out (by decide))); have n2_ := Aside0.mk (blk_grown (g := gb139) (o := .cells #[.int .i64 ((rd_T49 ((rd_T55 l0_0 a1).f2.f1) x22_1).f0), .int .i64 ((rd_T49 ((rd_T55 l0_0 a1).f2.f1) x22_1).f1)] 49 (0, 0)) (by (with_reducible repeat (first | refine blk_drewN ?_ _ | refine blk_drew ?_ | refine blk_alloc ?_ _)); exact BK139.out) hg (Kd.R_ne HO_5.out BK139.out (by decide))); have n3_ := Aside0.mk (Kd.R_after (ok := (fun _ => True)) (by (with_reducible repeat (first | apply Kd.R_alloc | apply Kd.R_drewN | apply Kd.R_drew)); exact HO142.out) hg hat); have n4_ := Aside0.mk (hb); have n5_ := Aside0.mk (ho); clear BK132; clear BK137; clear BK139; clear HO142; clear HB; clear HO_5; have BK132 := n0_; have BK137 := n1_; have BK139 := n2_; have HO142 := n3_; have HB := n4_; have HO145 := n5_; clear n0_ n1_ n2_ n3_ n4_ n5_; clear ho hb hg hat))
           rw [show (Value.agg #[Value.bool false, Value.slice (some ad138) ((rd_T55 l0_0 a1).f2.f1).length c136_3]) = Value.agg #[Value.bool ((rd_T55 l0_0 a1).f2.f0), Value.slice (some ad138) ((rd_T55 l0_0 a1).f2.f1).length c136_3] by rw [c17b0]]
           go_roundg k1
           case measure => have := HK1.out; omega
           case rel => exact ⟨(y143), (wrap64 (x22_1 + 1)), (by first | rfl | (simp; done) | (simp [*]; done)), H', ⟨by have := HK1.out; omega⟩, ⟨by (with_reducible repeat (first | apply Kd.R_alloc | apply Kd.R_drewN | apply Kd.R_drew)); exact Kd.R_mono HO145.out (fun _ hk => trivial)⟩, ⟨by (with_reducible repeat (first | refine blk_drewN ?_ _ | refine blk_drew ?_ | refine blk_alloc ?_ _)); exact BK132.out⟩, ⟨by (with_reducible repeat (first | refine blk_drewN ?_ _ | refine blk_drew ?_ | refine blk_alloc ?_ _)); exact BK137.out⟩, ⟨by repeat (first | (with_reducible first | exact HB.out | apply below_alloc | apply pw_below_drewN | apply below_drew1 | refine below_set ?_ GE132.out | refine below_set ?_ GE137.out | refine below_set ?_ GE139.out) | exact HB.out)⟩⟩
          ·rw [if_neg c25] at H
           exact absurd H (by simp)
        ·rw [if_neg c16] at H
         exact absurd H (by simp)
       ·rw [if_neg c15] at H
        exact absurd H (by simp)
      ·rw [if_neg c14] at H
       have c14b0 : decide (x22_1 < (((rd_T55 l0_0 a1).f2.f1).length : Int)) = false := decide_eq_false c14
       clear c14
       obtain rfl := Option.some.inj H
       go_wp2
       go_ret
       exact ⟨_, by first | rfl | (simp [errW_none, errW_some] <;> rfl) | (simp [*, errW_none, errW_some] <;> rfl), by (with_reducible repeat (first | apply Kd.R_alloc | apply Kd.R_drewN | apply Kd.R_drew)); exact HO_5.out, by repeat (first | (with_reducible first | exact HB.out | apply below_alloc | apply pw_below_drewN | apply below_drew1 | refine below_set ?_ GE132.out | refine below_set ?_ GE137.out) | exact HB.out)⟩
   ·rw [if_neg c6] at H
    exact absurd H (by simp)
  ·rw [if_neg c5] at H
   exact absurd H (by simp)
end Go.Proofs.Yteiladccdenpbaa.P
end
section
namespace Go.Proofs.Yteiladccdenpbaa.P
open Go.RowKit Go.Proofs.YteiladccdenpbaaW.PrintWords Go.Proofs.YteiladccdenpbaaW.PrintLast Go.Proofs.YteiladccdenpbaaW.PrintMore
attribute [local go_sem] max2_int min2_int max_two min_two max_three min_three max_four min_four
set_option linter.unusedVariables false
set_option linter.unusedSimpArgs false
mutual
def assartref07_Nodes.l0 : Nat → List Int → Int → List (S55) → Int → Bool → List (S49) → Option (List Int)
 | 0, _, _, _, _, _, _ => none
 | k + 1, x5, x7, x217000, x217001, x222000, x222001 => if x7 < (x222001.length : Int) then (if x222000 = true then (some x5) else (if 0 ≤ x7 then ((assartref07_Nodes.f k x217000 x217001 ((rd_T49 x222001 x7).f1)).bind fun t223 => (if x5.length + t223.length < 17592186044416 then (assartref07_Nodes.l0 k (x5 ++ t223) (wrap64 (x7 + 1)) x217000 x217001 x222000 x222001) else (none))) else (none))) else (some x5)
def assartref07_Nodes.f : Nat → List (S55) → Int → Int → Option (List Int)
 | 0, _, _, _ => none
 | k + 1, l0_0, a0_1, a1 => if a1 < 0 then (some ([] : List Int)) else (if 0 ≤ a1 then (if a1 < (l0_0.length : Int) then (assartref07_Nodes.l0 k (([a1] : List Int)) 0 l0_0 a0_1 ((rd_T55 l0_0 a1).f2.f0) ((rd_T55 l0_0 a1).f2.f1)) else (none)) else (none))
end
def assartref07_Nodes.T8 : Bool × List (List Nat × List Nat) := (true, [([], []), ([], []), ([], []), ([2], [2]), ([], []), ([3, 4], [3, 4]), ([5], [5]), ([6], [6]), ([1, 7], [1, 7]), ([0, 8, 8], [0, 8]), ([9, 9, 0, 1, 2, 3, 4, 5, 6, 7, 8, 9], [0, 9])])
def assartref07_Nodes.B8 : List Nat := [0, 0, 0, 4, 0, 28, 60, 124, 254, 511, 1023]
theorem assartref07_Nodes.tab8 : rtab .any (opsOf Try.f25 8) = assartref07_Nodes.T8 := by kernel_rfl
theorem assartref07_Nodes.bits8 : waitsOk assartref07_Nodes.T8.2 assartref07_Nodes.B8 = true := by kernel_rfl
set_option maxHeartbeats 8000000 in
set_option maxRecDepth 100000 in
theorem assartref07_Nodes.calls (k : Nat) : ∀ (A0_0 : Option Addr) (c0_0 : Nat) (l0_0 : List (S55)) (a0_1 : Int) (a1 : Int) (r : List Int) (w : World) (hr0_0 : Kd.C k55 w A0_0 l0_0.length l0_0) (hc0_0 : l0_0.length ≤ c0_0) (h : assartref07_Nodes.f k l0_0 a0_1 a1 = some r),
  Calls Try.prog 25 #[.agg #[.slice A0_0 l0_0.length c0_0, .int .i64 a0_1], .int .i64 a1] w fun e w' => ∃ v0_ : Value, e = .returned (v0_) ∧ Kd.R (Kd.int .i64) 3 w' w.heap.size (fun _ => True) v0_ r ∧ Below w.heap.size w w' := by
 induction k using Nat.strongRecOn with
 | _ k ih =>
 intro A0_0 c0_0 l0_0 a0_1 a1 r w hr0_0 hc0_0 h
 cases k with
 | zero => exact absurd h (by simp [assartref07_Nodes.f])
 | succ k =>
 simp only [assartref07_Nodes.f] at h
 have hu24 := Try.underlying24
 have hu53 := Try.underlying53
 have HR0_0 := Aside0.mk hr0_0
 have HC0_0 := Aside0.mk hc0_0
 clear hr0_0 hc0_0
 have HB := Aside0.mk (Below.refl w.heap.size w)
 have H : (if a1 < 0 then (some ([] : List Int)) else (if 0 ≤ a1 then (if a1 < (l0_0.length : Int) then (assartref07_Nodes.l0 k (([a1] : List Int)) 0 l0_0 a0_1 ((rd_T55 l0_0 a1).f2.f0) ((rd_T55 l0_0 a1).f2.f1)) else (none)) else (none))) = some r := h
 clear h
 by_cases c3 : a1 < 0
 ·rw [if_pos c3] at H
  have c3b0 : decide (a1 < 0) = true := decide_eq_true c3
  clear c3
  obtain rfl := Option.some.inj H
  go_enter Try.func25, Try.ntmps25
  go_wp2_with (first | ((with_reducible refine gate_dst (N := 2) rfl ?_); refine box_event ?hg (N := 2) ?hd (cs := #[.slice A0_0 l0_0.length c0_0, .int .i64 a0_1]) (t := 24) ?hr ?_; (case hd => rfl); (case hg => rfl); (case hr => first | (go_simp; done) | (go_simp; rfl)); intro gb216 hg w4 hbox hb; have n0_ := Aside0.mk (below_step (by repeat (first | (with_reducible first | exact HB.out | apply below_alloc | apply pw_below_drewN | apply below_drew1) | exact HB.out)) hb); have n1_ := Aside0.mk (hbox); have n2_ := Aside0.mk ((by rw [hg]; exact (below_size (by repeat (first | (with_reducible first | exact HB.out | apply below_alloc | apply pw_below_drewN | apply below_drew1) | exact HB.out))) : w.heap.size ≤ gb216)); have n3_ := Aside0.mk ((by rw [hg]; exact (below_size (by repeat (first | (with_reducible first | exact HB.out | apply below_alloc | apply pw_below_drewN | apply below_drew1) | exact HB.out))) : w.heap.size ≤ gb216)); clear HB; have HB := n0_; have BK216 := n1_; have GW216 := n2_; have GE216 := n3_; clear n0_ n1_ n2_ n3_; clear hb hbox hg))
  go_ret
  exact ⟨_, by first | rfl | (simp [errW_none, errW_some] <;> rfl) | (simp [*, errW_none, errW_some] <;> rfl), by first | exact Kd.R_nil _ _ _ _ _ | exact Kd.N_nil _ _ _ _ _ | exact Kd.V_nil _ _ _ _ _ | exact Kd.Q_nil _ _ _ _ _ | exact Kd.S_nil _ _ _ _ _, by repeat (first | (with_reducible first | exact HB.out | apply below_alloc | apply pw_below_drewN | apply below_drew1 | refine below_set ?_ GE216.out) | exact HB.out)⟩
 ·rw [if_neg c3] at H
  have c3b0 : decide (a1 < 0) = false := decide_eq_false c3
  clear c3
  obtain ⟨y217, hy217⟩ : ∃ y_ : List Int, y_ = (([a1] : List Int)) := ⟨_, rfl⟩
  replace H : (if 0 ≤ a1 then (if a1 < (l0_0.length : Int) then (assartref07_Nodes.l0 k y217 0 l0_0 a0_1 ((rd_T55 l0_0 a1).f2.f0) ((rd_T55 l0_0 a1).f2.f1)) else (none)) else (none)) = some r := by first | (rw [hy217]; with_reducible exact H) | (have H2_ := (Option.bind_some _ _).symm.trans H; rw [hy217]; with_reducible exact H2_) | (have H2_ := (Option.bind_some _ _).symm.trans H; with_reducible exact H2_) | with_reducible exact H | (rw [hy217]; exact H) | exact H
  have Ny217 := Aside0.mk hy217
  clear hy217
  by_cases c5 : 0 ≤ a1
  ·rw [if_pos c5] at H
   have c5b0 : decide (0 ≤ a1) = true := decide_eq_true c5
   clear c5
   by_cases c6 : a1 < (l0_0.length : Int)
   ·rw [if_pos c6] at H
    have c6b0 : decide (a1 < (l0_0.length : Int)) = true := decide_eq_true c6
    clear c6
    have H' := Aside0.mk H
    clear H
    go_enter Try.func25, Try.ntmps25
    go_wp2_with (first | ((with_reducible refine gate_dst (N := 2) rfl ?_); refine box_event ?hg (N := 2) ?hd (cs := #[.slice A0_0 l0_0.length c0_0, .int .i64 a0_1]) (t := 24) ?hr ?_; (case hd => rfl); (case hg => rfl); (case hr => first | (go_simp; done) | (go_simp; rfl)); intro gb216 hg w7 hbox hb; have n0_ := Aside0.mk (below_step (by repeat (first | (with_reducible first | exact HB.out | apply below_alloc | apply pw_below_drewN | apply below_drew1) | exact HB.out)) hb); have n1_ := Aside0.mk (hbox); have n2_ := Aside0.mk ((by rw [hg]; exact (below_size (by repeat (first | (with_reducible first | exact HB.out | apply below_alloc | apply pw_below_drewN | apply below_drew1) | exact HB.out))) : w.heap.size ≤ gb216)); have n3_ := Aside0.mk ((by rw [hg]; exact (below_size (by repeat (first | (with_reducible first | exact HB.out | apply below_alloc | apply pw_below_drewN | apply below_drew1) | exact HB.out))) : w.heap.size ≤ gb216)); clear HB; have HB := n0_; have BK216 := n1_; have GW216 := n2_; have GE216 := n3_; clear n0_ n1_ n2_ n3_; clear hb hbox hg) | ((with_reducible refine gate_dst (N := 11) rfl ?_); refine Kd.R_lit (Kd.int .i64) _ 3 ?hg (N := 11) ?hd (xs := ([a1] : List Int)) (inner := [.int .i64 a1]) (ok := fun _ => True) (okp := fun _ => True) ?hr ?hp (fun _ hk => hk) trivial (Below.refl _ _) (Nat.le_refl _) (by simp) ?_; (case hd => rfl); (case hg => rfl); (case hr => first | (go_simp; done) | (go_simp; rfl)); (case hp => exact (Reps.one (show Kd.M (Kd.int .i64) _ _ _ a1 [.int .i64 a1] from rfl) (Reps.none _ _))); intro v218 w8 ho9 hb hg_ hnew_; clear hg_ hnew_; (first | rw [← Ny217.out] at ho9 | (simp only [Int.reduceToNat] at ho9; rw [← Ny217.out] at ho9)); have n0_ := Aside0.mk (Kd.R_lower ho9 (below_size (by repeat (first | (with_reducible first | exact HB.out | apply below_alloc | apply pw_below_drewN | apply below_drew1 | refine below_set ?_ GE216.out) | exact HB.out)))); have n1_ := Aside0.mk (blk_below (g := gb216) (o := .cells #[.slice A0_0 l0_0.length c0_0, .int .i64 a0_1] 24 (0, 0)) (by (with_reducible repeat (first | refine blk_drewN ?_ _ | refine blk_drew ?_ | refine blk_alloc ?_ _)); exact BK216.out) hb); have n2_ := Aside0.mk (below_step (by repeat (first | (with_reducible first | exact HB.out | apply below_alloc | apply pw_below_drewN | apply below_drew1 | refine below_set ?_ GE216.out) | exact HB.out)) hb); clear BK216; clear HB; have HO219 := n0_; have BK216 := n1_; have HB := n2_; clear n0_ n1_ n2_; clear hb ho9; have hcz10_0 : w8.cell? ⟨gb216, 0, none⟩ = some (.slice A0_0 l0_0.length c0_0) := (blk_cell BK216.out 0).trans rfl; have hcz10_1 : w8.cell? ⟨gb216, 1, none⟩ = some (.int .i64 a0_1) := (blk_cell BK216.out 1).trans rfl; have hfz10_0 := blk_frozen BK216.out 0; have hfz10_1 := blk_frozen BK216.out 1; have p220 : 0 ≤ (a1 : Int) := of_decide_eq_true (by first | (with_reducible assumption) | assumption); have q220 : a1 < (l0_0.length : Int) := of_decide_eq_true (by first | (with_reducible assumption) | assumption); obtain ⟨ad220, A220_3, c220_3, e220, hx220_0, hx220_1, hx220_2, hx220_3, hl220_3, hi220_3⟩ := at_T55 HR0_0.out a1 p220 q220; cases e220; replace hx220_0 := (HB.out.cell (World.block_lt_of_cell? w _ hx220_0)).trans hx220_0; replace hx220_1 := (HB.out.cell (World.block_lt_of_cell? w _ hx220_1)).trans hx220_1; replace hx220_2 := (HB.out.cell (World.block_lt_of_cell? w _ hx220_2)).trans hx220_2; replace hx220_3 := (HB.out.cell (World.block_lt_of_cell? w _ hx220_3)).trans hx220_3; have HR220_3 := Aside0.mk hi220_3; have HC220_3 := Aside0.mk hl220_3; clear hi220_3 hl220_3; replace p220 := eq_true p220; replace q220 := eq_true q220) | ((with_reducible refine gate_dst (N := 6) rfl ?_); refine box_event ?hg (N := 6) ?hd (cs := #[.bool false, .slice none 0 0]) (t := 53) ?hr ?_; (case hd => rfl); (case hg => rfl); (case hr => first | (go_simp; done) | (go_simp; rfl)); intro gb221 hg w11 hbox hb; have n0_ := Aside0.mk (Kd.R_below (by (with_reducible repeat (first | apply Kd.R_alloc | apply Kd.R_drewN | apply Kd.R_drew)); exact HO219.out) hb); have n1_ := Aside0.mk (blk_below (g := gb216) (o := .cells #[.slice (some ad220) l0_0.length c0_0, .int .i64 a0_1] 24 (0, 0)) (by (with_reducible repeat (first | refine blk_drewN ?_ _ | refine blk_drew ?_ | refine blk_alloc ?_ _)); exact BK216.out) hb); have n2_ := Aside0.mk (below_step (by repeat (first | (with_reducible first | exact HB.out | apply below_alloc | apply pw_below_drewN | apply below_drew1 | refine below_set ?_ GE216.out) | exact HB.out)) hb); have n3_ := Aside0.mk (hbox); have n4_ := Aside0.mk ((by rw [hg]; exact (below_size (by repeat (first | (with_reducible first | exact HB.out | apply below_alloc | apply pw_below_drewN | apply below_drew1 | refine below_set ?_ GE216.out) | exact HB.out))) : w.heap.size ≤ gb221)); have n5_ := Aside0.mk ((by rw [hg]; exact (below_size (by repeat (first | (with_reducible first | exact HB.out | apply below_alloc | apply pw_below_drewN | apply below_drew1 | refine below_set ?_ GE216.out) | exact HB.out))) : w.heap.size ≤ gb221)); have n6_ := Aside0.mk ((by rw [hg]; exact Nat.ne_of_lt (blk_lt (g := gb216) (o := .cells #[.slice (some ad220) l0_0.length c0_0, .int .i64 a0_1] 24 (0, 0)) (by (with_reducible repeat (first | refine blk_drewN ?_ _ | refine blk_drew ?_ | refine blk_alloc ?_ _)); exact BK216.out)) : gb216 ≠ gb221)); have n7_ := Aside0.mk ((by rw [hg]; exact Nat.ne_of_gt (blk_lt (g := gb216) (o := .cells #[.slice (some ad220) l0_0.length c0_0, .int .i64 a0_1] 24 (0, 0)) (by (with_reducible repeat (first | refine blk_drewN ?_ _ | refine blk_drew ?_ | refine blk_alloc ?_ _)); exact BK216.out)) : gb221 ≠ gb216)); clear HO219; clear BK216; clear HB; have HO219 := n0_; have BK216 := n1_; have HB := n2_; have BK221 := n3_; have GW221 := n4_; have GE221 := n5_; have NB216_221 := n6_; have NB221_216 := n7_; clear n0_ n1_ n2_ n3_ n4_ n5_ n6_ n7_; clear hb hbox hg; have hnb12 := NB221_216.out; have hnc12 := NB216_221.out; have hcz13_0 : w11.cell? ⟨gb221, 0, none⟩ = some (.bool false) := (blk_cell BK221.out 0).trans rfl; have hcz13_1 : w11.cell? ⟨gb221, 1, none⟩ = some (.slice none 0 0) := (blk_cell BK221.out 1).trans rfl; have hfz13_0 := blk_frozen BK221.out 0; have hfz13_1 := blk_frozen BK221.out 1))
    go_loopg [5, 7] k (fun kq v5 v7 w' => ∃ (x5_1 : List Int) (x7_1 : Int), v7 = .int .i64 x7_1 ∧ Aside0 (assartref07_Nodes.l0 kq x5_1 x7_1 l0_0 a0_1 ((rd_T55 l0_0 a1).f2.f0) ((rd_T55 l0_0 a1).f2.f1) = some r) ∧ Aside0 (kq ≤ k) ∧ Aside0 (Kd.R (Kd.int .i64) 3 w' w.heap.size (fun _ => True) v5 x5_1) ∧ Aside0 (w'.heap[gb216]? = some (.cells #[(.slice (some ad220) l0_0.length c0_0), .int .i64 a0_1] 24 (0, 0))) ∧ Aside0 (w'.heap[gb221]? = some (.cells #[.bool ((rd_T55 l0_0 a1).f2.f0), (.slice A220_3 ((rd_T55 l0_0 a1).f2.f1).length c220_3)] 53 (0, 0))) ∧ Aside0 (Below w.heap.size w w'))
    case atStart => exact ⟨(y217), (0), (by first | rfl | (simp; done) | (simp [*]; done)), H', ⟨Nat.le_refl _⟩, ⟨by (with_reducible repeat (first | apply Kd.R_alloc | apply Kd.R_drewN | apply Kd.R_drew)); exact Kd.R_mono (Kd.R_far (p := ⟨gb221, 1, none⟩) (Kd.R_far (p := ⟨gb221, 0, none⟩) (Kd.R_types HO219.out BK221.out (by decide)) (fun _ hk => hk.2) (.bool ((rd_T55 l0_0 a1).f2.f0))) (fun _ hk => hk.2) (.slice A220_3 ((rd_T55 l0_0 a1).f2.f1).length c220_3)) (fun _ hk => trivial)⟩, ⟨by (with_reducible repeat (first | refine blk_drewN ?_ _ | refine blk_drew ?_ | refine blk_alloc ?_ _)); refine blk_far ?_ NB216_221.out _; (with_reducible repeat (first | refine blk_drewN ?_ _ | refine blk_drew ?_ | refine blk_alloc ?_ _)); refine blk_far ?_ NB216_221.out _; (with_reducible repeat (first | refine blk_drewN ?_ _ | refine blk_drew ?_ | refine blk_alloc ?_ _)); exact BK216.out⟩, ⟨by (with_reducible repeat (first | refine blk_drewN ?_ _ | refine blk_drew ?_ | refine blk_alloc ?_ _)); refine blk_put (cs := #[.bool ((rd_T55 l0_0 a1).f2.f0), .slice none 0 0]) ?_ 1 _ rfl; (with_reducible repeat (first | refine blk_drewN ?_ _ | refine blk_drew ?_ | refine blk_alloc ?_ _)); refine blk_put (cs := #[.bool false, .slice none 0 0]) ?_ 0 _ rfl; (with_reducible repeat (first | refine blk_drewN ?_ _ | refine blk_drew ?_ | refine blk_alloc ?_ _)); exact BK221.out⟩, ⟨by repeat (first | (with_reducible first | exact HB.out | apply below_alloc | apply pw_below_drewN | apply below_drew1 | refine below_set ?_ GE216.out | refine below_set ?_ GE221.out) | exact HB.out)⟩⟩
    case round =>
     clear H'
     try clear c1
     try clear c2
     try clear p2
     try clear q2
     try clear hx2
     try clear c3
     try clear c3b0
     try clear c5
     try clear c5b0
     try clear c6
     try clear c6b0
     try clear c12
     try clear hcz10_0
     try clear hcz10_1
     try clear hcz13_0
     try clear hcz13_1
     try clear hfz10_0
     try clear hfz10_1
     try clear hfz13_0
     try clear hfz13_1
     try clear hx220_0
     try clear hx220_1
     try clear hx220_2
     try clear hx220_3
     try clear p220
     try clear q220
     obtain ⟨x5_1, x7_1, rfl, HA, HK1, HO_5, BK216, BK221, HB⟩ := hrel
     cases gk with
     | zero => exact absurd HA.out (by simp [assartref07_Nodes.l0])
     | succ k1 =>
      have H := HA.out
      clear HA
      simp only [assartref07_Nodes.l0] at H
      by_cases c14 : x7_1 < (((rd_T55 l0_0 a1).f2.f1).length : Int)
      ·rw [if_pos c14] at H
       have c14b0 : decide (x7_1 < (((rd_T55 l0_0 a1).f2.f1).length : Int)) = true := decide_eq_true c14
       clear c14
       by_cases c15 : ((rd_T55 l0_0 a1).f2.f0) = true
       ·rw [if_pos c15] at H
        have c15b0 : ((rd_T55 l0_0 a1).f2.f0) = true := c15
        clear c15
        obtain rfl := Option.some.inj H
        have hnb16 := NB221_216.out
        have hnc16 := NB216_221.out
        have hcz17_0 : wr.cell? ⟨gb221, 0, none⟩ = some (.bool ((rd_T55 l0_0 a1).f2.f0)) := (blk_cell BK221.out 0).trans rfl
        have hcz17_1 : wr.cell? ⟨gb221, 1, none⟩ = some (.slice A220_3 ((rd_T55 l0_0 a1).f2.f1).length c220_3) := (blk_cell BK221.out 1).trans rfl
        have hfz17_0 := blk_frozen BK221.out 0
        have hfz17_1 := blk_frozen BK221.out 1
        go_wp2
        go_ret
        exact ⟨_, by first | rfl | (simp [errW_none, errW_some] <;> rfl) | (simp [*, errW_none, errW_some] <;> rfl), by (with_reducible repeat (first | apply Kd.R_alloc | apply Kd.R_drewN | apply Kd.R_drew)); exact HO_5.out, by repeat (first | (with_reducible first | exact HB.out | apply below_alloc | apply pw_below_drewN | apply below_drew1 | refine below_set ?_ GE216.out | refine below_set ?_ GE221.out) | exact HB.out)⟩
       ·rw [if_neg c15] at H
        have c15b0 : ((rd_T55 l0_0 a1).f2.f0) = false := by simpa using c15
        clear c15
        by_cases c18 : 0 ≤ x7_1
        ·rw [if_pos c18] at H
         have c18b0 : decide (0 ≤ x7_1) = true := decide_eq_true c18
         clear c18
         replace H := Option.bind_eq_some_iff.mp H
         obtain ⟨t223, A190, H⟩ := H
         replace H : (if x5_1.length + t223.length < 17592186044416 then (assartref07_Nodes.l0 k1 (x5_1 ++ t223) (wrap64 (x7_1 + 1)) l0_0 a0_1 ((rd_T55 l0_0 a1).f2.f0) ((rd_T55 l0_0 a1).f2.f1)) else (none)) = some r := H
         have A19 := Aside0.mk A190
         clear A190
         by_cases c20 : x5_1.length + t223.length < 17592186044416
         ·rw [if_pos c20] at H
          have LMc20 := Aside0.mk c20
          clear c20
          obtain ⟨y226, hy226⟩ : ∃ y_ : List Int, y_ = (x5_1 ++ t223) := ⟨_, rfl⟩
          replace H : (assartref07_Nodes.l0 k1 y226 (wrap64 (x7_1 + 1)) l0_0 a0_1 ((rd_T55 l0_0 a1).f2.f0) ((rd_T55 l0_0 a1).f2.f1)) = some r := by first | (rw [hy226]; with_reducible exact H) | (have H2_ := (Option.bind_some _ _).symm.trans H; rw [hy226]; with_reducible exact H2_) | (have H2_ := (Option.bind_some _ _).symm.trans H; with_reducible exact H2_) | with_reducible exact H | (rw [hy226]; exact H) | exact H
          have Ny226 := Aside0.mk hy226
          clear hy226
          have H' := Aside0.mk H
          clear H
          have hnb21 := NB221_216.out
          have hnc21 := NB216_221.out
          have hcz22_0 : wr.cell? ⟨gb221, 0, none⟩ = some (.bool ((rd_T55 l0_0 a1).f2.f0)) := (blk_cell BK221.out 0).trans rfl
          have hcz22_1 : wr.cell? ⟨gb221, 1, none⟩ = some (.slice A220_3 ((rd_T55 l0_0 a1).f2.f1).length c220_3) := (blk_cell BK221.out 1).trans rfl
          have hfz22_0 := blk_frozen BK221.out 0
          have hfz22_1 := blk_frozen BK221.out 1
          try go_wp2
          have n0_ := Aside0.mk (Kd.R_drew HO_5.out)
          have n1_ := Aside0.mk (blk_drew BK216.out)
          have n2_ := Aside0.mk (blk_drew BK221.out)
          have n3_ := Aside0.mk (below_drew1 HB.out)
          clear HO_5
          clear BK216
          clear BK221
          clear HB
          have HO_5 := n0_
          have BK216 := n1_
          have BK221 := n2_
          have HB := n3_
          clear n0_ n1_ n2_ n3_
          have p222 : 0 ≤ (x7_1 : Int) := of_decide_eq_true (by first | (with_reducible assumption) | assumption)
          have q222 : x7_1 < (((rd_T55 l0_0 a1).f2.f1).length : Int) := of_decide_eq_true (by first | (with_reducible assumption) | assumption)
          obtain ⟨ad222, e222, hx222_0, hx222_1⟩ := at_T49 HR220_3.out x7_1 p222 q222
          have hw222_1 := hx222_1
          have hw222_0 := hx222_0
          cases e222
          replace hx222_0 := (HB.out.cell (World.block_lt_of_cell? w _ hx222_0)).trans hx222_0
          replace hx222_1 := (HB.out.cell (World.block_lt_of_cell? w _ hx222_1)).trans hx222_1
          replace p222 := eq_true p222
          replace q222 := eq_true q222
          refine start_ (n := 11) (S := fun w' => w'.cell? ⟨gb216, 0, none⟩ = some (.slice (some ad220) l0_0.length c0_0) ∧ w'.cell? ⟨gb216, 1, none⟩ = some (.int .i64 a0_1) ∧ w'.cell? ⟨gb221, 0, none⟩ = some (.bool ((rd_T55 l0_0 a1).f2.f0)) ∧ w'.cell? ⟨gb221, 1, none⟩ = some (.slice (some ad222) ((rd_T55 l0_0 a1).f2.f1).length c220_3) ∧ w'.cell? (ad222.add ((x7_1).toNat * 2)) = some (.int .i64 ((rd_T49 ((rd_T55 l0_0 a1).f2.f1) x7_1).f0)) ∧ w'.cell? ⟨(ad222.add ((x7_1).toNat * 2)).block, (ad222.add ((x7_1).toNat * 2)).off + 1, none⟩ = some (.int .i64 ((rd_T49 ((rd_T55 l0_0 a1).f2.f1) x7_1).f1))) (ds := []) #[false, false, false, false, false, false, false, false, false, false, false] (by kernel_rfl) rfl rfl ⟨(blk_cell BK216.out 0).trans rfl, (blk_cell BK216.out 1).trans rfl, (blk_cell BK221.out 0).trans rfl, (blk_cell BK221.out 1).trans rfl, ((HB.out.cell (World.block_lt_of_cell? w _ hw222_0)).trans hw222_0), ((HB.out.cell (World.block_lt_of_cell? w _ hw222_1)).trans hw222_1)⟩ (fun hHeld => ?_); refine with_tabW assartref07_Nodes.tab8 assartref07_Nodes.bits8 (fun HT_ HW_ => ?_)
          generalize wr.drew = w23 at HO_5 BK216 BK221 HB hx222_0 hx222_1 hHeld ⊢
          refine pure_ (i := 0) (N := some 30) (v := ?_) (a' := ?_) #[true, false, false, false, false, false, false, false, false, false, false] rfl rfl (any_of HT_.out (by kernel_rfl)) (fun _ _ _ h => h) (Or.inl ⟨by rfl, ?_⟩) ?_ ?_
          rotate_left
          ·intro w'
           go_simp
           with_reducible rfl
          rotate_left
          ·simp only [Act.put, List.setIfInBounds_toArray, List.set_cons_zero, List.set_cons_succ, i64_w, i32_w]
           rfl
          refine pure_ (i := 2) (N := some 32) (v := ?_) (a' := ?_) #[true, false, true, false, false, false, false, false, false, false, false] rfl rfl (any_of HT_.out (by kernel_rfl)) (fun _ _ _ h => h) (Or.inl ⟨by rfl, ?_⟩) ?_ ?_
          rotate_left
          ·intro w'
           go_simp
           with_reducible rfl
          rotate_left
          ·simp only [Act.put, List.setIfInBounds_toArray, List.set_cons_zero, List.set_cons_succ, i64_w, i32_w]
           rfl
          refine pure_ (i := 4) (N := some 34) (v := ?_) (a' := ?_) #[true, false, true, false, true, false, false, false, false, false, false] rfl rfl (any_of HT_.out (by kernel_rfl)) (fun _ _ _ h => h) (Or.inl ⟨by rfl, ?_⟩) ?_ ?_
          rotate_left
          ·intro w'
           go_simp
           with_reducible rfl
          rotate_left
          ·simp only [Act.put, List.setIfInBounds_toArray, List.set_cons_zero, List.set_cons_succ, i64_w, i32_w]
           rfl
          refine take_ (i := 1) (N := some 31) (v := ?_) (a' := ?_) #[true, true, true, false, true, false, false, false, false, false, false] rfl rfl (take_ofW HT_.out HW_.out (by kernel_rfl)) (fun _ _ _ h => h) (Or.inl ⟨by rfl, ?_⟩) hHeld ?_ ?_
          rotate_left
          ·rintro w' ⟨s0, s1, s2, s3, s4, s5⟩
           go_simp
           with_reducible rfl
          rotate_left
          ·simp only [Act.put, List.setIfInBounds_toArray, List.set_cons_zero, List.set_cons_succ, i64_w, i32_w]
           rfl
          refine take_ (i := 3) (N := some 33) (v := ?_) (a' := ?_) #[true, true, true, true, true, false, false, false, false, false, false] rfl rfl (take_ofW HT_.out HW_.out (by kernel_rfl)) (fun _ _ _ h => h) (Or.inl ⟨by rfl, ?_⟩) hHeld ?_ ?_
          rotate_left
          ·rintro w' ⟨s0, s1, s2, s3, s4, s5⟩
           go_simp
           with_reducible rfl
          rotate_left
          ·simp only [Act.put, List.setIfInBounds_toArray, List.set_cons_zero, List.set_cons_succ, i64_w, i32_w]
           rfl
          refine pure_ (i := 5) (N := some 35) (v := ?_) (a' := ?_) #[true, true, true, true, true, true, false, false, false, false, false] rfl rfl (any_of HT_.out (by kernel_rfl)) (fun _ _ _ h => h) (Or.inl ⟨by rfl, ?_⟩) ?_ ?_
          rotate_left
          ·intro w'
           go_simp
           with_reducible rfl
          rotate_left
          ·simp only [Act.put, List.setIfInBounds_toArray, List.set_cons_zero, List.set_cons_succ, i64_w, i32_w]
           rfl
          refine pure_ (i := 6) (N := some 36) (v := ?_) (a' := ?_) #[true, true, true, true, true, true, true, false, false, false, false] rfl rfl (any_of HT_.out (by kernel_rfl)) (fun _ _ _ h => h) (Or.inl ⟨by rfl, ?_⟩) ?_ ?_
          rotate_left
          ·intro w'
           go_simp
           with_reducible rfl
          rotate_left
          ·simp only [Act.put, List.setIfInBounds_toArray, List.set_cons_zero, List.set_cons_succ, i64_w, i32_w]
           rfl
          refine take_ (i := 7) (N := some 37) (v := ?_) (a' := ?_) #[true, true, true, true, true, true, true, true, false, false, false] rfl rfl (take_ofW HT_.out HW_.out (by kernel_rfl)) (fun _ _ _ h => h) (Or.inl ⟨by rfl, ?_⟩) hHeld ?_ ?_
          rotate_left
          ·rintro w' ⟨s0, s1, s2, s3, s4, s5⟩
           go_simp
           with_reducible rfl
          rotate_left
          ·simp only [Act.put, List.setIfInBounds_toArray, List.set_cons_zero, List.set_cons_succ, i64_w, i32_w]
           rfl
          refine one_ (i := 8) (N := some 38) #[true, true, true, true, true, true, true, true, true, false, false] rfl rfl (one_of HT_.out (by kernel_rfl)) (by decide) (fun K hK => ?_)
          refine goes_ Try.func25 (by kernel_rfl) rfl #[.agg #[.slice (some ad220) l0_0.length c0_0, .int .i64 a0_1], .int .i64 ((rd_T49 ((rd_T55 l0_0 a1).f2.f1) x7_1).f1)] (by rfl) rfl rfl (by (try simp only [List.map_toArray, List.map_cons, List.map_nil]); first | done | rfl | (simp only [List.length_drop, List.length_take]; rfl)) ?_
          with_reducible refine (ih k1 (by have := HK1.out; omega) _ _ l0_0 a0_1 ((rd_T49 ((rd_T55 l0_0 a1).f2.f1) x7_1).f1) t223 _ ?side1 ?side2 A19.out).mono ?_
          (case side1 => repeat (first | exact (Kd.C_below HR0_0.out HB.out) | (with_reducible refine Kd.C_alloc ?_ _) | (with_reducible refine Kd.C_drewN ?_ _) | (with_reducible refine Kd.C_drew ?_)))
          (case side2 => exact HC0_0.out)
          rintro e w24 ⟨v224, rfl, ho0, hb⟩
          refine ⟨_, rfl, ?_⟩
          have n0_ := Aside0.mk (Kd.R_elder' (by (with_reducible repeat (first | apply Kd.R_alloc | apply Kd.R_drewN | apply Kd.R_drew)); exact HO_5.out) (Kd.R_base ho0) hb)
          have n1_ := Aside0.mk (Kd.R_lower (Kd.R_new' ho0 (Kd.R_lt (by (with_reducible repeat (first | apply Kd.R_alloc | apply Kd.R_drewN | apply Kd.R_drew)); exact HO_5.out))) (below_size (by repeat (first | (with_reducible first | exact HB.out | apply below_alloc | apply pw_below_drewN | apply below_drew1 | refine below_set ?_ GE216.out | refine below_set ?_ GE221.out) | exact HB.out))))
          have n2_ := Aside0.mk (blk_below (g := gb216) (o := .cells #[.slice (some ad220) l0_0.length c0_0, .int .i64 a0_1] 24 (0, 0)) (by (with_reducible repeat (first | refine blk_drewN ?_ _ | refine blk_drew ?_ | refine blk_alloc ?_ _)); exact BK216.out) hb)
          have n3_ := Aside0.mk (blk_below (g := gb221) (o := .cells #[.bool ((rd_T55 l0_0 a1).f2.f0), .slice (some ad222) ((rd_T55 l0_0 a1).f2.f1).length c220_3] 53 (0, 0)) (by (with_reducible repeat (first | refine blk_drewN ?_ _ | refine blk_drew ?_ | refine blk_alloc ?_ _)); exact BK221.out) hb)
          have n4_ := Aside0.mk (below_step (by repeat (first | (with_reducible first | exact HB.out | apply below_alloc | apply pw_below_drewN | apply below_drew1 | refine below_set ?_ GE216.out | refine below_set ?_ GE221.out) | exact HB.out)) hb)
          clear HO_5
          clear BK216
          clear BK221
          clear HB
          have HO_5 := n0_
          have HO225 := n1_
          have BK216 := n2_
          have BK221 := n3_
          have HB := n4_
          clear n0_ n1_ n2_ n3_ n4_
          (try clear hb)
          (try clear hb2)
          (try clear hk)
          (try clear hi)
          (try clear ho0)
          obtain ⟨Ao26, co26, eo26⟩ := Kd.R_slice HO225.out
          (first | subst eo26 | (injection eo26 with f1_ f2_ f3_; have f4_ := f1_.symm; have f5_ := f3_.symm; clear f1_ f2_ f3_; subst f4_; subst f5_))
          refine hK.out _ _ ⟨(blk_cell BK216.out 0).trans rfl, (blk_cell BK216.out 1).trans rfl, (blk_cell BK221.out 0).trans rfl, (blk_cell BK221.out 1).trans rfl, ((HB.out.cell (World.block_lt_of_cell? w _ hw222_0)).trans hw222_0), ((HB.out.cell (World.block_lt_of_cell? w _ hw222_1)).trans hw222_1)⟩ (fun hHeld => ?_)
          clear hK K
          refine norm_ (a' := ?_) ?_ ?_
          rotate_left
          ·show Act.put _ (some 38) _ = _
           simp only [Act.put, List.setIfInBounds_toArray, List.set_cons_zero, List.set_cons_succ, i64_w, i32_w]
           rfl
          refine one_ (i := 9) (N := some 39) #[true, true, true, true, true, true, true, true, true, true, false] rfl rfl (one_of HT_.out (by kernel_rfl)) (by decide) (fun K hK => ?_)
          refine Kd.R_append_rows_step (Kd.int .i64) (w0 := w) w.heap.size (by rfl) (.tmp 30) (.tmp 38) 31 3 (.int .i64 0) 8 rfl Try.underlying31 info3 rfl (by decide) (by omega) u5 x5_1 t223 _ _ _ (fun k_ => some k_ ≠ (.slice Ao26 t223.length co26 : Value).ownBlock) (fun _ => False) rfl rfl ?aO ?aR (fun _ _ h => h) (fun _ h => h.elim) ?aF ?aB ?aS ?aL ?_
          (case aR => repeat (first | exact (Kd.R_reads' HO225.out).2.2 | (with_reducible refine Kd.C_alloc ?_ _) | (with_reducible refine Kd.C_drewN ?_ _) | (with_reducible refine Kd.C_drew ?_)))
          (case aB => exact (by repeat (first | (with_reducible first | exact HB.out | apply below_alloc | apply pw_below_drewN | apply below_drew1 | refine below_set ?_ GE216.out | refine below_set ?_ GE221.out) | exact HB.out)))
          (case aF => exact (fun k_ hk => Kd.fresh' (Kd.R_lt (by (with_reducible repeat (first | apply Kd.R_alloc | apply Kd.R_drewN | apply Kd.R_drew)); exact HO225.out)) k_ hk))
          (case aO => exact (by (with_reducible repeat (first | apply Kd.R_alloc | apply Kd.R_drewN | apply Kd.R_drew)); exact Kd.R_mono HO_5.out (fun _ hk => hk.2)))
          (case aS => exact (below_size (by repeat (first | (with_reducible first | exact HB.out | apply below_alloc | apply pw_below_drewN | apply below_drew1 | refine below_set ?_ GE216.out | refine below_set ?_ GE221.out) | exact HB.out))))
          (case aL => have := LMc20.out; omega)
          intro v227 w25 ho hb hg hat
          rw [← Ny226.out] at ho
          have n0_ := Aside0.mk (blk_grown (g := gb216) (o := .cells #[.slice (some ad220) l0_0.length c0_0, .int .i64 a0_1] 24 (0, 0)) (by (with_reducible repeat (first | refine blk_drewN ?_ _ | refine blk_drew ?_ | refine blk_alloc ?_ _)); exact BK216.out) hg (Kd.R_ne HO_5.out BK216.out (by decide)))
          have n1_ := Aside0.mk (blk_grown (g := gb221) (o := .cells #[.bool ((rd_T55 l0_0 a1).f2.f0), .slice (some ad222) ((rd_T55 l0_0 a1).f2.f1).length c220_3] 53 (0, 0)) (by (with_reducible repeat (first | refine blk_drewN ?_ _ | refine blk_drew ?_ | refine blk_alloc ?_ _)); exact BK221.out) hg (Kd.R_ne HO_5.out BK221.out (by decide)))
          have n2_ := Aside0.mk (Kd.R_after (ok := (fun _ => True)) (by (with_reducible repeat (first | apply Kd.R_alloc | apply Kd.R_drewN | apply Kd.R_drew)); exact HO225.out) hg hat)
          have n3_ := Aside0.mk (hb)
          have n4_ := Aside0.mk (ho)
          clear BK216
          clear BK221
          clear HO225
          clear HB
          clear HO_5
          have BK216 := n0_
          have BK221 := n1_
          have HO225 := n2_
          have HB := n3_
          have HO228 := n4_
          clear n0_ n1_ n2_ n3_ n4_
          clear ho hb hg hat
          refine hK.out _ _ ⟨(blk_cell BK216.out 0).trans rfl, (blk_cell BK216.out 1).trans rfl, (blk_cell BK221.out 0).trans rfl, (blk_cell BK221.out 1).trans rfl, ((HB.out.cell (World.block_lt_of_cell? w _ hw222_0)).trans hw222_0), ((HB.out.cell (World.block_lt_of_cell? w _ hw222_1)).trans hw222_1)⟩ (fun hHeld => ?_)
          clear hK K
          refine norm_ (a' := ?_) ?_ ?_
          rotate_left
          ·show Act.put _ (some 39) _ = _
           simp only [Act.put, List.setIfInBounds_toArray, List.set_cons_zero, List.set_cons_succ, i64_w, i32_w]
           rfl
          refine pure_ (i := 10) (N := some 5) (v := ?_) (a' := ?_) #[true, true, true, true, true, true, true, true, true, true, true] rfl rfl (any_of HT_.out (by kernel_rfl)) (fun _ _ _ h => h) (Or.inl ⟨by rfl, ?_⟩) ?_ ?_
          rotate_left
          ·intro w'
           go_simp
           with_reducible rfl
          rotate_left
          ·simp only [Act.put, List.setIfInBounds_toArray, List.set_cons_zero, List.set_cons_succ, i64_w, i32_w]
           rfl
          refine done_ (done_of HT_.out (by kernel_rfl)) ?_
          try go_wp2
          go_roundg k1
          case measure => have := HK1.out; omega
          case rel => exact ⟨(y226), (wrap64 (x7_1 + 1)), (by first | rfl | (simp; done) | (simp [*]; done)), H', ⟨by have := HK1.out; omega⟩, ⟨by (with_reducible repeat (first | apply Kd.R_alloc | apply Kd.R_drewN | apply Kd.R_drew)); exact Kd.R_mono HO228.out (fun _ hk => trivial)⟩, ⟨by (with_reducible repeat (first | refine blk_drewN ?_ _ | refine blk_drew ?_ | refine blk_alloc ?_ _)); exact BK216.out⟩, ⟨by (with_reducible repeat (first | refine blk_drewN ?_ _ | refine blk_drew ?_ | refine blk_alloc ?_ _)); exact BK221.out⟩, ⟨by repeat (first | (with_reducible first | exact HB.out | apply below_alloc | apply pw_below_drewN | apply below_drew1 | refine below_set ?_ GE216.out | refine below_set ?_ GE221.out) | exact HB.out)⟩⟩
         ·rw [if_neg c20] at H
          exact absurd H (by simp)
        ·rw [if_neg c18] at H
         exact absurd H (by simp)
      ·rw [if_neg c14] at H
       have c14b0 : decide (x7_1 < (((rd_T55 l0_0 a1).f2.f1).length : Int)) = false := decide_eq_false c14
       clear c14
       obtain rfl := Option.some.inj H
       have hnb27 := NB221_216.out
       have hnc27 := NB216_221.out
       have hcz28_0 : wr.cell? ⟨gb221, 0, none⟩ = some (.bool ((rd_T55 l0_0 a1).f2.f0)) := (blk_cell BK221.out 0).trans rfl
       have hcz28_1 : wr.cell? ⟨gb221, 1, none⟩ = some (.slice A220_3 ((rd_T55 l0_0 a1).f2.f1).length c220_3) := (blk_cell BK221.out 1).trans rfl
       have hfz28_0 := blk_frozen BK221.out 0
       have hfz28_1 := blk_frozen BK221.out 1
       go_wp2
       go_ret
       exact ⟨_, by first | rfl | (simp [errW_none, errW_some] <;> rfl) | (simp [*, errW_none, errW_some] <;> rfl), by (with_reducible repeat (first | apply Kd.R_alloc | apply Kd.R_drewN | apply Kd.R_drew)); exact HO_5.out, by repeat (first | (with_reducible first | exact HB.out | apply below_alloc | apply pw_below_drewN | apply below_drew1 | refine below_set ?_ GE216.out | refine below_set ?_ GE221.out) | exact HB.out)⟩
   ·rw [if_neg c6] at H
    exact absurd H (by simp)
  ·rw [if_neg c5] at H
   exact absurd H (by simp)
end Go.Proofs.Yteiladccdenpbaa.P
end
section
namespace Go.Proofs.Yteiladccdenpbaa.P
open Go.RowKit Go.Proofs.YteiladccdenpbaaW.PrintWords Go.Proofs.YteiladccdenpbaaW.PrintLast Go.Proofs.YteiladccdenpbaaW.PrintMore
set_option linter.unusedVariables false
set_option linter.unusedSimpArgs false
set_option maxHeartbeats 4000000 in
set_option maxRecDepth 100000 in
theorem at_closure (g2 g3 : Nat) (ad : Addr) (c : Nat) (n : Nat) (key y : Int) (i : Nat) (W : World) (hi : i < n)
    (h1 : W.cell? ⟨g2, 1, none⟩ = some (.slice (some ad) n c)) (h2 : W.cell? ⟨g3, 0, none⟩ = some (.int .i64 key)) (h3 : W.cell? (ad.add (i * 2)) = some (.int .i64 y)) :
    Calls Try.prog 84 #[.int .i64 i, .pointer (some ⟨g2, 0, none⟩), .pointer (some ⟨g3, 0, none⟩)] W fun e w' => e = .returned (.bool (decide (key ≤ y))) ∧ ∃ q, w' = W.drewN q := by
  have hu53 := Try.underlying53
  have hu49 := Try.underlying49
  have hiz : (i : Int) < (n : Int) := by omega
  have mixed : Try.prog.follows .mixedOrders = true := by kernel_rfl
  go_enter Try.func84, Try.ntmps84
  go_wp2
  go_region_o
  all_goals go_wp2
  all_goals go_ret
  all_goals exact ⟨by first | rfl | simp, 1, rfl⟩
theorem cut_at {n : Nat} {p : Nat → Bool} (i : Nat) (hi : i ≤ n) (h0 : ∀ t, t < i → p t = false) (h1 : ∀ t, i ≤ t → t < n → p t = true) : (List.range n).countP (fun t => !p t) = i := by
  have e : List.range n = List.range i ++ (List.range (n - i)).map (i + ·) := by
    apply List.ext_getElem
    · simp
      omega
    · intro j h1 h2
      rw [List.getElem_append]
      split
      · simp
      · rename_i h3
        rw [List.length_range] at h3
        simp
        omega
  rw [e, List.countP_append]
  have a : (List.range i).countP (fun t => !p t) = i := by
    have : (List.range i).countP (fun t => !p t) = (List.range i).length := List.countP_eq_length.2 fun t ht => by simp [h0 t (List.mem_range.1 ht)]
    rw [this, List.length_range]
  have b : ((List.range (n - i)).map (i + ·)).countP (fun t => !p t) = 0 := List.countP_eq_zero.2 fun t ht => by
    obtain ⟨u, hu, rfl⟩ := List.mem_map.1 ht
    have := List.mem_range.1 hu
    simp [h1 (i + u) (by omega) (by omega)]
  omega
set_option maxHeartbeats 4000000 in
set_option maxRecDepth 100000 in
theorem search_walk (cb : Array Value) (n : Nat) (p : Nat → Bool) (w : World) (hsz : n < 1000000)
    (hf : ∀ (m i : Nat), i < n → Calls Try.prog 84 (#[.int .i64 i] ++ cb) (w.drewN m) fun e w' => e = .returned (.bool (p i)) ∧ ∃ q, w' = (w.drewN m).drewN q)
    (hmono : ∀ a b, a ≤ b → b < n → p a = true → p b = true) :
    Calls Try.prog 83 #[.int .i64 n, .func (.func 84) #[] cb] w fun e w' => e = .returned (.int .i64 ((List.range n).countP (fun i => !p i) : Nat)) ∧ ∃ q, w' = w.drewN q := by
  have HF := Aside0.mk hf
  have M := Aside0.mk hmono
  have mixed : Try.prog.follows .mixedOrders = true := by kernel_rfl
  clear hf hmono
  generalize hcnt : (List.range n).countP (fun i => !p i) = cnt
  have CN := Aside0.mk hcnt
  clear hcnt
  go_enter Try.func83, Try.ntmps83
  go_wp2
  go_loopg [5, 6] n (fun kx s5 s6 wr => ∃ (lo hi q : Nat), s5 = .int .i64 lo ∧ s6 = .int .i64 hi ∧ lo ≤ hi ∧ hi ≤ n ∧ hi - lo ≤ kx ∧ wr = w.drewN q ∧
    Aside0 ((∀ t, t < lo → p t = false) ∧ (∀ t, hi ≤ t → t < n → p t = true)))
  case atStart => exact ⟨0, n, 0, rfl, rfl, Nat.zero_le _, Nat.le_refl _, by omega, rfl, ⟨fun t ht => absurd ht (Nat.not_lt_zero _), fun t h1 h2 => by omega⟩⟩
  case round =>
    obtain ⟨lo, hi, q, rfl, rfl, hlh, hin, hg, rfl, I⟩ := hrel
    by_cases hlt : lo < hi
    · have hc := HF.out q ((lo + hi) / 2) (by omega)
      rw [show (((lo + hi) / 2 : Nat) : Int) = ((lo : Int) + (hi : Int)) / 2 by omega] at hc
      cases hp : p ((lo + hi) / 2) <;> rw [hp] at hc
      · have HP := Aside0.mk hp
        clear hp
        go_wp2_with fail
        refine hc.mono ?_
        rintro e w' ⟨rfl, nq, rfl⟩
        go_wp2
        go_roundg (hi - ((lo + hi) / 2 + 1))
        case measure => omega
        case rel =>
          have I2 : Aside0 ((∀ t, t < (lo + hi) / 2 + 1 → p t = false) ∧ (∀ t, hi ≤ t → t < n → p t = true)) := ⟨fun t ht => (by
            cases h : p t with
            | false => rfl
            | true => have := M.out t ((lo + hi) / 2) (by omega) (by omega) h; rw [HP.out] at this; cases this), I.out.2⟩
          exact ⟨(lo + hi) / 2 + 1, hi, q + nq, by rw [show ((lo : Int) + (hi : Int)) / 2 + 1 = (((lo + hi) / 2 + 1 : Nat) : Int) by omega], rfl, by omega, hin, Nat.le_refl _, rfl, I2⟩
      · have HP := Aside0.mk hp
        clear hp
        go_wp2_with fail
        refine hc.mono ?_
        rintro e w' ⟨rfl, nq, rfl⟩
        go_wp2
        go_roundg ((lo + hi) / 2 - lo)
        case measure => omega
        case rel =>
          have I2 : Aside0 ((∀ t, t < lo → p t = false) ∧ (∀ t, (lo + hi) / 2 ≤ t → t < n → p t = true)) := ⟨I.out.1, fun t ht htn => M.out ((lo + hi) / 2) t ht htn HP.out⟩
          exact ⟨lo, (lo + hi) / 2, q + nq, rfl, by rw [show ((lo : Int) + (hi : Int)) / 2 = (((lo + hi) / 2 : Nat) : Int) by omega], by omega, by omega, Nat.le_refl _, rfl, I2⟩
    · obtain rfl : hi = lo := by omega
      have ecnt : cnt = hi := by rw [← CN.out]; exact cut_at hi hin I.out.1 I.out.2
      subst ecnt
      go_wp2
      go_ret
      exact ⟨rfl, q, rfl⟩
def rising (l : List S49) : Bool := (List.range l.length).all fun b => (List.range b).all fun a => decide ((rd_T49 l (a : Nat)).f0 < (rd_T49 l (b : Nat)).f0)
theorem rising_lt {l : List S49} (h : rising l = true) (a b : Nat) (hab : a < b) (hb : b < l.length) : (rd_T49 l (a : Nat)).f0 < (rd_T49 l (b : Nat)).f0 :=
  of_decide_eq_true (List.all_eq_true.1 (List.all_eq_true.1 h b (List.mem_range.2 hb)) a (List.mem_range.2 hab))
def atN (l : List S49) (key : Int) : Nat := (List.range l.length).countP fun i => !decide (key ≤ (rd_T49 l (i : Nat)).f0)
def atIs (l : List S49) (key : Int) : Bool := decide (atN l key < l.length) && ((rd_T49 l (atN l key : Nat)).f0 == key)
def node_At.f (a0_0 : Bool) (l0_1 : List S49) (a1 : Int) : Option (Int × Bool) :=
  if rising l0_1 = true ∧ l0_1.length < 1000000 then
    some (if a0_0 = false ∧ atIs l0_1 a1 = false then (if ((atN l0_1 a1 : Nat) : Int) - 1 < 0 then 0 else ((atN l0_1 a1 : Nat) : Int) - 1) else ((atN l0_1 a1 : Nat) : Int), atIs l0_1 a1)
  else none
theorem atN_le (l : List S49) (key : Int) : atN l key ≤ l.length := by
  have := List.countP_le_length (p := fun i : Nat => !decide (key ≤ (rd_T49 l (i : Nat)).f0)) (l := List.range l.length)
  rwa [List.length_range] at this
set_option maxHeartbeats 4000000 in
set_option maxRecDepth 100000 in
theorem node_At.calls (a0_0 : Bool) (A0_1 : Option Addr) (c0_1 : Nat) (l0_1 : List S49) (a1 : Int) (r1 : Int) (r2 : Bool) (w : World) (hr0_1 : Kd.C k49 w A0_1 l0_1.length l0_1) (hc0_1 : l0_1.length ≤ c0_1) (h : node_At.f a0_0 l0_1 a1 = some (r1, r2)) :
    Calls Try.prog 59 #[.agg #[.bool a0_0, .slice A0_1 l0_1.length c0_1], .int .i64 a1] w fun e w' => e = .returned (.tuple #[.int .i64 r1, .bool r2]) ∧ Below w.heap.size w w' := by
  have hu53 := Try.underlying53
  have hu49 := Try.underlying49
  have mixed : Try.prog.follows .mixedOrders = true := by kernel_rfl
  unfold node_At.f at h
  have hcond : rising l0_1 = true ∧ l0_1.length < 1000000 := by
    by_cases hc : rising l0_1 = true ∧ l0_1.length < 1000000
    · exact hc
    · rw [if_neg hc] at h
      cases h
  rw [if_pos hcond] at h
  obtain ⟨hris, hlen⟩ := hcond
  simp only [Option.some.injEq, Prod.mk.injEq] at h
  obtain ⟨h1, h2⟩ := h
  have H1 := Aside0.mk h1
  have H2 := Aside0.mk h2
  have HRIS := Aside0.mk hris
  have HLEN := Aside0.mk hlen
  have HR := Aside0.mk hr0_1
  clear h1 h2 hris hr0_1 hc0_1
  go_enter Try.func59, Try.ntmps59
  go_wp2_with (first | ((with_reducible refine gate_dst (N := 2) rfl ?_); refine box_event ?hg (N := 2) ?hd (cs := #[.bool a0_0, .slice A0_1 l0_1.length c0_1]) (t := 53) ?hr ?_; (case hd => rfl); (case hg => rfl); (case hr => first | (go_simp; done) | (go_simp; rfl)); intro g2 hg w2 hbox hb; have HB2 := Aside0.mk hb; have HK2 := Aside0.mk hbox; clear hb hbox hg) | ((with_reducible refine gate_dst (N := 3) rfl ?_); refine box_event ?hg (N := 3) ?hd (cs := #[.int .i64 a1]) (t := 3) ?hr ?_; (case hd => rfl); (case hg => rfl); (case hr => first | (go_simp; done) | (go_simp; rfl)); intro g3 hg w3 hbox hb; have HB3 := Aside0.mk (HB2.out.trans (hb.mono HB2.out.size)); have HK3 := Aside0.mk hbox; have HK23 := Aside0.mk (blk_below HK2.out hb); have k0 : w3.cell? ⟨g2, 0, none⟩ = some (.bool a0_0) := (blk_cell HK23.out 0).trans rfl; have k1 : w3.cell? ⟨g2, 1, none⟩ = some (.slice A0_1 l0_1.length c0_1) := (blk_cell HK23.out 1).trans rfl; have k3 : w3.cell? ⟨g3, 0, none⟩ = some (.int .i64 a1) := (blk_cell hbox 0).trans rfl; clear hb hbox hg HB2) | fail)
  have hS : Calls Try.prog 83 #[.int .i64 l0_1.length, .func (.func 84) #[] #[.pointer (some ⟨g2, 0, none⟩), .pointer (some ⟨g3, 0, none⟩)]] w3 fun e w' => e = .returned (.int .i64 (atN l0_1 a1 : Nat)) ∧ ∃ q, w' = w3.drewN q := by
    refine search_walk #[.pointer (some ⟨g2, 0, none⟩), .pointer (some ⟨g3, 0, none⟩)] l0_1.length (fun i => decide (a1 ≤ (rd_T49 l0_1 (i : Nat)).f0)) w3 hlen ?hf ?hm
    case hf =>
      intro m i hi
      obtain ⟨ad, hA, hc, _⟩ := at_T49 (Kd.C_below HR.out HB3.out) (i : Int) (by omega) (by omega)
      subst hA
      rw [Int.toNat_natCast] at hc
      exact at_closure g2 g3 ad c0_1 l0_1.length a1 _ i (w3.drewN m) hi k1 k3 hc
    case hm =>
      intro a b hab hb hp
      have hp := of_decide_eq_true hp
      by_cases he : a = b
      · subst he
        exact decide_eq_true hp
      · have := rising_lt HRIS.out a b (by omega) hb
        exact decide_eq_true (by omega)
  refine hS.mono ?_
  rintro e wd ⟨rfl, q, rfl⟩
  have HB4 := Aside0.mk (pw_below_drewN HB3.out q)
  have j0 : (w3.drewN q).cell? ⟨g2, 0, none⟩ = some (.bool a0_0) := k0
  have j1 : (w3.drewN q).cell? ⟨g2, 1, none⟩ = some (.slice A0_1 l0_1.length c0_1) := k1
  have j3 : (w3.drewN q).cell? ⟨g3, 0, none⟩ = some (.int .i64 a1) := k3
  have HR4 := Aside0.mk (Kd.C_below HR.out HB4.out)
  generalize w3.drewN q = w4 at HB4 j0 j1 j3 HR4 ⊢
  clear hS k0 k1 k3 HK2 HK3 HK23 HB3 HR
  have hle := atN_le l0_1 a1
  have HIS := Aside0.mk (show atIs l0_1 a1 = (decide (atN l0_1 a1 < l0_1.length) && ((rd_T49 l0_1 (atN l0_1 a1 : Nat)).f0 == a1)) from rfl)
  generalize atIs l0_1 a1 = is' at H1 H2 HIS
  generalize atN l0_1 a1 = c at H1 HIS hle ⊢
  by_cases hcl : c < l0_1.length
  · have d1 : decide ((c : Int) < (l0_1.length : Int)) = true := decide_eq_true (by omega)
    have p1 : (0 : Int) ≤ c := by omega
    have q1 : (c : Int) < l0_1.length := by omega
    obtain ⟨ad, hA, hc, _⟩ := at_T49 HR4.out (c : Int) p1 q1
    subst hA
    rw [Int.toNat_natCast] at hc
    obtain ⟨x, hx⟩ : ∃ x, (rd_T49 l0_1 (c : Nat)).f0 = x := ⟨_, rfl⟩
    rw [hx] at hc HIS
    rw [decide_eq_true hcl, Bool.true_and] at HIS
    obtain ⟨b, hb⟩ : ∃ b, (x == a1) = b := ⟨_, rfl⟩
    rw [hb] at HIS
    have hib := HIS.out
    subst hib
    have h2 := H2.out
    subst h2
    clear HIS H2 HRIS HLEN HR4 hx
    cases is' <;> cases a0_0
    all_goals (go_wp2; go_region_o)
    all_goals go_wp2
    all_goals go_ret2
    all_goals refine ⟨?_, below_drew1 HB4.out⟩
    all_goals have h1 := H1.out
    all_goals subst h1
    all_goals first | rfl | (simp; done) | (simp; omega)
  · have d1 : decide ((c : Int) < (l0_1.length : Int)) = false := decide_eq_false (by omega)
    have hib := HIS.out
    rw [decide_eq_false hcl, Bool.false_and] at hib
    subst hib
    have h2 := H2.out
    subst h2
    clear HIS H2 HRIS HLEN HR4
    cases a0_0
    all_goals (go_wp2; go_region_o)
    all_goals go_wp2
    all_goals go_ret2
    all_goals refine ⟨?_, below_drew1 HB4.out⟩
    all_goals have h1 := H1.out
    all_goals subst h1
    all_goals first | rfl | (simp; done) | (simp; omega)
end Go.Proofs.Yteiladccdenpbaa.P
end
section
namespace Go.Proofs.Yteiladccdenpbaa.P
open Go.RowKit Go.Proofs.YteiladccdenpbaaW.PrintWords Go.Proofs.YteiladccdenpbaaW.PrintLast Go.Proofs.YteiladccdenpbaaW.PrintMore
attribute [local go_sem] max2_int min2_int max_two min_two max_three min_three max_four min_four
set_option linter.unusedVariables false
set_option linter.unusedSimpArgs false
def tree_Get.l0 : Nat → Int → Int → List (S55) → Int → Option (Int × Int)
 | 0, _, _, _, _ => none
 | k + 1, x2, x8, x147000, x147001 => if x8 ≥ 0 then (if 0 ≤ x8 then (if x8 < (x147000.length : Int) then ((node_At.f ((rd_T55 x147000 x8).f2.f0) ((rd_T55 x147000 x8).f2.f1) x2).bind fun bt149 => (if ((rd_T55 x147000 x8).f2.f0 = true) then (if bt149.2 = true then (if 0 ≤ bt149.1 then (if bt149.1 < (((rd_T55 x147000 x8).f2.f1).length : Int) then (some ((rd_T49 ((rd_T55 x147000 x8).f2.f1) bt149.1).f1, 0)) else (none)) else (none)) else (some (0, 4))) else (if 0 ≤ bt149.1 then (if bt149.1 < (((rd_T55 x147000 x8).f2.f1).length : Int) then (tree_Get.l0 k x2 ((rd_T49 ((rd_T55 x147000 x8).f2.f1) bt149.1).f1) x147000 x147001) else (none)) else (none)))) else (none)) else (none)) else (some (0, 4))
def tree_Get.f (k : Nat) (l0_0 : List (S55)) (a0_1 : Int) (a1 : Int) (a2 : Int) : Option (Int × Int) := tree_Get.l0 k a2 a1 l0_0 a0_1
set_option maxHeartbeats 8000000 in
set_option maxRecDepth 100000 in
theorem tree_Get.calls (k : Nat) (A0_0 : Option Addr) (c0_0 : Nat) (l0_0 : List (S55)) (a0_1 : Int) (a1 : Int) (a2 : Int) (r1 : Int) (r2 : Int) (w : World) (hr0_0 : Kd.C k55 w A0_0 l0_0.length l0_0) (hc0_0 : l0_0.length ≤ c0_0) (h : tree_Get.f k l0_0 a0_1 a1 a2 = some (r1, r2)) :
  Calls Try.prog 27 #[.agg #[.slice A0_0 l0_0.length c0_0, .int .i64 a0_1], .int .i64 a1, .int .i64 a2] w fun e w' => e = .returned (.tuple #[.int .i64 r1, .int .i64 r2]) ∧ Below w.heap.size w w' := by
 have hu24 := Try.underlying24
 have hu53 := Try.underlying53
 have HR0_0 := Aside0.mk hr0_0
 have HC0_0 := Aside0.mk hc0_0
 clear hr0_0 hc0_0
 have HB := Aside0.mk (Below.refl w.heap.size w)
 have H : (tree_Get.l0 k a2 a1 l0_0 a0_1) = some (r1, r2) := h
 clear h
 have H' := Aside0.mk H
 clear H
 go_enter Try.func27, Try.ntmps27
 go_wp2_with (first | ((with_reducible refine gate_dst (N := 3) rfl ?_); refine box_event ?hg (N := 3) ?hd (cs := #[.slice A0_0 l0_0.length c0_0, .int .i64 a0_1]) (t := 24) ?hr ?_; (case hd => rfl); (case hg => rfl); (case hr => first | (go_simp; done) | (go_simp; rfl)); intro gb146 hg w4 hbox hb; have n0_ := Aside0.mk (below_step (by repeat (first | (with_reducible first | exact HB.out | apply below_alloc | apply pw_below_drewN | apply below_drew1) | exact HB.out)) hb); have n1_ := Aside0.mk (hbox); have n2_ := Aside0.mk ((by rw [hg]; exact (below_size (by repeat (first | (with_reducible first | exact HB.out | apply below_alloc | apply pw_below_drewN | apply below_drew1) | exact HB.out))) : w.heap.size ≤ gb146)); have n3_ := Aside0.mk ((by rw [hg]; exact (below_size (by repeat (first | (with_reducible first | exact HB.out | apply below_alloc | apply pw_below_drewN | apply below_drew1) | exact HB.out))) : w.heap.size ≤ gb146)); clear HB; have HB := n0_; have BK146 := n1_; have GW146 := n2_; have GE146 := n3_; clear n0_ n1_ n2_ n3_; clear hb hbox hg))
 go_loopg [8] k (fun kq v8 w' => ∃ (x8_1 : Int), v8 = .int .i64 x8_1 ∧ Aside0 (tree_Get.l0 kq a2 x8_1 l0_0 a0_1 = some (r1, r2)) ∧ Aside0 (kq ≤ k) ∧ Aside0 (w'.heap[gb146]? = some (.cells #[(.slice A0_0 l0_0.length c0_0), .int .i64 a0_1] 24 (0, 0))) ∧ Aside0 (Below w.heap.size w w'))
 case atStart => exact ⟨(a1), (by first | rfl | (simp; done) | (simp [*]; done)), H', ⟨Nat.le_refl _⟩, ⟨by (with_reducible repeat (first | refine blk_drewN ?_ _ | refine blk_drew ?_ | refine blk_alloc ?_ _)); exact BK146.out⟩, ⟨by repeat (first | (with_reducible first | exact HB.out | apply below_alloc | apply pw_below_drewN | apply below_drew1 | refine below_set ?_ GE146.out) | exact HB.out)⟩⟩
 case round =>
  clear H'
  try clear c2
  try clear p2
  obtain ⟨x8_1, rfl, HA, HK1, BK146, HB⟩ := hrel
  cases gk with
  | zero => exact absurd HA.out (by simp [tree_Get.l0])
  | succ k1 =>
   have H := HA.out
   clear HA
   simp only [tree_Get.l0] at H
   by_cases c5 : x8_1 ≥ 0
   ·rw [if_pos c5] at H
    have c5b0 : decide (0 ≤ x8_1) = true := decide_eq_true c5
    clear c5
    by_cases c6 : 0 ≤ x8_1
    ·rw [if_pos c6] at H
     have c6b0 : decide (0 ≤ x8_1) = true := decide_eq_true c6
     clear c6
     by_cases c7 : x8_1 < (l0_0.length : Int)
     ·rw [if_pos c7] at H
      have c7b0 : decide (x8_1 < (l0_0.length : Int)) = true := decide_eq_true c7
      clear c7
      replace H := Option.bind_eq_some_iff.mp H
      obtain ⟨⟨t149, t150⟩, A80, H⟩ := H
      replace H : (if ((rd_T55 l0_0 x8_1).f2.f0 = true) then (if t150 = true then (if 0 ≤ t149 then (if t149 < (((rd_T55 l0_0 x8_1).f2.f1).length : Int) then (some ((rd_T49 ((rd_T55 l0_0 x8_1).f2.f1) t149).f1, 0)) else (none)) else (none)) else (some (0, 4))) else (if 0 ≤ t149 then (if t149 < (((rd_T55 l0_0 x8_1).f2.f1).length : Int) then (tree_Get.l0 k1 a2 ((rd_T49 ((rd_T55 l0_0 x8_1).f2.f1) t149).f1) l0_0 a0_1) else (none)) else (none))) = some (r1, r2) := H
      have A8 := Aside0.mk A80
      clear A80
      obtain ⟨bq9, hbq9⟩ : ∃ b_ : Bool, b_ = ((rd_T55 l0_0 x8_1).f2.f0) := ⟨_, rfl⟩
      replace H : (if (bq9 = true) then (if t150 = true then (if 0 ≤ t149 then (if t149 < (((rd_T55 l0_0 x8_1).f2.f1).length : Int) then (some ((rd_T49 ((rd_T55 l0_0 x8_1).f2.f1) t149).f1, 0)) else (none)) else (none)) else (some (0, 4))) else (if 0 ≤ t149 then (if t149 < (((rd_T55 l0_0 x8_1).f2.f1).length : Int) then (tree_Get.l0 k1 a2 ((rd_T49 ((rd_T55 l0_0 x8_1).f2.f1) t149).f1) l0_0 a0_1) else (none)) else (none))) = some (r1, r2) := by rw [← hbq9] at H; exact H
      have Nbq9 := Aside0.mk hbq9
      clear hbq9
      by_cases c10 : (bq9 = true)
      ·subst c10
       have H1 : (if t150 = true then (if 0 ≤ t149 then (if t149 < (((rd_T55 l0_0 x8_1).f2.f1).length : Int) then (some ((rd_T49 ((rd_T55 l0_0 x8_1).f2.f1) t149).f1, 0)) else (none)) else (none)) else (some (0, 4))) = some (r1, r2) := by rw [if_pos rfl] at H; exact H
       clear H
       have H := H1
       clear H1
       by_cases c11 : t150 = true
       ·subst c11
        have H1 : (if 0 ≤ t149 then (if t149 < (((rd_T55 l0_0 x8_1).f2.f1).length : Int) then (some ((rd_T49 ((rd_T55 l0_0 x8_1).f2.f1) t149).f1, 0)) else (none)) else (none)) = some (r1, r2) := by rw [if_pos rfl] at H; exact H
        clear H
        have H := H1
        clear H1
        by_cases c12 : 0 ≤ t149
        ·rw [if_pos c12] at H
         have c12b0 : decide (0 ≤ t149) = true := decide_eq_true c12
         clear c12
         by_cases c13 : t149 < (((rd_T55 l0_0 x8_1).f2.f1).length : Int)
         ·rw [if_pos c13] at H
          have c13b0 : decide (t149 < (((rd_T55 l0_0 x8_1).f2.f1).length : Int)) = true := decide_eq_true c13
          clear c13
          simp only [Option.some.injEq, Prod.mk.injEq] at H
          obtain ⟨rfl, rfl⟩ := H
          have hcz14_0 : wr.cell? ⟨gb146, 0, none⟩ = some (.slice A0_0 l0_0.length c0_0) := (blk_cell BK146.out 0).trans rfl
          have hcz14_1 : wr.cell? ⟨gb146, 1, none⟩ = some (.int .i64 a0_1) := (blk_cell BK146.out 1).trans rfl
          have hfz14_0 := blk_frozen BK146.out 0
          have hfz14_1 := blk_frozen BK146.out 1
          have p147 : 0 ≤ (x8_1 : Int) := of_decide_eq_true (by first | (with_reducible assumption) | assumption)
          have q147 : x8_1 < (l0_0.length : Int) := of_decide_eq_true (by first | (with_reducible assumption) | assumption)
          obtain ⟨ad147, A147_3, c147_3, e147, hx147_0, hx147_1, hx147_2, hx147_3, hl147_3, hi147_3⟩ := at_T55 HR0_0.out x8_1 p147 q147
          (try rw [← Nbq9.out] at hx147_1)
          (try rw [← Nbq9.out] at hx147_2)
          cases e147
          replace hx147_0 := (HB.out.cell (World.block_lt_of_cell? w _ hx147_0)).trans hx147_0
          replace hx147_1 := (HB.out.cell (World.block_lt_of_cell? w _ hx147_1)).trans hx147_1
          replace hx147_2 := (HB.out.cell (World.block_lt_of_cell? w _ hx147_2)).trans hx147_2
          replace hx147_3 := (HB.out.cell (World.block_lt_of_cell? w _ hx147_3)).trans hx147_3
          have HR147_3 := Aside0.mk hi147_3
          have HC147_3 := Aside0.mk hl147_3
          clear hi147_3 hl147_3
          replace p147 := eq_true p147
          replace q147 := eq_true q147
          go_wp2_with (first | ((with_reducible refine gate_dst (N := 9) rfl ?_); refine box_event ?hg (N := 9) ?hd (cs := #[.bool false, .slice none 0 0]) (t := 53) ?hr ?_; (case hd => rfl); (case hg => rfl); (case hr => first | (go_simp; done) | (go_simp; rfl)); intro gb148 hg w15 hbox hb; have n0_ := Aside0.mk (blk_below (g := gb146) (o := .cells #[.slice (some ad147) l0_0.length c0_0, .int .i64 a0_1] 24 (0, 0)) (by (with_reducible repeat (first | refine blk_drewN ?_ _ | refine blk_drew ?_ | refine blk_alloc ?_ _)); exact BK146.out) hb); have n1_ := Aside0.mk (below_step (by repeat (first | (with_reducible first | exact HB.out | apply below_alloc | apply pw_below_drewN | apply below_drew1 | refine below_set ?_ GE146.out) | exact HB.out)) hb); have n2_ := Aside0.mk (hbox); have n3_ := Aside0.mk ((by rw [hg]; exact (below_size (by repeat (first | (with_reducible first | exact HB.out | apply below_alloc | apply pw_below_drewN | apply below_drew1 | refine below_set ?_ GE146.out) | exact HB.out))) : w.heap.size ≤ gb148)); have n4_ := Aside0.mk ((by rw [hg]; exact (below_size (by repeat (first | (with_reducible first | exact HB.out | apply below_alloc | apply pw_below_drewN | apply below_drew1 | refine below_set ?_ GE146.out) | exact HB.out))) : w.heap.size ≤ gb148)); have n5_ := Aside0.mk ((by rw [hg]; exact Nat.ne_of_lt (blk_lt (g := gb146) (o := .cells #[.slice (some ad147) l0_0.length c0_0, .int .i64 a0_1] 24 (0, 0)) (by (with_reducible repeat (first | refine blk_drewN ?_ _ | refine blk_drew ?_ | refine blk_alloc ?_ _)); exact BK146.out)) : gb146 ≠ gb148)); have n6_ := Aside0.mk ((by rw [hg]; exact Nat.ne_of_gt (blk_lt (g := gb146) (o := .cells #[.slice (some ad147) l0_0.length c0_0, .int .i64 a0_1] 24 (0, 0)) (by (with_reducible repeat (first | refine blk_drewN ?_ _ | refine blk_drew ?_ | refine blk_alloc ?_ _)); exact BK146.out)) : gb148 ≠ gb146)); clear BK146; clear HB; have BK146 := n0_; have HB := n1_; have BK148 := n2_; have GW148 := n3_; have GE148 := n4_; have NB146_148 := n5_; have NB148_146 := n6_; clear n0_ n1_ n2_ n3_ n4_ n5_ n6_; clear hb hbox hg; have hnb16 := NB148_146.out; have hnc16 := NB146_148.out; have hcz17_0 : w15.cell? ⟨gb148, 0, none⟩ = some (.bool false) := (blk_cell BK148.out 0).trans rfl; have hcz17_1 : w15.cell? ⟨gb148, 1, none⟩ = some (.slice none 0 0) := (blk_cell BK148.out 1).trans rfl; have hfz17_0 := blk_frozen BK148.out 0; have hfz17_1 := blk_frozen BK148.out 1) | ((with_reducible refine gate_callee (f := 59) rfl ?_); refine goesL_ (some 24) rfl rfl Try.func59 (by kernel_rfl) rfl #[.agg #[.bool true, .slice A147_3 ((rd_T55 l0_0 x8_1).f2.f1).length c147_3], .int .i64 a2] rfl (by (try simp only [List.map_toArray, List.map_cons, List.map_nil]); first | done | rfl | (simp only [List.length_drop, List.length_take]; rfl)) ?_; (with_reducible refine (node_At.calls true _ _ ((rd_T55 l0_0 x8_1).f2.f1) a2 t149 true _ ?side1 ?side2 (by first | exact A8.out | (have h_ := A8.out; rw [← Nbq9.out] at h_; exact h_))).mono ?_); (case side1 => exact Kd.C_below HR147_3.out (by repeat (first | (with_reducible first | exact HB.out | apply below_alloc | apply pw_below_drewN | apply below_drew1 | refine below_set ?_ GE146.out | refine below_set ?_ GE148.out) | exact HB.out))); (case side2 => exact HC147_3.out); rintro e w18 ⟨rfl, hb⟩; refine ⟨_, rfl, ?_⟩; have n0_ := Aside0.mk (blk_below (g := gb146) (o := .cells #[.slice (some ad147) l0_0.length c0_0, .int .i64 a0_1] 24 (0, 0)) (by (with_reducible repeat (first | refine blk_drewN ?_ _ | refine blk_drew ?_ | refine blk_alloc ?_ _)); refine blk_far ?_ NB146_148.out _; (with_reducible repeat (first | refine blk_drewN ?_ _ | refine blk_drew ?_ | refine blk_alloc ?_ _)); refine blk_far ?_ NB146_148.out _; (with_reducible repeat (first | refine blk_drewN ?_ _ | refine blk_drew ?_ | refine blk_alloc ?_ _)); exact BK146.out) hb); have n1_ := Aside0.mk (blk_below (g := gb148) (o := .cells #[.bool true, .slice A147_3 ((rd_T55 l0_0 x8_1).f2.f1).length c147_3] 53 (0, 0)) (by (with_reducible repeat (first | refine blk_drewN ?_ _ | refine blk_drew ?_ | refine blk_alloc ?_ _)); refine blk_put (cs := #[.bool true, .slice none 0 0]) ?_ 1 _ rfl; (with_reducible repeat (first | refine blk_drewN ?_ _ | refine blk_drew ?_ | refine blk_alloc ?_ _)); refine blk_put (cs := #[.bool false, .slice none 0 0]) ?_ 0 _ rfl; (with_reducible repeat (first | refine blk_drewN ?_ _ | refine blk_drew ?_ | refine blk_alloc ?_ _)); exact BK148.out) hb); have n2_ := Aside0.mk (below_step (by repeat (first | (with_reducible first | exact HB.out | apply below_alloc | apply pw_below_drewN | apply below_drew1 | refine below_set ?_ GE146.out | refine below_set ?_ GE148.out) | exact HB.out)) hb); clear BK146; clear BK148; clear HB; have BK146 := n0_; have BK148 := n1_; have HB := n2_; clear n0_ n1_ n2_; (try clear hb); (try clear hb2); (try clear hk); (try clear hi); have hcz19_0 : w18.cell? ⟨gb148, 0, none⟩ = some (.bool true) := (blk_cell BK148.out 0).trans rfl; have hcz19_1 : w18.cell? ⟨gb148, 1, none⟩ = some (.slice A147_3 ((rd_T55 l0_0 x8_1).f2.f1).length c147_3) := (blk_cell BK148.out 1).trans rfl; have hfz19_0 := blk_frozen BK148.out 0; have hfz19_1 := blk_frozen BK148.out 1; have p151 : 0 ≤ (t149 : Int) := of_decide_eq_true (by first | (with_reducible assumption) | assumption); have q151 : t149 < (((rd_T55 l0_0 x8_1).f2.f1).length : Int) := of_decide_eq_true (by first | (with_reducible assumption) | assumption); obtain ⟨ad151, e151, hx151_0, hx151_1⟩ := at_T49 HR147_3.out t149 p151 q151; cases e151; replace hx151_0 := (HB.out.cell (World.block_lt_of_cell? w _ hx151_0)).trans hx151_0; replace hx151_1 := (HB.out.cell (World.block_lt_of_cell? w _ hx151_1)).trans hx151_1; replace p151 := eq_true p151; replace q151 := eq_true q151))
          go_ret2
          exact ⟨by first | rfl | (simp [errW_none, errW_some] <;> rfl) | (simp [*, errW_none, errW_some] <;> rfl), by repeat (first | (with_reducible first | exact HB.out | apply below_alloc | apply pw_below_drewN | apply below_drew1 | refine below_set ?_ GE146.out | refine below_set ?_ GE148.out) | exact HB.out)⟩
         ·rw [if_neg c13] at H
          exact absurd H (by simp)
        ·rw [if_neg c12] at H
         exact absurd H (by simp)
       ·replace c11 := Bool.eq_false_iff.mpr c11
        subst c11
        have H1 : (some (0, 4)) = some (r1, r2) := by rw [if_neg (show ¬ (false = true) by decide)] at H; exact H
        clear H
        have H := H1
        clear H1
        simp only [Option.some.injEq, Prod.mk.injEq] at H
        obtain ⟨rfl, rfl⟩ := H
        have hcz20_0 : wr.cell? ⟨gb146, 0, none⟩ = some (.slice A0_0 l0_0.length c0_0) := (blk_cell BK146.out 0).trans rfl
        have hcz20_1 : wr.cell? ⟨gb146, 1, none⟩ = some (.int .i64 a0_1) := (blk_cell BK146.out 1).trans rfl
        have hfz20_0 := blk_frozen BK146.out 0
        have hfz20_1 := blk_frozen BK146.out 1
        have p147 : 0 ≤ (x8_1 : Int) := of_decide_eq_true (by first | (with_reducible assumption) | assumption)
        have q147 : x8_1 < (l0_0.length : Int) := of_decide_eq_true (by first | (with_reducible assumption) | assumption)
        obtain ⟨ad147, A147_3, c147_3, e147, hx147_0, hx147_1, hx147_2, hx147_3, hl147_3, hi147_3⟩ := at_T55 HR0_0.out x8_1 p147 q147
        (try rw [← Nbq9.out] at hx147_1)
        (try rw [← Nbq9.out] at hx147_2)
        cases e147
        replace hx147_0 := (HB.out.cell (World.block_lt_of_cell? w _ hx147_0)).trans hx147_0
        replace hx147_1 := (HB.out.cell (World.block_lt_of_cell? w _ hx147_1)).trans hx147_1
        replace hx147_2 := (HB.out.cell (World.block_lt_of_cell? w _ hx147_2)).trans hx147_2
        replace hx147_3 := (HB.out.cell (World.block_lt_of_cell? w _ hx147_3)).trans hx147_3
        have HR147_3 := Aside0.mk hi147_3
        have HC147_3 := Aside0.mk hl147_3
        clear hi147_3 hl147_3
        replace p147 := eq_true p147
        replace q147 := eq_true q147
        go_wp2_with (first | ((with_reducible refine gate_dst (N := 9) rfl ?_); refine box_event ?hg (N := 9) ?hd (cs := #[.bool false, .slice none 0 0]) (t := 53) ?hr ?_; (case hd => rfl); (case hg => rfl); (case hr => first | (go_simp; done) | (go_simp; rfl)); intro gb148 hg w21 hbox hb; have n0_ := Aside0.mk (blk_below (g := gb146) (o := .cells #[.slice (some ad147) l0_0.length c0_0, .int .i64 a0_1] 24 (0, 0)) (by (with_reducible repeat (first | refine blk_drewN ?_ _ | refine blk_drew ?_ | refine blk_alloc ?_ _)); exact BK146.out) hb); have n1_ := Aside0.mk (below_step (by repeat (first | (with_reducible first | exact HB.out | apply below_alloc | apply pw_below_drewN | apply below_drew1 | refine below_set ?_ GE146.out) | exact HB.out)) hb); have n2_ := Aside0.mk (hbox); have n3_ := Aside0.mk ((by rw [hg]; exact (below_size (by repeat (first | (with_reducible first | exact HB.out | apply below_alloc | apply pw_below_drewN | apply below_drew1 | refine below_set ?_ GE146.out) | exact HB.out))) : w.heap.size ≤ gb148)); have n4_ := Aside0.mk ((by rw [hg]; exact (below_size (by repeat (first | (with_reducible first | exact HB.out | apply below_alloc | apply pw_below_drewN | apply below_drew1 | refine below_set ?_ GE146.out) | exact HB.out))) : w.heap.size ≤ gb148)); have n5_ := Aside0.mk ((by rw [hg]; exact Nat.ne_of_lt (blk_lt (g := gb146) (o := .cells #[.slice (some ad147) l0_0.length c0_0, .int .i64 a0_1] 24 (0, 0)) (by (with_reducible repeat (first | refine blk_drewN ?_ _ | refine blk_drew ?_ | refine blk_alloc ?_ _)); exact BK146.out)) : gb146 ≠ gb148)); have n6_ := Aside0.mk ((by rw [hg]; exact Nat.ne_of_gt (blk_lt (g := gb146) (o := .cells #[.slice (some ad147) l0_0.length c0_0, .int .i64 a0_1] 24 (0, 0)) (by (with_reducible repeat (first | refine blk_drewN ?_ _ | refine blk_drew ?_ | refine blk_alloc ?_ _)); exact BK146.out)) : gb148 ≠ gb146)); clear BK146; clear HB; have BK146 := n0_; have HB := n1_; have BK148 := n2_; have GW148 := n3_; have GE148 := n4_; have NB146_148 := n5_; have NB148_146 := n6_; clear n0_ n1_ n2_ n3_ n4_ n5_ n6_; clear hb hbox hg; have hnb22 := NB148_146.out; have hnc22 := NB146_148.out; have hcz23_0 : w21.cell? ⟨gb148, 0, none⟩ = some (.bool false) := (blk_cell BK148.out 0).trans rfl; have hcz23_1 : w21.cell? ⟨gb148, 1, none⟩ = some (.slice none 0 0) := (blk_cell BK148.out 1).trans rfl; have hfz23_0 := blk_frozen BK148.out 0; have hfz23_1 := blk_frozen BK148.out 1) | ((with_reducible refine gate_callee (f := 59) rfl ?_); refine goesL_ (some 24) rfl rfl Try.func59 (by kernel_rfl) rfl #[.agg #[.bool true, .slice A147_3 ((rd_T55 l0_0 x8_1).f2.f1).length c147_3], .int .i64 a2] rfl (by (try simp only [List.map_toArray, List.map_cons, List.map_nil]); first | done | rfl | (simp only [List.length_drop, List.length_take]; rfl)) ?_; (with_reducible refine (node_At.calls true _ _ ((rd_T55 l0_0 x8_1).f2.f1) a2 t149 false _ ?side1 ?side2 (by first | exact A8.out | (have h_ := A8.out; rw [← Nbq9.out] at h_; exact h_))).mono ?_); (case side1 => exact Kd.C_below HR147_3.out (by repeat (first | (with_reducible first | exact HB.out | apply below_alloc | apply pw_below_drewN | apply below_drew1 | refine below_set ?_ GE146.out | refine below_set ?_ GE148.out) | exact HB.out))); (case side2 => exact HC147_3.out); rintro e w24 ⟨rfl, hb⟩; refine ⟨_, rfl, ?_⟩; have n0_ := Aside0.mk (blk_below (g := gb146) (o := .cells #[.slice (some ad147) l0_0.length c0_0, .int .i64 a0_1] 24 (0, 0)) (by (with_reducible repeat (first | refine blk_drewN ?_ _ | refine blk_drew ?_ | refine blk_alloc ?_ _)); refine blk_far ?_ NB146_148.out _; (with_reducible repeat (first | refine blk_drewN ?_ _ | refine blk_drew ?_ | refine blk_alloc ?_ _)); refine blk_far ?_ NB146_148.out _; (with_reducible repeat (first | refine blk_drewN ?_ _ | refine blk_drew ?_ | refine blk_alloc ?_ _)); exact BK146.out) hb); have n1_ := Aside0.mk (blk_below (g := gb148) (o := .cells #[.bool true, .slice A147_3 ((rd_T55 l0_0 x8_1).f2.f1).length c147_3] 53 (0, 0)) (by (with_reducible repeat (first | refine blk_drewN ?_ _ | refine blk_drew ?_ | refine blk_alloc ?_ _)); refine blk_put (cs := #[.bool true, .slice none 0 0]) ?_ 1 _ rfl; (with_reducible repeat (first | refine blk_drewN ?_ _ | refine blk_drew ?_ | refine blk_alloc ?_ _)); refine blk_put (cs := #[.bool false, .slice none 0 0]) ?_ 0 _ rfl; (with_reducible repeat (first | refine blk_drewN ?_ _ | refine blk_drew ?_ | refine blk_alloc ?_ _)); exact BK148.out) hb); have n2_ := Aside0.mk (below_step (by repeat (first | (with_reducible first | exact HB.out | apply below_alloc | apply pw_below_drewN | apply below_drew1 | refine below_set ?_ GE146.out | refine below_set ?_ GE148.out) | exact HB.out)) hb); clear BK146; clear BK148; clear HB; have BK146 := n0_; have BK148 := n1_; have HB := n2_; clear n0_ n1_ n2_; (try clear hb); (try clear hb2); (try clear hk); (try clear hi); have hcz25_0 : w24.cell? ⟨gb148, 0, none⟩ = some (.bool true) := (blk_cell BK148.out 0).trans rfl; have hcz25_1 : w24.cell? ⟨gb148, 1, none⟩ = some (.slice A147_3 ((rd_T55 l0_0 x8_1).f2.f1).length c147_3) := (blk_cell BK148.out 1).trans rfl; have hfz25_0 := blk_frozen BK148.out 0; have hfz25_1 := blk_frozen BK148.out 1))
        go_ret2
        exact ⟨by first | rfl | (simp [errW_none, errW_some] <;> rfl) | (simp [*, errW_none, errW_some] <;> rfl), by repeat (first | (with_reducible first | exact HB.out | apply below_alloc | apply pw_below_drewN | apply below_drew1 | refine below_set ?_ GE146.out | refine below_set ?_ GE148.out) | exact HB.out)⟩
      ·replace c10 := Bool.eq_false_iff.mpr c10
       subst c10
       have H1 : (if 0 ≤ t149 then (if t149 < (((rd_T55 l0_0 x8_1).f2.f1).length : Int) then (tree_Get.l0 k1 a2 ((rd_T49 ((rd_T55 l0_0 x8_1).f2.f1) t149).f1) l0_0 a0_1) else (none)) else (none)) = some (r1, r2) := by rw [if_neg (show ¬ (false = true) by decide)] at H; exact H
       clear H
       have H := H1
       clear H1
       by_cases c26 : 0 ≤ t149
       ·rw [if_pos c26] at H
        have c26b0 : decide (0 ≤ t149) = true := decide_eq_true c26
        clear c26
        by_cases c27 : t149 < (((rd_T55 l0_0 x8_1).f2.f1).length : Int)
        ·rw [if_pos c27] at H
         have c27b0 : decide (t149 < (((rd_T55 l0_0 x8_1).f2.f1).length : Int)) = true := decide_eq_true c27
         clear c27
         have H' := Aside0.mk H
         clear H
         have hcz28_0 : wr.cell? ⟨gb146, 0, none⟩ = some (.slice A0_0 l0_0.length c0_0) := (blk_cell BK146.out 0).trans rfl
         have hcz28_1 : wr.cell? ⟨gb146, 1, none⟩ = some (.int .i64 a0_1) := (blk_cell BK146.out 1).trans rfl
         have hfz28_0 := blk_frozen BK146.out 0
         have hfz28_1 := blk_frozen BK146.out 1
         have p147 : 0 ≤ (x8_1 : Int) := of_decide_eq_true (by first | (with_reducible assumption) | assumption)
         have q147 : x8_1 < (l0_0.length : Int) := of_decide_eq_true (by first | (with_reducible assumption) | assumption)
         obtain ⟨ad147, A147_3, c147_3, e147, hx147_0, hx147_1, hx147_2, hx147_3, hl147_3, hi147_3⟩ := at_T55 HR0_0.out x8_1 p147 q147
         (try rw [← Nbq9.out] at hx147_1)
         (try rw [← Nbq9.out] at hx147_2)
         cases e147
         replace hx147_0 := (HB.out.cell (World.block_lt_of_cell? w _ hx147_0)).trans hx147_0
         replace hx147_1 := (HB.out.cell (World.block_lt_of_cell? w _ hx147_1)).trans hx147_1
         replace hx147_2 := (HB.out.cell (World.block_lt_of_cell? w _ hx147_2)).trans hx147_2
         replace hx147_3 := (HB.out.cell (World.block_lt_of_cell? w _ hx147_3)).trans hx147_3
         have HR147_3 := Aside0.mk hi147_3
         have HC147_3 := Aside0.mk hl147_3
         clear hi147_3 hl147_3
         replace p147 := eq_true p147
         replace q147 := eq_true q147
         go_wp2_with (first | ((with_reducible refine gate_dst (N := 9) rfl ?_); refine box_event ?hg (N := 9) ?hd (cs := #[.bool false, .slice none 0 0]) (t := 53) ?hr ?_; (case hd => rfl); (case hg => rfl); (case hr => first | (go_simp; done) | (go_simp; rfl)); intro gb148 hg w29 hbox hb; have n0_ := Aside0.mk (blk_below (g := gb146) (o := .cells #[.slice (some ad147) l0_0.length c0_0, .int .i64 a0_1] 24 (0, 0)) (by (with_reducible repeat (first | refine blk_drewN ?_ _ | refine blk_drew ?_ | refine blk_alloc ?_ _)); exact BK146.out) hb); have n1_ := Aside0.mk (below_step (by repeat (first | (with_reducible first | exact HB.out | apply below_alloc | apply pw_below_drewN | apply below_drew1 | refine below_set ?_ GE146.out) | exact HB.out)) hb); have n2_ := Aside0.mk (hbox); have n3_ := Aside0.mk ((by rw [hg]; exact (below_size (by repeat (first | (with_reducible first | exact HB.out | apply below_alloc | apply pw_below_drewN | apply below_drew1 | refine below_set ?_ GE146.out) | exact HB.out))) : w.heap.size ≤ gb148)); have n4_ := Aside0.mk ((by rw [hg]; exact (below_size (by repeat (first | (with_reducible first | exact HB.out | apply below_alloc | apply pw_below_drewN | apply below_drew1 | refine below_set ?_ GE146.out) | exact HB.out))) : w.heap.size ≤ gb148)); have n5_ := Aside0.mk ((by rw [hg]; exact Nat.ne_of_lt (blk_lt (g := gb146) (o := .cells #[.slice (some ad147) l0_0.length c0_0, .int .i64 a0_1] 24 (0, 0)) (by (with_reducible repeat (first | refine blk_drewN ?_ _ | refine blk_drew ?_ | refine blk_alloc ?_ _)); exact BK146.out)) : gb146 ≠ gb148)); have n6_ := Aside0.mk ((by rw [hg]; exact Nat.ne_of_gt (blk_lt (g := gb146) (o := .cells #[.slice (some ad147) l0_0.length c0_0, .int .i64 a0_1] 24 (0, 0)) (by (with_reducible repeat (first | refine blk_drewN ?_ _ | refine blk_drew ?_ | refine blk_alloc ?_ _)); exact BK146.out)) : gb148 ≠ gb146)); clear BK146; clear HB; have BK146 := n0_; have HB := n1_; have BK148 := n2_; have GW148 := n3_; have GE148 := n4_; have NB146_148 := n5_; have NB148_146 := n6_; clear n0_ n1_ n2_ n3_ n4_ n5_ n6_; clear hb hbox hg; have hnb30 := NB148_146.out; have hnc30 := NB146_148.out; have hcz31_0 : w29.cell? ⟨gb148, 0, none⟩ = some (.bool false) := (blk_cell BK148.out 0).trans rfl; have hcz31_1 : w29.cell? ⟨gb148, 1, none⟩ = some (.slice none 0 0) := (blk_cell BK148.out 1).trans rfl; have hfz31_0 := blk_frozen BK148.out 0; have hfz31_1 := blk_frozen BK148.out 1) | ((with_reducible refine gate_callee (f := 59) rfl ?_); refine goesL_ (some 24) rfl rfl Try.func59 (by kernel_rfl) rfl #[.agg #[.bool false, .slice A147_3 ((rd_T55 l0_0 x8_1).f2.f1).length c147_3], .int .i64 a2] rfl (by (try simp only [List.map_toArray, List.map_cons, List.map_nil]); first | done | rfl | (simp only [List.length_drop, List.length_take]; rfl)) ?_; (with_reducible refine (node_At.calls false _ _ ((rd_T55 l0_0 x8_1).f2.f1) a2 t149 t150 _ ?side1 ?side2 (by first | exact A8.out | (have h_ := A8.out; rw [← Nbq9.out] at h_; exact h_))).mono ?_); (case side1 => exact Kd.C_below HR147_3.out (by repeat (first | (with_reducible first | exact HB.out | apply below_alloc | apply pw_below_drewN | apply below_drew1 | refine below_set ?_ GE146.out | refine below_set ?_ GE148.out) | exact HB.out))); (case side2 => exact HC147_3.out); rintro e w32 ⟨rfl, hb⟩; refine ⟨_, rfl, ?_⟩; have n0_ := Aside0.mk (blk_below (g := gb146) (o := .cells #[.slice (some ad147) l0_0.length c0_0, .int .i64 a0_1] 24 (0, 0)) (by (with_reducible repeat (first | refine blk_drewN ?_ _ | refine blk_drew ?_ | refine blk_alloc ?_ _)); refine blk_far ?_ NB146_148.out _; (with_reducible repeat (first | refine blk_drewN ?_ _ | refine blk_drew ?_ | refine blk_alloc ?_ _)); refine blk_far ?_ NB146_148.out _; (with_reducible repeat (first | refine blk_drewN ?_ _ | refine blk_drew ?_ | refine blk_alloc ?_ _)); exact BK146.out) hb); have n1_ := Aside0.mk (blk_below (g := gb148) (o := .cells #[.bool false, .slice A147_3 ((rd_T55 l0_0 x8_1).f2.f1).length c147_3] 53 (0, 0)) (by (with_reducible repeat (first | refine blk_drewN ?_ _ | refine blk_drew ?_ | refine blk_alloc ?_ _)); refine blk_put (cs := #[.bool false, .slice none 0 0]) ?_ 1 _ rfl; (with_reducible repeat (first | refine blk_drewN ?_ _ | refine blk_drew ?_ | refine blk_alloc ?_ _)); refine blk_put (cs := #[.bool false, .slice none 0 0]) ?_ 0 _ rfl; (with_reducible repeat (first | refine blk_drewN ?_ _ | refine blk_drew ?_ | refine blk_alloc ?_ _)); exact BK148.out) hb); have n2_ := Aside0.mk (below_step (by repeat (first | (with_reducible first | exact HB.out | apply below_alloc | apply pw_below_drewN | apply below_drew1 | refine below_set ?_ GE146.out | refine below_set ?_ GE148.out) | exact HB.out)) hb); clear BK146; clear BK148; clear HB; have BK146 := n0_; have BK148 := n1_; have HB := n2_; clear n0_ n1_ n2_; (try clear hb); (try clear hb2); (try clear hk); (try clear hi); have hcz33_0 : w32.cell? ⟨gb148, 0, none⟩ = some (.bool false) := (blk_cell BK148.out 0).trans rfl; have hcz33_1 : w32.cell? ⟨gb148, 1, none⟩ = some (.slice A147_3 ((rd_T55 l0_0 x8_1).f2.f1).length c147_3) := (blk_cell BK148.out 1).trans rfl; have hfz33_0 := blk_frozen BK148.out 0; have hfz33_1 := blk_frozen BK148.out 1; have p152 : 0 ≤ (t149 : Int) := of_decide_eq_true (by first | (with_reducible assumption) | assumption); have q152 : t149 < (((rd_T55 l0_0 x8_1).f2.f1).length : Int) := of_decide_eq_true (by first | (with_reducible assumption) | assumption); obtain ⟨ad152, e152, hx152_0, hx152_1⟩ := at_T49 HR147_3.out t149 p152 q152; cases e152; replace hx152_0 := (HB.out.cell (World.block_lt_of_cell? w _ hx152_0)).trans hx152_0; replace hx152_1 := (HB.out.cell (World.block_lt_of_cell? w _ hx152_1)).trans hx152_1; replace p152 := eq_true p152; replace q152 := eq_true q152))
         go_roundg k1
         case measure => have := HK1.out; omega
         case rel => exact ⟨((rd_T49 ((rd_T55 l0_0 x8_1).f2.f1) t149).f1), (by first | rfl | (simp; done) | (simp [*]; done)), H', ⟨by have := HK1.out; omega⟩, ⟨by (with_reducible repeat (first | refine blk_drewN ?_ _ | refine blk_drew ?_ | refine blk_alloc ?_ _)); exact BK146.out⟩, ⟨by repeat (first | (with_reducible first | exact HB.out | apply below_alloc | apply pw_below_drewN | apply below_drew1 | refine below_set ?_ GE146.out | refine below_set ?_ GE148.out) | exact HB.out)⟩⟩
        ·rw [if_neg c27] at H
         exact absurd H (by simp)
       ·rw [if_neg c26] at H
        exact absurd H (by simp)
     ·rw [if_neg c7] at H
      exact absurd H (by simp)
    ·rw [if_neg c6] at H
     exact absurd H (by simp)
   ·rw [if_neg c5] at H
    have c5b0 : decide (0 ≤ x8_1) = false := decide_eq_false c5
    clear c5
    simp only [Option.some.injEq, Prod.mk.injEq] at H
    obtain ⟨rfl, rfl⟩ := H
    go_wp2
    go_ret2
    exact ⟨by first | rfl | (simp [errW_none, errW_some] <;> rfl) | (simp [*, errW_none, errW_some] <;> rfl), by repeat (first | (with_reducible first | exact HB.out | apply below_alloc | apply pw_below_drewN | apply below_drew1 | refine below_set ?_ GE146.out) | exact HB.out)⟩
end Go.Proofs.Yteiladccdenpbaa.P
end
section
namespace Go.Proofs.Yteiladccdenpbaa.P
open Go.RowKit Go.Proofs.YteiladccdenpbaaW.PrintWords Go.Proofs.YteiladccdenpbaaW.PrintLast Go.Proofs.YteiladccdenpbaaW.PrintMore
attribute [local go_sem] max2_int min2_int max_two min_two max_three min_three max_four min_four
set_option linter.unusedVariables false
set_option linter.unusedSimpArgs false
def assartlaw07_example.f  : Option ((List (S55)) × Int) := some ((([(⟨1, false, (⟨true, (([(⟨1, 7⟩ : S49), (⟨2, 8⟩ : S49)] : List (S49)))⟩ : S53)⟩ : S55), (⟨1, false, (⟨true, (([(⟨5, 9⟩ : S49)] : List (S49)))⟩ : S53)⟩ : S55), (⟨1, false, (⟨false, (([(⟨1, 0⟩ : S49), (⟨5, 1⟩ : S49)] : List (S49)))⟩ : S53)⟩ : S55)] : List (S55))), 0)
set_option maxHeartbeats 8000000 in
set_option maxRecDepth 100000 in
theorem assartlaw07_example.calls  (r1 : List (S55)) (r2 : Int) (w : World) (h : assartlaw07_example.f  = some (r1, r2)) :
  Calls Try.prog 56 #[] w fun e w' => ∃ v0_ : Value, e = .returned (.agg #[v0_, .int .i64 r2]) ∧ Kd.N k55 55 w' w.heap.size (fun k_ => (w.heap.size ≤ k_)) v0_ r1 ∧ Below w.heap.size w w' := by
 have hu24 := Try.underlying24
 have hu49 := Try.underlying49
 have hu53 := Try.underlying53
 have hu55 := Try.underlying55
 have HB := Aside0.mk (Below.refl w.heap.size w)
 have H : (some ((([(⟨1, false, (⟨true, (([(⟨1, 7⟩ : S49), (⟨2, 8⟩ : S49)] : List (S49)))⟩ : S53)⟩ : S55), (⟨1, false, (⟨true, (([(⟨5, 9⟩ : S49)] : List (S49)))⟩ : S53)⟩ : S55), (⟨1, false, (⟨false, (([(⟨1, 0⟩ : S49), (⟨5, 1⟩ : S49)] : List (S49)))⟩ : S53)⟩ : S55)] : List (S55))), 0)) = some (r1, r2) := h
 clear h
 obtain ⟨y154, hy154⟩ : ∃ y_ : List (S49), y_ = (([(⟨1, 7⟩ : S49), (⟨2, 8⟩ : S49)] : List (S49))) := ⟨_, rfl⟩
 replace H : (some ((([(⟨1, false, (⟨true, y154⟩ : S53)⟩ : S55), (⟨1, false, (⟨true, (([(⟨5, 9⟩ : S49)] : List (S49)))⟩ : S53)⟩ : S55), (⟨1, false, (⟨false, (([(⟨1, 0⟩ : S49), (⟨5, 1⟩ : S49)] : List (S49)))⟩ : S53)⟩ : S55)] : List (S55))), 0)) = some (r1, r2) := by first | (rw [hy154]; with_reducible exact H) | (have H2_ := (Option.bind_some _ _).symm.trans H; rw [hy154]; with_reducible exact H2_) | (have H2_ := (Option.bind_some _ _).symm.trans H; with_reducible exact H2_) | with_reducible exact H | (rw [hy154]; exact H) | exact H
 have Ny154 := Aside0.mk hy154
 clear hy154
 obtain ⟨y157, hy157⟩ : ∃ y_ : List (S49), y_ = (([(⟨5, 9⟩ : S49)] : List (S49))) := ⟨_, rfl⟩
 replace H : (some ((([(⟨1, false, (⟨true, y154⟩ : S53)⟩ : S55), (⟨1, false, (⟨true, y157⟩ : S53)⟩ : S55), (⟨1, false, (⟨false, (([(⟨1, 0⟩ : S49), (⟨5, 1⟩ : S49)] : List (S49)))⟩ : S53)⟩ : S55)] : List (S55))), 0)) = some (r1, r2) := by first | (rw [hy157]; with_reducible exact H) | (have H2_ := (Option.bind_some _ _).symm.trans H; rw [hy157]; with_reducible exact H2_) | (have H2_ := (Option.bind_some _ _).symm.trans H; with_reducible exact H2_) | with_reducible exact H | (rw [hy157]; exact H) | exact H
 have Ny157 := Aside0.mk hy157
 clear hy157
 obtain ⟨y160, hy160⟩ : ∃ y_ : List (S49), y_ = (([(⟨1, 0⟩ : S49), (⟨5, 1⟩ : S49)] : List (S49))) := ⟨_, rfl⟩
 replace H : (some ((([(⟨1, false, (⟨true, y154⟩ : S53)⟩ : S55), (⟨1, false, (⟨true, y157⟩ : S53)⟩ : S55), (⟨1, false, (⟨false, y160⟩ : S53)⟩ : S55)] : List (S55))), 0)) = some (r1, r2) := by first | (rw [hy160]; with_reducible exact H) | (have H2_ := (Option.bind_some _ _).symm.trans H; rw [hy160]; with_reducible exact H2_) | (have H2_ := (Option.bind_some _ _).symm.trans H; with_reducible exact H2_) | with_reducible exact H | (rw [hy160]; exact H) | exact H
 have Ny160 := Aside0.mk hy160
 clear hy160
 obtain ⟨y163, hy163⟩ : ∃ y_ : List (S55), y_ = (([(⟨1, false, (⟨true, y154⟩ : S53)⟩ : S55), (⟨1, false, (⟨true, y157⟩ : S53)⟩ : S55), (⟨1, false, (⟨false, y160⟩ : S53)⟩ : S55)] : List (S55))) := ⟨_, rfl⟩
 replace H : (some (y163, 0)) = some (r1, r2) := by first | (rw [hy163]; with_reducible exact H) | (have H2_ := (Option.bind_some _ _).symm.trans H; rw [hy163]; with_reducible exact H2_) | (have H2_ := (Option.bind_some _ _).symm.trans H; with_reducible exact H2_) | with_reducible exact H | (rw [hy163]; exact H) | exact H
 have Ny163 := Aside0.mk hy163
 clear hy163
 simp only [Option.some.injEq, Prod.mk.injEq] at H
 obtain ⟨rfl, rfl⟩ := H
 go_enter Try.func56, Try.ntmps56
 go_wp2_with (first | ((with_reducible refine gate_dst (N := 0) rfl ?_); refine box_event ?hg (N := 0) ?hd (cs := #[.slice none 0 0, .int .i64 0]) (t := 24) ?hr ?_; (case hd => rfl); (case hg => rfl); (case hr => first | (go_simp; done) | (go_simp; rfl)); intro gb153 hg w1 hbox hb; have n0_ := Aside0.mk (below_step (by repeat (first | (with_reducible first | exact HB.out | apply below_alloc | apply pw_below_drewN | apply below_drew1) | exact HB.out)) hb); have n1_ := Aside0.mk (hbox); have n2_ := Aside0.mk ((by rw [hg]; exact (below_size (by repeat (first | (with_reducible first | exact HB.out | apply below_alloc | apply pw_below_drewN | apply below_drew1) | exact HB.out))) : w.heap.size ≤ gb153)); have n3_ := Aside0.mk ((by rw [hg]; exact (below_size (by repeat (first | (with_reducible first | exact HB.out | apply below_alloc | apply pw_below_drewN | apply below_drew1) | exact HB.out))) : w.heap.size ≤ gb153)); clear HB; have HB := n0_; have BK153 := n1_; have GW153 := n2_; have GE153 := n3_; clear n0_ n1_ n2_ n3_; clear hb hbox hg) | ((with_reducible refine gate_dst (N := 3) rfl ?_); refine Kd.R_lit k49 _ 49 ?hg (N := 3) ?hd (xs := ([(⟨1, 7⟩ : S49), (⟨2, 8⟩ : S49)] : List (S49))) (inner := [.int .i64 1, .int .i64 7, .int .i64 2, .int .i64 8]) (ok := fun _ => True) (okp := fun _ => True) ?hr ?hp (fun _ hk => hk) trivial (Below.refl _ _) (Nat.le_refl _) (by simp) ?_; (case hd => rfl); (case hg => rfl); (case hr => first | (go_simp; done) | (go_simp; rfl)); (case hp => exact (Reps.c2 (show Kd.M k49 _ _ _ (⟨1, 7⟩ : S49) [.int .i64 1, .int .i64 7] from (k49_mkM _ _ _ (⟨1, 7⟩ : S49) )) (Reps.c2 (show Kd.M k49 _ _ _ (⟨2, 8⟩ : S49) [.int .i64 2, .int .i64 8] from (k49_mkM _ _ _ (⟨2, 8⟩ : S49) )) (Reps.none _ _)))); intro v155 w2 ho3 hb hg_ hnew_; clear hg_ hnew_; (first | rw [← Ny154.out] at ho3 | (simp only [Int.reduceToNat] at ho3; rw [← Ny154.out] at ho3)); have n0_ := Aside0.mk (Kd.R_lower (Kd.R_newM (M := fun k_ => (w.heap.size ≤ k_)) ho3 (below_size (by repeat (first | (with_reducible first | exact HB.out | apply below_alloc | apply pw_below_drewN | apply below_drew1 | refine below_set ?_ GE153.out) | exact HB.out))) (fun k_ h_ => h_)) (below_size (by repeat (first | (with_reducible first | exact HB.out | apply below_alloc | apply pw_below_drewN | apply below_drew1 | refine below_set ?_ GE153.out) | exact HB.out)))); have n1_ := Aside0.mk (blk_below (g := gb153) (o := .cells #[.slice none 0 0, .int .i64 0] 24 (0, 0)) (by (with_reducible repeat (first | refine blk_drewN ?_ _ | refine blk_drew ?_ | refine blk_alloc ?_ _)); exact BK153.out) hb); have n2_ := Aside0.mk (below_step (by repeat (first | (with_reducible first | exact HB.out | apply below_alloc | apply pw_below_drewN | apply below_drew1 | refine below_set ?_ GE153.out) | exact HB.out)) hb); clear BK153; clear HB; have HO156 := n0_; have BK153 := n1_; have HB := n2_; clear n0_ n1_ n2_; clear hb ho3; obtain ⟨Ao4, co4, eo4⟩ := Kd.R_slice HO156.out; subst eo4) | ((with_reducible refine gate_dst (N := 7) rfl ?_); refine Kd.R_lit k49 _ 49 ?hg (N := 7) ?hd (xs := ([(⟨5, 9⟩ : S49)] : List (S49))) (inner := [.int .i64 5, .int .i64 9]) (ok := fun _ => True) (okp := fun _ => True) ?hr ?hp (fun _ hk => hk) trivial (Below.refl _ _) (Nat.le_refl _) (by simp) ?_; (case hd => rfl); (case hg => rfl); (case hr => first | (go_simp; done) | (go_simp; rfl)); (case hp => exact (Reps.c2 (show Kd.M k49 _ _ _ (⟨5, 9⟩ : S49) [.int .i64 5, .int .i64 9] from (k49_mkM _ _ _ (⟨5, 9⟩ : S49) )) (Reps.none _ _))); intro v158 w5 ho6 hb hg_ hnew_; clear hg_ hnew_; (first | rw [← Ny157.out] at ho6 | (simp only [Int.reduceToNat] at ho6; rw [← Ny157.out] at ho6)); have n0_ := Aside0.mk (Kd.R_elder' (by (with_reducible repeat (first | apply Kd.R_alloc | apply Kd.R_drewN | apply Kd.R_drew)); exact HO156.out) (Kd.R_base ho6) hb); have n1_ := Aside0.mk (Kd.R_lower (Kd.R_new' (Kd.R_newM (M := fun k_ => (w.heap.size ≤ k_)) ho6 (below_size (by repeat (first | (with_reducible first | exact HB.out | apply below_alloc | apply pw_below_drewN | apply below_drew1 | refine below_set ?_ GE153.out) | exact HB.out))) (fun k_ h_ => h_)) (Kd.R_lt (by (with_reducible repeat (first | apply Kd.R_alloc | apply Kd.R_drewN | apply Kd.R_drew)); exact HO156.out))) (below_size (by repeat (first | (with_reducible first | exact HB.out | apply below_alloc | apply pw_below_drewN | apply below_drew1 | refine below_set ?_ GE153.out) | exact HB.out)))); have n2_ := Aside0.mk (blk_below (g := gb153) (o := .cells #[.slice none 0 0, .int .i64 0] 24 (0, 0)) (by (with_reducible repeat (first | refine blk_drewN ?_ _ | refine blk_drew ?_ | refine blk_alloc ?_ _)); exact BK153.out) hb); have n3_ := Aside0.mk (below_step (by repeat (first | (with_reducible first | exact HB.out | apply below_alloc | apply pw_below_drewN | apply below_drew1 | refine below_set ?_ GE153.out) | exact HB.out)) hb); clear HO156; clear BK153; clear HB; have HO156 := n0_; have HO159 := n1_; have BK153 := n2_; have HB := n3_; clear n0_ n1_ n2_ n3_; clear hb ho6; obtain ⟨Ao7, co7, eo7⟩ := Kd.R_slice HO159.out; subst eo7) | ((with_reducible refine gate_dst (N := 12) rfl ?_); refine Kd.R_lit k49 _ 49 ?hg (N := 12) ?hd (xs := ([(⟨1, 0⟩ : S49), (⟨5, 1⟩ : S49)] : List (S49))) (inner := [.int .i64 1, .int .i64 0, .int .i64 5, .int .i64 1]) (ok := fun _ => True) (okp := fun _ => True) ?hr ?hp (fun _ hk => hk) trivial (Below.refl _ _) (Nat.le_refl _) (by simp) ?_; (case hd => rfl); (case hg => rfl); (case hr => first | (go_simp; done) | (go_simp; rfl)); (case hp => exact (Reps.c2 (show Kd.M k49 _ _ _ (⟨1, 0⟩ : S49) [.int .i64 1, .int .i64 0] from (k49_mkM _ _ _ (⟨1, 0⟩ : S49) )) (Reps.c2 (show Kd.M k49 _ _ _ (⟨5, 1⟩ : S49) [.int .i64 5, .int .i64 1] from (k49_mkM _ _ _ (⟨5, 1⟩ : S49) )) (Reps.none _ _)))); intro v161 w8 ho9 hb hg_ hnew_; clear hg_ hnew_; (first | rw [← Ny160.out] at ho9 | (simp only [Int.reduceToNat] at ho9; rw [← Ny160.out] at ho9)); have n0_ := Aside0.mk (Kd.R_elder' (by (with_reducible repeat (first | apply Kd.R_alloc | apply Kd.R_drewN | apply Kd.R_drew)); exact HO156.out) (Kd.R_base ho9) hb); have n1_ := Aside0.mk (Kd.R_elder' (by (with_reducible repeat (first | apply Kd.R_alloc | apply Kd.R_drewN | apply Kd.R_drew)); exact HO159.out) (Kd.R_base ho9) hb); have n2_ := Aside0.mk (Kd.R_lower (Kd.R_new' (Kd.R_new' (Kd.R_newM (M := fun k_ => (w.heap.size ≤ k_)) ho9 (below_size (by repeat (first | (with_reducible first | exact HB.out | apply below_alloc | apply pw_below_drewN | apply below_drew1 | refine below_set ?_ GE153.out) | exact HB.out))) (fun k_ h_ => h_)) (Kd.R_lt (by (with_reducible repeat (first | apply Kd.R_alloc | apply Kd.R_drewN | apply Kd.R_drew)); exact HO156.out))) (Kd.R_lt (by (with_reducible repeat (first | apply Kd.R_alloc | apply Kd.R_drewN | apply Kd.R_drew)); exact HO159.out))) (below_size (by repeat (first | (with_reducible first | exact HB.out | apply below_alloc | apply pw_below_drewN | apply below_drew1 | refine below_set ?_ GE153.out) | exact HB.out)))); have n3_ := Aside0.mk (blk_below (g := gb153) (o := .cells #[.slice none 0 0, .int .i64 0] 24 (0, 0)) (by (with_reducible repeat (first | refine blk_drewN ?_ _ | refine blk_drew ?_ | refine blk_alloc ?_ _)); exact BK153.out) hb); have n4_ := Aside0.mk (below_step (by repeat (first | (with_reducible first | exact HB.out | apply below_alloc | apply pw_below_drewN | apply below_drew1 | refine below_set ?_ GE153.out) | exact HB.out)) hb); clear HO156; clear HO159; clear BK153; clear HB; have HO156 := n0_; have HO159 := n1_; have HO162 := n2_; have BK153 := n3_; have HB := n4_; clear n0_ n1_ n2_ n3_ n4_; clear hb ho9; obtain ⟨Ao10, co10, eo10⟩ := Kd.R_slice HO162.out; subst eo10) | ((with_reducible refine gate_dst (N := 15) rfl ?_); refine Kd.N_lit k55 _ 55 ?hg (N' := 15) ?hd (xs := ([(⟨1, false, (⟨true, y154⟩ : S53)⟩ : S55), (⟨1, false, (⟨true, y157⟩ : S53)⟩ : S55), (⟨1, false, (⟨false, y160⟩ : S53)⟩ : S55)] : List (S55))) (inner := [.int .i64 1, .bool false, .bool true, .slice Ao4 y154.length co4, .int .i64 1, .bool false, .bool true, .slice Ao7 y157.length co7, .int .i64 1, .bool false, .bool false, .slice Ao10 y160.length co10]) (ok := (fun k_ => (w.heap.size ≤ k_) ∧ k_ ≠ gb153)) (okp := (fun k_ => (w.heap.size ≤ k_) ∧ k_ ≠ gb153)) ?hr ?hp (fun _ hk => hk) ((show ∀ k_, w8.heap.size ≤ k_ → (fun k_ => (w.heap.size ≤ k_) ∧ k_ ≠ gb153) k_ from fun k_ hk => ⟨(Nat.le_trans (below_size (by repeat (first | (with_reducible first | exact HB.out | apply below_alloc | apply pw_below_drewN | apply below_drew1 | refine below_set ?_ GE153.out) | exact HB.out))) hk), Kd.freshB (g := gb153) (o := .cells #[.slice none 0 0, .int .i64 0] 24 (0, 0)) (by (with_reducible repeat (first | refine blk_drewN ?_ _ | refine blk_drew ?_ | refine blk_alloc ?_ _)); exact BK153.out) k_ hk⟩) _ (Nat.le_refl _)) (Below.refl _ _) (Nat.le_refl _) (by simp) ?_; (case hd => rfl); (case hg => rfl); (case hr => first | (go_simp; done) | (go_simp; rfl)); (case hp => exact (Reps.c4 (show Kd.FK k55 _ _ (⟨1, false, (⟨true, y154⟩ : S53)⟩ : S55) [.int .i64 1, .bool false, .bool true, .slice Ao4 y154.length co4] from (k55_mkF _ _ (⟨1, false, (⟨true, y154⟩ : S53)⟩ : S55) (Kd.R_reads' (Kd.R_mono (ok' := (fun k_ => (w.heap.size ≤ k_) ∧ k_ ≠ gb153)) (Kd.R_types (HO156.out) BK153.out (by decide)) (fun k_ hk => ⟨hk.1.1.1.1, hk.2⟩))).2.1 (Kd.R_F (Kd.R_mono (ok' := (fun k_ => (w.heap.size ≤ k_) ∧ k_ ≠ gb153)) (Kd.R_types (HO156.out) BK153.out (by decide)) (fun k_ hk => ⟨hk.1.1.1.1, hk.2⟩))))) (Reps.c4 (show Kd.FK k55 _ _ (⟨1, false, (⟨true, y157⟩ : S53)⟩ : S55) [.int .i64 1, .bool false, .bool true, .slice Ao7 y157.length co7] from (k55_mkF _ _ (⟨1, false, (⟨true, y157⟩ : S53)⟩ : S55) (Kd.R_reads' (Kd.R_mono (ok' := (fun k_ => (w.heap.size ≤ k_) ∧ k_ ≠ gb153)) (Kd.R_types (HO159.out) BK153.out (by decide)) (fun k_ hk => ⟨hk.1.1.1.1, hk.2⟩))).2.1 (Kd.R_F (Kd.R_mono (ok' := (fun k_ => (w.heap.size ≤ k_) ∧ k_ ≠ gb153)) (Kd.R_types (HO159.out) BK153.out (by decide)) (fun k_ hk => ⟨hk.1.1.1.1, hk.2⟩))))) (Reps.c4 (show Kd.FK k55 _ _ (⟨1, false, (⟨false, y160⟩ : S53)⟩ : S55) [.int .i64 1, .bool false, .bool false, .slice Ao10 y160.length co10] from (k55_mkF _ _ (⟨1, false, (⟨false, y160⟩ : S53)⟩ : S55) (Kd.R_reads' (Kd.R_mono (ok' := (fun k_ => (w.heap.size ≤ k_) ∧ k_ ≠ gb153)) (Kd.R_types (HO162.out) BK153.out (by decide)) (fun k_ hk => ⟨hk.1.1.1.1, hk.2⟩))).2.1 (Kd.R_F (Kd.R_mono (ok' := (fun k_ => (w.heap.size ≤ k_) ∧ k_ ≠ gb153)) (Kd.R_types (HO162.out) BK153.out (by decide)) (fun k_ hk => ⟨hk.1.1.1.1, hk.2⟩))))) (Reps.none _ _))))); intro v164 w11 ho12 hb hg_ hnew_; clear hg_ hnew_; (first | rw [← Ny163.out] at ho12 | (simp only [Int.reduceToNat] at ho12; rw [← Ny163.out] at ho12)); have n0_ := Aside0.mk (Kd.N_lower ho12 (below_size (by repeat (first | (with_reducible first | exact HB.out | apply below_alloc | apply pw_below_drewN | apply below_drew1 | refine below_set ?_ GE153.out) | exact HB.out)))); have n1_ := Aside0.mk (blk_below (g := gb153) (o := .cells #[.slice none 0 0, .int .i64 0] 24 (0, 0)) (by (with_reducible repeat (first | refine blk_drewN ?_ _ | refine blk_drew ?_ | refine blk_alloc ?_ _)); exact BK153.out) hb); have n2_ := Aside0.mk (below_step (by repeat (first | (with_reducible first | exact HB.out | apply below_alloc | apply pw_below_drewN | apply below_drew1 | refine below_set ?_ GE153.out) | exact HB.out)) hb); clear BK153; clear HB; clear HO156; clear HO159; clear HO162; have HO165 := n0_; have BK153 := n1_; have HB := n2_; clear n0_ n1_ n2_; clear hb ho12; obtain ⟨Ao13, co13, eo13⟩ := Kd.N_slice HO165.out; subst eo13; have hcz14_0 : w11.cell? ⟨gb153, 0, none⟩ = some (.slice none 0 0) := (blk_cell BK153.out 0).trans rfl; have hcz14_1 : w11.cell? ⟨gb153, 1, none⟩ = some (.int .i64 0) := (blk_cell BK153.out 1).trans rfl; have hfz14_0 := blk_frozen BK153.out 0; have hfz14_1 := blk_frozen BK153.out 1))
 refine bodyPost_ret (results_cell_row rfl _ _ gb153 24 #[.slice Ao13 y163.length co13, .int .i64 0] (0, 0) _ rfl (by (with_reducible repeat (first | refine blk_drewN ?_ _ | refine blk_drew ?_ | refine blk_alloc ?_ _)); refine blk_put (cs := #[.slice Ao13 y163.length co13, .int .i64 0]) ?_ 1 _ rfl; (with_reducible repeat (first | refine blk_drewN ?_ _ | refine blk_drew ?_ | refine blk_alloc ?_ _)); refine blk_put (cs := #[.slice none 0 0, .int .i64 0]) ?_ 0 _ rfl; (with_reducible repeat (first | refine blk_drewN ?_ _ | refine blk_drew ?_ | refine blk_alloc ?_ _)); exact BK153.out) Try.underlying24 rfl (by kernel_rfl)) rfl ?_
 exact ⟨_, by first | rfl | (simp [errW_none, errW_some] <;> rfl) | (simp [*, errW_none, errW_some] <;> rfl), by (with_reducible repeat (first | apply Kd.N_alloc | apply Kd.N_drewN | apply Kd.N_drew)); exact Kd.N_mono (Kd.N_far (p := ⟨gb153, 1, none⟩) (Kd.N_far (p := ⟨gb153, 0, none⟩) (Kd.N_mono HO165.out (fun k_ hk => (⟨hk, hk.2⟩ : _ ∧ k_ ≠ gb153))) (fun _ hk => hk.2) (.slice Ao13 y163.length co13)) (fun _ hk => hk.2) (.int .i64 0)) (fun _ hk => hk.1.1), by repeat (first | (with_reducible first | exact HB.out | apply below_alloc | apply pw_below_drewN | apply below_drew1 | refine below_set ?_ GE153.out) | exact HB.out)⟩
end Go.Proofs.Yteiladccdenpbaa.P
end
section
namespace Go.Proofs.Yteiladccdenpbaa.P
open Go.RowKit Go.Shelf Go.Proofs.YteiladccdenpbaaW.PrintWords Go.Proofs.YteiladccdenpbaaW.PrintLast Go.Proofs.YteiladccdenpbaaW.PrintMore
attribute [local go_sem] Oper.semAt_some
set_option linter.unusedVariables false
set_option linter.unusedSimpArgs false
theorem w64s (i : Nat) (h : i < 1000000) : wrap64 ((i : Int) + 1) = ((i + 1 : Nat) : Int) := by
  unfold wrap64
  omega
theorem add_add_ (a : Addr) (x y : Nat) : (a.add x).add y = a.add (x + y) := by
  unfold Addr.add
  by_cases hx : x = 0 <;> by_cases hy : y = 0 <;> simp [hx, hy, Nat.add_assoc]
def catO (f : Int → Option (List S49)) : List S49 → Option (List S49)
  | [] => some []
  | x :: xs => (f x.f1).bind fun a => (catO f xs).bind fun b => some (a ++ b)
def itemsL : Nat → List S55 → Int → Int → Option (List S49)
  | 0, _, _, _ => none
  | k + 1, l, lo, p =>
    if 0 ≤ p ∧ p < (l.length : Int) then
      (node_At.f (rd_T55 l p).f2.f0 (rd_T55 l p).f2.f1 lo).bind fun r =>
        if 0 ≤ r.1 ∧ r.1 ≤ ((rd_T55 l p).f2.f1.length : Int) then
          (if (rd_T55 l p).f2.f0 = true then some ((rd_T55 l p).f2.f1.drop r.1.toNat) else catO (itemsL k l lo) ((rd_T55 l p).f2.f1.drop r.1.toNat))
        else none
    else none
def keepT : Obj → Bool
  | .cells _ t _ => t != 43 && t != 49
  | _ => false
def KpT (n₀ : Nat) (W W' : World) : Prop := Below n₀ W W' ∧ ∀ (k : Nat) (o : Obj), W.heap[k]? = some o → keepT o = true → W'.heap[k]? = some o
theorem KpT.t {n₀ : Nat} {A B C : World} (h : KpT n₀ A B) (k : KpT n₀ B C) : KpT n₀ A C := ⟨h.1.trans k.1, fun i o hi ho => k.2 i o (h.2 i o hi ho) ho⟩
theorem KpT.refl (n₀ : Nat) (A : World) : KpT n₀ A A := ⟨Below.refl _ _, fun _ _ h _ => h⟩
theorem KpT.below {n₀ : Nat} {A B : World} (h : Below A.heap.size A B) (hn : n₀ ≤ A.heap.size) : KpT n₀ A B := ⟨h.mono hn, fun i o hi _ => (h.block i (Array.getElem?_eq_some_iff.1 hi).1).trans hi⟩
theorem grown_below {A B : World} (h : Below A.heap.size A B) : A.grownBy B none := ⟨h.os, h.tape, h.output, h.size, fun k hk _ => h.block k hk⟩
theorem abides_below {β : Type} {B : Nat} {J : β → World → Prop} (hJ : AbidesFrom B J) {s : β} {X Y : World} (hs : J s X) (h : Below X.heap.size X Y) : J s Y := hJ s X Y none hs (grown_below h) (fun r e => by cases e)
structure Bx (w0 : World) (A : Option Addr) (c : Nat) (ls : List S55) (kp lo : Int) (ly gh gl gy gb : Nat) (W : World) : Prop where
  h : W.heap[gh]? = some (.cells #[.slice A ls.length c, .int .i64 kp] 24 (0, 0))
  l : W.heap[gl]? = some (.cells #[.int .i64 lo] 3 (0, 0))
  y : W.heap[gy]? = some (.cells #[.func (.yield ly) #[] #[]] 120 (0, 0))
  b : W.heap[gb]? = some (.cells #[.func (.func 86) #[] #[.pointer (some ⟨gh, 0, none⟩), .pointer (some ⟨gl, 0, none⟩), .pointer (some ⟨gy, 0, none⟩), .pointer (some ⟨gb, 0, none⟩)]] 119 (0, 0))
  w : Below w0.heap.size w0 W
theorem Bx.kp {w0 : World} {A : Option Addr} {c : Nat} {ls : List S55} {kp lo : Int} {ly gh gl gy gb : Nat} {W W' : World} (h : Bx w0 A c ls kp lo ly gh gl gy gb W) (hk : KpT w0.heap.size W W') : Bx w0 A c ls kp lo ly gh gl gy gb W' :=
  ⟨hk.2 _ _ h.h rfl, hk.2 _ _ h.l rfl, hk.2 _ _ h.y rfl, hk.2 _ _ h.b rfl, h.w.trans hk.1⟩
theorem Bx.below {w0 : World} {A : Option Addr} {c : Nat} {ls : List S55} {kp lo : Int} {ly gh gl gy gb : Nat} {W W' : World} (h : Bx w0 A c ls kp lo ly gh gl gy gb W) (hk : Below W.heap.size W W') : Bx w0 A c ls kp lo ly gh gl gy gb W' :=
  h.kp (KpT.below hk h.w.size)
set_option maxHeartbeats 4000000 in
set_option maxRecDepth 100000 in
theorem below_in (w0 : World) (A : Option Addr) (c : Nat) (ls : List S55) (kp lo : Int) (ly gh gl gy gb : Nat) (hC : Kd.C k55 w0 A ls.length ls) (N B : Nat) (J Jx : List S49 → World → Prop)
    (hJ : AbidesFrom B J) (hJx : AbidesFrom B Jx)
    (hY : ∀ m pre x W, J pre W → pre.length < N → YieldAt Fence.wide m Try.prog ly #[.agg #[.int .i64 (S49.f0 x), .int .i64 (S49.f1 x)]] W fun e W' =>
      (e = .returned (.bool true) ∧ J (pre ++ [x]) W' ∧ KpT w0.heap.size W W') ∨ (e = .returned (.bool false) ∧ Jx (pre ++ [x]) W')) (k : Nat) :
    ∀ (n : Nat) (p : Int) (pre out : List S49) (W : World), Bx w0 A c ls kp lo ly gh gl gy gb W → J pre W → itemsL k ls lo p = some out → pre.length + out.length ≤ N →
      CallsIn Fence.wide n Try.prog 86 #[.int .i64 p, .pointer (some ⟨gh, 0, none⟩), .pointer (some ⟨gl, 0, none⟩), .pointer (some ⟨gy, 0, none⟩), .pointer (some ⟨gb, 0, none⟩)] W fun e W' =>
        (e = .returned (.bool true) ∧ J (pre ++ out) W' ∧ KpT w0.heap.size W W') ∨ (e = .returned (.bool false) ∧ ∃ q, q <+: out ∧ Jx (pre ++ q) W') := by
  induction k with
  | zero => intro n p pre out W hb hj h _; simp [itemsL] at h
  | succ k ih =>
  intro n p pre out W hb hj h hN
  have hdd : ∀ k : Nat, (Fence.wide.depth.isSome = true → 1 ≤ k) := fun k h => by cases h
  rw [itemsL] at h
  have hp : 0 ≤ p ∧ p < (ls.length : Int) := by
    by_cases hc : 0 ≤ p ∧ p < (ls.length : Int)
    · exact hc
    · rw [if_neg hc] at h; cases h
  rw [if_pos hp] at h
  obtain ⟨⟨fr, is⟩, hat, h⟩ := Option.bind_eq_some_iff.1 h
  obtain ⟨hp0, hp1⟩ := hp
  obtain ⟨ad, A3, c3, rfl, x0, x1, x2, x3, hl3, hi3⟩ := at_T55 hC p hp0 hp1
  generalize hnd : (rd_T55 ls p).f2 = nd at *
  have hf : 0 ≤ fr ∧ fr ≤ (nd.f1.length : Int) := by
    by_cases hc : 0 ≤ fr ∧ fr ≤ (nd.f1.length : Int)
    · exact hc
    · simp only [] at h; rw [if_neg hc] at h; cases h
  simp only [] at h
  rw [if_pos hf] at h
  obtain ⟨hf0, hf1⟩ := hf
  have HB := Aside0.mk hb
  have HJ := Aside0.mk hj
  have HH := Aside0.mk h
  have HAT := Aside0.mk hat
  have HLEN : Aside0 (nd.f1.length < 1000000) := by
    refine ⟨?_⟩
    unfold node_At.f at hat
    by_cases hc : rising nd.f1 = true ∧ nd.f1.length < 1000000
    · exact hc.2
    · rw [if_neg hc] at hat; cases hat
  have HL3 := Aside0.mk hl3
  have HI3 := Aside0.mk hi3
  have HN := Aside0.mk hN
  have y0 := (hb.w.cell (World.block_lt_of_cell? w0 _ x0)).trans x0
  have y1 := (hb.w.cell (World.block_lt_of_cell? w0 _ x1)).trans x1
  have y2 := (hb.w.cell (World.block_lt_of_cell? w0 _ x2)).trans x2
  have y3 := (hb.w.cell (World.block_lt_of_cell? w0 _ x3)).trans x3
  have b0 : W.cell? ⟨gh, 0, none⟩ = some (.slice (some ad) ls.length c) := (blk_cell hb.h 0).trans rfl
  have b1 : W.cell? ⟨gl, 0, none⟩ = some (.int .i64 lo) := (blk_cell hb.l 0).trans rfl
  have l0 := HB.out.l
  have b1' := World.block_lt_of_cell? W _ b1
  clear hb hj h hat hl3 hi3 hN x0 x1 x2 x3 hC l0
  refine callsIn_of_wp Try.func86 rfl trivial ?_ rfl
  simp only [Try.ntmps86, List.size_toArray, List.length_cons, List.length_nil, Nat.reduceAdd, Nat.reduceSub, Array.replicate_succ, Array.replicate_zero, List.push_toArray, List.append_toArray, List.nil_append, List.cons_append]
  have hu24 := Try.underlying24
  have hu53 := Try.underlying53
  have hu49 := Try.underlying49
  gi_wp2
  refine ⟨trivial, hdd _, ?_⟩
  have HC7 : Kd.C k49 (W.alloc (.cells #[.bool nd.f0, .slice A3 nd.f1.length c3] 53)) A3 nd.f1.length nd.f1 := Kd.C_alloc (Kd.C_below HI3.out HB.out.w) _
  refine (callsIn_wide.2 (node_At.calls nd.f0 A3 c3 nd.f1 lo fr is _ HC7 HL3.out HAT.out)).mono ?_
  rintro e w1 ⟨rfl, hb1⟩
  have hbW : Below W.heap.size W w1 := ((Below.refl W.heap.size W).alloc (Nat.le_refl _) _).trans (hb1.mono (by simp))
  have hb7 : w1.heap[W.heap.size]? = some (.cells #[.bool nd.f0, .slice A3 nd.f1.length c3] 53 (0, 0)) := (hb1.block _ (by simp)).trans (World.alloc_heap_new W _)
  have HK1 := Aside0.mk (KpT.below hbW HB.out.w.size)
  have HB1 := Aside0.mk (HB.out.below hbW)
  have HJ1 := Aside0.mk (abides_below hJ HJ.out hbW)
  have H7 := Aside0.mk hb7
  have g0 : w1.cell? ⟨W.heap.size, 0, none⟩ = some (.bool nd.f0) := (blk_cell hb7 0).trans rfl
  have g1 : w1.cell? ⟨W.heap.size, 1, none⟩ = some (.slice A3 nd.f1.length c3) := (blk_cell hb7 1).trans rfl
  have HC1 := Aside0.mk (Kd.C_below HI3.out (HB1.out.w))
  have HW := Aside0.mk HB.out.w.size
  clear hb1 hbW hb7 HC7 HB HJ y0 y1 y2 y3 b0 b1 b1' HAT
  generalize W.heap.size = g7 at *
  obtain ⟨fi, rfl⟩ : ∃ fi : Nat, fr = (fi : Int) := ⟨fr.toNat, by omega⟩
  clear hf0
  have hfi : fi ≤ nd.f1.length := by omega
  by_cases hce : fi = nd.f1.length
  · have ho : out = [] := by
      have := HH.out
      rw [show nd.f1.drop ((fi : Int)).toNat = [] by rw [Int.toNat_natCast, hce]; exact List.drop_length] at this
      cases hl : nd.f0 <;> rw [hl] at this
      · simpa [catO] using this.symm
      · simpa using this.symm
    have HO := Aside0.mk ho
    have hz : nd.f1.length - fi = 0 := by omega
    clear ho hce hf1
    gi_wp2
    all_goals (gi_loopw [30] (fun p wr => p = .int .i64 0 ∧ wr = w1) (fun p wr => 0))
    case atStart => exact ⟨rfl, rfl⟩
    case atStart => exact ⟨rfl, rfl⟩
    all_goals obtain ⟨rfl, rfl⟩ := hrel
    all_goals gi_wp2
    all_goals go_ret
    all_goals exact .inl ⟨rfl, by rw [HO.out, List.append_nil]; exact HJ1.out, HK1.out⟩
  · have hlt : fi < nd.f1.length := by omega
    have hne : ¬ c3 = fi := by have := HL3.out; omega
    obtain ⟨ad3, hA3, -, -⟩ := at_T49 HC1.out (fi : Int) (by omega) (by omega)
    subst hA3
    clear hce hf1
    gi_wp2
    gi_loopw [30] (fun p wr => ∃ (i : Nat) (dn td : List S49), p = .int .i64 i ∧ i ≤ nd.f1.length - fi ∧ Aside0 (Bx w0 (some ad) c ls kp lo ly gh gl gy gb wr) ∧ Aside0 (J (pre ++ dn) wr) ∧ Aside0 (KpT w0.heap.size W wr) ∧ Aside0 (wr.heap[g7]? = some (.cells #[.bool nd.f0, .slice (some ad3) nd.f1.length c3] 53 (0, 0))) ∧ Aside0 (out = dn ++ td) ∧
      Aside0 ((if nd.f0 = true then some (nd.f1.drop (fi + i)) else catO (itemsL k ls lo) (nd.f1.drop (fi + i))) = some td)) (fun p wr => nd.f1.length - fi - (intOf p).toNat)
    case atStart => exact ⟨0, [], out, rfl, Nat.zero_le _, HB1, by rw [List.append_nil]; exact HJ1, HK1, H7, ⟨rfl⟩, by rw [Int.toNat_natCast] at HH; exact HH⟩
    case round =>
      obtain ⟨i, dn, td, rfl, hi, HBr, HJr, HKr, H7r, HOr, HTr⟩ := hrel
      have r0 : wr.cell? ⟨g7, 0, none⟩ = some (.bool nd.f0) := (blk_cell H7r.out 0).trans rfl
      have r1 : wr.cell? ⟨gy, 0, none⟩ = some (.func (.yield ly) #[] #[]) := (blk_cell HBr.out.y 0).trans rfl
      have r2 : wr.cell? ⟨gb, 0, none⟩ = some (.func (.func 86) #[] #[.pointer (some ⟨gh, 0, none⟩), .pointer (some ⟨gl, 0, none⟩), .pointer (some ⟨gy, 0, none⟩), .pointer (some ⟨gb, 0, none⟩)]) := (blk_cell HBr.out.b 0).trans rfl
      have s1 := World.block_lt_of_cell? wr _ r0
      have s2 := World.block_lt_of_cell? wr _ r1
      have s3 := World.block_lt_of_cell? wr _ r2
      by_cases hend : i < nd.f1.length - fi
      · obtain ⟨_, hA, z0, z1⟩ := at_T49 (Kd.C_below HI3.out HBr.out.w) ((fi + i : Nat) : Int) (by omega) (by omega)
        cases hA
        rw [Int.toNat_natCast] at z0 z1
        have hdrop : nd.f1.drop (fi + i) = rd_T49 nd.f1 ((fi + i : Nat) : Int) :: nd.f1.drop (fi + i + 1) := by
          rw [List.drop_eq_getElem_cons (by omega)]
          congr 1
          simp only [rd_T49, Int.toNat_natCast, List.getD_eq_getElem?_getD, List.getElem?_eq_getElem (show fi + i < nd.f1.length by omega), Option.getD_some]
        rw [show ad3.add ((fi + i) * 2) = (ad3.add (fi * 2)).add (i * 2) by rw [add_add_]; congr 1; omega] at z0 z1
        generalize rd_T49 nd.f1 ((fi + i : Nat) : Int) = x at *
        cases hlf : nd.f0 <;> rw [hlf] at r0
        ·
          have hT := HTr.out
          rw [hlf, if_neg Bool.false_ne_true, hdrop] at hT
          simp only [catO] at hT
          obtain ⟨ta, hta, hT⟩ := Option.bind_eq_some_iff.1 hT
          obtain ⟨tb, htb, hT⟩ := Option.bind_eq_some_iff.1 hT
          obtain rfl := Option.some.inj hT
          have HTA := Aside0.mk hta
          have HTB := Aside0.mk htb
          clear hT hta htb HTr
          have hbx : Below wr.heap.size wr (wr.alloc (.cells #[.int .i64 x.f0, .int .i64 x.f1] 49)) := (Below.refl _ wr).alloc (Nat.le_refl _) _
          have HIH := Aside0.mk (ih (n - 1) x.f1 (pre ++ dn) ta _ (HBr.out.below hbx) (abides_below hJ HJr.out hbx) HTA.out (by have := HN.out; rw [HOr.out] at this; simp only [List.length_append] at this ⊢; omega))
          have HK2 := Aside0.mk (HKr.out.t (KpT.below hbx HBr.out.w.size))
          have HB2 := Aside0.mk (HBr.out.below hbx)
          have H72 := Aside0.mk ((hbx.block _ s1).trans H7r.out)
          clear hbx
          gi_wp2
          refine ⟨trivial, hdd _, ?_⟩
          refine HIH.out.mono ?_
          rintro e W3 (⟨rfl, hJ3, hK3⟩ | ⟨rfl, q, hq, hx3⟩)
          · have HJ3 := Aside0.mk hJ3
            have HK3 := Aside0.mk hK3
            clear hJ3 hK3
            gi_wp2
            go_roundw
            case rel => exact ⟨i + 1, dn ++ ta, tb, congrArg _ (w64s i (by have := HLEN.out; omega)), by omega, ⟨HB2.out.kp HK3.out⟩, ⟨by rw [← List.append_assoc]; exact HJ3.out⟩, ⟨HK2.out.t HK3.out⟩, ⟨by rw [← hlf]; exact HK3.out.2 _ _ H72.out rfl⟩, ⟨by rw [HOr.out, List.append_assoc]⟩, ⟨by rw [if_neg Bool.false_ne_true]; exact HTB.out⟩⟩
            case measure => rw [w64s i (by have := HLEN.out; omega)]; simp only [intOf]; omega
          · gi_wp2
            go_ret
            obtain ⟨r, hr'⟩ := hq
            exact .inr ⟨rfl, dn ++ q, ⟨r ++ tb, by rw [HOr.out, ← hr']; simp [List.append_assoc]⟩, by rw [← List.append_assoc]; exact hx3⟩
        · have hT := HTr.out
          rw [hlf, if_pos rfl, hdrop] at hT
          obtain rfl := Option.some.inj hT
          clear hT HTr
          have hNl : pre.length + (dn ++ x :: nd.f1.drop (fi + i + 1)).length ≤ N := by rw [← HOr.out]; exact HN.out
          obtain ⟨fn, tmps, assign, body, hy, hR⟩ := hY (n - 1) (pre ++ dn) x (wr.alloc (.cells #[.int .i64 x.f0, .int .i64 x.f1] 49)) (abides_below hJ HJr.out ((Below.refl _ wr).alloc (Nat.le_refl _) _)) (by simp only [List.length_append, List.length_cons] at hNl ⊢; omega)
          clear hNl
          have hbx : Below wr.heap.size wr (wr.alloc (.cells #[.int .i64 x.f0, .int .i64 x.f1] 49)) := (Below.refl _ wr).alloc (Nat.le_refl _) _
          have HK2 := Aside0.mk (HKr.out.t (KpT.below hbx HBr.out.w.size))
          have HB2 := Aside0.mk (HBr.out.below hbx)
          have H72 := Aside0.mk ((hbx.block _ s1).trans H7r.out)
          clear hbx
          gi_wp2
          refine ⟨hdd _, ?_⟩
          refine hR.mono ?_
          rintro e W3 (⟨rfl, hJ3, hK3⟩ | ⟨rfl, hx3⟩)
          · have HJ3 := Aside0.mk hJ3
            have HK3 := Aside0.mk hK3
            clear hJ3 hK3
            gi_wp2
            go_roundw
            case rel => exact ⟨i + 1, dn ++ [x], nd.f1.drop (fi + i + 1), congrArg _ (w64s i (by have := HLEN.out; omega)), by omega, ⟨HB2.out.kp HK3.out⟩, ⟨by rw [← List.append_assoc]; exact HJ3.out⟩, ⟨HK2.out.t HK3.out⟩, ⟨by rw [← hlf]; exact HK3.out.2 _ _ H72.out rfl⟩, ⟨by rw [HOr.out, List.append_assoc]; rfl⟩, ⟨rfl⟩⟩
            case measure => rw [w64s i (by have := HLEN.out; omega)]; simp only [intOf]; omega
          · gi_wp2
            go_ret
            exact .inr ⟨rfl, dn ++ [x], ⟨nd.f1.drop (fi + i + 1), by rw [HOr.out]; simp [List.append_assoc]⟩, by rw [← List.append_assoc]; exact hx3⟩
      · obtain rfl : i = nd.f1.length - fi := by omega
        have ht : td = [] := by
          have := HTr.out
          rw [show nd.f1.drop (fi + (nd.f1.length - fi)) = [] from List.drop_eq_nil_of_le (by omega)] at this
          cases hl : nd.f0 <;> rw [hl] at this
          · simpa [catO] using this.symm
          · simpa using this.symm
        have HT0 := Aside0.mk ht
        clear ht
        gi_wp2
        go_ret
        exact .inl ⟨rfl, by rw [HOr.out, HT0.out, List.append_nil]; exact HJr.out, HKr.out⟩
end Go.Proofs.Yteiladccdenpbaa.P
end
section
namespace Go.Proofs.Yteiladccdenpbaa.P
open Go.RowKit Go.Shelf Go.Proofs.YteiladccdenpbaaW.PrintWords Go.Proofs.YteiladccdenpbaaW.PrintLast Go.Proofs.YteiladccdenpbaaW.PrintMore
attribute [local go_sem] Oper.semAt_some
set_option linter.unusedVariables false
set_option linter.unusedSimpArgs false
def itemsF (l : List S55) (root lo : Int) : Option (List S49) := if 0 ≤ root then itemsL 30 l lo root else some []
set_option maxHeartbeats 4000000 in
set_option maxRecDepth 100000 in
theorem items1_in (w0 : World) (A : Option Addr) (c : Nat) (ls : List S55) (kp lo root : Int) (ly gh gl gr : Nat) (hC : Kd.C k55 w0 A ls.length ls) (B : Nat) (J Jx : List S49 → World → Prop)
    (hJ : AbidesFrom B J) (hJx : AbidesFrom B Jx) (out : List S49) (ho : itemsF ls root lo = some out)
    (hY : ∀ m pre x W, J pre W → pre.length < out.length → YieldAt Fence.wide m Try.prog ly #[.agg #[.int .i64 (S49.f0 x), .int .i64 (S49.f1 x)]] W fun e W' =>
      (e = .returned (.bool true) ∧ J (pre ++ [x]) W' ∧ KpT w0.heap.size W W') ∨ (e = .returned (.bool false) ∧ Jx (pre ++ [x]) W'))
    (n : Nat) (W : World) (h1 : W.heap[gh]? = some (.cells #[.slice A ls.length c, .int .i64 kp] 24 (0, 0))) (h2 : W.heap[gl]? = some (.cells #[.int .i64 lo] 3 (0, 0))) (h3 : W.heap[gr]? = some (.cells #[.int .i64 root] 3 (0, 0)))
    (h4 : Below w0.heap.size w0 W) (h0 : J [] W) :
    CallsIn Fence.wide n Try.prog 85 #[.func (.yield ly) #[] #[], .pointer (some ⟨gh, 0, none⟩), .pointer (some ⟨gl, 0, none⟩), .pointer (some ⟨gr, 0, none⟩)] W fun e W' => (∃ v, e = .returned v) ∧
      ((∃ ys, ys = out ∧ J ys W') ∨ (∃ pre, pre <+: out ∧ Jx pre W')) := by
  have hdd : ∀ k : Nat, (Fence.wide.depth.isSome = true → 1 ≤ k) := fun k h => by cases h
  have b3 : W.cell? ⟨gr, 0, none⟩ = some (.int .i64 root) := (blk_cell h3 0).trans rfl
  have b3' := World.block_lt_of_cell? W _ b3
  have H1 := Aside0.mk h1
  have H2 := Aside0.mk h2
  have H3 := Aside0.mk h3
  have H4 := Aside0.mk h4
  have H0 := Aside0.mk h0
  have HO := Aside0.mk ho
  clear h1 h2 h3 h4 h0 ho
  refine callsIn_of_wp Try.func85 rfl trivial ?_ rfl
  simp only [Try.ntmps85, List.size_toArray, List.length_cons, List.length_nil, Nat.reduceAdd, Nat.reduceSub, Array.replicate_succ, Array.replicate_zero, List.push_toArray, List.append_toArray, List.nil_append, List.cons_append]
  have HX := Aside0.mk (show Below W.heap.size W ((W.alloc (.cells #[.func (.yield ly) #[] #[]] 120)).alloc (.cells #[(.func (.func 86) #[] #[.pointer (some ⟨gh, 0, none⟩), .pointer (some ⟨gl, 0, none⟩), .pointer (some ⟨W.heap.size, 0, none⟩), .pointer (some ⟨W.heap.size + 1, 0, none⟩)])] 119)) from (((Below.refl W.heap.size W).alloc (Nat.le_refl _) _).alloc (by simp) _))
  have Q3 : Aside0 (((W.alloc (.cells #[.func (.yield ly) #[] #[]] 120)).alloc (.cells #[(.func (.func 86) #[] #[.pointer (some ⟨gh, 0, none⟩), .pointer (some ⟨gl, 0, none⟩), .pointer (some ⟨W.heap.size, 0, none⟩), .pointer (some ⟨W.heap.size + 1, 0, none⟩)])] 119)).heap[W.heap.size + 1]? = some (.cells #[(.func (.func 86) #[] #[.pointer (some ⟨gh, 0, none⟩), .pointer (some ⟨gl, 0, none⟩), .pointer (some ⟨W.heap.size, 0, none⟩), .pointer (some ⟨W.heap.size + 1, 0, none⟩)])] 119 (0, 0))) := by
    have := World.alloc_heap_new (W.alloc (.cells #[.func (.yield ly) #[] #[]] 120)) (.cells #[(.func (.func 86) #[] #[.pointer (some ⟨gh, 0, none⟩), .pointer (some ⟨gl, 0, none⟩), .pointer (some ⟨W.heap.size, 0, none⟩), .pointer (some ⟨W.heap.size + 1, 0, none⟩)])] 119)
    exact ⟨by rwa [World.size_alloc] at this⟩
  have Q6 : Aside0 (((W.alloc (.cells #[.func (.yield ly) #[] #[]] 120)).alloc (.cells #[(.func (.func 86) #[] #[.pointer (some ⟨gh, 0, none⟩), .pointer (some ⟨gl, 0, none⟩), .pointer (some ⟨W.heap.size, 0, none⟩), .pointer (some ⟨W.heap.size + 1, 0, none⟩)])] 119)).heap[W.heap.size]? = some (.cells #[.func (.yield ly) #[] #[]] 120 (0, 0))) := ⟨blk_alloc (World.alloc_heap_new W _) _⟩
  have q5 : ((W.alloc (.cells #[.func (.yield ly) #[] #[]] 120)).alloc (.cells #[(.func (.func 86) #[] #[.pointer (some ⟨gh, 0, none⟩), .pointer (some ⟨gl, 0, none⟩), .pointer (some ⟨W.heap.size, 0, none⟩), .pointer (some ⟨W.heap.size + 1, 0, none⟩)])] 119)).cell? ⟨gr, 0, none⟩ = some (.int .i64 root) := (HX.out.cell b3').trans b3
  have HB := Aside0.mk (show Bx w0 A c ls kp lo ly gh gl W.heap.size (W.heap.size + 1) ((W.alloc (.cells #[.func (.yield ly) #[] #[]] 120)).alloc (.cells #[(.func (.func 86) #[] #[.pointer (some ⟨gh, 0, none⟩), .pointer (some ⟨gl, 0, none⟩), .pointer (some ⟨W.heap.size, 0, none⟩), .pointer (some ⟨W.heap.size + 1, 0, none⟩)])] 119)) from ⟨(HX.out.block _ (Array.getElem?_eq_some_iff.1 H1.out).1).trans H1.out, (HX.out.block _ (Array.getElem?_eq_some_iff.1 H2.out).1).trans H2.out, Q6.out, Q3.out, H4.out.trans (HX.out.mono H4.out.size)⟩)
  have HJ1 := Aside0.mk (abides_below hJ H0.out HX.out)
  by_cases hr : 0 ≤ root
  · have hi : itemsL 30 ls lo root = some out := by have := HO.out; rw [itemsF, if_pos hr] at this; exact this
    have HI := Aside0.mk hi
    clear hi
    gi_wp2
    refine ⟨trivial, hdd _, ?_⟩
    refine (below_in w0 A c ls kp lo ly gh gl W.heap.size (W.heap.size + 1) hC out.length B J Jx hJ hJx hY 30 (n - 1) root [] out _ HB.out HJ1.out HI.out (by simp)).mono ?_
    rintro e W3 (⟨rfl, hJ3, hK3⟩ | ⟨rfl, q, hq, hx3⟩)
    · gi_wp2
      go_end0
      exact ⟨⟨_, rfl⟩, .inl (by simpa using hJ3)⟩
    · gi_wp2
      go_end0
      exact ⟨⟨_, rfl⟩, .inr ⟨q, hq, by simpa using hx3⟩⟩
  · have hi : out = [] := by have := HO.out; rw [itemsF, if_neg hr] at this; exact (Option.some.inj this).symm
    have HI := Aside0.mk hi
    clear hi
    gi_wp2
    go_end0
    exact ⟨⟨_, rfl⟩, .inl (by rw [HI.out]; exact HJ1.out)⟩
set_option maxHeartbeats 1000000 in
theorem items_in (F : Fence) (n : Nat) (hf : F.fn 61) (hro : F.round = none) (A : Option Addr) (c m : Nat) (kp root lo : Int) (w : World) :
    CallsIn F n Try.prog 61 #[.agg #[.slice A m c, .int .i64 kp], .int .i64 root, .int .i64 lo] w fun e w' => e = .returned (.func (.func 85) #[] #[.pointer (some ⟨w.heap.size, 0, none⟩), .pointer (some ⟨w.heap.size + 2, 0, none⟩), .pointer (some ⟨w.heap.size + 1, 0, none⟩)]) ∧ w' = ((w.alloc (.cells #[.slice A m c, .int .i64 kp] 24)).alloc (.cells #[.int .i64 root] 3)).alloc (.cells #[.int .i64 lo] 3) := by
  refine callsIn_of_wp Try.func61 rfl hf ?_ hro
  have hu24 := Try.underlying24
  simp only [Try.ntmps61, List.size_toArray, List.length_cons, List.length_nil, Nat.reduceAdd, Nat.reduceSub, Array.replicate_succ, Array.replicate_zero, List.push_toArray, List.append_toArray, List.nil_append, List.cons_append]
  gi_wp2
  go_ret
  exact ⟨rfl, rfl⟩
theorem items_stops (w0 w : World) (A : Option Addr) (c : Nat) (ls : List S55) (kp lo root : Int) (n gh gl gr : Nat) (hC : Kd.C k55 w0 A ls.length ls) (out : List S49) (ho : itemsF ls root lo = some out)
    (h1 : w.heap[gh]? = some (.cells #[.slice A ls.length c, .int .i64 kp] 24 (0, 0))) (h2 : w.heap[gl]? = some (.cells #[.int .i64 lo] 3 (0, 0))) (h3 : w.heap[gr]? = some (.cells #[.int .i64 root] 3 (0, 0)))
    (h4 : Below w0.heap.size w0 w) :
    SeqStopsK Fence.wide n Try.prog 85 #[.pointer (some ⟨gh, 0, none⟩), .pointer (some ⟨gl, 0, none⟩), .pointer (some ⟨gr, 0, none⟩)] (fun x : S49 => #[Value.agg #[.int .i64 x.f0, .int .i64 x.f1]]) (KpT w0.heap.size) (fun ys => ys = out) (fun pre => pre <+: out) out.length w := by
  intro l J Jx W hW hJ hJx hY h0
  refine items1_in w0 A c ls kp lo root l gh gl gr hC _ J Jx hJ hJx out ho ?_ n W ?_ ?_ ?_ (h4.trans (hW.mono h4.size)) h0
  · intro m pre x X hj hl
    obtain ⟨fn, tmps, assign, body, hy, hR⟩ := hY pre x X hj hl
    exact ⟨fn, tmps, assign, body, hy, hR.1, fun c cs _ => hR.2 c cs (fun d h => by cases h)⟩
  · exact (hW.block _ (Array.getElem?_eq_some_iff.1 h1).1).trans h1
  · exact (hW.block _ (Array.getElem?_eq_some_iff.1 h2).1).trans h2
  · exact (hW.block _ (Array.getElem?_eq_some_iff.1 h3).1).trans h3
end Go.Proofs.Yteiladccdenpbaa.P
end
section
namespace Go.Proofs.Yteiladccdenpbaa.P
open Go.RowKit Go.Shelf Go.Proofs.YteiladccdenpbaaW.PrintWords Go.Proofs.YteiladccdenpbaaW.PrintLast Go.Proofs.YteiladccdenpbaaW.PrintMore
attribute [local go_sem] Oper.semAt_some
set_option linter.unusedVariables false
set_option linter.unusedSimpArgs false
def cellsI (x : S49) : List Value := [.int .i64 x.f0, .int .i64 x.f1]
def cellsL (l : List S49) : List Value := l.flatMap cellsI
theorem cellsL_snoc (l : List S49) (x : S49) : cellsL (l ++ [x]) = cellsL l ++ cellsI x := by simp [cellsL]
theorem cellsL_len (l : List S49) : (cellsL l).length = l.length * 2 := by
  induction l with
  | nil => rfl
  | cons x l ih =>
    show (cellsI x ++ cellsL l).length = _
    rw [List.length_append, ih, List.length_cons]
    show 2 + _ = _
    omega
theorem cellsL_at (l : List S49) (j : Nat) (p : S49) (h : l[j]? = some p) : ((cellsL l).drop (j * 2)).take 2 = cellsI p := by
  induction l generalizing j with
  | nil => simp at h
  | cons x l ih =>
    show ((cellsI x ++ cellsL l).drop (j * 2)).take 2 = _
    cases j with
    | zero => simp at h; subst h; rfl
    | succ j =>
      rw [List.getElem?_cons_succ] at h
      rw [show (j + 1) * 2 = 2 + j * 2 by omega, ← List.drop_drop, show (cellsI x ++ cellsL l).drop 2 = cellsL l from rfl]
      exact ih j h
theorem cellsL_reps (R : S49 → List Value → Prop) (hR : ∀ x, R x (cellsI x)) (l : List S49) : Reps R 2 l (cellsL l) :=
  ⟨cellsL_len l, fun j p hp => by rw [cellsL_at l j p hp]; exact hR p⟩
theorem cell_two_new (w : World) (x y : Value) (t : TypeId) : ∀ j u, [x, y][j]? = some u → (w.alloc (.cells #[x, y] t)).cell? ((⟨w.heap.size, 0, none⟩ : Addr).add j) = some u := by
  intro j u hj
  match j, hj with
  | 0, hj =>
    simp at hj
    subst hj
    simp [Addr.add]
  | 1, hj =>
    simp at hj
    subst hj
    simp [Addr.add]
theorem kp_appended {W w1 : World} {n₀ B : Nat} {v v' : Value} {k m : Nat} {xs ys : List Value} {tmp : Obj}
    (hv : Boxed W B 43 v) (hrow : W.ownsRow n₀ 49 2 v k xs) (hn₀ : n₀ ≤ W.heap.size) (hB : n₀ ≤ B)
    (hown' : w1.ownsRow n₀ 49 2 v' m ys) (hgrow : (W.alloc tmp).grownBy w1 v.ownBlock) : KpT n₀ W (w1.setCell ⟨B, 0, none⟩ v') := by
  refine ⟨(hv.appended (by decide) hrow hn₀ hB hown' hgrow).2.2.2.2, fun i o hi ho => ?_⟩
  have hlt := (Array.getElem?_eq_some_iff.1 hi).1
  have hne : i ≠ B := fun e => by
    subst e
    rw [show W.heap[i]? = _ from hv] at hi
    cases hi
    cases ho
  have hnr : some i ≠ v.ownBlock := fun e => by
    obtain ⟨cs, hc⟩ := own_typed hrow i e.symm
    rw [hc] at hi
    cases hi
    cases ho
  rw [Below.heap_setCell _ _ _ _ hne, hgrow.block i (by simp; omega) hnr, Below.heap_alloc _ _ _ hlt]
  exact hi
theorem kp_putObj {n₀ : Nat} (W : World) (l : Nat) (o o' : Obj) (hl : n₀ ≤ l) (h : W.heap[l]? = some o) (hc : o.isCells = false) : KpT n₀ W (W.putObj l o') := by
  have hlt := (Array.getElem?_eq_some_iff.1 h).1
  refine ⟨(Below.refl n₀ W).grown (grownBy_putObj' W l o') (by omega) (fun k e => by cases e; omega), fun i p hi hp => ?_⟩
  have hne : i ≠ l := fun e => by
    subst e
    rw [h] at hi
    cases hi
    cases o <;> first | (simp [Obj.isCells] at hc; done) | (simp [keepT] at hp; done)
  exact (World.putObj_heap_other hne).trans hi
def tree_Scan.f (l0_0 : List S55) (a0_1 a1 a2 a3 : Int) : Option (List S49) :=
  (itemsF l0_0 a1 a2).bind fun out => if out.length < 1000000000 then some (out.takeWhile fun x => decide (x.f0 < a3)) else none
theorem take_all {l : List S49} {hi : Int} (h : ∀ x ∈ l, x.f0 < hi) : l.takeWhile (fun x => decide (x.f0 < hi)) = l := by
  induction l with
  | nil => rfl
  | cons x l ih => rw [List.takeWhile_cons, if_pos (decide_eq_true (h x (List.mem_cons_self ..))), ih fun y hy => h y (List.mem_cons_of_mem _ hy)]
theorem take_pre {l p : List S49} {x : S49} {hi : Int} (h : ∀ x ∈ p, x.f0 < hi) (hx : hi ≤ x.f0) (hp : p ++ [x] <+: l) : l.takeWhile (fun x => decide (x.f0 < hi)) = p := by
  obtain ⟨r, rfl⟩ := hp
  rw [List.append_assoc, List.takeWhile_append_of_pos fun y hy => decide_eq_true (h y hy)]
  simp [List.takeWhile_cons, show ¬ x.f0 < hi by omega]
set_option maxHeartbeats 8000000 in
set_option maxRecDepth 100000 in
theorem tree_Scan.calls (A0_0 : Option Addr) (c0_0 : Nat) (l0_0 : List (S55)) (a0_1 : Int) (a1 : Int) (a2 : Int) (a3 : Int) (r : List (S49)) (w : World) (hr0_0 : Kd.C k55 w A0_0 l0_0.length l0_0) (hc0_0 : l0_0.length ≤ c0_0) (h : tree_Scan.f l0_0 a0_1 a1 a2 a3 = some r) :
    Calls Try.prog 30 #[.agg #[.slice A0_0 l0_0.length c0_0, .int .i64 a0_1], .int .i64 a1, .int .i64 a2, .int .i64 a3] w fun e w' => ∃ v0_ : Value, e = .returned (v0_) ∧ Kd.R k49 49 w' w.heap.size (fun _ => True) v0_ r ∧ Below w.heap.size w w' := by
  refine (callsIn_wide (n := 3)).1 ?_
  obtain ⟨out, hout, h⟩ := Option.bind_eq_some_iff.1 h
  have hlen : out.length < 1000000000 := by
    by_cases hc : out.length < 1000000000
    · exact hc
    · rw [if_neg hc] at h; cases h
  rw [if_pos hlen] at h
  have HT := Aside0.mk (Option.some.inj h)
  have HO := Aside0.mk hout
  have HL := Aside0.mk hlen
  have HR := Aside0.mk hr0_0
  clear h hout hlen hr0_0 hc0_0
  have hu24 := Try.underlying24
  have hu49 := Try.underlying49
  obtain ⟨i0, hi, hz0, hz1, hz2⟩ := info_parts info49
  have hdd : ∀ k : Nat, (Fence.wide.depth.isSome = true → 1 ≤ k) := fun k h => by cases h
  refine callsIn_of_wp_marks Try.func30 rfl trivial ?_ rfl
  simp only [Try.ntmps30, List.size_toArray, List.length_cons, List.length_nil, Nat.reduceAdd, Nat.reduceSub, Array.replicate_succ, Array.replicate_zero, List.push_toArray, List.append_toArray, List.nil_append, List.cons_append]
  gi_wp2
  refine ⟨trivial, ?_⟩
  refine (items_in Fence.wide 2 trivial rfl A0_0 c0_0 l0_0.length a0_1 a1 a2 _).mono ?_
  rintro e w' ⟨rfl, rfl⟩
  have bh : ∀ (X : World) (o : Obj) (k : Nat) (hk : k = X.heap.size), (X.alloc o).heap[k]? = some o := fun X o k hk => by rw [hk]; exact World.alloc_heap_new X o
  obtain ⟨W6, hW6⟩ : ∃ W6, ((((((w.alloc (.cells #[.slice A0_0 l0_0.length c0_0, .int .i64 a0_1] 24)).alloc (.cells #[.int .i64 a3] 3)).alloc (.cells #[.slice none 0 0] 43)).alloc (.cells #[.slice A0_0 l0_0.length c0_0, .int .i64 a0_1] 24)).alloc (.cells #[.int .i64 a1] 3)).alloc (.cells #[.int .i64 a2] 3)) = W6 := ⟨_, rfl⟩
  have h1 : W6.heap[w.heap.size + 1]? = some (.cells #[.int .i64 a3] 3 (0, 0)) := by rw [← hW6]; exact blk_alloc (blk_alloc (blk_alloc (blk_alloc (bh _ _ _ (by simp)) _) _) _) _
  have h2 : W6.heap[w.heap.size + 2]? = some (.cells #[.slice none 0 0] 43 (0, 0)) := by rw [← hW6]; exact blk_alloc (blk_alloc (blk_alloc (bh _ _ _ (by simp)) _) _) _
  have h3 : W6.heap[w.heap.size + 3]? = some (.cells #[.slice A0_0 l0_0.length c0_0, .int .i64 a0_1] 24 (0, 0)) := by rw [← hW6]; exact blk_alloc (blk_alloc (bh _ _ _ (by simp)) _) _
  have h4 : W6.heap[w.heap.size + 4]? = some (.cells #[.int .i64 a1] 3 (0, 0)) := by rw [← hW6]; exact blk_alloc (bh _ _ _ (by simp)) _
  have h5 : W6.heap[w.heap.size + 5]? = some (.cells #[.int .i64 a2] 3 (0, 0)) := by rw [← hW6]; exact bh _ _ _ (by simp)
  have hB : Below w.heap.size w W6 := by
    rw [← hW6]
    refine Below.alloc (Below.alloc (Below.alloc (Below.alloc (Below.alloc ((Below.refl _ w).alloc (Nat.le_refl _) _) ?_ _) ?_ _) ?_ _) ?_ _) ?_ _
    all_goals (simp only [World.size_alloc]; omega)
  have hs6 : W6.heap.size = w.heap.size + 6 := by rw [← hW6]; simp
  simp only [World.size_alloc, Nat.add_assoc, Nat.reduceAdd] at hW6 ⊢
  rw [hW6]
  have hown0 : W6.ownsRow w.heap.size 49 2 (.slice none 0 0) ([] : List S49).length (cellsL []) := World.ownsRow_nil _ _ _ _
  gi_wp2
  refine wpIn_rangeFunc_ownH rfl (by omega) (gf := 85) (lb := #[.pointer (some ⟨w.heap.size + 3, 0, none⟩), .pointer (some ⟨w.heap.size + 5, 0, none⟩), .pointer (some ⟨w.heap.size + 4, 0, none⟩)]) rfl trivial (enters_of Try.func85 (by kernel_rfl) rfl)
    (items_stops w W6 A0_0 c0_0 l0_0 a0_1 a2 a1 2 (w.heap.size + 3) (w.heap.size + 5) (w.heap.size + 4) HR.out out HO.out h3 h5 h4 hB) (fun h k => KpT.t h k) (fun W l o o' hl h hc _ => kp_putObj W l o o' (by omega) h hc) (Below.refl _ _) (fun _ => rfl)
    (fun pre W => ((∃ v, Boxed W (w.heap.size + 2) 43 v ∧ W.ownsRow w.heap.size 49 2 v pre.length (cellsL pre) ∧ (∀ x ∈ pre, x.f0 < a3)) ∧ Boxed W (w.heap.size + 1) 3 (.int .i64 a3)) ∧ Below w.heap.size w W)
    (fun c pre W => c = .exit 0 ∧ ∃ pre' x, pre = pre' ++ [x] ∧ a3 ≤ S49.f0 x ∧ ((∃ v, Boxed W (w.heap.size + 2) 43 v ∧ W.ownsRow w.heap.size 49 2 v pre'.length (cellsL pre') ∧ (∀ x ∈ pre', x.f0 < a3)) ∧ Boxed W (w.heap.size + 1) 3 (.int .i64 a3)) ∧ Below w.heap.size w W)
    ?hI ?hIx ⟨⟨⟨_, h2, hown0, fun x hx => by cases hx⟩, h1⟩, hB⟩
    (fun x a' W => ∃ B, W.heap[B]? = some (.cells #[.int .i64 x.f0, .int .i64 x.f1] 49 (0, 0)) ∧ a' = { tmps := #[.agg #[.slice A0_0 l0_0.length c0_0, .int .i64 a0_1], .int .i64 a1, .int .i64 a2, .int .i64 a3, .pointer (some ⟨w.heap.size, 0, none⟩), undef, undef, .pointer (some ⟨w.heap.size + 1, 0, none⟩), .slice none 0 0, .pointer (some ⟨w.heap.size + 2, 0, none⟩), .pointer (some ⟨B, 0, none⟩), .agg #[.slice A0_0 l0_0.length c0_0, .int .i64 a0_1], .int .i64 a1, .int .i64 a2, .func (.func 85) #[] #[.pointer (some ⟨w.heap.size + 3, 0, none⟩), .pointer (some ⟨w.heap.size + 5, 0, none⟩), .pointer (some ⟨w.heap.size + 4, 0, none⟩)], .agg #[.int .i64 x.f0, .int .i64 x.f1], undef, undef, undef, undef, undef, undef, undef, undef, undef], defers := [] })
    ?hAx ?assign ?body ?done ?stop
  case hI => exact OwnFrom.and (OwnFrom.and (Own.from (holdsRow_own w.heap.size (w.heap.size + 2) 43 49 2 (fun pre : List S49 => pre.length) (fun pre => cellsL pre) (fun pre v => ∀ x ∈ pre, x.f0 < a3)) _) (Own.from (boxed_own _ _ _) _)) (ownFrom_below (Nat.le_refl _) (by omega))
  case hIx =>
    rintro c s X Y row ⟨hc, pre', x, he, hx, hi⟩ hg hr
    exact ⟨hc, pre', x, he, hx, OwnFrom.and (OwnFrom.and (Own.from (holdsRow_own w.heap.size (w.heap.size + 2) 43 49 2 (fun pre : List S49 => pre.length) (fun pre => cellsL pre) (fun pre v => ∀ x ∈ pre, x.f0 < a3)) _) (Own.from (boxed_own (w.heap.size + 1) 3 (fun _ : List S49 => Value.int .i64 a3)) _)) (ownFrom_below (n₀ := w.heap.size) (w₀ := w) (B := W6.heap.size) (Nat.le_refl _) (by omega)) pre' X Y row hi hg hr⟩
  case hAx =>
    rintro x a' s X Y row ⟨B, hB, ha⟩ hg hr
    refine ⟨B, (hg.block B (Array.getElem?_eq_some_iff.1 hB).1 (fun e => ?_)).trans hB, ha⟩
    obtain ⟨_, o, ho, hc⟩ := hr B e.symm
    rw [hB] at ho
    cases ho
    cases hc
  case assign =>
    rintro l pre x W K ⟨⟨⟨v, hv, hrow, hlt⟩, hhi⟩, hbW⟩ hK
    have hbx : Below W.heap.size W (W.alloc (.cells #[.int .i64 x.f0, .int .i64 x.f1] 49)) := (Below.refl W.heap.size W).alloc (Nat.le_refl _) _
    have hKK := hK _ _ ((KeepsOthers.alloc W (.cells #[.int .i64 x.f0, .int .i64 x.f1] 49)).from _) (KpT.below hbx hbW.size) ⟨⟨⟨v, hv.alloc _, hrow.alloc _, hlt⟩, hhi.alloc _⟩, hbW.trans (hbx.mono hbW.size)⟩ ⟨W.heap.size, World.alloc_heap_new W _, rfl⟩
    have HKK := Aside0.mk hKK
    clear hKK hK hv hrow hhi
    gi_wp2
    exact HKK.out
  case body =>
    rintro l pre x a' W hl hrec ⟨⟨⟨v, hv, hrow, hlt⟩, hhi⟩, hbW⟩ ⟨Bk, hBk, rfl⟩ hlen
    have hc := hv.cell
    have hc2 := hhi.cell
    have x0 : W.cell? ⟨Bk, 0, none⟩ = some (.int .i64 x.f0) := (blk_cell hBk 0).trans rfl
    have x1 : W.cell? ⟨Bk, 1, none⟩ = some (.int .i64 x.f1) := (blk_cell hBk 1).trans rfl
    have HV := Aside0.mk hv
    have HROW := Aside0.mk hrow
    have HHI := Aside0.mk hhi
    have HLT := Aside0.mk hlt
    have HLEN := Aside0.mk hlen
    clear hv hrow hhi hlt hlen hBk hrec
    by_cases hx : a3 ≤ x.f0
    · gi_wp2
      exact ⟨KeepsFrom.refl _ _, rfl, pre, x, rfl, hx, ⟨⟨v, HV.out, HROW.out, HLT.out⟩, HHI.out⟩, hbW⟩
    · gi_wp2_with (gi_at_builtin; refine wpListIn_append_own _ rfl _ _ 43 rfl w.heap.size 49 i0 (.agg #[.int .i64 0, .int .i64 0]) 2 16 Try.underlying43 hi hz0 hz1 hz2 rfl (by decide) _ _ _ rfl (HROW.out.alloc _) ⟨W.heap.size, 0, none⟩ 1 1 [.int .i64 x.f0, .int .i64 x.f1] rfl rfl (cell_two_new _ _ _ _) (by simp [Value.oneCell']) (by have := HLEN.out; have := HL.out; simp only [maxLen]; omega) (by have := HLEN.out; have := HL.out; omega) (by have := hbW.size; simp; omega) ?_; intro v' w1 hown' hgrow _; obtain ⟨g', cap', rfl⟩ := ownsRow_succ hown'; obtain ⟨hv1, hv2, hr2, hk2, hb2⟩ := HV.out.appended (by decide) HROW.out hbW.size (by omega) hown' hgrow; have hkp := Aside0.mk (kp_appended HV.out HROW.out hbW.size (by omega) hown' hgrow); have hc1 := hv1.cell; have hf1 := hv1.frozen; have HV2 := Aside0.mk hv2; have HR2 := Aside0.mk hr2; have HK2 := Aside0.mk hk2; clear hv1 hv2 hr2 hk2 hown' hgrow)
      exact ⟨HK2.out.from _, hkp.out, ⟨⟨⟨_, HV2.out, by rw [List.length_append, cellsL_snoc]; exact HR2.out, fun y hy => by
        rcases List.mem_append.1 hy with h | h
        · exact HLT.out y h
        · rw [List.mem_singleton.1 h]; omega⟩, hkp.out.2 _ _ HHI.out rfl⟩, hbW.trans hb2⟩⟩
  case done =>
    rintro D ys W hD rfl ⟨⟨⟨v, hv, hrow, hlt⟩, hhi⟩, hbW⟩ hK
    have hc := hv.cell
    have HROW := Aside0.mk hrow
    have HK := Aside0.mk hK
    have er : ys = r := by have := HT.out; rwa [take_all hlt] at this
    have ER := Aside0.mk er
    clear hv hrow hhi hlt hK er
    gi_wp2
    refine ⟨by simp, .inl ⟨_, _, rfl, run_takeDeferred HK.out, ?_⟩⟩
    refine ⟨_, results_tmp rfl _ _ _, v, rfl, ?_, hbW.trans (belowK_b (w := w) (Nat.le_refl _) W D _ _ (by omega) HK.out rfl rfl)⟩
    rw [← ER.out]
    exact ⟨fun k _ => trivial, cellsL ys, ownsRow_putObj HROW.out _ HK.out rfl, cellsL_reps _ (fun x => k49_mkM _ _ _ x) ys⟩
  case stop =>
    rintro D c pre W hD hp ⟨rfl, ys, x, rfl, hx, ⟨⟨v, hv, hrow, hlt⟩, hhi⟩, hbW⟩ hK
    have hc := hv.cell
    have HROW := Aside0.mk hrow
    have HK := Aside0.mk hK
    have er : ys = r := by have := HT.out; rwa [take_pre hlt hx hp] at this
    have ER := Aside0.mk er
    clear hv hrow hhi hlt hK er hp
    gi_wp2
    refine ⟨by simp, .inl ⟨_, _, rfl, run_takeDeferred HK.out, ?_⟩⟩
    refine ⟨_, results_tmp rfl _ _ _, v, rfl, ?_, hbW.trans (belowK_b (w := w) (Nat.le_refl _) W D _ _ (by omega) HK.out rfl rfl)⟩
    rw [← ER.out]
    exact ⟨fun k _ => trivial, cellsL ys, ownsRow_putObj HROW.out _ HK.out rfl, cellsL_reps _ (fun x => k49_mkM _ _ _ x) ys⟩
end Go.Proofs.Yteiladccdenpbaa.P
end
section
namespace Go.Proofs.Yteiladccdenpbaa.P
open Go.RowKit Go.Proofs.YteiladccdenpbaaW.PrintWords Go.Proofs.YteiladccdenpbaaW.PrintLast Go.Proofs.YteiladccdenpbaaW.PrintMore
attribute [local go_sem] max2_int min2_int max_two min_two max_three min_three max_four min_four
set_option linter.unusedVariables false
set_option linter.unusedSimpArgs false
def assartlaw07_shown.g (k : Nat)  : Option (Bool) := (assartlaw07_example.f).bind fun bt166 => ((tree_Get.f k bt166.1 bt166.2 2 5).bind fun bt171 => ((tree_Get.f k bt166.1 bt166.2 2 3).bind fun bt173 => ((tree_Scan.f bt166.1 bt166.2 2 2 6).bind fun t175 => (if bt171.2 = 0 then (if bt171.1 = 9 then (if bt173.2 = 4 then (if (t175.length : Int) = 2 then (if 0 < (t175.length : Int) then (if ((rd_T49 t175 0).f0) = 2 then (if 1 < (t175.length : Int) then (if ((rd_T49 t175 1).f0) = 5 then ((tree_High.f k bt166.1 bt166.2 2).bind fun t180 => (if t180 = 2 then ((tree_Need.f 2).bind fun t181 => (if t181 = 5 then ((tree_Nodes.f k bt166.1 bt166.2 2).bind fun t182 => ((assartref07_Ints.f k t182 (([2, 0, 1] : List Int))).bind fun t188 => (if t188 = true then ((tree_Right.f k bt166.1 bt166.2 2).bind fun t189 => (if t189 = true then ((tree_Right.f k bt166.1 bt166.2 (-1)).bind fun t190 => (if t190 = true then ((tree_Right.f k bt166.1 bt166.2 3).bind fun t191 => (some (!t191))) else (some false))) else (some false))) else (some false)))) else (some false))) else (some false))) else (some false)) else (none)) else (some false)) else (none)) else (some false)) else (some false)) else (some false)) else (some false)))))
set_option maxHeartbeats 8000000 in
set_option maxRecDepth 100000 in
theorem assartlaw07_shown.walk (k : Nat)  (r : Bool) (w : World) (h : assartlaw07_shown.g k  = some r) (hr : r = true) :
    Calls Try.prog 15 #[] w fun e w' => e = .returned (.bool r) ∧ Below w.heap.size w w' := by
  have hu24 := Try.underlying24
  have HB := Aside0.mk (Below.refl w.heap.size w)
  have H : ((assartlaw07_example.f).bind fun bt166 => ((tree_Get.f k bt166.1 bt166.2 2 5).bind fun bt171 => ((tree_Get.f k bt166.1 bt166.2 2 3).bind fun bt173 => ((tree_Scan.f bt166.1 bt166.2 2 2 6).bind fun t175 => (if bt171.2 = 0 then (if bt171.1 = 9 then (if bt173.2 = 4 then (if (t175.length : Int) = 2 then (if 0 < (t175.length : Int) then (if ((rd_T49 t175 0).f0) = 2 then (if 1 < (t175.length : Int) then (if ((rd_T49 t175 1).f0) = 5 then ((tree_High.f k bt166.1 bt166.2 2).bind fun t180 => (if t180 = 2 then ((tree_Need.f 2).bind fun t181 => (if t181 = 5 then ((tree_Nodes.f k bt166.1 bt166.2 2).bind fun t182 => ((assartref07_Ints.f k t182 (([2, 0, 1] : List Int))).bind fun t188 => (if t188 = true then ((tree_Right.f k bt166.1 bt166.2 2).bind fun t189 => (if t189 = true then ((tree_Right.f k bt166.1 bt166.2 (-1)).bind fun t190 => (if t190 = true then ((tree_Right.f k bt166.1 bt166.2 3).bind fun t191 => (some (!t191))) else (some false))) else (some false))) else (some false)))) else (some false))) else (some false))) else (some false)) else (none)) else (some false)) else (none)) else (some false)) else (some false)) else (some false)) else (some false)))))) = some r := h
  clear h
  replace H := Option.bind_eq_some_iff.mp H
  obtain ⟨⟨t166, t169⟩, A10, H⟩ := H
  replace H : ((tree_Get.f k t166 t169 2 5).bind fun bt171 => ((tree_Get.f k t166 t169 2 3).bind fun bt173 => ((tree_Scan.f t166 t169 2 2 6).bind fun t175 => (if bt171.2 = 0 then (if bt171.1 = 9 then (if bt173.2 = 4 then (if (t175.length : Int) = 2 then (if 0 < (t175.length : Int) then (if ((rd_T49 t175 0).f0) = 2 then (if 1 < (t175.length : Int) then (if ((rd_T49 t175 1).f0) = 5 then ((tree_High.f k t166 t169 2).bind fun t180 => (if t180 = 2 then ((tree_Need.f 2).bind fun t181 => (if t181 = 5 then ((tree_Nodes.f k t166 t169 2).bind fun t182 => ((assartref07_Ints.f k t182 (([2, 0, 1] : List Int))).bind fun t188 => (if t188 = true then ((tree_Right.f k t166 t169 2).bind fun t189 => (if t189 = true then ((tree_Right.f k t166 t169 (-1)).bind fun t190 => (if t190 = true then ((tree_Right.f k t166 t169 3).bind fun t191 => (some (!t191))) else (some false))) else (some false))) else (some false)))) else (some false))) else (some false))) else (some false)) else (none)) else (some false)) else (none)) else (some false)) else (some false)) else (some false)) else (some false))))) = some r := H
  have A1 := Aside0.mk A10
  clear A10
  replace H := Option.bind_eq_some_iff.mp H
  obtain ⟨⟨t171, t172⟩, A20, H⟩ := H
  replace H : ((tree_Get.f k t166 t169 2 3).bind fun bt173 => ((tree_Scan.f t166 t169 2 2 6).bind fun t175 => (if t172 = 0 then (if t171 = 9 then (if bt173.2 = 4 then (if (t175.length : Int) = 2 then (if 0 < (t175.length : Int) then (if ((rd_T49 t175 0).f0) = 2 then (if 1 < (t175.length : Int) then (if ((rd_T49 t175 1).f0) = 5 then ((tree_High.f k t166 t169 2).bind fun t180 => (if t180 = 2 then ((tree_Need.f 2).bind fun t181 => (if t181 = 5 then ((tree_Nodes.f k t166 t169 2).bind fun t182 => ((assartref07_Ints.f k t182 (([2, 0, 1] : List Int))).bind fun t188 => (if t188 = true then ((tree_Right.f k t166 t169 2).bind fun t189 => (if t189 = true then ((tree_Right.f k t166 t169 (-1)).bind fun t190 => (if t190 = true then ((tree_Right.f k t166 t169 3).bind fun t191 => (some (!t191))) else (some false))) else (some false))) else (some false)))) else (some false))) else (some false))) else (some false)) else (none)) else (some false)) else (none)) else (some false)) else (some false)) else (some false)) else (some false)))) = some r := H
  have A2 := Aside0.mk A20
  clear A20
  replace H := Option.bind_eq_some_iff.mp H
  obtain ⟨⟨t173, t174⟩, A30, H⟩ := H
  replace H : ((tree_Scan.f t166 t169 2 2 6).bind fun t175 => (if t172 = 0 then (if t171 = 9 then (if t174 = 4 then (if (t175.length : Int) = 2 then (if 0 < (t175.length : Int) then (if ((rd_T49 t175 0).f0) = 2 then (if 1 < (t175.length : Int) then (if ((rd_T49 t175 1).f0) = 5 then ((tree_High.f k t166 t169 2).bind fun t180 => (if t180 = 2 then ((tree_Need.f 2).bind fun t181 => (if t181 = 5 then ((tree_Nodes.f k t166 t169 2).bind fun t182 => ((assartref07_Ints.f k t182 (([2, 0, 1] : List Int))).bind fun t188 => (if t188 = true then ((tree_Right.f k t166 t169 2).bind fun t189 => (if t189 = true then ((tree_Right.f k t166 t169 (-1)).bind fun t190 => (if t190 = true then ((tree_Right.f k t166 t169 3).bind fun t191 => (some (!t191))) else (some false))) else (some false))) else (some false)))) else (some false))) else (some false))) else (some false)) else (none)) else (some false)) else (none)) else (some false)) else (some false)) else (some false)) else (some false))) = some r := H
  have A3 := Aside0.mk A30
  clear A30
  replace H := Option.bind_eq_some_iff.mp H
  obtain ⟨t175, A40, H⟩ := H
  replace H : (if t172 = 0 then (if t171 = 9 then (if t174 = 4 then (if (t175.length : Int) = 2 then (if 0 < (t175.length : Int) then (if ((rd_T49 t175 0).f0) = 2 then (if 1 < (t175.length : Int) then (if ((rd_T49 t175 1).f0) = 5 then ((tree_High.f k t166 t169 2).bind fun t180 => (if t180 = 2 then ((tree_Need.f 2).bind fun t181 => (if t181 = 5 then ((tree_Nodes.f k t166 t169 2).bind fun t182 => ((assartref07_Ints.f k t182 (([2, 0, 1] : List Int))).bind fun t188 => (if t188 = true then ((tree_Right.f k t166 t169 2).bind fun t189 => (if t189 = true then ((tree_Right.f k t166 t169 (-1)).bind fun t190 => (if t190 = true then ((tree_Right.f k t166 t169 3).bind fun t191 => (some (!t191))) else (some false))) else (some false))) else (some false)))) else (some false))) else (some false))) else (some false)) else (none)) else (some false)) else (none)) else (some false)) else (some false)) else (some false)) else (some false)) = some r := H
  have A4 := Aside0.mk A40
  clear A40
  by_cases c5 : t172 = 0
  · rw [if_pos c5] at H
    have c5b0 : (t172 == 0) = true := beq_iff_eq.mpr c5
    have c5b1 : (t172 != 0) = false := bne_eq_false_iff_eq.mpr c5
    clear c5
    by_cases c6 : t171 = 9
    · rw [if_pos c6] at H
      have c6b0 : (t171 == 9) = true := beq_iff_eq.mpr c6
      have c6b1 : (t171 != 9) = false := bne_eq_false_iff_eq.mpr c6
      clear c6
      by_cases c7 : t174 = 4
      · rw [if_pos c7] at H
        have c7b0 : (t174 == 4) = true := beq_iff_eq.mpr c7
        have c7b1 : (t174 != 4) = false := bne_eq_false_iff_eq.mpr c7
        clear c7
        by_cases c8 : (t175.length : Int) = 2
        · rw [if_pos c8] at H
          have c8b0 : ((t175.length : Int) == 2) = true := beq_iff_eq.mpr c8
          have c8b1 : ((t175.length : Int) != 2) = false := bne_eq_false_iff_eq.mpr c8
          clear c8
          by_cases c9 : 0 < (t175.length : Int)
          · rw [if_pos c9] at H
            have c9b0 : decide (0 < (t175.length : Int)) = true := decide_eq_true c9
            have c9b1 : decide (0 < t175.length) = true := decide_eq_true (by omega)
            clear c9
            by_cases c10 : ((rd_T49 t175 0).f0) = 2
            · rw [if_pos c10] at H
              have c10b0 : (((rd_T49 t175 0).f0) == 2) = true := beq_iff_eq.mpr c10
              have c10b1 : (((rd_T49 t175 0).f0) != 2) = false := bne_eq_false_iff_eq.mpr c10
              clear c10
              by_cases c11 : 1 < (t175.length : Int)
              · rw [if_pos c11] at H
                have c11b0 : decide (1 < (t175.length : Int)) = true := decide_eq_true c11
                have c11b1 : decide (1 < t175.length) = true := decide_eq_true (by omega)
                clear c11
                by_cases c12 : ((rd_T49 t175 1).f0) = 5
                · rw [if_pos c12] at H
                  have c12b0 : (((rd_T49 t175 1).f0) == 5) = true := beq_iff_eq.mpr c12
                  have c12b1 : (((rd_T49 t175 1).f0) != 5) = false := bne_eq_false_iff_eq.mpr c12
                  clear c12
                  replace H := Option.bind_eq_some_iff.mp H
                  obtain ⟨t180, A130, H⟩ := H
                  replace H : (if t180 = 2 then ((tree_Need.f 2).bind fun t181 => (if t181 = 5 then ((tree_Nodes.f k t166 t169 2).bind fun t182 => ((assartref07_Ints.f k t182 (([2, 0, 1] : List Int))).bind fun t188 => (if t188 = true then ((tree_Right.f k t166 t169 2).bind fun t189 => (if t189 = true then ((tree_Right.f k t166 t169 (-1)).bind fun t190 => (if t190 = true then ((tree_Right.f k t166 t169 3).bind fun t191 => (some (!t191))) else (some false))) else (some false))) else (some false)))) else (some false))) else (some false)) = some r := H
                  have A13 := Aside0.mk A130
                  clear A130
                  by_cases c14 : t180 = 2
                  · rw [if_pos c14] at H
                    have c14b0 : (t180 == 2) = true := beq_iff_eq.mpr c14
                    have c14b1 : (t180 != 2) = false := bne_eq_false_iff_eq.mpr c14
                    clear c14
                    replace H := Option.bind_eq_some_iff.mp H
                    obtain ⟨t181, A150, H⟩ := H
                    replace H : (if t181 = 5 then ((tree_Nodes.f k t166 t169 2).bind fun t182 => ((assartref07_Ints.f k t182 (([2, 0, 1] : List Int))).bind fun t188 => (if t188 = true then ((tree_Right.f k t166 t169 2).bind fun t189 => (if t189 = true then ((tree_Right.f k t166 t169 (-1)).bind fun t190 => (if t190 = true then ((tree_Right.f k t166 t169 3).bind fun t191 => (some (!t191))) else (some false))) else (some false))) else (some false)))) else (some false)) = some r := H
                    have A15 := Aside0.mk A150
                    clear A150
                    by_cases c16 : t181 = 5
                    · rw [if_pos c16] at H
                      have c16b0 : (t181 == 5) = true := beq_iff_eq.mpr c16
                      have c16b1 : (t181 != 5) = false := bne_eq_false_iff_eq.mpr c16
                      clear c16
                      replace H := Option.bind_eq_some_iff.mp H
                      obtain ⟨t182, A170, H⟩ := H
                      replace H : ((assartref07_Ints.f k t182 (([2, 0, 1] : List Int))).bind fun t188 => (if t188 = true then ((tree_Right.f k t166 t169 2).bind fun t189 => (if t189 = true then ((tree_Right.f k t166 t169 (-1)).bind fun t190 => (if t190 = true then ((tree_Right.f k t166 t169 3).bind fun t191 => (some (!t191))) else (some false))) else (some false))) else (some false))) = some r := H
                      have A17 := Aside0.mk A170
                      clear A170
                      obtain ⟨y185, hy185⟩ : ∃ y_ : List Int, y_ = (([2, 0, 1] : List Int)) := ⟨_, rfl⟩
                      replace H : ((assartref07_Ints.f k t182 y185).bind fun t188 => (if t188 = true then ((tree_Right.f k t166 t169 2).bind fun t189 => (if t189 = true then ((tree_Right.f k t166 t169 (-1)).bind fun t190 => (if t190 = true then ((tree_Right.f k t166 t169 3).bind fun t191 => (some (!t191))) else (some false))) else (some false))) else (some false))) = some r := by first | (rw [hy185]; with_reducible exact H) | (have H2_ := (Option.bind_some _ _).symm.trans H; rw [hy185]; with_reducible exact H2_) | (have H2_ := (Option.bind_some _ _).symm.trans H; with_reducible exact H2_) | with_reducible exact H | (rw [hy185]; exact H) | exact H
                      have Ny185 := Aside0.mk hy185
                      clear hy185
                      replace H := Option.bind_eq_some_iff.mp H
                      obtain ⟨t188, A180, H⟩ := H
                      replace H : (if t188 = true then ((tree_Right.f k t166 t169 2).bind fun t189 => (if t189 = true then ((tree_Right.f k t166 t169 (-1)).bind fun t190 => (if t190 = true then ((tree_Right.f k t166 t169 3).bind fun t191 => (some (!t191))) else (some false))) else (some false))) else (some false)) = some r := H
                      have A18 := Aside0.mk A180
                      clear A180
                      by_cases c19 : t188 = true
                      · subst c19
                        have H1 : ((tree_Right.f k t166 t169 2).bind fun t189 => (if t189 = true then ((tree_Right.f k t166 t169 (-1)).bind fun t190 => (if t190 = true then ((tree_Right.f k t166 t169 3).bind fun t191 => (some (!t191))) else (some false))) else (some false))) = some r := by rw [if_pos rfl] at H; exact H
                        clear H
                        have H := H1
                        clear H1
                        replace H := Option.bind_eq_some_iff.mp H
                        obtain ⟨t189, A200, H⟩ := H
                        replace H : (if t189 = true then ((tree_Right.f k t166 t169 (-1)).bind fun t190 => (if t190 = true then ((tree_Right.f k t166 t169 3).bind fun t191 => (some (!t191))) else (some false))) else (some false)) = some r := H
                        have A20 := Aside0.mk A200
                        clear A200
                        by_cases c21 : t189 = true
                        · subst c21
                          have H1 : ((tree_Right.f k t166 t169 (-1)).bind fun t190 => (if t190 = true then ((tree_Right.f k t166 t169 3).bind fun t191 => (some (!t191))) else (some false))) = some r := by rw [if_pos rfl] at H; exact H
                          clear H
                          have H := H1
                          clear H1
                          replace H := Option.bind_eq_some_iff.mp H
                          obtain ⟨t190, A220, H⟩ := H
                          replace H : (if t190 = true then ((tree_Right.f k t166 t169 3).bind fun t191 => (some (!t191))) else (some false)) = some r := H
                          have A22 := Aside0.mk A220
                          clear A220
                          by_cases c23 : t190 = true
                          · subst c23
                            have H1 : ((tree_Right.f k t166 t169 3).bind fun t191 => (some (!t191))) = some r := by rw [if_pos rfl] at H; exact H
                            clear H
                            have H := H1
                            clear H1
                            replace H := Option.bind_eq_some_iff.mp H
                            obtain ⟨t191, A240, H⟩ := H
                            replace H : (some (!t191)) = some r := H
                            have A24 := Aside0.mk A240
                            clear A240
                            obtain rfl := Option.some.inj H
                            go_enter Try.func15, Try.ntmps15
                            go_wp2_with (first | ((with_reducible refine gate_callee (f := 56) rfl ?_); refine goesL_ (some 7) rfl rfl Try.func56 (by kernel_rfl) rfl #[] rfl (by (try simp only [List.map_toArray, List.map_cons, List.map_nil]); first | done | rfl | (simp only [List.length_drop, List.length_take]; rfl)) ?_; (with_reducible refine (assartlaw07_example.calls  t166 t169 _ A1.out).mono ?_); rintro e w25 ⟨v167, rfl, ho0, hb⟩; refine ⟨_, rfl, ?_⟩; have n0_ := Aside0.mk (Kd.N_lower (Kd.N_mono (ok' := fun k_ => True) ho0 (fun k_ hk_ => trivial)) (below_size (by repeat (first | (with_reducible first | exact HB.out | apply below_alloc | apply pw_below_drewN | apply below_drew1) | exact HB.out)))); have n1_ := Aside0.mk (below_step (by repeat (first | (with_reducible first | exact HB.out | apply below_alloc | apply pw_below_drewN | apply below_drew1) | exact HB.out)) hb); clear HB; have HO168 := n0_; have HB := n1_; clear n0_ n1_; (try clear hb); (try clear hb2); (try clear hk); (try clear hi); (try clear ho0)) | ((with_reducible refine gate_dst (N := 1) rfl ?_); (try (refine gate_guard (by rfl) ?_; dsimp only)); refine box_event ?hg (N := 1) ?hd (cs := #[.slice none 0 0, .int .i64 0]) (t := 24) ?hr ?_; (case hd => rfl); (case hg => rfl); (case hr => first | (go_simp; done) | (go_simp; rfl)); intro gb170 hg w26 hbox hb; have n0_ := Aside0.mk (Kd.N_below (Kd.N_elderB (by (with_reducible repeat (first | apply Kd.N_alloc | apply Kd.N_drewN | apply Kd.N_drew)); exact HO168.out) gb170 (Nat.le_of_eq hg.symm)) hb); have n1_ := Aside0.mk (below_step (by repeat (first | (with_reducible first | exact HB.out | apply below_alloc | apply pw_below_drewN | apply below_drew1) | exact HB.out)) hb); have n2_ := Aside0.mk (hbox); have n3_ := Aside0.mk ((by rw [hg]; exact (below_size (by repeat (first | (with_reducible first | exact HB.out | apply below_alloc | apply pw_below_drewN | apply below_drew1) | exact HB.out))) : w.heap.size ≤ gb170)); have n4_ := Aside0.mk ((by rw [hg]; exact (below_size (by repeat (first | (with_reducible first | exact HB.out | apply below_alloc | apply pw_below_drewN | apply below_drew1) | exact HB.out))) : w.heap.size ≤ gb170)); clear HO168; clear HB; have HO168 := n0_; have HB := n1_; have BK170 := n2_; have GW170 := n3_; have GE170 := n4_; clear n0_ n1_ n2_ n3_ n4_; clear hb hbox hg; obtain ⟨Ao27, co27, eo27⟩ := Kd.N_slice HO168.out; subst eo27; have hcz28_0 : w26.cell? ⟨gb170, 0, none⟩ = some (.slice none 0 0) := (blk_cell BK170.out 0).trans rfl; have hcz28_1 : w26.cell? ⟨gb170, 1, none⟩ = some (.int .i64 0) := (blk_cell BK170.out 1).trans rfl; have hfz28_0 := blk_frozen BK170.out 0; have hfz28_1 := blk_frozen BK170.out 1) | ((with_reducible refine gate_callee (f := 27) rfl ?_); refine goesL_ (some 10) rfl rfl Try.func27 (by kernel_rfl) rfl #[.agg #[.slice Ao27 t166.length co27, .int .i64 t169], .int .i64 2, .int .i64 5] rfl (by (try simp only [List.map_toArray, List.map_cons, List.map_nil]); first | done | rfl | (simp only [List.length_drop, List.length_take]; rfl)) ?_; (with_reducible refine (tree_Get.calls k _ _ t166 t169 2 5 t171 t172 _ ?side1 ?side2 A2.out).mono ?_); (case side1 => refine (Kd.N_reads' (e := 55) (base := w.heap.size) (ok := fun k_ => (True ∧ k_ ≠ gb170)) (n := t166.length) (c := co27) ?_).2.2; exact (by (with_reducible repeat (first | apply Kd.N_alloc | apply Kd.N_drewN | apply Kd.N_drew)); exact (Kd.N_mono (Kd.N_far (p := ⟨gb170, 1, none⟩) (Kd.N_far (p := ⟨gb170, 0, none⟩) (Kd.N_mono HO168.out (fun k_ hk => (⟨hk, hk.2⟩ : _ ∧ k_ ≠ gb170))) (fun _ hk => hk.2) (.slice Ao27 t166.length co27)) (fun _ hk => hk.2) (.int .i64 t169)) (fun _ h_ => h_.1)))); (case side2 => exact (Kd.N_reads' HO168.out).2.1); rintro e w29 ⟨rfl, hb⟩; refine ⟨_, rfl, ?_⟩; have n0_ := Aside0.mk (Kd.N_below (by (with_reducible repeat (first | apply Kd.N_alloc | apply Kd.N_drewN | apply Kd.N_drew)); exact (Kd.N_mono (Kd.N_far (p := ⟨gb170, 1, none⟩) (Kd.N_far (p := ⟨gb170, 0, none⟩) (Kd.N_mono HO168.out (fun k_ hk => (⟨hk, hk.2⟩ : _ ∧ k_ ≠ gb170))) (fun _ hk => hk.2) (.slice Ao27 t166.length co27)) (fun _ hk => hk.2) (.int .i64 t169)) (fun _ h_ => h_.1))) hb); have n1_ := Aside0.mk (blk_below (g := gb170) (o := .cells #[.slice Ao27 t166.length co27, .int .i64 t169] 24 (0, 0)) (by (with_reducible repeat (first | refine blk_drewN ?_ _ | refine blk_drew ?_ | refine blk_alloc ?_ _)); refine blk_put (cs := #[.slice Ao27 t166.length co27, .int .i64 0]) ?_ 1 _ rfl; (with_reducible repeat (first | refine blk_drewN ?_ _ | refine blk_drew ?_ | refine blk_alloc ?_ _)); refine blk_put (cs := #[.slice none 0 0, .int .i64 0]) ?_ 0 _ rfl; (with_reducible repeat (first | refine blk_drewN ?_ _ | refine blk_drew ?_ | refine blk_alloc ?_ _)); exact BK170.out) hb); have n2_ := Aside0.mk (below_step (by repeat (first | (with_reducible first | exact HB.out | apply below_alloc | apply pw_below_drewN | apply below_drew1 | refine below_set ?_ GE170.out) | exact HB.out)) hb); clear HO168; clear BK170; clear HB; have HO168 := n0_; have BK170 := n1_; have HB := n2_; clear n0_ n1_ n2_; (try clear hb); (try clear hb2); (try clear hk); (try clear hi); have hcz30_0 : w29.cell? ⟨gb170, 0, none⟩ = some (.slice Ao27 t166.length co27) := (blk_cell BK170.out 0).trans rfl; have hcz30_1 : w29.cell? ⟨gb170, 1, none⟩ = some (.int .i64 t169) := (blk_cell BK170.out 1).trans rfl; have hfz30_0 := blk_frozen BK170.out 0; have hfz30_1 := blk_frozen BK170.out 1) | ((with_reducible refine gate_callee (f := 27) rfl ?_); refine goesL_ (some 15) rfl rfl Try.func27 (by kernel_rfl) rfl #[.agg #[.slice Ao27 t166.length co27, .int .i64 t169], .int .i64 2, .int .i64 3] rfl (by (try simp only [List.map_toArray, List.map_cons, List.map_nil]); first | done | rfl | (simp only [List.length_drop, List.length_take]; rfl)) ?_; (with_reducible refine (tree_Get.calls k _ _ t166 t169 2 3 t173 t174 _ ?side1 ?side2 A3.out).mono ?_); (case side1 => repeat (first | exact (Kd.N_reads' HO168.out).2.2 | (with_reducible refine Kd.C_alloc ?_ _) | (with_reducible refine Kd.C_drewN ?_ _) | (with_reducible refine Kd.C_drew ?_))); (case side2 => exact (Kd.N_reads' HO168.out).2.1); rintro e w31 ⟨rfl, hb⟩; refine ⟨_, rfl, ?_⟩; have n0_ := Aside0.mk (Kd.N_below (by (with_reducible repeat (first | apply Kd.N_alloc | apply Kd.N_drewN | apply Kd.N_drew)); exact HO168.out) hb); have n1_ := Aside0.mk (blk_below (g := gb170) (o := .cells #[.slice Ao27 t166.length co27, .int .i64 t169] 24 (0, 0)) (by (with_reducible repeat (first | refine blk_drewN ?_ _ | refine blk_drew ?_ | refine blk_alloc ?_ _)); exact BK170.out) hb); have n2_ := Aside0.mk (below_step (by repeat (first | (with_reducible first | exact HB.out | apply below_alloc | apply pw_below_drewN | apply below_drew1 | refine below_set ?_ GE170.out) | exact HB.out)) hb); clear HO168; clear BK170; clear HB; have HO168 := n0_; have BK170 := n1_; have HB := n2_; clear n0_ n1_ n2_; (try clear hb); (try clear hb2); (try clear hk); (try clear hi); have hcz32_0 : w31.cell? ⟨gb170, 0, none⟩ = some (.slice Ao27 t166.length co27) := (blk_cell BK170.out 0).trans rfl; have hcz32_1 : w31.cell? ⟨gb170, 1, none⟩ = some (.int .i64 t169) := (blk_cell BK170.out 1).trans rfl; have hfz32_0 := blk_frozen BK170.out 0; have hfz32_1 := blk_frozen BK170.out 1) | ((with_reducible refine gate_callee (f := 30) rfl ?_); refine goesL_ (some 19) rfl rfl Try.func30 (by kernel_rfl) rfl #[.agg #[.slice Ao27 t166.length co27, .int .i64 t169], .int .i64 2, .int .i64 2, .int .i64 6] rfl (by (try simp only [List.map_toArray, List.map_cons, List.map_nil]); first | done | rfl | (simp only [List.length_drop, List.length_take]; rfl)) ?_; (with_reducible refine (tree_Scan.calls _ _ t166 t169 2 2 6 t175 _ ?side1 ?side2 A4.out).mono ?_); (case side1 => repeat (first | exact (Kd.N_reads' HO168.out).2.2 | (with_reducible refine Kd.C_alloc ?_ _) | (with_reducible refine Kd.C_drewN ?_ _) | (with_reducible refine Kd.C_drew ?_))); (case side2 => exact (Kd.N_reads' HO168.out).2.1); rintro e w33 ⟨v176, rfl, ho0, hb⟩; refine ⟨_, rfl, ?_⟩; have n0_ := Aside0.mk (Kd.N_elder' (by (with_reducible repeat (first | apply Kd.N_alloc | apply Kd.N_drewN | apply Kd.N_drew)); exact HO168.out) (Kd.R_base ho0) hb); have n1_ := Aside0.mk (Kd.R_lower ho0 (below_size (by repeat (first | (with_reducible first | exact HB.out | apply below_alloc | apply pw_below_drewN | apply below_drew1 | refine below_set ?_ GE170.out) | exact HB.out)))); have n2_ := Aside0.mk (blk_below (g := gb170) (o := .cells #[.slice Ao27 t166.length co27, .int .i64 t169] 24 (0, 0)) (by (with_reducible repeat (first | refine blk_drewN ?_ _ | refine blk_drew ?_ | refine blk_alloc ?_ _)); exact BK170.out) hb); have n3_ := Aside0.mk (below_step (by repeat (first | (with_reducible first | exact HB.out | apply below_alloc | apply pw_below_drewN | apply below_drew1 | refine below_set ?_ GE170.out) | exact HB.out)) hb); clear HO168; clear BK170; clear HB; have HO168 := n0_; have HO177 := n1_; have BK170 := n2_; have HB := n3_; clear n0_ n1_ n2_ n3_; (try clear hb); (try clear hb2); (try clear hk); (try clear hi); (try clear ho0); obtain ⟨Ao34, co34, eo34⟩ := Kd.R_slice HO177.out; subst eo34; have p178 : 0 ≤ (0 : Int) := (by omega); have q178 : 0 < (t175.length : Int) := of_decide_eq_true (by first | (with_reducible assumption) | assumption); obtain ⟨ad178, e178, hx178_0, hx178_1⟩ := at_T49 (Kd.R_reads' HO177.out).2.2 0 p178 q178; cases e178; have qi178 : (0 < t175.length) = True := eq_true (by omega); (try rw [show ((0 : Int)).toNat = 0 from rfl] at hx178_0); (try rw [show 0 * 2 = 0 from rfl] at hx178_0); (try rw [Addr.add_zero'] at hx178_0); (try rw [show ((0 : Int)).toNat = 0 from rfl] at hx178_1); (try rw [show 0 * 2 = 0 from rfl] at hx178_1); (try rw [Addr.add_zero'] at hx178_1); replace p178 := eq_true p178; replace q178 := eq_true q178; have p179 : 0 ≤ (1 : Int) := (by omega); have q179 : 1 < (t175.length : Int) := of_decide_eq_true (by first | (with_reducible assumption) | assumption); obtain ⟨ad179, e179, hx179_0, hx179_1⟩ := at_T49 (Kd.R_reads' HO177.out).2.2 1 p179 q179; obtain rfl : ad178 = ad179 := (by injection e179); (try simp only [show (1 : Int).toNat = 1 from rfl, Nat.reduceMul, Nat.reduceEqDiff, Go.Addr.add, ↓reduceIte] at hx179_0); (try simp only [show (1 : Int).toNat = 1 from rfl, Nat.reduceMul, Nat.reduceEqDiff, Go.Addr.add, ↓reduceIte] at hx179_1); have qi179 : (1 < t175.length) = True := eq_true (by omega); (try rw [show ((1 : Int)).toNat = 1 from rfl] at hx179_0); (try rw [show 1 * 2 = 2 from rfl] at hx179_0); (try rw [show ((1 : Int)).toNat = 1 from rfl] at hx179_1); (try rw [show 1 * 2 = 2 from rfl] at hx179_1); replace p179 := eq_true p179; replace q179 := eq_true q179; have hcz35_0 : w33.cell? ⟨gb170, 0, none⟩ = some (.slice Ao27 t166.length co27) := (blk_cell BK170.out 0).trans rfl; have hcz35_1 : w33.cell? ⟨gb170, 1, none⟩ = some (.int .i64 t169) := (blk_cell BK170.out 1).trans rfl; have hfz35_0 := blk_frozen BK170.out 0; have hfz35_1 := blk_frozen BK170.out 1) | (go_at_call 21; (with_reducible refine (tree_High.calls k _ _ t166 t169 2 t180 _ ?side1 ?side2 A13.out).mono ?_); (case side1 => repeat (first | exact (Kd.N_reads' HO168.out).2.2 | (with_reducible refine Kd.C_alloc ?_ _) | (with_reducible refine Kd.C_drewN ?_ _) | (with_reducible refine Kd.C_drew ?_))); (case side2 => exact (Kd.N_reads' HO168.out).2.1); rintro e w36 ⟨rfl, hb⟩; have n0_ := Aside0.mk (Kd.N_below (by (with_reducible repeat (first | apply Kd.N_alloc | apply Kd.N_drewN | apply Kd.N_drew)); exact HO168.out) hb); have n1_ := Aside0.mk (Kd.R_below (by (with_reducible repeat (first | apply Kd.R_alloc | apply Kd.R_drewN | apply Kd.R_drew)); exact HO177.out) hb); have n2_ := Aside0.mk (blk_below (g := gb170) (o := .cells #[.slice Ao27 t166.length co27, .int .i64 t169] 24 (0, 0)) (by (with_reducible repeat (first | refine blk_drewN ?_ _ | refine blk_drew ?_ | refine blk_alloc ?_ _)); exact BK170.out) hb); have n3_ := Aside0.mk (below_step (by repeat (first | (with_reducible first | exact HB.out | apply below_alloc | apply pw_below_drewN | apply below_drew1 | refine below_set ?_ GE170.out) | exact HB.out)) hb); clear HO168; clear HO177; clear BK170; clear HB; have HO168 := n0_; have HO177 := n1_; have BK170 := n2_; have HB := n3_; clear n0_ n1_ n2_ n3_; (try clear hb); (try clear hb2); (try clear hk); (try clear hi)) | (go_at_call 19; (with_reducible refine (tree_Need.calls 2 t181 _ A15.out).mono ?_); rintro e w' ⟨rfl, ⟨nd, rfl⟩⟩; have hcz37_0 : w36.cell? ⟨gb170, 0, none⟩ = some (.slice Ao27 t166.length co27) := (blk_cell BK170.out 0).trans rfl; have hcz37_1 : w36.cell? ⟨gb170, 1, none⟩ = some (.int .i64 t169) := (blk_cell BK170.out 1).trans rfl; have hfz37_0 := blk_frozen BK170.out 0; have hfz37_1 := blk_frozen BK170.out 1) | (go_at_call 24; (with_reducible refine (tree_Nodes.calls k _ _ t166 t169 2 t182 _ ?side1 ?side2 A17.out).mono ?_); (case side1 => repeat (first | exact (Kd.N_reads' HO168.out).2.2 | (with_reducible refine Kd.C_alloc ?_ _) | (with_reducible refine Kd.C_drewN ?_ _) | (with_reducible refine Kd.C_drew ?_))); (case side2 => exact (Kd.N_reads' HO168.out).2.1); rintro e w38 ⟨v183, rfl, ho0, hb⟩; have n0_ := Aside0.mk (Kd.N_elder' (by (with_reducible repeat (first | apply Kd.N_alloc | apply Kd.N_drewN | apply Kd.N_drew)); exact HO168.out) (Kd.R_base ho0) hb); have n1_ := Aside0.mk (Kd.R_below (by (with_reducible repeat (first | apply Kd.R_alloc | apply Kd.R_drewN | apply Kd.R_drew)); exact HO177.out) hb); have n2_ := Aside0.mk (Kd.R_lower ho0 (below_size (by repeat (first | (with_reducible first | exact HB.out | apply below_alloc | apply pw_below_drewN | apply below_drew1 | refine below_set ?_ GE170.out) | exact HB.out)))); have n3_ := Aside0.mk (blk_below (g := gb170) (o := .cells #[.slice Ao27 t166.length co27, .int .i64 t169] 24 (0, 0)) (by (with_reducible repeat (first | refine blk_drewN ?_ _ | refine blk_drew ?_ | refine blk_alloc ?_ _)); exact BK170.out) hb); have n4_ := Aside0.mk (below_step (by repeat (first | (with_reducible first | exact HB.out | apply below_alloc | apply pw_below_drewN | apply below_drew1 | refine below_set ?_ GE170.out) | exact HB.out)) hb); clear HO168; clear HO177; clear BK170; clear HB; have HO168 := n0_; have HO177 := n1_; have HO184 := n2_; have BK170 := n3_; have HB := n4_; clear n0_ n1_ n2_ n3_ n4_; (try clear hb); (try clear hb2); (try clear hk); (try clear hi); (try clear ho0)) | ((with_reducible refine gate_dst (N := 61) rfl ?_); (try (refine gate_guard (by rfl) ?_; dsimp only)); refine Kd.R_lit (Kd.int .i64) _ 3 ?hg (N := 61) ?hd (xs := ([2, 0, 1] : List Int)) (inner := [.int .i64 2, .int .i64 0, .int .i64 1]) (ok := fun _ => True) (okp := fun _ => True) ?hr ?hp (fun _ hk => hk) trivial (Below.refl _ _) (Nat.le_refl _) (by simp) ?_; (case hd => rfl); (case hg => rfl); (case hr => first | (go_simp; done) | (go_simp; rfl)); (case hp => exact (Reps.one (show Kd.M (Kd.int .i64) _ _ _ 2 [.int .i64 2] from rfl) (Reps.one (show Kd.M (Kd.int .i64) _ _ _ 0 [.int .i64 0] from rfl) (Reps.one (show Kd.M (Kd.int .i64) _ _ _ 1 [.int .i64 1] from rfl) (Reps.none _ _))))); intro v186 w39 ho40 hb hg_ hnew_; clear hg_ hnew_; (first | rw [← Ny185.out] at ho40 | (simp only [Int.reduceToNat] at ho40; rw [← Ny185.out] at ho40)); have n0_ := Aside0.mk (Kd.N_elder' (by (with_reducible repeat (first | apply Kd.N_alloc | apply Kd.N_drewN | apply Kd.N_drew)); exact HO168.out) (Kd.R_base ho40) hb); have n1_ := Aside0.mk (Kd.R_below (by (with_reducible repeat (first | apply Kd.R_alloc | apply Kd.R_drewN | apply Kd.R_drew)); exact HO177.out) hb); have n2_ := Aside0.mk (Kd.R_elder' (by (with_reducible repeat (first | apply Kd.R_alloc | apply Kd.R_drewN | apply Kd.R_drew)); exact HO184.out) (Kd.R_base ho40) hb); have n3_ := Aside0.mk (Kd.R_lower (Kd.R_new' ho40 (Kd.R_lt (by (with_reducible repeat (first | apply Kd.R_alloc | apply Kd.R_drewN | apply Kd.R_drew)); exact HO184.out))) (below_size (by repeat (first | (with_reducible first | exact HB.out | apply below_alloc | apply pw_below_drewN | apply below_drew1 | refine below_set ?_ GE170.out) | exact HB.out)))); have n4_ := Aside0.mk (blk_below (g := gb170) (o := .cells #[.slice Ao27 t166.length co27, .int .i64 t169] 24 (0, 0)) (by (with_reducible repeat (first | refine blk_drewN ?_ _ | refine blk_drew ?_ | refine blk_alloc ?_ _)); exact BK170.out) hb); have n5_ := Aside0.mk (below_step (by repeat (first | (with_reducible first | exact HB.out | apply below_alloc | apply pw_below_drewN | apply below_drew1 | refine below_set ?_ GE170.out) | exact HB.out)) hb); clear HO168; clear HO177; clear HO184; clear BK170; clear HB; have HO168 := n0_; have HO177 := n1_; have HO184 := n2_; have HO187 := n3_; have BK170 := n4_; have HB := n5_; clear n0_ n1_ n2_ n3_ n4_ n5_; clear hb ho40; obtain ⟨Ao41, co41, eo41⟩ := Kd.R_slice HO184.out; subst eo41; obtain ⟨Ao42, co42, eo42⟩ := Kd.R_slice HO187.out; subst eo42) | (go_at_call 23; (with_reducible refine (assartref07_Ints.calls k _ _ t182 _ _ y185 true _ ?side1 ?side2 ?side3 ?side4 A18.out).mono ?_); (case side1 => repeat (first | exact (Kd.R_reads' HO184.out).2.2 | (with_reducible refine Kd.C_alloc ?_ _) | (with_reducible refine Kd.C_drewN ?_ _) | (with_reducible refine Kd.C_drew ?_))); (case side2 => exact (Kd.R_reads' HO184.out).2.1); (case side3 => repeat (first | exact (Kd.R_reads' HO187.out).2.2 | (with_reducible refine Kd.C_alloc ?_ _) | (with_reducible refine Kd.C_drewN ?_ _) | (with_reducible refine Kd.C_drew ?_))); (case side4 => exact (Kd.R_reads' HO187.out).2.1); rintro e w' ⟨rfl, ⟨nd, rfl⟩⟩; have hcz43_0 : w39.cell? ⟨gb170, 0, none⟩ = some (.slice Ao27 t166.length co27) := (blk_cell BK170.out 0).trans rfl; have hcz43_1 : w39.cell? ⟨gb170, 1, none⟩ = some (.int .i64 t169) := (blk_cell BK170.out 1).trans rfl; have hfz43_0 := blk_frozen BK170.out 0; have hfz43_1 := blk_frozen BK170.out 1) | (go_at_call 18; (with_reducible refine (tree_Right.calls k _ _ t166 t169 2 true _ ?side1 ?side2 A20.out).mono ?_); (case side1 => repeat (first | exact (Kd.N_reads' HO168.out).2.2 | (with_reducible refine Kd.C_alloc ?_ _) | (with_reducible refine Kd.C_drewN ?_ _) | (with_reducible refine Kd.C_drew ?_))); (case side2 => exact (Kd.N_reads' HO168.out).2.1); rintro e w44 ⟨rfl, hb⟩; have n0_ := Aside0.mk (Kd.N_below (by (with_reducible repeat (first | apply Kd.N_alloc | apply Kd.N_drewN | apply Kd.N_drew)); exact HO168.out) hb); have n1_ := Aside0.mk (Kd.R_below (by (with_reducible repeat (first | apply Kd.R_alloc | apply Kd.R_drewN | apply Kd.R_drew)); exact HO177.out) hb); have n2_ := Aside0.mk (Kd.R_below (by (with_reducible repeat (first | apply Kd.R_alloc | apply Kd.R_drewN | apply Kd.R_drew)); exact HO184.out) hb); have n3_ := Aside0.mk (Kd.R_below (by (with_reducible repeat (first | apply Kd.R_alloc | apply Kd.R_drewN | apply Kd.R_drew)); exact HO187.out) hb); have n4_ := Aside0.mk (blk_below (g := gb170) (o := .cells #[.slice Ao27 t166.length co27, .int .i64 t169] 24 (0, 0)) (by (with_reducible repeat (first | refine blk_drewN ?_ _ | refine blk_drew ?_ | refine blk_alloc ?_ _)); exact BK170.out) hb); have n5_ := Aside0.mk (below_step (by repeat (first | (with_reducible first | exact HB.out | apply below_alloc | apply pw_below_drewN | apply below_drew1 | refine below_set ?_ GE170.out) | exact HB.out)) hb); clear HO168; clear HO177; clear HO184; clear HO187; clear BK170; clear HB; have HO168 := n0_; have HO177 := n1_; have HO184 := n2_; have HO187 := n3_; have BK170 := n4_; have HB := n5_; clear n0_ n1_ n2_ n3_ n4_ n5_; (try clear hb); (try clear hb2); (try clear hk); (try clear hi); have hcz45_0 : w44.cell? ⟨gb170, 0, none⟩ = some (.slice Ao27 t166.length co27) := (blk_cell BK170.out 0).trans rfl; have hcz45_1 : w44.cell? ⟨gb170, 1, none⟩ = some (.int .i64 t169) := (blk_cell BK170.out 1).trans rfl; have hfz45_0 := blk_frozen BK170.out 0; have hfz45_1 := blk_frozen BK170.out 1) | (go_at_call 18; (with_reducible refine (tree_Right.calls k _ _ t166 t169 (-1) true _ ?side1 ?side2 A22.out).mono ?_); (case side1 => repeat (first | exact (Kd.N_reads' HO168.out).2.2 | (with_reducible refine Kd.C_alloc ?_ _) | (with_reducible refine Kd.C_drewN ?_ _) | (with_reducible refine Kd.C_drew ?_))); (case side2 => exact (Kd.N_reads' HO168.out).2.1); rintro e w46 ⟨rfl, hb⟩; have n0_ := Aside0.mk (Kd.N_below (by (with_reducible repeat (first | apply Kd.N_alloc | apply Kd.N_drewN | apply Kd.N_drew)); exact HO168.out) hb); have n1_ := Aside0.mk (Kd.R_below (by (with_reducible repeat (first | apply Kd.R_alloc | apply Kd.R_drewN | apply Kd.R_drew)); exact HO177.out) hb); have n2_ := Aside0.mk (Kd.R_below (by (with_reducible repeat (first | apply Kd.R_alloc | apply Kd.R_drewN | apply Kd.R_drew)); exact HO184.out) hb); have n3_ := Aside0.mk (Kd.R_below (by (with_reducible repeat (first | apply Kd.R_alloc | apply Kd.R_drewN | apply Kd.R_drew)); exact HO187.out) hb); have n4_ := Aside0.mk (blk_below (g := gb170) (o := .cells #[.slice Ao27 t166.length co27, .int .i64 t169] 24 (0, 0)) (by (with_reducible repeat (first | refine blk_drewN ?_ _ | refine blk_drew ?_ | refine blk_alloc ?_ _)); exact BK170.out) hb); have n5_ := Aside0.mk (below_step (by repeat (first | (with_reducible first | exact HB.out | apply below_alloc | apply pw_below_drewN | apply below_drew1 | refine below_set ?_ GE170.out) | exact HB.out)) hb); clear HO168; clear HO177; clear HO184; clear HO187; clear BK170; clear HB; have HO168 := n0_; have HO177 := n1_; have HO184 := n2_; have HO187 := n3_; have BK170 := n4_; have HB := n5_; clear n0_ n1_ n2_ n3_ n4_ n5_; (try clear hb); (try clear hb2); (try clear hk); (try clear hi); have hcz47_0 : w46.cell? ⟨gb170, 0, none⟩ = some (.slice Ao27 t166.length co27) := (blk_cell BK170.out 0).trans rfl; have hcz47_1 : w46.cell? ⟨gb170, 1, none⟩ = some (.int .i64 t169) := (blk_cell BK170.out 1).trans rfl; have hfz47_0 := blk_frozen BK170.out 0; have hfz47_1 := blk_frozen BK170.out 1) | (go_at_call 18; (with_reducible refine (tree_Right.calls k _ _ t166 t169 3 t191 _ ?side1 ?side2 A24.out).mono ?_); (case side1 => repeat (first | exact (Kd.N_reads' HO168.out).2.2 | (with_reducible refine Kd.C_alloc ?_ _) | (with_reducible refine Kd.C_drewN ?_ _) | (with_reducible refine Kd.C_drew ?_))); (case side2 => exact (Kd.N_reads' HO168.out).2.1); rintro e w48 ⟨rfl, hb⟩; have n0_ := Aside0.mk (Kd.N_below (by (with_reducible repeat (first | apply Kd.N_alloc | apply Kd.N_drewN | apply Kd.N_drew)); exact HO168.out) hb); have n1_ := Aside0.mk (Kd.R_below (by (with_reducible repeat (first | apply Kd.R_alloc | apply Kd.R_drewN | apply Kd.R_drew)); exact HO177.out) hb); have n2_ := Aside0.mk (Kd.R_below (by (with_reducible repeat (first | apply Kd.R_alloc | apply Kd.R_drewN | apply Kd.R_drew)); exact HO184.out) hb); have n3_ := Aside0.mk (Kd.R_below (by (with_reducible repeat (first | apply Kd.R_alloc | apply Kd.R_drewN | apply Kd.R_drew)); exact HO187.out) hb); have n4_ := Aside0.mk (blk_below (g := gb170) (o := .cells #[.slice Ao27 t166.length co27, .int .i64 t169] 24 (0, 0)) (by (with_reducible repeat (first | refine blk_drewN ?_ _ | refine blk_drew ?_ | refine blk_alloc ?_ _)); exact BK170.out) hb); have n5_ := Aside0.mk (below_step (by repeat (first | (with_reducible first | exact HB.out | apply below_alloc | apply pw_below_drewN | apply below_drew1 | refine below_set ?_ GE170.out) | exact HB.out)) hb); clear HO168; clear HO177; clear HO184; clear HO187; clear BK170; clear HB; have HO168 := n0_; have HO177 := n1_; have HO184 := n2_; have HO187 := n3_; have BK170 := n4_; have HB := n5_; clear n0_ n1_ n2_ n3_ n4_ n5_; (try clear hb); (try clear hb2); (try clear hk); (try clear hi)))
                            go_ret
                            exact ⟨by first | rfl | (simp [errW_none, errW_some] <;> rfl) | (simp [*, errW_none, errW_some] <;> rfl), by repeat (first | (with_reducible first | exact HB.out | apply below_alloc | apply pw_below_drewN | apply below_drew1 | refine below_set ?_ GE170.out) | exact HB.out)⟩
                          · replace c23 := Bool.eq_false_iff.mpr c23
                            subst c23
                            have H1 : (some false) = some r := by rw [if_neg (show ¬ (false = true) by decide)] at H; exact H
                            clear H
                            have H := H1
                            clear H1
                            obtain rfl := Option.some.inj H
                            cases hr
                        · replace c21 := Bool.eq_false_iff.mpr c21
                          subst c21
                          have H1 : (some false) = some r := by rw [if_neg (show ¬ (false = true) by decide)] at H; exact H
                          clear H
                          have H := H1
                          clear H1
                          obtain rfl := Option.some.inj H
                          cases hr
                      · replace c19 := Bool.eq_false_iff.mpr c19
                        subst c19
                        have H1 : (some false) = some r := by rw [if_neg (show ¬ (false = true) by decide)] at H; exact H
                        clear H
                        have H := H1
                        clear H1
                        obtain rfl := Option.some.inj H
                        cases hr
                    · rw [if_neg c16] at H
                      have c16b0 : (t181 == 5) = false := beq_eq_false_iff_ne.mpr c16
                      have c16b1 : (t181 != 5) = true := bne_iff_ne.mpr c16
                      obtain rfl := Option.some.inj H
                      cases hr
                  · rw [if_neg c14] at H
                    have c14b0 : (t180 == 2) = false := beq_eq_false_iff_ne.mpr c14
                    have c14b1 : (t180 != 2) = true := bne_iff_ne.mpr c14
                    obtain rfl := Option.some.inj H
                    cases hr
                · rw [if_neg c12] at H
                  have c12b0 : (((rd_T49 t175 1).f0) == 5) = false := beq_eq_false_iff_ne.mpr c12
                  have c12b1 : (((rd_T49 t175 1).f0) != 5) = true := bne_iff_ne.mpr c12
                  obtain rfl := Option.some.inj H
                  cases hr
              · rw [if_neg c11] at H
                exact absurd H (by simp)
            · rw [if_neg c10] at H
              have c10b0 : (((rd_T49 t175 0).f0) == 2) = false := beq_eq_false_iff_ne.mpr c10
              have c10b1 : (((rd_T49 t175 0).f0) != 2) = true := bne_iff_ne.mpr c10
              obtain rfl := Option.some.inj H
              cases hr
          · rw [if_neg c9] at H
            exact absurd H (by simp)
        · rw [if_neg c8] at H
          have c8b0 : ((t175.length : Int) == 2) = false := beq_eq_false_iff_ne.mpr c8
          have c8b1 : ((t175.length : Int) != 2) = true := bne_iff_ne.mpr c8
          obtain rfl := Option.some.inj H
          cases hr
      · rw [if_neg c7] at H
        have c7b0 : (t174 == 4) = false := beq_eq_false_iff_ne.mpr c7
        have c7b1 : (t174 != 4) = true := bne_iff_ne.mpr c7
        obtain rfl := Option.some.inj H
        cases hr
    · rw [if_neg c6] at H
      have c6b0 : (t171 == 9) = false := beq_eq_false_iff_ne.mpr c6
      have c6b1 : (t171 != 9) = true := bne_iff_ne.mpr c6
      obtain rfl := Option.some.inj H
      cases hr
  · rw [if_neg c5] at H
    have c5b0 : (t172 == 0) = false := beq_eq_false_iff_ne.mpr c5
    have c5b1 : (t172 != 0) = true := bne_iff_ne.mpr c5
    obtain rfl := Option.some.inj H
    cases hr
set_option maxRecDepth 100000 in
theorem shown07_val : assartlaw07_shown.g 60 = some true := by decide +kernel
def assartlaw07_shown.f : Option Bool := some true
theorem assartlaw07_shown.calls (r : Bool) (w : World) (h : assartlaw07_shown.f = some r) : Calls Try.prog 15 #[] w fun e w' => e = .returned (.bool r) ∧ Below w.heap.size w w' := by
  obtain rfl := Option.some.inj h
  exact assartlaw07_shown.walk 60 true w shown07_val rfl
end Go.Proofs.Yteiladccdenpbaa.P
end
