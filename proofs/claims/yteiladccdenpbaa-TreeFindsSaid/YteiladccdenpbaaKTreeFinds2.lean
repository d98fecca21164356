/- Texts of this claim's proof put together: F57, F17, F26, HAt, F27, F60, F28, E0, F29. -/
import Derived.Below
import Derived.Deep.Draws
import Derived.Deep.AppendLies
import Derived.Maps.AppendAt
import Derived.OwnWalk
import Derived.Laws.BytesArg
import Derived.Laws.MakeOwn
import Derived.Laws.OwnMore
import Derived.Deep.OwnRows
import Derived.Tactics
import Derived.Lib.ConvBytes
import Derived.Laws.Slices
import Derived.WalkKit
import Derived.KernelRfl
import Derived.RowKit3
import Derived.Deep.LoopGhost
import Derived.Deep.QuietTactic
import Derived.BigQuiet
import Derived.WideLaws
import Derived.Deep.DeepCutAuto
import Derived.Deep.CutBlock
import Derived.Deep.RegionHeld3
import Derived.Laws.Rows
import Derived.Lib.AppendStr
import Derived.ArgAppend
import Derived.Laws.IdiomCopy
import Derived.RowKit
import Derived.OrdersHeld
import Derived.Laws.BitsLemmas
import Derived.Laws.StructEq
import Derived.Test.YteiladccdenpbaaProg
import Derived.Shelf.RegionOpenPlain
import Derived.Shelf.Abstract
import Derived.RangeFuncNested
import Derived.RangeFuncBound
import Derived.RangeFuncCalls
import Derived.RangeFuncLeaves
import Derived.Shelf.RegionOpen
import Derived.OwnWalkIn
import Derived.TacticsInMore
import Derived.LoopNIn
import Derived.LoopIn
import Derived.Laws.EntriesVeiled
import Derived.RangeFuncBox
import Derived.ChangeArms
import Derived.DataReads
import Derived.DataElems
import Derived.SizedLaws
import Derived.Test.YteiladccdenpbaaRows
import Derived.ProofKit
import Derived.OpenShut
import Derived.ShutString
import Derived.ChangeOld
import Derived.Test.YteiladccdenpbaaKTreeFinds0
import Derived.Test.YteiladccdenpbaaKTreeFinds1
namespace Foot
end Foot
namespace Go.Proofs.Yteiladccdenpbaa
end Go.Proofs.Yteiladccdenpbaa
namespace Go.Proofs.Yteiladccdenpbaa.P
end Go.Proofs.Yteiladccdenpbaa.P
namespace Go.Proofs.Yteiladccdenpbaa.Pure
end Go.Proofs.Yteiladccdenpbaa.Pure
namespace Go.Proofs.Yteiladccdenpbaa.treeFinds
end Go.Proofs.Yteiladccdenpbaa.treeFinds
namespace Go.Proofs.YteiladccdenpbaaW.PrintLast
end Go.Proofs.YteiladccdenpbaaW.PrintLast
namespace Go.Proofs.YteiladccdenpbaaW.PrintMore
end Go.Proofs.YteiladccdenpbaaW.PrintMore
namespace Go.Proofs.YteiladccdenpbaaW.PrintWords
end Go.Proofs.YteiladccdenpbaaW.PrintWords
namespace Kd
end Kd
section
namespace Go.Proofs.Yteiladccdenpbaa.P
open Go.RowKit Go.Proofs.YteiladccdenpbaaW.PrintWords Go.Proofs.YteiladccdenpbaaW.PrintLast Go.Proofs.YteiladccdenpbaaW.PrintMore
attribute [local go_sem] max2_int min2_int max_two min_two max_three min_three max_four min_four
set_option linter.unusedVariables false
set_option linter.unusedSimpArgs false
set_option maxHeartbeats 8000000 in
set_option maxRecDepth 100000 in
theorem assartref07_below.calls (k : Nat) : ∀ (A0_0 : Option Addr) (c0_0 : Nat) (l0_0 : List (S55)) (a0_1 : Int) (a1 : Int) (a2 : Int) (r1 : Int) (r2 : Int) (r3 : Int) (r4 : Bool) (w : World) (hr0_0 : Kd.C k55 w A0_0 l0_0.length l0_0) (hc0_0 : l0_0.length ≤ c0_0) (h : assartref07_below.f k l0_0 a0_1 a1 a2 = some (r1, r2, r3, r4)),
  Calls Try.prog 57 #[.agg #[.slice A0_0 l0_0.length c0_0, .int .i64 a0_1], .int .i64 a1, .int .i64 a2] w fun e w' => e = .returned (.agg #[.int .i64 r1, .int .i64 r2, .int .i64 r3, .bool r4]) ∧ Below w.heap.size w w' := by
 induction k using Nat.strongRecOn with
 | _ k ih =>
 intro A0_0 c0_0 l0_0 a0_1 a1 a2 r1 r2 r3 r4 w hr0_0 hc0_0 h
 by_cases hq : decide (((rd_T55 l0_0 a1).f0) < 1) = true ∨ (rd_T55 l0_0 a1).f2.f0 = true ∨ decide (a2 ≤ 1) = true
 ·exact assartref07_below.calls0 k A0_0 c0_0 l0_0 a0_1 a1 a2 r1 r2 r3 r4 w hr0_0 hc0_0 ⟨hq⟩ h
 have HQ := Aside0.mk hq
 clear hq
 cases k with
 | zero => exact absurd h (by simp [assartref07_below.f])
 | succ k =>
 simp only [assartref07_below.f] at h
 have hu24 := Try.underlying24
 have hu89 := Try.underlying89
 have hu53 := Try.underlying53
 have HR0_0 := Aside0.mk hr0_0
 have HC0_0 := Aside0.mk hc0_0
 clear hr0_0 hc0_0
 have HB := Aside0.mk (Below.refl w.heap.size w)
 have H : (if 0 ≤ a1 then (if a1 < (l0_0.length : Int) then (if ((rd_T55 l0_0 a1).f0) < 1 then (some (0, 0, 0, false)) else (if (rd_T55 l0_0 a1).f2.f0 = true then (if 0 < (((rd_T55 l0_0 a1).f2.f1).length : Int) then (if 0 ≤ (wrap64 ((((rd_T55 l0_0 a1).f2.f1).length : Int) - 1)) then (if (wrap64 ((((rd_T55 l0_0 a1).f2.f1).length : Int) - 1)) < (((rd_T55 l0_0 a1).f2.f1).length : Int) then (some ((rd_T49 ((rd_T55 l0_0 a1).f2.f1) 0).f0, (rd_T49 ((rd_T55 l0_0 a1).f2.f1) (wrap64 ((((rd_T55 l0_0 a1).f2.f1).length : Int) - 1))).f0, 1, decide (a2 ≥ 1))) else (none)) else (none)) else (none)) else (if a2 ≤ 1 then (some (0, 0, 0, false)) else (assartref07_below.l0 k a2 0 l0_0 a0_1 ((rd_T55 l0_0 a1).f2.f0) ((rd_T55 l0_0 a1).f2.f1) 0 0 0 false)))) else (none)) else (none)) = some (r1, r2, r3, r4) := h
 clear h
 by_cases c4 : 0 ≤ a1
 ·rw [if_pos c4] at H
  have c4b0 : decide (0 ≤ a1) = true := decide_eq_true c4
  clear c4
  by_cases c5 : a1 < (l0_0.length : Int)
  ·rw [if_pos c5] at H
   have c5b0 : decide (a1 < (l0_0.length : Int)) = true := decide_eq_true c5
   clear c5
   by_cases c6 : ((rd_T55 l0_0 a1).f0) < 1
   ·have c6b0 : decide (((rd_T55 l0_0 a1).f0) < 1) = true := decide_eq_true c6; exact absurd (.inl c6b0) HQ.out
   ·rw [if_neg c6] at H
    have c6b0 : decide (((rd_T55 l0_0 a1).f0) < 1) = false := decide_eq_false c6
    clear c6
    obtain ⟨bq17, hbq17⟩ : ∃ b_ : Bool, b_ = ((rd_T55 l0_0 a1).f2.f0) := ⟨_, rfl⟩
    replace H : (if bq17 = true then (if 0 < (((rd_T55 l0_0 a1).f2.f1).length : Int) then (if 0 ≤ (wrap64 ((((rd_T55 l0_0 a1).f2.f1).length : Int) - 1)) then (if (wrap64 ((((rd_T55 l0_0 a1).f2.f1).length : Int) - 1)) < (((rd_T55 l0_0 a1).f2.f1).length : Int) then (some ((rd_T49 ((rd_T55 l0_0 a1).f2.f1) 0).f0, (rd_T49 ((rd_T55 l0_0 a1).f2.f1) (wrap64 ((((rd_T55 l0_0 a1).f2.f1).length : Int) - 1))).f0, 1, decide (a2 ≥ 1))) else (none)) else (none)) else (none)) else (if a2 ≤ 1 then (some (0, 0, 0, false)) else (assartref07_below.l0 k a2 0 l0_0 a0_1 bq17 ((rd_T55 l0_0 a1).f2.f1) 0 0 0 false))) = some (r1, r2, r3, r4) := by rw [← hbq17] at H; exact H
    have Nbq17 := Aside0.mk hbq17
    clear hbq17
    by_cases c18 : bq17 = true
    ·subst c18; exact absurd (.inr (.inl Nbq17.out.symm)) HQ.out
    ·replace c18 := Bool.eq_false_iff.mpr c18
     subst c18
     have H1 : (if a2 ≤ 1 then (some (0, 0, 0, false)) else (assartref07_below.l0 k a2 0 l0_0 a0_1 false ((rd_T55 l0_0 a1).f2.f1) 0 0 0 false)) = some (r1, r2, r3, r4) := by rw [if_neg (show ¬ (false = true) by decide)] at H; exact H
     clear H
     have H := H1
     clear H1
     by_cases c38 : a2 ≤ 1
     ·exact absurd (.inr (.inr (decide_eq_true c38))) HQ.out
     ·rw [if_neg c38] at H
      have c38b0 : decide (a2 ≤ 1) = false := decide_eq_false c38
      clear c38
      have H' := Aside0.mk H
      clear H
      go_enter Try.func57, Try.ntmps57
      go_wp2_with (first | ((with_reducible refine gate_dst (N := 3) rfl ?_); refine box_event ?hg (N := 3) ?hd (cs := #[.slice A0_0 l0_0.length c0_0, .int .i64 a0_1]) (t := 24) ?hr ?_; (case hd => rfl); (case hg => rfl); (case hr => first | (go_simp; done) | (go_simp; rfl)); intro gb189 hg w49 hbox hb; have n0 := Aside0.mk (below_step (by repeat (first | (with_reducible first | exact HB.out | apply below_alloc | apply pw_below_drewN | apply below_drew1) | exact HB.out)) hb); have n1 := Aside0.mk (hbox); have n2 := Aside0.mk ((by rw [hg]; exact (below_size (by repeat (first | (with_reducible first | exact HB.out | apply below_alloc | apply pw_below_drewN | apply below_drew1) | exact HB.out))) : w.heap.size ≤ gb189)); have n3 := Aside0.mk ((by rw [hg]; exact (below_size (by repeat (first | (with_reducible first | exact HB.out | apply below_alloc | apply pw_below_drewN | apply below_drew1) | exact HB.out))) : w.heap.size ≤ gb189)); clear HB; have HB := n0; have BK189 := n1; have GW189 := n2; have GE189 := n3; clear n0 n1 n2 n3; clear hb hbox hg) | ((with_reducible refine gate_dst (N := 6) rfl ?_); refine box_event ?hg (N := 6) ?hd (cs := #[.int .i64 0, .int .i64 0, .int .i64 0, .bool false]) (t := 89) ?hr ?_; (case hd => rfl); (case hg => rfl); (case hr => first | (go_simp; done) | (go_simp; rfl)); intro gb190 hg w50 hbox hb; have n0 := Aside0.mk (blk_below (g := gb189) (o := .cells #[.slice A0_0 l0_0.length c0_0, .int .i64 a0_1] 24 (0, 0)) (by (with_reducible repeat (first | refine blk_drewN ?_ _ | refine blk_drew ?_ | refine blk_alloc ?_ _)); exact BK189.out) hb); have n1 := Aside0.mk (below_step (by repeat (first | (with_reducible first | exact HB.out | apply below_alloc | apply pw_below_drewN | apply below_drew1 | refine below_set ?_ GE189.out) | exact HB.out)) hb); have n2 := Aside0.mk (hbox); have n3 := Aside0.mk ((by rw [hg]; exact (below_size (by repeat (first | (with_reducible first | exact HB.out | apply below_alloc | apply pw_below_drewN | apply below_drew1 | refine below_set ?_ GE189.out) | exact HB.out))) : w.heap.size ≤ gb190)); have n4 := Aside0.mk ((by rw [hg]; exact (below_size (by repeat (first | (with_reducible first | exact HB.out | apply below_alloc | apply pw_below_drewN | apply below_drew1 | refine below_set ?_ GE189.out) | exact HB.out))) : w.heap.size ≤ gb190)); have n5 := Aside0.mk ((by rw [hg]; exact Nat.ne_of_lt (blk_lt (g := gb189) (o := .cells #[.slice A0_0 l0_0.length c0_0, .int .i64 a0_1] 24 (0, 0)) (by (with_reducible repeat (first | refine blk_drewN ?_ _ | refine blk_drew ?_ | refine blk_alloc ?_ _)); exact BK189.out)) : gb189 ≠ gb190)); have n6 := Aside0.mk ((by rw [hg]; exact Nat.ne_of_gt (blk_lt (g := gb189) (o := .cells #[.slice A0_0 l0_0.length c0_0, .int .i64 a0_1] 24 (0, 0)) (by (with_reducible repeat (first | refine blk_drewN ?_ _ | refine blk_drew ?_ | refine blk_alloc ?_ _)); exact BK189.out)) : gb190 ≠ gb189)); clear BK189; clear HB; have BK189 := n0; have HB := n1; have BK190 := n2; have GW190 := n3; have GE190 := n4; have NB189_190 := n5; have NB190_189 := n6; clear n0 n1 n2 n3 n4 n5 n6; clear hb hbox hg; have hnb51 := NB189_190.out; have hnc51 := NB190_189.out; have hcz52_0 : w50.cell? ⟨gb189, 0, none⟩ = some (.slice A0_0 l0_0.length c0_0) := (blk_cell BK189.out 0).trans rfl; have hcz52_1 : w50.cell? ⟨gb189, 1, none⟩ = some (.int .i64 a0_1) := (blk_cell BK189.out 1).trans rfl; have hfz52_0 := blk_frozen BK189.out 0; have hfz52_1 := blk_frozen BK189.out 1; have p191 : 0 ≤ (a1 : Int) := of_decide_eq_true (by first | (with_reducible assumption) | assumption); have q191 : a1 < (l0_0.length : Int) := of_decide_eq_true (by first | (with_reducible assumption) | assumption); obtain ⟨ad191, A191_3, c191_3, e191, hx191_0, hx191_1, hx191_2, hx191_3, hl191_3, hi191_3⟩ := at_T55 HR0_0.out a1 p191 q191; (try rw [← Nbq17.out] at hx191_1); (try rw [← Nbq17.out] at hx191_2); cases e191; replace hx191_0 := (HB.out.cell (World.block_lt_of_cell? w _ hx191_0)).trans hx191_0; replace hx191_1 := (HB.out.cell (World.block_lt_of_cell? w _ hx191_1)).trans hx191_1; replace hx191_2 := (HB.out.cell (World.block_lt_of_cell? w _ hx191_2)).trans hx191_2; replace hx191_3 := (HB.out.cell (World.block_lt_of_cell? w _ hx191_3)).trans hx191_3; have HR191_3 := Aside0.mk hi191_3; have HC191_3 := Aside0.mk hl191_3; clear hi191_3 hl191_3; replace p191 := eq_true p191; replace q191 := eq_true q191) | ((with_reducible refine gate_dst (N := 7) rfl ?_); refine box_event ?hg (N := 7) ?hd (cs := #[.bool false, .slice none 0 0]) (t := 53) ?hr ?_; (case hd => rfl); (case hg => rfl); (case hr => first | (go_simp; done) | (go_simp; rfl)); intro gb192 hg w53 hbox hb; have n0 := Aside0.mk (blk_below (g := gb189) (o := .cells #[.slice (some ad191) l0_0.length c0_0, .int .i64 a0_1] 24 (0, 0)) (by (with_reducible repeat (first | refine blk_drewN ?_ _ | refine blk_drew ?_ | refine blk_alloc ?_ _)); exact BK189.out) hb); have n1 := Aside0.mk (blk_below (g := gb190) (o := .cells #[.int .i64 0, .int .i64 0, .int .i64 0, .bool false] 89 (0, 0)) (by (with_reducible repeat (first | refine blk_drewN ?_ _ | refine blk_drew ?_ | refine blk_alloc ?_ _)); exact BK190.out) hb); have n2 := Aside0.mk (below_step (by repeat (first | (with_reducible first | exact HB.out | apply below_alloc | apply pw_below_drewN | apply below_drew1 | refine below_set ?_ GE189.out | refine below_set ?_ GE190.out) | exact HB.out)) hb); have n3 := Aside0.mk (hbox); have n4 := Aside0.mk ((by rw [hg]; exact (below_size (by repeat (first | (with_reducible first | exact HB.out | apply below_alloc | apply pw_below_drewN | apply below_drew1 | refine below_set ?_ GE189.out | refine below_set ?_ GE190.out) | exact HB.out))) : w.heap.size ≤ gb192)); have n5 := Aside0.mk ((by rw [hg]; exact (below_size (by repeat (first | (with_reducible first | exact HB.out | apply below_alloc | apply pw_below_drewN | apply below_drew1 | refine below_set ?_ GE189.out | refine below_set ?_ GE190.out) | exact HB.out))) : w.heap.size ≤ gb192)); have n6 := Aside0.mk ((by rw [hg]; exact Nat.ne_of_lt (blk_lt (g := gb189) (o := .cells #[.slice (some ad191) l0_0.length c0_0, .int .i64 a0_1] 24 (0, 0)) (by (with_reducible repeat (first | refine blk_drewN ?_ _ | refine blk_drew ?_ | refine blk_alloc ?_ _)); exact BK189.out)) : gb189 ≠ gb192)); have n7 := Aside0.mk ((by rw [hg]; exact Nat.ne_of_gt (blk_lt (g := gb189) (o := .cells #[.slice (some ad191) l0_0.length c0_0, .int .i64 a0_1] 24 (0, 0)) (by (with_reducible repeat (first | refine blk_drewN ?_ _ | refine blk_drew ?_ | refine blk_alloc ?_ _)); exact BK189.out)) : gb192 ≠ gb189)); have n8 := Aside0.mk ((by rw [hg]; exact Nat.ne_of_lt (blk_lt (g := gb190) (o := .cells #[.int .i64 0, .int .i64 0, .int .i64 0, .bool false] 89 (0, 0)) (by (with_reducible repeat (first | refine blk_drewN ?_ _ | refine blk_drew ?_ | refine blk_alloc ?_ _)); exact BK190.out)) : gb190 ≠ gb192)); have n9 := Aside0.mk ((by rw [hg]; exact Nat.ne_of_gt (blk_lt (g := gb190) (o := .cells #[.int .i64 0, .int .i64 0, .int .i64 0, .bool false] 89 (0, 0)) (by (with_reducible repeat (first | refine blk_drewN ?_ _ | refine blk_drew ?_ | refine blk_alloc ?_ _)); exact BK190.out)) : gb192 ≠ gb190)); clear BK189; clear BK190; clear HB; have BK189 := n0; have BK190 := n1; have HB := n2; have BK192 := n3; have GW192 := n4; have GE192 := n5; have NB189_192 := n6; have NB192_189 := n7; have NB190_192 := n8; have NB192_190 := n9; clear n0 n1 n2 n3 n4 n5 n6 n7 n8 n9; clear hb hbox hg; have hnb54 := NB192_189.out; have hnc54 := NB189_192.out; have hnb55 := NB192_190.out; have hnc55 := NB190_192.out; have hcz56_0 : w53.cell? ⟨gb192, 0, none⟩ = some (.bool false) := (blk_cell BK192.out 0).trans rfl; have hcz56_1 : w53.cell? ⟨gb192, 1, none⟩ = some (.slice none 0 0) := (blk_cell BK192.out 1).trans rfl; have hfz56_0 := blk_frozen BK192.out 0; have hfz56_1 := blk_frozen BK192.out 1; have hcz57_0 : w53.cell? ⟨gb189, 0, none⟩ = some (.slice (some ad191) l0_0.length c0_0) := (blk_cell BK189.out 0).trans rfl; have hcz57_1 : w53.cell? ⟨gb189, 1, none⟩ = some (.int .i64 a0_1) := (blk_cell BK189.out 1).trans rfl; have hfz57_0 := blk_frozen BK189.out 0; have hfz57_1 := blk_frozen BK189.out 1; have p193 : 0 ≤ (a1 : Int) := of_decide_eq_true (by first | (with_reducible assumption) | assumption); have q193 : a1 < (l0_0.length : Int) := of_decide_eq_true (by first | (with_reducible assumption) | assumption); obtain ⟨ad193, A193_3, c193_3, e193, hx193_0, hx193_1, hx193_2, hx193_3, hl193_3, hi193_3⟩ := at_T55 HR0_0.out a1 p193 q193; (try rw [← Nbq17.out] at hx193_1); (try rw [← Nbq17.out] at hx193_2); obtain rfl : ad191 = ad193 := (by injection e193); have hn193_0 : ad191.block ≠ gb192 := Nat.ne_of_lt (Nat.lt_of_lt_of_le (by have := World.block_lt_of_cell? _ _ hx193_0; first | rwa [add_block] at this | exact this) GW192.out); have hn193_1 : ad191.block ≠ gb192 := Nat.ne_of_lt (Nat.lt_of_lt_of_le (by have := World.block_lt_of_cell? _ _ hx193_0; first | rwa [add_block] at this | exact this) GW192.out); replace hx193_0 := (HB.out.cell (World.block_lt_of_cell? w _ hx193_0)).trans hx193_0; replace hx193_1 := (HB.out.cell (World.block_lt_of_cell? w _ hx193_1)).trans hx193_1; replace hx193_2 := (HB.out.cell (World.block_lt_of_cell? w _ hx193_2)).trans hx193_2; replace hx193_3 := (HB.out.cell (World.block_lt_of_cell? w _ hx193_3)).trans hx193_3; have HR193_3 := Aside0.mk hi193_3; have HC193_3 := Aside0.mk hl193_3; clear hi193_3 hl193_3; replace hx193_0 := (cell_far (p := ⟨gb192, 0, none⟩) (by first | (rw [add_block]; exact hn193_0) | (show (Addr.add _ _).block ≠ _; rw [add_block]; exact hn193_0) | exact hn193_0) (.bool false)).trans hx193_0; replace hx193_1 := (cell_far (p := ⟨gb192, 0, none⟩) (by first | (rw [add_block]; exact hn193_0) | (show (Addr.add _ _).block ≠ _; rw [add_block]; exact hn193_0) | exact hn193_0) (.bool false)).trans hx193_1; replace hx193_2 := (cell_far (p := ⟨gb192, 0, none⟩) (by first | (rw [add_block]; exact hn193_0) | (show (Addr.add _ _).block ≠ _; rw [add_block]; exact hn193_0) | exact hn193_0) (.bool false)).trans hx193_2; replace hx193_3 := (cell_far (p := ⟨gb192, 0, none⟩) (by first | (rw [add_block]; exact hn193_0) | (show (Addr.add _ _).block ≠ _; rw [add_block]; exact hn193_0) | exact hn193_0) (.bool false)).trans hx193_3; replace hx193_0 := (cell_far (p := ⟨gb192, 1, none⟩) (by first | (rw [add_block]; exact hn193_1) | (show (Addr.add _ _).block ≠ _; rw [add_block]; exact hn193_1) | exact hn193_1) (.slice A191_3 ((rd_T55 l0_0 a1).f2.f1).length c191_3)).trans hx193_0; replace hx193_1 := (cell_far (p := ⟨gb192, 1, none⟩) (by first | (rw [add_block]; exact hn193_1) | (show (Addr.add _ _).block ≠ _; rw [add_block]; exact hn193_1) | exact hn193_1) (.slice A191_3 ((rd_T55 l0_0 a1).f2.f1).length c191_3)).trans hx193_1; replace hx193_2 := (cell_far (p := ⟨gb192, 1, none⟩) (by first | (rw [add_block]; exact hn193_1) | (show (Addr.add _ _).block ≠ _; rw [add_block]; exact hn193_1) | exact hn193_1) (.slice A191_3 ((rd_T55 l0_0 a1).f2.f1).length c191_3)).trans hx193_2; replace hx193_3 := (cell_far (p := ⟨gb192, 1, none⟩) (by first | (rw [add_block]; exact hn193_1) | (show (Addr.add _ _).block ≠ _; rw [add_block]; exact hn193_1) | exact hn193_1) (.slice A191_3 ((rd_T55 l0_0 a1).f2.f1).length c191_3)).trans hx193_3; clear hn193_0; clear hn193_1; replace p193 := eq_true p193; replace q193 := eq_true q193) | ((with_reducible refine gate_dst (N := 8) rfl ?_); refine box_event ?hg (N := 8) ?hd (cs := #[.int .i64 0, .int .i64 0, .int .i64 0, .bool false]) (t := 89) ?hr ?_; (case hd => rfl); (case hg => rfl); (case hr => first | (go_simp; done) | (go_simp; rfl)); intro gb196 hg w58 hbox hb; have n0 := Aside0.mk (blk_below (g := gb189) (o := .cells #[.slice (some ad191) l0_0.length c0_0, .int .i64 a0_1] 24 (0, 0)) (by (with_reducible repeat (first | refine blk_drewN ?_ _ | refine blk_drew ?_ | refine blk_alloc ?_ _)); refine blk_far ?_ NB189_192.out _; (with_reducible repeat (first | refine blk_drewN ?_ _ | refine blk_drew ?_ | refine blk_alloc ?_ _)); refine blk_far ?_ NB189_192.out _; (with_reducible repeat (first | refine blk_drewN ?_ _ | refine blk_drew ?_ | refine blk_alloc ?_ _)); exact BK189.out) hb); have n1 := Aside0.mk (blk_below (g := gb190) (o := .cells #[.int .i64 0, .int .i64 0, .int .i64 0, .bool false] 89 (0, 0)) (by (with_reducible repeat (first | refine blk_drewN ?_ _ | refine blk_drew ?_ | refine blk_alloc ?_ _)); refine blk_far ?_ NB190_192.out _; (with_reducible repeat (first | refine blk_drewN ?_ _ | refine blk_drew ?_ | refine blk_alloc ?_ _)); refine blk_far ?_ NB190_192.out _; (with_reducible repeat (first | refine blk_drewN ?_ _ | refine blk_drew ?_ | refine blk_alloc ?_ _)); exact BK190.out) hb); have n2 := Aside0.mk (blk_below (g := gb192) (o := .cells #[.bool false, .slice A191_3 ((rd_T55 l0_0 a1).f2.f1).length c191_3] 53 (0, 0)) (by (with_reducible repeat (first | refine blk_drewN ?_ _ | refine blk_drew ?_ | refine blk_alloc ?_ _)); refine blk_put (cs := #[.bool false, .slice none 0 0]) ?_ 1 _ rfl; (with_reducible repeat (first | refine blk_drewN ?_ _ | refine blk_drew ?_ | refine blk_alloc ?_ _)); refine blk_put (cs := #[.bool false, .slice none 0 0]) ?_ 0 _ rfl; (with_reducible repeat (first | refine blk_drewN ?_ _ | refine blk_drew ?_ | refine blk_alloc ?_ _)); exact BK192.out) hb); have n3 := Aside0.mk (below_step (by repeat (first | (with_reducible first | exact HB.out | apply below_alloc | apply pw_below_drewN | apply below_drew1 | refine below_set ?_ GE189.out | refine below_set ?_ GE190.out | refine below_set ?_ GE192.out) | exact HB.out)) hb); have n4 := Aside0.mk (hbox); have n5 := Aside0.mk ((by rw [hg]; exact (below_size (by repeat (first | (with_reducible first | exact HB.out | apply below_alloc | apply pw_below_drewN | apply below_drew1 | refine below_set ?_ GE189.out | refine below_set ?_ GE190.out | refine below_set ?_ GE192.out) | exact HB.out))) : w.heap.size ≤ gb196)); have n6 := Aside0.mk ((by rw [hg]; exact (below_size (by repeat (first | (with_reducible first | exact HB.out | apply below_alloc | apply pw_below_drewN | apply below_drew1 | refine below_set ?_ GE189.out | refine below_set ?_ GE190.out | refine below_set ?_ GE192.out) | exact HB.out))) : w.heap.size ≤ gb196)); have n7 := Aside0.mk ((by rw [hg]; exact Nat.ne_of_lt (blk_lt (g := gb189) (o := .cells #[.slice (some ad191) l0_0.length c0_0, .int .i64 a0_1] 24 (0, 0)) (by (with_reducible repeat (first | refine blk_drewN ?_ _ | refine blk_drew ?_ | refine blk_alloc ?_ _)); refine blk_far ?_ NB189_192.out _; (with_reducible repeat (first | refine blk_drewN ?_ _ | refine blk_drew ?_ | refine blk_alloc ?_ _)); refine blk_far ?_ NB189_192.out _; (with_reducible repeat (first | refine blk_drewN ?_ _ | refine blk_drew ?_ | refine blk_alloc ?_ _)); exact BK189.out)) : gb189 ≠ gb196)); have n8 := Aside0.mk ((by rw [hg]; exact Nat.ne_of_gt (blk_lt (g := gb189) (o := .cells #[.slice (some ad191) l0_0.length c0_0, .int .i64 a0_1] 24 (0, 0)) (by (with_reducible repeat (first | refine blk_drewN ?_ _ | refine blk_drew ?_ | refine blk_alloc ?_ _)); refine blk_far ?_ NB189_192.out _; (with_reducible repeat (first | refine blk_drewN ?_ _ | refine blk_drew ?_ | refine blk_alloc ?_ _)); refine blk_far ?_ NB189_192.out _; (with_reducible repeat (first | refine blk_drewN ?_ _ | refine blk_drew ?_ | refine blk_alloc ?_ _)); exact BK189.out)) : gb196 ≠ gb189)); have n9 := Aside0.mk ((by rw [hg]; exact Nat.ne_of_lt (blk_lt (g := gb190) (o := .cells #[.int .i64 0, .int .i64 0, .int .i64 0, .bool false] 89 (0, 0)) (by (with_reducible repeat (first | refine blk_drewN ?_ _ | refine blk_drew ?_ | refine blk_alloc ?_ _)); refine blk_far ?_ NB190_192.out _; (with_reducible repeat (first | refine blk_drewN ?_ _ | refine blk_drew ?_ | refine blk_alloc ?_ _)); refine blk_far ?_ NB190_192.out _; (with_reducible repeat (first | refine blk_drewN ?_ _ | refine blk_drew ?_ | refine blk_alloc ?_ _)); exact BK190.out)) : gb190 ≠ gb196)); have n10 := Aside0.mk ((by rw [hg]; exact Nat.ne_of_gt (blk_lt (g := gb190) (o := .cells #[.int .i64 0, .int .i64 0, .int .i64 0, .bool false] 89 (0, 0)) (by (with_reducible repeat (first | refine blk_drewN ?_ _ | refine blk_drew ?_ | refine blk_alloc ?_ _)); refine blk_far ?_ NB190_192.out _; (with_reducible repeat (first | refine blk_drewN ?_ _ | refine blk_drew ?_ | refine blk_alloc ?_ _)); refine blk_far ?_ NB190_192.out _; (with_reducible repeat (first | refine blk_drewN ?_ _ | refine blk_drew ?_ | refine blk_alloc ?_ _)); exact BK190.out)) : gb196 ≠ gb190)); have n11 := Aside0.mk ((by rw [hg]; exact Nat.ne_of_lt (blk_lt (g := gb192) (o := .cells #[.bool false, .slice A191_3 ((rd_T55 l0_0 a1).f2.f1).length c191_3] 53 (0, 0)) (by (with_reducible repeat (first | refine blk_drewN ?_ _ | refine blk_drew ?_ | refine blk_alloc ?_ _)); refine blk_put (cs := #[.bool false, .slice none 0 0]) ?_ 1 _ rfl; (with_reducible repeat (first | refine blk_drewN ?_ _ | refine blk_drew ?_ | refine blk_alloc ?_ _)); refine blk_put (cs := #[.bool false, .slice none 0 0]) ?_ 0 _ rfl; (with_reducible repeat (first | refine blk_drewN ?_ _ | refine blk_drew ?_ | refine blk_alloc ?_ _)); exact BK192.out)) : gb192 ≠ gb196)); have n12 := Aside0.mk ((by rw [hg]; exact Nat.ne_of_gt (blk_lt (g := gb192) (o := .cells #[.bool false, .slice A191_3 ((rd_T55 l0_0 a1).f2.f1).length c191_3] 53 (0, 0)) (by (with_reducible repeat (first | refine blk_drewN ?_ _ | refine blk_drew ?_ | refine blk_alloc ?_ _)); refine blk_put (cs := #[.bool false, .slice none 0 0]) ?_ 1 _ rfl; (with_reducible repeat (first | refine blk_drewN ?_ _ | refine blk_drew ?_ | refine blk_alloc ?_ _)); refine blk_put (cs := #[.bool false, .slice none 0 0]) ?_ 0 _ rfl; (with_reducible repeat (first | refine blk_drewN ?_ _ | refine blk_drew ?_ | refine blk_alloc ?_ _)); exact BK192.out)) : gb196 ≠ gb192)); clear BK189; clear BK190; clear BK192; clear HB; have BK189 := n0; have BK190 := n1; have BK192 := n2; have HB := n3; have BK196 := n4; have GW196 := n5; have GE196 := n6; have NB189_196 := n7; have NB196_189 := n8; have NB190_196 := n9; have NB196_190 := n10; have NB192_196 := n11; have NB196_192 := n12; clear n0 n1 n2 n3 n4 n5 n6 n7 n8 n9 n10 n11 n12; clear hb hbox hg; have hnb59 := NB196_189.out; have hnc59 := NB189_196.out; have hnb60 := NB196_190.out; have hnc60 := NB190_196.out; have hnb61 := NB196_192.out; have hnc61 := NB192_196.out; have hcz62_0 : w58.cell? ⟨gb196, 0, none⟩ = some (.int .i64 0) := (blk_cell BK196.out 0).trans rfl; have hcz62_1 : w58.cell? ⟨gb196, 1, none⟩ = some (.int .i64 0) := (blk_cell BK196.out 1).trans rfl; have hcz62_2 : w58.cell? ⟨gb196, 2, none⟩ = some (.int .i64 0) := (blk_cell BK196.out 2).trans rfl; have hcz62_3 : w58.cell? ⟨gb196, 3, none⟩ = some (.bool false) := (blk_cell BK196.out 3).trans rfl; have hfz62_0 := blk_frozen BK196.out 0; have hfz62_1 := blk_frozen BK196.out 1; have hfz62_2 := blk_frozen BK196.out 2; have hfz62_3 := blk_frozen BK196.out 3))
      go_loopg [9] k (fun kq v9 w' => ∃ (x9_1 : Int) (x191000_1 : Int) (x191001_1 : Int) (x191002_1 : Int) (x191003_1 : Bool) (x197000_1 : Int) (x197001_1 : Int) (x197002_1 : Int), v9 = .int .i64 x9_1 ∧ Aside0 (assartref07_below.l0 kq a2 x9_1 l0_0 a0_1 false ((rd_T55 l0_0 a1).f2.f1) x197000_1 x197001_1 x197002_1 false = some (r1, r2, r3, r4)) ∧ Aside0 (kq ≤ k) ∧ Aside0 (w'.heap[gb189]? = some (.cells #[(.slice (some ad191) l0_0.length c0_0), .int .i64 a0_1] 24 (0, 0))) ∧ Aside0 (w'.heap[gb190]? = some (.cells #[.int .i64 x191000_1, .int .i64 x191001_1, .int .i64 x191002_1, .bool x191003_1] 89 (0, 0))) ∧ Aside0 (w'.heap[gb192]? = some (.cells #[.bool false, (.slice A191_3 ((rd_T55 l0_0 a1).f2.f1).length c191_3)] 53 (0, 0))) ∧ Aside0 (w'.heap[gb196]? = some (.cells #[.int .i64 x197000_1, .int .i64 x197001_1, .int .i64 x197002_1, .bool false] 89 (0, 0))) ∧ Aside0 (Below w.heap.size w w'))
      case atStart => exact ⟨(0), (0), (0), (0), (false), (0), (0), (0), (by first | rfl | (simp; done) | (simp [*]; done)), H', ⟨Nat.le_refl _⟩, ⟨by (with_reducible repeat (first | refine blk_drewN ?_ _ | refine blk_drew ?_ | refine blk_alloc ?_ _)); refine blk_far ?_ NB189_196.out _; (with_reducible repeat (first | refine blk_drewN ?_ _ | refine blk_drew ?_ | refine blk_alloc ?_ _)); refine blk_far ?_ NB189_196.out _; (with_reducible repeat (first | refine blk_drewN ?_ _ | refine blk_drew ?_ | refine blk_alloc ?_ _)); refine blk_far ?_ NB189_196.out _; (with_reducible repeat (first | refine blk_drewN ?_ _ | refine blk_drew ?_ | refine blk_alloc ?_ _)); refine blk_far ?_ NB189_196.out _; (with_reducible repeat (first | refine blk_drewN ?_ _ | refine blk_drew ?_ | refine blk_alloc ?_ _)); exact BK189.out⟩, ⟨by (with_reducible repeat (first | refine blk_drewN ?_ _ | refine blk_drew ?_ | refine blk_alloc ?_ _)); refine blk_far ?_ NB190_196.out _; (with_reducible repeat (first | refine blk_drewN ?_ _ | refine blk_drew ?_ | refine blk_alloc ?_ _)); refine blk_far ?_ NB190_196.out _; (with_reducible repeat (first | refine blk_drewN ?_ _ | refine blk_drew ?_ | refine blk_alloc ?_ _)); refine blk_far ?_ NB190_196.out _; (with_reducible repeat (first | refine blk_drewN ?_ _ | refine blk_drew ?_ | refine blk_alloc ?_ _)); refine blk_far ?_ NB190_196.out _; (with_reducible repeat (first | refine blk_drewN ?_ _ | refine blk_drew ?_ | refine blk_alloc ?_ _)); exact BK190.out⟩, ⟨by (with_reducible repeat (first | refine blk_drewN ?_ _ | refine blk_drew ?_ | refine blk_alloc ?_ _)); refine blk_far ?_ NB192_196.out _; (with_reducible repeat (first | refine blk_drewN ?_ _ | refine blk_drew ?_ | refine blk_alloc ?_ _)); refine blk_far ?_ NB192_196.out _; (with_reducible repeat (first | refine blk_drewN ?_ _ | refine blk_drew ?_ | refine blk_alloc ?_ _)); refine blk_far ?_ NB192_196.out _; (with_reducible repeat (first | refine blk_drewN ?_ _ | refine blk_drew ?_ | refine blk_alloc ?_ _)); refine blk_far ?_ NB192_196.out _; (with_reducible repeat (first | refine blk_drewN ?_ _ | refine blk_drew ?_ | refine blk_alloc ?_ _)); exact BK192.out⟩, ⟨by (with_reducible repeat (first | refine blk_drewN ?_ _ | refine blk_drew ?_ | refine blk_alloc ?_ _)); refine blk_put (cs := #[.int .i64 0, .int .i64 0, .int .i64 0, .bool false]) ?_ 3 _ rfl; (with_reducible repeat (first | refine blk_drewN ?_ _ | refine blk_drew ?_ | refine blk_alloc ?_ _)); refine blk_put (cs := #[.int .i64 0, .int .i64 0, .int .i64 0, .bool false]) ?_ 2 _ rfl; (with_reducible repeat (first | refine blk_drewN ?_ _ | refine blk_drew ?_ | refine blk_alloc ?_ _)); refine blk_put (cs := #[.int .i64 0, .int .i64 0, .int .i64 0, .bool false]) ?_ 1 _ rfl; (with_reducible repeat (first | refine blk_drewN ?_ _ | refine blk_drew ?_ | refine blk_alloc ?_ _)); refine blk_put (cs := #[.int .i64 0, .int .i64 0, .int .i64 0, .bool false]) ?_ 0 _ rfl; (with_reducible repeat (first | refine blk_drewN ?_ _ | refine blk_drew ?_ | refine blk_alloc ?_ _)); exact BK196.out⟩, ⟨by repeat (first | (with_reducible first | exact HB.out | apply below_alloc | apply pw_below_drewN | apply below_drew1 | refine below_set ?_ GE189.out | refine below_set ?_ GE190.out | refine below_set ?_ GE192.out | refine below_set ?_ GE196.out) | exact HB.out)⟩⟩
      case round =>
       clear H'
       try clear c1
       try clear p1
       try clear q1
       try clear hx1
       try clear qi1
       try clear c2
       try clear p2
       try clear c3
       try clear c4
       try clear c4b0
       try clear c5
       try clear c5b0
       try clear c6
       try clear c6b0
       try clear p6
       try clear c9
       try clear c12
       try clear c13
       try clear q17
       try clear c18
       try clear c19
       try clear c19b0
       try clear c19b1
       try clear p19
       try clear q19
       try clear hx19
       try clear qi19
       try clear c21
       try clear c21b0
       try clear c22
       try clear c22b0
       try clear c25
       try clear c28
       try clear c29
       try clear c38
       try clear c38b0
       try clear c41
       try clear c44
       try clear c45
       try clear c51
       try clear c54
       try clear c55
       try clear c57
       try clear c59
       try clear c60
       try clear c61
       try clear hcz10_0
       try clear hcz10_1
       try clear hcz14_0
       try clear hcz14_1
       try clear hcz15_0
       try clear hcz15_1
       try clear hcz16_0
       try clear hcz16_1
       try clear hcz16_2
       try clear hcz16_3
       try clear hcz26_0
       try clear hcz26_1
       try clear hcz30_0
       try clear hcz30_1
       try clear hcz31_0
       try clear hcz31_1
       try clear hcz42_0
       try clear hcz42_1
       try clear hcz46_0
       try clear hcz46_1
       try clear hcz47_0
       try clear hcz47_1
       try clear hcz48_0
       try clear hcz48_1
       try clear hcz48_2
       try clear hcz48_3
       try clear hcz52_0
       try clear hcz52_1
       try clear hcz56_0
       try clear hcz56_1
       try clear hcz57_0
       try clear hcz57_1
       try clear hcz62_0
       try clear hcz62_1
       try clear hcz62_2
       try clear hcz62_3
       try clear hfz10_0
       try clear hfz10_1
       try clear hfz14_0
       try clear hfz14_1
       try clear hfz15_0
       try clear hfz15_1
       try clear hfz16_0
       try clear hfz16_1
       try clear hfz16_2
       try clear hfz16_3
       try clear hfz26_0
       try clear hfz26_1
       try clear hfz30_0
       try clear hfz30_1
       try clear hfz31_0
       try clear hfz31_1
       try clear hfz42_0
       try clear hfz42_1
       try clear hfz46_0
       try clear hfz46_1
       try clear hfz47_0
       try clear hfz47_1
       try clear hfz48_0
       try clear hfz48_1
       try clear hfz48_2
       try clear hfz48_3
       try clear hfz52_0
       try clear hfz52_1
       try clear hfz56_0
       try clear hfz56_1
       try clear hfz57_0
       try clear hfz57_1
       try clear hfz62_0
       try clear hfz62_1
       try clear hfz62_2
       try clear hfz62_3
       try clear hx191_0
       try clear hx191_1
       try clear hx191_2
       try clear hx191_3
       try clear hx193_0
       try clear hx193_1
       try clear hx193_2
       try clear hx193_3
       try clear hx194_0
       try clear hx194_1
       try clear hx195_0
       try clear hx195_1
       try clear p191
       try clear p193
       try clear p194
       try clear p195
       try clear q191
       try clear q193
       try clear q194
       try clear q195
       obtain ⟨x9_1, x191000_1, x191001_1, x191002_1, x191003_1, x197000_1, x197001_1, x197002_1, rfl, HA, HK1, BK189, BK190, BK192, BK196, HB⟩ := hrel
       cases gk with
       | zero => exact absurd HA.out (by simp [assartref07_below.l0])
       | succ k1 =>
        have H := HA.out
        clear HA
        simp only [assartref07_below.l0] at H
        by_cases c63 : x9_1 < (((rd_T55 l0_0 a1).f2.f1).length : Int)
        ·rw [if_pos c63] at H
         have c63b0 : decide (x9_1 < (((rd_T55 l0_0 a1).f2.f1).length : Int)) = true := decide_eq_true c63
         clear c63
         by_cases c64 : 0 ≤ x9_1
         ·rw [if_pos c64] at H
          have c64b0 : decide (0 ≤ x9_1) = true := decide_eq_true c64
          clear c64
          replace H := Option.bind_eq_some_iff.mp H
          obtain ⟨⟨t198, t199, t200, t201⟩, A650, H⟩ := H
          replace H : (if t201 = true then (if t198 = ((rd_T49 ((rd_T55 l0_0 a1).f2.f1) x9_1).f0) then (if x9_1 > 0 then (if x197001_1 ≥ t198 then (assartref07_below.j1 k1 a2 x9_1 true l0_0 a0_1 false ((rd_T55 l0_0 a1).f2.f1) x197000_1 x197001_1 x197002_1 false t198 t199 t200 t201) else (assartref07_below.j1 k1 a2 x9_1 (x197002_1 != (wrap64 (t200 + 1))) l0_0 a0_1 false ((rd_T55 l0_0 a1).f2.f1) x197000_1 x197001_1 x197002_1 false t198 t199 t200 t201)) else (assartref07_below.j1 k1 a2 x9_1 false l0_0 a0_1 false ((rd_T55 l0_0 a1).f2.f1) x197000_1 x197001_1 x197002_1 false t198 t199 t200 t201)) else (assartref07_below.j1 k1 a2 x9_1 true l0_0 a0_1 false ((rd_T55 l0_0 a1).f2.f1) x197000_1 x197001_1 x197002_1 false t198 t199 t200 t201)) else (assartref07_below.j1 k1 a2 x9_1 true l0_0 a0_1 false ((rd_T55 l0_0 a1).f2.f1) x197000_1 x197001_1 x197002_1 false t198 t199 t200 t201)) = some (r1, r2, r3, r4) := H
          have A65 := Aside0.mk A650
          clear A650
          have HC66 := Aside0.mk H
          clear H
          have hnb67 := NB192_189.out
          have hnc67 := NB189_192.out
          have hnb68 := NB192_190.out
          have hnc68 := NB190_192.out
          have hnb69 := NB192_196.out
          have hnc69 := NB196_192.out
          have hcz70_0 : wr.cell? ⟨gb192, 0, none⟩ = some (.bool false) := (blk_cell BK192.out 0).trans rfl
          have hcz70_1 : wr.cell? ⟨gb192, 1, none⟩ = some (.slice A191_3 ((rd_T55 l0_0 a1).f2.f1).length c191_3) := (blk_cell BK192.out 1).trans rfl
          have hfz70_0 := blk_frozen BK192.out 0
          have hfz70_1 := blk_frozen BK192.out 1
          try go_wp2
          have n0 := Aside0.mk (blk_drew BK189.out)
          have n1 := Aside0.mk (blk_drew BK190.out)
          have n2 := Aside0.mk (blk_drew BK192.out)
          have n3 := Aside0.mk (blk_drew BK196.out)
          have n4 := Aside0.mk (below_drew1 HB.out)
          clear BK189
          clear BK190
          clear BK192
          clear BK196
          clear HB
          have BK189 := n0
          have BK190 := n1
          have BK192 := n2
          have BK196 := n3
          have HB := n4
          clear n0 n1 n2 n3 n4
          have p197 : 0 ≤ (x9_1 : Int) := of_decide_eq_true (by first | (with_reducible assumption) | assumption)
          have q197 : x9_1 < (((rd_T55 l0_0 a1).f2.f1).length : Int) := of_decide_eq_true (by first | (with_reducible assumption) | assumption)
          obtain ⟨ad197, e197, hx197_0, hx197_1⟩ := at_T49 HR191_3.out x9_1 p197 q197
          have hw197_1 := hx197_1
          have hw197_0 := hx197_0
          cases e197
          replace hx197_0 := (HB.out.cell (World.block_lt_of_cell? w _ hx197_0)).trans hx197_0
          replace hx197_1 := (HB.out.cell (World.block_lt_of_cell? w _ hx197_1)).trans hx197_1
          replace p197 := eq_true p197
          replace q197 := eq_true q197
          refine start_ (n := 12) (S := fun w' => w'.cell? ⟨gb189, 0, none⟩ = some (.slice (some ad191) l0_0.length c0_0) ∧ w'.cell? ⟨gb189, 1, none⟩ = some (.int .i64 a0_1) ∧ w'.cell? ⟨gb192, 0, none⟩ = some (.bool false) ∧ w'.cell? ⟨gb192, 1, none⟩ = some (.slice (some ad197) ((rd_T55 l0_0 a1).f2.f1).length c191_3) ∧ w'.cell? (ad197.add ((x9_1).toNat * 2)) = some (.int .i64 ((rd_T49 ((rd_T55 l0_0 a1).f2.f1) x9_1).f0)) ∧ w'.cell? ⟨(ad197.add ((x9_1).toNat * 2)).block, (ad197.add ((x9_1).toNat * 2)).off + 1, none⟩ = some (.int .i64 ((rd_T49 ((rd_T55 l0_0 a1).f2.f1) x9_1).f1))) (ds := []) #[false, false, false, false, false, false, false, false, false, false, false, false] (by kernel_rfl) rfl rfl ⟨(blk_cell BK189.out 0).trans rfl, (blk_cell BK189.out 1).trans rfl, (blk_cell BK192.out 0).trans rfl, (blk_cell BK192.out 1).trans rfl, ((HB.out.cell (World.block_lt_of_cell? w _ hw197_0)).trans hw197_0), ((HB.out.cell (World.block_lt_of_cell? w _ hw197_1)).trans hw197_1)⟩ (fun hHeld => ?_); refine with_tabW assartref07_below.tab12 assartref07_below.bits12 (fun HT_ HW_ => ?_)
          generalize wr.drew = w71 at BK189 BK190 BK192 BK196 HB hx197_0 hx197_1 hHeld ⊢
          refine pure_ (i := 1) (N := some 56) (v := ?_) (a' := ?_) #[false, true, false, false, false, false, false, false, false, false, false, false] rfl rfl (any_of HT_.out (by kernel_rfl)) (fun _ _ _ h => h) (Or.inl ⟨by rfl, ?_⟩) ?_ ?_
          rotate_left
          ·intro w'
           go_simp
           with_reducible rfl
          rotate_left
          ·simp only [Act.put, List.setIfInBounds_toArray, List.set_cons_zero, List.set_cons_succ, i64_w, i32_w]
           rfl
          refine pure_ (i := 3) (N := some 58) (v := ?_) (a' := ?_) #[false, true, false, true, false, false, false, false, false, false, false, false] rfl rfl (any_of HT_.out (by kernel_rfl)) (fun _ _ _ h => h) (Or.inl ⟨by rfl, ?_⟩) ?_ ?_
          rotate_left
          ·intro w'
           go_simp
           with_reducible rfl
          rotate_left
          ·simp only [Act.put, List.setIfInBounds_toArray, List.set_cons_zero, List.set_cons_succ, i64_w, i32_w]
           rfl
          refine pure_ (i := 7) (N := some 62) (v := ?_) (a' := ?_) #[false, true, false, true, false, false, false, true, false, false, false, false] rfl rfl (any_of HT_.out (by kernel_rfl)) (fun _ _ _ h => h) (Or.inl ⟨by rfl, ?_⟩) ?_ ?_
          rotate_left
          ·intro w'
           go_simp
           with_reducible rfl
          rotate_left
          ·simp only [Act.put, List.setIfInBounds_toArray, List.set_cons_zero, List.set_cons_succ, i64_w, i32_w]
           rfl
          refine pure_ (i := 8) (N := some 63) (v := ?_) (a' := ?_) #[false, true, false, true, false, false, false, true, true, false, false, false] rfl rfl (any_of HT_.out (by kernel_rfl)) (fun _ _ _ h => h) (Or.inl ⟨by rfl, ?_⟩) ?_ ?_
          rotate_left
          ·intro w'
           go_simp
           with_reducible rfl
          rotate_left
          ·simp only [Act.put, List.setIfInBounds_toArray, List.set_cons_zero, List.set_cons_succ, i64_w, i32_w]
           rfl
          refine take_ (i := 0) (N := some 55) (v := ?_) (a' := ?_) #[true, true, false, true, false, false, false, true, true, false, false, false] rfl rfl (take_ofW HT_.out HW_.out (by kernel_rfl)) (fun _ _ _ h => h) (Or.inl ⟨by rfl, ?_⟩) hHeld ?_ ?_
          rotate_left
          ·rintro w' ⟨s0, s1, s2, s3, s4, s5⟩
           go_simp
           with_reducible rfl
          rotate_left
          ·simp only [Act.put, List.setIfInBounds_toArray, List.set_cons_zero, List.set_cons_succ, i64_w, i32_w]
           rfl
          refine take_ (i := 2) (N := some 57) (v := ?_) (a' := ?_) #[true, true, true, true, false, false, false, true, true, false, false, false] rfl rfl (take_ofW HT_.out HW_.out (by kernel_rfl)) (fun _ _ _ h => h) (Or.inl ⟨by rfl, ?_⟩) hHeld ?_ ?_
          rotate_left
          ·rintro w' ⟨s0, s1, s2, s3, s4, s5⟩
           go_simp
           with_reducible rfl
          rotate_left
          ·simp only [Act.put, List.setIfInBounds_toArray, List.set_cons_zero, List.set_cons_succ, i64_w, i32_w]
           rfl
          refine pure_ (i := 4) (N := some 59) (v := ?_) (a' := ?_) #[true, true, true, true, true, false, false, true, true, false, false, false] rfl rfl (any_of HT_.out (by kernel_rfl)) (fun _ _ _ h => h) (Or.inl ⟨by rfl, ?_⟩) ?_ ?_
          rotate_left
          ·intro w'
           go_simp
           with_reducible rfl
          rotate_left
          ·simp only [Act.put, List.setIfInBounds_toArray, List.set_cons_zero, List.set_cons_succ, i64_w, i32_w]
           rfl
          refine pure_ (i := 5) (N := some 60) (v := ?_) (a' := ?_) #[true, true, true, true, true, true, false, true, true, false, false, false] rfl rfl (any_of HT_.out (by kernel_rfl)) (fun _ _ _ h => h) (Or.inl ⟨by rfl, ?_⟩) ?_ ?_
          rotate_left
          ·intro w'
           go_simp
           with_reducible rfl
          rotate_left
          ·simp only [Act.put, List.setIfInBounds_toArray, List.set_cons_zero, List.set_cons_succ, i64_w, i32_w]
           rfl
          refine take_ (i := 6) (N := some 61) (v := ?_) (a' := ?_) #[true, true, true, true, true, true, true, true, true, false, false, false] rfl rfl (take_ofW HT_.out HW_.out (by kernel_rfl)) (fun _ _ _ h => h) (Or.inl ⟨by rfl, ?_⟩) hHeld ?_ ?_
          rotate_left
          ·rintro w' ⟨s0, s1, s2, s3, s4, s5⟩
           go_simp
           with_reducible rfl
          rotate_left
          ·simp only [Act.put, List.setIfInBounds_toArray, List.set_cons_zero, List.set_cons_succ, i64_w, i32_w]
           rfl
          refine join_ (σ := Nat) 1 #[true, true, true, true, true, true, true, true, true, true, true, false] (fun s_ => [(64, .agg #[.int .i64 t198, .int .i64 t199, .int .i64 t200, .bool t201]), (10, .pointer (some ⟨s_, 0, none⟩))]) (fun s_ w' => (w'.cell? ⟨gb189, 0, none⟩ = some (.slice (some ad191) l0_0.length c0_0) ∧ w'.cell? ⟨gb189, 1, none⟩ = some (.int .i64 a0_1) ∧ w'.cell? ⟨gb192, 0, none⟩ = some (.bool false) ∧ w'.cell? ⟨gb192, 1, none⟩ = some (.slice (some ad197) ((rd_T55 l0_0 a1).f2.f1).length c191_3) ∧ w'.cell? (ad197.add ((x9_1).toNat * 2)) = some (.int .i64 ((rd_T49 ((rd_T55 l0_0 a1).f2.f1) x9_1).f0)) ∧ w'.cell? ⟨(ad197.add ((x9_1).toNat * 2)).block, (ad197.add ((x9_1).toNat * 2)).off + 1, none⟩ = some (.int .i64 ((rd_T49 ((rd_T55 l0_0 a1).f2.f1) x9_1).f1))) ∧ (w'.heap[gb189]? = some (.cells #[.slice (some ad191) l0_0.length c0_0, .int .i64 a0_1] 24 (0, 0))) ∧ (w'.heap[gb190]? = some (.cells #[.int .i64 x191000_1, .int .i64 x191001_1, .int .i64 x191002_1, .bool x191003_1] 89 (0, 0))) ∧ (w'.heap[gb192]? = some (.cells #[.bool false, .slice (some ad197) ((rd_T55 l0_0 a1).f2.f1).length c191_3] 53 (0, 0))) ∧ (w'.heap[gb196]? = some (.cells #[.int .i64 x197000_1, .int .i64 x197001_1, .int .i64 x197002_1, .bool false] 89 (0, 0))) ∧ (w'.heap[s_]? = some (.cells #[.int .i64 0, .int .i64 0, .int .i64 0, .bool false] 89 (0, 0))) ∧ (w.heap.size ≤ s_) ∧ (w.heap.size ≤ s_) ∧ (gb189 ≠ s_) ∧ (s_ ≠ gb189) ∧ (gb190 ≠ s_) ∧ (s_ ≠ gb190) ∧ (gb192 ≠ s_) ∧ (s_ ≠ gb192) ∧ (gb196 ≠ s_) ∧ (s_ ≠ gb196) ∧ (Below w.heap.size w w')) ?_ ?_
          rotate_left
          ·intro hCont
           refine two_ (i := 9) (j := 10) (Ni := some 64) (Nj := some 10) #[true, true, true, true, true, true, true, true, true, true, false, false] #[true, true, true, true, true, true, true, true, true, false, true, false] rfl rfl rfl rfl (two_of HT_.out (by kernel_rfl)) (by decide) (by decide) (fun K hK => ?_) (fun K hK => ?_)
           ·skip
            refine goes_ Try.func57 (by kernel_rfl) rfl #[.agg #[.slice (some ad191) l0_0.length c0_0, .int .i64 a0_1], .int .i64 ((rd_T49 ((rd_T55 l0_0 a1).f2.f1) x9_1).f1), .int .i64 (wrap64 (a2 - 1))] (by rfl) rfl rfl (by (try simp only [List.map_toArray, List.map_cons, List.map_nil]); first | done | rfl | (simp only [List.length_drop, List.length_take]; rfl)) ?_
            with_reducible refine (ih k1 (by have := HK1.out; omega) _ _ l0_0 a0_1 ((rd_T49 ((rd_T55 l0_0 a1).f2.f1) x9_1).f1) (wrap64 (a2 - 1)) t198 t199 t200 t201 _ ?side1 ?side2 A65.out).mono ?_
            (case side1 => repeat (first | exact (Kd.C_below HR0_0.out HB.out) | (with_reducible refine Kd.C_alloc ?_ _) | (with_reducible refine Kd.C_drewN ?_ _) | (with_reducible refine Kd.C_drew ?_)))
            (case side2 => exact HC0_0.out)
            rintro e w72 ⟨rfl, hb⟩
            refine ⟨_, rfl, ?_⟩
            have n0 := Aside0.mk (blk_below (g := gb189) (o := .cells #[.slice (some ad191) l0_0.length c0_0, .int .i64 a0_1] 24 (0, 0)) (by (with_reducible repeat (first | refine blk_drewN ?_ _ | refine blk_drew ?_ | refine blk_alloc ?_ _)); exact BK189.out) hb)
            have n1 := Aside0.mk (blk_below (g := gb190) (o := .cells #[.int .i64 x191000_1, .int .i64 x191001_1, .int .i64 x191002_1, .bool x191003_1] 89 (0, 0)) (by (with_reducible repeat (first | refine blk_drewN ?_ _ | refine blk_drew ?_ | refine blk_alloc ?_ _)); exact BK190.out) hb)
            have n2 := Aside0.mk (blk_below (g := gb192) (o := .cells #[.bool false, .slice (some ad197) ((rd_T55 l0_0 a1).f2.f1).length c191_3] 53 (0, 0)) (by (with_reducible repeat (first | refine blk_drewN ?_ _ | refine blk_drew ?_ | refine blk_alloc ?_ _)); exact BK192.out) hb)
            have n3 := Aside0.mk (blk_below (g := gb196) (o := .cells #[.int .i64 x197000_1, .int .i64 x197001_1, .int .i64 x197002_1, .bool false] 89 (0, 0)) (by (with_reducible repeat (first | refine blk_drewN ?_ _ | refine blk_drew ?_ | refine blk_alloc ?_ _)); exact BK196.out) hb)
            have n4 := Aside0.mk (below_step (by repeat (first | (with_reducible first | exact HB.out | apply below_alloc | apply pw_below_drewN | apply below_drew1 | refine below_set ?_ GE189.out | refine below_set ?_ GE190.out | refine below_set ?_ GE192.out | refine below_set ?_ GE196.out) | exact HB.out)) hb)
            clear BK189
            clear BK190
            clear BK192
            clear BK196
            clear HB
            have BK189 := n0
            have BK190 := n1
            have BK192 := n2
            have BK196 := n3
            have HB := n4
            clear n0 n1 n2 n3 n4
            (try clear hb)
            (try clear hb2)
            (try clear hk)
            (try clear hi)
            refine hK.out _ _ ⟨(blk_cell BK189.out 0).trans rfl, (blk_cell BK189.out 1).trans rfl, (blk_cell BK192.out 0).trans rfl, (blk_cell BK192.out 1).trans rfl, ((HB.out.cell (World.block_lt_of_cell? w _ hw197_0)).trans hw197_0), ((HB.out.cell (World.block_lt_of_cell? w _ hw197_1)).trans hw197_1)⟩ (fun hHeld => ?_)
            clear hK K
            refine norm_ (a' := ?_) ?_ ?_
            rotate_left
            ·show Act.put _ (some 64) _ = _
             simp only [Act.put, List.setIfInBounds_toArray, List.set_cons_zero, List.set_cons_succ, i64_w, i32_w]
             rfl
            refine one_ (i := 10) (N := some 10) #[true, true, true, true, true, true, true, true, true, true, true, false] rfl rfl (one_of HT_.out (by kernel_rfl)) (by decide) (fun K hK => ?_)
            refine box_step ?hg (N := 10) ?hd (cs := #[.int .i64 0, .int .i64 0, .int .i64 0, .bool false]) (t := 89) ?hr ?_; (case hd => rfl); (case hg => rfl); (case hr => first | (go_simp; done) | (go_simp; rfl))
            intro gb202 hg w73 hbox hb
            have n0 := Aside0.mk (blk_below (g := gb189) (o := .cells #[.slice (some ad191) l0_0.length c0_0, .int .i64 a0_1] 24 (0, 0)) (by (with_reducible repeat (first | refine blk_drewN ?_ _ | refine blk_drew ?_ | refine blk_alloc ?_ _)); exact BK189.out) hb)
            have n1 := Aside0.mk (blk_below (g := gb190) (o := .cells #[.int .i64 x191000_1, .int .i64 x191001_1, .int .i64 x191002_1, .bool x191003_1] 89 (0, 0)) (by (with_reducible repeat (first | refine blk_drewN ?_ _ | refine blk_drew ?_ | refine blk_alloc ?_ _)); exact BK190.out) hb)
            have n2 := Aside0.mk (blk_below (g := gb192) (o := .cells #[.bool false, .slice (some ad197) ((rd_T55 l0_0 a1).f2.f1).length c191_3] 53 (0, 0)) (by (with_reducible repeat (first | refine blk_drewN ?_ _ | refine blk_drew ?_ | refine blk_alloc ?_ _)); exact BK192.out) hb)
            have n3 := Aside0.mk (blk_below (g := gb196) (o := .cells #[.int .i64 x197000_1, .int .i64 x197001_1, .int .i64 x197002_1, .bool false] 89 (0, 0)) (by (with_reducible repeat (first | refine blk_drewN ?_ _ | refine blk_drew ?_ | refine blk_alloc ?_ _)); exact BK196.out) hb)
            have n4 := Aside0.mk (below_step (by repeat (first | (with_reducible first | exact HB.out | apply below_alloc | apply pw_below_drewN | apply below_drew1 | refine below_set ?_ GE189.out | refine below_set ?_ GE190.out | refine below_set ?_ GE192.out | refine below_set ?_ GE196.out) | exact HB.out)) hb)
            have n5 := Aside0.mk (hbox)
            have n6 := Aside0.mk ((by rw [hg]; exact (below_size (by repeat (first | (with_reducible first | exact HB.out | apply below_alloc | apply pw_below_drewN | apply below_drew1 | refine below_set ?_ GE189.out | refine below_set ?_ GE190.out | refine below_set ?_ GE192.out | refine below_set ?_ GE196.out) | exact HB.out))) : w.heap.size ≤ gb202))
            have n7 := Aside0.mk ((by rw [hg]; exact (below_size (by repeat (first | (with_reducible first | exact HB.out | apply below_alloc | apply pw_below_drewN | apply below_drew1 | refine below_set ?_ GE189.out | refine below_set ?_ GE190.out | refine below_set ?_ GE192.out | refine below_set ?_ GE196.out) | exact HB.out))) : w.heap.size ≤ gb202))
            have n8 := Aside0.mk ((by rw [hg]; exact Nat.ne_of_lt (blk_lt (g := gb189) (o := .cells #[.slice (some ad191) l0_0.length c0_0, .int .i64 a0_1] 24 (0, 0)) (by (with_reducible repeat (first | refine blk_drewN ?_ _ | refine blk_drew ?_ | refine blk_alloc ?_ _)); exact BK189.out)) : gb189 ≠ gb202))
            have n9 := Aside0.mk ((by rw [hg]; exact Nat.ne_of_gt (blk_lt (g := gb189) (o := .cells #[.slice (some ad191) l0_0.length c0_0, .int .i64 a0_1] 24 (0, 0)) (by (with_reducible repeat (first | refine blk_drewN ?_ _ | refine blk_drew ?_ | refine blk_alloc ?_ _)); exact BK189.out)) : gb202 ≠ gb189))
            have n10 := Aside0.mk ((by rw [hg]; exact Nat.ne_of_lt (blk_lt (g := gb190) (o := .cells #[.int .i64 x191000_1, .int .i64 x191001_1, .int .i64 x191002_1, .bool x191003_1] 89 (0, 0)) (by (with_reducible repeat (first | refine blk_drewN ?_ _ | refine blk_drew ?_ | refine blk_alloc ?_ _)); exact BK190.out)) : gb190 ≠ gb202))
            have n11 := Aside0.mk ((by rw [hg]; exact Nat.ne_of_gt (blk_lt (g := gb190) (o := .cells #[.int .i64 x191000_1, .int .i64 x191001_1, .int .i64 x191002_1, .bool x191003_1] 89 (0, 0)) (by (with_reducible repeat (first | refine blk_drewN ?_ _ | refine blk_drew ?_ | refine blk_alloc ?_ _)); exact BK190.out)) : gb202 ≠ gb190))
            have n12 := Aside0.mk ((by rw [hg]; exact Nat.ne_of_lt (blk_lt (g := gb192) (o := .cells #[.bool false, .slice (some ad197) ((rd_T55 l0_0 a1).f2.f1).length c191_3] 53 (0, 0)) (by (with_reducible repeat (first | refine blk_drewN ?_ _ | refine blk_drew ?_ | refine blk_alloc ?_ _)); exact BK192.out)) : gb192 ≠ gb202))
            have n13 := Aside0.mk ((by rw [hg]; exact Nat.ne_of_gt (blk_lt (g := gb192) (o := .cells #[.bool false, .slice (some ad197) ((rd_T55 l0_0 a1).f2.f1).length c191_3] 53 (0, 0)) (by (with_reducible repeat (first | refine blk_drewN ?_ _ | refine blk_drew ?_ | refine blk_alloc ?_ _)); exact BK192.out)) : gb202 ≠ gb192))
            have n14 := Aside0.mk ((by rw [hg]; exact Nat.ne_of_lt (blk_lt (g := gb196) (o := .cells #[.int .i64 x197000_1, .int .i64 x197001_1, .int .i64 x197002_1, .bool false] 89 (0, 0)) (by (with_reducible repeat (first | refine blk_drewN ?_ _ | refine blk_drew ?_ | refine blk_alloc ?_ _)); exact BK196.out)) : gb196 ≠ gb202))
            have n15 := Aside0.mk ((by rw [hg]; exact Nat.ne_of_gt (blk_lt (g := gb196) (o := .cells #[.int .i64 x197000_1, .int .i64 x197001_1, .int .i64 x197002_1, .bool false] 89 (0, 0)) (by (with_reducible repeat (first | refine blk_drewN ?_ _ | refine blk_drew ?_ | refine blk_alloc ?_ _)); exact BK196.out)) : gb202 ≠ gb196))
            clear BK189
            clear BK190
            clear BK192
            clear BK196
            clear HB
            have BK189 := n0
            have BK190 := n1
            have BK192 := n2
            have BK196 := n3
            have HB := n4
            have BK202 := n5
            have GW202 := n6
            have GE202 := n7
            have NB189_202 := n8
            have NB202_189 := n9
            have NB190_202 := n10
            have NB202_190 := n11
            have NB192_202 := n12
            have NB202_192 := n13
            have NB196_202 := n14
            have NB202_196 := n15
            clear n0 n1 n2 n3 n4 n5 n6 n7 n8 n9 n10 n11 n12 n13 n14 n15
            clear hb hbox hg
            refine hK.out _ _ ⟨(blk_cell BK189.out 0).trans rfl, (blk_cell BK189.out 1).trans rfl, (blk_cell BK192.out 0).trans rfl, (blk_cell BK192.out 1).trans rfl, ((HB.out.cell (World.block_lt_of_cell? w _ hw197_0)).trans hw197_0), ((HB.out.cell (World.block_lt_of_cell? w _ hw197_1)).trans hw197_1)⟩ (fun hHeld => ?_)
            clear hK K
            refine norm_ (a' := ?_) ?_ ?_
            rotate_left
            ·show Act.put _ (some 10) _ = _
             simp only [Act.put, List.setIfInBounds_toArray, List.set_cons_zero, List.set_cons_succ, i64_w, i32_w]
             rfl
            exact norm_ (by simp only [putAll, Act.put, List.setIfInBounds_toArray, List.set_cons_zero, List.set_cons_succ]) (hCont (gb202) _ ⟨hHeld, (by (with_reducible repeat (first | refine blk_drewN ?_ _ | refine blk_drew ?_ | refine blk_alloc ?_ _)); exact BK189.out), (by (with_reducible repeat (first | refine blk_drewN ?_ _ | refine blk_drew ?_ | refine blk_alloc ?_ _)); exact BK190.out), (by (with_reducible repeat (first | refine blk_drewN ?_ _ | refine blk_drew ?_ | refine blk_alloc ?_ _)); exact BK192.out), (by (with_reducible repeat (first | refine blk_drewN ?_ _ | refine blk_drew ?_ | refine blk_alloc ?_ _)); exact BK196.out), (by (with_reducible repeat (first | refine blk_drewN ?_ _ | refine blk_drew ?_ | refine blk_alloc ?_ _)); exact BK202.out), GW202.out, GE202.out, NB189_202.out, NB202_189.out, NB190_202.out, NB202_190.out, NB192_202.out, NB202_192.out, NB196_202.out, NB202_196.out, (by repeat (first | (with_reducible first | exact HB.out | apply below_alloc | apply pw_below_drewN | apply below_drew1 | refine below_set ?_ GE189.out | refine below_set ?_ GE190.out | refine below_set ?_ GE192.out | refine below_set ?_ GE196.out | refine below_set ?_ GE202.out) | exact HB.out))⟩)
           ·skip
            refine box_step ?hg (N := 10) ?hd (cs := #[.int .i64 0, .int .i64 0, .int .i64 0, .bool false]) (t := 89) ?hr ?_; (case hd => rfl); (case hg => rfl); (case hr => first | (go_simp; done) | (go_simp; rfl))
            intro gb202 hg w72 hbox hb
            have n0 := Aside0.mk (blk_below (g := gb189) (o := .cells #[.slice (some ad191) l0_0.length c0_0, .int .i64 a0_1] 24 (0, 0)) (by (with_reducible repeat (first | refine blk_drewN ?_ _ | refine blk_drew ?_ | refine blk_alloc ?_ _)); exact BK189.out) hb)
            have n1 := Aside0.mk (blk_below (g := gb190) (o := .cells #[.int .i64 x191000_1, .int .i64 x191001_1, .int .i64 x191002_1, .bool x191003_1] 89 (0, 0)) (by (with_reducible repeat (first | refine blk_drewN ?_ _ | refine blk_drew ?_ | refine blk_alloc ?_ _)); exact BK190.out) hb)
            have n2 := Aside0.mk (blk_below (g := gb192) (o := .cells #[.bool false, .slice (some ad197) ((rd_T55 l0_0 a1).f2.f1).length c191_3] 53 (0, 0)) (by (with_reducible repeat (first | refine blk_drewN ?_ _ | refine blk_drew ?_ | refine blk_alloc ?_ _)); exact BK192.out) hb)
            have n3 := Aside0.mk (blk_below (g := gb196) (o := .cells #[.int .i64 x197000_1, .int .i64 x197001_1, .int .i64 x197002_1, .bool false] 89 (0, 0)) (by (with_reducible repeat (first | refine blk_drewN ?_ _ | refine blk_drew ?_ | refine blk_alloc ?_ _)); exact BK196.out) hb)
            have n4 := Aside0.mk (below_step (by repeat (first | (with_reducible first | exact HB.out | apply below_alloc | apply pw_below_drewN | apply below_drew1 | refine below_set ?_ GE189.out | refine below_set ?_ GE190.out | refine below_set ?_ GE192.out | refine below_set ?_ GE196.out) | exact HB.out)) hb)
            have n5 := Aside0.mk (hbox)
            have n6 := Aside0.mk ((by rw [hg]; exact (below_size (by repeat (first | (with_reducible first | exact HB.out | apply below_alloc | apply pw_below_drewN | apply below_drew1 | refine below_set ?_ GE189.out | refine below_set ?_ GE190.out | refine below_set ?_ GE192.out | refine below_set ?_ GE196.out) | exact HB.out))) : w.heap.size ≤ gb202))
            have n7 := Aside0.mk ((by rw [hg]; exact (below_size (by repeat (first | (with_reducible first | exact HB.out | apply below_alloc | apply pw_below_drewN | apply below_drew1 | refine below_set ?_ GE189.out | refine below_set ?_ GE190.out | refine below_set ?_ GE192.out | refine below_set ?_ GE196.out) | exact HB.out))) : w.heap.size ≤ gb202))
            have n8 := Aside0.mk ((by rw [hg]; exact Nat.ne_of_lt (blk_lt (g := gb189) (o := .cells #[.slice (some ad191) l0_0.length c0_0, .int .i64 a0_1] 24 (0, 0)) (by (with_reducible repeat (first | refine blk_drewN ?_ _ | refine blk_drew ?_ | refine blk_alloc ?_ _)); exact BK189.out)) : gb189 ≠ gb202))
            have n9 := Aside0.mk ((by rw [hg]; exact Nat.ne_of_gt (blk_lt (g := gb189) (o := .cells #[.slice (some ad191) l0_0.length c0_0, .int .i64 a0_1] 24 (0, 0)) (by (with_reducible repeat (first | refine blk_drewN ?_ _ | refine blk_drew ?_ | refine blk_alloc ?_ _)); exact BK189.out)) : gb202 ≠ gb189))
            have n10 := Aside0.mk ((by rw [hg]; exact Nat.ne_of_lt (blk_lt (g := gb190) (o := .cells #[.int .i64 x191000_1, .int .i64 x191001_1, .int .i64 x191002_1, .bool x191003_1] 89 (0, 0)) (by (with_reducible repeat (first | refine blk_drewN ?_ _ | refine blk_drew ?_ | refine blk_alloc ?_ _)); exact BK190.out)) : gb190 ≠ gb202))
            have n11 := Aside0.mk ((by rw [hg]; exact Nat.ne_of_gt (blk_lt (g := gb190) (o := .cells #[.int .i64 x191000_1, .int .i64 x191001_1, .int .i64 x191002_1, .bool x191003_1] 89 (0, 0)) (by (with_reducible repeat (first | refine blk_drewN ?_ _ | refine blk_drew ?_ | refine blk_alloc ?_ _)); exact BK190.out)) : gb202 ≠ gb190))
            have n12 := Aside0.mk ((by rw [hg]; exact Nat.ne_of_lt (blk_lt (g := gb192) (o := .cells #[.bool false, .slice (some ad197) ((rd_T55 l0_0 a1).f2.f1).length c191_3] 53 (0, 0)) (by (with_reducible repeat (first | refine blk_drewN ?_ _ | refine blk_drew ?_ | refine blk_alloc ?_ _)); exact BK192.out)) : gb192 ≠ gb202))
            have n13 := Aside0.mk ((by rw [hg]; exact Nat.ne_of_gt (blk_lt (g := gb192) (o := .cells #[.bool false, .slice (some ad197) ((rd_T55 l0_0 a1).f2.f1).length c191_3] 53 (0, 0)) (by (with_reducible repeat (first | refine blk_drewN ?_ _ | refine blk_drew ?_ | refine blk_alloc ?_ _)); exact BK192.out)) : gb202 ≠ gb192))
            have n14 := Aside0.mk ((by rw [hg]; exact Nat.ne_of_lt (blk_lt (g := gb196) (o := .cells #[.int .i64 x197000_1, .int .i64 x197001_1, .int .i64 x197002_1, .bool false] 89 (0, 0)) (by (with_reducible repeat (first | refine blk_drewN ?_ _ | refine blk_drew ?_ | refine blk_alloc ?_ _)); exact BK196.out)) : gb196 ≠ gb202))
            have n15 := Aside0.mk ((by rw [hg]; exact Nat.ne_of_gt (blk_lt (g := gb196) (o := .cells #[.int .i64 x197000_1, .int .i64 x197001_1, .int .i64 x197002_1, .bool false] 89 (0, 0)) (by (with_reducible repeat (first | refine blk_drewN ?_ _ | refine blk_drew ?_ | refine blk_alloc ?_ _)); exact BK196.out)) : gb202 ≠ gb196))
            clear BK189
            clear BK190
            clear BK192
            clear BK196
            clear HB
            have BK189 := n0
            have BK190 := n1
            have BK192 := n2
            have BK196 := n3
            have HB := n4
            have BK202 := n5
            have GW202 := n6
            have GE202 := n7
            have NB189_202 := n8
            have NB202_189 := n9
            have NB190_202 := n10
            have NB202_190 := n11
            have NB192_202 := n12
            have NB202_192 := n13
            have NB196_202 := n14
            have NB202_196 := n15
            clear n0 n1 n2 n3 n4 n5 n6 n7 n8 n9 n10 n11 n12 n13 n14 n15
            clear hb hbox hg
            refine hK.out _ _ ⟨(blk_cell BK189.out 0).trans rfl, (blk_cell BK189.out 1).trans rfl, (blk_cell BK192.out 0).trans rfl, (blk_cell BK192.out 1).trans rfl, ((HB.out.cell (World.block_lt_of_cell? w _ hw197_0)).trans hw197_0), ((HB.out.cell (World.block_lt_of_cell? w _ hw197_1)).trans hw197_1)⟩ (fun hHeld => ?_)
            clear hK K
            refine norm_ (a' := ?_) ?_ ?_
            rotate_left
            ·show Act.put _ (some 10) _ = _
             simp only [Act.put, List.setIfInBounds_toArray, List.set_cons_zero, List.set_cons_succ, i64_w, i32_w]
             rfl
            refine one_ (i := 9) (N := some 64) #[true, true, true, true, true, true, true, true, true, true, true, false] rfl rfl (one_of HT_.out (by kernel_rfl)) (by decide) (fun K hK => ?_)
            refine goes_ Try.func57 (by kernel_rfl) rfl #[.agg #[.slice (some ad191) l0_0.length c0_0, .int .i64 a0_1], .int .i64 ((rd_T49 ((rd_T55 l0_0 a1).f2.f1) x9_1).f1), .int .i64 (wrap64 (a2 - 1))] (by rfl) rfl rfl (by (try simp only [List.map_toArray, List.map_cons, List.map_nil]); first | done | rfl | (simp only [List.length_drop, List.length_take]; rfl)) ?_
            with_reducible refine (ih k1 (by have := HK1.out; omega) _ _ l0_0 a0_1 ((rd_T49 ((rd_T55 l0_0 a1).f2.f1) x9_1).f1) (wrap64 (a2 - 1)) t198 t199 t200 t201 _ ?side1 ?side2 A65.out).mono ?_
            (case side1 => repeat (first | exact (Kd.C_below HR0_0.out HB.out) | (with_reducible refine Kd.C_alloc ?_ _) | (with_reducible refine Kd.C_drewN ?_ _) | (with_reducible refine Kd.C_drew ?_)))
            (case side2 => exact HC0_0.out)
            rintro e w73 ⟨rfl, hb⟩
            refine ⟨_, rfl, ?_⟩
            have n0 := Aside0.mk (blk_below (g := gb189) (o := .cells #[.slice (some ad191) l0_0.length c0_0, .int .i64 a0_1] 24 (0, 0)) (by (with_reducible repeat (first | refine blk_drewN ?_ _ | refine blk_drew ?_ | refine blk_alloc ?_ _)); exact BK189.out) hb)
            have n1 := Aside0.mk (blk_below (g := gb190) (o := .cells #[.int .i64 x191000_1, .int .i64 x191001_1, .int .i64 x191002_1, .bool x191003_1] 89 (0, 0)) (by (with_reducible repeat (first | refine blk_drewN ?_ _ | refine blk_drew ?_ | refine blk_alloc ?_ _)); exact BK190.out) hb)
            have n2 := Aside0.mk (blk_below (g := gb192) (o := .cells #[.bool false, .slice (some ad197) ((rd_T55 l0_0 a1).f2.f1).length c191_3] 53 (0, 0)) (by (with_reducible repeat (first | refine blk_drewN ?_ _ | refine blk_drew ?_ | refine blk_alloc ?_ _)); exact BK192.out) hb)
            have n3 := Aside0.mk (blk_below (g := gb196) (o := .cells #[.int .i64 x197000_1, .int .i64 x197001_1, .int .i64 x197002_1, .bool false] 89 (0, 0)) (by (with_reducible repeat (first | refine blk_drewN ?_ _ | refine blk_drew ?_ | refine blk_alloc ?_ _)); exact BK196.out) hb)
            have n4 := Aside0.mk (blk_below (g := gb202) (o := .cells #[.int .i64 0, .int .i64 0, .int .i64 0, .bool false] 89 (0, 0)) (by (with_reducible repeat (first | refine blk_drewN ?_ _ | refine blk_drew ?_ | refine blk_alloc ?_ _)); exact BK202.out) hb)
            have n5 := Aside0.mk (below_step (by repeat (first | (with_reducible first | exact HB.out | apply below_alloc | apply pw_below_drewN | apply below_drew1 | refine below_set ?_ GE189.out | refine below_set ?_ GE190.out | refine below_set ?_ GE192.out | refine below_set ?_ GE196.out | refine below_set ?_ GE202.out) | exact HB.out)) hb)
            clear BK189
            clear BK190
            clear BK192
            clear BK196
            clear BK202
            clear HB
            have BK189 := n0
            have BK190 := n1
            have BK192 := n2
            have BK196 := n3
            have BK202 := n4
            have HB := n5
            clear n0 n1 n2 n3 n4 n5
            (try clear hb)
            (try clear hb2)
            (try clear hk)
            (try clear hi)
            refine hK.out _ _ ⟨(blk_cell BK189.out 0).trans rfl, (blk_cell BK189.out 1).trans rfl, (blk_cell BK192.out 0).trans rfl, (blk_cell BK192.out 1).trans rfl, ((HB.out.cell (World.block_lt_of_cell? w _ hw197_0)).trans hw197_0), ((HB.out.cell (World.block_lt_of_cell? w _ hw197_1)).trans hw197_1)⟩ (fun hHeld => ?_)
            clear hK K
            refine norm_ (a' := ?_) ?_ ?_
            rotate_left
            ·show Act.put _ (some 64) _ = _
             simp only [Act.put, List.setIfInBounds_toArray, List.set_cons_zero, List.set_cons_succ, i64_w, i32_w]
             rfl
            exact norm_ (by simp only [putAll, Act.put, List.setIfInBounds_toArray, List.set_cons_zero, List.set_cons_succ]) (hCont (gb202) _ ⟨hHeld, (by (with_reducible repeat (first | refine blk_drewN ?_ _ | refine blk_drew ?_ | refine blk_alloc ?_ _)); exact BK189.out), (by (with_reducible repeat (first | refine blk_drewN ?_ _ | refine blk_drew ?_ | refine blk_alloc ?_ _)); exact BK190.out), (by (with_reducible repeat (first | refine blk_drewN ?_ _ | refine blk_drew ?_ | refine blk_alloc ?_ _)); exact BK192.out), (by (with_reducible repeat (first | refine blk_drewN ?_ _ | refine blk_drew ?_ | refine blk_alloc ?_ _)); exact BK196.out), (by (with_reducible repeat (first | refine blk_drewN ?_ _ | refine blk_drew ?_ | refine blk_alloc ?_ _)); exact BK202.out), GW202.out, GE202.out, NB189_202.out, NB202_189.out, NB190_202.out, NB202_190.out, NB192_202.out, NB202_192.out, NB196_202.out, NB202_196.out, (by repeat (first | (with_reducible first | exact HB.out | apply below_alloc | apply pw_below_drewN | apply below_drew1 | refine below_set ?_ GE189.out | refine below_set ?_ GE190.out | refine below_set ?_ GE192.out | refine below_set ?_ GE196.out | refine below_set ?_ GE202.out) | exact HB.out))⟩)
          rintro gb202 w74 ⟨hS_, h0_, h1_, h2_, h3_, h4_, h5_, h6_, h7_, h8_, h9_, h10_, h11_, h12_, h13_, h14_, h15_⟩
          have n0 : Aside0 (w74.heap[gb189]? = some (.cells #[.slice (some ad191) l0_0.length c0_0, .int .i64 a0_1] 24 (0, 0))) := ⟨h0_⟩
          have n1 : Aside0 (w74.heap[gb190]? = some (.cells #[.int .i64 x191000_1, .int .i64 x191001_1, .int .i64 x191002_1, .bool x191003_1] 89 (0, 0))) := ⟨h1_⟩
          have n2 : Aside0 (w74.heap[gb192]? = some (.cells #[.bool false, .slice (some ad197) ((rd_T55 l0_0 a1).f2.f1).length c191_3] 53 (0, 0))) := ⟨h2_⟩
          have n3 : Aside0 (w74.heap[gb196]? = some (.cells #[.int .i64 x197000_1, .int .i64 x197001_1, .int .i64 x197002_1, .bool false] 89 (0, 0))) := ⟨h3_⟩
          have n4 : Aside0 (w74.heap[gb202]? = some (.cells #[.int .i64 0, .int .i64 0, .int .i64 0, .bool false] 89 (0, 0))) := ⟨h4_⟩
          have n5 : Aside0 (w.heap.size ≤ gb202) := ⟨h5_⟩
          have n6 : Aside0 (w.heap.size ≤ gb202) := ⟨h6_⟩
          have n7 : Aside0 (gb189 ≠ gb202) := ⟨h7_⟩
          have n8 : Aside0 (gb202 ≠ gb189) := ⟨h8_⟩
          have n9 : Aside0 (gb190 ≠ gb202) := ⟨h9_⟩
          have n10 : Aside0 (gb202 ≠ gb190) := ⟨h10_⟩
          have n11 : Aside0 (gb192 ≠ gb202) := ⟨h11_⟩
          have n12 : Aside0 (gb202 ≠ gb192) := ⟨h12_⟩
          have n13 : Aside0 (gb196 ≠ gb202) := ⟨h13_⟩
          have n14 : Aside0 (gb202 ≠ gb196) := ⟨h14_⟩
          have n15 : Aside0 (Below w.heap.size w w74) := ⟨h15_⟩
          clear BK189
          clear BK190
          clear BK192
          clear BK196
          clear HB
          clear h0_ h1_ h2_ h3_ h4_ h5_ h6_ h7_ h8_ h9_ h10_ h11_ h12_ h13_ h14_ h15_
          have BK189 := n0
          have BK190 := n1
          have BK192 := n2
          have BK196 := n3
          have BK202 := n4
          have GW202 := n5
          have GE202 := n6
          have NB189_202 := n7
          have NB202_189 := n8
          have NB190_202 := n9
          have NB202_190 := n10
          have NB192_202 := n11
          have NB202_192 := n12
          have NB196_202 := n13
          have NB202_196 := n14
          have HB := n15
          clear n0 n1 n2 n3 n4 n5 n6 n7 n8 n9 n10 n11 n12 n13 n14 n15
          have hHeld : w74.cell? ⟨gb189, 0, none⟩ = some (.slice (some ad191) l0_0.length c0_0) ∧ w74.cell? ⟨gb189, 1, none⟩ = some (.int .i64 a0_1) ∧ w74.cell? ⟨gb192, 0, none⟩ = some (.bool false) ∧ w74.cell? ⟨gb192, 1, none⟩ = some (.slice (some ad197) ((rd_T55 l0_0 a1).f2.f1).length c191_3) ∧ w74.cell? (ad197.add ((x9_1).toNat * 2)) = some (.int .i64 ((rd_T49 ((rd_T55 l0_0 a1).f2.f1) x9_1).f0)) ∧ w74.cell? ⟨(ad197.add ((x9_1).toNat * 2)).block, (ad197.add ((x9_1).toNat * 2)).off + 1, none⟩ = some (.int .i64 ((rd_T49 ((rd_T55 l0_0 a1).f2.f1) x9_1).f1)) := hS_
          refine norm_ (a' := ?_) ?_ ?_
          rotate_left
          ·simp only [putAll, Act.put, List.setIfInBounds_toArray, List.set_cons_zero, List.set_cons_succ]
           rfl
          refine one_ (i := 11) (N := none) #[true, true, true, true, true, true, true, true, true, true, true, true] rfl rfl (one_of HT_.out (by kernel_rfl)) (by decide) (fun K hK => ?_)
          have hs75 : w74.cell? ⟨gb202, 0, none⟩ = some (.int .i64 0) := (blk_cell BK202.out 0).trans rfl
          have hfs75 := blk_frozen BK202.out 0
          have hns75_0 := NB189_202.out
          have hns75_1 := NB190_202.out
          have hns75_2 := NB192_202.out
          have hns75_3 := NB196_202.out
          have hms75_0 := NB202_189.out
          have hms75_1 := NB202_190.out
          have hms75_2 := NB202_192.out
          have hms75_3 := NB202_196.out
          have hs76 : w74.cell? ⟨gb202, 1, none⟩ = some (.int .i64 0) := (blk_cell BK202.out 1).trans rfl
          have hfs76 := blk_frozen BK202.out 1
          have hns76_0 := NB189_202.out
          have hns76_1 := NB190_202.out
          have hns76_2 := NB192_202.out
          have hns76_3 := NB196_202.out
          have hms76_0 := NB202_189.out
          have hms76_1 := NB202_190.out
          have hms76_2 := NB202_192.out
          have hms76_3 := NB202_196.out
          have hs77 : w74.cell? ⟨gb202, 2, none⟩ = some (.int .i64 0) := (blk_cell BK202.out 2).trans rfl
          have hfs77 := blk_frozen BK202.out 2
          have hns77_0 := NB189_202.out
          have hns77_1 := NB190_202.out
          have hns77_2 := NB192_202.out
          have hns77_3 := NB196_202.out
          have hms77_0 := NB202_189.out
          have hms77_1 := NB202_190.out
          have hms77_2 := NB202_192.out
          have hms77_3 := NB202_196.out
          have hs78 : w74.cell? ⟨gb202, 3, none⟩ = some (.bool false) := (blk_cell BK202.out 3).trans rfl
          have hfs78 := blk_frozen BK202.out 3
          have hns78_0 := NB189_202.out
          have hns78_1 := NB190_202.out
          have hns78_2 := NB192_202.out
          have hns78_3 := NB196_202.out
          have hms78_0 := NB202_189.out
          have hms78_1 := NB202_190.out
          have hms78_2 := NB202_192.out
          have hms78_3 := NB202_196.out
          refine skip_ (w1 := ?_) (by rfl) rfl ?_ ?_
          rotate_left
          ·go_simp
           rfl
          refine hK.out _ _ ⟨((cell_far (p := ⟨gb202, _, none⟩) NB189_202.out _).trans (((cell_far (p := ⟨gb202, _, none⟩) NB189_202.out _).trans (((cell_far (p := ⟨gb202, _, none⟩) NB189_202.out _).trans (((cell_far (p := ⟨gb202, _, none⟩) NB189_202.out _).trans (hHeld.1)))))))), ((cell_far (p := ⟨gb202, _, none⟩) NB189_202.out _).trans (((cell_far (p := ⟨gb202, _, none⟩) NB189_202.out _).trans (((cell_far (p := ⟨gb202, _, none⟩) NB189_202.out _).trans (((cell_far (p := ⟨gb202, _, none⟩) NB189_202.out _).trans (hHeld.2.1)))))))), ((cell_far (p := ⟨gb202, _, none⟩) NB192_202.out _).trans (((cell_far (p := ⟨gb202, _, none⟩) NB192_202.out _).trans (((cell_far (p := ⟨gb202, _, none⟩) NB192_202.out _).trans (((cell_far (p := ⟨gb202, _, none⟩) NB192_202.out _).trans (hHeld.2.2.1)))))))), ((cell_far (p := ⟨gb202, _, none⟩) NB192_202.out _).trans (((cell_far (p := ⟨gb202, _, none⟩) NB192_202.out _).trans (((cell_far (p := ⟨gb202, _, none⟩) NB192_202.out _).trans (((cell_far (p := ⟨gb202, _, none⟩) NB192_202.out _).trans (hHeld.2.2.2.1)))))))), ((cell_far (p := ⟨gb202, _, none⟩) (by first | exact Nat.ne_of_lt (Nat.lt_of_lt_of_le (by have := World.block_lt_of_cell? _ _ hw197_0; first | rwa [add_block] at this | exact this) GW202.out) | (rw [add_block]; exact Nat.ne_of_lt (Nat.lt_of_lt_of_le (by have := World.block_lt_of_cell? _ _ hw197_0; first | rwa [add_block] at this | exact this) GW202.out)) | (show (Addr.add _ _).block ≠ _; rw [add_block]; exact Nat.ne_of_lt (Nat.lt_of_lt_of_le (by have := World.block_lt_of_cell? _ _ hw197_0; first | rwa [add_block] at this | exact this) GW202.out)) | (dsimp only; exact Nat.ne_of_lt (Nat.lt_of_lt_of_le (by have := World.block_lt_of_cell? _ _ hw197_0; first | rwa [add_block] at this | exact this) GW202.out))) _).trans (((cell_far (p := ⟨gb202, _, none⟩) (by first | exact Nat.ne_of_lt (Nat.lt_of_lt_of_le (by have := World.block_lt_of_cell? _ _ hw197_0; first | rwa [add_block] at this | exact this) GW202.out) | (rw [add_block]; exact Nat.ne_of_lt (Nat.lt_of_lt_of_le (by have := World.block_lt_of_cell? _ _ hw197_0; first | rwa [add_block] at this | exact this) GW202.out)) | (show (Addr.add _ _).block ≠ _; rw [add_block]; exact Nat.ne_of_lt (Nat.lt_of_lt_of_le (by have := World.block_lt_of_cell? _ _ hw197_0; first | rwa [add_block] at this | exact this) GW202.out)) | (dsimp only; exact Nat.ne_of_lt (Nat.lt_of_lt_of_le (by have := World.block_lt_of_cell? _ _ hw197_0; first | rwa [add_block] at this | exact this) GW202.out))) _).trans (((cell_far (p := ⟨gb202, _, none⟩) (by first | exact Nat.ne_of_lt (Nat.lt_of_lt_of_le (by have := World.block_lt_of_cell? _ _ hw197_0; first | rwa [add_block] at this | exact this) GW202.out) | (rw [add_block]; exact Nat.ne_of_lt (Nat.lt_of_lt_of_le (by have := World.block_lt_of_cell? _ _ hw197_0; first | rwa [add_block] at this | exact this) GW202.out)) | (show (Addr.add _ _).block ≠ _; rw [add_block]; exact Nat.ne_of_lt (Nat.lt_of_lt_of_le (by have := World.block_lt_of_cell? _ _ hw197_0; first | rwa [add_block] at this | exact this) GW202.out)) | (dsimp only; exact Nat.ne_of_lt (Nat.lt_of_lt_of_le (by have := World.block_lt_of_cell? _ _ hw197_0; first | rwa [add_block] at this | exact this) GW202.out))) _).trans (((cell_far (p := ⟨gb202, _, none⟩) (by first | exact Nat.ne_of_lt (Nat.lt_of_lt_of_le (by have := World.block_lt_of_cell? _ _ hw197_0; first | rwa [add_block] at this | exact this) GW202.out) | (rw [add_block]; exact Nat.ne_of_lt (Nat.lt_of_lt_of_le (by have := World.block_lt_of_cell? _ _ hw197_0; first | rwa [add_block] at this | exact this) GW202.out)) | (show (Addr.add _ _).block ≠ _; rw [add_block]; exact Nat.ne_of_lt (Nat.lt_of_lt_of_le (by have := World.block_lt_of_cell? _ _ hw197_0; first | rwa [add_block] at this | exact this) GW202.out)) | (dsimp only; exact Nat.ne_of_lt (Nat.lt_of_lt_of_le (by have := World.block_lt_of_cell? _ _ hw197_0; first | rwa [add_block] at this | exact this) GW202.out))) _).trans (hHeld.2.2.2.2.1)))))))), ((cell_far (p := ⟨gb202, _, none⟩) (by first | exact Nat.ne_of_lt (Nat.lt_of_lt_of_le (by have := World.block_lt_of_cell? _ _ hw197_1; first | rwa [add_block] at this | exact this) GW202.out) | (rw [add_block]; exact Nat.ne_of_lt (Nat.lt_of_lt_of_le (by have := World.block_lt_of_cell? _ _ hw197_1; first | rwa [add_block] at this | exact this) GW202.out)) | (show (Addr.add _ _).block ≠ _; rw [add_block]; exact Nat.ne_of_lt (Nat.lt_of_lt_of_le (by have := World.block_lt_of_cell? _ _ hw197_1; first | rwa [add_block] at this | exact this) GW202.out)) | (dsimp only; exact Nat.ne_of_lt (Nat.lt_of_lt_of_le (by have := World.block_lt_of_cell? _ _ hw197_1; first | rwa [add_block] at this | exact this) GW202.out))) _).trans (((cell_far (p := ⟨gb202, _, none⟩) (by first | exact Nat.ne_of_lt (Nat.lt_of_lt_of_le (by have := World.block_lt_of_cell? _ _ hw197_1; first | rwa [add_block] at this | exact this) GW202.out) | (rw [add_block]; exact Nat.ne_of_lt (Nat.lt_of_lt_of_le (by have := World.block_lt_of_cell? _ _ hw197_1; first | rwa [add_block] at this | exact this) GW202.out)) | (show (Addr.add _ _).block ≠ _; rw [add_block]; exact Nat.ne_of_lt (Nat.lt_of_lt_of_le (by have := World.block_lt_of_cell? _ _ hw197_1; first | rwa [add_block] at this | exact this) GW202.out)) | (dsimp only; exact Nat.ne_of_lt (Nat.lt_of_lt_of_le (by have := World.block_lt_of_cell? _ _ hw197_1; first | rwa [add_block] at this | exact this) GW202.out))) _).trans (((cell_far (p := ⟨gb202, _, none⟩) (by first | exact Nat.ne_of_lt (Nat.lt_of_lt_of_le (by have := World.block_lt_of_cell? _ _ hw197_1; first | rwa [add_block] at this | exact this) GW202.out) | (rw [add_block]; exact Nat.ne_of_lt (Nat.lt_of_lt_of_le (by have := World.block_lt_of_cell? _ _ hw197_1; first | rwa [add_block] at this | exact this) GW202.out)) | (show (Addr.add _ _).block ≠ _; rw [add_block]; exact Nat.ne_of_lt (Nat.lt_of_lt_of_le (by have := World.block_lt_of_cell? _ _ hw197_1; first | rwa [add_block] at this | exact this) GW202.out)) | (dsimp only; exact Nat.ne_of_lt (Nat.lt_of_lt_of_le (by have := World.block_lt_of_cell? _ _ hw197_1; first | rwa [add_block] at this | exact this) GW202.out))) _).trans (((cell_far (p := ⟨gb202, _, none⟩) (by first | exact Nat.ne_of_lt (Nat.lt_of_lt_of_le (by have := World.block_lt_of_cell? _ _ hw197_1; first | rwa [add_block] at this | exact this) GW202.out) | (rw [add_block]; exact Nat.ne_of_lt (Nat.lt_of_lt_of_le (by have := World.block_lt_of_cell? _ _ hw197_1; first | rwa [add_block] at this | exact this) GW202.out)) | (show (Addr.add _ _).block ≠ _; rw [add_block]; exact Nat.ne_of_lt (Nat.lt_of_lt_of_le (by have := World.block_lt_of_cell? _ _ hw197_1; first | rwa [add_block] at this | exact this) GW202.out)) | (dsimp only; exact Nat.ne_of_lt (Nat.lt_of_lt_of_le (by have := World.block_lt_of_cell? _ _ hw197_1; first | rwa [add_block] at this | exact this) GW202.out))) _).trans (hHeld.2.2.2.2.2))))))))⟩ (fun hHeld => ?_)
          clear hK K
          refine done_ (done_of HT_.out (by kernel_rfl)) ?_
          go_upto_region 13 with (fail)
          go_cut [97] (fun v97 wc => ∃ (kq : Nat) (x97_65 : Bool), v97 = .bool x97_65 ∧ Aside0 (assartref07_below.j1 kq a2 x9_1 x97_65 l0_0 a0_1 false ((rd_T55 l0_0 a1).f2.f1) x197000_1 x197001_1 x197002_1 false t198 t199 t200 t201 = some (r1, r2, r3, r4)) ∧ Aside0 (kq ≤ k1) ∧ Aside0 (wc.heap[gb189]? = some (.cells #[(.slice (some ad191) l0_0.length c0_0), .int .i64 a0_1] 24 (0, 0))) ∧ Aside0 (wc.heap[gb190]? = some (.cells #[.int .i64 x191000_1, .int .i64 x191001_1, .int .i64 x191002_1, .bool x191003_1] 89 (0, 0))) ∧ Aside0 (wc.heap[gb192]? = some (.cells #[.bool false, (.slice (some ad197) ((rd_T55 l0_0 a1).f2.f1).length c191_3)] 53 (0, 0))) ∧ Aside0 (wc.heap[gb196]? = some (.cells #[.int .i64 x197000_1, .int .i64 x197001_1, .int .i64 x197002_1, .bool false] 89 (0, 0))) ∧ Aside0 (wc.heap[gb202]? = some (.cells #[.int .i64 t198, .int .i64 t199, .int .i64 t200, .bool t201] 89 (0, 0))) ∧ Aside0 (Below w.heap.size w wc))
          case first =>
           have H := HC66.out
           clear HC66
           by_cases c79 : t201 = true
           ·subst c79
            have H1 : (if t198 = ((rd_T49 ((rd_T55 l0_0 a1).f2.f1) x9_1).f0) then (if x9_1 > 0 then (if x197001_1 ≥ t198 then (assartref07_below.j1 k1 a2 x9_1 true l0_0 a0_1 false ((rd_T55 l0_0 a1).f2.f1) x197000_1 x197001_1 x197002_1 false t198 t199 t200 true) else (assartref07_below.j1 k1 a2 x9_1 (x197002_1 != (wrap64 (t200 + 1))) l0_0 a0_1 false ((rd_T55 l0_0 a1).f2.f1) x197000_1 x197001_1 x197002_1 false t198 t199 t200 true)) else (assartref07_below.j1 k1 a2 x9_1 false l0_0 a0_1 false ((rd_T55 l0_0 a1).f2.f1) x197000_1 x197001_1 x197002_1 false t198 t199 t200 true)) else (assartref07_below.j1 k1 a2 x9_1 true l0_0 a0_1 false ((rd_T55 l0_0 a1).f2.f1) x197000_1 x197001_1 x197002_1 false t198 t199 t200 true)) = some (r1, r2, r3, r4) := by rw [if_pos rfl] at H; exact H
            clear H
            have H := H1
            clear H1
            by_cases c80 : t198 = ((rd_T49 ((rd_T55 l0_0 a1).f2.f1) x9_1).f0)
            ·rw [if_pos c80] at H
             have c80b0 : (t198 == ((rd_T49 ((rd_T55 l0_0 a1).f2.f1) x9_1).f0)) = true := beq_iff_eq.mpr c80
             have c80b1 : (t198 != ((rd_T49 ((rd_T55 l0_0 a1).f2.f1) x9_1).f0)) = false := bne_eq_false_iff_eq.mpr c80
             clear c80
             (first | rw [c80b0] | (simp only [i64_w, i32_w]; rw [c80b0]) | skip)
             by_cases c81 : x9_1 > 0
             ·rw [if_pos c81] at H
              have c81b0 : decide (0 < x9_1) = true := decide_eq_true c81
              clear c81
              by_cases c82 : x197001_1 ≥ t198
              ·rw [if_pos c82] at H
               have c82b0 : decide (t198 ≤ x197001_1) = true := decide_eq_true c82
               clear c82
               have H' := Aside0.mk H
               clear H
               try go_wp2
               have n0 : Aside0 (((((w74.setCell ⟨gb202, 0, none⟩ (.int .i64 t198)).setCell ⟨gb202, 1, none⟩ (.int .i64 t199)).setCell ⟨gb202, 2, none⟩ (.int .i64 t200)).setCell ⟨gb202, 3, none⟩ (.bool true)).heap[gb189]? = some (.cells #[.slice (some ad191) l0_0.length c0_0, .int .i64 a0_1] 24 (0, 0))) := ⟨by (with_reducible repeat (first | refine blk_drewN ?_ _ | refine blk_drew ?_ | refine blk_alloc ?_ _)); refine blk_far ?_ NB189_202.out _; (with_reducible repeat (first | refine blk_drewN ?_ _ | refine blk_drew ?_ | refine blk_alloc ?_ _)); refine blk_far ?_ NB189_202.out _; (with_reducible repeat (first | refine blk_drewN ?_ _ | refine blk_drew ?_ | refine blk_alloc ?_ _)); refine blk_far ?_ NB189_202.out _; (with_reducible repeat (first | refine blk_drewN ?_ _ | refine blk_drew ?_ | refine blk_alloc ?_ _)); refine blk_far ?_ NB189_202.out _; (with_reducible repeat (first | refine blk_drewN ?_ _ | refine blk_drew ?_ | refine blk_alloc ?_ _)); exact BK189.out⟩
               have n1 : Aside0 (((((w74.setCell ⟨gb202, 0, none⟩ (.int .i64 t198)).setCell ⟨gb202, 1, none⟩ (.int .i64 t199)).setCell ⟨gb202, 2, none⟩ (.int .i64 t200)).setCell ⟨gb202, 3, none⟩ (.bool true)).heap[gb190]? = some (.cells #[.int .i64 x191000_1, .int .i64 x191001_1, .int .i64 x191002_1, .bool x191003_1] 89 (0, 0))) := ⟨by (with_reducible repeat (first | refine blk_drewN ?_ _ | refine blk_drew ?_ | refine blk_alloc ?_ _)); refine blk_far ?_ NB190_202.out _; (with_reducible repeat (first | refine blk_drewN ?_ _ | refine blk_drew ?_ | refine blk_alloc ?_ _)); refine blk_far ?_ NB190_202.out _; (with_reducible repeat (first | refine blk_drewN ?_ _ | refine blk_drew ?_ | refine blk_alloc ?_ _)); refine blk_far ?_ NB190_202.out _; (with_reducible repeat (first | refine blk_drewN ?_ _ | refine blk_drew ?_ | refine blk_alloc ?_ _)); refine blk_far ?_ NB190_202.out _; (with_reducible repeat (first | refine blk_drewN ?_ _ | refine blk_drew ?_ | refine blk_alloc ?_ _)); exact BK190.out⟩
               have n2 : Aside0 (((((w74.setCell ⟨gb202, 0, none⟩ (.int .i64 t198)).setCell ⟨gb202, 1, none⟩ (.int .i64 t199)).setCell ⟨gb202, 2, none⟩ (.int .i64 t200)).setCell ⟨gb202, 3, none⟩ (.bool true)).heap[gb192]? = some (.cells #[.bool false, .slice (some ad197) ((rd_T55 l0_0 a1).f2.f1).length c191_3] 53 (0, 0))) := ⟨by (with_reducible repeat (first | refine blk_drewN ?_ _ | refine blk_drew ?_ | refine blk_alloc ?_ _)); refine blk_far ?_ NB192_202.out _; (with_reducible repeat (first | refine blk_drewN ?_ _ | refine blk_drew ?_ | refine blk_alloc ?_ _)); refine blk_far ?_ NB192_202.out _; (with_reducible repeat (first | refine blk_drewN ?_ _ | refine blk_drew ?_ | refine blk_alloc ?_ _)); refine blk_far ?_ NB192_202.out _; (with_reducible repeat (first | refine blk_drewN ?_ _ | refine blk_drew ?_ | refine blk_alloc ?_ _)); refine blk_far ?_ NB192_202.out _; (with_reducible repeat (first | refine blk_drewN ?_ _ | refine blk_drew ?_ | refine blk_alloc ?_ _)); exact BK192.out⟩
               have n3 : Aside0 (((((w74.setCell ⟨gb202, 0, none⟩ (.int .i64 t198)).setCell ⟨gb202, 1, none⟩ (.int .i64 t199)).setCell ⟨gb202, 2, none⟩ (.int .i64 t200)).setCell ⟨gb202, 3, none⟩ (.bool true)).heap[gb196]? = some (.cells #[.int .i64 x197000_1, .int .i64 x197001_1, .int .i64 x197002_1, .bool false] 89 (0, 0))) := ⟨by (with_reducible repeat (first | refine blk_drewN ?_ _ | refine blk_drew ?_ | refine blk_alloc ?_ _)); refine blk_far ?_ NB196_202.out _; (with_reducible repeat (first | refine blk_drewN ?_ _ | refine blk_drew ?_ | refine blk_alloc ?_ _)); refine blk_far ?_ NB196_202.out _; (with_reducible repeat (first | refine blk_drewN ?_ _ | refine blk_drew ?_ | refine blk_alloc ?_ _)); refine blk_far ?_ NB196_202.out _; (with_reducible repeat (first | refine blk_drewN ?_ _ | refine blk_drew ?_ | refine blk_alloc ?_ _)); refine blk_far ?_ NB196_202.out _; (with_reducible repeat (first | refine blk_drewN ?_ _ | refine blk_drew ?_ | refine blk_alloc ?_ _)); exact BK196.out⟩
               have n4 : Aside0 (((((w74.setCell ⟨gb202, 0, none⟩ (.int .i64 t198)).setCell ⟨gb202, 1, none⟩ (.int .i64 t199)).setCell ⟨gb202, 2, none⟩ (.int .i64 t200)).setCell ⟨gb202, 3, none⟩ (.bool true)).heap[gb202]? = some (.cells #[.int .i64 t198, .int .i64 t199, .int .i64 t200, .bool true] 89 (0, 0))) := ⟨by (with_reducible repeat (first | refine blk_drewN ?_ _ | refine blk_drew ?_ | refine blk_alloc ?_ _)); refine blk_put (cs := #[.int .i64 t198, .int .i64 t199, .int .i64 t200, .bool false]) ?_ 3 _ rfl; (with_reducible repeat (first | refine blk_drewN ?_ _ | refine blk_drew ?_ | refine blk_alloc ?_ _)); refine blk_put (cs := #[.int .i64 t198, .int .i64 t199, .int .i64 0, .bool false]) ?_ 2 _ rfl; (with_reducible repeat (first | refine blk_drewN ?_ _ | refine blk_drew ?_ | refine blk_alloc ?_ _)); refine blk_put (cs := #[.int .i64 t198, .int .i64 0, .int .i64 0, .bool false]) ?_ 1 _ rfl; (with_reducible repeat (first | refine blk_drewN ?_ _ | refine blk_drew ?_ | refine blk_alloc ?_ _)); refine blk_put (cs := #[.int .i64 0, .int .i64 0, .int .i64 0, .bool false]) ?_ 0 _ rfl; (with_reducible repeat (first | refine blk_drewN ?_ _ | refine blk_drew ?_ | refine blk_alloc ?_ _)); exact BK202.out⟩
               have n5 : Aside0 (Below w.heap.size w ((((w74.setCell ⟨gb202, 0, none⟩ (.int .i64 t198)).setCell ⟨gb202, 1, none⟩ (.int .i64 t199)).setCell ⟨gb202, 2, none⟩ (.int .i64 t200)).setCell ⟨gb202, 3, none⟩ (.bool true))) := ⟨by repeat (first | (with_reducible first | exact HB.out | apply below_alloc | apply pw_below_drewN | apply below_drew1 | refine below_set ?_ GE189.out | refine below_set ?_ GE190.out | refine below_set ?_ GE192.out | refine below_set ?_ GE196.out | refine below_set ?_ GE202.out) | exact HB.out)⟩
               (try clear BK189)
               (try clear BK190)
               (try clear BK192)
               (try clear BK196)
               (try clear BK202)
               (try clear HB)
               generalize ((((w74.setCell ⟨gb202, 0, none⟩ (.int .i64 t198)).setCell ⟨gb202, 1, none⟩ (.int .i64 t199)).setCell ⟨gb202, 2, none⟩ (.int .i64 t200)).setCell ⟨gb202, 3, none⟩ (.bool true)) = w83 at n0 n1 n2 n3 n4 n5 ⊢
               have BK189 := n0
               have BK190 := n1
               have BK192 := n2
               have BK196 := n3
               have BK202 := n4
               have HB := n5
               clear n0 n1 n2 n3 n4 n5
               have p203 : 0 ≤ (x9_1 : Int) := of_decide_eq_true (by first | (with_reducible assumption) | assumption)
               have q203 : x9_1 < (((rd_T55 l0_0 a1).f2.f1).length : Int) := of_decide_eq_true (by first | (with_reducible assumption) | assumption)
               obtain ⟨ad203, e203, hx203_0, hx203_1⟩ := at_T49 HR191_3.out x9_1 p203 q203
               have hw203_1 := hx203_1
               have hw203_0 := hx203_0
               obtain rfl : ad197 = ad203 := (by injection e203)
               replace hx203_0 := (HB.out.cell (World.block_lt_of_cell? w _ hx203_0)).trans hx203_0
               replace hx203_1 := (HB.out.cell (World.block_lt_of_cell? w _ hx203_1)).trans hx203_1
               replace p203 := eq_true p203
               replace q203 := eq_true q203
               obtain ⟨y0_, y1_, y2_, y3_, y4_, y5_, y6_, y7_, y8_, y9_, y10_, y11_⟩ : w83.cell? ⟨gb202, 0, none⟩ = some (.int .i64 t198) ∧ w83.cell? ⟨gb202, 1, none⟩ = some (.int .i64 t199) ∧ w83.cell? ⟨gb202, 2, none⟩ = some (.int .i64 t200) ∧ w83.cell? ⟨gb202, 3, none⟩ = some (.bool true) ∧ w83.cell? ⟨gb192, 0, none⟩ = some (.bool false) ∧ w83.cell? ⟨gb192, 1, none⟩ = some (.slice (some ad197) ((rd_T55 l0_0 a1).f2.f1).length c191_3) ∧ w83.cell? ⟨gb196, 0, none⟩ = some (.int .i64 x197000_1) ∧ w83.cell? ⟨gb196, 1, none⟩ = some (.int .i64 x197001_1) ∧ w83.cell? ⟨gb196, 2, none⟩ = some (.int .i64 x197002_1) ∧ w83.cell? ⟨gb196, 3, none⟩ = some (.bool false) ∧ w83.cell? (ad197.add ((x9_1).toNat * 2)) = some (.int .i64 ((rd_T49 ((rd_T55 l0_0 a1).f2.f1) x9_1).f0)) ∧ w83.cell? ⟨(ad197.add ((x9_1).toNat * 2)).block, (ad197.add ((x9_1).toNat * 2)).off + 1, none⟩ = some (.int .i64 ((rd_T49 ((rd_T55 l0_0 a1).f2.f1) x9_1).f1)) := ⟨(blk_cell BK202.out 0).trans rfl, (blk_cell BK202.out 1).trans rfl, (blk_cell BK202.out 2).trans rfl, (blk_cell BK202.out 3).trans rfl, (blk_cell BK192.out 0).trans rfl, (blk_cell BK192.out 1).trans rfl, (blk_cell BK196.out 0).trans rfl, (blk_cell BK196.out 1).trans rfl, (blk_cell BK196.out 2).trans rfl, (blk_cell BK196.out 3).trans rfl, ((HB.out.cell (World.block_lt_of_cell? w _ hw203_0)).trans hw203_0), ((HB.out.cell (World.block_lt_of_cell? w _ hw203_1)).trans hw203_1)⟩
               go_quiet (fail)
               try go_wp2
               go_meet
               case rel => exact ⟨_, (true), (by first | rfl | (simp; done) | (simp [*]; done)), H', ⟨by have := HK1.out; first | omega | exact Nat.le_refl _⟩, ⟨by (with_reducible repeat (first | refine blk_drewN ?_ _ | refine blk_drew ?_ | refine blk_alloc ?_ _)); exact BK189.out⟩, ⟨by (with_reducible repeat (first | refine blk_drewN ?_ _ | refine blk_drew ?_ | refine blk_alloc ?_ _)); exact BK190.out⟩, ⟨by (with_reducible repeat (first | refine blk_drewN ?_ _ | refine blk_drew ?_ | refine blk_alloc ?_ _)); exact BK192.out⟩, ⟨by (with_reducible repeat (first | refine blk_drewN ?_ _ | refine blk_drew ?_ | refine blk_alloc ?_ _)); exact BK196.out⟩, ⟨by (with_reducible repeat (first | refine blk_drewN ?_ _ | refine blk_drew ?_ | refine blk_alloc ?_ _)); exact BK202.out⟩, ⟨by repeat (first | (with_reducible first | exact HB.out | apply below_alloc | apply pw_below_drewN | apply below_drew1 | refine below_set ?_ GE189.out | refine below_set ?_ GE190.out | refine below_set ?_ GE192.out | refine below_set ?_ GE196.out | refine below_set ?_ GE202.out) | exact HB.out)⟩⟩
              ·rw [if_neg c82] at H
               have c82b0 : decide (t198 ≤ x197001_1) = false := decide_eq_false c82
               clear c82
               have H' := Aside0.mk H
               clear H
               try go_wp2
               have n0 : Aside0 (((((w74.setCell ⟨gb202, 0, none⟩ (.int .i64 t198)).setCell ⟨gb202, 1, none⟩ (.int .i64 t199)).setCell ⟨gb202, 2, none⟩ (.int .i64 t200)).setCell ⟨gb202, 3, none⟩ (.bool true)).heap[gb189]? = some (.cells #[.slice (some ad191) l0_0.length c0_0, .int .i64 a0_1] 24 (0, 0))) := ⟨by (with_reducible repeat (first | refine blk_drewN ?_ _ | refine blk_drew ?_ | refine blk_alloc ?_ _)); refine blk_far ?_ NB189_202.out _; (with_reducible repeat (first | refine blk_drewN ?_ _ | refine blk_drew ?_ | refine blk_alloc ?_ _)); refine blk_far ?_ NB189_202.out _; (with_reducible repeat (first | refine blk_drewN ?_ _ | refine blk_drew ?_ | refine blk_alloc ?_ _)); refine blk_far ?_ NB189_202.out _; (with_reducible repeat (first | refine blk_drewN ?_ _ | refine blk_drew ?_ | refine blk_alloc ?_ _)); refine blk_far ?_ NB189_202.out _; (with_reducible repeat (first | refine blk_drewN ?_ _ | refine blk_drew ?_ | refine blk_alloc ?_ _)); exact BK189.out⟩
               have n1 : Aside0 (((((w74.setCell ⟨gb202, 0, none⟩ (.int .i64 t198)).setCell ⟨gb202, 1, none⟩ (.int .i64 t199)).setCell ⟨gb202, 2, none⟩ (.int .i64 t200)).setCell ⟨gb202, 3, none⟩ (.bool true)).heap[gb190]? = some (.cells #[.int .i64 x191000_1, .int .i64 x191001_1, .int .i64 x191002_1, .bool x191003_1] 89 (0, 0))) := ⟨by (with_reducible repeat (first | refine blk_drewN ?_ _ | refine blk_drew ?_ | refine blk_alloc ?_ _)); refine blk_far ?_ NB190_202.out _; (with_reducible repeat (first | refine blk_drewN ?_ _ | refine blk_drew ?_ | refine blk_alloc ?_ _)); refine blk_far ?_ NB190_202.out _; (with_reducible repeat (first | refine blk_drewN ?_ _ | refine blk_drew ?_ | refine blk_alloc ?_ _)); refine blk_far ?_ NB190_202.out _; (with_reducible repeat (first | refine blk_drewN ?_ _ | refine blk_drew ?_ | refine blk_alloc ?_ _)); refine blk_far ?_ NB190_202.out _; (with_reducible repeat (first | refine blk_drewN ?_ _ | refine blk_drew ?_ | refine blk_alloc ?_ _)); exact BK190.out⟩
               have n2 : Aside0 (((((w74.setCell ⟨gb202, 0, none⟩ (.int .i64 t198)).setCell ⟨gb202, 1, none⟩ (.int .i64 t199)).setCell ⟨gb202, 2, none⟩ (.int .i64 t200)).setCell ⟨gb202, 3, none⟩ (.bool true)).heap[gb192]? = some (.cells #[.bool false, .slice (some ad197) ((rd_T55 l0_0 a1).f2.f1).length c191_3] 53 (0, 0))) := ⟨by (with_reducible repeat (first | refine blk_drewN ?_ _ | refine blk_drew ?_ | refine blk_alloc ?_ _)); refine blk_far ?_ NB192_202.out _; (with_reducible repeat (first | refine blk_drewN ?_ _ | refine blk_drew ?_ | refine blk_alloc ?_ _)); refine blk_far ?_ NB192_202.out _; (with_reducible repeat (first | refine blk_drewN ?_ _ | refine blk_drew ?_ | refine blk_alloc ?_ _)); refine blk_far ?_ NB192_202.out _; (with_reducible repeat (first | refine blk_drewN ?_ _ | refine blk_drew ?_ | refine blk_alloc ?_ _)); refine blk_far ?_ NB192_202.out _; (with_reducible repeat (first | refine blk_drewN ?_ _ | refine blk_drew ?_ | refine blk_alloc ?_ _)); exact BK192.out⟩
               have n3 : Aside0 (((((w74.setCell ⟨gb202, 0, none⟩ (.int .i64 t198)).setCell ⟨gb202, 1, none⟩ (.int .i64 t199)).setCell ⟨gb202, 2, none⟩ (.int .i64 t200)).setCell ⟨gb202, 3, none⟩ (.bool true)).heap[gb196]? = some (.cells #[.int .i64 x197000_1, .int .i64 x197001_1, .int .i64 x197002_1, .bool false] 89 (0, 0))) := ⟨by (with_reducible repeat (first | refine blk_drewN ?_ _ | refine blk_drew ?_ | refine blk_alloc ?_ _)); refine blk_far ?_ NB196_202.out _; (with_reducible repeat (first | refine blk_drewN ?_ _ | refine blk_drew ?_ | refine blk_alloc ?_ _)); refine blk_far ?_ NB196_202.out _; (with_reducible repeat (first | refine blk_drewN ?_ _ | refine blk_drew ?_ | refine blk_alloc ?_ _)); refine blk_far ?_ NB196_202.out _; (with_reducible repeat (first | refine blk_drewN ?_ _ | refine blk_drew ?_ | refine blk_alloc ?_ _)); refine blk_far ?_ NB196_202.out _; (with_reducible repeat (first | refine blk_drewN ?_ _ | refine blk_drew ?_ | refine blk_alloc ?_ _)); exact BK196.out⟩
               have n4 : Aside0 (((((w74.setCell ⟨gb202, 0, none⟩ (.int .i64 t198)).setCell ⟨gb202, 1, none⟩ (.int .i64 t199)).setCell ⟨gb202, 2, none⟩ (.int .i64 t200)).setCell ⟨gb202, 3, none⟩ (.bool true)).heap[gb202]? = some (.cells #[.int .i64 t198, .int .i64 t199, .int .i64 t200, .bool true] 89 (0, 0))) := ⟨by (with_reducible repeat (first | refine blk_drewN ?_ _ | refine blk_drew ?_ | refine blk_alloc ?_ _)); refine blk_put (cs := #[.int .i64 t198, .int .i64 t199, .int .i64 t200, .bool false]) ?_ 3 _ rfl; (with_reducible repeat (first | refine blk_drewN ?_ _ | refine blk_drew ?_ | refine blk_alloc ?_ _)); refine blk_put (cs := #[.int .i64 t198, .int .i64 t199, .int .i64 0, .bool false]) ?_ 2 _ rfl; (with_reducible repeat (first | refine blk_drewN ?_ _ | refine blk_drew ?_ | refine blk_alloc ?_ _)); refine blk_put (cs := #[.int .i64 t198, .int .i64 0, .int .i64 0, .bool false]) ?_ 1 _ rfl; (with_reducible repeat (first | refine blk_drewN ?_ _ | refine blk_drew ?_ | refine blk_alloc ?_ _)); refine blk_put (cs := #[.int .i64 0, .int .i64 0, .int .i64 0, .bool false]) ?_ 0 _ rfl; (with_reducible repeat (first | refine blk_drewN ?_ _ | refine blk_drew ?_ | refine blk_alloc ?_ _)); exact BK202.out⟩
               have n5 : Aside0 (Below w.heap.size w ((((w74.setCell ⟨gb202, 0, none⟩ (.int .i64 t198)).setCell ⟨gb202, 1, none⟩ (.int .i64 t199)).setCell ⟨gb202, 2, none⟩ (.int .i64 t200)).setCell ⟨gb202, 3, none⟩ (.bool true))) := ⟨by repeat (first | (with_reducible first | exact HB.out | apply below_alloc | apply pw_below_drewN | apply below_drew1 | refine below_set ?_ GE189.out | refine below_set ?_ GE190.out | refine below_set ?_ GE192.out | refine below_set ?_ GE196.out | refine below_set ?_ GE202.out) | exact HB.out)⟩
               (try clear BK189)
               (try clear BK190)
               (try clear BK192)
               (try clear BK196)
               (try clear BK202)
               (try clear HB)
               generalize ((((w74.setCell ⟨gb202, 0, none⟩ (.int .i64 t198)).setCell ⟨gb202, 1, none⟩ (.int .i64 t199)).setCell ⟨gb202, 2, none⟩ (.int .i64 t200)).setCell ⟨gb202, 3, none⟩ (.bool true)) = w85 at n0 n1 n2 n3 n4 n5 ⊢
               have BK189 := n0
               have BK190 := n1
               have BK192 := n2
               have BK196 := n3
               have BK202 := n4
               have HB := n5
               clear n0 n1 n2 n3 n4 n5
               have p203 : 0 ≤ (x9_1 : Int) := of_decide_eq_true (by first | (with_reducible assumption) | assumption)
               have q203 : x9_1 < (((rd_T55 l0_0 a1).f2.f1).length : Int) := of_decide_eq_true (by first | (with_reducible assumption) | assumption)
               obtain ⟨ad203, e203, hx203_0, hx203_1⟩ := at_T49 HR191_3.out x9_1 p203 q203
               have hw203_1 := hx203_1
               have hw203_0 := hx203_0
               obtain rfl : ad197 = ad203 := (by injection e203)
               replace hx203_0 := (HB.out.cell (World.block_lt_of_cell? w _ hx203_0)).trans hx203_0
               replace hx203_1 := (HB.out.cell (World.block_lt_of_cell? w _ hx203_1)).trans hx203_1
               replace p203 := eq_true p203
               replace q203 := eq_true q203
               obtain ⟨y0_, y1_, y2_, y3_, y4_, y5_, y6_, y7_, y8_, y9_, y10_, y11_⟩ : w85.cell? ⟨gb202, 0, none⟩ = some (.int .i64 t198) ∧ w85.cell? ⟨gb202, 1, none⟩ = some (.int .i64 t199) ∧ w85.cell? ⟨gb202, 2, none⟩ = some (.int .i64 t200) ∧ w85.cell? ⟨gb202, 3, none⟩ = some (.bool true) ∧ w85.cell? ⟨gb192, 0, none⟩ = some (.bool false) ∧ w85.cell? ⟨gb192, 1, none⟩ = some (.slice (some ad197) ((rd_T55 l0_0 a1).f2.f1).length c191_3) ∧ w85.cell? ⟨gb196, 0, none⟩ = some (.int .i64 x197000_1) ∧ w85.cell? ⟨gb196, 1, none⟩ = some (.int .i64 x197001_1) ∧ w85.cell? ⟨gb196, 2, none⟩ = some (.int .i64 x197002_1) ∧ w85.cell? ⟨gb196, 3, none⟩ = some (.bool false) ∧ w85.cell? (ad197.add ((x9_1).toNat * 2)) = some (.int .i64 ((rd_T49 ((rd_T55 l0_0 a1).f2.f1) x9_1).f0)) ∧ w85.cell? ⟨(ad197.add ((x9_1).toNat * 2)).block, (ad197.add ((x9_1).toNat * 2)).off + 1, none⟩ = some (.int .i64 ((rd_T49 ((rd_T55 l0_0 a1).f2.f1) x9_1).f1)) := ⟨(blk_cell BK202.out 0).trans rfl, (blk_cell BK202.out 1).trans rfl, (blk_cell BK202.out 2).trans rfl, (blk_cell BK202.out 3).trans rfl, (blk_cell BK192.out 0).trans rfl, (blk_cell BK192.out 1).trans rfl, (blk_cell BK196.out 0).trans rfl, (blk_cell BK196.out 1).trans rfl, (blk_cell BK196.out 2).trans rfl, (blk_cell BK196.out 3).trans rfl, ((HB.out.cell (World.block_lt_of_cell? w _ hw203_0)).trans hw203_0), ((HB.out.cell (World.block_lt_of_cell? w _ hw203_1)).trans hw203_1)⟩
               go_quiet (fail)
               try go_wp2
               go_meet
               case rel => exact ⟨_, ((x197002_1 != (wrap64 (t200 + 1)))), (by first | rfl | (simp; done) | (simp [*]; done)), H', ⟨by have := HK1.out; first | omega | exact Nat.le_refl _⟩, ⟨by (with_reducible repeat (first | refine blk_drewN ?_ _ | refine blk_drew ?_ | refine blk_alloc ?_ _)); exact BK189.out⟩, ⟨by (with_reducible repeat (first | refine blk_drewN ?_ _ | refine blk_drew ?_ | refine blk_alloc ?_ _)); exact BK190.out⟩, ⟨by (with_reducible repeat (first | refine blk_drewN ?_ _ | refine blk_drew ?_ | refine blk_alloc ?_ _)); exact BK192.out⟩, ⟨by (with_reducible repeat (first | refine blk_drewN ?_ _ | refine blk_drew ?_ | refine blk_alloc ?_ _)); exact BK196.out⟩, ⟨by (with_reducible repeat (first | refine blk_drewN ?_ _ | refine blk_drew ?_ | refine blk_alloc ?_ _)); exact BK202.out⟩, ⟨by repeat (first | (with_reducible first | exact HB.out | apply below_alloc | apply pw_below_drewN | apply below_drew1 | refine below_set ?_ GE189.out | refine below_set ?_ GE190.out | refine below_set ?_ GE192.out | refine below_set ?_ GE196.out | refine below_set ?_ GE202.out) | exact HB.out)⟩⟩
             ·rw [if_neg c81] at H
              have c81b0 : decide (0 < x9_1) = false := decide_eq_false c81
              clear c81
              have H' := Aside0.mk H
              clear H
              try go_wp2
              have n0 : Aside0 (((((w74.setCell ⟨gb202, 0, none⟩ (.int .i64 t198)).setCell ⟨gb202, 1, none⟩ (.int .i64 t199)).setCell ⟨gb202, 2, none⟩ (.int .i64 t200)).setCell ⟨gb202, 3, none⟩ (.bool true)).heap[gb189]? = some (.cells #[.slice (some ad191) l0_0.length c0_0, .int .i64 a0_1] 24 (0, 0))) := ⟨by (with_reducible repeat (first | refine blk_drewN ?_ _ | refine blk_drew ?_ | refine blk_alloc ?_ _)); refine blk_far ?_ NB189_202.out _; (with_reducible repeat (first | refine blk_drewN ?_ _ | refine blk_drew ?_ | refine blk_alloc ?_ _)); refine blk_far ?_ NB189_202.out _; (with_reducible repeat (first | refine blk_drewN ?_ _ | refine blk_drew ?_ | refine blk_alloc ?_ _)); refine blk_far ?_ NB189_202.out _; (with_reducible repeat (first | refine blk_drewN ?_ _ | refine blk_drew ?_ | refine blk_alloc ?_ _)); refine blk_far ?_ NB189_202.out _; (with_reducible repeat (first | refine blk_drewN ?_ _ | refine blk_drew ?_ | refine blk_alloc ?_ _)); exact BK189.out⟩
              have n1 : Aside0 (((((w74.setCell ⟨gb202, 0, none⟩ (.int .i64 t198)).setCell ⟨gb202, 1, none⟩ (.int .i64 t199)).setCell ⟨gb202, 2, none⟩ (.int .i64 t200)).setCell ⟨gb202, 3, none⟩ (.bool true)).heap[gb190]? = some (.cells #[.int .i64 x191000_1, .int .i64 x191001_1, .int .i64 x191002_1, .bool x191003_1] 89 (0, 0))) := ⟨by (with_reducible repeat (first | refine blk_drewN ?_ _ | refine blk_drew ?_ | refine blk_alloc ?_ _)); refine blk_far ?_ NB190_202.out _; (with_reducible repeat (first | refine blk_drewN ?_ _ | refine blk_drew ?_ | refine blk_alloc ?_ _)); refine blk_far ?_ NB190_202.out _; (with_reducible repeat (first | refine blk_drewN ?_ _ | refine blk_drew ?_ | refine blk_alloc ?_ _)); refine blk_far ?_ NB190_202.out _; (with_reducible repeat (first | refine blk_drewN ?_ _ | refine blk_drew ?_ | refine blk_alloc ?_ _)); refine blk_far ?_ NB190_202.out _; (with_reducible repeat (first | refine blk_drewN ?_ _ | refine blk_drew ?_ | refine blk_alloc ?_ _)); exact BK190.out⟩
              have n2 : Aside0 (((((w74.setCell ⟨gb202, 0, none⟩ (.int .i64 t198)).setCell ⟨gb202, 1, none⟩ (.int .i64 t199)).setCell ⟨gb202, 2, none⟩ (.int .i64 t200)).setCell ⟨gb202, 3, none⟩ (.bool true)).heap[gb192]? = some (.cells #[.bool false, .slice (some ad197) ((rd_T55 l0_0 a1).f2.f1).length c191_3] 53 (0, 0))) := ⟨by (with_reducible repeat (first | refine blk_drewN ?_ _ | refine blk_drew ?_ | refine blk_alloc ?_ _)); refine blk_far ?_ NB192_202.out _; (with_reducible repeat (first | refine blk_drewN ?_ _ | refine blk_drew ?_ | refine blk_alloc ?_ _)); refine blk_far ?_ NB192_202.out _; (with_reducible repeat (first | refine blk_drewN ?_ _ | refine blk_drew ?_ | refine blk_alloc ?_ _)); refine blk_far ?_ NB192_202.out _; (with_reducible repeat (first | refine blk_drewN ?_ _ | refine blk_drew ?_ | refine blk_alloc ?_ _)); refine blk_far ?_ NB192_202.out _; (with_reducible repeat (first | refine blk_drewN ?_ _ | refine blk_drew ?_ | refine blk_alloc ?_ _)); exact BK192.out⟩
              have n3 : Aside0 (((((w74.setCell ⟨gb202, 0, none⟩ (.int .i64 t198)).setCell ⟨gb202, 1, none⟩ (.int .i64 t199)).setCell ⟨gb202, 2, none⟩ (.int .i64 t200)).setCell ⟨gb202, 3, none⟩ (.bool true)).heap[gb196]? = some (.cells #[.int .i64 x197000_1, .int .i64 x197001_1, .int .i64 x197002_1, .bool false] 89 (0, 0))) := ⟨by (with_reducible repeat (first | refine blk_drewN ?_ _ | refine blk_drew ?_ | refine blk_alloc ?_ _)); refine blk_far ?_ NB196_202.out _; (with_reducible repeat (first | refine blk_drewN ?_ _ | refine blk_drew ?_ | refine blk_alloc ?_ _)); refine blk_far ?_ NB196_202.out _; (with_reducible repeat (first | refine blk_drewN ?_ _ | refine blk_drew ?_ | refine blk_alloc ?_ _)); refine blk_far ?_ NB196_202.out _; (with_reducible repeat (first | refine blk_drewN ?_ _ | refine blk_drew ?_ | refine blk_alloc ?_ _)); refine blk_far ?_ NB196_202.out _; (with_reducible repeat (first | refine blk_drewN ?_ _ | refine blk_drew ?_ | refine blk_alloc ?_ _)); exact BK196.out⟩
              have n4 : Aside0 (((((w74.setCell ⟨gb202, 0, none⟩ (.int .i64 t198)).setCell ⟨gb202, 1, none⟩ (.int .i64 t199)).setCell ⟨gb202, 2, none⟩ (.int .i64 t200)).setCell ⟨gb202, 3, none⟩ (.bool true)).heap[gb202]? = some (.cells #[.int .i64 t198, .int .i64 t199, .int .i64 t200, .bool true] 89 (0, 0))) := ⟨by (with_reducible repeat (first | refine blk_drewN ?_ _ | refine blk_drew ?_ | refine blk_alloc ?_ _)); refine blk_put (cs := #[.int .i64 t198, .int .i64 t199, .int .i64 t200, .bool false]) ?_ 3 _ rfl; (with_reducible repeat (first | refine blk_drewN ?_ _ | refine blk_drew ?_ | refine blk_alloc ?_ _)); refine blk_put (cs := #[.int .i64 t198, .int .i64 t199, .int .i64 0, .bool false]) ?_ 2 _ rfl; (with_reducible repeat (first | refine blk_drewN ?_ _ | refine blk_drew ?_ | refine blk_alloc ?_ _)); refine blk_put (cs := #[.int .i64 t198, .int .i64 0, .int .i64 0, .bool false]) ?_ 1 _ rfl; (with_reducible repeat (first | refine blk_drewN ?_ _ | refine blk_drew ?_ | refine blk_alloc ?_ _)); refine blk_put (cs := #[.int .i64 0, .int .i64 0, .int .i64 0, .bool false]) ?_ 0 _ rfl; (with_reducible repeat (first | refine blk_drewN ?_ _ | refine blk_drew ?_ | refine blk_alloc ?_ _)); exact BK202.out⟩
              have n5 : Aside0 (Below w.heap.size w ((((w74.setCell ⟨gb202, 0, none⟩ (.int .i64 t198)).setCell ⟨gb202, 1, none⟩ (.int .i64 t199)).setCell ⟨gb202, 2, none⟩ (.int .i64 t200)).setCell ⟨gb202, 3, none⟩ (.bool true))) := ⟨by repeat (first | (with_reducible first | exact HB.out | apply below_alloc | apply pw_below_drewN | apply below_drew1 | refine below_set ?_ GE189.out | refine below_set ?_ GE190.out | refine below_set ?_ GE192.out | refine below_set ?_ GE196.out | refine below_set ?_ GE202.out) | exact HB.out)⟩
              (try clear BK189)
              (try clear BK190)
              (try clear BK192)
              (try clear BK196)
              (try clear BK202)
              (try clear HB)
              generalize ((((w74.setCell ⟨gb202, 0, none⟩ (.int .i64 t198)).setCell ⟨gb202, 1, none⟩ (.int .i64 t199)).setCell ⟨gb202, 2, none⟩ (.int .i64 t200)).setCell ⟨gb202, 3, none⟩ (.bool true)) = w87 at n0 n1 n2 n3 n4 n5 ⊢
              have BK189 := n0
              have BK190 := n1
              have BK192 := n2
              have BK196 := n3
              have BK202 := n4
              have HB := n5
              clear n0 n1 n2 n3 n4 n5
              have p203 : 0 ≤ (x9_1 : Int) := of_decide_eq_true (by first | (with_reducible assumption) | assumption)
              have q203 : x9_1 < (((rd_T55 l0_0 a1).f2.f1).length : Int) := of_decide_eq_true (by first | (with_reducible assumption) | assumption)
              obtain ⟨ad203, e203, hx203_0, hx203_1⟩ := at_T49 HR191_3.out x9_1 p203 q203
              have hw203_1 := hx203_1
              have hw203_0 := hx203_0
              obtain rfl : ad197 = ad203 := (by injection e203)
              replace hx203_0 := (HB.out.cell (World.block_lt_of_cell? w _ hx203_0)).trans hx203_0
              replace hx203_1 := (HB.out.cell (World.block_lt_of_cell? w _ hx203_1)).trans hx203_1
              replace p203 := eq_true p203
              replace q203 := eq_true q203
              obtain ⟨y0_, y1_, y2_, y3_, y4_, y5_, y6_, y7_⟩ : w87.cell? ⟨gb202, 0, none⟩ = some (.int .i64 t198) ∧ w87.cell? ⟨gb202, 1, none⟩ = some (.int .i64 t199) ∧ w87.cell? ⟨gb202, 2, none⟩ = some (.int .i64 t200) ∧ w87.cell? ⟨gb202, 3, none⟩ = some (.bool true) ∧ w87.cell? ⟨gb192, 0, none⟩ = some (.bool false) ∧ w87.cell? ⟨gb192, 1, none⟩ = some (.slice (some ad197) ((rd_T55 l0_0 a1).f2.f1).length c191_3) ∧ w87.cell? (ad197.add ((x9_1).toNat * 2)) = some (.int .i64 ((rd_T49 ((rd_T55 l0_0 a1).f2.f1) x9_1).f0)) ∧ w87.cell? ⟨(ad197.add ((x9_1).toNat * 2)).block, (ad197.add ((x9_1).toNat * 2)).off + 1, none⟩ = some (.int .i64 ((rd_T49 ((rd_T55 l0_0 a1).f2.f1) x9_1).f1)) := ⟨(blk_cell BK202.out 0).trans rfl, (blk_cell BK202.out 1).trans rfl, (blk_cell BK202.out 2).trans rfl, (blk_cell BK202.out 3).trans rfl, (blk_cell BK192.out 0).trans rfl, (blk_cell BK192.out 1).trans rfl, ((HB.out.cell (World.block_lt_of_cell? w _ hw203_0)).trans hw203_0), ((HB.out.cell (World.block_lt_of_cell? w _ hw203_1)).trans hw203_1)⟩
              go_quiet (fail)
              try go_wp2
              go_meet
              case rel => exact ⟨_, (false), (by first | rfl | (simp; done) | (simp [*]; done)), H', ⟨by have := HK1.out; first | omega | exact Nat.le_refl _⟩, ⟨by (with_reducible repeat (first | refine blk_drewN ?_ _ | refine blk_drew ?_ | refine blk_alloc ?_ _)); exact BK189.out⟩, ⟨by (with_reducible repeat (first | refine blk_drewN ?_ _ | refine blk_drew ?_ | refine blk_alloc ?_ _)); exact BK190.out⟩, ⟨by (with_reducible repeat (first | refine blk_drewN ?_ _ | refine blk_drew ?_ | refine blk_alloc ?_ _)); exact BK192.out⟩, ⟨by (with_reducible repeat (first | refine blk_drewN ?_ _ | refine blk_drew ?_ | refine blk_alloc ?_ _)); exact BK196.out⟩, ⟨by (with_reducible repeat (first | refine blk_drewN ?_ _ | refine blk_drew ?_ | refine blk_alloc ?_ _)); exact BK202.out⟩, ⟨by repeat (first | (with_reducible first | exact HB.out | apply below_alloc | apply pw_below_drewN | apply below_drew1 | refine below_set ?_ GE189.out | refine below_set ?_ GE190.out | refine below_set ?_ GE192.out | refine below_set ?_ GE196.out | refine below_set ?_ GE202.out) | exact HB.out)⟩⟩
            ·rw [if_neg c80] at H
             have c80b0 : (t198 == ((rd_T49 ((rd_T55 l0_0 a1).f2.f1) x9_1).f0)) = false := beq_eq_false_iff_ne.mpr c80
             have c80b1 : (t198 != ((rd_T49 ((rd_T55 l0_0 a1).f2.f1) x9_1).f0)) = true := bne_iff_ne.mpr c80
             (first | rw [c80b0] | (simp only [i64_w, i32_w]; rw [c80b0]) | skip)
             have H' := Aside0.mk H
             clear H
             try go_wp2
             have n0 : Aside0 (((((w74.setCell ⟨gb202, 0, none⟩ (.int .i64 t198)).setCell ⟨gb202, 1, none⟩ (.int .i64 t199)).setCell ⟨gb202, 2, none⟩ (.int .i64 t200)).setCell ⟨gb202, 3, none⟩ (.bool true)).heap[gb189]? = some (.cells #[.slice (some ad191) l0_0.length c0_0, .int .i64 a0_1] 24 (0, 0))) := ⟨by (with_reducible repeat (first | refine blk_drewN ?_ _ | refine blk_drew ?_ | refine blk_alloc ?_ _)); refine blk_far ?_ NB189_202.out _; (with_reducible repeat (first | refine blk_drewN ?_ _ | refine blk_drew ?_ | refine blk_alloc ?_ _)); refine blk_far ?_ NB189_202.out _; (with_reducible repeat (first | refine blk_drewN ?_ _ | refine blk_drew ?_ | refine blk_alloc ?_ _)); refine blk_far ?_ NB189_202.out _; (with_reducible repeat (first | refine blk_drewN ?_ _ | refine blk_drew ?_ | refine blk_alloc ?_ _)); refine blk_far ?_ NB189_202.out _; (with_reducible repeat (first | refine blk_drewN ?_ _ | refine blk_drew ?_ | refine blk_alloc ?_ _)); exact BK189.out⟩
             have n1 : Aside0 (((((w74.setCell ⟨gb202, 0, none⟩ (.int .i64 t198)).setCell ⟨gb202, 1, none⟩ (.int .i64 t199)).setCell ⟨gb202, 2, none⟩ (.int .i64 t200)).setCell ⟨gb202, 3, none⟩ (.bool true)).heap[gb190]? = some (.cells #[.int .i64 x191000_1, .int .i64 x191001_1, .int .i64 x191002_1, .bool x191003_1] 89 (0, 0))) := ⟨by (with_reducible repeat (first | refine blk_drewN ?_ _ | refine blk_drew ?_ | refine blk_alloc ?_ _)); refine blk_far ?_ NB190_202.out _; (with_reducible repeat (first | refine blk_drewN ?_ _ | refine blk_drew ?_ | refine blk_alloc ?_ _)); refine blk_far ?_ NB190_202.out _; (with_reducible repeat (first | refine blk_drewN ?_ _ | refine blk_drew ?_ | refine blk_alloc ?_ _)); refine blk_far ?_ NB190_202.out _; (with_reducible repeat (first | refine blk_drewN ?_ _ | refine blk_drew ?_ | refine blk_alloc ?_ _)); refine blk_far ?_ NB190_202.out _; (with_reducible repeat (first | refine blk_drewN ?_ _ | refine blk_drew ?_ | refine blk_alloc ?_ _)); exact BK190.out⟩
             have n2 : Aside0 (((((w74.setCell ⟨gb202, 0, none⟩ (.int .i64 t198)).setCell ⟨gb202, 1, none⟩ (.int .i64 t199)).setCell ⟨gb202, 2, none⟩ (.int .i64 t200)).setCell ⟨gb202, 3, none⟩ (.bool true)).heap[gb192]? = some (.cells #[.bool false, .slice (some ad197) ((rd_T55 l0_0 a1).f2.f1).length c191_3] 53 (0, 0))) := ⟨by (with_reducible repeat (first | refine blk_drewN ?_ _ | refine blk_drew ?_ | refine blk_alloc ?_ _)); refine blk_far ?_ NB192_202.out _; (with_reducible repeat (first | refine blk_drewN ?_ _ | refine blk_drew ?_ | refine blk_alloc ?_ _)); refine blk_far ?_ NB192_202.out _; (with_reducible repeat (first | refine blk_drewN ?_ _ | refine blk_drew ?_ | refine blk_alloc ?_ _)); refine blk_far ?_ NB192_202.out _; (with_reducible repeat (first | refine blk_drewN ?_ _ | refine blk_drew ?_ | refine blk_alloc ?_ _)); refine blk_far ?_ NB192_202.out _; (with_reducible repeat (first | refine blk_drewN ?_ _ | refine blk_drew ?_ | refine blk_alloc ?_ _)); exact BK192.out⟩
             have n3 : Aside0 (((((w74.setCell ⟨gb202, 0, none⟩ (.int .i64 t198)).setCell ⟨gb202, 1, none⟩ (.int .i64 t199)).setCell ⟨gb202, 2, none⟩ (.int .i64 t200)).setCell ⟨gb202, 3, none⟩ (.bool true)).heap[gb196]? = some (.cells #[.int .i64 x197000_1, .int .i64 x197001_1, .int .i64 x197002_1, .bool false] 89 (0, 0))) := ⟨by (with_reducible repeat (first | refine blk_drewN ?_ _ | refine blk_drew ?_ | refine blk_alloc ?_ _)); refine blk_far ?_ NB196_202.out _; (with_reducible repeat (first | refine blk_drewN ?_ _ | refine blk_drew ?_ | refine blk_alloc ?_ _)); refine blk_far ?_ NB196_202.out _; (with_reducible repeat (first | refine blk_drewN ?_ _ | refine blk_drew ?_ | refine blk_alloc ?_ _)); refine blk_far ?_ NB196_202.out _; (with_reducible repeat (first | refine blk_drewN ?_ _ | refine blk_drew ?_ | refine blk_alloc ?_ _)); refine blk_far ?_ NB196_202.out _; (with_reducible repeat (first | refine blk_drewN ?_ _ | refine blk_drew ?_ | refine blk_alloc ?_ _)); exact BK196.out⟩
             have n4 : Aside0 (((((w74.setCell ⟨gb202, 0, none⟩ (.int .i64 t198)).setCell ⟨gb202, 1, none⟩ (.int .i64 t199)).setCell ⟨gb202, 2, none⟩ (.int .i64 t200)).setCell ⟨gb202, 3, none⟩ (.bool true)).heap[gb202]? = some (.cells #[.int .i64 t198, .int .i64 t199, .int .i64 t200, .bool true] 89 (0, 0))) := ⟨by (with_reducible repeat (first | refine blk_drewN ?_ _ | refine blk_drew ?_ | refine blk_alloc ?_ _)); refine blk_put (cs := #[.int .i64 t198, .int .i64 t199, .int .i64 t200, .bool false]) ?_ 3 _ rfl; (with_reducible repeat (first | refine blk_drewN ?_ _ | refine blk_drew ?_ | refine blk_alloc ?_ _)); refine blk_put (cs := #[.int .i64 t198, .int .i64 t199, .int .i64 0, .bool false]) ?_ 2 _ rfl; (with_reducible repeat (first | refine blk_drewN ?_ _ | refine blk_drew ?_ | refine blk_alloc ?_ _)); refine blk_put (cs := #[.int .i64 t198, .int .i64 0, .int .i64 0, .bool false]) ?_ 1 _ rfl; (with_reducible repeat (first | refine blk_drewN ?_ _ | refine blk_drew ?_ | refine blk_alloc ?_ _)); refine blk_put (cs := #[.int .i64 0, .int .i64 0, .int .i64 0, .bool false]) ?_ 0 _ rfl; (with_reducible repeat (first | refine blk_drewN ?_ _ | refine blk_drew ?_ | refine blk_alloc ?_ _)); exact BK202.out⟩
             have n5 : Aside0 (Below w.heap.size w ((((w74.setCell ⟨gb202, 0, none⟩ (.int .i64 t198)).setCell ⟨gb202, 1, none⟩ (.int .i64 t199)).setCell ⟨gb202, 2, none⟩ (.int .i64 t200)).setCell ⟨gb202, 3, none⟩ (.bool true))) := ⟨by repeat (first | (with_reducible first | exact HB.out | apply below_alloc | apply pw_below_drewN | apply below_drew1 | refine below_set ?_ GE189.out | refine below_set ?_ GE190.out | refine below_set ?_ GE192.out | refine below_set ?_ GE196.out | refine below_set ?_ GE202.out) | exact HB.out)⟩
             (try clear BK189)
             (try clear BK190)
             (try clear BK192)
             (try clear BK196)
             (try clear BK202)
             (try clear HB)
             generalize ((((w74.setCell ⟨gb202, 0, none⟩ (.int .i64 t198)).setCell ⟨gb202, 1, none⟩ (.int .i64 t199)).setCell ⟨gb202, 2, none⟩ (.int .i64 t200)).setCell ⟨gb202, 3, none⟩ (.bool true)) = w89 at n0 n1 n2 n3 n4 n5 ⊢
             have BK189 := n0
             have BK190 := n1
             have BK192 := n2
             have BK196 := n3
             have BK202 := n4
             have HB := n5
             clear n0 n1 n2 n3 n4 n5
             have p203 : 0 ≤ (x9_1 : Int) := of_decide_eq_true (by first | (with_reducible assumption) | assumption)
             have q203 : x9_1 < (((rd_T55 l0_0 a1).f2.f1).length : Int) := of_decide_eq_true (by first | (with_reducible assumption) | assumption)
             obtain ⟨ad203, e203, hx203_0, hx203_1⟩ := at_T49 HR191_3.out x9_1 p203 q203
             have hw203_1 := hx203_1
             have hw203_0 := hx203_0
             obtain rfl : ad197 = ad203 := (by injection e203)
             replace hx203_0 := (HB.out.cell (World.block_lt_of_cell? w _ hx203_0)).trans hx203_0
             replace hx203_1 := (HB.out.cell (World.block_lt_of_cell? w _ hx203_1)).trans hx203_1
             replace p203 := eq_true p203
             replace q203 := eq_true q203
             obtain ⟨y0_, y1_, y2_, y3_, y4_, y5_, y6_, y7_⟩ : w89.cell? ⟨gb202, 0, none⟩ = some (.int .i64 t198) ∧ w89.cell? ⟨gb202, 1, none⟩ = some (.int .i64 t199) ∧ w89.cell? ⟨gb202, 2, none⟩ = some (.int .i64 t200) ∧ w89.cell? ⟨gb202, 3, none⟩ = some (.bool true) ∧ w89.cell? ⟨gb192, 0, none⟩ = some (.bool false) ∧ w89.cell? ⟨gb192, 1, none⟩ = some (.slice (some ad197) ((rd_T55 l0_0 a1).f2.f1).length c191_3) ∧ w89.cell? (ad197.add ((x9_1).toNat * 2)) = some (.int .i64 ((rd_T49 ((rd_T55 l0_0 a1).f2.f1) x9_1).f0)) ∧ w89.cell? ⟨(ad197.add ((x9_1).toNat * 2)).block, (ad197.add ((x9_1).toNat * 2)).off + 1, none⟩ = some (.int .i64 ((rd_T49 ((rd_T55 l0_0 a1).f2.f1) x9_1).f1)) := ⟨(blk_cell BK202.out 0).trans rfl, (blk_cell BK202.out 1).trans rfl, (blk_cell BK202.out 2).trans rfl, (blk_cell BK202.out 3).trans rfl, (blk_cell BK192.out 0).trans rfl, (blk_cell BK192.out 1).trans rfl, ((HB.out.cell (World.block_lt_of_cell? w _ hw203_0)).trans hw203_0), ((HB.out.cell (World.block_lt_of_cell? w _ hw203_1)).trans hw203_1)⟩
             go_quiet (fail)
             try go_wp2
             go_meet
             case rel => exact ⟨_, (true), (by first | rfl | (simp; done) | (simp [*]; done)), H', ⟨by have := HK1.out; first | omega | exact Nat.le_refl _⟩, ⟨by (with_reducible repeat (first | refine blk_drewN ?_ _ | refine blk_drew ?_ | refine blk_alloc ?_ _)); exact BK189.out⟩, ⟨by (with_reducible repeat (first | refine blk_drewN ?_ _ | refine blk_drew ?_ | refine blk_alloc ?_ _)); exact BK190.out⟩, ⟨by (with_reducible repeat (first | refine blk_drewN ?_ _ | refine blk_drew ?_ | refine blk_alloc ?_ _)); exact BK192.out⟩, ⟨by (with_reducible repeat (first | refine blk_drewN ?_ _ | refine blk_drew ?_ | refine blk_alloc ?_ _)); exact BK196.out⟩, ⟨by (with_reducible repeat (first | refine blk_drewN ?_ _ | refine blk_drew ?_ | refine blk_alloc ?_ _)); exact BK202.out⟩, ⟨by repeat (first | (with_reducible first | exact HB.out | apply below_alloc | apply pw_below_drewN | apply below_drew1 | refine below_set ?_ GE189.out | refine below_set ?_ GE190.out | refine below_set ?_ GE192.out | refine below_set ?_ GE196.out | refine below_set ?_ GE202.out) | exact HB.out)⟩⟩
           ·replace c79 := Bool.eq_false_iff.mpr c79
            subst c79
            have H1 : (assartref07_below.j1 k1 a2 x9_1 true l0_0 a0_1 false ((rd_T55 l0_0 a1).f2.f1) x197000_1 x197001_1 x197002_1 false t198 t199 t200 false) = some (r1, r2, r3, r4) := by rw [if_neg (show ¬ (false = true) by decide)] at H; exact H
            clear H
            have H := H1
            clear H1
            have H' := Aside0.mk H
            clear H
            try go_wp2
            have n0 : Aside0 (((((w74.setCell ⟨gb202, 0, none⟩ (.int .i64 t198)).setCell ⟨gb202, 1, none⟩ (.int .i64 t199)).setCell ⟨gb202, 2, none⟩ (.int .i64 t200)).setCell ⟨gb202, 3, none⟩ (.bool false)).heap[gb189]? = some (.cells #[.slice (some ad191) l0_0.length c0_0, .int .i64 a0_1] 24 (0, 0))) := ⟨by (with_reducible repeat (first | refine blk_drewN ?_ _ | refine blk_drew ?_ | refine blk_alloc ?_ _)); refine blk_far ?_ NB189_202.out _; (with_reducible repeat (first | refine blk_drewN ?_ _ | refine blk_drew ?_ | refine blk_alloc ?_ _)); refine blk_far ?_ NB189_202.out _; (with_reducible repeat (first | refine blk_drewN ?_ _ | refine blk_drew ?_ | refine blk_alloc ?_ _)); refine blk_far ?_ NB189_202.out _; (with_reducible repeat (first | refine blk_drewN ?_ _ | refine blk_drew ?_ | refine blk_alloc ?_ _)); refine blk_far ?_ NB189_202.out _; (with_reducible repeat (first | refine blk_drewN ?_ _ | refine blk_drew ?_ | refine blk_alloc ?_ _)); exact BK189.out⟩
            have n1 : Aside0 (((((w74.setCell ⟨gb202, 0, none⟩ (.int .i64 t198)).setCell ⟨gb202, 1, none⟩ (.int .i64 t199)).setCell ⟨gb202, 2, none⟩ (.int .i64 t200)).setCell ⟨gb202, 3, none⟩ (.bool false)).heap[gb190]? = some (.cells #[.int .i64 x191000_1, .int .i64 x191001_1, .int .i64 x191002_1, .bool x191003_1] 89 (0, 0))) := ⟨by (with_reducible repeat (first | refine blk_drewN ?_ _ | refine blk_drew ?_ | refine blk_alloc ?_ _)); refine blk_far ?_ NB190_202.out _; (with_reducible repeat (first | refine blk_drewN ?_ _ | refine blk_drew ?_ | refine blk_alloc ?_ _)); refine blk_far ?_ NB190_202.out _; (with_reducible repeat (first | refine blk_drewN ?_ _ | refine blk_drew ?_ | refine blk_alloc ?_ _)); refine blk_far ?_ NB190_202.out _; (with_reducible repeat (first | refine blk_drewN ?_ _ | refine blk_drew ?_ | refine blk_alloc ?_ _)); refine blk_far ?_ NB190_202.out _; (with_reducible repeat (first | refine blk_drewN ?_ _ | refine blk_drew ?_ | refine blk_alloc ?_ _)); exact BK190.out⟩
            have n2 : Aside0 (((((w74.setCell ⟨gb202, 0, none⟩ (.int .i64 t198)).setCell ⟨gb202, 1, none⟩ (.int .i64 t199)).setCell ⟨gb202, 2, none⟩ (.int .i64 t200)).setCell ⟨gb202, 3, none⟩ (.bool false)).heap[gb192]? = some (.cells #[.bool false, .slice (some ad197) ((rd_T55 l0_0 a1).f2.f1).length c191_3] 53 (0, 0))) := ⟨by (with_reducible repeat (first | refine blk_drewN ?_ _ | refine blk_drew ?_ | refine blk_alloc ?_ _)); refine blk_far ?_ NB192_202.out _; (with_reducible repeat (first | refine blk_drewN ?_ _ | refine blk_drew ?_ | refine blk_alloc ?_ _)); refine blk_far ?_ NB192_202.out _; (with_reducible repeat (first | refine blk_drewN ?_ _ | refine blk_drew ?_ | refine blk_alloc ?_ _)); refine blk_far ?_ NB192_202.out _; (with_reducible repeat (first | refine blk_drewN ?_ _ | refine blk_drew ?_ | refine blk_alloc ?_ _)); refine blk_far ?_ NB192_202.out _; (with_reducible repeat (first | refine blk_drewN ?_ _ | refine blk_drew ?_ | refine blk_alloc ?_ _)); exact BK192.out⟩
            have n3 : Aside0 (((((w74.setCell ⟨gb202, 0, none⟩ (.int .i64 t198)).setCell ⟨gb202, 1, none⟩ (.int .i64 t199)).setCell ⟨gb202, 2, none⟩ (.int .i64 t200)).setCell ⟨gb202, 3, none⟩ (.bool false)).heap[gb196]? = some (.cells #[.int .i64 x197000_1, .int .i64 x197001_1, .int .i64 x197002_1, .bool false] 89 (0, 0))) := ⟨by (with_reducible repeat (first | refine blk_drewN ?_ _ | refine blk_drew ?_ | refine blk_alloc ?_ _)); refine blk_far ?_ NB196_202.out _; (with_reducible repeat (first | refine blk_drewN ?_ _ | refine blk_drew ?_ | refine blk_alloc ?_ _)); refine blk_far ?_ NB196_202.out _; (with_reducible repeat (first | refine blk_drewN ?_ _ | refine blk_drew ?_ | refine blk_alloc ?_ _)); refine blk_far ?_ NB196_202.out _; (with_reducible repeat (first | refine blk_drewN ?_ _ | refine blk_drew ?_ | refine blk_alloc ?_ _)); refine blk_far ?_ NB196_202.out _; (with_reducible repeat (first | refine blk_drewN ?_ _ | refine blk_drew ?_ | refine blk_alloc ?_ _)); exact BK196.out⟩
            have n4 : Aside0 (((((w74.setCell ⟨gb202, 0, none⟩ (.int .i64 t198)).setCell ⟨gb202, 1, none⟩ (.int .i64 t199)).setCell ⟨gb202, 2, none⟩ (.int .i64 t200)).setCell ⟨gb202, 3, none⟩ (.bool false)).heap[gb202]? = some (.cells #[.int .i64 t198, .int .i64 t199, .int .i64 t200, .bool false] 89 (0, 0))) := ⟨by (with_reducible repeat (first | refine blk_drewN ?_ _ | refine blk_drew ?_ | refine blk_alloc ?_ _)); refine blk_put (cs := #[.int .i64 t198, .int .i64 t199, .int .i64 t200, .bool false]) ?_ 3 _ rfl; (with_reducible repeat (first | refine blk_drewN ?_ _ | refine blk_drew ?_ | refine blk_alloc ?_ _)); refine blk_put (cs := #[.int .i64 t198, .int .i64 t199, .int .i64 0, .bool false]) ?_ 2 _ rfl; (with_reducible repeat (first | refine blk_drewN ?_ _ | refine blk_drew ?_ | refine blk_alloc ?_ _)); refine blk_put (cs := #[.int .i64 t198, .int .i64 0, .int .i64 0, .bool false]) ?_ 1 _ rfl; (with_reducible repeat (first | refine blk_drewN ?_ _ | refine blk_drew ?_ | refine blk_alloc ?_ _)); refine blk_put (cs := #[.int .i64 0, .int .i64 0, .int .i64 0, .bool false]) ?_ 0 _ rfl; (with_reducible repeat (first | refine blk_drewN ?_ _ | refine blk_drew ?_ | refine blk_alloc ?_ _)); exact BK202.out⟩
            have n5 : Aside0 (Below w.heap.size w ((((w74.setCell ⟨gb202, 0, none⟩ (.int .i64 t198)).setCell ⟨gb202, 1, none⟩ (.int .i64 t199)).setCell ⟨gb202, 2, none⟩ (.int .i64 t200)).setCell ⟨gb202, 3, none⟩ (.bool false))) := ⟨by repeat (first | (with_reducible first | exact HB.out | apply below_alloc | apply pw_below_drewN | apply below_drew1 | refine below_set ?_ GE189.out | refine below_set ?_ GE190.out | refine below_set ?_ GE192.out | refine below_set ?_ GE196.out | refine below_set ?_ GE202.out) | exact HB.out)⟩
            (try clear BK189)
            (try clear BK190)
            (try clear BK192)
            (try clear BK196)
            (try clear BK202)
            (try clear HB)
            generalize ((((w74.setCell ⟨gb202, 0, none⟩ (.int .i64 t198)).setCell ⟨gb202, 1, none⟩ (.int .i64 t199)).setCell ⟨gb202, 2, none⟩ (.int .i64 t200)).setCell ⟨gb202, 3, none⟩ (.bool false)) = w91 at n0 n1 n2 n3 n4 n5 ⊢
            have BK189 := n0
            have BK190 := n1
            have BK192 := n2
            have BK196 := n3
            have BK202 := n4
            have HB := n5
            clear n0 n1 n2 n3 n4 n5
            obtain ⟨y0_, y1_, y2_, y3_⟩ : w91.cell? ⟨gb202, 0, none⟩ = some (.int .i64 t198) ∧ w91.cell? ⟨gb202, 1, none⟩ = some (.int .i64 t199) ∧ w91.cell? ⟨gb202, 2, none⟩ = some (.int .i64 t200) ∧ w91.cell? ⟨gb202, 3, none⟩ = some (.bool false) := ⟨(blk_cell BK202.out 0).trans rfl, (blk_cell BK202.out 1).trans rfl, (blk_cell BK202.out 2).trans rfl, (blk_cell BK202.out 3).trans rfl⟩
            go_quiet (fail)
            try go_wp2
            go_meet
            case rel => exact ⟨_, (true), (by first | rfl | (simp; done) | (simp [*]; done)), H', ⟨by have := HK1.out; first | omega | exact Nat.le_refl _⟩, ⟨by (with_reducible repeat (first | refine blk_drewN ?_ _ | refine blk_drew ?_ | refine blk_alloc ?_ _)); exact BK189.out⟩, ⟨by (with_reducible repeat (first | refine blk_drewN ?_ _ | refine blk_drew ?_ | refine blk_alloc ?_ _)); exact BK190.out⟩, ⟨by (with_reducible repeat (first | refine blk_drewN ?_ _ | refine blk_drew ?_ | refine blk_alloc ?_ _)); exact BK192.out⟩, ⟨by (with_reducible repeat (first | refine blk_drewN ?_ _ | refine blk_drew ?_ | refine blk_alloc ?_ _)); exact BK196.out⟩, ⟨by (with_reducible repeat (first | refine blk_drewN ?_ _ | refine blk_drew ?_ | refine blk_alloc ?_ _)); exact BK202.out⟩, ⟨by repeat (first | (with_reducible first | exact HB.out | apply below_alloc | apply pw_below_drewN | apply below_drew1 | refine below_set ?_ GE189.out | refine below_set ?_ GE190.out | refine below_set ?_ GE192.out | refine below_set ?_ GE196.out | refine below_set ?_ GE202.out) | exact HB.out)⟩⟩
          case rest =>
           clear HC66
           try clear c1
           try clear p2
           try clear q2
           try clear hx2
           try clear c7
           try clear c8
           try clear c19
           try clear p20
           try clear q20
           try clear hx20
           try clear c79
           try clear c80
           try clear c80b0
           try clear c80b1
           try clear hx203_0
           try clear hx203_1
           try clear p203
           try clear q203
           obtain ⟨kq, x97_65, rfl, HA, HJ65, BK189, BK190, BK192, BK196, BK202, HB⟩ := hcut
           cases kq with
           | zero => exact absurd HA.out (by simp [assartref07_below.j1])
           | succ kj65 =>
            have H := HA.out
            clear HA
            simp only [assartref07_below.j1] at H
            by_cases c93 : x97_65 = true
            ·subst c93
             have H1 : (some (0, 0, 0, false)) = some (r1, r2, r3, r4) := by rw [if_pos rfl] at H; exact H
             clear H
             have H := H1
             clear H1
             simp only [Option.some.injEq, Prod.mk.injEq] at H
             obtain ⟨rfl, rfl, rfl, rfl⟩ := H
             have hnb94 := NB190_189.out
             have hnc94 := NB189_190.out
             have hnb95 := NB190_192.out
             have hnc95 := NB192_190.out
             have hnb96 := NB190_196.out
             have hnc96 := NB196_190.out
             have hnb97 := NB190_202.out
             have hnc97 := NB202_190.out
             have hcz98_0 : wc.cell? ⟨gb190, 0, none⟩ = some (.int .i64 x191000_1) := (blk_cell BK190.out 0).trans rfl
             have hcz98_1 : wc.cell? ⟨gb190, 1, none⟩ = some (.int .i64 x191001_1) := (blk_cell BK190.out 1).trans rfl
             have hcz98_2 : wc.cell? ⟨gb190, 2, none⟩ = some (.int .i64 x191002_1) := (blk_cell BK190.out 2).trans rfl
             have hcz98_3 : wc.cell? ⟨gb190, 3, none⟩ = some (.bool x191003_1) := (blk_cell BK190.out 3).trans rfl
             have hfz98_0 := blk_frozen BK190.out 0
             have hfz98_1 := blk_frozen BK190.out 1
             have hfz98_2 := blk_frozen BK190.out 2
             have hfz98_3 := blk_frozen BK190.out 3
             go_wp2
             refine bodyPost_ret (results_cell_row rfl _ _ gb190 89 #[.int .i64 0, .int .i64 0, .int .i64 0, .bool false] (0, 0) _ rfl (by (with_reducible repeat (first | refine blk_drewN ?_ _ | refine blk_drew ?_ | refine blk_alloc ?_ _)); refine blk_put (cs := #[.int .i64 0, .int .i64 0, .int .i64 0, .bool x191003_1]) ?_ 3 _ rfl; (with_reducible repeat (first | refine blk_drewN ?_ _ | refine blk_drew ?_ | refine blk_alloc ?_ _)); refine blk_put (cs := #[.int .i64 0, .int .i64 0, .int .i64 x191002_1, .bool x191003_1]) ?_ 2 _ rfl; (with_reducible repeat (first | refine blk_drewN ?_ _ | refine blk_drew ?_ | refine blk_alloc ?_ _)); refine blk_put (cs := #[.int .i64 0, .int .i64 x191001_1, .int .i64 x191002_1, .bool x191003_1]) ?_ 1 _ rfl; (with_reducible repeat (first | refine blk_drewN ?_ _ | refine blk_drew ?_ | refine blk_alloc ?_ _)); refine blk_put (cs := #[.int .i64 x191000_1, .int .i64 x191001_1, .int .i64 x191002_1, .bool x191003_1]) ?_ 0 _ rfl; (with_reducible repeat (first | refine blk_drewN ?_ _ | refine blk_drew ?_ | refine blk_alloc ?_ _)); exact BK190.out) Try.underlying89 rfl (by kernel_rfl)) rfl ?_
             exact ⟨by first | rfl | (simp [errW_none, errW_some] <;> rfl) | (simp [*, errW_none, errW_some] <;> rfl), by repeat (first | (with_reducible first | exact HB.out | apply below_alloc | apply pw_below_drewN | apply below_drew1 | refine below_set ?_ GE189.out | refine below_set ?_ GE190.out | refine below_set ?_ GE192.out | refine below_set ?_ GE196.out | refine below_set ?_ GE202.out) | exact HB.out)⟩
            ·replace c93 := Bool.eq_false_iff.mpr c93
             subst c93
             have H1 : (if x9_1 = 0 then (assartref07_below.l0 kj65 a2 (wrap64 (x9_1 + 1)) l0_0 a0_1 false ((rd_T55 l0_0 a1).f2.f1) t198 t199 (wrap64 (t200 + 1)) false) else (assartref07_below.l0 kj65 a2 (wrap64 (x9_1 + 1)) l0_0 a0_1 false ((rd_T55 l0_0 a1).f2.f1) x197000_1 t199 x197002_1 false)) = some (r1, r2, r3, r4) := by rw [if_neg (show ¬ (false = true) by decide)] at H; exact H
             clear H
             have H := H1
             clear H1
             by_cases c99 : x9_1 = 0
             ·rw [if_pos c99] at H
              have c99b0 : (x9_1 == 0) = true := beq_iff_eq.mpr c99
              have c99b1 : (x9_1 != 0) = false := bne_eq_false_iff_eq.mpr c99
              clear c99
              have H' := Aside0.mk H
              clear H
              have hnb100 := NB202_189.out
              have hnc100 := NB189_202.out
              have hnb101 := NB202_190.out
              have hnc101 := NB190_202.out
              have hnb102 := NB202_192.out
              have hnc102 := NB192_202.out
              have hnb103 := NB202_196.out
              have hnc103 := NB196_202.out
              have hcz104_0 : wc.cell? ⟨gb202, 0, none⟩ = some (.int .i64 t198) := (blk_cell BK202.out 0).trans rfl
              have hcz104_1 : wc.cell? ⟨gb202, 1, none⟩ = some (.int .i64 t199) := (blk_cell BK202.out 1).trans rfl
              have hcz104_2 : wc.cell? ⟨gb202, 2, none⟩ = some (.int .i64 t200) := (blk_cell BK202.out 2).trans rfl
              have hcz104_3 : wc.cell? ⟨gb202, 3, none⟩ = some (.bool t201) := (blk_cell BK202.out 3).trans rfl
              have hfz104_0 := blk_frozen BK202.out 0
              have hfz104_1 := blk_frozen BK202.out 1
              have hfz104_2 := blk_frozen BK202.out 2
              have hfz104_3 := blk_frozen BK202.out 3
              have hnb105 := NB196_189.out
              have hnc105 := NB189_196.out
              have hnb106 := NB196_190.out
              have hnc106 := NB190_196.out
              have hnb107 := NB196_192.out
              have hnc107 := NB192_196.out
              have hcz108_0 : wc.cell? ⟨gb196, 0, none⟩ = some (.int .i64 x197000_1) := (blk_cell BK196.out 0).trans rfl
              have hcz108_1 : wc.cell? ⟨gb196, 1, none⟩ = some (.int .i64 x197001_1) := (blk_cell BK196.out 1).trans rfl
              have hcz108_2 : wc.cell? ⟨gb196, 2, none⟩ = some (.int .i64 x197002_1) := (blk_cell BK196.out 2).trans rfl
              have hcz108_3 : wc.cell? ⟨gb196, 3, none⟩ = some (.bool false) := (blk_cell BK196.out 3).trans rfl
              have hfz108_0 := blk_frozen BK196.out 0
              have hfz108_1 := blk_frozen BK196.out 1
              have hfz108_2 := blk_frozen BK196.out 2
              have hfz108_3 := blk_frozen BK196.out 3
              go_wp2
              go_roundg kj65
              case measure => have := HK1.out; have := HJ65.out; omega
              case rel => exact ⟨(wrap64 (x9_1 + 1)), (x191000_1), (x191001_1), (x191002_1), (x191003_1), (t198), (t199), (wrap64 (t200 + 1)), (by first | rfl | (simp; done) | (simp [*]; done)), H', ⟨by have := HK1.out; have := HJ65.out; omega⟩, ⟨by (with_reducible repeat (first | refine blk_drewN ?_ _ | refine blk_drew ?_ | refine blk_alloc ?_ _)); refine blk_far ?_ NB189_196.out _; (with_reducible repeat (first | refine blk_drewN ?_ _ | refine blk_drew ?_ | refine blk_alloc ?_ _)); refine blk_far ?_ NB189_196.out _; (with_reducible repeat (first | refine blk_drewN ?_ _ | refine blk_drew ?_ | refine blk_alloc ?_ _)); refine blk_far ?_ NB189_196.out _; (with_reducible repeat (first | refine blk_drewN ?_ _ | refine blk_drew ?_ | refine blk_alloc ?_ _)); exact BK189.out⟩, ⟨by (with_reducible repeat (first | refine blk_drewN ?_ _ | refine blk_drew ?_ | refine blk_alloc ?_ _)); refine blk_far ?_ NB190_196.out _; (with_reducible repeat (first | refine blk_drewN ?_ _ | refine blk_drew ?_ | refine blk_alloc ?_ _)); refine blk_far ?_ NB190_196.out _; (with_reducible repeat (first | refine blk_drewN ?_ _ | refine blk_drew ?_ | refine blk_alloc ?_ _)); refine blk_far ?_ NB190_196.out _; (with_reducible repeat (first | refine blk_drewN ?_ _ | refine blk_drew ?_ | refine blk_alloc ?_ _)); exact BK190.out⟩, ⟨by (with_reducible repeat (first | refine blk_drewN ?_ _ | refine blk_drew ?_ | refine blk_alloc ?_ _)); refine blk_far ?_ NB192_196.out _; (with_reducible repeat (first | refine blk_drewN ?_ _ | refine blk_drew ?_ | refine blk_alloc ?_ _)); refine blk_far ?_ NB192_196.out _; (with_reducible repeat (first | refine blk_drewN ?_ _ | refine blk_drew ?_ | refine blk_alloc ?_ _)); refine blk_far ?_ NB192_196.out _; (with_reducible repeat (first | refine blk_drewN ?_ _ | refine blk_drew ?_ | refine blk_alloc ?_ _)); exact BK192.out⟩, ⟨by (with_reducible repeat (first | refine blk_drewN ?_ _ | refine blk_drew ?_ | refine blk_alloc ?_ _)); refine blk_put (cs := #[.int .i64 t198, .int .i64 x197001_1, .int .i64 (wrap64 (t200 + 1)), .bool false]) ?_ 1 _ rfl; (with_reducible repeat (first | refine blk_drewN ?_ _ | refine blk_drew ?_ | refine blk_alloc ?_ _)); refine blk_put (cs := #[.int .i64 t198, .int .i64 x197001_1, .int .i64 x197002_1, .bool false]) ?_ 2 _ rfl; (with_reducible repeat (first | refine blk_drewN ?_ _ | refine blk_drew ?_ | refine blk_alloc ?_ _)); refine blk_put (cs := #[.int .i64 x197000_1, .int .i64 x197001_1, .int .i64 x197002_1, .bool false]) ?_ 0 _ rfl; (with_reducible repeat (first | refine blk_drewN ?_ _ | refine blk_drew ?_ | refine blk_alloc ?_ _)); exact BK196.out⟩, ⟨by repeat (first | (with_reducible first | exact HB.out | apply below_alloc | apply pw_below_drewN | apply below_drew1 | refine below_set ?_ GE189.out | refine below_set ?_ GE190.out | refine below_set ?_ GE192.out | refine below_set ?_ GE196.out | refine below_set ?_ GE202.out) | exact HB.out)⟩⟩
             ·rw [if_neg c99] at H
              have c99b0 : (x9_1 == 0) = false := beq_eq_false_iff_ne.mpr c99
              have c99b1 : (x9_1 != 0) = true := bne_iff_ne.mpr c99
              have H' := Aside0.mk H
              clear H
              have hnb109 := NB202_189.out
              have hnc109 := NB189_202.out
              have hnb110 := NB202_190.out
              have hnc110 := NB190_202.out
              have hnb111 := NB202_192.out
              have hnc111 := NB192_202.out
              have hnb112 := NB202_196.out
              have hnc112 := NB196_202.out
              have hcz113_0 : wc.cell? ⟨gb202, 0, none⟩ = some (.int .i64 t198) := (blk_cell BK202.out 0).trans rfl
              have hcz113_1 : wc.cell? ⟨gb202, 1, none⟩ = some (.int .i64 t199) := (blk_cell BK202.out 1).trans rfl
              have hcz113_2 : wc.cell? ⟨gb202, 2, none⟩ = some (.int .i64 t200) := (blk_cell BK202.out 2).trans rfl
              have hcz113_3 : wc.cell? ⟨gb202, 3, none⟩ = some (.bool t201) := (blk_cell BK202.out 3).trans rfl
              have hfz113_0 := blk_frozen BK202.out 0
              have hfz113_1 := blk_frozen BK202.out 1
              have hfz113_2 := blk_frozen BK202.out 2
              have hfz113_3 := blk_frozen BK202.out 3
              have hnb114 := NB196_189.out
              have hnc114 := NB189_196.out
              have hnb115 := NB196_190.out
              have hnc115 := NB190_196.out
              have hnb116 := NB196_192.out
              have hnc116 := NB192_196.out
              have hcz117_0 : wc.cell? ⟨gb196, 0, none⟩ = some (.int .i64 x197000_1) := (blk_cell BK196.out 0).trans rfl
              have hcz117_1 : wc.cell? ⟨gb196, 1, none⟩ = some (.int .i64 x197001_1) := (blk_cell BK196.out 1).trans rfl
              have hcz117_2 : wc.cell? ⟨gb196, 2, none⟩ = some (.int .i64 x197002_1) := (blk_cell BK196.out 2).trans rfl
              have hcz117_3 : wc.cell? ⟨gb196, 3, none⟩ = some (.bool false) := (blk_cell BK196.out 3).trans rfl
              have hfz117_0 := blk_frozen BK196.out 0
              have hfz117_1 := blk_frozen BK196.out 1
              have hfz117_2 := blk_frozen BK196.out 2
              have hfz117_3 := blk_frozen BK196.out 3
              go_wp2
              go_roundg kj65
              case measure => have := HK1.out; have := HJ65.out; omega
              case rel => exact ⟨(wrap64 (x9_1 + 1)), (x191000_1), (x191001_1), (x191002_1), (x191003_1), (x197000_1), (t199), (x197002_1), (by first | rfl | (simp; done) | (simp [*]; done)), H', ⟨by have := HK1.out; have := HJ65.out; omega⟩, ⟨by (with_reducible repeat (first | refine blk_drewN ?_ _ | refine blk_drew ?_ | refine blk_alloc ?_ _)); refine blk_far ?_ NB189_196.out _; (with_reducible repeat (first | refine blk_drewN ?_ _ | refine blk_drew ?_ | refine blk_alloc ?_ _)); exact BK189.out⟩, ⟨by (with_reducible repeat (first | refine blk_drewN ?_ _ | refine blk_drew ?_ | refine blk_alloc ?_ _)); refine blk_far ?_ NB190_196.out _; (with_reducible repeat (first | refine blk_drewN ?_ _ | refine blk_drew ?_ | refine blk_alloc ?_ _)); exact BK190.out⟩, ⟨by (with_reducible repeat (first | refine blk_drewN ?_ _ | refine blk_drew ?_ | refine blk_alloc ?_ _)); refine blk_far ?_ NB192_196.out _; (with_reducible repeat (first | refine blk_drewN ?_ _ | refine blk_drew ?_ | refine blk_alloc ?_ _)); exact BK192.out⟩, ⟨by (with_reducible repeat (first | refine blk_drewN ?_ _ | refine blk_drew ?_ | refine blk_alloc ?_ _)); refine blk_put (cs := #[.int .i64 x197000_1, .int .i64 x197001_1, .int .i64 x197002_1, .bool false]) ?_ 1 _ rfl; (with_reducible repeat (first | refine blk_drewN ?_ _ | refine blk_drew ?_ | refine blk_alloc ?_ _)); exact BK196.out⟩, ⟨by repeat (first | (with_reducible first | exact HB.out | apply below_alloc | apply pw_below_drewN | apply below_drew1 | refine below_set ?_ GE189.out | refine below_set ?_ GE190.out | refine below_set ?_ GE192.out | refine below_set ?_ GE196.out | refine below_set ?_ GE202.out) | exact HB.out)⟩⟩
         ·rw [if_neg c64] at H
          exact absurd H (by simp)
        ·rw [if_neg c63] at H
         have c63b0 : decide (x9_1 < (((rd_T55 l0_0 a1).f2.f1).length : Int)) = false := decide_eq_false c63
         clear c63
         simp only [Option.some.injEq, Prod.mk.injEq] at H
         obtain ⟨rfl, rfl, rfl, rfl⟩ := H
         have hnb118 := NB192_189.out
         have hnc118 := NB189_192.out
         have hnb119 := NB192_190.out
         have hnc119 := NB190_192.out
         have hnb120 := NB192_196.out
         have hnc120 := NB196_192.out
         have hcz121_0 : wr.cell? ⟨gb192, 0, none⟩ = some (.bool false) := (blk_cell BK192.out 0).trans rfl
         have hcz121_1 : wr.cell? ⟨gb192, 1, none⟩ = some (.slice A191_3 ((rd_T55 l0_0 a1).f2.f1).length c191_3) := (blk_cell BK192.out 1).trans rfl
         have hfz121_0 := blk_frozen BK192.out 0
         have hfz121_1 := blk_frozen BK192.out 1
         have hnb122 := NB196_189.out
         have hnc122 := NB189_196.out
         have hnb123 := NB196_190.out
         have hnc123 := NB190_196.out
         have hcz124_0 : wr.cell? ⟨gb196, 0, none⟩ = some (.int .i64 x197000_1) := (blk_cell BK196.out 0).trans rfl
         have hcz124_1 : wr.cell? ⟨gb196, 1, none⟩ = some (.int .i64 x197001_1) := (blk_cell BK196.out 1).trans rfl
         have hcz124_2 : wr.cell? ⟨gb196, 2, none⟩ = some (.int .i64 x197002_1) := (blk_cell BK196.out 2).trans rfl
         have hcz124_3 : wr.cell? ⟨gb196, 3, none⟩ = some (.bool false) := (blk_cell BK196.out 3).trans rfl
         have hfz124_0 := blk_frozen BK196.out 0
         have hfz124_1 := blk_frozen BK196.out 1
         have hfz124_2 := blk_frozen BK196.out 2
         have hfz124_3 := blk_frozen BK196.out 3
         have hnb125 := NB190_189.out
         have hnc125 := NB189_190.out
         have hcz126_0 : wr.cell? ⟨gb190, 0, none⟩ = some (.int .i64 x191000_1) := (blk_cell BK190.out 0).trans rfl
         have hcz126_1 : wr.cell? ⟨gb190, 1, none⟩ = some (.int .i64 x191001_1) := (blk_cell BK190.out 1).trans rfl
         have hcz126_2 : wr.cell? ⟨gb190, 2, none⟩ = some (.int .i64 x191002_1) := (blk_cell BK190.out 2).trans rfl
         have hcz126_3 : wr.cell? ⟨gb190, 3, none⟩ = some (.bool x191003_1) := (blk_cell BK190.out 3).trans rfl
         have hfz126_0 := blk_frozen BK190.out 0
         have hfz126_1 := blk_frozen BK190.out 1
         have hfz126_2 := blk_frozen BK190.out 2
         have hfz126_3 := blk_frozen BK190.out 3
         go_wp2
         refine bodyPost_ret (results_cell_row rfl _ _ gb190 89 #[.int .i64 x197000_1, .int .i64 x197001_1, .int .i64 x197002_1, .bool true] (0, 0) _ rfl (by (with_reducible repeat (first | refine blk_drewN ?_ _ | refine blk_drew ?_ | refine blk_alloc ?_ _)); refine blk_put (cs := #[.int .i64 x197000_1, .int .i64 x197001_1, .int .i64 x197002_1, .bool x191003_1]) ?_ 3 _ rfl; (with_reducible repeat (first | refine blk_drewN ?_ _ | refine blk_drew ?_ | refine blk_alloc ?_ _)); refine blk_put (cs := #[.int .i64 x197000_1, .int .i64 x197001_1, .int .i64 x191002_1, .bool x191003_1]) ?_ 2 _ rfl; (with_reducible repeat (first | refine blk_drewN ?_ _ | refine blk_drew ?_ | refine blk_alloc ?_ _)); refine blk_put (cs := #[.int .i64 x197000_1, .int .i64 x191001_1, .int .i64 x191002_1, .bool x191003_1]) ?_ 1 _ rfl; (with_reducible repeat (first | refine blk_drewN ?_ _ | refine blk_drew ?_ | refine blk_alloc ?_ _)); refine blk_put (cs := #[.int .i64 x191000_1, .int .i64 x191001_1, .int .i64 x191002_1, .bool x191003_1]) ?_ 0 _ rfl; (with_reducible repeat (first | refine blk_drewN ?_ _ | refine blk_drew ?_ | refine blk_alloc ?_ _)); refine blk_far ?_ NB190_196.out _; (with_reducible repeat (first | refine blk_drewN ?_ _ | refine blk_drew ?_ | refine blk_alloc ?_ _)); exact BK190.out) Try.underlying89 rfl (by kernel_rfl)) rfl ?_
         exact ⟨by first | rfl | (simp [errW_none, errW_some] <;> rfl) | (simp [*, errW_none, errW_some] <;> rfl), by repeat (first | (with_reducible first | exact HB.out | apply below_alloc | apply pw_below_drewN | apply below_drew1 | refine below_set ?_ GE189.out | refine below_set ?_ GE190.out | refine below_set ?_ GE192.out | refine below_set ?_ GE196.out) | exact HB.out)⟩
  ·rw [if_neg c5] at H
   exact absurd H (by simp)
 ·rw [if_neg c4] at H
  exact absurd H (by simp)
end Go.Proofs.Yteiladccdenpbaa.P
end
section
namespace Go.Proofs.Yteiladccdenpbaa.P
open Go.RowKit Go.Proofs.YteiladccdenpbaaW.PrintWords Go.Proofs.YteiladccdenpbaaW.PrintLast Go.Proofs.YteiladccdenpbaaW.PrintMore
attribute [local go_sem] max2_int min2_int max_two min_two max_three min_three max_four min_four
set_option linter.unusedVariables false
set_option linter.unusedSimpArgs false
def assartref07_Right.f (k : Nat) (l0_0 : List (S55)) (a0_1 : Int) (a1 : Int) : Option (Bool) := if a1 = (-1) then (some true) else ((assartref05_Used.f l0_0 a0_1 a1).bind fun t205 => (if t205 = true then ((assartref07_below.f k l0_0 a0_1 a1 20).bind fun bt206 => (some bt206.2.2.2)) else (some false)))
set_option maxHeartbeats 8000000 in
set_option maxRecDepth 100000 in
theorem assartref07_Right.calls (k : Nat) (A0_0 : Option Addr) (c0_0 : Nat) (l0_0 : List (S55)) (a0_1 : Int) (a1 : Int) (r : Bool) (w : World) (hr0_0 : Kd.C k55 w A0_0 l0_0.length l0_0) (hc0_0 : l0_0.length ≤ c0_0) (h : assartref07_Right.f k l0_0 a0_1 a1 = some r) :
  Calls Try.prog 17 #[.agg #[.slice A0_0 l0_0.length c0_0, .int .i64 a0_1], .int .i64 a1] w fun e w' => e = .returned (.bool r) ∧ Below w.heap.size w w' := by
 have hu24 := Try.underlying24
 have hu89 := Try.underlying89
 have HR0_0 := Aside0.mk hr0_0
 have HC0_0 := Aside0.mk hc0_0
 clear hr0_0 hc0_0
 have HB := Aside0.mk (Below.refl w.heap.size w)
 have H : (if a1 = (-1) then (some true) else ((assartref05_Used.f l0_0 a0_1 a1).bind fun t205 => (if t205 = true then ((assartref07_below.f k l0_0 a0_1 a1 20).bind fun bt206 => (some bt206.2.2.2)) else (some false)))) = some r := h
 clear h
 by_cases c3 : a1 = (-1)
 ·rw [if_pos c3] at H
  have c3b0 : (a1 == (-1)) = true := beq_iff_eq.mpr c3
  have c3b1 : (a1 != (-1)) = false := bne_eq_false_iff_eq.mpr c3
  clear c3
  obtain rfl := Option.some.inj H
  go_enter Try.func17, Try.ntmps17
  go_wp2_with (first | ((with_reducible refine gate_dst (N := 2) rfl ?_); refine box_event ?hg (N := 2) ?hd (cs := #[.slice A0_0 l0_0.length c0_0, .int .i64 a0_1]) (t := 24) ?hr ?_; (case hd => rfl); (case hg => rfl); (case hr => first | (go_simp; done) | (go_simp; rfl)); intro gb204 hg w4 hbox hb; have n0_ := Aside0.mk (below_step (by repeat (first | (with_reducible first | exact HB.out | apply below_alloc | apply pw_below_drewN | apply below_drew1) | exact HB.out)) hb); have n1_ := Aside0.mk (hbox); have n2_ := Aside0.mk ((by rw [hg]; exact (below_size (by repeat (first | (with_reducible first | exact HB.out | apply below_alloc | apply pw_below_drewN | apply below_drew1) | exact HB.out))) : w.heap.size ≤ gb204)); have n3_ := Aside0.mk ((by rw [hg]; exact (below_size (by repeat (first | (with_reducible first | exact HB.out | apply below_alloc | apply pw_below_drewN | apply below_drew1) | exact HB.out))) : w.heap.size ≤ gb204)); clear HB; have HB := n0_; have BK204 := n1_; have GW204 := n2_; have GE204 := n3_; clear n0_ n1_ n2_ n3_; clear hb hbox hg))
  go_ret
  exact ⟨by first | rfl | (simp [errW_none, errW_some] <;> rfl) | (simp [*, errW_none, errW_some] <;> rfl), by repeat (first | (with_reducible first | exact HB.out | apply below_alloc | apply pw_below_drewN | apply below_drew1 | refine below_set ?_ GE204.out) | exact HB.out)⟩
 ·rw [if_neg c3] at H
  have c3b0 : (a1 == (-1)) = false := beq_eq_false_iff_ne.mpr c3
  have c3b1 : (a1 != (-1)) = true := bne_iff_ne.mpr c3
  replace H := Option.bind_eq_some_iff.mp H
  obtain ⟨t205, A50, H⟩ := H
  replace H : (if t205 = true then ((assartref07_below.f k l0_0 a0_1 a1 20).bind fun bt206 => (some bt206.2.2.2)) else (some false)) = some r := H
  have A5 := Aside0.mk A50
  clear A50
  by_cases c6 : t205 = true
  ·subst c6
   have H1 : ((assartref07_below.f k l0_0 a0_1 a1 20).bind fun bt206 => (some bt206.2.2.2)) = some r := by rw [if_pos rfl] at H; exact H
   clear H
   have H := H1
   clear H1
   replace H := Option.bind_eq_some_iff.mp H
   obtain ⟨⟨t206, t207, t208, t209⟩, A70, H⟩ := H
   replace H : (some t209) = some r := H
   have A7 := Aside0.mk A70
   clear A70
   obtain rfl := Option.some.inj H
   go_enter Try.func17, Try.ntmps17
   go_wp2_with (first | ((with_reducible refine gate_dst (N := 2) rfl ?_); refine box_event ?hg (N := 2) ?hd (cs := #[.slice A0_0 l0_0.length c0_0, .int .i64 a0_1]) (t := 24) ?hr ?_; (case hd => rfl); (case hg => rfl); (case hr => first | (go_simp; done) | (go_simp; rfl)); intro gb204 hg w8 hbox hb; have n0_ := Aside0.mk (below_step (by repeat (first | (with_reducible first | exact HB.out | apply below_alloc | apply pw_below_drewN | apply below_drew1) | exact HB.out)) hb); have n1_ := Aside0.mk (hbox); have n2_ := Aside0.mk ((by rw [hg]; exact (below_size (by repeat (first | (with_reducible first | exact HB.out | apply below_alloc | apply pw_below_drewN | apply below_drew1) | exact HB.out))) : w.heap.size ≤ gb204)); have n3_ := Aside0.mk ((by rw [hg]; exact (below_size (by repeat (first | (with_reducible first | exact HB.out | apply below_alloc | apply pw_below_drewN | apply below_drew1) | exact HB.out))) : w.heap.size ≤ gb204)); clear HB; have HB := n0_; have BK204 := n1_; have GW204 := n2_; have GE204 := n3_; clear n0_ n1_ n2_ n3_; clear hb hbox hg; have hcz9_0 : w8.cell? ⟨gb204, 0, none⟩ = some (.slice A0_0 l0_0.length c0_0) := (blk_cell BK204.out 0).trans rfl; have hcz9_1 : w8.cell? ⟨gb204, 1, none⟩ = some (.int .i64 a0_1) := (blk_cell BK204.out 1).trans rfl; have hfz9_0 := blk_frozen BK204.out 0; have hfz9_1 := blk_frozen BK204.out 1) | ((with_reducible refine gate_callee (f := 52) rfl ?_); refine goesL_ (some 11) rfl rfl Try.func52 (by kernel_rfl) rfl #[.agg #[.slice A0_0 l0_0.length c0_0, .int .i64 a0_1], .int .i64 a1] rfl (by (try simp only [List.map_toArray, List.map_cons, List.map_nil]); first | done | rfl | (simp only [List.length_drop, List.length_take]; rfl)) ?_; (with_reducible refine (assartref05_Used.calls _ _ l0_0 a0_1 a1 true _ ?side1 ?side2 A5.out).mono ?_); (case side1 => repeat (first | exact (Kd.C_below HR0_0.out HB.out) | (with_reducible refine Kd.C_alloc ?_ _) | (with_reducible refine Kd.C_drewN ?_ _) | (with_reducible refine Kd.C_drew ?_))); (case side2 => exact HC0_0.out); rintro e w10 ⟨rfl, hb⟩; refine ⟨_, rfl, ?_⟩; have n0_ := Aside0.mk (blk_below (g := gb204) (o := .cells #[.slice A0_0 l0_0.length c0_0, .int .i64 a0_1] 24 (0, 0)) (by (with_reducible repeat (first | refine blk_drewN ?_ _ | refine blk_drew ?_ | refine blk_alloc ?_ _)); exact BK204.out) hb); have n1_ := Aside0.mk (below_step (by repeat (first | (with_reducible first | exact HB.out | apply below_alloc | apply pw_below_drewN | apply below_drew1 | refine below_set ?_ GE204.out) | exact HB.out)) hb); clear BK204; clear HB; have BK204 := n0_; have HB := n1_; clear n0_ n1_; (try clear hb); (try clear hb2); (try clear hk); (try clear hi); have hcz11_0 : w10.cell? ⟨gb204, 0, none⟩ = some (.slice A0_0 l0_0.length c0_0) := (blk_cell BK204.out 0).trans rfl; have hcz11_1 : w10.cell? ⟨gb204, 1, none⟩ = some (.int .i64 a0_1) := (blk_cell BK204.out 1).trans rfl; have hfz11_0 := blk_frozen BK204.out 0; have hfz11_1 := blk_frozen BK204.out 1) | ((with_reducible refine gate_callee (f := 57) rfl ?_); refine goesL_ (some 16) rfl rfl Try.func57 (by kernel_rfl) rfl #[.agg #[.slice A0_0 l0_0.length c0_0, .int .i64 a0_1], .int .i64 a1, .int .i64 20] rfl (by (try simp only [List.map_toArray, List.map_cons, List.map_nil]); first | done | rfl | (simp only [List.length_drop, List.length_take]; rfl)) ?_; (with_reducible refine (assartref07_below.calls k _ _ l0_0 a0_1 a1 20 t206 t207 t208 t209 _ ?side1 ?side2 A7.out).mono ?_); (case side1 => repeat (first | exact (Kd.C_below HR0_0.out HB.out) | (with_reducible refine Kd.C_alloc ?_ _) | (with_reducible refine Kd.C_drewN ?_ _) | (with_reducible refine Kd.C_drew ?_))); (case side2 => exact HC0_0.out); rintro e w12 ⟨rfl, hb⟩; refine ⟨_, rfl, ?_⟩; have n0_ := Aside0.mk (blk_below (g := gb204) (o := .cells #[.slice A0_0 l0_0.length c0_0, .int .i64 a0_1] 24 (0, 0)) (by (with_reducible repeat (first | refine blk_drewN ?_ _ | refine blk_drew ?_ | refine blk_alloc ?_ _)); exact BK204.out) hb); have n1_ := Aside0.mk (below_step (by repeat (first | (with_reducible first | exact HB.out | apply below_alloc | apply pw_below_drewN | apply below_drew1 | refine below_set ?_ GE204.out) | exact HB.out)) hb); clear BK204; clear HB; have BK204 := n0_; have HB := n1_; clear n0_ n1_; (try clear hb); (try clear hb2); (try clear hk); (try clear hi)) | ((with_reducible refine gate_dst (N := 6) rfl ?_); refine box_event ?hg (N := 6) ?hd (cs := #[.int .i64 0, .int .i64 0, .int .i64 0, .bool false]) (t := 89) ?hr ?_; (case hd => rfl); (case hg => rfl); (case hr => first | (go_simp; done) | (go_simp; rfl)); intro gb210 hg w13 hbox hb; have n0_ := Aside0.mk (blk_below (g := gb204) (o := .cells #[.slice A0_0 l0_0.length c0_0, .int .i64 a0_1] 24 (0, 0)) (by (with_reducible repeat (first | refine blk_drewN ?_ _ | refine blk_drew ?_ | refine blk_alloc ?_ _)); exact BK204.out) hb); have n1_ := Aside0.mk (below_step (by repeat (first | (with_reducible first | exact HB.out | apply below_alloc | apply pw_below_drewN | apply below_drew1 | refine below_set ?_ GE204.out) | exact HB.out)) hb); have n2_ := Aside0.mk (hbox); have n3_ := Aside0.mk ((by rw [hg]; exact (below_size (by repeat (first | (with_reducible first | exact HB.out | apply below_alloc | apply pw_below_drewN | apply below_drew1 | refine below_set ?_ GE204.out) | exact HB.out))) : w.heap.size ≤ gb210)); have n4_ := Aside0.mk ((by rw [hg]; exact (below_size (by repeat (first | (with_reducible first | exact HB.out | apply below_alloc | apply pw_below_drewN | apply below_drew1 | refine below_set ?_ GE204.out) | exact HB.out))) : w.heap.size ≤ gb210)); have n5_ := Aside0.mk ((by rw [hg]; exact Nat.ne_of_lt (blk_lt (g := gb204) (o := .cells #[.slice A0_0 l0_0.length c0_0, .int .i64 a0_1] 24 (0, 0)) (by (with_reducible repeat (first | refine blk_drewN ?_ _ | refine blk_drew ?_ | refine blk_alloc ?_ _)); exact BK204.out)) : gb204 ≠ gb210)); have n6_ := Aside0.mk ((by rw [hg]; exact Nat.ne_of_gt (blk_lt (g := gb204) (o := .cells #[.slice A0_0 l0_0.length c0_0, .int .i64 a0_1] 24 (0, 0)) (by (with_reducible repeat (first | refine blk_drewN ?_ _ | refine blk_drew ?_ | refine blk_alloc ?_ _)); exact BK204.out)) : gb210 ≠ gb204)); clear BK204; clear HB; have BK204 := n0_; have HB := n1_; have BK210 := n2_; have GW210 := n3_; have GE210 := n4_; have NB204_210 := n5_; have NB210_204 := n6_; clear n0_ n1_ n2_ n3_ n4_ n5_ n6_; clear hb hbox hg; have hnb14 := NB210_204.out; have hnc14 := NB204_210.out; have hcz15_0 : w13.cell? ⟨gb210, 0, none⟩ = some (.int .i64 0) := (blk_cell BK210.out 0).trans rfl; have hcz15_1 : w13.cell? ⟨gb210, 1, none⟩ = some (.int .i64 0) := (blk_cell BK210.out 1).trans rfl; have hcz15_2 : w13.cell? ⟨gb210, 2, none⟩ = some (.int .i64 0) := (blk_cell BK210.out 2).trans rfl; have hcz15_3 : w13.cell? ⟨gb210, 3, none⟩ = some (.bool false) := (blk_cell BK210.out 3).trans rfl; have hfz15_0 := blk_frozen BK210.out 0; have hfz15_1 := blk_frozen BK210.out 1; have hfz15_2 := blk_frozen BK210.out 2; have hfz15_3 := blk_frozen BK210.out 3))
   go_ret
   exact ⟨by first | rfl | (simp [errW_none, errW_some] <;> rfl) | (simp [*, errW_none, errW_some] <;> rfl), by repeat (first | (with_reducible first | exact HB.out | apply below_alloc | apply pw_below_drewN | apply below_drew1 | refine below_set ?_ GE204.out | refine below_set ?_ GE210.out) | exact HB.out)⟩
  ·replace c6 := Bool.eq_false_iff.mpr c6
   subst c6
   have H1 : (some false) = some r := by rw [if_neg (show ¬ (false = true) by decide)] at H; exact H
   clear H
   have H := H1
   clear H1
   obtain rfl := Option.some.inj H
   go_enter Try.func17, Try.ntmps17
   go_wp2_with (first | ((with_reducible refine gate_dst (N := 2) rfl ?_); refine box_event ?hg (N := 2) ?hd (cs := #[.slice A0_0 l0_0.length c0_0, .int .i64 a0_1]) (t := 24) ?hr ?_; (case hd => rfl); (case hg => rfl); (case hr => first | (go_simp; done) | (go_simp; rfl)); intro gb204 hg w16 hbox hb; have n0_ := Aside0.mk (below_step (by repeat (first | (with_reducible first | exact HB.out | apply below_alloc | apply pw_below_drewN | apply below_drew1) | exact HB.out)) hb); have n1_ := Aside0.mk (hbox); have n2_ := Aside0.mk ((by rw [hg]; exact (below_size (by repeat (first | (with_reducible first | exact HB.out | apply below_alloc | apply pw_below_drewN | apply below_drew1) | exact HB.out))) : w.heap.size ≤ gb204)); have n3_ := Aside0.mk ((by rw [hg]; exact (below_size (by repeat (first | (with_reducible first | exact HB.out | apply below_alloc | apply pw_below_drewN | apply below_drew1) | exact HB.out))) : w.heap.size ≤ gb204)); clear HB; have HB := n0_; have BK204 := n1_; have GW204 := n2_; have GE204 := n3_; clear n0_ n1_ n2_ n3_; clear hb hbox hg; have hcz17_0 : w16.cell? ⟨gb204, 0, none⟩ = some (.slice A0_0 l0_0.length c0_0) := (blk_cell BK204.out 0).trans rfl; have hcz17_1 : w16.cell? ⟨gb204, 1, none⟩ = some (.int .i64 a0_1) := (blk_cell BK204.out 1).trans rfl; have hfz17_0 := blk_frozen BK204.out 0; have hfz17_1 := blk_frozen BK204.out 1) | ((with_reducible refine gate_callee (f := 52) rfl ?_); refine goesL_ (some 11) rfl rfl Try.func52 (by kernel_rfl) rfl #[.agg #[.slice A0_0 l0_0.length c0_0, .int .i64 a0_1], .int .i64 a1] rfl (by (try simp only [List.map_toArray, List.map_cons, List.map_nil]); first | done | rfl | (simp only [List.length_drop, List.length_take]; rfl)) ?_; (with_reducible refine (assartref05_Used.calls _ _ l0_0 a0_1 a1 false _ ?side1 ?side2 A5.out).mono ?_); (case side1 => repeat (first | exact (Kd.C_below HR0_0.out HB.out) | (with_reducible refine Kd.C_alloc ?_ _) | (with_reducible refine Kd.C_drewN ?_ _) | (with_reducible refine Kd.C_drew ?_))); (case side2 => exact HC0_0.out); rintro e w18 ⟨rfl, hb⟩; refine ⟨_, rfl, ?_⟩; have n0_ := Aside0.mk (blk_below (g := gb204) (o := .cells #[.slice A0_0 l0_0.length c0_0, .int .i64 a0_1] 24 (0, 0)) (by (with_reducible repeat (first | refine blk_drewN ?_ _ | refine blk_drew ?_ | refine blk_alloc ?_ _)); exact BK204.out) hb); have n1_ := Aside0.mk (below_step (by repeat (first | (with_reducible first | exact HB.out | apply below_alloc | apply pw_below_drewN | apply below_drew1 | refine below_set ?_ GE204.out) | exact HB.out)) hb); clear BK204; clear HB; have BK204 := n0_; have HB := n1_; clear n0_ n1_; (try clear hb); (try clear hb2); (try clear hk); (try clear hi)))
   go_ret
   exact ⟨by first | rfl | (simp [errW_none, errW_some] <;> rfl) | (simp [*, errW_none, errW_some] <;> rfl), by repeat (first | (with_reducible first | exact HB.out | apply below_alloc | apply pw_below_drewN | apply below_drew1 | refine below_set ?_ GE204.out) | exact HB.out)⟩
end Go.Proofs.Yteiladccdenpbaa.P
end
section
namespace Go.Proofs.Yteiladccdenpbaa.P
open Go.RowKit Go.Proofs.YteiladccdenpbaaW.PrintWords Go.Proofs.YteiladccdenpbaaW.PrintLast Go.Proofs.YteiladccdenpbaaW.PrintMore
attribute [local go_sem] max2_int min2_int max_two min_two max_three min_three max_four min_four
set_option linter.unusedVariables false
set_option linter.unusedSimpArgs false
def assartref07_May.f (k : Nat) (l0_0 : List (S55)) (a0_1 : Int) (a1 : Int) (a2 : Int) : Option (Bool) := (assartref05_May.f k l0_0 a0_1 a2).bind fun t246 => (if t246 = true then ((assartref07_Right.f k l0_0 a0_1 a1).bind fun t247 => (some t247)) else (some false))
set_option maxHeartbeats 8000000 in
set_option maxRecDepth 100000 in
theorem assartref07_May.calls (k : Nat) (A0_0 : Option Addr) (c0_0 : Nat) (l0_0 : List (S55)) (a0_1 : Int) (a1 : Int) (a2 : Int) (r : Bool) (w : World) (hr0_0 : Kd.C k55 w A0_0 l0_0.length l0_0) (hc0_0 : l0_0.length ≤ c0_0) (h : assartref07_May.f k l0_0 a0_1 a1 a2 = some r) :
  Calls Try.prog 26 #[.agg #[.slice A0_0 l0_0.length c0_0, .int .i64 a0_1], .int .i64 a1, .int .i64 a2] w fun e w' => e = .returned (.bool r) ∧ Below w.heap.size w w' := by
 have hu24 := Try.underlying24
 have HR0_0 := Aside0.mk hr0_0
 have HC0_0 := Aside0.mk hc0_0
 clear hr0_0 hc0_0
 have HB := Aside0.mk (Below.refl w.heap.size w)
 have H : ((assartref05_May.f k l0_0 a0_1 a2).bind fun t246 => (if t246 = true then ((assartref07_Right.f k l0_0 a0_1 a1).bind fun t247 => (some t247)) else (some false))) = some r := h
 clear h
 replace H := Option.bind_eq_some_iff.mp H
 obtain ⟨t246, A40, H⟩ := H
 replace H : (if t246 = true then ((assartref07_Right.f k l0_0 a0_1 a1).bind fun t247 => (some t247)) else (some false)) = some r := H
 have A4 := Aside0.mk A40
 clear A40
 by_cases c5 : t246 = true
 ·subst c5
  have H1 : ((assartref07_Right.f k l0_0 a0_1 a1).bind fun t247 => (some t247)) = some r := by rw [if_pos rfl] at H; exact H
  clear H
  have H := H1
  clear H1
  replace H := Option.bind_eq_some_iff.mp H
  obtain ⟨t247, A60, H⟩ := H
  replace H : (some t247) = some r := H
  have A6 := Aside0.mk A60
  clear A60
  obtain rfl := Option.some.inj H
  go_enter Try.func26, Try.ntmps26
  go_wp2_with (first | ((with_reducible refine gate_dst (N := 3) rfl ?_); refine box_event ?hg (N := 3) ?hd (cs := #[.slice A0_0 l0_0.length c0_0, .int .i64 a0_1]) (t := 24) ?hr ?_; (case hd => rfl); (case hg => rfl); (case hr => first | (go_simp; done) | (go_simp; rfl)); intro gb245 hg w7 hbox hb; have n0_ := Aside0.mk (below_step (by repeat (first | (with_reducible first | exact HB.out | apply below_alloc | apply pw_below_drewN | apply below_drew1) | exact HB.out)) hb); have n1_ := Aside0.mk (hbox); have n2_ := Aside0.mk ((by rw [hg]; exact (below_size (by repeat (first | (with_reducible first | exact HB.out | apply below_alloc | apply pw_below_drewN | apply below_drew1) | exact HB.out))) : w.heap.size ≤ gb245)); have n3_ := Aside0.mk ((by rw [hg]; exact (below_size (by repeat (first | (with_reducible first | exact HB.out | apply below_alloc | apply pw_below_drewN | apply below_drew1) | exact HB.out))) : w.heap.size ≤ gb245)); clear HB; have HB := n0_; have BK245 := n1_; have GW245 := n2_; have GE245 := n3_; clear n0_ n1_ n2_ n3_; clear hb hbox hg; have hcz8_0 : w7.cell? ⟨gb245, 0, none⟩ = some (.slice A0_0 l0_0.length c0_0) := (blk_cell BK245.out 0).trans rfl; have hcz8_1 : w7.cell? ⟨gb245, 1, none⟩ = some (.int .i64 a0_1) := (blk_cell BK245.out 1).trans rfl; have hfz8_0 := blk_frozen BK245.out 0; have hfz8_1 := blk_frozen BK245.out 1) | ((with_reducible refine gate_callee (f := 16) rfl ?_); refine goesL_ (some 9) rfl rfl Try.func16 (by kernel_rfl) rfl #[.agg #[.slice A0_0 l0_0.length c0_0, .int .i64 a0_1], .int .i64 a2] rfl (by (try simp only [List.map_toArray, List.map_cons, List.map_nil]); first | done | rfl | (simp only [List.length_drop, List.length_take]; rfl)) ?_; (with_reducible refine (assartref05_May.calls k _ _ l0_0 a0_1 a2 true _ ?side1 ?side2 A4.out).mono ?_); (case side1 => repeat (first | exact (Kd.C_below HR0_0.out HB.out) | (with_reducible refine Kd.C_alloc ?_ _) | (with_reducible refine Kd.C_drewN ?_ _) | (with_reducible refine Kd.C_drew ?_))); (case side2 => exact HC0_0.out); rintro e w9 ⟨rfl, hb⟩; refine ⟨_, rfl, ?_⟩; have n0_ := Aside0.mk (blk_below (g := gb245) (o := .cells #[.slice A0_0 l0_0.length c0_0, .int .i64 a0_1] 24 (0, 0)) (by (with_reducible repeat (first | refine blk_drewN ?_ _ | refine blk_drew ?_ | refine blk_alloc ?_ _)); exact BK245.out) hb); have n1_ := Aside0.mk (below_step (by repeat (first | (with_reducible first | exact HB.out | apply below_alloc | apply pw_below_drewN | apply below_drew1 | refine below_set ?_ GE245.out) | exact HB.out)) hb); clear BK245; clear HB; have BK245 := n0_; have HB := n1_; clear n0_ n1_; (try clear hb); (try clear hb2); (try clear hk); (try clear hi); have hcz10_0 : w9.cell? ⟨gb245, 0, none⟩ = some (.slice A0_0 l0_0.length c0_0) := (blk_cell BK245.out 0).trans rfl; have hcz10_1 : w9.cell? ⟨gb245, 1, none⟩ = some (.int .i64 a0_1) := (blk_cell BK245.out 1).trans rfl; have hfz10_0 := blk_frozen BK245.out 0; have hfz10_1 := blk_frozen BK245.out 1) | (go_at_call 17; (with_reducible refine (assartref07_Right.calls k _ _ l0_0 a0_1 a1 t247 _ ?side1 ?side2 A6.out).mono ?_); (case side1 => repeat (first | exact (Kd.C_below HR0_0.out HB.out) | (with_reducible refine Kd.C_alloc ?_ _) | (with_reducible refine Kd.C_drewN ?_ _) | (with_reducible refine Kd.C_drew ?_))); (case side2 => exact HC0_0.out); rintro e w11 ⟨rfl, hb⟩; have n0_ := Aside0.mk (blk_below (g := gb245) (o := .cells #[.slice A0_0 l0_0.length c0_0, .int .i64 a0_1] 24 (0, 0)) (by (with_reducible repeat (first | refine blk_drewN ?_ _ | refine blk_drew ?_ | refine blk_alloc ?_ _)); exact BK245.out) hb); have n1_ := Aside0.mk (below_step (by repeat (first | (with_reducible first | exact HB.out | apply below_alloc | apply pw_below_drewN | apply below_drew1 | refine below_set ?_ GE245.out) | exact HB.out)) hb); clear BK245; clear HB; have BK245 := n0_; have HB := n1_; clear n0_ n1_; (try clear hb); (try clear hb2); (try clear hk); (try clear hi)))
  go_ret
  exact ⟨by first | rfl | (simp [errW_none, errW_some] <;> rfl) | (simp [*, errW_none, errW_some] <;> rfl), by repeat (first | (with_reducible first | exact HB.out | apply below_alloc | apply pw_below_drewN | apply below_drew1 | refine below_set ?_ GE245.out) | exact HB.out)⟩
 ·replace c5 := Bool.eq_false_iff.mpr c5
  subst c5
  have H1 : (some false) = some r := by rw [if_neg (show ¬ (false = true) by decide)] at H; exact H
  clear H
  have H := H1
  clear H1
  obtain rfl := Option.some.inj H
  go_enter Try.func26, Try.ntmps26
  go_wp2_with (first | ((with_reducible refine gate_dst (N := 3) rfl ?_); refine box_event ?hg (N := 3) ?hd (cs := #[.slice A0_0 l0_0.length c0_0, .int .i64 a0_1]) (t := 24) ?hr ?_; (case hd => rfl); (case hg => rfl); (case hr => first | (go_simp; done) | (go_simp; rfl)); intro gb245 hg w12 hbox hb; have n0_ := Aside0.mk (below_step (by repeat (first | (with_reducible first | exact HB.out | apply below_alloc | apply pw_below_drewN | apply below_drew1) | exact HB.out)) hb); have n1_ := Aside0.mk (hbox); have n2_ := Aside0.mk ((by rw [hg]; exact (below_size (by repeat (first | (with_reducible first | exact HB.out | apply below_alloc | apply pw_below_drewN | apply below_drew1) | exact HB.out))) : w.heap.size ≤ gb245)); have n3_ := Aside0.mk ((by rw [hg]; exact (below_size (by repeat (first | (with_reducible first | exact HB.out | apply below_alloc | apply pw_below_drewN | apply below_drew1) | exact HB.out))) : w.heap.size ≤ gb245)); clear HB; have HB := n0_; have BK245 := n1_; have GW245 := n2_; have GE245 := n3_; clear n0_ n1_ n2_ n3_; clear hb hbox hg; have hcz13_0 : w12.cell? ⟨gb245, 0, none⟩ = some (.slice A0_0 l0_0.length c0_0) := (blk_cell BK245.out 0).trans rfl; have hcz13_1 : w12.cell? ⟨gb245, 1, none⟩ = some (.int .i64 a0_1) := (blk_cell BK245.out 1).trans rfl; have hfz13_0 := blk_frozen BK245.out 0; have hfz13_1 := blk_frozen BK245.out 1) | ((with_reducible refine gate_callee (f := 16) rfl ?_); refine goesL_ (some 9) rfl rfl Try.func16 (by kernel_rfl) rfl #[.agg #[.slice A0_0 l0_0.length c0_0, .int .i64 a0_1], .int .i64 a2] rfl (by (try simp only [List.map_toArray, List.map_cons, List.map_nil]); first | done | rfl | (simp only [List.length_drop, List.length_take]; rfl)) ?_; (with_reducible refine (assartref05_May.calls k _ _ l0_0 a0_1 a2 false _ ?side1 ?side2 A4.out).mono ?_); (case side1 => repeat (first | exact (Kd.C_below HR0_0.out HB.out) | (with_reducible refine Kd.C_alloc ?_ _) | (with_reducible refine Kd.C_drewN ?_ _) | (with_reducible refine Kd.C_drew ?_))); (case side2 => exact HC0_0.out); rintro e w14 ⟨rfl, hb⟩; refine ⟨_, rfl, ?_⟩; have n0_ := Aside0.mk (blk_below (g := gb245) (o := .cells #[.slice A0_0 l0_0.length c0_0, .int .i64 a0_1] 24 (0, 0)) (by (with_reducible repeat (first | refine blk_drewN ?_ _ | refine blk_drew ?_ | refine blk_alloc ?_ _)); exact BK245.out) hb); have n1_ := Aside0.mk (below_step (by repeat (first | (with_reducible first | exact HB.out | apply below_alloc | apply pw_below_drewN | apply below_drew1 | refine below_set ?_ GE245.out) | exact HB.out)) hb); clear BK245; clear HB; have BK245 := n0_; have HB := n1_; clear n0_ n1_; (try clear hb); (try clear hb2); (try clear hk); (try clear hi)))
  go_ret
  exact ⟨by first | rfl | (simp [errW_none, errW_some] <;> rfl) | (simp [*, errW_none, errW_some] <;> rfl), by repeat (first | (with_reducible first | exact HB.out | apply below_alloc | apply pw_below_drewN | apply below_drew1 | refine below_set ?_ GE245.out) | exact HB.out)⟩
end Go.Proofs.Yteiladccdenpbaa.P
end
section
namespace Go.Proofs.Yteiladccdenpbaa.P
open Go.RowKit Go.Proofs.YteiladccdenpbaaW.PrintWords Go.Proofs.YteiladccdenpbaaW.PrintLast Go.Proofs.YteiladccdenpbaaW.PrintMore
set_option linter.unusedVariables false
set_option linter.unusedSimpArgs false
set_option maxHeartbeats 4000000 in
set_option maxRecDepth 100000 in
theorem at_closure (g2 g3 : Nat) (ad : Addr) (c : Nat) (n : Nat) (key y : Int) (i : Nat) (W : World) (hi : i < n)
    (h1 : W.cell? ⟨g2, 1, none⟩ = some (.slice (some ad) n c)) (h2 : W.cell? ⟨g3, 0, none⟩ = some (.int .i64 key)) (h3 : W.cell? (ad.add (i * 2)) = some (.int .i64 y)) :
    Calls Try.prog 84 #[.int .i64 i, .pointer (some ⟨g2, 0, none⟩), .pointer (some ⟨g3, 0, none⟩)] W fun e w' => e = .returned (.bool (decide (key ≤ y))) ∧ ∃ q, w' = W.drewN q := by
  have hu53 := Try.underlying53
  have hu49 := Try.underlying49
  have hiz : (i : Int) < (n : Int) := by omega
  have mixed : Try.prog.follows .mixedOrders = true := by kernel_rfl
  go_enter Try.func84, Try.ntmps84
  go_wp2
  go_region_o
  all_goals go_wp2
  all_goals go_ret
  all_goals exact ⟨by first | rfl | simp, 1, rfl⟩
theorem cut_at {n : Nat} {p : Nat → Bool} (i : Nat) (hi : i ≤ n) (h0 : ∀ t, t < i → p t = false) (h1 : ∀ t, i ≤ t → t < n → p t = true) : (List.range n).countP (fun t => !p t) = i := by
  have e : List.range n = List.range i ++ (List.range (n - i)).map (i + ·) := by
    apply List.ext_getElem
    · simp
      omega
    · intro j h1 h2
      rw [List.getElem_append]
      split
      · simp
      · rename_i h3
        rw [List.length_range] at h3
        simp
        omega
  rw [e, List.countP_append]
  have a : (List.range i).countP (fun t => !p t) = i := by
    have : (List.range i).countP (fun t => !p t) = (List.range i).length := List.countP_eq_length.2 fun t ht => by simp [h0 t (List.mem_range.1 ht)]
    rw [this, List.length_range]
  have b : ((List.range (n - i)).map (i + ·)).countP (fun t => !p t) = 0 := List.countP_eq_zero.2 fun t ht => by
    obtain ⟨u, hu, rfl⟩ := List.mem_map.1 ht
    have := List.mem_range.1 hu
    simp [h1 (i + u) (by omega) (by omega)]
  omega
set_option maxHeartbeats 4000000 in
set_option maxRecDepth 100000 in
theorem search_walk (cb : Array Value) (n : Nat) (p : Nat → Bool) (w : World) (hsz : n < 1000000)
    (hf : ∀ (m i : Nat), i < n → Calls Try.prog 84 (#[.int .i64 i] ++ cb) (w.drewN m) fun e w' => e = .returned (.bool (p i)) ∧ ∃ q, w' = (w.drewN m).drewN q)
    (hmono : ∀ a b, a ≤ b → b < n → p a = true → p b = true) :
    Calls Try.prog 83 #[.int .i64 n, .func (.func 84) #[] cb] w fun e w' => e = .returned (.int .i64 ((List.range n).countP (fun i => !p i) : Nat)) ∧ ∃ q, w' = w.drewN q := by
  have HF := Aside0.mk hf
  have M := Aside0.mk hmono
  have mixed : Try.prog.follows .mixedOrders = true := by kernel_rfl
  clear hf hmono
  generalize hcnt : (List.range n).countP (fun i => !p i) = cnt
  have CN := Aside0.mk hcnt
  clear hcnt
  go_enter Try.func83, Try.ntmps83
  go_wp2
  go_loopg [5, 6] n (fun kx s5 s6 wr => ∃ (lo hi q : Nat), s5 = .int .i64 lo ∧ s6 = .int .i64 hi ∧ lo ≤ hi ∧ hi ≤ n ∧ hi - lo ≤ kx ∧ wr = w.drewN q ∧
    Aside0 ((∀ t, t < lo → p t = false) ∧ (∀ t, hi ≤ t → t < n → p t = true)))
  case atStart => exact ⟨0, n, 0, rfl, rfl, Nat.zero_le _, Nat.le_refl _, by omega, rfl, ⟨fun t ht => absurd ht (Nat.not_lt_zero _), fun t h1 h2 => by omega⟩⟩
  case round =>
    obtain ⟨lo, hi, q, rfl, rfl, hlh, hin, hg, rfl, I⟩ := hrel
    by_cases hlt : lo < hi
    · have hc := HF.out q ((lo + hi) / 2) (by omega)
      rw [show (((lo + hi) / 2 : Nat) : Int) = ((lo : Int) + (hi : Int)) / 2 by omega] at hc
      cases hp : p ((lo + hi) / 2) <;> rw [hp] at hc
      · have HP := Aside0.mk hp
        clear hp
        go_wp2_with fail
        refine hc.mono ?_
        rintro e w' ⟨rfl, nq, rfl⟩
        go_wp2
        go_roundg (hi - ((lo + hi) / 2 + 1))
        case measure => omega
        case rel =>
          have I2 : Aside0 ((∀ t, t < (lo + hi) / 2 + 1 → p t = false) ∧ (∀ t, hi ≤ t → t < n → p t = true)) := ⟨fun t ht => (by
            cases h : p t with
            | false => rfl
            | true => have := M.out t ((lo + hi) / 2) (by omega) (by omega) h; rw [HP.out] at this; cases this), I.out.2⟩
          exact ⟨(lo + hi) / 2 + 1, hi, q + nq, by rw [show ((lo : Int) + (hi : Int)) / 2 + 1 = (((lo + hi) / 2 + 1 : Nat) : Int) by omega], rfl, by omega, hin, Nat.le_refl _, rfl, I2⟩
      · have HP := Aside0.mk hp
        clear hp
        go_wp2_with fail
        refine hc.mono ?_
        rintro e w' ⟨rfl, nq, rfl⟩
        go_wp2
        go_roundg ((lo + hi) / 2 - lo)
        case measure => omega
        case rel =>
          have I2 : Aside0 ((∀ t, t < lo → p t = false) ∧ (∀ t, (lo + hi) / 2 ≤ t → t < n → p t = true)) := ⟨I.out.1, fun t ht htn => M.out ((lo + hi) / 2) t ht htn HP.out⟩
          exact ⟨lo, (lo + hi) / 2, q + nq, rfl, by rw [show ((lo : Int) + (hi : Int)) / 2 = (((lo + hi) / 2 : Nat) : Int) by omega], by omega, by omega, Nat.le_refl _, rfl, I2⟩
    · obtain rfl : hi = lo := by omega
      have ecnt : cnt = hi := by rw [← CN.out]; exact cut_at hi hin I.out.1 I.out.2
      subst ecnt
      go_wp2
      go_ret
      exact ⟨rfl, q, rfl⟩
def rising (l : List S49) : Bool := (List.range l.length).all fun b => (List.range b).all fun a => decide ((rd_T49 l (a : Nat)).f0 < (rd_T49 l (b : Nat)).f0)
theorem rising_lt {l : List S49} (h : rising l = true) (a b : Nat) (hab : a < b) (hb : b < l.length) : (rd_T49 l (a : Nat)).f0 < (rd_T49 l (b : Nat)).f0 :=
  of_decide_eq_true (List.all_eq_true.1 (List.all_eq_true.1 h b (List.mem_range.2 hb)) a (List.mem_range.2 hab))
def atN (l : List S49) (key : Int) : Nat := (List.range l.length).countP fun i => !decide (key ≤ (rd_T49 l (i : Nat)).f0)
def atIs (l : List S49) (key : Int) : Bool := decide (atN l key < l.length) && ((rd_T49 l (atN l key : Nat)).f0 == key)
def node_At.f (a0_0 : Bool) (l0_1 : List S49) (a1 : Int) : Option (Int × Bool) :=
  if rising l0_1 = true ∧ l0_1.length < 1000000 then
    some (if a0_0 = false ∧ atIs l0_1 a1 = false then (if ((atN l0_1 a1 : Nat) : Int) - 1 < 0 then 0 else ((atN l0_1 a1 : Nat) : Int) - 1) else ((atN l0_1 a1 : Nat) : Int), atIs l0_1 a1)
  else none
theorem atN_le (l : List S49) (key : Int) : atN l key ≤ l.length := by
  have := List.countP_le_length (p := fun i : Nat => !decide (key ≤ (rd_T49 l (i : Nat)).f0)) (l := List.range l.length)
  rwa [List.length_range] at this
set_option maxHeartbeats 4000000 in
set_option maxRecDepth 100000 in
theorem node_At.calls (a0_0 : Bool) (A0_1 : Option Addr) (c0_1 : Nat) (l0_1 : List S49) (a1 : Int) (r1 : Int) (r2 : Bool) (w : World) (hr0_1 : Kd.C k49 w A0_1 l0_1.length l0_1) (hc0_1 : l0_1.length ≤ c0_1) (h : node_At.f a0_0 l0_1 a1 = some (r1, r2)) :
    Calls Try.prog 59 #[.agg #[.bool a0_0, .slice A0_1 l0_1.length c0_1], .int .i64 a1] w fun e w' => e = .returned (.tuple #[.int .i64 r1, .bool r2]) ∧ Below w.heap.size w w' := by
  have hu53 := Try.underlying53
  have hu49 := Try.underlying49
  have mixed : Try.prog.follows .mixedOrders = true := by kernel_rfl
  unfold node_At.f at h
  have hcond : rising l0_1 = true ∧ l0_1.length < 1000000 := by
    by_cases hc : rising l0_1 = true ∧ l0_1.length < 1000000
    · exact hc
    · rw [if_neg hc] at h
      cases h
  rw [if_pos hcond] at h
  obtain ⟨hris, hlen⟩ := hcond
  simp only [Option.some.injEq, Prod.mk.injEq] at h
  obtain ⟨h1, h2⟩ := h
  have H1 := Aside0.mk h1
  have H2 := Aside0.mk h2
  have HRIS := Aside0.mk hris
  have HLEN := Aside0.mk hlen
  have HR := Aside0.mk hr0_1
  clear h1 h2 hris hr0_1 hc0_1
  go_enter Try.func59, Try.ntmps59
  go_wp2_with (first | ((with_reducible refine gate_dst (N := 2) rfl ?_); refine box_event ?hg (N := 2) ?hd (cs := #[.bool a0_0, .slice A0_1 l0_1.length c0_1]) (t := 53) ?hr ?_; (case hd => rfl); (case hg => rfl); (case hr => first | (go_simp; done) | (go_simp; rfl)); intro g2 hg w2 hbox hb; have HB2 := Aside0.mk hb; have HK2 := Aside0.mk hbox; clear hb hbox hg) | ((with_reducible refine gate_dst (N := 3) rfl ?_); refine box_event ?hg (N := 3) ?hd (cs := #[.int .i64 a1]) (t := 3) ?hr ?_; (case hd => rfl); (case hg => rfl); (case hr => first | (go_simp; done) | (go_simp; rfl)); intro g3 hg w3 hbox hb; have HB3 := Aside0.mk (HB2.out.trans (hb.mono HB2.out.size)); have HK3 := Aside0.mk hbox; have HK23 := Aside0.mk (blk_below HK2.out hb); have k0 : w3.cell? ⟨g2, 0, none⟩ = some (.bool a0_0) := (blk_cell HK23.out 0).trans rfl; have k1 : w3.cell? ⟨g2, 1, none⟩ = some (.slice A0_1 l0_1.length c0_1) := (blk_cell HK23.out 1).trans rfl; have k3 : w3.cell? ⟨g3, 0, none⟩ = some (.int .i64 a1) := (blk_cell hbox 0).trans rfl; clear hb hbox hg HB2) | fail)
  have hS : Calls Try.prog 83 #[.int .i64 l0_1.length, .func (.func 84) #[] #[.pointer (some ⟨g2, 0, none⟩), .pointer (some ⟨g3, 0, none⟩)]] w3 fun e w' => e = .returned (.int .i64 (atN l0_1 a1 : Nat)) ∧ ∃ q, w' = w3.drewN q := by
    refine search_walk #[.pointer (some ⟨g2, 0, none⟩), .pointer (some ⟨g3, 0, none⟩)] l0_1.length (fun i => decide (a1 ≤ (rd_T49 l0_1 (i : Nat)).f0)) w3 hlen ?hf ?hm
    case hf =>
      intro m i hi
      obtain ⟨ad, hA, hc, _⟩ := at_T49 (Kd.C_below HR.out HB3.out) (i : Int) (by omega) (by omega)
      subst hA
      rw [Int.toNat_natCast] at hc
      exact at_closure g2 g3 ad c0_1 l0_1.length a1 _ i (w3.drewN m) hi k1 k3 hc
    case hm =>
      intro a b hab hb hp
      have hp := of_decide_eq_true hp
      by_cases he : a = b
      · subst he
        exact decide_eq_true hp
      · have := rising_lt HRIS.out a b (by omega) hb
        exact decide_eq_true (by omega)
  refine hS.mono ?_
  rintro e wd ⟨rfl, q, rfl⟩
  have HB4 := Aside0.mk (pw_below_drewN HB3.out q)
  have j0 : (w3.drewN q).cell? ⟨g2, 0, none⟩ = some (.bool a0_0) := k0
  have j1 : (w3.drewN q).cell? ⟨g2, 1, none⟩ = some (.slice A0_1 l0_1.length c0_1) := k1
  have j3 : (w3.drewN q).cell? ⟨g3, 0, none⟩ = some (.int .i64 a1) := k3
  have HR4 := Aside0.mk (Kd.C_below HR.out HB4.out)
  generalize w3.drewN q = w4 at HB4 j0 j1 j3 HR4 ⊢
  clear hS k0 k1 k3 HK2 HK3 HK23 HB3 HR
  have hle := atN_le l0_1 a1
  have HIS := Aside0.mk (show atIs l0_1 a1 = (decide (atN l0_1 a1 < l0_1.length) && ((rd_T49 l0_1 (atN l0_1 a1 : Nat)).f0 == a1)) from rfl)
  generalize atIs l0_1 a1 = is' at H1 H2 HIS
  generalize atN l0_1 a1 = c at H1 HIS hle ⊢
  by_cases hcl : c < l0_1.length
  · have d1 : decide ((c : Int) < (l0_1.length : Int)) = true := decide_eq_true (by omega)
    have p1 : (0 : Int) ≤ c := by omega
    have q1 : (c : Int) < l0_1.length := by omega
    obtain ⟨ad, hA, hc, _⟩ := at_T49 HR4.out (c : Int) p1 q1
    subst hA
    rw [Int.toNat_natCast] at hc
    obtain ⟨x, hx⟩ : ∃ x, (rd_T49 l0_1 (c : Nat)).f0 = x := ⟨_, rfl⟩
    rw [hx] at hc HIS
    rw [decide_eq_true hcl, Bool.true_and] at HIS
    obtain ⟨b, hb⟩ : ∃ b, (x == a1) = b := ⟨_, rfl⟩
    rw [hb] at HIS
    have hib := HIS.out
    subst hib
    have h2 := H2.out
    subst h2
    clear HIS H2 HRIS HLEN HR4 hx
    cases is' <;> cases a0_0
    all_goals (go_wp2; go_region_o)
    all_goals go_wp2
    all_goals go_ret2
    all_goals refine ⟨?_, below_drew1 HB4.out⟩
    all_goals have h1 := H1.out
    all_goals subst h1
    all_goals first | rfl | (simp; done) | (simp; omega)
  · have d1 : decide ((c : Int) < (l0_1.length : Int)) = false := decide_eq_false (by omega)
    have hib := HIS.out
    rw [decide_eq_false hcl, Bool.false_and] at hib
    subst hib
    have h2 := H2.out
    subst h2
    clear HIS H2 HRIS HLEN HR4
    cases a0_0
    all_goals (go_wp2; go_region_o)
    all_goals go_wp2
    all_goals go_ret2
    all_goals refine ⟨?_, below_drew1 HB4.out⟩
    all_goals have h1 := H1.out
    all_goals subst h1
    all_goals first | rfl | (simp; done) | (simp; omega)
end Go.Proofs.Yteiladccdenpbaa.P
end
section
namespace Go.Proofs.Yteiladccdenpbaa.P
open Go.RowKit Go.Proofs.YteiladccdenpbaaW.PrintWords Go.Proofs.YteiladccdenpbaaW.PrintLast Go.Proofs.YteiladccdenpbaaW.PrintMore
attribute [local go_sem] max2_int min2_int max_two min_two max_three min_three max_four min_four
set_option linter.unusedVariables false
set_option linter.unusedSimpArgs false
def tree_Get.l0 : Nat → Int → Int → List (S55) → Int → Option (Int × Int)
 | 0, _, _, _, _ => none
 | k + 1, x2, x8, x147000, x147001 => if x8 ≥ 0 then (if 0 ≤ x8 then (if x8 < (x147000.length : Int) then ((node_At.f ((rd_T55 x147000 x8).f2.f0) ((rd_T55 x147000 x8).f2.f1) x2).bind fun bt149 => (if ((rd_T55 x147000 x8).f2.f0 = true) then (if bt149.2 = true then (if 0 ≤ bt149.1 then (if bt149.1 < (((rd_T55 x147000 x8).f2.f1).length : Int) then (some ((rd_T49 ((rd_T55 x147000 x8).f2.f1) bt149.1).f1, 0)) else (none)) else (none)) else (some (0, 4))) else (if 0 ≤ bt149.1 then (if bt149.1 < (((rd_T55 x147000 x8).f2.f1).length : Int) then (tree_Get.l0 k x2 ((rd_T49 ((rd_T55 x147000 x8).f2.f1) bt149.1).f1) x147000 x147001) else (none)) else (none)))) else (none)) else (none)) else (some (0, 4))
def tree_Get.f (k : Nat) (l0_0 : List (S55)) (a0_1 : Int) (a1 : Int) (a2 : Int) : Option (Int × Int) := tree_Get.l0 k a2 a1 l0_0 a0_1
set_option maxHeartbeats 8000000 in
set_option maxRecDepth 100000 in
theorem tree_Get.calls (k : Nat) (A0_0 : Option Addr) (c0_0 : Nat) (l0_0 : List (S55)) (a0_1 : Int) (a1 : Int) (a2 : Int) (r1 : Int) (r2 : Int) (w : World) (hr0_0 : Kd.C k55 w A0_0 l0_0.length l0_0) (hc0_0 : l0_0.length ≤ c0_0) (h : tree_Get.f k l0_0 a0_1 a1 a2 = some (r1, r2)) :
  Calls Try.prog 27 #[.agg #[.slice A0_0 l0_0.length c0_0, .int .i64 a0_1], .int .i64 a1, .int .i64 a2] w fun e w' => e = .returned (.tuple #[.int .i64 r1, .int .i64 r2]) ∧ Below w.heap.size w w' := by
 have hu24 := Try.underlying24
 have hu53 := Try.underlying53
 have HR0_0 := Aside0.mk hr0_0
 have HC0_0 := Aside0.mk hc0_0
 clear hr0_0 hc0_0
 have HB := Aside0.mk (Below.refl w.heap.size w)
 have H : (tree_Get.l0 k a2 a1 l0_0 a0_1) = some (r1, r2) := h
 clear h
 have H' := Aside0.mk H
 clear H
 go_enter Try.func27, Try.ntmps27
 go_wp2_with (first | ((with_reducible refine gate_dst (N := 3) rfl ?_); refine box_event ?hg (N := 3) ?hd (cs := #[.slice A0_0 l0_0.length c0_0, .int .i64 a0_1]) (t := 24) ?hr ?_; (case hd => rfl); (case hg => rfl); (case hr => first | (go_simp; done) | (go_simp; rfl)); intro gb146 hg w4 hbox hb; have n0_ := Aside0.mk (below_step (by repeat (first | (with_reducible first | exact HB.out | apply below_alloc | apply pw_below_drewN | apply below_drew1) | exact HB.out)) hb); have n1_ := Aside0.mk (hbox); have n2_ := Aside0.mk ((by rw [hg]; exact (below_size (by repeat (first | (with_reducible first | exact HB.out | apply below_alloc | apply pw_below_drewN | apply below_drew1) | exact HB.out))) : w.heap.size ≤ gb146)); have n3_ := Aside0.mk ((by rw [hg]; exact (below_size (by repeat (first | (with_reducible first | exact HB.out | apply below_alloc | apply pw_below_drewN | apply below_drew1) | exact HB.out))) : w.heap.size ≤ gb146)); clear HB; have HB := n0_; have BK146 := n1_; have GW146 := n2_; have GE146 := n3_; clear n0_ n1_ n2_ n3_; clear hb hbox hg))
 go_loopg [8] k (fun kq v8 w' => ∃ (x8_1 : Int), v8 = .int .i64 x8_1 ∧ Aside0 (tree_Get.l0 kq a2 x8_1 l0_0 a0_1 = some (r1, r2)) ∧ Aside0 (kq ≤ k) ∧ Aside0 (w'.heap[gb146]? = some (.cells #[(.slice A0_0 l0_0.length c0_0), .int .i64 a0_1] 24 (0, 0))) ∧ Aside0 (Below w.heap.size w w'))
 case atStart => exact ⟨(a1), (by first | rfl | (simp; done) | (simp [*]; done)), H', ⟨Nat.le_refl _⟩, ⟨by (with_reducible repeat (first | refine blk_drewN ?_ _ | refine blk_drew ?_ | refine blk_alloc ?_ _)); exact BK146.out⟩, ⟨by repeat (first | (with_reducible first | exact HB.out | apply below_alloc | apply pw_below_drewN | apply below_drew1 | refine below_set ?_ GE146.out) | exact HB.out)⟩⟩
 case round =>
  clear H'
  try clear c2
  try clear p2
  obtain ⟨x8_1, rfl, HA, HK1, BK146, HB⟩ := hrel
  cases gk with
  | zero => exact absurd HA.out (by simp [tree_Get.l0])
  | succ k1 =>
   have H := HA.out
   clear HA
   simp only [tree_Get.l0] at H
   by_cases c5 : x8_1 ≥ 0
   ·rw [if_pos c5] at H
    have c5b0 : decide (0 ≤ x8_1) = true := decide_eq_true c5
    clear c5
    by_cases c6 : 0 ≤ x8_1
    ·rw [if_pos c6] at H
     have c6b0 : decide (0 ≤ x8_1) = true := decide_eq_true c6
     clear c6
     by_cases c7 : x8_1 < (l0_0.length : Int)
     ·rw [if_pos c7] at H
      have c7b0 : decide (x8_1 < (l0_0.length : Int)) = true := decide_eq_true c7
      clear c7
      replace H := Option.bind_eq_some_iff.mp H
      obtain ⟨⟨t149, t150⟩, A80, H⟩ := H
      replace H : (if ((rd_T55 l0_0 x8_1).f2.f0 = true) then (if t150 = true then (if 0 ≤ t149 then (if t149 < (((rd_T55 l0_0 x8_1).f2.f1).length : Int) then (some ((rd_T49 ((rd_T55 l0_0 x8_1).f2.f1) t149).f1, 0)) else (none)) else (none)) else (some (0, 4))) else (if 0 ≤ t149 then (if t149 < (((rd_T55 l0_0 x8_1).f2.f1).length : Int) then (tree_Get.l0 k1 a2 ((rd_T49 ((rd_T55 l0_0 x8_1).f2.f1) t149).f1) l0_0 a0_1) else (none)) else (none))) = some (r1, r2) := H
      have A8 := Aside0.mk A80
      clear A80
      obtain ⟨bq9, hbq9⟩ : ∃ b_ : Bool, b_ = ((rd_T55 l0_0 x8_1).f2.f0) := ⟨_, rfl⟩
      replace H : (if (bq9 = true) then (if t150 = true then (if 0 ≤ t149 then (if t149 < (((rd_T55 l0_0 x8_1).f2.f1).length : Int) then (some ((rd_T49 ((rd_T55 l0_0 x8_1).f2.f1) t149).f1, 0)) else (none)) else (none)) else (some (0, 4))) else (if 0 ≤ t149 then (if t149 < (((rd_T55 l0_0 x8_1).f2.f1).length : Int) then (tree_Get.l0 k1 a2 ((rd_T49 ((rd_T55 l0_0 x8_1).f2.f1) t149).f1) l0_0 a0_1) else (none)) else (none))) = some (r1, r2) := by rw [← hbq9] at H; exact H
      have Nbq9 := Aside0.mk hbq9
      clear hbq9
      by_cases c10 : (bq9 = true)
      ·subst c10
       have H1 : (if t150 = true then (if 0 ≤ t149 then (if t149 < (((rd_T55 l0_0 x8_1).f2.f1).length : Int) then (some ((rd_T49 ((rd_T55 l0_0 x8_1).f2.f1) t149).f1, 0)) else (none)) else (none)) else (some (0, 4))) = some (r1, r2) := by rw [if_pos rfl] at H; exact H
       clear H
       have H := H1
       clear H1
       by_cases c11 : t150 = true
       ·subst c11
        have H1 : (if 0 ≤ t149 then (if t149 < (((rd_T55 l0_0 x8_1).f2.f1).length : Int) then (some ((rd_T49 ((rd_T55 l0_0 x8_1).f2.f1) t149).f1, 0)) else (none)) else (none)) = some (r1, r2) := by rw [if_pos rfl] at H; exact H
        clear H
        have H := H1
        clear H1
        by_cases c12 : 0 ≤ t149
        ·rw [if_pos c12] at H
         have c12b0 : decide (0 ≤ t149) = true := decide_eq_true c12
         clear c12
         by_cases c13 : t149 < (((rd_T55 l0_0 x8_1).f2.f1).length : Int)
         ·rw [if_pos c13] at H
          have c13b0 : decide (t149 < (((rd_T55 l0_0 x8_1).f2.f1).length : Int)) = true := decide_eq_true c13
          clear c13
          simp only [Option.some.injEq, Prod.mk.injEq] at H
          obtain ⟨rfl, rfl⟩ := H
          have hcz14_0 : wr.cell? ⟨gb146, 0, none⟩ = some (.slice A0_0 l0_0.length c0_0) := (blk_cell BK146.out 0).trans rfl
          have hcz14_1 : wr.cell? ⟨gb146, 1, none⟩ = some (.int .i64 a0_1) := (blk_cell BK146.out 1).trans rfl
          have hfz14_0 := blk_frozen BK146.out 0
          have hfz14_1 := blk_frozen BK146.out 1
          have p147 : 0 ≤ (x8_1 : Int) := of_decide_eq_true (by first | (with_reducible assumption) | assumption)
          have q147 : x8_1 < (l0_0.length : Int) := of_decide_eq_true (by first | (with_reducible assumption) | assumption)
          obtain ⟨ad147, A147_3, c147_3, e147, hx147_0, hx147_1, hx147_2, hx147_3, hl147_3, hi147_3⟩ := at_T55 HR0_0.out x8_1 p147 q147
          (try rw [← Nbq9.out] at hx147_1)
          (try rw [← Nbq9.out] at hx147_2)
          cases e147
          replace hx147_0 := (HB.out.cell (World.block_lt_of_cell? w _ hx147_0)).trans hx147_0
          replace hx147_1 := (HB.out.cell (World.block_lt_of_cell? w _ hx147_1)).trans hx147_1
          replace hx147_2 := (HB.out.cell (World.block_lt_of_cell? w _ hx147_2)).trans hx147_2
          replace hx147_3 := (HB.out.cell (World.block_lt_of_cell? w _ hx147_3)).trans hx147_3
          have HR147_3 := Aside0.mk hi147_3
          have HC147_3 := Aside0.mk hl147_3
          clear hi147_3 hl147_3
          replace p147 := eq_true p147
          replace q147 := eq_true q147
          go_wp2_with (first | ((with_reducible refine gate_dst (N := 9) rfl ?_); refine box_event ?hg (N := 9) ?hd (cs := #[.bool false, .slice none 0 0]) (t := 53) ?hr ?_; (case hd => rfl); (case hg => rfl); (case hr => first | (go_simp; done) | (go_simp; rfl)); intro gb148 hg w15 hbox hb; have n0_ := Aside0.mk (blk_below (g := gb146) (o := .cells #[.slice (some ad147) l0_0.length c0_0, .int .i64 a0_1] 24 (0, 0)) (by (with_reducible repeat (first | refine blk_drewN ?_ _ | refine blk_drew ?_ | refine blk_alloc ?_ _)); exact BK146.out) hb); have n1_ := Aside0.mk (below_step (by repeat (first | (with_reducible first | exact HB.out | apply below_alloc | apply pw_below_drewN | apply below_drew1 | refine below_set ?_ GE146.out) | exact HB.out)) hb); have n2_ := Aside0.mk (hbox); have n3_ := Aside0.mk ((by rw [hg]; exact (below_size (by repeat (first | (with_reducible first | exact HB.out | apply below_alloc | apply pw_below_drewN | apply below_drew1 | refine below_set ?_ GE146.out) | exact HB.out))) : w.heap.size ≤ gb148)); have n4_ := Aside0.mk ((by rw [hg]; exact (below_size (by repeat (first | (with_reducible first | exact HB.out | apply below_alloc | apply pw_below_drewN | apply below_drew1 | refine below_set ?_ GE146.out) | exact HB.out))) : w.heap.size ≤ gb148)); have n5_ := Aside0.mk ((by rw [hg]; exact Nat.ne_of_lt (blk_lt (g := gb146) (o := .cells #[.slice (some ad147) l0_0.length c0_0, .int .i64 a0_1] 24 (0, 0)) (by (with_reducible repeat (first | refine blk_drewN ?_ _ | refine blk_drew ?_ | refine blk_alloc ?_ _)); exact BK146.out)) : gb146 ≠ gb148)); have n6_ := Aside0.mk ((by rw [hg]; exact Nat.ne_of_gt (blk_lt (g := gb146) (o := .cells #[.slice (some ad147) l0_0.length c0_0, .int .i64 a0_1] 24 (0, 0)) (by (with_reducible repeat (first | refine blk_drewN ?_ _ | refine blk_drew ?_ | refine blk_alloc ?_ _)); exact BK146.out)) : gb148 ≠ gb146)); clear BK146; clear HB; have BK146 := n0_; have HB := n1_; have BK148 := n2_; have GW148 := n3_; have GE148 := n4_; have NB146_148 := n5_; have NB148_146 := n6_; clear n0_ n1_ n2_ n3_ n4_ n5_ n6_; clear hb hbox hg; have hnb16 := NB148_146.out; have hnc16 := NB146_148.out; have hcz17_0 : w15.cell? ⟨gb148, 0, none⟩ = some (.bool false) := (blk_cell BK148.out 0).trans rfl; have hcz17_1 : w15.cell? ⟨gb148, 1, none⟩ = some (.slice none 0 0) := (blk_cell BK148.out 1).trans rfl; have hfz17_0 := blk_frozen BK148.out 0; have hfz17_1 := blk_frozen BK148.out 1) | ((with_reducible refine gate_callee (f := 59) rfl ?_); refine goesL_ (some 24) rfl rfl Try.func59 (by kernel_rfl) rfl #[.agg #[.bool true, .slice A147_3 ((rd_T55 l0_0 x8_1).f2.f1).length c147_3], .int .i64 a2] rfl (by (try simp only [List.map_toArray, List.map_cons, List.map_nil]); first | done | rfl | (simp only [List.length_drop, List.length_take]; rfl)) ?_; (with_reducible refine (node_At.calls true _ _ ((rd_T55 l0_0 x8_1).f2.f1) a2 t149 true _ ?side1 ?side2 (by first | exact A8.out | (have h_ := A8.out; rw [← Nbq9.out] at h_; exact h_))).mono ?_); (case side1 => exact Kd.C_below HR147_3.out (by repeat (first | (with_reducible first | exact HB.out | apply below_alloc | apply pw_below_drewN | apply below_drew1 | refine below_set ?_ GE146.out | refine below_set ?_ GE148.out) | exact HB.out))); (case side2 => exact HC147_3.out); rintro e w18 ⟨rfl, hb⟩; refine ⟨_, rfl, ?_⟩; have n0_ := Aside0.mk (blk_below (g := gb146) (o := .cells #[.slice (some ad147) l0_0.length c0_0, .int .i64 a0_1] 24 (0, 0)) (by (with_reducible repeat (first | refine blk_drewN ?_ _ | refine blk_drew ?_ | refine blk_alloc ?_ _)); refine blk_far ?_ NB146_148.out _; (with_reducible repeat (first | refine blk_drewN ?_ _ | refine blk_drew ?_ | refine blk_alloc ?_ _)); refine blk_far ?_ NB146_148.out _; (with_reducible repeat (first | refine blk_drewN ?_ _ | refine blk_drew ?_ | refine blk_alloc ?_ _)); exact BK146.out) hb); have n1_ := Aside0.mk (blk_below (g := gb148) (o := .cells #[.bool true, .slice A147_3 ((rd_T55 l0_0 x8_1).f2.f1).length c147_3] 53 (0, 0)) (by (with_reducible repeat (first | refine blk_drewN ?_ _ | refine blk_drew ?_ | refine blk_alloc ?_ _)); refine blk_put (cs := #[.bool true, .slice none 0 0]) ?_ 1 _ rfl; (with_reducible repeat (first | refine blk_drewN ?_ _ | refine blk_drew ?_ | refine blk_alloc ?_ _)); refine blk_put (cs := #[.bool false, .slice none 0 0]) ?_ 0 _ rfl; (with_reducible repeat (first | refine blk_drewN ?_ _ | refine blk_drew ?_ | refine blk_alloc ?_ _)); exact BK148.out) hb); have n2_ := Aside0.mk (below_step (by repeat (first | (with_reducible first | exact HB.out | apply below_alloc | apply pw_below_drewN | apply below_drew1 | refine below_set ?_ GE146.out | refine below_set ?_ GE148.out) | exact HB.out)) hb); clear BK146; clear BK148; clear HB; have BK146 := n0_; have BK148 := n1_; have HB := n2_; clear n0_ n1_ n2_; (try clear hb); (try clear hb2); (try clear hk); (try clear hi); have hcz19_0 : w18.cell? ⟨gb148, 0, none⟩ = some (.bool true) := (blk_cell BK148.out 0).trans rfl; have hcz19_1 : w18.cell? ⟨gb148, 1, none⟩ = some (.slice A147_3 ((rd_T55 l0_0 x8_1).f2.f1).length c147_3) := (blk_cell BK148.out 1).trans rfl; have hfz19_0 := blk_frozen BK148.out 0; have hfz19_1 := blk_frozen BK148.out 1; have p151 : 0 ≤ (t149 : Int) := of_decide_eq_true (by first | (with_reducible assumption) | assumption); have q151 : t149 < (((rd_T55 l0_0 x8_1).f2.f1).length : Int) := of_decide_eq_true (by first | (with_reducible assumption) | assumption); obtain ⟨ad151, e151, hx151_0, hx151_1⟩ := at_T49 HR147_3.out t149 p151 q151; cases e151; replace hx151_0 := (HB.out.cell (World.block_lt_of_cell? w _ hx151_0)).trans hx151_0; replace hx151_1 := (HB.out.cell (World.block_lt_of_cell? w _ hx151_1)).trans hx151_1; replace p151 := eq_true p151; replace q151 := eq_true q151))
          go_ret2
          exact ⟨by first | rfl | (simp [errW_none, errW_some] <;> rfl) | (simp [*, errW_none, errW_some] <;> rfl), by repeat (first | (with_reducible first | exact HB.out | apply below_alloc | apply pw_below_drewN | apply below_drew1 | refine below_set ?_ GE146.out | refine below_set ?_ GE148.out) | exact HB.out)⟩
         ·rw [if_neg c13] at H
          exact absurd H (by simp)
        ·rw [if_neg c12] at H
         exact absurd H (by simp)
       ·replace c11 := Bool.eq_false_iff.mpr c11
        subst c11
        have H1 : (some (0, 4)) = some (r1, r2) := by rw [if_neg (show ¬ (false = true) by decide)] at H; exact H
        clear H
        have H := H1
        clear H1
        simp only [Option.some.injEq, Prod.mk.injEq] at H
        obtain ⟨rfl, rfl⟩ := H
        have hcz20_0 : wr.cell? ⟨gb146, 0, none⟩ = some (.slice A0_0 l0_0.length c0_0) := (blk_cell BK146.out 0).trans rfl
        have hcz20_1 : wr.cell? ⟨gb146, 1, none⟩ = some (.int .i64 a0_1) := (blk_cell BK146.out 1).trans rfl
        have hfz20_0 := blk_frozen BK146.out 0
        have hfz20_1 := blk_frozen BK146.out 1
        have p147 : 0 ≤ (x8_1 : Int) := of_decide_eq_true (by first | (with_reducible assumption) | assumption)
        have q147 : x8_1 < (l0_0.length : Int) := of_decide_eq_true (by first | (with_reducible assumption) | assumption)
        obtain ⟨ad147, A147_3, c147_3, e147, hx147_0, hx147_1, hx147_2, hx147_3, hl147_3, hi147_3⟩ := at_T55 HR0_0.out x8_1 p147 q147
        (try rw [← Nbq9.out] at hx147_1)
        (try rw [← Nbq9.out] at hx147_2)
        cases e147
        replace hx147_0 := (HB.out.cell (World.block_lt_of_cell? w _ hx147_0)).trans hx147_0
        replace hx147_1 := (HB.out.cell (World.block_lt_of_cell? w _ hx147_1)).trans hx147_1
        replace hx147_2 := (HB.out.cell (World.block_lt_of_cell? w _ hx147_2)).trans hx147_2
        replace hx147_3 := (HB.out.cell (World.block_lt_of_cell? w _ hx147_3)).trans hx147_3
        have HR147_3 := Aside0.mk hi147_3
        have HC147_3 := Aside0.mk hl147_3
        clear hi147_3 hl147_3
        replace p147 := eq_true p147
        replace q147 := eq_true q147
        go_wp2_with (first | ((with_reducible refine gate_dst (N := 9) rfl ?_); refine box_event ?hg (N := 9) ?hd (cs := #[.bool false, .slice none 0 0]) (t := 53) ?hr ?_; (case hd => rfl); (case hg => rfl); (case hr => first | (go_simp; done) | (go_simp; rfl)); intro gb148 hg w21 hbox hb; have n0_ := Aside0.mk (blk_below (g := gb146) (o := .cells #[.slice (some ad147) l0_0.length c0_0, .int .i64 a0_1] 24 (0, 0)) (by (with_reducible repeat (first | refine blk_drewN ?_ _ | refine blk_drew ?_ | refine blk_alloc ?_ _)); exact BK146.out) hb); have n1_ := Aside0.mk (below_step (by repeat (first | (with_reducible first | exact HB.out | apply below_alloc | apply pw_below_drewN | apply below_drew1 | refine below_set ?_ GE146.out) | exact HB.out)) hb); have n2_ := Aside0.mk (hbox); have n3_ := Aside0.mk ((by rw [hg]; exact (below_size (by repeat (first | (with_reducible first | exact HB.out | apply below_alloc | apply pw_below_drewN | apply below_drew1 | refine below_set ?_ GE146.out) | exact HB.out))) : w.heap.size ≤ gb148)); have n4_ := Aside0.mk ((by rw [hg]; exact (below_size (by repeat (first | (with_reducible first | exact HB.out | apply below_alloc | apply pw_below_drewN | apply below_drew1 | refine below_set ?_ GE146.out) | exact HB.out))) : w.heap.size ≤ gb148)); have n5_ := Aside0.mk ((by rw [hg]; exact Nat.ne_of_lt (blk_lt (g := gb146) (o := .cells #[.slice (some ad147) l0_0.length c0_0, .int .i64 a0_1] 24 (0, 0)) (by (with_reducible repeat (first | refine blk_drewN ?_ _ | refine blk_drew ?_ | refine blk_alloc ?_ _)); exact BK146.out)) : gb146 ≠ gb148)); have n6_ := Aside0.mk ((by rw [hg]; exact Nat.ne_of_gt (blk_lt (g := gb146) (o := .cells #[.slice (some ad147) l0_0.length c0_0, .int .i64 a0_1] 24 (0, 0)) (by (with_reducible repeat (first | refine blk_drewN ?_ _ | refine blk_drew ?_ | refine blk_alloc ?_ _)); exact BK146.out)) : gb148 ≠ gb146)); clear BK146; clear HB; have BK146 := n0_; have HB := n1_; have BK148 := n2_; have GW148 := n3_; have GE148 := n4_; have NB146_148 := n5_; have NB148_146 := n6_; clear n0_ n1_ n2_ n3_ n4_ n5_ n6_; clear hb hbox hg; have hnb22 := NB148_146.out; have hnc22 := NB146_148.out; have hcz23_0 : w21.cell? ⟨gb148, 0, none⟩ = some (.bool false) := (blk_cell BK148.out 0).trans rfl; have hcz23_1 : w21.cell? ⟨gb148, 1, none⟩ = some (.slice none 0 0) := (blk_cell BK148.out 1).trans rfl; have hfz23_0 := blk_frozen BK148.out 0; have hfz23_1 := blk_frozen BK148.out 1) | ((with_reducible refine gate_callee (f := 59) rfl ?_); refine goesL_ (some 24) rfl rfl Try.func59 (by kernel_rfl) rfl #[.agg #[.bool true, .slice A147_3 ((rd_T55 l0_0 x8_1).f2.f1).length c147_3], .int .i64 a2] rfl (by (try simp only [List.map_toArray, List.map_cons, List.map_nil]); first | done | rfl | (simp only [List.length_drop, List.length_take]; rfl)) ?_; (with_reducible refine (node_At.calls true _ _ ((rd_T55 l0_0 x8_1).f2.f1) a2 t149 false _ ?side1 ?side2 (by first | exact A8.out | (have h_ := A8.out; rw [← Nbq9.out] at h_; exact h_))).mono ?_); (case side1 => exact Kd.C_below HR147_3.out (by repeat (first | (with_reducible first | exact HB.out | apply below_alloc | apply pw_below_drewN | apply below_drew1 | refine below_set ?_ GE146.out | refine below_set ?_ GE148.out) | exact HB.out))); (case side2 => exact HC147_3.out); rintro e w24 ⟨rfl, hb⟩; refine ⟨_, rfl, ?_⟩; have n0_ := Aside0.mk (blk_below (g := gb146) (o := .cells #[.slice (some ad147) l0_0.length c0_0, .int .i64 a0_1] 24 (0, 0)) (by (with_reducible repeat (first | refine blk_drewN ?_ _ | refine blk_drew ?_ | refine blk_alloc ?_ _)); refine blk_far ?_ NB146_148.out _; (with_reducible repeat (first | refine blk_drewN ?_ _ | refine blk_drew ?_ | refine blk_alloc ?_ _)); refine blk_far ?_ NB146_148.out _; (with_reducible repeat (first | refine blk_drewN ?_ _ | refine blk_drew ?_ | refine blk_alloc ?_ _)); exact BK146.out) hb); have n1_ := Aside0.mk (blk_below (g := gb148) (o := .cells #[.bool true, .slice A147_3 ((rd_T55 l0_0 x8_1).f2.f1).length c147_3] 53 (0, 0)) (by (with_reducible repeat (first | refine blk_drewN ?_ _ | refine blk_drew ?_ | refine blk_alloc ?_ _)); refine blk_put (cs := #[.bool true, .slice none 0 0]) ?_ 1 _ rfl; (with_reducible repeat (first | refine blk_drewN ?_ _ | refine blk_drew ?_ | refine blk_alloc ?_ _)); refine blk_put (cs := #[.bool false, .slice none 0 0]) ?_ 0 _ rfl; (with_reducible repeat (first | refine blk_drewN ?_ _ | refine blk_drew ?_ | refine blk_alloc ?_ _)); exact BK148.out) hb); have n2_ := Aside0.mk (below_step (by repeat (first | (with_reducible first | exact HB.out | apply below_alloc | apply pw_below_drewN | apply below_drew1 | refine below_set ?_ GE146.out | refine below_set ?_ GE148.out) | exact HB.out)) hb); clear BK146; clear BK148; clear HB; have BK146 := n0_; have BK148 := n1_; have HB := n2_; clear n0_ n1_ n2_; (try clear hb); (try clear hb2); (try clear hk); (try clear hi); have hcz25_0 : w24.cell? ⟨gb148, 0, none⟩ = some (.bool true) := (blk_cell BK148.out 0).trans rfl; have hcz25_1 : w24.cell? ⟨gb148, 1, none⟩ = some (.slice A147_3 ((rd_T55 l0_0 x8_1).f2.f1).length c147_3) := (blk_cell BK148.out 1).trans rfl; have hfz25_0 := blk_frozen BK148.out 0; have hfz25_1 := blk_frozen BK148.out 1))
        go_ret2
        exact ⟨by first | rfl | (simp [errW_none, errW_some] <;> rfl) | (simp [*, errW_none, errW_some] <;> rfl), by repeat (first | (with_reducible first | exact HB.out | apply below_alloc | apply pw_below_drewN | apply below_drew1 | refine below_set ?_ GE146.out | refine below_set ?_ GE148.out) | exact HB.out)⟩
      ·replace c10 := Bool.eq_false_iff.mpr c10
       subst c10
       have H1 : (if 0 ≤ t149 then (if t149 < (((rd_T55 l0_0 x8_1).f2.f1).length : Int) then (tree_Get.l0 k1 a2 ((rd_T49 ((rd_T55 l0_0 x8_1).f2.f1) t149).f1) l0_0 a0_1) else (none)) else (none)) = some (r1, r2) := by rw [if_neg (show ¬ (false = true) by decide)] at H; exact H
       clear H
       have H := H1
       clear H1
       by_cases c26 : 0 ≤ t149
       ·rw [if_pos c26] at H
        have c26b0 : decide (0 ≤ t149) = true := decide_eq_true c26
        clear c26
        by_cases c27 : t149 < (((rd_T55 l0_0 x8_1).f2.f1).length : Int)
        ·rw [if_pos c27] at H
         have c27b0 : decide (t149 < (((rd_T55 l0_0 x8_1).f2.f1).length : Int)) = true := decide_eq_true c27
         clear c27
         have H' := Aside0.mk H
         clear H
         have hcz28_0 : wr.cell? ⟨gb146, 0, none⟩ = some (.slice A0_0 l0_0.length c0_0) := (blk_cell BK146.out 0).trans rfl
         have hcz28_1 : wr.cell? ⟨gb146, 1, none⟩ = some (.int .i64 a0_1) := (blk_cell BK146.out 1).trans rfl
         have hfz28_0 := blk_frozen BK146.out 0
         have hfz28_1 := blk_frozen BK146.out 1
         have p147 : 0 ≤ (x8_1 : Int) := of_decide_eq_true (by first | (with_reducible assumption) | assumption)
         have q147 : x8_1 < (l0_0.length : Int) := of_decide_eq_true (by first | (with_reducible assumption) | assumption)
         obtain ⟨ad147, A147_3, c147_3, e147, hx147_0, hx147_1, hx147_2, hx147_3, hl147_3, hi147_3⟩ := at_T55 HR0_0.out x8_1 p147 q147
         (try rw [← Nbq9.out] at hx147_1)
         (try rw [← Nbq9.out] at hx147_2)
         cases e147
         replace hx147_0 := (HB.out.cell (World.block_lt_of_cell? w _ hx147_0)).trans hx147_0
         replace hx147_1 := (HB.out.cell (World.block_lt_of_cell? w _ hx147_1)).trans hx147_1
         replace hx147_2 := (HB.out.cell (World.block_lt_of_cell? w _ hx147_2)).trans hx147_2
         replace hx147_3 := (HB.out.cell (World.block_lt_of_cell? w _ hx147_3)).trans hx147_3
         have HR147_3 := Aside0.mk hi147_3
         have HC147_3 := Aside0.mk hl147_3
         clear hi147_3 hl147_3
         replace p147 := eq_true p147
         replace q147 := eq_true q147
         go_wp2_with (first | ((with_reducible refine gate_dst (N := 9) rfl ?_); refine box_event ?hg (N := 9) ?hd (cs := #[.bool false, .slice none 0 0]) (t := 53) ?hr ?_; (case hd => rfl); (case hg => rfl); (case hr => first | (go_simp; done) | (go_simp; rfl)); intro gb148 hg w29 hbox hb; have n0_ := Aside0.mk (blk_below (g := gb146) (o := .cells #[.slice (some ad147) l0_0.length c0_0, .int .i64 a0_1] 24 (0, 0)) (by (with_reducible repeat (first | refine blk_drewN ?_ _ | refine blk_drew ?_ | refine blk_alloc ?_ _)); exact BK146.out) hb); have n1_ := Aside0.mk (below_step (by repeat (first | (with_reducible first | exact HB.out | apply below_alloc | apply pw_below_drewN | apply below_drew1 | refine below_set ?_ GE146.out) | exact HB.out)) hb); have n2_ := Aside0.mk (hbox); have n3_ := Aside0.mk ((by rw [hg]; exact (below_size (by repeat (first | (with_reducible first | exact HB.out | apply below_alloc | apply pw_below_drewN | apply below_drew1 | refine below_set ?_ GE146.out) | exact HB.out))) : w.heap.size ≤ gb148)); have n4_ := Aside0.mk ((by rw [hg]; exact (below_size (by repeat (first | (with_reducible first | exact HB.out | apply below_alloc | apply pw_below_drewN | apply below_drew1 | refine below_set ?_ GE146.out) | exact HB.out))) : w.heap.size ≤ gb148)); have n5_ := Aside0.mk ((by rw [hg]; exact Nat.ne_of_lt (blk_lt (g := gb146) (o := .cells #[.slice (some ad147) l0_0.length c0_0, .int .i64 a0_1] 24 (0, 0)) (by (with_reducible repeat (first | refine blk_drewN ?_ _ | refine blk_drew ?_ | refine blk_alloc ?_ _)); exact BK146.out)) : gb146 ≠ gb148)); have n6_ := Aside0.mk ((by rw [hg]; exact Nat.ne_of_gt (blk_lt (g := gb146) (o := .cells #[.slice (some ad147) l0_0.length c0_0, .int .i64 a0_1] 24 (0, 0)) (by (with_reducible repeat (first | refine blk_drewN ?_ _ | refine blk_drew ?_ | refine blk_alloc ?_ _)); exact BK146.out)) : gb148 ≠ gb146)); clear BK146; clear HB; have BK146 := n0_; have HB := n1_; have BK148 := n2_; have GW148 := n3_; have GE148 := n4_; have NB146_148 := n5_; have NB148_146 := n6_; clear n0_ n1_ n2_ n3_ n4_ n5_ n6_; clear hb hbox hg; have hnb30 := NB148_146.out; have hnc30 := NB146_148.out; have hcz31_0 : w29.cell? ⟨gb148, 0, none⟩ = some (.bool false) := (blk_cell BK148.out 0).trans rfl; have hcz31_1 : w29.cell? ⟨gb148, 1, none⟩ = some (.slice none 0 0) := (blk_cell BK148.out 1).trans rfl; have hfz31_0 := blk_frozen BK148.out 0; have hfz31_1 := blk_frozen BK148.out 1) | ((with_reducible refine gate_callee (f := 59) rfl ?_); refine goesL_ (some 24) rfl rfl Try.func59 (by kernel_rfl) rfl #[.agg #[.bool false, .slice A147_3 ((rd_T55 l0_0 x8_1).f2.f1).length c147_3], .int .i64 a2] rfl (by (try simp only [List.map_toArray, List.map_cons, List.map_nil]); first | done | rfl | (simp only [List.length_drop, List.length_take]; rfl)) ?_; (with_reducible refine (node_At.calls false _ _ ((rd_T55 l0_0 x8_1).f2.f1) a2 t149 t150 _ ?side1 ?side2 (by first | exact A8.out | (have h_ := A8.out; rw [← Nbq9.out] at h_; exact h_))).mono ?_); (case side1 => exact Kd.C_below HR147_3.out (by repeat (first | (with_reducible first | exact HB.out | apply below_alloc | apply pw_below_drewN | apply below_drew1 | refine below_set ?_ GE146.out | refine below_set ?_ GE148.out) | exact HB.out))); (case side2 => exact HC147_3.out); rintro e w32 ⟨rfl, hb⟩; refine ⟨_, rfl, ?_⟩; have n0_ := Aside0.mk (blk_below (g := gb146) (o := .cells #[.slice (some ad147) l0_0.length c0_0, .int .i64 a0_1] 24 (0, 0)) (by (with_reducible repeat (first | refine blk_drewN ?_ _ | refine blk_drew ?_ | refine blk_alloc ?_ _)); refine blk_far ?_ NB146_148.out _; (with_reducible repeat (first | refine blk_drewN ?_ _ | refine blk_drew ?_ | refine blk_alloc ?_ _)); refine blk_far ?_ NB146_148.out _; (with_reducible repeat (first | refine blk_drewN ?_ _ | refine blk_drew ?_ | refine blk_alloc ?_ _)); exact BK146.out) hb); have n1_ := Aside0.mk (blk_below (g := gb148) (o := .cells #[.bool false, .slice A147_3 ((rd_T55 l0_0 x8_1).f2.f1).length c147_3] 53 (0, 0)) (by (with_reducible repeat (first | refine blk_drewN ?_ _ | refine blk_drew ?_ | refine blk_alloc ?_ _)); refine blk_put (cs := #[.bool false, .slice none 0 0]) ?_ 1 _ rfl; (with_reducible repeat (first | refine blk_drewN ?_ _ | refine blk_drew ?_ | refine blk_alloc ?_ _)); refine blk_put (cs := #[.bool false, .slice none 0 0]) ?_ 0 _ rfl; (with_reducible repeat (first | refine blk_drewN ?_ _ | refine blk_drew ?_ | refine blk_alloc ?_ _)); exact BK148.out) hb); have n2_ := Aside0.mk (below_step (by repeat (first | (with_reducible first | exact HB.out | apply below_alloc | apply pw_below_drewN | apply below_drew1 | refine below_set ?_ GE146.out | refine below_set ?_ GE148.out) | exact HB.out)) hb); clear BK146; clear BK148; clear HB; have BK146 := n0_; have BK148 := n1_; have HB := n2_; clear n0_ n1_ n2_; (try clear hb); (try clear hb2); (try clear hk); (try clear hi); have hcz33_0 : w32.cell? ⟨gb148, 0, none⟩ = some (.bool false) := (blk_cell BK148.out 0).trans rfl; have hcz33_1 : w32.cell? ⟨gb148, 1, none⟩ = some (.slice A147_3 ((rd_T55 l0_0 x8_1).f2.f1).length c147_3) := (blk_cell BK148.out 1).trans rfl; have hfz33_0 := blk_frozen BK148.out 0; have hfz33_1 := blk_frozen BK148.out 1; have p152 : 0 ≤ (t149 : Int) := of_decide_eq_true (by first | (with_reducible assumption) | assumption); have q152 : t149 < (((rd_T55 l0_0 x8_1).f2.f1).length : Int) := of_decide_eq_true (by first | (with_reducible assumption) | assumption); obtain ⟨ad152, e152, hx152_0, hx152_1⟩ := at_T49 HR147_3.out t149 p152 q152; cases e152; replace hx152_0 := (HB.out.cell (World.block_lt_of_cell? w _ hx152_0)).trans hx152_0; replace hx152_1 := (HB.out.cell (World.block_lt_of_cell? w _ hx152_1)).trans hx152_1; replace p152 := eq_true p152; replace q152 := eq_true q152))
         go_roundg k1
         case measure => have := HK1.out; omega
         case rel => exact ⟨((rd_T49 ((rd_T55 l0_0 x8_1).f2.f1) t149).f1), (by first | rfl | (simp; done) | (simp [*]; done)), H', ⟨by have := HK1.out; omega⟩, ⟨by (with_reducible repeat (first | refine blk_drewN ?_ _ | refine blk_drew ?_ | refine blk_alloc ?_ _)); exact BK146.out⟩, ⟨by repeat (first | (with_reducible first | exact HB.out | apply below_alloc | apply pw_below_drewN | apply below_drew1 | refine below_set ?_ GE146.out | refine below_set ?_ GE148.out) | exact HB.out)⟩⟩
        ·rw [if_neg c27] at H
         exact absurd H (by simp)
       ·rw [if_neg c26] at H
        exact absurd H (by simp)
     ·rw [if_neg c7] at H
      exact absurd H (by simp)
    ·rw [if_neg c6] at H
     exact absurd H (by simp)
   ·rw [if_neg c5] at H
    have c5b0 : decide (0 ≤ x8_1) = false := decide_eq_false c5
    clear c5
    simp only [Option.some.injEq, Prod.mk.injEq] at H
    obtain ⟨rfl, rfl⟩ := H
    go_wp2
    go_ret2
    exact ⟨by first | rfl | (simp [errW_none, errW_some] <;> rfl) | (simp [*, errW_none, errW_some] <;> rfl), by repeat (first | (with_reducible first | exact HB.out | apply below_alloc | apply pw_below_drewN | apply below_drew1 | refine below_set ?_ GE146.out) | exact HB.out)⟩
end Go.Proofs.Yteiladccdenpbaa.P
end
section
namespace Go.Proofs.Yteiladccdenpbaa.P
open Go.RowKit Go.Proofs.YteiladccdenpbaaW.PrintWords Go.Proofs.YteiladccdenpbaaW.PrintLast Go.Proofs.YteiladccdenpbaaW.PrintMore
attribute [local go_sem] max2_int min2_int max_two min_two max_three min_three max_four min_four
set_option linter.unusedVariables false
set_option linter.unusedSimpArgs false
mutual
def assartref07_List.l0 : Nat → List (S49) → Int → List (S55) → Int → Bool → List (S49) → Option ((List (S49)))
 | 0, _, _, _, _, _, _ => none
 | k + 1, x6, x7, x249000, x249001, x251000, x251001 => if x7 < (x251001.length : Int) then (if 0 ≤ x7 then ((assartref07_List.f k x249000 x249001 ((rd_T49 x251001 x7).f1)).bind fun t252 => (if x6.length + t252.length < 8796093022208 then (assartref07_List.l0 k (x6 ++ t252) (wrap64 (x7 + 1)) x249000 x249001 x251000 x251001) else (none))) else (none)) else (some x6)
def assartref07_List.f : Nat → List (S55) → Int → Int → Option ((List (S49)))
 | 0, _, _, _ => none
 | k + 1, l0_0, a0_1, a1 => if a1 < 0 then (some ([] : List (S49))) else (if 0 ≤ a1 then (if a1 < (l0_0.length : Int) then (if (rd_T55 l0_0 a1).f2.f0 = true then (some ((rd_T55 l0_0 a1).f2.f1)) else (assartref07_List.l0 k ([] : List (S49)) 0 l0_0 a0_1 ((rd_T55 l0_0 a1).f2.f0) ((rd_T55 l0_0 a1).f2.f1))) else (none)) else (none))
end
def assartref07_List.T10 : Bool × List (List Nat × List Nat) := (true, [([], []), ([], []), ([], []), ([2], [2]), ([], []), ([3, 4], [3, 4]), ([5], [5]), ([6], [6]), ([1, 7], [1, 7]), ([0, 8, 8], [0, 8]), ([9, 9, 0, 1, 2, 3, 4, 5, 6, 7, 8, 9], [0, 9])])
def assartref07_List.B10 : List Nat := [0, 0, 0, 4, 0, 28, 60, 124, 254, 511, 1023]
theorem assartref07_List.tab10 : rtab .any (opsOf Try.f60 10) = assartref07_List.T10 := by kernel_rfl
theorem assartref07_List.bits10 : waitsOk assartref07_List.T10.2 assartref07_List.B10 = true := by kernel_rfl
set_option maxHeartbeats 8000000 in
set_option maxRecDepth 100000 in
theorem assartref07_List.calls (k : Nat) : ∀ (P0_0_ : Nat → Prop) (A0_0 : Option Addr) (c0_0 : Nat) (l0_0 : List (S55)) (a0_1 : Int) (a1 : Int) (r : List (S49)) (w : World) (hs0_0 : Kd.V k55 55 w w.heap.size (fun k_ => P0_0_ k_) (.slice A0_0 l0_0.length c0_0) l0_0) (h : assartref07_List.f k l0_0 a0_1 a1 = some r),
  Calls Try.prog 60 #[.agg #[.slice A0_0 l0_0.length c0_0, .int .i64 a0_1], .int .i64 a1] w fun e w' => ∃ v0_ : Value, e = .returned (v0_) ∧ Kd.V k49 49 w' w.heap.size (fun k_ => (P0_0_ k_ ∨ w.heap.size ≤ k_)) v0_ r ∧ Below w.heap.size w w' := by
 induction k using Nat.strongRecOn with
 | _ k ih =>
 intro P0_0_ A0_0 c0_0 l0_0 a0_1 a1 r w hs0_0 h
 cases k with
 | zero => exact absurd h (by simp [assartref07_List.f])
 | succ k =>
 simp only [assartref07_List.f] at h
 have hu24 := Try.underlying24
 have hu53 := Try.underlying53
 have HORIG := Aside0.mk hs0_0
 have HO0_0 := Aside0.mk (show Kd.V k55 55 w w.heap.size (fun k_ => (P0_0_ k_ ∨ w.heap.size ≤ k_)) (.slice A0_0 l0_0.length c0_0) l0_0 from Kd.V_mono hs0_0 (fun k_ hk => .inl hk))
 have HB := Aside0.mk (Below.refl w.heap.size w)
 have H : (if a1 < 0 then (some ([] : List (S49))) else (if 0 ≤ a1 then (if a1 < (l0_0.length : Int) then (if (rd_T55 l0_0 a1).f2.f0 = true then (some ((rd_T55 l0_0 a1).f2.f1)) else (assartref07_List.l0 k ([] : List (S49)) 0 l0_0 a0_1 ((rd_T55 l0_0 a1).f2.f0) ((rd_T55 l0_0 a1).f2.f1))) else (none)) else (none))) = some r := h
 clear h
 by_cases c3 : a1 < 0
 ·rw [if_pos c3] at H
  have c3b0 : decide (a1 < 0) = true := decide_eq_true c3
  clear c3
  obtain rfl := Option.some.inj H
  go_enter Try.func60, Try.ntmps60
  go_wp2_with (first | ((with_reducible refine gate_dst (N := 2) rfl ?_); refine box_event ?hg (N := 2) ?hd (cs := #[.slice A0_0 l0_0.length c0_0, .int .i64 a0_1]) (t := 24) ?hr ?_; (case hd => rfl); (case hg => rfl); (case hr => first | (go_simp; done) | (go_simp; rfl)); intro gb248 hg w4 hbox hb; have n0_ := Aside0.mk (Kd.V_below (Kd.V_elderB (by (with_reducible repeat (first | apply Kd.V_alloc | apply Kd.V_drewN | apply Kd.V_drew)); exact HO0_0.out) gb248 (Nat.le_of_eq hg.symm)) hb); have n1_ := Aside0.mk (below_step (by repeat (first | (with_reducible first | exact HB.out | apply below_alloc | apply pw_below_drewN | apply below_drew1) | exact HB.out)) hb); have n2_ := Aside0.mk (hbox); have n3_ := Aside0.mk ((by rw [hg]; exact (below_size (by repeat (first | (with_reducible first | exact HB.out | apply below_alloc | apply pw_below_drewN | apply below_drew1) | exact HB.out))) : w.heap.size ≤ gb248)); have n4_ := Aside0.mk ((by rw [hg]; exact (below_size (by repeat (first | (with_reducible first | exact HB.out | apply below_alloc | apply pw_below_drewN | apply below_drew1) | exact HB.out))) : w.heap.size ≤ gb248)); clear HO0_0; clear HB; have HO0_0 := n0_; have HB := n1_; have BK248 := n2_; have GW248 := n3_; have GE248 := n4_; clear n0_ n1_ n2_ n3_ n4_; clear hb hbox hg))
  go_ret
  exact ⟨_, by first | rfl | (simp [errW_none, errW_some] <;> rfl) | (simp [*, errW_none, errW_some] <;> rfl), Kd.V_mono (Kd.V_nil _ _ _ _ _) (fun k_ hk => by first | exact ⟨(.inr (hk.1)), hk.2⟩ | exact (.inr (hk))), by repeat (first | (with_reducible first | exact HB.out | apply below_alloc | apply pw_below_drewN | apply below_drew1 | refine below_set ?_ GE248.out) | exact HB.out)⟩
 ·rw [if_neg c3] at H
  have c3b0 : decide (a1 < 0) = false := decide_eq_false c3
  clear c3
  by_cases c5 : 0 ≤ a1
  ·rw [if_pos c5] at H
   have c5b0 : decide (0 ≤ a1) = true := decide_eq_true c5
   clear c5
   by_cases c6 : a1 < (l0_0.length : Int)
   ·rw [if_pos c6] at H
    have c6b0 : decide (a1 < (l0_0.length : Int)) = true := decide_eq_true c6
    clear c6
    obtain ⟨bq7, hbq7⟩ : ∃ b_ : Bool, b_ = ((rd_T55 l0_0 a1).f2.f0) := ⟨_, rfl⟩
    replace H : (if bq7 = true then (some ((rd_T55 l0_0 a1).f2.f1)) else (assartref07_List.l0 k ([] : List (S49)) 0 l0_0 a0_1 bq7 ((rd_T55 l0_0 a1).f2.f1))) = some r := by rw [← hbq7] at H; exact H
    have Nbq7 := Aside0.mk hbq7
    clear hbq7
    by_cases c8 : bq7 = true
    ·subst c8
     have H1 : (some ((rd_T55 l0_0 a1).f2.f1)) = some r := by rw [if_pos rfl] at H; exact H
     clear H
     have H := H1
     clear H1
     obtain rfl := Option.some.inj H
     go_enter Try.func60, Try.ntmps60
     go_wp2_with (first | ((with_reducible refine gate_dst (N := 2) rfl ?_); refine box_event ?hg (N := 2) ?hd (cs := #[.slice A0_0 l0_0.length c0_0, .int .i64 a0_1]) (t := 24) ?hr ?_; (case hd => rfl); (case hg => rfl); (case hr => first | (go_simp; done) | (go_simp; rfl)); intro gb248 hg w9 hbox hb; have n0_ := Aside0.mk (Kd.V_below (Kd.V_elderB (by (with_reducible repeat (first | apply Kd.V_alloc | apply Kd.V_drewN | apply Kd.V_drew)); exact HO0_0.out) gb248 (Nat.le_of_eq hg.symm)) hb); have n1_ := Aside0.mk (below_step (by repeat (first | (with_reducible first | exact HB.out | apply below_alloc | apply pw_below_drewN | apply below_drew1) | exact HB.out)) hb); have n2_ := Aside0.mk (hbox); have n3_ := Aside0.mk ((by rw [hg]; exact (below_size (by repeat (first | (with_reducible first | exact HB.out | apply below_alloc | apply pw_below_drewN | apply below_drew1) | exact HB.out))) : w.heap.size ≤ gb248)); have n4_ := Aside0.mk ((by rw [hg]; exact (below_size (by repeat (first | (with_reducible first | exact HB.out | apply below_alloc | apply pw_below_drewN | apply below_drew1) | exact HB.out))) : w.heap.size ≤ gb248)); clear HO0_0; clear HB; have HO0_0 := n0_; have HB := n1_; have BK248 := n2_; have GW248 := n3_; have GE248 := n4_; clear n0_ n1_ n2_ n3_ n4_; clear hb hbox hg; have hcz10_0 : w9.cell? ⟨gb248, 0, none⟩ = some (.slice A0_0 l0_0.length c0_0) := (blk_cell BK248.out 0).trans rfl; have hcz10_1 : w9.cell? ⟨gb248, 1, none⟩ = some (.int .i64 a0_1) := (blk_cell BK248.out 1).trans rfl; have hfz10_0 := blk_frozen BK248.out 0; have hfz10_1 := blk_frozen BK248.out 1; have p249 : 0 ≤ (a1 : Int) := of_decide_eq_true (by first | (with_reducible assumption) | assumption); have q249 : a1 < (l0_0.length : Int) := of_decide_eq_true (by first | (with_reducible assumption) | assumption); obtain ⟨ad249, A249_3, c249_3, e249, hx249_0, hx249_1, hx249_2, hx249_3, hl249_3, hi249_3⟩ := at_T55 (Kd.V_reads' HO0_0.out).2.2 a1 p249 q249; (try rw [← Nbq7.out] at hx249_1); (try rw [← Nbq7.out] at hx249_2); cases e249; obtain ⟨ce249, hce249, hMe249, hcc249⟩ := Kd.V_get HO0_0.out z55 a1 p249 (by first | exact q249 | exact of_decide_eq_true (by first | (with_reducible assumption) | assumption) | (have e_ := (Kd.V_reads' HO0_0.out).1; omega)); obtain ⟨ua249_3, uc249_3, rfl, ul249_3, ge249_3⟩ := k55_openF hMe249; have hv249_3 := hcc249 3 _ rfl; rw [add_field _ _ 3 (by omega)] at hv249_3; replace hv249_3 := Option.some.inj (hv249_3.symm.trans hx249_3); injection hv249_3 with hva_ hvn_ hvc_; rw [hva_] at ge249_3; rw [hvc_] at ul249_3; have HL249_3 := Aside0.mk (show Kd.V k49 49 _ w.heap.size _ _ ((rd_T55 l0_0 a1).f2.f1) from Kd.V_mk ul249_3 ge249_3); clear hva_ hvn_ hvc_ ge249_3 ul249_3; clear hcc249 hce249; have HR249_3 := Aside0.mk hi249_3; have HC249_3 := Aside0.mk hl249_3; clear hi249_3 hl249_3; replace p249 := eq_true p249; replace q249 := eq_true q249) | ((with_reducible refine gate_dst (N := 5) rfl ?_); refine box_event ?hg (N := 5) ?hd (cs := #[.bool false, .slice none 0 0]) (t := 53) ?hr ?_; (case hd => rfl); (case hg => rfl); (case hr => first | (go_simp; done) | (go_simp; rfl)); intro gb250 hg w11 hbox hb; have n0_ := Aside0.mk (Kd.V_below (Kd.V_elderB (by (with_reducible repeat (first | apply Kd.V_alloc | apply Kd.V_drewN | apply Kd.V_drew)); exact HO0_0.out) gb250 (Nat.le_of_eq hg.symm)) hb); have n1_ := Aside0.mk (Kd.V_below (Kd.V_elderB (by (with_reducible repeat (first | apply Kd.V_alloc | apply Kd.V_drewN | apply Kd.V_drew)); exact HL249_3.out) gb250 (Nat.le_of_eq hg.symm)) hb); have n2_ := Aside0.mk (blk_below (g := gb248) (o := .cells #[.slice (some ad249) l0_0.length c0_0, .int .i64 a0_1] 24 (0, 0)) (by (with_reducible repeat (first | refine blk_drewN ?_ _ | refine blk_drew ?_ | refine blk_alloc ?_ _)); exact BK248.out) hb); have n3_ := Aside0.mk (Kd.C_below (by repeat (first | (with_reducible exact HR249_3.out) | (with_reducible refine Kd.C_alloc ?_ _) | (with_reducible refine Kd.C_drewN ?_ _) | (with_reducible refine Kd.C_drew ?_) | exact HR249_3.out)) hb); have n4_ := Aside0.mk (below_step (by repeat (first | (with_reducible first | exact HB.out | apply below_alloc | apply pw_below_drewN | apply below_drew1 | refine below_set ?_ GE248.out) | exact HB.out)) hb); have n5_ := Aside0.mk (hbox); have n6_ := Aside0.mk ((by rw [hg]; exact (below_size (by repeat (first | (with_reducible first | exact HB.out | apply below_alloc | apply pw_below_drewN | apply below_drew1 | refine below_set ?_ GE248.out) | exact HB.out))) : w.heap.size ≤ gb250)); have n7_ := Aside0.mk ((by rw [hg]; exact (below_size (by repeat (first | (with_reducible first | exact HB.out | apply below_alloc | apply pw_below_drewN | apply below_drew1 | refine below_set ?_ GE248.out) | exact HB.out))) : w.heap.size ≤ gb250)); have n8_ := Aside0.mk ((by rw [hg]; exact Nat.ne_of_lt (blk_lt (g := gb248) (o := .cells #[.slice (some ad249) l0_0.length c0_0, .int .i64 a0_1] 24 (0, 0)) (by (with_reducible repeat (first | refine blk_drewN ?_ _ | refine blk_drew ?_ | refine blk_alloc ?_ _)); exact BK248.out)) : gb248 ≠ gb250)); have n9_ := Aside0.mk ((by rw [hg]; exact Nat.ne_of_gt (blk_lt (g := gb248) (o := .cells #[.slice (some ad249) l0_0.length c0_0, .int .i64 a0_1] 24 (0, 0)) (by (with_reducible repeat (first | refine blk_drewN ?_ _ | refine blk_drew ?_ | refine blk_alloc ?_ _)); exact BK248.out)) : gb250 ≠ gb248)); clear HO0_0; clear HL249_3; clear BK248; clear HR249_3; clear HB; have HO0_0 := n0_; have HL249_3 := n1_; have BK248 := n2_; have HR249_3 := n3_; have HB := n4_; have BK250 := n5_; have GW250 := n6_; have GE250 := n7_; have NB248_250 := n8_; have NB250_248 := n9_; clear n0_ n1_ n2_ n3_ n4_ n5_ n6_ n7_ n8_ n9_; clear hb hbox hg; have hnb12 := NB250_248.out; have hnc12 := NB248_250.out; have hcz13_0 : w11.cell? ⟨gb250, 0, none⟩ = some (.bool false) := (blk_cell BK250.out 0).trans rfl; have hcz13_1 : w11.cell? ⟨gb250, 1, none⟩ = some (.slice none 0 0) := (blk_cell BK250.out 1).trans rfl; have hfz13_0 := blk_frozen BK250.out 0; have hfz13_1 := blk_frozen BK250.out 1))
     go_ret
     exact ⟨_, by first | rfl | (simp [errW_none, errW_some] <;> rfl) | (simp [*, errW_none, errW_some] <;> rfl), by (with_reducible repeat (first | apply Kd.V_alloc | apply Kd.V_drewN | apply Kd.V_drew)); exact Kd.V_mono (Kd.V_far (p := ⟨gb250, 1, none⟩) (Kd.V_far (p := ⟨gb250, 0, none⟩) (Kd.V_mono HL249_3.out (fun k_ hk => (⟨hk, hk.2⟩ : _ ∧ k_ ≠ gb250))) (fun _ hk => hk.2) (.bool true)) (fun _ hk => hk.2) (.slice A249_3 ((rd_T55 l0_0 a1).f2.f1).length c249_3)) (fun _ hk => hk.1.1.1), by repeat (first | (with_reducible first | exact HB.out | apply below_alloc | apply pw_below_drewN | apply below_drew1 | refine below_set ?_ GE248.out | refine below_set ?_ GE250.out) | exact HB.out)⟩
    ·replace c8 := Bool.eq_false_iff.mpr c8
     subst c8
     have H1 : (assartref07_List.l0 k ([] : List (S49)) 0 l0_0 a0_1 false ((rd_T55 l0_0 a1).f2.f1)) = some r := by rw [if_neg (show ¬ (false = true) by decide)] at H; exact H
     clear H
     have H := H1
     clear H1
     have H' := Aside0.mk H
     clear H
     go_enter Try.func60, Try.ntmps60
     go_wp2_with (first | ((with_reducible refine gate_dst (N := 2) rfl ?_); refine box_event ?hg (N := 2) ?hd (cs := #[.slice A0_0 l0_0.length c0_0, .int .i64 a0_1]) (t := 24) ?hr ?_; (case hd => rfl); (case hg => rfl); (case hr => first | (go_simp; done) | (go_simp; rfl)); intro gb248 hg w14 hbox hb; have n0_ := Aside0.mk (Kd.V_below (Kd.V_elderB (by (with_reducible repeat (first | apply Kd.V_alloc | apply Kd.V_drewN | apply Kd.V_drew)); exact HO0_0.out) gb248 (Nat.le_of_eq hg.symm)) hb); have n1_ := Aside0.mk (below_step (by repeat (first | (with_reducible first | exact HB.out | apply below_alloc | apply pw_below_drewN | apply below_drew1) | exact HB.out)) hb); have n2_ := Aside0.mk (hbox); have n3_ := Aside0.mk ((by rw [hg]; exact (below_size (by repeat (first | (with_reducible first | exact HB.out | apply below_alloc | apply pw_below_drewN | apply below_drew1) | exact HB.out))) : w.heap.size ≤ gb248)); have n4_ := Aside0.mk ((by rw [hg]; exact (below_size (by repeat (first | (with_reducible first | exact HB.out | apply below_alloc | apply pw_below_drewN | apply below_drew1) | exact HB.out))) : w.heap.size ≤ gb248)); clear HO0_0; clear HB; have HO0_0 := n0_; have HB := n1_; have BK248 := n2_; have GW248 := n3_; have GE248 := n4_; clear n0_ n1_ n2_ n3_ n4_; clear hb hbox hg; have hcz15_0 : w14.cell? ⟨gb248, 0, none⟩ = some (.slice A0_0 l0_0.length c0_0) := (blk_cell BK248.out 0).trans rfl; have hcz15_1 : w14.cell? ⟨gb248, 1, none⟩ = some (.int .i64 a0_1) := (blk_cell BK248.out 1).trans rfl; have hfz15_0 := blk_frozen BK248.out 0; have hfz15_1 := blk_frozen BK248.out 1; have p249 : 0 ≤ (a1 : Int) := of_decide_eq_true (by first | (with_reducible assumption) | assumption); have q249 : a1 < (l0_0.length : Int) := of_decide_eq_true (by first | (with_reducible assumption) | assumption); obtain ⟨ad249, A249_3, c249_3, e249, hx249_0, hx249_1, hx249_2, hx249_3, hl249_3, hi249_3⟩ := at_T55 (Kd.V_reads' HORIG.out).2.2 a1 p249 q249; replace hx249_0 := (HB.out.cell (World.block_lt_of_cell? w _ hx249_0)).trans hx249_0; replace hx249_1 := (HB.out.cell (World.block_lt_of_cell? w _ hx249_1)).trans hx249_1; replace hx249_2 := (HB.out.cell (World.block_lt_of_cell? w _ hx249_2)).trans hx249_2; replace hx249_3 := (HB.out.cell (World.block_lt_of_cell? w _ hx249_3)).trans hx249_3; (try rw [← Nbq7.out] at hx249_1); (try rw [← Nbq7.out] at hx249_2); cases e249; obtain ⟨ce249, hce249, hMe249, hcc249⟩ := Kd.V_get HO0_0.out z55 a1 p249 (by first | exact q249 | exact of_decide_eq_true (by first | (with_reducible assumption) | assumption) | (have e_ := (Kd.V_reads' HO0_0.out).1; omega)); obtain ⟨ua249_3, uc249_3, rfl, ul249_3, ge249_3⟩ := k55_openF hMe249; have hv249_3 := hcc249 3 _ rfl; rw [add_field _ _ 3 (by omega)] at hv249_3; replace hv249_3 := Option.some.inj (hv249_3.symm.trans hx249_3); injection hv249_3 with hva_ hvn_ hvc_; rw [hva_] at ge249_3; rw [hvc_] at ul249_3; have HL249_3 := Aside0.mk (show Kd.V k49 49 _ w.heap.size _ _ ((rd_T55 l0_0 a1).f2.f1) from Kd.V_mk ul249_3 ge249_3); clear hva_ hvn_ hvc_ ge249_3 ul249_3; clear hcc249 hce249; have HRW249 := Aside0.mk hi249_3; have HR249_3 := Aside0.mk ((Kd.V_reads' HL249_3.out).2.2); have HC249_3 := Aside0.mk hl249_3; clear hi249_3 hl249_3; replace p249 := eq_true p249; replace q249 := eq_true q249) | ((with_reducible refine gate_dst (N := 5) rfl ?_); refine box_event ?hg (N := 5) ?hd (cs := #[.bool false, .slice none 0 0]) (t := 53) ?hr ?_; (case hd => rfl); (case hg => rfl); (case hr => first | (go_simp; done) | (go_simp; rfl)); intro gb250 hg w16 hbox hb; have n0_ := Aside0.mk (Kd.V_below (Kd.V_elderB (by (with_reducible repeat (first | apply Kd.V_alloc | apply Kd.V_drewN | apply Kd.V_drew)); exact HO0_0.out) gb250 (Nat.le_of_eq hg.symm)) hb); have n1_ := Aside0.mk (Kd.V_below (Kd.V_elderB (by (with_reducible repeat (first | apply Kd.V_alloc | apply Kd.V_drewN | apply Kd.V_drew)); exact HL249_3.out) gb250 (Nat.le_of_eq hg.symm)) hb); have n2_ := Aside0.mk (blk_below (g := gb248) (o := .cells #[.slice (some ad249) l0_0.length c0_0, .int .i64 a0_1] 24 (0, 0)) (by (with_reducible repeat (first | refine blk_drewN ?_ _ | refine blk_drew ?_ | refine blk_alloc ?_ _)); exact BK248.out) hb); have n3_ := Aside0.mk (Kd.C_below (by repeat (first | (with_reducible exact HR249_3.out) | (with_reducible refine Kd.C_alloc ?_ _) | (with_reducible refine Kd.C_drewN ?_ _) | (with_reducible refine Kd.C_drew ?_) | exact HR249_3.out)) hb); have n4_ := Aside0.mk (below_step (by repeat (first | (with_reducible first | exact HB.out | apply below_alloc | apply pw_below_drewN | apply below_drew1 | refine below_set ?_ GE248.out) | exact HB.out)) hb); have n5_ := Aside0.mk (hbox); have n6_ := Aside0.mk ((by rw [hg]; exact (below_size (by repeat (first | (with_reducible first | exact HB.out | apply below_alloc | apply pw_below_drewN | apply below_drew1 | refine below_set ?_ GE248.out) | exact HB.out))) : w.heap.size ≤ gb250)); have n7_ := Aside0.mk ((by rw [hg]; exact (below_size (by repeat (first | (with_reducible first | exact HB.out | apply below_alloc | apply pw_below_drewN | apply below_drew1 | refine below_set ?_ GE248.out) | exact HB.out))) : w.heap.size ≤ gb250)); have n8_ := Aside0.mk ((by rw [hg]; exact Nat.ne_of_lt (blk_lt (g := gb248) (o := .cells #[.slice (some ad249) l0_0.length c0_0, .int .i64 a0_1] 24 (0, 0)) (by (with_reducible repeat (first | refine blk_drewN ?_ _ | refine blk_drew ?_ | refine blk_alloc ?_ _)); exact BK248.out)) : gb248 ≠ gb250)); have n9_ := Aside0.mk ((by rw [hg]; exact Nat.ne_of_gt (blk_lt (g := gb248) (o := .cells #[.slice (some ad249) l0_0.length c0_0, .int .i64 a0_1] 24 (0, 0)) (by (with_reducible repeat (first | refine blk_drewN ?_ _ | refine blk_drew ?_ | refine blk_alloc ?_ _)); exact BK248.out)) : gb250 ≠ gb248)); clear HO0_0; clear HL249_3; clear BK248; clear HR249_3; clear HB; have HO0_0 := n0_; have HL249_3 := n1_; have BK248 := n2_; have HR249_3 := n3_; have HB := n4_; have BK250 := n5_; have GW250 := n6_; have GE250 := n7_; have NB248_250 := n8_; have NB250_248 := n9_; clear n0_ n1_ n2_ n3_ n4_ n5_ n6_ n7_ n8_ n9_; clear hb hbox hg; have hnb17 := NB250_248.out; have hnc17 := NB248_250.out; have hcz18_0 : w16.cell? ⟨gb250, 0, none⟩ = some (.bool false) := (blk_cell BK250.out 0).trans rfl; have hcz18_1 : w16.cell? ⟨gb250, 1, none⟩ = some (.slice none 0 0) := (blk_cell BK250.out 1).trans rfl; have hfz18_0 := blk_frozen BK250.out 0; have hfz18_1 := blk_frozen BK250.out 1))
     go_loopg [6, 7] k (fun kq v6 v7 w' => ∃ (x6_1 : List (S49)) (x7_1 : Int), v7 = .int .i64 x7_1 ∧ Aside0 (assartref07_List.l0 kq x6_1 x7_1 l0_0 a0_1 false ((rd_T55 l0_0 a1).f2.f1) = some r) ∧ Aside0 (kq ≤ k) ∧ Aside0 (Kd.R k49 49 w' w.heap.size (fun k_ => (w.heap.size ≤ k_)) v6 x6_1) ∧ Aside0 (Kd.V k55 55 w' w.heap.size (fun k_ => (P0_0_ k_ ∨ w.heap.size ≤ k_) ∧ some k_ ≠ (v6 : Value).ownBlock ∧ k_ ≠ gb248 ∧ k_ ≠ gb250) (.slice (some ad249) l0_0.length c0_0) l0_0) ∧ Aside0 (w'.heap[gb248]? = some (.cells #[(.slice (some ad249) l0_0.length c0_0), .int .i64 a0_1] 24 (0, 0))) ∧ Aside0 (w'.heap[gb250]? = some (.cells #[.bool false, (.slice A249_3 ((rd_T55 l0_0 a1).f2.f1).length c249_3)] 53 (0, 0))) ∧ Aside0 (Below w.heap.size w w'))
     case atStart => exact ⟨(([] : List (S49))), (0), (by first | rfl | (simp; done) | (simp [*]; done)), H', ⟨Nat.le_refl _⟩, ⟨by first | exact Kd.R_nil _ _ _ _ _ | exact Kd.N_nil _ _ _ _ _ | exact Kd.V_nil _ _ _ _ _ | exact Kd.Q_nil _ _ _ _ _ | exact Kd.S_nil _ _ _ _ _⟩, ⟨by (with_reducible repeat (first | apply Kd.V_alloc | apply Kd.V_drewN | apply Kd.V_drew)); exact Kd.V_mono (Kd.V_far (p := ⟨gb250, 1, none⟩) (Kd.V_far (p := ⟨gb250, 0, none⟩) (Kd.V_mono HO0_0.out (fun k_ hk => (⟨hk, hk.2⟩ : _ ∧ k_ ≠ gb250))) (fun _ hk => hk.2) (.bool false)) (fun _ hk => hk.2) (.slice A249_3 ((rd_T55 l0_0 a1).f2.f1).length c249_3)) (fun _ hk => ⟨hk.1.1.1, ⟨(by simp [Value.ownBlock]), ⟨hk.1.1.2, hk.1.2⟩⟩⟩)⟩, ⟨by (with_reducible repeat (first | refine blk_drewN ?_ _ | refine blk_drew ?_ | refine blk_alloc ?_ _)); refine blk_far ?_ NB248_250.out _; (with_reducible repeat (first | refine blk_drewN ?_ _ | refine blk_drew ?_ | refine blk_alloc ?_ _)); refine blk_far ?_ NB248_250.out _; (with_reducible repeat (first | refine blk_drewN ?_ _ | refine blk_drew ?_ | refine blk_alloc ?_ _)); exact BK248.out⟩, ⟨by (with_reducible repeat (first | refine blk_drewN ?_ _ | refine blk_drew ?_ | refine blk_alloc ?_ _)); refine blk_put (cs := #[.bool false, .slice none 0 0]) ?_ 1 _ rfl; (with_reducible repeat (first | refine blk_drewN ?_ _ | refine blk_drew ?_ | refine blk_alloc ?_ _)); refine blk_put (cs := #[.bool false, .slice none 0 0]) ?_ 0 _ rfl; (with_reducible repeat (first | refine blk_drewN ?_ _ | refine blk_drew ?_ | refine blk_alloc ?_ _)); exact BK250.out⟩, ⟨by repeat (first | (with_reducible first | exact HB.out | apply below_alloc | apply pw_below_drewN | apply below_drew1 | refine below_set ?_ GE248.out | refine below_set ?_ GE250.out) | exact HB.out)⟩⟩
     case round =>
      clear H'
      try clear c1
      try clear c2
      try clear p2
      try clear q2
      try clear hx2
      try clear c3
      try clear c3b0
      try clear c5
      try clear c5b0
      try clear c6
      try clear c6b0
      try clear q7
      try clear c8
      try clear c12
      try clear c17
      try clear hcz10_0
      try clear hcz10_1
      try clear hcz13_0
      try clear hcz13_1
      try clear hcz15_0
      try clear hcz15_1
      try clear hcz18_0
      try clear hcz18_1
      try clear hfz10_0
      try clear hfz10_1
      try clear hfz13_0
      try clear hfz13_1
      try clear hfz15_0
      try clear hfz15_1
      try clear hfz18_0
      try clear hfz18_1
      try clear hx249_0
      try clear hx249_1
      try clear hx249_2
      try clear hx249_3
      try clear p249
      try clear q249
      obtain ⟨x6_1, x7_1, rfl, HA, HK1, HO_6, HO_249000, BK248, BK250, HB⟩ := hrel
      cases gk with
      | zero => exact absurd HA.out (by simp [assartref07_List.l0])
      | succ k1 =>
       have H := HA.out
       clear HA
       simp only [assartref07_List.l0] at H
       by_cases c19 : x7_1 < (((rd_T55 l0_0 a1).f2.f1).length : Int)
       ·rw [if_pos c19] at H
        have c19b0 : decide (x7_1 < (((rd_T55 l0_0 a1).f2.f1).length : Int)) = true := decide_eq_true c19
        clear c19
        by_cases c20 : 0 ≤ x7_1
        ·rw [if_pos c20] at H
         have c20b0 : decide (0 ≤ x7_1) = true := decide_eq_true c20
         clear c20
         replace H := Option.bind_eq_some_iff.mp H
         obtain ⟨t252, A210, H⟩ := H
         replace H : (if x6_1.length + t252.length < 8796093022208 then (assartref07_List.l0 k1 (x6_1 ++ t252) (wrap64 (x7_1 + 1)) l0_0 a0_1 false ((rd_T55 l0_0 a1).f2.f1)) else (none)) = some r := H
         have A21 := Aside0.mk A210
         clear A210
         by_cases c22 : x6_1.length + t252.length < 8796093022208
         ·rw [if_pos c22] at H
          have LMc22 := Aside0.mk c22
          clear c22
          obtain ⟨y255, hy255⟩ : ∃ y_ : List (S49), y_ = (x6_1 ++ t252) := ⟨_, rfl⟩
          replace H : (assartref07_List.l0 k1 y255 (wrap64 (x7_1 + 1)) l0_0 a0_1 false ((rd_T55 l0_0 a1).f2.f1)) = some r := by first | (rw [hy255]; with_reducible exact H) | (have H2_ := (Option.bind_some _ _).symm.trans H; rw [hy255]; with_reducible exact H2_) | (have H2_ := (Option.bind_some _ _).symm.trans H; with_reducible exact H2_) | with_reducible exact H | (rw [hy255]; exact H) | exact H
          have Ny255 := Aside0.mk hy255
          clear hy255
          have H' := Aside0.mk H
          clear H
          have hnb23 := NB250_248.out
          have hnc23 := NB248_250.out
          have hcz24_0 : wr.cell? ⟨gb250, 0, none⟩ = some (.bool false) := (blk_cell BK250.out 0).trans rfl
          have hcz24_1 : wr.cell? ⟨gb250, 1, none⟩ = some (.slice A249_3 ((rd_T55 l0_0 a1).f2.f1).length c249_3) := (blk_cell BK250.out 1).trans rfl
          have hfz24_0 := blk_frozen BK250.out 0
          have hfz24_1 := blk_frozen BK250.out 1
          try go_wp2
          have n0_ := Aside0.mk (Kd.R_drew HO_6.out)
          have n1_ := Aside0.mk (Kd.V_drew HO_249000.out)
          have n2_ := Aside0.mk (blk_drew BK248.out)
          have n3_ := Aside0.mk (blk_drew BK250.out)
          have n4_ := Aside0.mk (below_drew1 HB.out)
          clear HO_6
          clear HO_249000
          clear BK248
          clear BK250
          clear HB
          have HO_6 := n0_
          have HO_249000 := n1_
          have BK248 := n2_
          have BK250 := n3_
          have HB := n4_
          clear n0_ n1_ n2_ n3_ n4_
          have p251 : 0 ≤ (x7_1 : Int) := of_decide_eq_true (by first | (with_reducible assumption) | assumption)
          have q251 : x7_1 < (((rd_T55 l0_0 a1).f2.f1).length : Int) := of_decide_eq_true (by first | (with_reducible assumption) | assumption)
          obtain ⟨ad251, e251, hx251_0, hx251_1⟩ := at_T49 HRW249.out x7_1 p251 q251
          have hw251_1 := hx251_1
          have hw251_0 := hx251_0
          cases e251
          replace hx251_0 := (HB.out.cell (World.block_lt_of_cell? w _ hx251_0)).trans hx251_0
          replace hx251_1 := (HB.out.cell (World.block_lt_of_cell? w _ hx251_1)).trans hx251_1
          replace p251 := eq_true p251
          replace q251 := eq_true q251
          refine start_ (n := 11) (S := fun w' => w'.cell? ⟨gb248, 0, none⟩ = some (.slice (some ad249) l0_0.length c0_0) ∧ w'.cell? ⟨gb248, 1, none⟩ = some (.int .i64 a0_1) ∧ w'.cell? ⟨gb250, 0, none⟩ = some (.bool false) ∧ w'.cell? ⟨gb250, 1, none⟩ = some (.slice (some ad251) ((rd_T55 l0_0 a1).f2.f1).length c249_3) ∧ w'.cell? (ad251.add ((x7_1).toNat * 2)) = some (.int .i64 ((rd_T49 ((rd_T55 l0_0 a1).f2.f1) x7_1).f0)) ∧ w'.cell? ⟨(ad251.add ((x7_1).toNat * 2)).block, (ad251.add ((x7_1).toNat * 2)).off + 1, none⟩ = some (.int .i64 ((rd_T49 ((rd_T55 l0_0 a1).f2.f1) x7_1).f1))) (ds := []) #[false, false, false, false, false, false, false, false, false, false, false] (by kernel_rfl) rfl rfl ⟨(blk_cell BK248.out 0).trans rfl, (blk_cell BK248.out 1).trans rfl, (blk_cell BK250.out 0).trans rfl, (blk_cell BK250.out 1).trans rfl, ((HB.out.cell (World.block_lt_of_cell? w _ hw251_0)).trans hw251_0), ((HB.out.cell (World.block_lt_of_cell? w _ hw251_1)).trans hw251_1)⟩ (fun hHeld => ?_); refine with_tabW assartref07_List.tab10 assartref07_List.bits10 (fun HT_ HW_ => ?_)
          generalize wr.drew = w25 at HO_6 HO_249000 BK248 BK250 HB hx251_0 hx251_1 hHeld ⊢
          refine pure_ (i := 0) (N := some 27) (v := ?_) (a' := ?_) #[true, false, false, false, false, false, false, false, false, false, false] rfl rfl (any_of HT_.out (by kernel_rfl)) (fun _ _ _ h => h) (Or.inl ⟨by rfl, ?_⟩) ?_ ?_
          rotate_left
          ·intro w'
           go_simp
           with_reducible rfl
          rotate_left
          ·simp only [Act.put, List.setIfInBounds_toArray, List.set_cons_zero, List.set_cons_succ, i64_w, i32_w]
           rfl
          refine pure_ (i := 2) (N := some 29) (v := ?_) (a' := ?_) #[true, false, true, false, false, false, false, false, false, false, false] rfl rfl (any_of HT_.out (by kernel_rfl)) (fun _ _ _ h => h) (Or.inl ⟨by rfl, ?_⟩) ?_ ?_
          rotate_left
          ·intro w'
           go_simp
           with_reducible rfl
          rotate_left
          ·simp only [Act.put, List.setIfInBounds_toArray, List.set_cons_zero, List.set_cons_succ, i64_w, i32_w]
           rfl
          refine pure_ (i := 4) (N := some 31) (v := ?_) (a' := ?_) #[true, false, true, false, true, false, false, false, false, false, false] rfl rfl (any_of HT_.out (by kernel_rfl)) (fun _ _ _ h => h) (Or.inl ⟨by rfl, ?_⟩) ?_ ?_
          rotate_left
          ·intro w'
           go_simp
           with_reducible rfl
          rotate_left
          ·simp only [Act.put, List.setIfInBounds_toArray, List.set_cons_zero, List.set_cons_succ, i64_w, i32_w]
           rfl
          refine take_ (i := 1) (N := some 28) (v := ?_) (a' := ?_) #[true, true, true, false, true, false, false, false, false, false, false] rfl rfl (take_ofW HT_.out HW_.out (by kernel_rfl)) (fun _ _ _ h => h) (Or.inl ⟨by rfl, ?_⟩) hHeld ?_ ?_
          rotate_left
          ·rintro w' ⟨s0, s1, s2, s3, s4, s5⟩
           go_simp
           with_reducible rfl
          rotate_left
          ·simp only [Act.put, List.setIfInBounds_toArray, List.set_cons_zero, List.set_cons_succ, i64_w, i32_w]
           rfl
          refine take_ (i := 3) (N := some 30) (v := ?_) (a' := ?_) #[true, true, true, true, true, false, false, false, false, false, false] rfl rfl (take_ofW HT_.out HW_.out (by kernel_rfl)) (fun _ _ _ h => h) (Or.inl ⟨by rfl, ?_⟩) hHeld ?_ ?_
          rotate_left
          ·rintro w' ⟨s0, s1, s2, s3, s4, s5⟩
           go_simp
           with_reducible rfl
          rotate_left
          ·simp only [Act.put, List.setIfInBounds_toArray, List.set_cons_zero, List.set_cons_succ, i64_w, i32_w]
           rfl
          refine pure_ (i := 5) (N := some 32) (v := ?_) (a' := ?_) #[true, true, true, true, true, true, false, false, false, false, false] rfl rfl (any_of HT_.out (by kernel_rfl)) (fun _ _ _ h => h) (Or.inl ⟨by rfl, ?_⟩) ?_ ?_
          rotate_left
          ·intro w'
           go_simp
           with_reducible rfl
          rotate_left
          ·simp only [Act.put, List.setIfInBounds_toArray, List.set_cons_zero, List.set_cons_succ, i64_w, i32_w]
           rfl
          refine pure_ (i := 6) (N := some 33) (v := ?_) (a' := ?_) #[true, true, true, true, true, true, true, false, false, false, false] rfl rfl (any_of HT_.out (by kernel_rfl)) (fun _ _ _ h => h) (Or.inl ⟨by rfl, ?_⟩) ?_ ?_
          rotate_left
          ·intro w'
           go_simp
           with_reducible rfl
          rotate_left
          ·simp only [Act.put, List.setIfInBounds_toArray, List.set_cons_zero, List.set_cons_succ, i64_w, i32_w]
           rfl
          refine take_ (i := 7) (N := some 34) (v := ?_) (a' := ?_) #[true, true, true, true, true, true, true, true, false, false, false] rfl rfl (take_ofW HT_.out HW_.out (by kernel_rfl)) (fun _ _ _ h => h) (Or.inl ⟨by rfl, ?_⟩) hHeld ?_ ?_
          rotate_left
          ·rintro w' ⟨s0, s1, s2, s3, s4, s5⟩
           go_simp
           with_reducible rfl
          rotate_left
          ·simp only [Act.put, List.setIfInBounds_toArray, List.set_cons_zero, List.set_cons_succ, i64_w, i32_w]
           rfl
          refine one_ (i := 8) (N := some 35) #[true, true, true, true, true, true, true, true, true, false, false] rfl rfl (one_of HT_.out (by kernel_rfl)) (by decide) (fun K hK => ?_)
          refine goes_ Try.func60 (by kernel_rfl) rfl #[.agg #[.slice (some ad249) l0_0.length c0_0, .int .i64 a0_1], .int .i64 ((rd_T49 ((rd_T55 l0_0 a1).f2.f1) x7_1).f1)] (by rfl) rfl rfl (by (try simp only [List.map_toArray, List.map_cons, List.map_nil]); first | done | rfl | (simp only [List.length_drop, List.length_take]; rfl)) ?_
          with_reducible refine (ih k1 (by have := HK1.out; omega) (fun k_ => ((P0_0_ k_ ∨ w.heap.size ≤ k_) ∧ (some k_ ≠ (u6 : Value).ownBlock ∧ (k_ ≠ gb248 ∧ k_ ≠ gb250)))) _ _ l0_0 a0_1 ((rd_T49 ((rd_T55 l0_0 a1).f2.f1) x7_1).f1) t252 _ ?side1 A21.out).mono ?_
          (case side1 => exact HO_249000.out)
          rintro e w26 ⟨v253, rfl, ho0, hb⟩
          refine ⟨_, rfl, ?_⟩
          have n0_ := Aside0.mk (Kd.R_below (by (with_reducible repeat (first | apply Kd.R_alloc | apply Kd.R_drewN | apply Kd.R_drew)); exact HO_6.out) hb)
          have n1_ := Aside0.mk (Kd.V_below (by (with_reducible repeat (first | apply Kd.V_alloc | apply Kd.V_drewN | apply Kd.V_drew)); exact HO_249000.out) hb)
          have n2_ := Aside0.mk (Kd.V_lower (Kd.V_mono (ok' := fun k_ => (P0_0_ k_ ∨ w.heap.size ≤ k_) ∧ some k_ ≠ (u6 : Value).ownBlock ∧ k_ ≠ gb248 ∧ k_ ≠ gb250) ho0 (fun k_ hk_ => ⟨Or.elim hk_ (fun hs_ => hs_.1) (fun hn_ => (.inr (Nat.le_trans (below_size (by repeat (first | (with_reducible first | exact HB.out | apply below_alloc | apply pw_below_drewN | apply below_drew1 | refine below_set ?_ GE248.out | refine below_set ?_ GE250.out) | exact HB.out))) hn_))), Or.elim hk_ (fun hs_ => hs_.2.1) (fun hn_ => (Kd.fresh' (Kd.R_lt (by (with_reducible repeat (first | apply Kd.R_alloc | apply Kd.R_drewN | apply Kd.R_drew)); exact HO_6.out)) k_ hn_)), Or.elim hk_ (fun hs_ => hs_.2.2.1) (fun hn_ => (Kd.freshB (g := gb248) (o := .cells #[.slice (some ad249) l0_0.length c0_0, .int .i64 a0_1] 24 (0, 0)) (by (with_reducible repeat (first | refine blk_drewN ?_ _ | refine blk_drew ?_ | refine blk_alloc ?_ _)); exact BK248.out) k_ hn_)), Or.elim hk_ (fun hs_ => hs_.2.2.2) (fun hn_ => (Kd.freshB (g := gb250) (o := .cells #[.bool false, .slice (some ad251) ((rd_T55 l0_0 a1).f2.f1).length c249_3] 53 (0, 0)) (by (with_reducible repeat (first | refine blk_drewN ?_ _ | refine blk_drew ?_ | refine blk_alloc ?_ _)); exact BK250.out) k_ hn_))⟩)) (below_size (by repeat (first | (with_reducible first | exact HB.out | apply below_alloc | apply pw_below_drewN | apply below_drew1 | refine below_set ?_ GE248.out | refine below_set ?_ GE250.out) | exact HB.out))))
          have n3_ := Aside0.mk (blk_below (g := gb248) (o := .cells #[.slice (some ad249) l0_0.length c0_0, .int .i64 a0_1] 24 (0, 0)) (by (with_reducible repeat (first | refine blk_drewN ?_ _ | refine blk_drew ?_ | refine blk_alloc ?_ _)); exact BK248.out) hb)
          have n4_ := Aside0.mk (blk_below (g := gb250) (o := .cells #[.bool false, .slice (some ad251) ((rd_T55 l0_0 a1).f2.f1).length c249_3] 53 (0, 0)) (by (with_reducible repeat (first | refine blk_drewN ?_ _ | refine blk_drew ?_ | refine blk_alloc ?_ _)); exact BK250.out) hb)
          have n5_ := Aside0.mk (below_step (by repeat (first | (with_reducible first | exact HB.out | apply below_alloc | apply pw_below_drewN | apply below_drew1 | refine below_set ?_ GE248.out | refine below_set ?_ GE250.out) | exact HB.out)) hb)
          clear HO_6
          clear HO_249000
          clear BK248
          clear BK250
          clear HB
          have HO_6 := n0_
          have HO_249000 := n1_
          have HO254 := n2_
          have BK248 := n3_
          have BK250 := n4_
          have HB := n5_
          clear n0_ n1_ n2_ n3_ n4_ n5_
          (try clear hb)
          (try clear hb2)
          (try clear hk)
          (try clear hi)
          (try clear ho0)
          obtain ⟨Ao28, co28, eo28⟩ := Kd.V_slice HO254.out
          (first | subst eo28 | (injection eo28 with f1_ f2_ f3_; have f4_ := f1_.symm; have f5_ := f3_.symm; clear f1_ f2_ f3_; subst f4_; subst f5_))
          refine hK.out _ _ ⟨(blk_cell BK248.out 0).trans rfl, (blk_cell BK248.out 1).trans rfl, (blk_cell BK250.out 0).trans rfl, (blk_cell BK250.out 1).trans rfl, ((HB.out.cell (World.block_lt_of_cell? w _ hw251_0)).trans hw251_0), ((HB.out.cell (World.block_lt_of_cell? w _ hw251_1)).trans hw251_1)⟩ (fun hHeld => ?_)
          clear hK K
          refine norm_ (a' := ?_) ?_ ?_
          rotate_left
          ·show Act.put _ (some 35) _ = _
           simp only [Act.put, List.setIfInBounds_toArray, List.set_cons_zero, List.set_cons_succ, i64_w, i32_w]
           rfl
          refine one_ (i := 9) (N := some 36) #[true, true, true, true, true, true, true, true, true, true, false] rfl rfl (one_of HT_.out (by kernel_rfl)) (by decide) (fun K hK => ?_)
          refine Kd.R_append_rows_step k49 (w0 := w) w.heap.size (by rfl) (.tmp 27) (.tmp 35) 43 49 (.agg #[(.int .i64 0), (.int .i64 0)]) 16 rfl Try.underlying43 info49 rfl (by decide) (by omega) u6 x6_1 t252 _ _ _ (fun k_ => (w.heap.size ≤ k_)) (fun _ => False) rfl rfl ?aO ?aR (fun _ _ h => h) (fun _ h => h.elim) ?aF ?aB ?aS ?aL ?_
          (case aR => repeat (first | exact (Kd.V_reads' HO254.out).2.2 | (with_reducible refine Kd.C_alloc ?_ _) | (with_reducible refine Kd.C_drewN ?_ _) | (with_reducible refine Kd.C_drew ?_)))
          (case aB => exact (by repeat (first | (with_reducible first | exact HB.out | apply below_alloc | apply pw_below_drewN | apply below_drew1 | refine below_set ?_ GE248.out | refine below_set ?_ GE250.out) | exact HB.out)))
          (case aF => exact (fun k_ hk => (Nat.le_trans (below_size (by repeat (first | (with_reducible first | exact HB.out | apply below_alloc | apply pw_below_drewN | apply below_drew1 | refine below_set ?_ GE248.out | refine below_set ?_ GE250.out) | exact HB.out))) hk)))
          (case aO => exact (by (with_reducible repeat (first | apply Kd.R_alloc | apply Kd.R_drewN | apply Kd.R_drew)); exact HO_6.out))
          (case aS => exact (below_size (by repeat (first | (with_reducible first | exact HB.out | apply below_alloc | apply pw_below_drewN | apply below_drew1 | refine below_set ?_ GE248.out | refine below_set ?_ GE250.out) | exact HB.out))))
          (case aL => have := LMc22.out; omega)
          intro v256 w27 ho hb hg hat
          rw [← Ny255.out] at ho
          have n0_ := Aside0.mk (Kd.V_afterv (ok := (fun k_ => (P0_0_ k_ ∨ w.heap.size ≤ k_) ∧ k_ ≠ gb248 ∧ k_ ≠ gb250)) (by (with_reducible repeat (first | apply Kd.V_alloc | apply Kd.V_drewN | apply Kd.V_drew)); exact Kd.V_mono HO_249000.out (fun _ hk => ⟨⟨hk.1, ⟨hk.2.2.1, hk.2.2.2⟩⟩, hk.2.1⟩)) hg hat)
          have n1_ := Aside0.mk (blk_grown (g := gb248) (o := .cells #[.slice (some ad249) l0_0.length c0_0, .int .i64 a0_1] 24 (0, 0)) (by (with_reducible repeat (first | refine blk_drewN ?_ _ | refine blk_drew ?_ | refine blk_alloc ?_ _)); exact BK248.out) hg (Kd.R_ne HO_6.out BK248.out (by decide)))
          have n2_ := Aside0.mk (blk_grown (g := gb250) (o := .cells #[.bool false, .slice (some ad251) ((rd_T55 l0_0 a1).f2.f1).length c249_3] 53 (0, 0)) (by (with_reducible repeat (first | refine blk_drewN ?_ _ | refine blk_drew ?_ | refine blk_alloc ?_ _)); exact BK250.out) hg (Kd.R_ne HO_6.out BK250.out (by decide)))
          have n3_ := Aside0.mk (Kd.V_afterv (ok := (fun k_ => (P0_0_ k_ ∨ w.heap.size ≤ k_) ∧ k_ ≠ gb248 ∧ k_ ≠ gb250)) (by (with_reducible repeat (first | apply Kd.V_alloc | apply Kd.V_drewN | apply Kd.V_drew)); exact Kd.V_mono HO254.out (fun _ hk => ⟨⟨hk.1, ⟨hk.2.2.1, hk.2.2.2⟩⟩, hk.2.1⟩)) hg hat)
          have n4_ := Aside0.mk (hb)
          have n5_ := Aside0.mk (ho)
          clear HO_249000
          clear BK248
          clear BK250
          clear HO254
          clear HB
          clear HO_6
          have HO_249000 := n0_
          have BK248 := n1_
          have BK250 := n2_
          have HO254 := n3_
          have HB := n4_
          have HO257 := n5_
          clear n0_ n1_ n2_ n3_ n4_ n5_
          clear ho hb hg hat
          refine hK.out _ _ ⟨(blk_cell BK248.out 0).trans rfl, (blk_cell BK248.out 1).trans rfl, (blk_cell BK250.out 0).trans rfl, (blk_cell BK250.out 1).trans rfl, ((HB.out.cell (World.block_lt_of_cell? w _ hw251_0)).trans hw251_0), ((HB.out.cell (World.block_lt_of_cell? w _ hw251_1)).trans hw251_1)⟩ (fun hHeld => ?_)
          clear hK K
          refine norm_ (a' := ?_) ?_ ?_
          rotate_left
          ·show Act.put _ (some 36) _ = _
           simp only [Act.put, List.setIfInBounds_toArray, List.set_cons_zero, List.set_cons_succ, i64_w, i32_w]
           rfl
          refine pure_ (i := 10) (N := some 6) (v := ?_) (a' := ?_) #[true, true, true, true, true, true, true, true, true, true, true] rfl rfl (any_of HT_.out (by kernel_rfl)) (fun _ _ _ h => h) (Or.inl ⟨by rfl, ?_⟩) ?_ ?_
          rotate_left
          ·intro w'
           go_simp
           with_reducible rfl
          rotate_left
          ·simp only [Act.put, List.setIfInBounds_toArray, List.set_cons_zero, List.set_cons_succ, i64_w, i32_w]
           rfl
          refine done_ (done_of HT_.out (by kernel_rfl)) ?_
          try go_wp2
          go_roundg k1
          case measure => have := HK1.out; omega
          case rel => exact ⟨(y255), (wrap64 (x7_1 + 1)), (by first | rfl | (simp; done) | (simp [*]; done)), H', ⟨by have := HK1.out; omega⟩, ⟨by (with_reducible repeat (first | apply Kd.R_alloc | apply Kd.R_drewN | apply Kd.R_drew)); exact HO257.out⟩, ⟨by (with_reducible repeat (first | apply Kd.V_alloc | apply Kd.V_drewN | apply Kd.V_drew)); exact Kd.V_mono HO_249000.out (fun _ hk => ⟨hk.1.1, ⟨hk.2, ⟨hk.1.2.1, hk.1.2.2⟩⟩⟩)⟩, ⟨by (with_reducible repeat (first | refine blk_drewN ?_ _ | refine blk_drew ?_ | refine blk_alloc ?_ _)); exact BK248.out⟩, ⟨by (with_reducible repeat (first | refine blk_drewN ?_ _ | refine blk_drew ?_ | refine blk_alloc ?_ _)); exact BK250.out⟩, ⟨by repeat (first | (with_reducible first | exact HB.out | apply below_alloc | apply pw_below_drewN | apply below_drew1 | refine below_set ?_ GE248.out | refine below_set ?_ GE250.out) | exact HB.out)⟩⟩
         ·rw [if_neg c22] at H
          exact absurd H (by simp)
        ·rw [if_neg c20] at H
         exact absurd H (by simp)
       ·rw [if_neg c19] at H
        have c19b0 : decide (x7_1 < (((rd_T55 l0_0 a1).f2.f1).length : Int)) = false := decide_eq_false c19
        clear c19
        obtain rfl := Option.some.inj H
        have hnb29 := NB250_248.out
        have hnc29 := NB248_250.out
        have hcz30_0 : wr.cell? ⟨gb250, 0, none⟩ = some (.bool false) := (blk_cell BK250.out 0).trans rfl
        have hcz30_1 : wr.cell? ⟨gb250, 1, none⟩ = some (.slice A249_3 ((rd_T55 l0_0 a1).f2.f1).length c249_3) := (blk_cell BK250.out 1).trans rfl
        have hfz30_0 := blk_frozen BK250.out 0
        have hfz30_1 := blk_frozen BK250.out 1
        go_wp2
        go_ret
        exact ⟨_, by first | rfl | (simp [errW_none, errW_some] <;> rfl) | (simp [*, errW_none, errW_some] <;> rfl), Kd.V_mono (Kd.R_V (by (with_reducible repeat (first | apply Kd.R_alloc | apply Kd.R_drewN | apply Kd.R_drew)); exact HO_6.out)) (fun k_ hk => by first | exact ⟨(.inr (hk.1)), hk.2⟩ | exact (.inr (hk))), by repeat (first | (with_reducible first | exact HB.out | apply below_alloc | apply pw_below_drewN | apply below_drew1 | refine below_set ?_ GE248.out | refine below_set ?_ GE250.out) | exact HB.out)⟩
   ·rw [if_neg c6] at H
    exact absurd H (by simp)
  ·rw [if_neg c5] at H
   exact absurd H (by simp)
end Go.Proofs.Yteiladccdenpbaa.P
end
section
namespace Go.Proofs.Yteiladccdenpbaa.P
open Go.RowKit Go.Proofs.YteiladccdenpbaaW.PrintWords Go.Proofs.YteiladccdenpbaaW.PrintLast Go.Proofs.YteiladccdenpbaaW.PrintMore
attribute [local go_sem] max2_int min2_int max_two min_two max_three min_three max_four min_four
set_option linter.unusedVariables false
set_option linter.unusedSimpArgs false
def assartref07_Get.l0 : Nat → Int → List (S49) → Int → Option (Int × Int)
 | 0, _, _, _ => none
 | k + 1, x2, x8, x9 => if x9 < (x8.length : Int) then (if 0 ≤ x9 then (if ((rd_T49 x8 x9).f0) = x2 then (some ((rd_T49 x8 x9).f1, 0)) else (assartref07_Get.l0 k x2 x8 (wrap64 (x9 + 1)))) else (none)) else (some (0, 4))
def assartref07_Get.f (k : Nat) (l0_0 : List (S55)) (a0_1 : Int) (a1 : Int) (a2 : Int) : Option (Int × Int) := (assartref07_List.f k l0_0 a0_1 a1).bind fun t259 => (assartref07_Get.l0 k a2 t259 0)
set_option maxHeartbeats 8000000 in
set_option maxRecDepth 100000 in
theorem assartref07_Get.calls (k : Nat) (A0_0 : Option Addr) (c0_0 : Nat) (l0_0 : List (S55)) (a0_1 : Int) (a1 : Int) (a2 : Int) (r1 : Int) (r2 : Int) (w : World) (hr0_0 : Kd.C k55 w A0_0 l0_0.length l0_0) (hc0_0 : l0_0.length ≤ c0_0) (h : assartref07_Get.f k l0_0 a0_1 a1 a2 = some (r1, r2)) :
  Calls Try.prog 28 #[.agg #[.slice A0_0 l0_0.length c0_0, .int .i64 a0_1], .int .i64 a1, .int .i64 a2] w fun e w' => e = .returned (.tuple #[.int .i64 r1, .int .i64 r2]) ∧ Below w.heap.size w w' := by
 have hu24 := Try.underlying24
 have HR0_0 := Aside0.mk hr0_0
 have HC0_0 := Aside0.mk hc0_0
 clear hr0_0 hc0_0
 have HB := Aside0.mk (Below.refl w.heap.size w)
 have H : ((assartref07_List.f k l0_0 a0_1 a1).bind fun t259 => (assartref07_Get.l0 k a2 t259 0)) = some (r1, r2) := h
 clear h
 replace H := Option.bind_eq_some_iff.mp H
 obtain ⟨t259, A40, H⟩ := H
 replace H : (assartref07_Get.l0 k a2 t259 0) = some (r1, r2) := H
 have A4 := Aside0.mk A40
 clear A40
 have H' := Aside0.mk H
 clear H
 go_enter Try.func28, Try.ntmps28
 go_wp2_with (first | ((with_reducible refine gate_dst (N := 3) rfl ?_); refine box_event ?hg (N := 3) ?hd (cs := #[.slice A0_0 l0_0.length c0_0, .int .i64 a0_1]) (t := 24) ?hr ?_; (case hd => rfl); (case hg => rfl); (case hr => first | (go_simp; done) | (go_simp; rfl)); intro gb258 hg w5 hbox hb; have n0_ := Aside0.mk (below_step (by repeat (first | (with_reducible first | exact HB.out | apply below_alloc | apply pw_below_drewN | apply below_drew1) | exact HB.out)) hb); have n1_ := Aside0.mk (hbox); have n2_ := Aside0.mk ((by rw [hg]; exact (below_size (by repeat (first | (with_reducible first | exact HB.out | apply below_alloc | apply pw_below_drewN | apply below_drew1) | exact HB.out))) : w.heap.size ≤ gb258)); have n3_ := Aside0.mk ((by rw [hg]; exact (below_size (by repeat (first | (with_reducible first | exact HB.out | apply below_alloc | apply pw_below_drewN | apply below_drew1) | exact HB.out))) : w.heap.size ≤ gb258)); clear HB; have HB := n0_; have BK258 := n1_; have GW258 := n2_; have GE258 := n3_; clear n0_ n1_ n2_ n3_; clear hb hbox hg; have hcz6_0 : w5.cell? ⟨gb258, 0, none⟩ = some (.slice A0_0 l0_0.length c0_0) := (blk_cell BK258.out 0).trans rfl; have hcz6_1 : w5.cell? ⟨gb258, 1, none⟩ = some (.int .i64 a0_1) := (blk_cell BK258.out 1).trans rfl; have hfz6_0 := blk_frozen BK258.out 0; have hfz6_1 := blk_frozen BK258.out 1) | ((with_reducible refine gate_callee (f := 60) rfl ?_); refine goesL_ (some 12) rfl rfl Try.func60 (by kernel_rfl) rfl #[.agg #[.slice A0_0 l0_0.length c0_0, .int .i64 a0_1], .int .i64 a1] rfl (by (try simp only [List.map_toArray, List.map_cons, List.map_nil]); first | done | rfl | (simp only [List.length_drop, List.length_take]; rfl)) ?_; (with_reducible refine (assartref07_List.calls k (fun k_ => k_ < w.heap.size) _ _ l0_0 a0_1 a1 t259 _ ?side1 A4.out).mono ?_); (case side1 => exact Kd.V_mk HC0_0.out (Kd.F_below (Kd.C_F k55_heap HR0_0.out) (by repeat (first | (with_reducible first | exact HB.out | apply below_alloc | apply pw_below_drewN | apply below_drew1 | refine below_set ?_ GE258.out) | exact HB.out)))); rintro e w7 ⟨v260, rfl, ho0, hb⟩; refine ⟨_, rfl, ?_⟩; have n0_ := Aside0.mk (Kd.V_lower (Kd.V_mono (ok' := fun k_ => k_ ≠ gb258) ho0 (fun k_ hk_ => Or.elim hk_ (fun hs_ => fun e_ => Nat.not_le.2 hs_ (by rw [e_]; exact GW258.out)) (fun hn_ => (Kd.freshB (g := gb258) (o := .cells #[.slice A0_0 l0_0.length c0_0, .int .i64 a0_1] 24 (0, 0)) (by (with_reducible repeat (first | refine blk_drewN ?_ _ | refine blk_drew ?_ | refine blk_alloc ?_ _)); exact BK258.out) k_ hn_)))) (below_size (by repeat (first | (with_reducible first | exact HB.out | apply below_alloc | apply pw_below_drewN | apply below_drew1 | refine below_set ?_ GE258.out) | exact HB.out)))); have n1_ := Aside0.mk (blk_below (g := gb258) (o := .cells #[.slice A0_0 l0_0.length c0_0, .int .i64 a0_1] 24 (0, 0)) (by (with_reducible repeat (first | refine blk_drewN ?_ _ | refine blk_drew ?_ | refine blk_alloc ?_ _)); exact BK258.out) hb); have n2_ := Aside0.mk (below_step (by repeat (first | (with_reducible first | exact HB.out | apply below_alloc | apply pw_below_drewN | apply below_drew1 | refine below_set ?_ GE258.out) | exact HB.out)) hb); clear BK258; clear HB; have HO261 := n0_; have BK258 := n1_; have HB := n2_; clear n0_ n1_ n2_; (try clear hb); (try clear hb2); (try clear hk); (try clear hi); (try clear ho0)))
 go_loopg [9] k (fun kq v9 w' => ∃ (x9_1 : Int), v9 = .int .i64 x9_1 ∧ Aside0 (assartref07_Get.l0 kq a2 t259 x9_1 = some (r1, r2)) ∧ Aside0 (kq ≤ k) ∧ Aside0 (Kd.V k49 49 w' w.heap.size (fun k_ => k_ ≠ gb258) v260 t259) ∧ Aside0 (w'.heap[gb258]? = some (.cells #[(.slice A0_0 l0_0.length c0_0), .int .i64 a0_1] 24 (0, 0))) ∧ Aside0 (Below w.heap.size w w'))
 case atStart => exact ⟨(0), (by first | rfl | (simp; done) | (simp [*]; done)), H', ⟨Nat.le_refl _⟩, ⟨by (with_reducible repeat (first | apply Kd.V_alloc | apply Kd.V_drewN | apply Kd.V_drew)); exact HO261.out⟩, ⟨by (with_reducible repeat (first | refine blk_drewN ?_ _ | refine blk_drew ?_ | refine blk_alloc ?_ _)); exact BK258.out⟩, ⟨by repeat (first | (with_reducible first | exact HB.out | apply below_alloc | apply pw_below_drewN | apply below_drew1 | refine below_set ?_ GE258.out) | exact HB.out)⟩⟩
 case round =>
  clear H'
  try clear c2
  try clear p2
  try clear c6
  try clear hcz6_0
  try clear hcz6_1
  try clear hfz6_0
  try clear hfz6_1
  obtain ⟨x9_1, rfl, HA, HK1, HO_8, BK258, HB⟩ := hrel
  cases gk with
  | zero => exact absurd HA.out (by simp [assartref07_Get.l0])
  | succ k1 =>
   have H := HA.out
   clear HA
   simp only [assartref07_Get.l0] at H
   by_cases c8 : x9_1 < (t259.length : Int)
   ·rw [if_pos c8] at H
    have c8b0 : decide (x9_1 < (t259.length : Int)) = true := decide_eq_true c8
    clear c8
    by_cases c9 : 0 ≤ x9_1
    ·rw [if_pos c9] at H
     have c9b0 : decide (0 ≤ x9_1) = true := decide_eq_true c9
     clear c9
     by_cases c10 : ((rd_T49 t259 x9_1).f0) = a2
     ·rw [if_pos c10] at H
      have c10b0 : (((rd_T49 t259 x9_1).f0) == a2) = true := beq_iff_eq.mpr c10
      have c10b1 : (((rd_T49 t259 x9_1).f0) != a2) = false := bne_eq_false_iff_eq.mpr c10
      clear c10
      simp only [Option.some.injEq, Prod.mk.injEq] at H
      obtain ⟨rfl, rfl⟩ := H
      obtain ⟨Ao11, co11, eo11⟩ := Kd.V_slice HO_8.out
      subst eo11
      have p262 : 0 ≤ (x9_1 : Int) := of_decide_eq_true (by first | (with_reducible assumption) | assumption)
      have q262 : x9_1 < (t259.length : Int) := of_decide_eq_true (by first | (with_reducible assumption) | assumption)
      obtain ⟨ad262, e262, hx262_0, hx262_1⟩ := at_T49 (Kd.V_reads' HO_8.out).2.2 x9_1 p262 q262
      cases e262
      replace p262 := eq_true p262
      replace q262 := eq_true q262
      have p263 : 0 ≤ (x9_1 : Int) := of_decide_eq_true (by first | (with_reducible assumption) | assumption)
      have q263 : x9_1 < (t259.length : Int) := of_decide_eq_true (by first | (with_reducible assumption) | assumption)
      obtain ⟨ad263, e263, hx263_0, hx263_1⟩ := at_T49 (Kd.V_reads' HO_8.out).2.2 x9_1 p263 q263
      obtain rfl : ad262 = ad263 := (by injection e263)
      replace p263 := eq_true p263
      replace q263 := eq_true q263
      go_wp2
      go_ret2
      exact ⟨by first | rfl | (simp [errW_none, errW_some] <;> rfl) | (simp [*, errW_none, errW_some] <;> rfl), by repeat (first | (with_reducible first | exact HB.out | apply below_alloc | apply pw_below_drewN | apply below_drew1 | refine below_set ?_ GE258.out) | exact HB.out)⟩
     ·rw [if_neg c10] at H
      have c10b0 : (((rd_T49 t259 x9_1).f0) == a2) = false := beq_eq_false_iff_ne.mpr c10
      have c10b1 : (((rd_T49 t259 x9_1).f0) != a2) = true := bne_iff_ne.mpr c10
      have H' := Aside0.mk H
      clear H
      obtain ⟨Ao12, co12, eo12⟩ := Kd.V_slice HO_8.out
      subst eo12
      have p262 : 0 ≤ (x9_1 : Int) := of_decide_eq_true (by first | (with_reducible assumption) | assumption)
      have q262 : x9_1 < (t259.length : Int) := of_decide_eq_true (by first | (with_reducible assumption) | assumption)
      obtain ⟨ad262, e262, hx262_0, hx262_1⟩ := at_T49 (Kd.V_reads' HO_8.out).2.2 x9_1 p262 q262
      cases e262
      replace p262 := eq_true p262
      replace q262 := eq_true q262
      go_wp2
      go_roundg k1
      case measure => have := HK1.out; omega
      case rel => exact ⟨(wrap64 (x9_1 + 1)), (by first | rfl | (simp; done) | (simp [*]; done)), H', ⟨by have := HK1.out; omega⟩, ⟨by (with_reducible repeat (first | apply Kd.V_alloc | apply Kd.V_drewN | apply Kd.V_drew)); exact HO_8.out⟩, ⟨by (with_reducible repeat (first | refine blk_drewN ?_ _ | refine blk_drew ?_ | refine blk_alloc ?_ _)); exact BK258.out⟩, ⟨by repeat (first | (with_reducible first | exact HB.out | apply below_alloc | apply pw_below_drewN | apply below_drew1 | refine below_set ?_ GE258.out) | exact HB.out)⟩⟩
    ·rw [if_neg c9] at H
     exact absurd H (by simp)
   ·rw [if_neg c8] at H
    have c8b0 : decide (x9_1 < (t259.length : Int)) = false := decide_eq_false c8
    clear c8
    simp only [Option.some.injEq, Prod.mk.injEq] at H
    obtain ⟨rfl, rfl⟩ := H
    obtain ⟨Ao13, co13, eo13⟩ := Kd.V_slice HO_8.out
    subst eo13
    go_wp2
    go_ret2
    exact ⟨by first | rfl | (simp [errW_none, errW_some] <;> rfl) | (simp [*, errW_none, errW_some] <;> rfl), by repeat (first | (with_reducible first | exact HB.out | apply below_alloc | apply pw_below_drewN | apply below_drew1 | refine below_set ?_ GE258.out) | exact HB.out)⟩
end Go.Proofs.Yteiladccdenpbaa.P
end
section
namespace Go.Proofs.Yteiladccdenpbaa.P
open Go.RowKit Go.Proofs.YteiladccdenpbaaW.PrintWords Go.Proofs.YteiladccdenpbaaW.PrintLast Go.Proofs.YteiladccdenpbaaW.PrintMore
attribute [local go_sem] max2_int min2_int max_two min_two max_three min_three max_four min_four
set_option linter.unusedVariables false
set_option linter.unusedSimpArgs false
theorem eqA49 (d : Nat) (w : World) (x0 y0 : Int) (x1 y1 : Int) :
  (Op.equalIn (d + 2) 49 (.agg #[.int .i64 x0, .int .i64 x1]) (.agg #[.int .i64 y0, .int .i64 y1])).run Try.prog w = .ok (x0 == y0 && (x1 == y1)) w := by
 refine eqA_of Try.underlying49 (by kernel_rfl) ?_
 refine eqf_cons (by rfl) (by go_simp; rfl) (by go_simp; rfl) (by go_simp) ?_
 exact eqf_last (by rfl) (by go_simp; rfl) (by go_simp; rfl) (by go_simp)
end Go.Proofs.Yteiladccdenpbaa.P
end
section
namespace Go.Proofs.Yteiladccdenpbaa.P
open Go.RowKit Go.Proofs.YteiladccdenpbaaW.PrintWords Go.Proofs.YteiladccdenpbaaW.PrintLast Go.Proofs.YteiladccdenpbaaW.PrintMore
attribute [local go_sem] max2_int min2_int max_two min_two max_three min_three max_four min_four
set_option linter.unusedVariables false
set_option linter.unusedSimpArgs false
attribute [local go_sem high] eqA49
def assartref04_Items.l0 : Nat → List (S49) → List (S49) → Int → Option (Bool)
 | 0, _, _, _ => none
 | k + 1, x0, x1, x5 => if x5 < (x0.length : Int) then (if 0 ≤ x5 then (if x5 < (x1.length : Int) then (if (!(((rd_T49 x0 x5).f0) == ((rd_T49 x1 x5).f0)) || (!(((rd_T49 x0 x5).f1) == ((rd_T49 x1 x5).f1)))) = true then (some false) else (assartref04_Items.l0 k x0 x1 (wrap64 (x5 + 1)))) else (none)) else (none)) else (some true)
def assartref04_Items.f (k : Nat) (l0 : List (S49)) (l1 : List (S49)) : Option (Bool) := if (l0.length : Int) = (l1.length : Int) then (assartref04_Items.l0 k l0 l1 0) else (some false)
set_option maxHeartbeats 8000000 in
set_option maxRecDepth 100000 in
theorem assartref04_Items.calls (k : Nat) (A0 : Option Addr) (c0 : Nat) (l0 : List (S49)) (A1 : Option Addr) (c1 : Nat) (l1 : List (S49)) (r : Bool) (w : World) (hr0 : Kd.C k49 w A0 l0.length l0) (hc0 : l0.length ≤ c0) (hr1 : Kd.C k49 w A1 l1.length l1) (hc1 : l1.length ≤ c1) (h : assartref04_Items.f k l0 l1 = some r) :
  Calls Try.prog 29 #[.slice A0 l0.length c0, .slice A1 l1.length c1] w fun e w' => e = .returned (.bool r) ∧ Drawn0 w w' := by
 have hu49 := Try.underlying49
 have HR0 := Aside0.mk hr0
 have HC0 := Aside0.mk hc0
 clear hr0 hc0
 have HR1 := Aside0.mk hr1
 have HC1 := Aside0.mk hc1
 clear hr1 hc1
 have H : (if (l0.length : Int) = (l1.length : Int) then (assartref04_Items.l0 k l0 l1 0) else (some false)) = some r := h
 clear h
 by_cases c3 : (l0.length : Int) = (l1.length : Int)
 ·rw [if_pos c3] at H
  have c3b0 : ((l0.length : Int) == (l1.length : Int)) = true := beq_iff_eq.mpr c3
  have c3b1 : ((l0.length : Int) != (l1.length : Int)) = false := bne_eq_false_iff_eq.mpr c3
  have c3b2 : (l0.length == l1.length) = true := by first | simpa using c3 | (simp at c3 ⊢; omega)
  clear c3
  have H' := Aside0.mk H
  clear H
  go_enter Try.func29, Try.ntmps29
  go_wp2
  repeat (go_quiet (fail); try go_wp2)
  go_loopg [5] k (fun kq v5 w' => ∃ (x5_1 : Int), v5 = .int .i64 x5_1 ∧ Aside0 (assartref04_Items.l0 kq l0 l1 x5_1 = some r) ∧ Aside0 (kq ≤ k) ∧ Drawn0 w w')
  case atStart => exact ⟨(0), (by first | rfl | (simp; done) | (simp [*]; done)), H', ⟨Nat.le_refl _⟩, by repeat (first | exact Drawn0.refl _ | apply Drawn0.step)⟩
  case round =>
   clear H'
   try clear c1
   try clear c2
   try clear p2
   try clear c3
   try clear c3b0
   try clear c3b1
   try clear c3b2
   obtain ⟨x5_1, rfl, HA, HK1, ⟨m1, rfl⟩⟩ := hrel
   cases gk with
   | zero => exact absurd HA.out (by simp [assartref04_Items.l0])
   | succ k1 =>
    have H := HA.out
    clear HA
    simp only [assartref04_Items.l0] at H
    by_cases c4 : x5_1 < (l0.length : Int)
    ·rw [if_pos c4] at H
     have c4b0 : decide (x5_1 < (l0.length : Int)) = true := decide_eq_true c4
     clear c4
     by_cases c5 : 0 ≤ x5_1
     ·rw [if_pos c5] at H
      have c5b0 : decide (0 ≤ x5_1) = true := decide_eq_true c5
      clear c5
      by_cases c6 : x5_1 < (l1.length : Int)
      ·rw [if_pos c6] at H
       have c6b0 : decide (x5_1 < (l1.length : Int)) = true := decide_eq_true c6
       clear c6
       by_cases c7 : (!(((rd_T49 l0 x5_1).f0) == ((rd_T49 l1 x5_1).f0)) || (!(((rd_T49 l0 x5_1).f1) == ((rd_T49 l1 x5_1).f1)))) = true
       ·rw [if_pos c7] at H
        have c7b0 : (!(((rd_T49 l0 x5_1).f0) == ((rd_T49 l1 x5_1).f0)) || (!(((rd_T49 l0 x5_1).f1) == ((rd_T49 l1 x5_1).f1)))) = true := c7
        clear c7
        obtain rfl := Option.some.inj H
        have p264 : 0 ≤ (x5_1 : Int) := of_decide_eq_true (by first | (with_reducible assumption) | assumption)
        have q264 : x5_1 < (l0.length : Int) := of_decide_eq_true (by first | (with_reducible assumption) | assumption)
        obtain ⟨ad264, e264, hx264_0, hx264_1⟩ := at_T49 HR0.out x5_1 p264 q264
        cases e264
        replace p264 := eq_true p264
        replace q264 := eq_true q264
        have p265 : 0 ≤ (x5_1 : Int) := of_decide_eq_true (by first | (with_reducible assumption) | assumption)
        have q265 : x5_1 < (l1.length : Int) := of_decide_eq_true (by first | (with_reducible assumption) | assumption)
        obtain ⟨ad265, e265, hx265_0, hx265_1⟩ := at_T49 HR1.out x5_1 p265 q265
        cases e265
        replace p265 := eq_true p265
        replace q265 := eq_true q265
        go_wp2
        repeat (go_quiet (fail); try go_wp2)
        go_ret
        exact ⟨by first | rfl | (simp; done) | (simp [*]; done), by repeat (first | exact Drawn0.refl _ | apply Drawn0.step)⟩
       ·rw [if_neg c7] at H
        have c7b0 : (!(((rd_T49 l0 x5_1).f0) == ((rd_T49 l1 x5_1).f0)) || (!(((rd_T49 l0 x5_1).f1) == ((rd_T49 l1 x5_1).f1)))) = false := by simpa using c7
        clear c7
        have H' := Aside0.mk H
        clear H
        have p264 : 0 ≤ (x5_1 : Int) := of_decide_eq_true (by first | (with_reducible assumption) | assumption)
        have q264 : x5_1 < (l0.length : Int) := of_decide_eq_true (by first | (with_reducible assumption) | assumption)
        obtain ⟨ad264, e264, hx264_0, hx264_1⟩ := at_T49 HR0.out x5_1 p264 q264
        cases e264
        replace p264 := eq_true p264
        replace q264 := eq_true q264
        have p265 : 0 ≤ (x5_1 : Int) := of_decide_eq_true (by first | (with_reducible assumption) | assumption)
        have q265 : x5_1 < (l1.length : Int) := of_decide_eq_true (by first | (with_reducible assumption) | assumption)
        obtain ⟨ad265, e265, hx265_0, hx265_1⟩ := at_T49 HR1.out x5_1 p265 q265
        cases e265
        replace p265 := eq_true p265
        replace q265 := eq_true q265
        go_wp2
        repeat (go_quiet (fail); try go_wp2)
        go_roundg k1
        case measure => have := HK1.out; omega
        case rel => exact ⟨(wrap64 (x5_1 + 1)), (by first | rfl | (simp; done) | (simp [*]; done)), H', ⟨by have := HK1.out; omega⟩, by repeat (first | exact Drawn0.refl _ | apply Drawn0.step)⟩
      ·rw [if_neg c6] at H
       exact absurd H (by simp)
     ·rw [if_neg c5] at H
      exact absurd H (by simp)
    ·rw [if_neg c4] at H
     have c4b0 : decide (x5_1 < (l0.length : Int)) = false := decide_eq_false c4
     clear c4
     obtain rfl := Option.some.inj H
     go_wp2
     repeat (go_quiet (fail); try go_wp2)
     go_ret
     exact ⟨by first | rfl | (simp; done) | (simp [*]; done), by repeat (first | exact Drawn0.refl _ | apply Drawn0.step)⟩
 ·rw [if_neg c3] at H
  have c3b0 : ((l0.length : Int) == (l1.length : Int)) = false := beq_eq_false_iff_ne.mpr c3
  have c3b1 : ((l0.length : Int) != (l1.length : Int)) = true := bne_iff_ne.mpr c3
  have c3b2 : (l0.length == l1.length) = false := by first | simpa using c3 | (simp at c3 ⊢; omega)
  obtain rfl := Option.some.inj H
  go_enter Try.func29, Try.ntmps29
  go_wp2
  repeat (go_quiet (fail); try go_wp2)
  go_ret
  exact ⟨by first | rfl | (simp; done) | (simp [*]; done), by repeat (first | exact Drawn0.refl _ | apply Drawn0.step)⟩
end Go.Proofs.Yteiladccdenpbaa.P
end
