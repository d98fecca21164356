/- Texts of this claim's proof put together: F57, F17, F26, E0, F29, HAt, HBelow, HItems, HScan. -/
import Derived.Below
import Derived.Deep.Draws
import Derived.Deep.AppendLies
import Derived.Maps.AppendAt
import Derived.OwnWalk
import Derived.Laws.BytesArg
import Derived.Laws.MakeOwn
import Derived.Laws.OwnMore
import Derived.Deep.OwnRows
import Derived.Tactics
import Derived.Lib.ConvBytes
import Derived.Laws.Slices
import Derived.WalkKit
import Derived.KernelRfl
import Derived.RowKit3
import Derived.Deep.LoopGhost
import Derived.Deep.QuietTactic
import Derived.BigQuiet
import Derived.WideLaws
import Derived.Deep.DeepCutAuto
import Derived.Deep.CutBlock
import Derived.Deep.RegionHeld3
import Derived.Laws.Rows
import Derived.Lib.AppendStr
import Derived.ArgAppend
import Derived.Laws.IdiomCopy
import Derived.RowKit
import Derived.OrdersHeld
import Derived.Laws.BitsLemmas
import Derived.Laws.StructEq
import Derived.Test.YteiladccdenpbaaProg
import Derived.Shelf.RegionOpenPlain
import Derived.Shelf.Abstract
import Derived.RangeFuncNested
import Derived.RangeFuncBound
import Derived.RangeFuncCalls
import Derived.RangeFuncLeaves
import Derived.Shelf.RegionOpen
import Derived.OwnWalkIn
import Derived.TacticsInMore
import Derived.LoopNIn
import Derived.LoopIn
import Derived.Laws.EntriesVeiled
import Derived.RangeFuncBox
import Derived.ChangeArms
import Derived.DataReads
import Derived.DataElems
import Derived.SizedLaws
import Derived.Test.YteiladccdenpbaaRows
import Derived.ProofKit
import Derived.OpenShut
import Derived.ShutString
import Derived.ChangeOld
import Derived.Test.YteiladccdenpbaaKTreeBelow0
import Derived.Test.YteiladccdenpbaaKTreeBelow1
namespace Foot
end Foot
namespace Go.Proofs.Yteiladccdenpbaa
end Go.Proofs.Yteiladccdenpbaa
namespace Go.Proofs.Yteiladccdenpbaa.P
end Go.Proofs.Yteiladccdenpbaa.P
namespace Go.Proofs.Yteiladccdenpbaa.Pure
end Go.Proofs.Yteiladccdenpbaa.Pure
namespace Go.Proofs.Yteiladccdenpbaa.treeBelow
end Go.Proofs.Yteiladccdenpbaa.treeBelow
namespace Go.Proofs.YteiladccdenpbaaW.PrintLast
end Go.Proofs.YteiladccdenpbaaW.PrintLast
namespace Go.Proofs.YteiladccdenpbaaW.PrintMore
end Go.Proofs.YteiladccdenpbaaW.PrintMore
namespace Go.Proofs.YteiladccdenpbaaW.PrintWords
end Go.Proofs.YteiladccdenpbaaW.PrintWords
namespace Kd
end Kd
section
namespace Go.Proofs.Yteiladccdenpbaa.P
open Go.RowKit Go.Proofs.YteiladccdenpbaaW.PrintWords Go.Proofs.YteiladccdenpbaaW.PrintLast Go.Proofs.YteiladccdenpbaaW.PrintMore
attribute [local go_sem] max2_int min2_int max_two min_two max_three min_three max_four min_four
set_option linter.unusedVariables false
set_option linter.unusedSimpArgs false
set_option maxHeartbeats 8000000 in
set_option maxRecDepth 100000 in
theorem assartref07_below.calls (k : Nat) : ∀ (A0_0 : Option Addr) (c0_0 : Nat) (l0_0 : List (S55)) (a0_1 : Int) (a1 : Int) (a2 : Int) (r1 : Int) (r2 : Int) (r3 : Int) (r4 : Bool) (w : World) (hr0_0 : Kd.C k55 w A0_0 l0_0.length l0_0) (hc0_0 : l0_0.length ≤ c0_0) (h : assartref07_below.f k l0_0 a0_1 a1 a2 = some (r1, r2, r3, r4)),
  Calls Try.prog 57 #[.agg #[.slice A0_0 l0_0.length c0_0, .int .i64 a0_1], .int .i64 a1, .int .i64 a2] w fun e w' => e = .returned (.agg #[.int .i64 r1, .int .i64 r2, .int .i64 r3, .bool r4]) ∧ Below w.heap.size w w' := by
 induction k using Nat.strongRecOn with
 | _ k ih =>
 intro A0_0 c0_0 l0_0 a0_1 a1 a2 r1 r2 r3 r4 w hr0_0 hc0_0 h
 by_cases hq : decide (((rd_T55 l0_0 a1).f0) < 1) = true ∨ (rd_T55 l0_0 a1).f2.f0 = true ∨ decide (a2 ≤ 1) = true
 ·exact assartref07_below.calls0 k A0_0 c0_0 l0_0 a0_1 a1 a2 r1 r2 r3 r4 w hr0_0 hc0_0 ⟨hq⟩ h
 have HQ := Aside0.mk hq
 clear hq
 cases k with
 | zero => exact absurd h (by simp [assartref07_below.f])
 | succ k =>
 simp only [assartref07_below.f] at h
 have hu24 := Try.underlying24
 have hu89 := Try.underlying89
 have hu53 := Try.underlying53
 have HR0_0 := Aside0.mk hr0_0
 have HC0_0 := Aside0.mk hc0_0
 clear hr0_0 hc0_0
 have HB := Aside0.mk (Below.refl w.heap.size w)
 have H : (if 0 ≤ a1 then (if a1 < (l0_0.length : Int) then (if ((rd_T55 l0_0 a1).f0) < 1 then (some (0, 0, 0, false)) else (if (rd_T55 l0_0 a1).f2.f0 = true then (if 0 < (((rd_T55 l0_0 a1).f2.f1).length : Int) then (if 0 ≤ (wrap64 ((((rd_T55 l0_0 a1).f2.f1).length : Int) - 1)) then (if (wrap64 ((((rd_T55 l0_0 a1).f2.f1).length : Int) - 1)) < (((rd_T55 l0_0 a1).f2.f1).length : Int) then (some ((rd_T49 ((rd_T55 l0_0 a1).f2.f1) 0).f0, (rd_T49 ((rd_T55 l0_0 a1).f2.f1) (wrap64 ((((rd_T55 l0_0 a1).f2.f1).length : Int) - 1))).f0, 1, decide (a2 ≥ 1))) else (none)) else (none)) else (none)) else (if a2 ≤ 1 then (some (0, 0, 0, false)) else (assartref07_below.l0 k a2 0 l0_0 a0_1 ((rd_T55 l0_0 a1).f2.f0) ((rd_T55 l0_0 a1).f2.f1) 0 0 0 false)))) else (none)) else (none)) = some (r1, r2, r3, r4) := h
 clear h
 by_cases c4 : 0 ≤ a1
 ·rw [if_pos c4] at H
  have c4b0 : decide (0 ≤ a1) = true := decide_eq_true c4
  clear c4
  by_cases c5 : a1 < (l0_0.length : Int)
  ·rw [if_pos c5] at H
   have c5b0 : decide (a1 < (l0_0.length : Int)) = true := decide_eq_true c5
   clear c5
   by_cases c6 : ((rd_T55 l0_0 a1).f0) < 1
   ·have c6b0 : decide (((rd_T55 l0_0 a1).f0) < 1) = true := decide_eq_true c6; exact absurd (.inl c6b0) HQ.out
   ·rw [if_neg c6] at H
    have c6b0 : decide (((rd_T55 l0_0 a1).f0) < 1) = false := decide_eq_false c6
    clear c6
    obtain ⟨bq17, hbq17⟩ : ∃ b_ : Bool, b_ = ((rd_T55 l0_0 a1).f2.f0) := ⟨_, rfl⟩
    replace H : (if bq17 = true then (if 0 < (((rd_T55 l0_0 a1).f2.f1).length : Int) then (if 0 ≤ (wrap64 ((((rd_T55 l0_0 a1).f2.f1).length : Int) - 1)) then (if (wrap64 ((((rd_T55 l0_0 a1).f2.f1).length : Int) - 1)) < (((rd_T55 l0_0 a1).f2.f1).length : Int) then (some ((rd_T49 ((rd_T55 l0_0 a1).f2.f1) 0).f0, (rd_T49 ((rd_T55 l0_0 a1).f2.f1) (wrap64 ((((rd_T55 l0_0 a1).f2.f1).length : Int) - 1))).f0, 1, decide (a2 ≥ 1))) else (none)) else (none)) else (none)) else (if a2 ≤ 1 then (some (0, 0, 0, false)) else (assartref07_below.l0 k a2 0 l0_0 a0_1 bq17 ((rd_T55 l0_0 a1).f2.f1) 0 0 0 false))) = some (r1, r2, r3, r4) := by rw [← hbq17] at H; exact H
    have Nbq17 := Aside0.mk hbq17
    clear hbq17
    by_cases c18 : bq17 = true
    ·subst c18; exact absurd (.inr (.inl Nbq17.out.symm)) HQ.out
    ·replace c18 := Bool.eq_false_iff.mpr c18
     subst c18
     have H1 : (if a2 ≤ 1 then (some (0, 0, 0, false)) else (assartref07_below.l0 k a2 0 l0_0 a0_1 false ((rd_T55 l0_0 a1).f2.f1) 0 0 0 false)) = some (r1, r2, r3, r4) := by rw [if_neg (show ¬ (false = true) by decide)] at H; exact H
     clear H
     have H := H1
     clear H1
     by_cases c38 : a2 ≤ 1
     ·exact absurd (.inr (.inr (decide_eq_true c38))) HQ.out
     ·rw [if_neg c38] at H
      have c38b0 : decide (a2 ≤ 1) = false := decide_eq_false c38
      clear c38
      have H' := Aside0.mk H
      clear H
      go_enter Try.func57, Try.ntmps57
      go_wp2_with (first | ((with_reducible refine gate_dst (N := 3) rfl ?_); refine box_event ?hg (N := 3) ?hd (cs := #[.slice A0_0 l0_0.length c0_0, .int .i64 a0_1]) (t := 24) ?hr ?_; (case hd => rfl); (case hg => rfl); (case hr => first | (go_simp; done) | (go_simp; rfl)); intro gb189 hg w49 hbox hb; have n0 := Aside0.mk (below_step (by repeat (first | (with_reducible first | exact HB.out | apply below_alloc | apply pw_below_drewN | apply below_drew1) | exact HB.out)) hb); have n1 := Aside0.mk (hbox); have n2 := Aside0.mk ((by rw [hg]; exact (below_size (by repeat (first | (with_reducible first | exact HB.out | apply below_alloc | apply pw_below_drewN | apply below_drew1) | exact HB.out))) : w.heap.size ≤ gb189)); have n3 := Aside0.mk ((by rw [hg]; exact (below_size (by repeat (first | (with_reducible first | exact HB.out | apply below_alloc | apply pw_below_drewN | apply below_drew1) | exact HB.out))) : w.heap.size ≤ gb189)); clear HB; have HB := n0; have BK189 := n1; have GW189 := n2; have GE189 := n3; clear n0 n1 n2 n3; clear hb hbox hg) | ((with_reducible refine gate_dst (N := 6) rfl ?_); refine box_event ?hg (N := 6) ?hd (cs := #[.int .i64 0, .int .i64 0, .int .i64 0, .bool false]) (t := 89) ?hr ?_; (case hd => rfl); (case hg => rfl); (case hr => first | (go_simp; done) | (go_simp; rfl)); intro gb190 hg w50 hbox hb; have n0 := Aside0.mk (blk_below (g := gb189) (o := .cells #[.slice A0_0 l0_0.length c0_0, .int .i64 a0_1] 24 (0, 0)) (by (with_reducible repeat (first | refine blk_drewN ?_ _ | refine blk_drew ?_ | refine blk_alloc ?_ _)); exact BK189.out) hb); have n1 := Aside0.mk (below_step (by repeat (first | (with_reducible first | exact HB.out | apply below_alloc | apply pw_below_drewN | apply below_drew1 | refine below_set ?_ GE189.out) | exact HB.out)) hb); have n2 := Aside0.mk (hbox); have n3 := Aside0.mk ((by rw [hg]; exact (below_size (by repeat (first | (with_reducible first | exact HB.out | apply below_alloc | apply pw_below_drewN | apply below_drew1 | refine below_set ?_ GE189.out) | exact HB.out))) : w.heap.size ≤ gb190)); have n4 := Aside0.mk ((by rw [hg]; exact (below_size (by repeat (first | (with_reducible first | exact HB.out | apply below_alloc | apply pw_below_drewN | apply below_drew1 | refine below_set ?_ GE189.out) | exact HB.out))) : w.heap.size ≤ gb190)); have n5 := Aside0.mk ((by rw [hg]; exact Nat.ne_of_lt (blk_lt (g := gb189) (o := .cells #[.slice A0_0 l0_0.length c0_0, .int .i64 a0_1] 24 (0, 0)) (by (with_reducible repeat (first | refine blk_drewN ?_ _ | refine blk_drew ?_ | refine blk_alloc ?_ _)); exact BK189.out)) : gb189 ≠ gb190)); have n6 := Aside0.mk ((by rw [hg]; exact Nat.ne_of_gt (blk_lt (g := gb189) (o := .cells #[.slice A0_0 l0_0.length c0_0, .int .i64 a0_1] 24 (0, 0)) (by (with_reducible repeat (first | refine blk_drewN ?_ _ | refine blk_drew ?_ | refine blk_alloc ?_ _)); exact BK189.out)) : gb190 ≠ gb189)); clear BK189; clear HB; have BK189 := n0; have HB := n1; have BK190 := n2; have GW190 := n3; have GE190 := n4; have NB189_190 := n5; have NB190_189 := n6; clear n0 n1 n2 n3 n4 n5 n6; clear hb hbox hg; have hnb51 := NB189_190.out; have hnc51 := NB190_189.out; have hcz52_0 : w50.cell? ⟨gb189, 0, none⟩ = some (.slice A0_0 l0_0.length c0_0) := (blk_cell BK189.out 0).trans rfl; have hcz52_1 : w50.cell? ⟨gb189, 1, none⟩ = some (.int .i64 a0_1) := (blk_cell BK189.out 1).trans rfl; have hfz52_0 := blk_frozen BK189.out 0; have hfz52_1 := blk_frozen BK189.out 1; have p191 : 0 ≤ (a1 : Int) := of_decide_eq_true (by first | (with_reducible assumption) | assumption); have q191 : a1 < (l0_0.length : Int) := of_decide_eq_true (by first | (with_reducible assumption) | assumption); obtain ⟨ad191, A191_3, c191_3, e191, hx191_0, hx191_1, hx191_2, hx191_3, hl191_3, hi191_3⟩ := at_T55 HR0_0.out a1 p191 q191; (try rw [← Nbq17.out] at hx191_1); (try rw [← Nbq17.out] at hx191_2); cases e191; replace hx191_0 := (HB.out.cell (World.block_lt_of_cell? w _ hx191_0)).trans hx191_0; replace hx191_1 := (HB.out.cell (World.block_lt_of_cell? w _ hx191_1)).trans hx191_1; replace hx191_2 := (HB.out.cell (World.block_lt_of_cell? w _ hx191_2)).trans hx191_2; replace hx191_3 := (HB.out.cell (World.block_lt_of_cell? w _ hx191_3)).trans hx191_3; have HR191_3 := Aside0.mk hi191_3; have HC191_3 := Aside0.mk hl191_3; clear hi191_3 hl191_3; replace p191 := eq_true p191; replace q191 := eq_true q191) | ((with_reducible refine gate_dst (N := 7) rfl ?_); refine box_event ?hg (N := 7) ?hd (cs := #[.bool false, .slice none 0 0]) (t := 53) ?hr ?_; (case hd => rfl); (case hg => rfl); (case hr => first | (go_simp; done) | (go_simp; rfl)); intro gb192 hg w53 hbox hb; have n0 := Aside0.mk (blk_below (g := gb189) (o := .cells #[.slice (some ad191) l0_0.length c0_0, .int .i64 a0_1] 24 (0, 0)) (by (with_reducible repeat (first | refine blk_drewN ?_ _ | refine blk_drew ?_ | refine blk_alloc ?_ _)); exact BK189.out) hb); have n1 := Aside0.mk (blk_below (g := gb190) (o := .cells #[.int .i64 0, .int .i64 0, .int .i64 0, .bool false] 89 (0, 0)) (by (with_reducible repeat (first | refine blk_drewN ?_ _ | refine blk_drew ?_ | refine blk_alloc ?_ _)); exact BK190.out) hb); have n2 := Aside0.mk (below_step (by repeat (first | (with_reducible first | exact HB.out | apply below_alloc | apply pw_below_drewN | apply below_drew1 | refine below_set ?_ GE189.out | refine below_set ?_ GE190.out) | exact HB.out)) hb); have n3 := Aside0.mk (hbox); have n4 := Aside0.mk ((by rw [hg]; exact (below_size (by repeat (first | (with_reducible first | exact HB.out | apply below_alloc | apply pw_below_drewN | apply below_drew1 | refine below_set ?_ GE189.out | refine below_set ?_ GE190.out) | exact HB.out))) : w.heap.size ≤ gb192)); have n5 := Aside0.mk ((by rw [hg]; exact (below_size (by repeat (first | (with_reducible first | exact HB.out | apply below_alloc | apply pw_below_drewN | apply below_drew1 | refine below_set ?_ GE189.out | refine below_set ?_ GE190.out) | exact HB.out))) : w.heap.size ≤ gb192)); have n6 := Aside0.mk ((by rw [hg]; exact Nat.ne_of_lt (blk_lt (g := gb189) (o := .cells #[.slice (some ad191) l0_0.length c0_0, .int .i64 a0_1] 24 (0, 0)) (by (with_reducible repeat (first | refine blk_drewN ?_ _ | refine blk_drew ?_ | refine blk_alloc ?_ _)); exact BK189.out)) : gb189 ≠ gb192)); have n7 := Aside0.mk ((by rw [hg]; exact Nat.ne_of_gt (blk_lt (g := gb189) (o := .cells #[.slice (some ad191) l0_0.length c0_0, .int .i64 a0_1] 24 (0, 0)) (by (with_reducible repeat (first | refine blk_drewN ?_ _ | refine blk_drew ?_ | refine blk_alloc ?_ _)); exact BK189.out)) : gb192 ≠ gb189)); have n8 := Aside0.mk ((by rw [hg]; exact Nat.ne_of_lt (blk_lt (g := gb190) (o := .cells #[.int .i64 0, .int .i64 0, .int .i64 0, .bool false] 89 (0, 0)) (by (with_reducible repeat (first | refine blk_drewN ?_ _ | refine blk_drew ?_ | refine blk_alloc ?_ _)); exact BK190.out)) : gb190 ≠ gb192)); have n9 := Aside0.mk ((by rw [hg]; exact Nat.ne_of_gt (blk_lt (g := gb190) (o := .cells #[.int .i64 0, .int .i64 0, .int .i64 0, .bool false] 89 (0, 0)) (by (with_reducible repeat (first | refine blk_drewN ?_ _ | refine blk_drew ?_ | refine blk_alloc ?_ _)); exact BK190.out)) : gb192 ≠ gb190)); clear BK189; clear BK190; clear HB; have BK189 := n0; have BK190 := n1; have HB := n2; have BK192 := n3; have GW192 := n4; have GE192 := n5; have NB189_192 := n6; have NB192_189 := n7; have NB190_192 := n8; have NB192_190 := n9; clear n0 n1 n2 n3 n4 n5 n6 n7 n8 n9; clear hb hbox hg; have hnb54 := NB192_189.out; have hnc54 := NB189_192.out; have hnb55 := NB192_190.out; have hnc55 := NB190_192.out; have hcz56_0 : w53.cell? ⟨gb192, 0, none⟩ = some (.bool false) := (blk_cell BK192.out 0).trans rfl; have hcz56_1 : w53.cell? ⟨gb192, 1, none⟩ = some (.slice none 0 0) := (blk_cell BK192.out 1).trans rfl; have hfz56_0 := blk_frozen BK192.out 0; have hfz56_1 := blk_frozen BK192.out 1; have hcz57_0 : w53.cell? ⟨gb189, 0, none⟩ = some (.slice (some ad191) l0_0.length c0_0) := (blk_cell BK189.out 0).trans rfl; have hcz57_1 : w53.cell? ⟨gb189, 1, none⟩ = some (.int .i64 a0_1) := (blk_cell BK189.out 1).trans rfl; have hfz57_0 := blk_frozen BK189.out 0; have hfz57_1 := blk_frozen BK189.out 1; have p193 : 0 ≤ (a1 : Int) := of_decide_eq_true (by first | (with_reducible assumption) | assumption); have q193 : a1 < (l0_0.length : Int) := of_decide_eq_true (by first | (with_reducible assumption) | assumption); obtain ⟨ad193, A193_3, c193_3, e193, hx193_0, hx193_1, hx193_2, hx193_3, hl193_3, hi193_3⟩ := at_T55 HR0_0.out a1 p193 q193; (try rw [← Nbq17.out] at hx193_1); (try rw [← Nbq17.out] at hx193_2); obtain rfl : ad191 = ad193 := (by injection e193); have hn193_0 : ad191.block ≠ gb192 := Nat.ne_of_lt (Nat.lt_of_lt_of_le (by have := World.block_lt_of_cell? _ _ hx193_0; first | rwa [add_block] at this | exact this) GW192.out); have hn193_1 : ad191.block ≠ gb192 := Nat.ne_of_lt (Nat.lt_of_lt_of_le (by have := World.block_lt_of_cell? _ _ hx193_0; first | rwa [add_block] at this | exact this) GW192.out); replace hx193_0 := (HB.out.cell (World.block_lt_of_cell? w _ hx193_0)).trans hx193_0; replace hx193_1 := (HB.out.cell (World.block_lt_of_cell? w _ hx193_1)).trans hx193_1; replace hx193_2 := (HB.out.cell (World.block_lt_of_cell? w _ hx193_2)).trans hx193_2; replace hx193_3 := (HB.out.cell (World.block_lt_of_cell? w _ hx193_3)).trans hx193_3; have HR193_3 := Aside0.mk hi193_3; have HC193_3 := Aside0.mk hl193_3; clear hi193_3 hl193_3; replace hx193_0 := (cell_far (p := ⟨gb192, 0, none⟩) (by first | (rw [add_block]; exact hn193_0) | (show (Addr.add _ _).block ≠ _; rw [add_block]; exact hn193_0) | exact hn193_0) (.bool false)).trans hx193_0; replace hx193_1 := (cell_far (p := ⟨gb192, 0, none⟩) (by first | (rw [add_block]; exact hn193_0) | (show (Addr.add _ _).block ≠ _; rw [add_block]; exact hn193_0) | exact hn193_0) (.bool false)).trans hx193_1; replace hx193_2 := (cell_far (p := ⟨gb192, 0, none⟩) (by first | (rw [add_block]; exact hn193_0) | (show (Addr.add _ _).block ≠ _; rw [add_block]; exact hn193_0) | exact hn193_0) (.bool false)).trans hx193_2; replace hx193_3 := (cell_far (p := ⟨gb192, 0, none⟩) (by first | (rw [add_block]; exact hn193_0) | (show (Addr.add _ _).block ≠ _; rw [add_block]; exact hn193_0) | exact hn193_0) (.bool false)).trans hx193_3; replace hx193_0 := (cell_far (p := ⟨gb192, 1, none⟩) (by first | (rw [add_block]; exact hn193_1) | (show (Addr.add _ _).block ≠ _; rw [add_block]; exact hn193_1) | exact hn193_1) (.slice A191_3 ((rd_T55 l0_0 a1).f2.f1).length c191_3)).trans hx193_0; replace hx193_1 := (cell_far (p := ⟨gb192, 1, none⟩) (by first | (rw [add_block]; exact hn193_1) | (show (Addr.add _ _).block ≠ _; rw [add_block]; exact hn193_1) | exact hn193_1) (.slice A191_3 ((rd_T55 l0_0 a1).f2.f1).length c191_3)).trans hx193_1; replace hx193_2 := (cell_far (p := ⟨gb192, 1, none⟩) (by first | (rw [add_block]; exact hn193_1) | (show (Addr.add _ _).block ≠ _; rw [add_block]; exact hn193_1) | exact hn193_1) (.slice A191_3 ((rd_T55 l0_0 a1).f2.f1).length c191_3)).trans hx193_2; replace hx193_3 := (cell_far (p := ⟨gb192, 1, none⟩) (by first | (rw [add_block]; exact hn193_1) | (show (Addr.add _ _).block ≠ _; rw [add_block]; exact hn193_1) | exact hn193_1) (.slice A191_3 ((rd_T55 l0_0 a1).f2.f1).length c191_3)).trans hx193_3; clear hn193_0; clear hn193_1; replace p193 := eq_true p193; replace q193 := eq_true q193) | ((with_reducible refine gate_dst (N := 8) rfl ?_); refine box_event ?hg (N := 8) ?hd (cs := #[.int .i64 0, .int .i64 0, .int .i64 0, .bool false]) (t := 89) ?hr ?_; (case hd => rfl); (case hg => rfl); (case hr => first | (go_simp; done) | (go_simp; rfl)); intro gb196 hg w58 hbox hb; have n0 := Aside0.mk (blk_below (g := gb189) (o := .cells #[.slice (some ad191) l0_0.length c0_0, .int .i64 a0_1] 24 (0, 0)) (by (with_reducible repeat (first | refine blk_drewN ?_ _ | refine blk_drew ?_ | refine blk_alloc ?_ _)); refine blk_far ?_ NB189_192.out _; (with_reducible repeat (first | refine blk_drewN ?_ _ | refine blk_drew ?_ | refine blk_alloc ?_ _)); refine blk_far ?_ NB189_192.out _; (with_reducible repeat (first | refine blk_drewN ?_ _ | refine blk_drew ?_ | refine blk_alloc ?_ _)); exact BK189.out) hb); have n1 := Aside0.mk (blk_below (g := gb190) (o := .cells #[.int .i64 0, .int .i64 0, .int .i64 0, .bool false] 89 (0, 0)) (by (with_reducible repeat (first | refine blk_drewN ?_ _ | refine blk_drew ?_ | refine blk_alloc ?_ _)); refine blk_far ?_ NB190_192.out _; (with_reducible repeat (first | refine blk_drewN ?_ _ | refine blk_drew ?_ | refine blk_alloc ?_ _)); refine blk_far ?_ NB190_192.out _; (with_reducible repeat (first | refine blk_drewN ?_ _ | refine blk_drew ?_ | refine blk_alloc ?_ _)); exact BK190.out) hb); have n2 := Aside0.mk (blk_below (g := gb192) (o := .cells #[.bool false, .slice A191_3 ((rd_T55 l0_0 a1).f2.f1).length c191_3] 53 (0, 0)) (by (with_reducible repeat (first | refine blk_drewN ?_ _ | refine blk_drew ?_ | refine blk_alloc ?_ _)); refine blk_put (cs := #[.bool false, .slice none 0 0]) ?_ 1 _ rfl; (with_reducible repeat (first | refine blk_drewN ?_ _ | refine blk_drew ?_ | refine blk_alloc ?_ _)); refine blk_put (cs := #[.bool false, .slice none 0 0]) ?_ 0 _ rfl; (with_reducible repeat (first | refine blk_drewN ?_ _ | refine blk_drew ?_ | refine blk_alloc ?_ _)); exact BK192.out) hb); have n3 := Aside0.mk (below_step (by repeat (first | (with_reducible first | exact HB.out | apply below_alloc | apply pw_below_drewN | apply below_drew1 | refine below_set ?_ GE189.out | refine below_set ?_ GE190.out | refine below_set ?_ GE192.out) | exact HB.out)) hb); have n4 := Aside0.mk (hbox); have n5 := Aside0.mk ((by rw [hg]; exact (below_size (by repeat (first | (with_reducible first | exact HB.out | apply below_alloc | apply pw_below_drewN | apply below_drew1 | refine below_set ?_ GE189.out | refine below_set ?_ GE190.out | refine below_set ?_ GE192.out) | exact HB.out))) : w.heap.size ≤ gb196)); have n6 := Aside0.mk ((by rw [hg]; exact (below_size (by repeat (first | (with_reducible first | exact HB.out | apply below_alloc | apply pw_below_drewN | apply below_drew1 | refine below_set ?_ GE189.out | refine below_set ?_ GE190.out | refine below_set ?_ GE192.out) | exact HB.out))) : w.heap.size ≤ gb196)); have n7 := Aside0.mk ((by rw [hg]; exact Nat.ne_of_lt (blk_lt (g := gb189) (o := .cells #[.slice (some ad191) l0_0.length c0_0, .int .i64 a0_1] 24 (0, 0)) (by (with_reducible repeat (first | refine blk_drewN ?_ _ | refine blk_drew ?_ | refine blk_alloc ?_ _)); refine blk_far ?_ NB189_192.out _; (with_reducible repeat (first | refine blk_drewN ?_ _ | refine blk_drew ?_ | refine blk_alloc ?_ _)); refine blk_far ?_ NB189_192.out _; (with_reducible repeat (first | refine blk_drewN ?_ _ | refine blk_drew ?_ | refine blk_alloc ?_ _)); exact BK189.out)) : gb189 ≠ gb196)); have n8 := Aside0.mk ((by rw [hg]; exact Nat.ne_of_gt (blk_lt (g := gb189) (o := .cells #[.slice (some ad191) l0_0.length c0_0, .int .i64 a0_1] 24 (0, 0)) (by (with_reducible repeat (first | refine blk_drewN ?_ _ | refine blk_drew ?_ | refine blk_alloc ?_ _)); refine blk_far ?_ NB189_192.out _; (with_reducible repeat (first | refine blk_drewN ?_ _ | refine blk_drew ?_ | refine blk_alloc ?_ _)); refine blk_far ?_ NB189_192.out _; (with_reducible repeat (first | refine blk_drewN ?_ _ | refine blk_drew ?_ | refine blk_alloc ?_ _)); exact BK189.out)) : gb196 ≠ gb189)); have n9 := Aside0.mk ((by rw [hg]; exact Nat.ne_of_lt (blk_lt (g := gb190) (o := .cells #[.int .i64 0, .int .i64 0, .int .i64 0, .bool false] 89 (0, 0)) (by (with_reducible repeat (first | refine blk_drewN ?_ _ | refine blk_drew ?_ | refine blk_alloc ?_ _)); refine blk_far ?_ NB190_192.out _; (with_reducible repeat (first | refine blk_drewN ?_ _ | refine blk_drew ?_ | refine blk_alloc ?_ _)); refine blk_far ?_ NB190_192.out _; (with_reducible repeat (first | refine blk_drewN ?_ _ | refine blk_drew ?_ | refine blk_alloc ?_ _)); exact BK190.out)) : gb190 ≠ gb196)); have n10 := Aside0.mk ((by rw [hg]; exact Nat.ne_of_gt (blk_lt (g := gb190) (o := .cells #[.int .i64 0, .int .i64 0, .int .i64 0, .bool false] 89 (0, 0)) (by (with_reducible repeat (first | refine blk_drewN ?_ _ | refine blk_drew ?_ | refine blk_alloc ?_ _)); refine blk_far ?_ NB190_192.out _; (with_reducible repeat (first | refine blk_drewN ?_ _ | refine blk_drew ?_ | refine blk_alloc ?_ _)); refine blk_far ?_ NB190_192.out _; (with_reducible repeat (first | refine blk_drewN ?_ _ | refine blk_drew ?_ | refine blk_alloc ?_ _)); exact BK190.out)) : gb196 ≠ gb190)); have n11 := Aside0.mk ((by rw [hg]; exact Nat.ne_of_lt (blk_lt (g := gb192) (o := .cells #[.bool false, .slice A191_3 ((rd_T55 l0_0 a1).f2.f1).length c191_3] 53 (0, 0)) (by (with_reducible repeat (first | refine blk_drewN ?_ _ | refine blk_drew ?_ | refine blk_alloc ?_ _)); refine blk_put (cs := #[.bool false, .slice none 0 0]) ?_ 1 _ rfl; (with_reducible repeat (first | refine blk_drewN ?_ _ | refine blk_drew ?_ | refine blk_alloc ?_ _)); refine blk_put (cs := #[.bool false, .slice none 0 0]) ?_ 0 _ rfl; (with_reducible repeat (first | refine blk_drewN ?_ _ | refine blk_drew ?_ | refine blk_alloc ?_ _)); exact BK192.out)) : gb192 ≠ gb196)); have n12 := Aside0.mk ((by rw [hg]; exact Nat.ne_of_gt (blk_lt (g := gb192) (o := .cells #[.bool false, .slice A191_3 ((rd_T55 l0_0 a1).f2.f1).length c191_3] 53 (0, 0)) (by (with_reducible repeat (first | refine blk_drewN ?_ _ | refine blk_drew ?_ | refine blk_alloc ?_ _)); refine blk_put (cs := #[.bool false, .slice none 0 0]) ?_ 1 _ rfl; (with_reducible repeat (first | refine blk_drewN ?_ _ | refine blk_drew ?_ | refine blk_alloc ?_ _)); refine blk_put (cs := #[.bool false, .slice none 0 0]) ?_ 0 _ rfl; (with_reducible repeat (first | refine blk_drewN ?_ _ | refine blk_drew ?_ | refine blk_alloc ?_ _)); exact BK192.out)) : gb196 ≠ gb192)); clear BK189; clear BK190; clear BK192; clear HB; have BK189 := n0; have BK190 := n1; have BK192 := n2; have HB := n3; have BK196 := n4; have GW196 := n5; have GE196 := n6; have NB189_196 := n7; have NB196_189 := n8; have NB190_196 := n9; have NB196_190 := n10; have NB192_196 := n11; have NB196_192 := n12; clear n0 n1 n2 n3 n4 n5 n6 n7 n8 n9 n10 n11 n12; clear hb hbox hg; have hnb59 := NB196_189.out; have hnc59 := NB189_196.out; have hnb60 := NB196_190.out; have hnc60 := NB190_196.out; have hnb61 := NB196_192.out; have hnc61 := NB192_196.out; have hcz62_0 : w58.cell? ⟨gb196, 0, none⟩ = some (.int .i64 0) := (blk_cell BK196.out 0).trans rfl; have hcz62_1 : w58.cell? ⟨gb196, 1, none⟩ = some (.int .i64 0) := (blk_cell BK196.out 1).trans rfl; have hcz62_2 : w58.cell? ⟨gb196, 2, none⟩ = some (.int .i64 0) := (blk_cell BK196.out 2).trans rfl; have hcz62_3 : w58.cell? ⟨gb196, 3, none⟩ = some (.bool false) := (blk_cell BK196.out 3).trans rfl; have hfz62_0 := blk_frozen BK196.out 0; have hfz62_1 := blk_frozen BK196.out 1; have hfz62_2 := blk_frozen BK196.out 2; have hfz62_3 := blk_frozen BK196.out 3))
      go_loopg [9] k (fun kq v9 w' => ∃ (x9_1 : Int) (x191000_1 : Int) (x191001_1 : Int) (x191002_1 : Int) (x191003_1 : Bool) (x197000_1 : Int) (x197001_1 : Int) (x197002_1 : Int), v9 = .int .i64 x9_1 ∧ Aside0 (assartref07_below.l0 kq a2 x9_1 l0_0 a0_1 false ((rd_T55 l0_0 a1).f2.f1) x197000_1 x197001_1 x197002_1 false = some (r1, r2, r3, r4)) ∧ Aside0 (kq ≤ k) ∧ Aside0 (w'.heap[gb189]? = some (.cells #[(.slice (some ad191) l0_0.length c0_0), .int .i64 a0_1] 24 (0, 0))) ∧ Aside0 (w'.heap[gb190]? = some (.cells #[.int .i64 x191000_1, .int .i64 x191001_1, .int .i64 x191002_1, .bool x191003_1] 89 (0, 0))) ∧ Aside0 (w'.heap[gb192]? = some (.cells #[.bool false, (.slice A191_3 ((rd_T55 l0_0 a1).f2.f1).length c191_3)] 53 (0, 0))) ∧ Aside0 (w'.heap[gb196]? = some (.cells #[.int .i64 x197000_1, .int .i64 x197001_1, .int .i64 x197002_1, .bool false] 89 (0, 0))) ∧ Aside0 (Below w.heap.size w w'))
      case atStart => exact ⟨(0), (0), (0), (0), (false), (0), (0), (0), (by first | rfl | (simp; done) | (simp [*]; done)), H', ⟨Nat.le_refl _⟩, ⟨by (with_reducible repeat (first | refine blk_drewN ?_ _ | refine blk_drew ?_ | refine blk_alloc ?_ _)); refine blk_far ?_ NB189_196.out _; (with_reducible repeat (first | refine blk_drewN ?_ _ | refine blk_drew ?_ | refine blk_alloc ?_ _)); refine blk_far ?_ NB189_196.out _; (with_reducible repeat (first | refine blk_drewN ?_ _ | refine blk_drew ?_ | refine blk_alloc ?_ _)); refine blk_far ?_ NB189_196.out _; (with_reducible repeat (first | refine blk_drewN ?_ _ | refine blk_drew ?_ | refine blk_alloc ?_ _)); refine blk_far ?_ NB189_196.out _; (with_reducible repeat (first | refine blk_drewN ?_ _ | refine blk_drew ?_ | refine blk_alloc ?_ _)); exact BK189.out⟩, ⟨by (with_reducible repeat (first | refine blk_drewN ?_ _ | refine blk_drew ?_ | refine blk_alloc ?_ _)); refine blk_far ?_ NB190_196.out _; (with_reducible repeat (first | refine blk_drewN ?_ _ | refine blk_drew ?_ | refine blk_alloc ?_ _)); refine blk_far ?_ NB190_196.out _; (with_reducible repeat (first | refine blk_drewN ?_ _ | refine blk_drew ?_ | refine blk_alloc ?_ _)); refine blk_far ?_ NB190_196.out _; (with_reducible repeat (first | refine blk_drewN ?_ _ | refine blk_drew ?_ | refine blk_alloc ?_ _)); refine blk_far ?_ NB190_196.out _; (with_reducible repeat (first | refine blk_drewN ?_ _ | refine blk_drew ?_ | refine blk_alloc ?_ _)); exact BK190.out⟩, ⟨by (with_reducible repeat (first | refine blk_drewN ?_ _ | refine blk_drew ?_ | refine blk_alloc ?_ _)); refine blk_far ?_ NB192_196.out _; (with_reducible repeat (first | refine blk_drewN ?_ _ | refine blk_drew ?_ | refine blk_alloc ?_ _)); refine blk_far ?_ NB192_196.out _; (with_reducible repeat (first | refine blk_drewN ?_ _ | refine blk_drew ?_ | refine blk_alloc ?_ _)); refine blk_far ?_ NB192_196.out _; (with_reducible repeat (first | refine blk_drewN ?_ _ | refine blk_drew ?_ | refine blk_alloc ?_ _)); refine blk_far ?_ NB192_196.out _; (with_reducible repeat (first | refine blk_drewN ?_ _ | refine blk_drew ?_ | refine blk_alloc ?_ _)); exact BK192.out⟩, ⟨by (with_reducible repeat (first | refine blk_drewN ?_ _ | refine blk_drew ?_ | refine blk_alloc ?_ _)); refine blk_put (cs := #[.int .i64 0, .int .i64 0, .int .i64 0, .bool false]) ?_ 3 _ rfl; (with_reducible repeat (first | refine blk_drewN ?_ _ | refine blk_drew ?_ | refine blk_alloc ?_ _)); refine blk_put (cs := #[.int .i64 0, .int .i64 0, .int .i64 0, .bool false]) ?_ 2 _ rfl; (with_reducible repeat (first | refine blk_drewN ?_ _ | refine blk_drew ?_ | refine blk_alloc ?_ _)); refine blk_put (cs := #[.int .i64 0, .int .i64 0, .int .i64 0, .bool false]) ?_ 1 _ rfl; (with_reducible repeat (first | refine blk_drewN ?_ _ | refine blk_drew ?_ | refine blk_alloc ?_ _)); refine blk_put (cs := #[.int .i64 0, .int .i64 0, .int .i64 0, .bool false]) ?_ 0 _ rfl; (with_reducible repeat (first | refine blk_drewN ?_ _ | refine blk_drew ?_ | refine blk_alloc ?_ _)); exact BK196.out⟩, ⟨by repeat (first | (with_reducible first | exact HB.out | apply below_alloc | apply pw_below_drewN | apply below_drew1 | refine below_set ?_ GE189.out | refine below_set ?_ GE190.out | refine below_set ?_ GE192.out | refine below_set ?_ GE196.out) | exact HB.out)⟩⟩
      case round =>
       clear H'
       try clear c1
       try clear p1
       try clear q1
       try clear hx1
       try clear qi1
       try clear c2
       try clear p2
       try clear c3
       try clear c4
       try clear c4b0
       try clear c5
       try clear c5b0
       try clear c6
       try clear c6b0
       try clear p6
       try clear c9
       try clear c12
       try clear c13
       try clear q17
       try clear c18
       try clear c19
       try clear c19b0
       try clear c19b1
       try clear p19
       try clear q19
       try clear hx19
       try clear qi19
       try clear c21
       try clear c21b0
       try clear c22
       try clear c22b0
       try clear c25
       try clear c28
       try clear c29
       try clear c38
       try clear c38b0
       try clear c41
       try clear c44
       try clear c45
       try clear c51
       try clear c54
       try clear c55
       try clear c57
       try clear c59
       try clear c60
       try clear c61
       try clear hcz10_0
       try clear hcz10_1
       try clear hcz14_0
       try clear hcz14_1
       try clear hcz15_0
       try clear hcz15_1
       try clear hcz16_0
       try clear hcz16_1
       try clear hcz16_2
       try clear hcz16_3
       try clear hcz26_0
       try clear hcz26_1
       try clear hcz30_0
       try clear hcz30_1
       try clear hcz31_0
       try clear hcz31_1
       try clear hcz42_0
       try clear hcz42_1
       try clear hcz46_0
       try clear hcz46_1
       try clear hcz47_0
       try clear hcz47_1
       try clear hcz48_0
       try clear hcz48_1
       try clear hcz48_2
       try clear hcz48_3
       try clear hcz52_0
       try clear hcz52_1
       try clear hcz56_0
       try clear hcz56_1
       try clear hcz57_0
       try clear hcz57_1
       try clear hcz62_0
       try clear hcz62_1
       try clear hcz62_2
       try clear hcz62_3
       try clear hfz10_0
       try clear hfz10_1
       try clear hfz14_0
       try clear hfz14_1
       try clear hfz15_0
       try clear hfz15_1
       try clear hfz16_0
       try clear hfz16_1
       try clear hfz16_2
       try clear hfz16_3
       try clear hfz26_0
       try clear hfz26_1
       try clear hfz30_0
       try clear hfz30_1
       try clear hfz31_0
       try clear hfz31_1
       try clear hfz42_0
       try clear hfz42_1
       try clear hfz46_0
       try clear hfz46_1
       try clear hfz47_0
       try clear hfz47_1
       try clear hfz48_0
       try clear hfz48_1
       try clear hfz48_2
       try clear hfz48_3
       try clear hfz52_0
       try clear hfz52_1
       try clear hfz56_0
       try clear hfz56_1
       try clear hfz57_0
       try clear hfz57_1
       try clear hfz62_0
       try clear hfz62_1
       try clear hfz62_2
       try clear hfz62_3
       try clear hx191_0
       try clear hx191_1
       try clear hx191_2
       try clear hx191_3
       try clear hx193_0
       try clear hx193_1
       try clear hx193_2
       try clear hx193_3
       try clear hx194_0
       try clear hx194_1
       try clear hx195_0
       try clear hx195_1
       try clear p191
       try clear p193
       try clear p194
       try clear p195
       try clear q191
       try clear q193
       try clear q194
       try clear q195
       obtain ⟨x9_1, x191000_1, x191001_1, x191002_1, x191003_1, x197000_1, x197001_1, x197002_1, rfl, HA, HK1, BK189, BK190, BK192, BK196, HB⟩ := hrel
       cases gk with
       | zero => exact absurd HA.out (by simp [assartref07_below.l0])
       | succ k1 =>
        have H := HA.out
        clear HA
        simp only [assartref07_below.l0] at H
        by_cases c63 : x9_1 < (((rd_T55 l0_0 a1).f2.f1).length : Int)
        ·rw [if_pos c63] at H
         have c63b0 : decide (x9_1 < (((rd_T55 l0_0 a1).f2.f1).length : Int)) = true := decide_eq_true c63
         clear c63
         by_cases c64 : 0 ≤ x9_1
         ·rw [if_pos c64] at H
          have c64b0 : decide (0 ≤ x9_1) = true := decide_eq_true c64
          clear c64
          replace H := Option.bind_eq_some_iff.mp H
          obtain ⟨⟨t198, t199, t200, t201⟩, A650, H⟩ := H
          replace H : (if t201 = true then (if t198 = ((rd_T49 ((rd_T55 l0_0 a1).f2.f1) x9_1).f0) then (if x9_1 > 0 then (if x197001_1 ≥ t198 then (assartref07_below.j1 k1 a2 x9_1 true l0_0 a0_1 false ((rd_T55 l0_0 a1).f2.f1) x197000_1 x197001_1 x197002_1 false t198 t199 t200 t201) else (assartref07_below.j1 k1 a2 x9_1 (x197002_1 != (wrap64 (t200 + 1))) l0_0 a0_1 false ((rd_T55 l0_0 a1).f2.f1) x197000_1 x197001_1 x197002_1 false t198 t199 t200 t201)) else (assartref07_below.j1 k1 a2 x9_1 false l0_0 a0_1 false ((rd_T55 l0_0 a1).f2.f1) x197000_1 x197001_1 x197002_1 false t198 t199 t200 t201)) else (assartref07_below.j1 k1 a2 x9_1 true l0_0 a0_1 false ((rd_T55 l0_0 a1).f2.f1) x197000_1 x197001_1 x197002_1 false t198 t199 t200 t201)) else (assartref07_below.j1 k1 a2 x9_1 true l0_0 a0_1 false ((rd_T55 l0_0 a1).f2.f1) x197000_1 x197001_1 x197002_1 false t198 t199 t200 t201)) = some (r1, r2, r3, r4) := H
          have A65 := Aside0.mk A650
          clear A650
          have HC66 := Aside0.mk H
          clear H
          have hnb67 := NB192_189.out
          have hnc67 := NB189_192.out
          have hnb68 := NB192_190.out
          have hnc68 := NB190_192.out
          have hnb69 := NB192_196.out
          have hnc69 := NB196_192.out
          have hcz70_0 : wr.cell? ⟨gb192, 0, none⟩ = some (.bool false) := (blk_cell BK192.out 0).trans rfl
          have hcz70_1 : wr.cell? ⟨gb192, 1, none⟩ = some (.slice A191_3 ((rd_T55 l0_0 a1).f2.f1).length c191_3) := (blk_cell BK192.out 1).trans rfl
          have hfz70_0 := blk_frozen BK192.out 0
          have hfz70_1 := blk_frozen BK192.out 1
          try go_wp2
          have n0 := Aside0.mk (blk_drew BK189.out)
          have n1 := Aside0.mk (blk_drew BK190.out)
          have n2 := Aside0.mk (blk_drew BK192.out)
          have n3 := Aside0.mk (blk_drew BK196.out)
          have n4 := Aside0.mk (below_drew1 HB.out)
          clear BK189
          clear BK190
          clear BK192
          clear BK196
          clear HB
          have BK189 := n0
          have BK190 := n1
          have BK192 := n2
          have BK196 := n3
          have HB := n4
          clear n0 n1 n2 n3 n4
          have p197 : 0 ≤ (x9_1 : Int) := of_decide_eq_true (by first | (with_reducible assumption) | assumption)
          have q197 : x9_1 < (((rd_T55 l0_0 a1).f2.f1).length : Int) := of_decide_eq_true (by first | (with_reducible assumption) | assumption)
          obtain ⟨ad197, e197, hx197_0, hx197_1⟩ := at_T49 HR191_3.out x9_1 p197 q197
          have hw197_1 := hx197_1
          have hw197_0 := hx197_0
          cases e197
          replace hx197_0 := (HB.out.cell (World.block_lt_of_cell? w _ hx197_0)).trans hx197_0
          replace hx197_1 := (HB.out.cell (World.block_lt_of_cell? w _ hx197_1)).trans hx197_1
          replace p197 := eq_true p197
          replace q197 := eq_true q197
          refine start_ (n := 12) (S := fun w' => w'.cell? ⟨gb189, 0, none⟩ = some (.slice (some ad191) l0_0.length c0_0) ∧ w'.cell? ⟨gb189, 1, none⟩ = some (.int .i64 a0_1) ∧ w'.cell? ⟨gb192, 0, none⟩ = some (.bool false) ∧ w'.cell? ⟨gb192, 1, none⟩ = some (.slice (some ad197) ((rd_T55 l0_0 a1).f2.f1).length c191_3) ∧ w'.cell? (ad197.add ((x9_1).toNat * 2)) = some (.int .i64 ((rd_T49 ((rd_T55 l0_0 a1).f2.f1) x9_1).f0)) ∧ w'.cell? ⟨(ad197.add ((x9_1).toNat * 2)).block, (ad197.add ((x9_1).toNat * 2)).off + 1, none⟩ = some (.int .i64 ((rd_T49 ((rd_T55 l0_0 a1).f2.f1) x9_1).f1))) (ds := []) #[false, false, false, false, false, false, false, false, false, false, false, false] (by kernel_rfl) rfl rfl ⟨(blk_cell BK189.out 0).trans rfl, (blk_cell BK189.out 1).trans rfl, (blk_cell BK192.out 0).trans rfl, (blk_cell BK192.out 1).trans rfl, ((HB.out.cell (World.block_lt_of_cell? w _ hw197_0)).trans hw197_0), ((HB.out.cell (World.block_lt_of_cell? w _ hw197_1)).trans hw197_1)⟩ (fun hHeld => ?_); refine with_tabW assartref07_below.tab12 assartref07_below.bits12 (fun HT_ HW_ => ?_)
          generalize wr.drew = w71 at BK189 BK190 BK192 BK196 HB hx197_0 hx197_1 hHeld ⊢
          refine pure_ (i := 1) (N := some 56) (v := ?_) (a' := ?_) #[false, true, false, false, false, false, false, false, false, false, false, false] rfl rfl (any_of HT_.out (by kernel_rfl)) (fun _ _ _ h => h) (Or.inl ⟨by rfl, ?_⟩) ?_ ?_
          rotate_left
          ·intro w'
           go_simp
           with_reducible rfl
          rotate_left
          ·simp only [Act.put, List.setIfInBounds_toArray, List.set_cons_zero, List.set_cons_succ, i64_w, i32_w]
           rfl
          refine pure_ (i := 3) (N := some 58) (v := ?_) (a' := ?_) #[false, true, false, true, false, false, false, false, false, false, false, false] rfl rfl (any_of HT_.out (by kernel_rfl)) (fun _ _ _ h => h) (Or.inl ⟨by rfl, ?_⟩) ?_ ?_
          rotate_left
          ·intro w'
           go_simp
           with_reducible rfl
          rotate_left
          ·simp only [Act.put, List.setIfInBounds_toArray, List.set_cons_zero, List.set_cons_succ, i64_w, i32_w]
           rfl
          refine pure_ (i := 7) (N := some 62) (v := ?_) (a' := ?_) #[false, true, false, true, false, false, false, true, false, false, false, false] rfl rfl (any_of HT_.out (by kernel_rfl)) (fun _ _ _ h => h) (Or.inl ⟨by rfl, ?_⟩) ?_ ?_
          rotate_left
          ·intro w'
           go_simp
           with_reducible rfl
          rotate_left
          ·simp only [Act.put, List.setIfInBounds_toArray, List.set_cons_zero, List.set_cons_succ, i64_w, i32_w]
           rfl
          refine pure_ (i := 8) (N := some 63) (v := ?_) (a' := ?_) #[false, true, false, true, false, false, false, true, true, false, false, false] rfl rfl (any_of HT_.out (by kernel_rfl)) (fun _ _ _ h => h) (Or.inl ⟨by rfl, ?_⟩) ?_ ?_
          rotate_left
          ·intro w'
           go_simp
           with_reducible rfl
          rotate_left
          ·simp only [Act.put, List.setIfInBounds_toArray, List.set_cons_zero, List.set_cons_succ, i64_w, i32_w]
           rfl
          refine take_ (i := 0) (N := some 55) (v := ?_) (a' := ?_) #[true, true, false, true, false, false, false, true, true, false, false, false] rfl rfl (take_ofW HT_.out HW_.out (by kernel_rfl)) (fun _ _ _ h => h) (Or.inl ⟨by rfl, ?_⟩) hHeld ?_ ?_
          rotate_left
          ·rintro w' ⟨s0, s1, s2, s3, s4, s5⟩
           go_simp
           with_reducible rfl
          rotate_left
          ·simp only [Act.put, List.setIfInBounds_toArray, List.set_cons_zero, List.set_cons_succ, i64_w, i32_w]
           rfl
          refine take_ (i := 2) (N := some 57) (v := ?_) (a' := ?_) #[true, true, true, true, false, false, false, true, true, false, false, false] rfl rfl (take_ofW HT_.out HW_.out (by kernel_rfl)) (fun _ _ _ h => h) (Or.inl ⟨by rfl, ?_⟩) hHeld ?_ ?_
          rotate_left
          ·rintro w' ⟨s0, s1, s2, s3, s4, s5⟩
           go_simp
           with_reducible rfl
          rotate_left
          ·simp only [Act.put, List.setIfInBounds_toArray, List.set_cons_zero, List.set_cons_succ, i64_w, i32_w]
           rfl
          refine pure_ (i := 4) (N := some 59) (v := ?_) (a' := ?_) #[true, true, true, true, true, false, false, true, true, false, false, false] rfl rfl (any_of HT_.out (by kernel_rfl)) (fun _ _ _ h => h) (Or.inl ⟨by rfl, ?_⟩) ?_ ?_
          rotate_left
          ·intro w'
           go_simp
           with_reducible rfl
          rotate_left
          ·simp only [Act.put, List.setIfInBounds_toArray, List.set_cons_zero, List.set_cons_succ, i64_w, i32_w]
           rfl
          refine pure_ (i := 5) (N := some 60) (v := ?_) (a' := ?_) #[true, true, true, true, true, true, false, true, true, false, false, false] rfl rfl (any_of HT_.out (by kernel_rfl)) (fun _ _ _ h => h) (Or.inl ⟨by rfl, ?_⟩) ?_ ?_
          rotate_left
          ·intro w'
           go_simp
           with_reducible rfl
          rotate_left
          ·simp only [Act.put, List.setIfInBounds_toArray, List.set_cons_zero, List.set_cons_succ, i64_w, i32_w]
           rfl
          refine take_ (i := 6) (N := some 61) (v := ?_) (a' := ?_) #[true, true, true, true, true, true, true, true, true, false, false, false] rfl rfl (take_ofW HT_.out HW_.out (by kernel_rfl)) (fun _ _ _ h => h) (Or.inl ⟨by rfl, ?_⟩) hHeld ?_ ?_
          rotate_left
          ·rintro w' ⟨s0, s1, s2, s3, s4, s5⟩
           go_simp
           with_reducible rfl
          rotate_left
          ·simp only [Act.put, List.setIfInBounds_toArray, List.set_cons_zero, List.set_cons_succ, i64_w, i32_w]
           rfl
          refine join_ (σ := Nat) 1 #[true, true, true, true, true, true, true, true, true, true, true, false] (fun s_ => [(64, .agg #[.int .i64 t198, .int .i64 t199, .int .i64 t200, .bool t201]), (10, .pointer (some ⟨s_, 0, none⟩))]) (fun s_ w' => (w'.cell? ⟨gb189, 0, none⟩ = some (.slice (some ad191) l0_0.length c0_0) ∧ w'.cell? ⟨gb189, 1, none⟩ = some (.int .i64 a0_1) ∧ w'.cell? ⟨gb192, 0, none⟩ = some (.bool false) ∧ w'.cell? ⟨gb192, 1, none⟩ = some (.slice (some ad197) ((rd_T55 l0_0 a1).f2.f1).length c191_3) ∧ w'.cell? (ad197.add ((x9_1).toNat * 2)) = some (.int .i64 ((rd_T49 ((rd_T55 l0_0 a1).f2.f1) x9_1).f0)) ∧ w'.cell? ⟨(ad197.add ((x9_1).toNat * 2)).block, (ad197.add ((x9_1).toNat * 2)).off + 1, none⟩ = some (.int .i64 ((rd_T49 ((rd_T55 l0_0 a1).f2.f1) x9_1).f1))) ∧ (w'.heap[gb189]? = some (.cells #[.slice (some ad191) l0_0.length c0_0, .int .i64 a0_1] 24 (0, 0))) ∧ (w'.heap[gb190]? = some (.cells #[.int .i64 x191000_1, .int .i64 x191001_1, .int .i64 x191002_1, .bool x191003_1] 89 (0, 0))) ∧ (w'.heap[gb192]? = some (.cells #[.bool false, .slice (some ad197) ((rd_T55 l0_0 a1).f2.f1).length c191_3] 53 (0, 0))) ∧ (w'.heap[gb196]? = some (.cells #[.int .i64 x197000_1, .int .i64 x197001_1, .int .i64 x197002_1, .bool false] 89 (0, 0))) ∧ (w'.heap[s_]? = some (.cells #[.int .i64 0, .int .i64 0, .int .i64 0, .bool false] 89 (0, 0))) ∧ (w.heap.size ≤ s_) ∧ (w.heap.size ≤ s_) ∧ (gb189 ≠ s_) ∧ (s_ ≠ gb189) ∧ (gb190 ≠ s_) ∧ (s_ ≠ gb190) ∧ (gb192 ≠ s_) ∧ (s_ ≠ gb192) ∧ (gb196 ≠ s_) ∧ (s_ ≠ gb196) ∧ (Below w.heap.size w w')) ?_ ?_
          rotate_left
          ·intro hCont
           refine two_ (i := 9) (j := 10) (Ni := some 64) (Nj := some 10) #[true, true, true, true, true, true, true, true, true, true, false, false] #[true, true, true, true, true, true, true, true, true, false, true, false] rfl rfl rfl rfl (two_of HT_.out (by kernel_rfl)) (by decide) (by decide) (fun K hK => ?_) (fun K hK => ?_)
           ·skip
            refine goes_ Try.func57 (by kernel_rfl) rfl #[.agg #[.slice (some ad191) l0_0.length c0_0, .int .i64 a0_1], .int .i64 ((rd_T49 ((rd_T55 l0_0 a1).f2.f1) x9_1).f1), .int .i64 (wrap64 (a2 - 1))] (by rfl) rfl rfl (by (try simp only [List.map_toArray, List.map_cons, List.map_nil]); first | done | rfl | (simp only [List.length_drop, List.length_take]; rfl)) ?_
            with_reducible refine (ih k1 (by have := HK1.out; omega) _ _ l0_0 a0_1 ((rd_T49 ((rd_T55 l0_0 a1).f2.f1) x9_1).f1) (wrap64 (a2 - 1)) t198 t199 t200 t201 _ ?side1 ?side2 A65.out).mono ?_
            (case side1 => repeat (first | exact (Kd.C_below HR0_0.out HB.out) | (with_reducible refine Kd.C_alloc ?_ _) | (with_reducible refine Kd.C_drewN ?_ _) | (with_reducible refine Kd.C_drew ?_)))
            (case side2 => exact HC0_0.out)
            rintro e w72 ⟨rfl, hb⟩
            refine ⟨_, rfl, ?_⟩
            have n0 := Aside0.mk (blk_below (g := gb189) (o := .cells #[.slice (some ad191) l0_0.length c0_0, .int .i64 a0_1] 24 (0, 0)) (by (with_reducible repeat (first | refine blk_drewN ?_ _ | refine blk_drew ?_ | refine blk_alloc ?_ _)); exact BK189.out) hb)
            have n1 := Aside0.mk (blk_below (g := gb190) (o := .cells #[.int .i64 x191000_1, .int .i64 x191001_1, .int .i64 x191002_1, .bool x191003_1] 89 (0, 0)) (by (with_reducible repeat (first | refine blk_drewN ?_ _ | refine blk_drew ?_ | refine blk_alloc ?_ _)); exact BK190.out) hb)
            have n2 := Aside0.mk (blk_below (g := gb192) (o := .cells #[.bool false, .slice (some ad197) ((rd_T55 l0_0 a1).f2.f1).length c191_3] 53 (0, 0)) (by (with_reducible repeat (first | refine blk_drewN ?_ _ | refine blk_drew ?_ | refine blk_alloc ?_ _)); exact BK192.out) hb)
            have n3 := Aside0.mk (blk_below (g := gb196) (o := .cells #[.int .i64 x197000_1, .int .i64 x197001_1, .int .i64 x197002_1, .bool false] 89 (0, 0)) (by (with_reducible repeat (first | refine blk_drewN ?_ _ | refine blk_drew ?_ | refine blk_alloc ?_ _)); exact BK196.out) hb)
            have n4 := Aside0.mk (below_step (by repeat (first | (with_reducible first | exact HB.out | apply below_alloc | apply pw_below_drewN | apply below_drew1 | refine below_set ?_ GE189.out | refine below_set ?_ GE190.out | refine below_set ?_ GE192.out | refine below_set ?_ GE196.out) | exact HB.out)) hb)
            clear BK189
            clear BK190
            clear BK192
            clear BK196
            clear HB
            have BK189 := n0
            have BK190 := n1
            have BK192 := n2
            have BK196 := n3
            have HB := n4
            clear n0 n1 n2 n3 n4
            (try clear hb)
            (try clear hb2)
            (try clear hk)
            (try clear hi)
            refine hK.out _ _ ⟨(blk_cell BK189.out 0).trans rfl, (blk_cell BK189.out 1).trans rfl, (blk_cell BK192.out 0).trans rfl, (blk_cell BK192.out 1).trans rfl, ((HB.out.cell (World.block_lt_of_cell? w _ hw197_0)).trans hw197_0), ((HB.out.cell (World.block_lt_of_cell? w _ hw197_1)).trans hw197_1)⟩ (fun hHeld => ?_)
            clear hK K
            refine norm_ (a' := ?_) ?_ ?_
            rotate_left
            ·show Act.put _ (some 64) _ = _
             simp only [Act.put, List.setIfInBounds_toArray, List.set_cons_zero, List.set_cons_succ, i64_w, i32_w]
             rfl
            refine one_ (i := 10) (N := some 10) #[true, true, true, true, true, true, true, true, true, true, true, false] rfl rfl (one_of HT_.out (by kernel_rfl)) (by decide) (fun K hK => ?_)
            refine box_step ?hg (N := 10) ?hd (cs := #[.int .i64 0, .int .i64 0, .int .i64 0, .bool false]) (t := 89) ?hr ?_; (case hd => rfl); (case hg => rfl); (case hr => first | (go_simp; done) | (go_simp; rfl))
            intro gb202 hg w73 hbox hb
            have n0 := Aside0.mk (blk_below (g := gb189) (o := .cells #[.slice (some ad191) l0_0.length c0_0, .int .i64 a0_1] 24 (0, 0)) (by (with_reducible repeat (first | refine blk_drewN ?_ _ | refine blk_drew ?_ | refine blk_alloc ?_ _)); exact BK189.out) hb)
            have n1 := Aside0.mk (blk_below (g := gb190) (o := .cells #[.int .i64 x191000_1, .int .i64 x191001_1, .int .i64 x191002_1, .bool x191003_1] 89 (0, 0)) (by (with_reducible repeat (first | refine blk_drewN ?_ _ | refine blk_drew ?_ | refine blk_alloc ?_ _)); exact BK190.out) hb)
            have n2 := Aside0.mk (blk_below (g := gb192) (o := .cells #[.bool false, .slice (some ad197) ((rd_T55 l0_0 a1).f2.f1).length c191_3] 53 (0, 0)) (by (with_reducible repeat (first | refine blk_drewN ?_ _ | refine blk_drew ?_ | refine blk_alloc ?_ _)); exact BK192.out) hb)
            have n3 := Aside0.mk (blk_below (g := gb196) (o := .cells #[.int .i64 x197000_1, .int .i64 x197001_1, .int .i64 x197002_1, .bool false] 89 (0, 0)) (by (with_reducible repeat (first | refine blk_drewN ?_ _ | refine blk_drew ?_ | refine blk_alloc ?_ _)); exact BK196.out) hb)
            have n4 := Aside0.mk (below_step (by repeat (first | (with_reducible first | exact HB.out | apply below_alloc | apply pw_below_drewN | apply below_drew1 | refine below_set ?_ GE189.out | refine below_set ?_ GE190.out | refine below_set ?_ GE192.out | refine below_set ?_ GE196.out) | exact HB.out)) hb)
            have n5 := Aside0.mk (hbox)
            have n6 := Aside0.mk ((by rw [hg]; exact (below_size (by repeat (first | (with_reducible first | exact HB.out | apply below_alloc | apply pw_below_drewN | apply below_drew1 | refine below_set ?_ GE189.out | refine below_set ?_ GE190.out | refine below_set ?_ GE192.out | refine below_set ?_ GE196.out) | exact HB.out))) : w.heap.size ≤ gb202))
            have n7 := Aside0.mk ((by rw [hg]; exact (below_size (by repeat (first | (with_reducible first | exact HB.out | apply below_alloc | apply pw_below_drewN | apply below_drew1 | refine below_set ?_ GE189.out | refine below_set ?_ GE190.out | refine below_set ?_ GE192.out | refine below_set ?_ GE196.out) | exact HB.out))) : w.heap.size ≤ gb202))
            have n8 := Aside0.mk ((by rw [hg]; exact Nat.ne_of_lt (blk_lt (g := gb189) (o := .cells #[.slice (some ad191) l0_0.length c0_0, .int .i64 a0_1] 24 (0, 0)) (by (with_reducible repeat (first | refine blk_drewN ?_ _ | refine blk_drew ?_ | refine blk_alloc ?_ _)); exact BK189.out)) : gb189 ≠ gb202))
            have n9 := Aside0.mk ((by rw [hg]; exact Nat.ne_of_gt (blk_lt (g := gb189) (o := .cells #[.slice (some ad191) l0_0.length c0_0, .int .i64 a0_1] 24 (0, 0)) (by (with_reducible repeat (first | refine blk_drewN ?_ _ | refine blk_drew ?_ | refine blk_alloc ?_ _)); exact BK189.out)) : gb202 ≠ gb189))
            have n10 := Aside0.mk ((by rw [hg]; exact Nat.ne_of_lt (blk_lt (g := gb190) (o := .cells #[.int .i64 x191000_1, .int .i64 x191001_1, .int .i64 x191002_1, .bool x191003_1] 89 (0, 0)) (by (with_reducible repeat (first | refine blk_drewN ?_ _ | refine blk_drew ?_ | refine blk_alloc ?_ _)); exact BK190.out)) : gb190 ≠ gb202))
            have n11 := Aside0.mk ((by rw [hg]; exact Nat.ne_of_gt (blk_lt (g := gb190) (o := .cells #[.int .i64 x191000_1, .int .i64 x191001_1, .int .i64 x191002_1, .bool x191003_1] 89 (0, 0)) (by (with_reducible repeat (first | refine blk_drewN ?_ _ | refine blk_drew ?_ | refine blk_alloc ?_ _)); exact BK190.out)) : gb202 ≠ gb190))
            have n12 := Aside0.mk ((by rw [hg]; exact Nat.ne_of_lt (blk_lt (g := gb192) (o := .cells #[.bool false, .slice (some ad197) ((rd_T55 l0_0 a1).f2.f1).length c191_3] 53 (0, 0)) (by (with_reducible repeat (first | refine blk_drewN ?_ _ | refine blk_drew ?_ | refine blk_alloc ?_ _)); exact BK192.out)) : gb192 ≠ gb202))
            have n13 := Aside0.mk ((by rw [hg]; exact Nat.ne_of_gt (blk_lt (g := gb192) (o := .cells #[.bool false, .slice (some ad197) ((rd_T55 l0_0 a1).f2.f1).length c191_3] 53 (0, 0)) (by (with_reducible repeat (first | refine blk_drewN ?_ _ | refine blk_drew ?_ | refine blk_alloc ?_ _)); exact BK192.out)) : gb202 ≠ gb192))
            have n14 := Aside0.mk ((by rw [hg]; exact Nat.ne_of_lt (blk_lt (g := gb196) (o := .cells #[.int .i64 x197000_1, .int .i64 x197001_1, .int .i64 x197002_1, .bool false] 89 (0, 0)) (by (with_reducible repeat (first | refine blk_drewN ?_ _ | refine blk_drew ?_ | refine blk_alloc ?_ _)); exact BK196.out)) : gb196 ≠ gb202))
            have n15 := Aside0.mk ((by rw [hg]; exact Nat.ne_of_gt (blk_lt (g := gb196) (o := .cells #[.int .i64 x197000_1, .int .i64 x197001_1, .int .i64 x197002_1, .bool false] 89 (0, 0)) (by (with_reducible repeat (first | refine blk_drewN ?_ _ | refine blk_drew ?_ | refine blk_alloc ?_ _)); exact BK196.out)) : gb202 ≠ gb196))
            clear BK189
            clear BK190
            clear BK192
            clear BK196
            clear HB
            have BK189 := n0
            have BK190 := n1
            have BK192 := n2
            have BK196 := n3
            have HB := n4
            have BK202 := n5
            have GW202 := n6
            have GE202 := n7
            have NB189_202 := n8
            have NB202_189 := n9
            have NB190_202 := n10
            have NB202_190 := n11
            have NB192_202 := n12
            have NB202_192 := n13
            have NB196_202 := n14
            have NB202_196 := n15
            clear n0 n1 n2 n3 n4 n5 n6 n7 n8 n9 n10 n11 n12 n13 n14 n15
            clear hb hbox hg
            refine hK.out _ _ ⟨(blk_cell BK189.out 0).trans rfl, (blk_cell BK189.out 1).trans rfl, (blk_cell BK192.out 0).trans rfl, (blk_cell BK192.out 1).trans rfl, ((HB.out.cell (World.block_lt_of_cell? w _ hw197_0)).trans hw197_0), ((HB.out.cell (World.block_lt_of_cell? w _ hw197_1)).trans hw197_1)⟩ (fun hHeld => ?_)
            clear hK K
            refine norm_ (a' := ?_) ?_ ?_
            rotate_left
            ·show Act.put _ (some 10) _ = _
             simp only [Act.put, List.setIfInBounds_toArray, List.set_cons_zero, List.set_cons_succ, i64_w, i32_w]
             rfl
            exact norm_ (by simp only [putAll, Act.put, List.setIfInBounds_toArray, List.set_cons_zero, List.set_cons_succ]) (hCont (gb202) _ ⟨hHeld, (by (with_reducible repeat (first | refine blk_drewN ?_ _ | refine blk_drew ?_ | refine blk_alloc ?_ _)); exact BK189.out), (by (with_reducible repeat (first | refine blk_drewN ?_ _ | refine blk_drew ?_ | refine blk_alloc ?_ _)); exact BK190.out), (by (with_reducible repeat (first | refine blk_drewN ?_ _ | refine blk_drew ?_ | refine blk_alloc ?_ _)); exact BK192.out), (by (with_reducible repeat (first | refine blk_drewN ?_ _ | refine blk_drew ?_ | refine blk_alloc ?_ _)); exact BK196.out), (by (with_reducible repeat (first | refine blk_drewN ?_ _ | refine blk_drew ?_ | refine blk_alloc ?_ _)); exact BK202.out), GW202.out, GE202.out, NB189_202.out, NB202_189.out, NB190_202.out, NB202_190.out, NB192_202.out, NB202_192.out, NB196_202.out, NB202_196.out, (by repeat (first | (with_reducible first | exact HB.out | apply below_alloc | apply pw_below_drewN | apply below_drew1 | refine below_set ?_ GE189.out | refine below_set ?_ GE190.out | refine below_set ?_ GE192.out | refine below_set ?_ GE196.out | refine below_set ?_ GE202.out) | exact HB.out))⟩)
           ·skip
            refine box_step ?hg (N := 10) ?hd (cs := #[.int .i64 0, .int .i64 0, .int .i64 0, .bool false]) (t := 89) ?hr ?_; (case hd => rfl); (case hg => rfl); (case hr => first | (go_simp; done) | (go_simp; rfl))
            intro gb202 hg w72 hbox hb
            have n0 := Aside0.mk (blk_below (g := gb189) (o := .cells #[.slice (some ad191) l0_0.length c0_0, .int .i64 a0_1] 24 (0, 0)) (by (with_reducible repeat (first | refine blk_drewN ?_ _ | refine blk_drew ?_ | refine blk_alloc ?_ _)); exact BK189.out) hb)
            have n1 := Aside0.mk (blk_below (g := gb190) (o := .cells #[.int .i64 x191000_1, .int .i64 x191001_1, .int .i64 x191002_1, .bool x191003_1] 89 (0, 0)) (by (with_reducible repeat (first | refine blk_drewN ?_ _ | refine blk_drew ?_ | refine blk_alloc ?_ _)); exact BK190.out) hb)
            have n2 := Aside0.mk (blk_below (g := gb192) (o := .cells #[.bool false, .slice (some ad197) ((rd_T55 l0_0 a1).f2.f1).length c191_3] 53 (0, 0)) (by (with_reducible repeat (first | refine blk_drewN ?_ _ | refine blk_drew ?_ | refine blk_alloc ?_ _)); exact BK192.out) hb)
            have n3 := Aside0.mk (blk_below (g := gb196) (o := .cells #[.int .i64 x197000_1, .int .i64 x197001_1, .int .i64 x197002_1, .bool false] 89 (0, 0)) (by (with_reducible repeat (first | refine blk_drewN ?_ _ | refine blk_drew ?_ | refine blk_alloc ?_ _)); exact BK196.out) hb)
            have n4 := Aside0.mk (below_step (by repeat (first | (with_reducible first | exact HB.out | apply below_alloc | apply pw_below_drewN | apply below_drew1 | refine below_set ?_ GE189.out | refine below_set ?_ GE190.out | refine below_set ?_ GE192.out | refine below_set ?_ GE196.out) | exact HB.out)) hb)
            have n5 := Aside0.mk (hbox)
            have n6 := Aside0.mk ((by rw [hg]; exact (below_size (by repeat (first | (with_reducible first | exact HB.out | apply below_alloc | apply pw_below_drewN | apply below_drew1 | refine below_set ?_ GE189.out | refine below_set ?_ GE190.out | refine below_set ?_ GE192.out | refine below_set ?_ GE196.out) | exact HB.out))) : w.heap.size ≤ gb202))
            have n7 := Aside0.mk ((by rw [hg]; exact (below_size (by repeat (first | (with_reducible first | exact HB.out | apply below_alloc | apply pw_below_drewN | apply below_drew1 | refine below_set ?_ GE189.out | refine below_set ?_ GE190.out | refine below_set ?_ GE192.out | refine below_set ?_ GE196.out) | exact HB.out))) : w.heap.size ≤ gb202))
            have n8 := Aside0.mk ((by rw [hg]; exact Nat.ne_of_lt (blk_lt (g := gb189) (o := .cells #[.slice (some ad191) l0_0.length c0_0, .int .i64 a0_1] 24 (0, 0)) (by (with_reducible repeat (first | refine blk_drewN ?_ _ | refine blk_drew ?_ | refine blk_alloc ?_ _)); exact BK189.out)) : gb189 ≠ gb202))
            have n9 := Aside0.mk ((by rw [hg]; exact Nat.ne_of_gt (blk_lt (g := gb189) (o := .cells #[.slice (some ad191) l0_0.length c0_0, .int .i64 a0_1] 24 (0, 0)) (by (with_reducible repeat (first | refine blk_drewN ?_ _ | refine blk_drew ?_ | refine blk_alloc ?_ _)); exact BK189.out)) : gb202 ≠ gb189))
            have n10 := Aside0.mk ((by rw [hg]; exact Nat.ne_of_lt (blk_lt (g := gb190) (o := .cells #[.int .i64 x191000_1, .int .i64 x191001_1, .int .i64 x191002_1, .bool x191003_1] 89 (0, 0)) (by (with_reducible repeat (first | refine blk_drewN ?_ _ | refine blk_drew ?_ | refine blk_alloc ?_ _)); exact BK190.out)) : gb190 ≠ gb202))
            have n11 := Aside0.mk ((by rw [hg]; exact Nat.ne_of_gt (blk_lt (g := gb190) (o := .cells #[.int .i64 x191000_1, .int .i64 x191001_1, .int .i64 x191002_1, .bool x191003_1] 89 (0, 0)) (by (with_reducible repeat (first | refine blk_drewN ?_ _ | refine blk_drew ?_ | refine blk_alloc ?_ _)); exact BK190.out)) : gb202 ≠ gb190))
            have n12 := Aside0.mk ((by rw [hg]; exact Nat.ne_of_lt (blk_lt (g := gb192) (o := .cells #[.bool false, .slice (some ad197) ((rd_T55 l0_0 a1).f2.f1).length c191_3] 53 (0, 0)) (by (with_reducible repeat (first | refine blk_drewN ?_ _ | refine blk_drew ?_ | refine blk_alloc ?_ _)); exact BK192.out)) : gb192 ≠ gb202))
            have n13 := Aside0.mk ((by rw [hg]; exact Nat.ne_of_gt (blk_lt (g := gb192) (o := .cells #[.bool false, .slice (some ad197) ((rd_T55 l0_0 a1).f2.f1).length c191_3] 53 (0, 0)) (by (with_reducible repeat (first | refine blk_drewN ?_ _ | refine blk_drew ?_ | refine blk_alloc ?_ _)); exact BK192.out)) : gb202 ≠ gb192))
            have n14 := Aside0.mk ((by rw [hg]; exact Nat.ne_of_lt (blk_lt (g := gb196) (o := .cells #[.int .i64 x197000_1, .int .i64 x197001_1, .int .i64 x197002_1, .bool false] 89 (0, 0)) (by (with_reducible repeat (first | refine blk_drewN ?_ _ | refine blk_drew ?_ | refine blk_alloc ?_ _)); exact BK196.out)) : gb196 ≠ gb202))
            have n15 := Aside0.mk ((by rw [hg]; exact Nat.ne_of_gt (blk_lt (g := gb196) (o := .cells #[.int .i64 x197000_1, .int .i64 x197001_1, .int .i64 x197002_1, .bool false] 89 (0, 0)) (by (with_reducible repeat (first | refine blk_drewN ?_ _ | refine blk_drew ?_ | refine blk_alloc ?_ _)); exact BK196.out)) : gb202 ≠ gb196))
            clear BK189
            clear BK190
            clear BK192
            clear BK196
            clear HB
            have BK189 := n0
            have BK190 := n1
            have BK192 := n2
            have BK196 := n3
            have HB := n4
            have BK202 := n5
            have GW202 := n6
            have GE202 := n7
            have NB189_202 := n8
            have NB202_189 := n9
            have NB190_202 := n10
            have NB202_190 := n11
            have NB192_202 := n12
            have NB202_192 := n13
            have NB196_202 := n14
            have NB202_196 := n15
            clear n0 n1 n2 n3 n4 n5 n6 n7 n8 n9 n10 n11 n12 n13 n14 n15
            clear hb hbox hg
            refine hK.out _ _ ⟨(blk_cell BK189.out 0).trans rfl, (blk_cell BK189.out 1).trans rfl, (blk_cell BK192.out 0).trans rfl, (blk_cell BK192.out 1).trans rfl, ((HB.out.cell (World.block_lt_of_cell? w _ hw197_0)).trans hw197_0), ((HB.out.cell (World.block_lt_of_cell? w _ hw197_1)).trans hw197_1)⟩ (fun hHeld => ?_)
            clear hK K
            refine norm_ (a' := ?_) ?_ ?_
            rotate_left
            ·show Act.put _ (some 10) _ = _
             simp only [Act.put, List.setIfInBounds_toArray, List.set_cons_zero, List.set_cons_succ, i64_w, i32_w]
             rfl
            refine one_ (i := 9) (N := some 64) #[true, true, true, true, true, true, true, true, true, true, true, false] rfl rfl (one_of HT_.out (by kernel_rfl)) (by decide) (fun K hK => ?_)
            refine goes_ Try.func57 (by kernel_rfl) rfl #[.agg #[.slice (some ad191) l0_0.length c0_0, .int .i64 a0_1], .int .i64 ((rd_T49 ((rd_T55 l0_0 a1).f2.f1) x9_1).f1), .int .i64 (wrap64 (a2 - 1))] (by rfl) rfl rfl (by (try simp only [List.map_toArray, List.map_cons, List.map_nil]); first | done | rfl | (simp only [List.length_drop, List.length_take]; rfl)) ?_
            with_reducible refine (ih k1 (by have := HK1.out; omega) _ _ l0_0 a0_1 ((rd_T49 ((rd_T55 l0_0 a1).f2.f1) x9_1).f1) (wrap64 (a2 - 1)) t198 t199 t200 t201 _ ?side1 ?side2 A65.out).mono ?_
            (case side1 => repeat (first | exact (Kd.C_below HR0_0.out HB.out) | (with_reducible refine Kd.C_alloc ?_ _) | (with_reducible refine Kd.C_drewN ?_ _) | (with_reducible refine Kd.C_drew ?_)))
            (case side2 => exact HC0_0.out)
            rintro e w73 ⟨rfl, hb⟩
            refine ⟨_, rfl, ?_⟩
            have n0 := Aside0.mk (blk_below (g := gb189) (o := .cells #[.slice (some ad191) l0_0.length c0_0, .int .i64 a0_1] 24 (0, 0)) (by (with_reducible repeat (first | refine blk_drewN ?_ _ | refine blk_drew ?_ | refine blk_alloc ?_ _)); exact BK189.out) hb)
            have n1 := Aside0.mk (blk_below (g := gb190) (o := .cells #[.int .i64 x191000_1, .int .i64 x191001_1, .int .i64 x191002_1, .bool x191003_1] 89 (0, 0)) (by (with_reducible repeat (first | refine blk_drewN ?_ _ | refine blk_drew ?_ | refine blk_alloc ?_ _)); exact BK190.out) hb)
            have n2 := Aside0.mk (blk_below (g := gb192) (o := .cells #[.bool false, .slice (some ad197) ((rd_T55 l0_0 a1).f2.f1).length c191_3] 53 (0, 0)) (by (with_reducible repeat (first | refine blk_drewN ?_ _ | refine blk_drew ?_ | refine blk_alloc ?_ _)); exact BK192.out) hb)
            have n3 := Aside0.mk (blk_below (g := gb196) (o := .cells #[.int .i64 x197000_1, .int .i64 x197001_1, .int .i64 x197002_1, .bool false] 89 (0, 0)) (by (with_reducible repeat (first | refine blk_drewN ?_ _ | refine blk_drew ?_ | refine blk_alloc ?_ _)); exact BK196.out) hb)
            have n4 := Aside0.mk (blk_below (g := gb202) (o := .cells #[.int .i64 0, .int .i64 0, .int .i64 0, .bool false] 89 (0, 0)) (by (with_reducible repeat (first | refine blk_drewN ?_ _ | refine blk_drew ?_ | refine blk_alloc ?_ _)); exact BK202.out) hb)
            have n5 := Aside0.mk (below_step (by repeat (first | (with_reducible first | exact HB.out | apply below_alloc | apply pw_below_drewN | apply below_drew1 | refine below_set ?_ GE189.out | refine below_set ?_ GE190.out | refine below_set ?_ GE192.out | refine below_set ?_ GE196.out | refine below_set ?_ GE202.out) | exact HB.out)) hb)
            clear BK189
            clear BK190
            clear BK192
            clear BK196
            clear BK202
            clear HB
            have BK189 := n0
            have BK190 := n1
            have BK192 := n2
            have BK196 := n3
            have BK202 := n4
            have HB := n5
            clear n0 n1 n2 n3 n4 n5
            (try clear hb)
            (try clear hb2)
            (try clear hk)
            (try clear hi)
            refine hK.out _ _ ⟨(blk_cell BK189.out 0).trans rfl, (blk_cell BK189.out 1).trans rfl, (blk_cell BK192.out 0).trans rfl, (blk_cell BK192.out 1).trans rfl, ((HB.out.cell (World.block_lt_of_cell? w _ hw197_0)).trans hw197_0), ((HB.out.cell (World.block_lt_of_cell? w _ hw197_1)).trans hw197_1)⟩ (fun hHeld => ?_)
            clear hK K
            refine norm_ (a' := ?_) ?_ ?_
            rotate_left
            ·show Act.put _ (some 64) _ = _
             simp only [Act.put, List.setIfInBounds_toArray, List.set_cons_zero, List.set_cons_succ, i64_w, i32_w]
             rfl
            exact norm_ (by simp only [putAll, Act.put, List.setIfInBounds_toArray, List.set_cons_zero, List.set_cons_succ]) (hCont (gb202) _ ⟨hHeld, (by (with_reducible repeat (first | refine blk_drewN ?_ _ | refine blk_drew ?_ | refine blk_alloc ?_ _)); exact BK189.out), (by (with_reducible repeat (first | refine blk_drewN ?_ _ | refine blk_drew ?_ | refine blk_alloc ?_ _)); exact BK190.out), (by (with_reducible repeat (first | refine blk_drewN ?_ _ | refine blk_drew ?_ | refine blk_alloc ?_ _)); exact BK192.out), (by (with_reducible repeat (first | refine blk_drewN ?_ _ | refine blk_drew ?_ | refine blk_alloc ?_ _)); exact BK196.out), (by (with_reducible repeat (first | refine blk_drewN ?_ _ | refine blk_drew ?_ | refine blk_alloc ?_ _)); exact BK202.out), GW202.out, GE202.out, NB189_202.out, NB202_189.out, NB190_202.out, NB202_190.out, NB192_202.out, NB202_192.out, NB196_202.out, NB202_196.out, (by repeat (first | (with_reducible first | exact HB.out | apply below_alloc | apply pw_below_drewN | apply below_drew1 | refine below_set ?_ GE189.out | refine below_set ?_ GE190.out | refine below_set ?_ GE192.out | refine below_set ?_ GE196.out | refine below_set ?_ GE202.out) | exact HB.out))⟩)
          rintro gb202 w74 ⟨hS_, h0_, h1_, h2_, h3_, h4_, h5_, h6_, h7_, h8_, h9_, h10_, h11_, h12_, h13_, h14_, h15_⟩
          have n0 : Aside0 (w74.heap[gb189]? = some (.cells #[.slice (some ad191) l0_0.length c0_0, .int .i64 a0_1] 24 (0, 0))) := ⟨h0_⟩
          have n1 : Aside0 (w74.heap[gb190]? = some (.cells #[.int .i64 x191000_1, .int .i64 x191001_1, .int .i64 x191002_1, .bool x191003_1] 89 (0, 0))) := ⟨h1_⟩
          have n2 : Aside0 (w74.heap[gb192]? = some (.cells #[.bool false, .slice (some ad197) ((rd_T55 l0_0 a1).f2.f1).length c191_3] 53 (0, 0))) := ⟨h2_⟩
          have n3 : Aside0 (w74.heap[gb196]? = some (.cells #[.int .i64 x197000_1, .int .i64 x197001_1, .int .i64 x197002_1, .bool false] 89 (0, 0))) := ⟨h3_⟩
          have n4 : Aside0 (w74.heap[gb202]? = some (.cells #[.int .i64 0, .int .i64 0, .int .i64 0, .bool false] 89 (0, 0))) := ⟨h4_⟩
          have n5 : Aside0 (w.heap.size ≤ gb202) := ⟨h5_⟩
          have n6 : Aside0 (w.heap.size ≤ gb202) := ⟨h6_⟩
          have n7 : Aside0 (gb189 ≠ gb202) := ⟨h7_⟩
          have n8 : Aside0 (gb202 ≠ gb189) := ⟨h8_⟩
          have n9 : Aside0 (gb190 ≠ gb202) := ⟨h9_⟩
          have n10 : Aside0 (gb202 ≠ gb190) := ⟨h10_⟩
          have n11 : Aside0 (gb192 ≠ gb202) := ⟨h11_⟩
          have n12 : Aside0 (gb202 ≠ gb192) := ⟨h12_⟩
          have n13 : Aside0 (gb196 ≠ gb202) := ⟨h13_⟩
          have n14 : Aside0 (gb202 ≠ gb196) := ⟨h14_⟩
          have n15 : Aside0 (Below w.heap.size w w74) := ⟨h15_⟩
          clear BK189
          clear BK190
          clear BK192
          clear BK196
          clear HB
          clear h0_ h1_ h2_ h3_ h4_ h5_ h6_ h7_ h8_ h9_ h10_ h11_ h12_ h13_ h14_ h15_
          have BK189 := n0
          have BK190 := n1
          have BK192 := n2
          have BK196 := n3
          have BK202 := n4
          have GW202 := n5
          have GE202 := n6
          have NB189_202 := n7
          have NB202_189 := n8
          have NB190_202 := n9
          have NB202_190 := n10
          have NB192_202 := n11
          have NB202_192 := n12
          have NB196_202 := n13
          have NB202_196 := n14
          have HB := n15
          clear n0 n1 n2 n3 n4 n5 n6 n7 n8 n9 n10 n11 n12 n13 n14 n15
          have hHeld : w74.cell? ⟨gb189, 0, none⟩ = some (.slice (some ad191) l0_0.length c0_0) ∧ w74.cell? ⟨gb189, 1, none⟩ = some (.int .i64 a0_1) ∧ w74.cell? ⟨gb192, 0, none⟩ = some (.bool false) ∧ w74.cell? ⟨gb192, 1, none⟩ = some (.slice (some ad197) ((rd_T55 l0_0 a1).f2.f1).length c191_3) ∧ w74.cell? (ad197.add ((x9_1).toNat * 2)) = some (.int .i64 ((rd_T49 ((rd_T55 l0_0 a1).f2.f1) x9_1).f0)) ∧ w74.cell? ⟨(ad197.add ((x9_1).toNat * 2)).block, (ad197.add ((x9_1).toNat * 2)).off + 1, none⟩ = some (.int .i64 ((rd_T49 ((rd_T55 l0_0 a1).f2.f1) x9_1).f1)) := hS_
          refine norm_ (a' := ?_) ?_ ?_
          rotate_left
          ·simp only [putAll, Act.put, List.setIfInBounds_toArray, List.set_cons_zero, List.set_cons_succ]
           rfl
          refine one_ (i := 11) (N := none) #[true, true, true, true, true, true, true, true, true, true, true, true] rfl rfl (one_of HT_.out (by kernel_rfl)) (by decide) (fun K hK => ?_)
          have hs75 : w74.cell? ⟨gb202, 0, none⟩ = some (.int .i64 0) := (blk_cell BK202.out 0).trans rfl
          have hfs75 := blk_frozen BK202.out 0
          have hns75_0 := NB189_202.out
          have hns75_1 := NB190_202.out
          have hns75_2 := NB192_202.out
          have hns75_3 := NB196_202.out
          have hms75_0 := NB202_189.out
          have hms75_1 := NB202_190.out
          have hms75_2 := NB202_192.out
          have hms75_3 := NB202_196.out
          have hs76 : w74.cell? ⟨gb202, 1, none⟩ = some (.int .i64 0) := (blk_cell BK202.out 1).trans rfl
          have hfs76 := blk_frozen BK202.out 1
          have hns76_0 := NB189_202.out
          have hns76_1 := NB190_202.out
          have hns76_2 := NB192_202.out
          have hns76_3 := NB196_202.out
          have hms76_0 := NB202_189.out
          have hms76_1 := NB202_190.out
          have hms76_2 := NB202_192.out
          have hms76_3 := NB202_196.out
          have hs77 : w74.cell? ⟨gb202, 2, none⟩ = some (.int .i64 0) := (blk_cell BK202.out 2).trans rfl
          have hfs77 := blk_frozen BK202.out 2
          have hns77_0 := NB189_202.out
          have hns77_1 := NB190_202.out
          have hns77_2 := NB192_202.out
          have hns77_3 := NB196_202.out
          have hms77_0 := NB202_189.out
          have hms77_1 := NB202_190.out
          have hms77_2 := NB202_192.out
          have hms77_3 := NB202_196.out
          have hs78 : w74.cell? ⟨gb202, 3, none⟩ = some (.bool false) := (blk_cell BK202.out 3).trans rfl
          have hfs78 := blk_frozen BK202.out 3
          have hns78_0 := NB189_202.out
          have hns78_1 := NB190_202.out
          have hns78_2 := NB192_202.out
          have hns78_3 := NB196_202.out
          have hms78_0 := NB202_189.out
          have hms78_1 := NB202_190.out
          have hms78_2 := NB202_192.out
          have hms78_3 := NB202_196.out
          refine skip_ (w1 := ?_) (by rfl) rfl ?_ ?_
          rotate_left
          ·go_simp
           rfl
          refine hK.out _ _ ⟨((cell_far (p := ⟨gb202, _, none⟩) NB189_202.out _).trans (((cell_far (p := ⟨gb202, _, none⟩) NB189_202.out _).trans (((cell_far (p := ⟨gb202, _, none⟩) NB189_202.out _).trans (((cell_far (p := ⟨gb202, _, none⟩) NB189_202.out _).trans (hHeld.1)))))))), ((cell_far (p := ⟨gb202, _, none⟩) NB189_202.out _).trans (((cell_far (p := ⟨gb202, _, none⟩) NB189_202.out _).trans (((cell_far (p := ⟨gb202, _, none⟩) NB189_202.out _).trans (((cell_far (p := ⟨gb202, _, none⟩) NB189_202.out _).trans (hHeld.2.1)))))))), ((cell_far (p := ⟨gb202, _, none⟩) NB192_202.out _).trans (((cell_far (p := ⟨gb202, _, none⟩) NB192_202.out _).trans (((cell_far (p := ⟨gb202, _, none⟩) NB192_202.out _).trans (((cell_far (p := ⟨gb202, _, none⟩) NB192_202.out _).trans (hHeld.2.2.1)))))))), ((cell_far (p := ⟨gb202, _, none⟩) NB192_202.out _).trans (((cell_far (p := ⟨gb202, _, none⟩) NB192_202.out _).trans (((cell_far (p := ⟨gb202, _, none⟩) NB192_202.out _).trans (((cell_far (p := ⟨gb202, _, none⟩) NB192_202.out _).trans (hHeld.2.2.2.1)))))))), ((cell_far (p := ⟨gb202, _, none⟩) (by first | exact Nat.ne_of_lt (Nat.lt_of_lt_of_le (by have := World.block_lt_of_cell? _ _ hw197_0; first | rwa [add_block] at this | exact this) GW202.out) | (rw [add_block]; exact Nat.ne_of_lt (Nat.lt_of_lt_of_le (by have := World.block_lt_of_cell? _ _ hw197_0; first | rwa [add_block] at this | exact this) GW202.out)) | (show (Addr.add _ _).block ≠ _; rw [add_block]; exact Nat.ne_of_lt (Nat.lt_of_lt_of_le (by have := World.block_lt_of_cell? _ _ hw197_0; first | rwa [add_block] at this | exact this) GW202.out)) | (dsimp only; exact Nat.ne_of_lt (Nat.lt_of_lt_of_le (by have := World.block_lt_of_cell? _ _ hw197_0; first | rwa [add_block] at this | exact this) GW202.out))) _).trans (((cell_far (p := ⟨gb202, _, none⟩) (by first | exact Nat.ne_of_lt (Nat.lt_of_lt_of_le (by have := World.block_lt_of_cell? _ _ hw197_0; first | rwa [add_block] at this | exact this) GW202.out) | (rw [add_block]; exact Nat.ne_of_lt (Nat.lt_of_lt_of_le (by have := World.block_lt_of_cell? _ _ hw197_0; first | rwa [add_block] at this | exact this) GW202.out)) | (show (Addr.add _ _).block ≠ _; rw [add_block]; exact Nat.ne_of_lt (Nat.lt_of_lt_of_le (by have := World.block_lt_of_cell? _ _ hw197_0; first | rwa [add_block] at this | exact this) GW202.out)) | (dsimp only; exact Nat.ne_of_lt (Nat.lt_of_lt_of_le (by have := World.block_lt_of_cell? _ _ hw197_0; first | rwa [add_block] at this | exact this) GW202.out))) _).trans (((cell_far (p := ⟨gb202, _, none⟩) (by first | exact Nat.ne_of_lt (Nat.lt_of_lt_of_le (by have := World.block_lt_of_cell? _ _ hw197_0; first | rwa [add_block] at this | exact this) GW202.out) | (rw [add_block]; exact Nat.ne_of_lt (Nat.lt_of_lt_of_le (by have := World.block_lt_of_cell? _ _ hw197_0; first | rwa [add_block] at this | exact this) GW202.out)) | (show (Addr.add _ _).block ≠ _; rw [add_block]; exact Nat.ne_of_lt (Nat.lt_of_lt_of_le (by have := World.block_lt_of_cell? _ _ hw197_0; first | rwa [add_block] at this | exact this) GW202.out)) | (dsimp only; exact Nat.ne_of_lt (Nat.lt_of_lt_of_le (by have := World.block_lt_of_cell? _ _ hw197_0; first | rwa [add_block] at this | exact this) GW202.out))) _).trans (((cell_far (p := ⟨gb202, _, none⟩) (by first | exact Nat.ne_of_lt (Nat.lt_of_lt_of_le (by have := World.block_lt_of_cell? _ _ hw197_0; first | rwa [add_block] at this | exact this) GW202.out) | (rw [add_block]; exact Nat.ne_of_lt (Nat.lt_of_lt_of_le (by have := World.block_lt_of_cell? _ _ hw197_0; first | rwa [add_block] at this | exact this) GW202.out)) | (show (Addr.add _ _).block ≠ _; rw [add_block]; exact Nat.ne_of_lt (Nat.lt_of_lt_of_le (by have := World.block_lt_of_cell? _ _ hw197_0; first | rwa [add_block] at this | exact this) GW202.out)) | (dsimp only; exact Nat.ne_of_lt (Nat.lt_of_lt_of_le (by have := World.block_lt_of_cell? _ _ hw197_0; first | rwa [add_block] at this | exact this) GW202.out))) _).trans (hHeld.2.2.2.2.1)))))))), ((cell_far (p := ⟨gb202, _, none⟩) (by first | exact Nat.ne_of_lt (Nat.lt_of_lt_of_le (by have := World.block_lt_of_cell? _ _ hw197_1; first | rwa [add_block] at this | exact this) GW202.out) | (rw [add_block]; exact Nat.ne_of_lt (Nat.lt_of_lt_of_le (by have := World.block_lt_of_cell? _ _ hw197_1; first | rwa [add_block] at this | exact this) GW202.out)) | (show (Addr.add _ _).block ≠ _; rw [add_block]; exact Nat.ne_of_lt (Nat.lt_of_lt_of_le (by have := World.block_lt_of_cell? _ _ hw197_1; first | rwa [add_block] at this | exact this) GW202.out)) | (dsimp only; exact Nat.ne_of_lt (Nat.lt_of_lt_of_le (by have := World.block_lt_of_cell? _ _ hw197_1; first | rwa [add_block] at this | exact this) GW202.out))) _).trans (((cell_far (p := ⟨gb202, _, none⟩) (by first | exact Nat.ne_of_lt (Nat.lt_of_lt_of_le (by have := World.block_lt_of_cell? _ _ hw197_1; first | rwa [add_block] at this | exact this) GW202.out) | (rw [add_block]; exact Nat.ne_of_lt (Nat.lt_of_lt_of_le (by have := World.block_lt_of_cell? _ _ hw197_1; first | rwa [add_block] at this | exact this) GW202.out)) | (show (Addr.add _ _).block ≠ _; rw [add_block]; exact Nat.ne_of_lt (Nat.lt_of_lt_of_le (by have := World.block_lt_of_cell? _ _ hw197_1; first | rwa [add_block] at this | exact this) GW202.out)) | (dsimp only; exact Nat.ne_of_lt (Nat.lt_of_lt_of_le (by have := World.block_lt_of_cell? _ _ hw197_1; first | rwa [add_block] at this | exact this) GW202.out))) _).trans (((cell_far (p := ⟨gb202, _, none⟩) (by first | exact Nat.ne_of_lt (Nat.lt_of_lt_of_le (by have := World.block_lt_of_cell? _ _ hw197_1; first | rwa [add_block] at this | exact this) GW202.out) | (rw [add_block]; exact Nat.ne_of_lt (Nat.lt_of_lt_of_le (by have := World.block_lt_of_cell? _ _ hw197_1; first | rwa [add_block] at this | exact this) GW202.out)) | (show (Addr.add _ _).block ≠ _; rw [add_block]; exact Nat.ne_of_lt (Nat.lt_of_lt_of_le (by have := World.block_lt_of_cell? _ _ hw197_1; first | rwa [add_block] at this | exact this) GW202.out)) | (dsimp only; exact Nat.ne_of_lt (Nat.lt_of_lt_of_le (by have := World.block_lt_of_cell? _ _ hw197_1; first | rwa [add_block] at this | exact this) GW202.out))) _).trans (((cell_far (p := ⟨gb202, _, none⟩) (by first | exact Nat.ne_of_lt (Nat.lt_of_lt_of_le (by have := World.block_lt_of_cell? _ _ hw197_1; first | rwa [add_block] at this | exact this) GW202.out) | (rw [add_block]; exact Nat.ne_of_lt (Nat.lt_of_lt_of_le (by have := World.block_lt_of_cell? _ _ hw197_1; first | rwa [add_block] at this | exact this) GW202.out)) | (show (Addr.add _ _).block ≠ _; rw [add_block]; exact Nat.ne_of_lt (Nat.lt_of_lt_of_le (by have := World.block_lt_of_cell? _ _ hw197_1; first | rwa [add_block] at this | exact this) GW202.out)) | (dsimp only; exact Nat.ne_of_lt (Nat.lt_of_lt_of_le (by have := World.block_lt_of_cell? _ _ hw197_1; first | rwa [add_block] at this | exact this) GW202.out))) _).trans (hHeld.2.2.2.2.2))))))))⟩ (fun hHeld => ?_)
          clear hK K
          refine done_ (done_of HT_.out (by kernel_rfl)) ?_
          go_upto_region 13 with (fail)
          go_cut [97] (fun v97 wc => ∃ (kq : Nat) (x97_65 : Bool), v97 = .bool x97_65 ∧ Aside0 (assartref07_below.j1 kq a2 x9_1 x97_65 l0_0 a0_1 false ((rd_T55 l0_0 a1).f2.f1) x197000_1 x197001_1 x197002_1 false t198 t199 t200 t201 = some (r1, r2, r3, r4)) ∧ Aside0 (kq ≤ k1) ∧ Aside0 (wc.heap[gb189]? = some (.cells #[(.slice (some ad191) l0_0.length c0_0), .int .i64 a0_1] 24 (0, 0))) ∧ Aside0 (wc.heap[gb190]? = some (.cells #[.int .i64 x191000_1, .int .i64 x191001_1, .int .i64 x191002_1, .bool x191003_1] 89 (0, 0))) ∧ Aside0 (wc.heap[gb192]? = some (.cells #[.bool false, (.slice (some ad197) ((rd_T55 l0_0 a1).f2.f1).length c191_3)] 53 (0, 0))) ∧ Aside0 (wc.heap[gb196]? = some (.cells #[.int .i64 x197000_1, .int .i64 x197001_1, .int .i64 x197002_1, .bool false] 89 (0, 0))) ∧ Aside0 (wc.heap[gb202]? = some (.cells #[.int .i64 t198, .int .i64 t199, .int .i64 t200, .bool t201] 89 (0, 0))) ∧ Aside0 (Below w.heap.size w wc))
          case first =>
           have H := HC66.out
           clear HC66
           by_cases c79 : t201 = true
           ·subst c79
            have H1 : (if t198 = ((rd_T49 ((rd_T55 l0_0 a1).f2.f1) x9_1).f0) then (if x9_1 > 0 then (if x197001_1 ≥ t198 then (assartref07_below.j1 k1 a2 x9_1 true l0_0 a0_1 false ((rd_T55 l0_0 a1).f2.f1) x197000_1 x197001_1 x197002_1 false t198 t199 t200 true) else (assartref07_below.j1 k1 a2 x9_1 (x197002_1 != (wrap64 (t200 + 1))) l0_0 a0_1 false ((rd_T55 l0_0 a1).f2.f1) x197000_1 x197001_1 x197002_1 false t198 t199 t200 true)) else (assartref07_below.j1 k1 a2 x9_1 false l0_0 a0_1 false ((rd_T55 l0_0 a1).f2.f1) x197000_1 x197001_1 x197002_1 false t198 t199 t200 true)) else (assartref07_below.j1 k1 a2 x9_1 true l0_0 a0_1 false ((rd_T55 l0_0 a1).f2.f1) x197000_1 x197001_1 x197002_1 false t198 t199 t200 true)) = some (r1, r2, r3, r4) := by rw [if_pos rfl] at H; exact H
            clear H
            have H := H1
            clear H1
            by_cases c80 : t198 = ((rd_T49 ((rd_T55 l0_0 a1).f2.f1) x9_1).f0)
            ·rw [if_pos c80] at H
             have c80b0 : (t198 == ((rd_T49 ((rd_T55 l0_0 a1).f2.f1) x9_1).f0)) = true := beq_iff_eq.mpr c80
             have c80b1 : (t198 != ((rd_T49 ((rd_T55 l0_0 a1).f2.f1) x9_1).f0)) = false := bne_eq_false_iff_eq.mpr c80
             clear c80
             (first | rw [c80b0] | (simp only [i64_w, i32_w]; rw [c80b0]) | skip)
             by_cases c81 : x9_1 > 0
             ·rw [if_pos c81] at H
              have c81b0 : decide (0 < x9_1) = true := decide_eq_true c81
              clear c81
              by_cases c82 : x197001_1 ≥ t198
              ·rw [if_pos c82] at H
               have c82b0 : decide (t198 ≤ x197001_1) = true := decide_eq_true c82
               clear c82
               have H' := Aside0.mk H
               clear H
               try go_wp2
               have n0 : Aside0 (((((w74.setCell ⟨gb202, 0, none⟩ (.int .i64 t198)).setCell ⟨gb202, 1, none⟩ (.int .i64 t199)).setCell ⟨gb202, 2, none⟩ (.int .i64 t200)).setCell ⟨gb202, 3, none⟩ (.bool true)).heap[gb189]? = some (.cells #[.slice (some ad191) l0_0.length c0_0, .int .i64 a0_1] 24 (0, 0))) := ⟨by (with_reducible repeat (first | refine blk_drewN ?_ _ | refine blk_drew ?_ | refine blk_alloc ?_ _)); refine blk_far ?_ NB189_202.out _; (with_reducible repeat (first | refine blk_drewN ?_ _ | refine blk_drew ?_ | refine blk_alloc ?_ _)); refine blk_far ?_ NB189_202.out _; (with_reducible repeat (first | refine blk_drewN ?_ _ | refine blk_drew ?_ | refine blk_alloc ?_ _)); refine blk_far ?_ NB189_202.out _; (with_reducible repeat (first | refine blk_drewN ?_ _ | refine blk_drew ?_ | refine blk_alloc ?_ _)); refine blk_far ?_ NB189_202.out _; (with_reducible repeat (first | refine blk_drewN ?_ _ | refine blk_drew ?_ | refine blk_alloc ?_ _)); exact BK189.out⟩
               have n1 : Aside0 (((((w74.setCell ⟨gb202, 0, none⟩ (.int .i64 t198)).setCell ⟨gb202, 1, none⟩ (.int .i64 t199)).setCell ⟨gb202, 2, none⟩ (.int .i64 t200)).setCell ⟨gb202, 3, none⟩ (.bool true)).heap[gb190]? = some (.cells #[.int .i64 x191000_1, .int .i64 x191001_1, .int .i64 x191002_1, .bool x191003_1] 89 (0, 0))) := ⟨by (with_reducible repeat (first | refine blk_drewN ?_ _ | refine blk_drew ?_ | refine blk_alloc ?_ _)); refine blk_far ?_ NB190_202.out _; (with_reducible repeat (first | refine blk_drewN ?_ _ | refine blk_drew ?_ | refine blk_alloc ?_ _)); refine blk_far ?_ NB190_202.out _; (with_reducible repeat (first | refine blk_drewN ?_ _ | refine blk_drew ?_ | refine blk_alloc ?_ _)); refine blk_far ?_ NB190_202.out _; (with_reducible repeat (first | refine blk_drewN ?_ _ | refine blk_drew ?_ | refine blk_alloc ?_ _)); refine blk_far ?_ NB190_202.out _; (with_reducible repeat (first | refine blk_drewN ?_ _ | refine blk_drew ?_ | refine blk_alloc ?_ _)); exact BK190.out⟩
               have n2 : Aside0 (((((w74.setCell ⟨gb202, 0, none⟩ (.int .i64 t198)).setCell ⟨gb202, 1, none⟩ (.int .i64 t199)).setCell ⟨gb202, 2, none⟩ (.int .i64 t200)).setCell ⟨gb202, 3, none⟩ (.bool true)).heap[gb192]? = some (.cells #[.bool false, .slice (some ad197) ((rd_T55 l0_0 a1).f2.f1).length c191_3] 53 (0, 0))) := ⟨by (with_reducible repeat (first | refine blk_drewN ?_ _ | refine blk_drew ?_ | refine blk_alloc ?_ _)); refine blk_far ?_ NB192_202.out _; (with_reducible repeat (first | refine blk_drewN ?_ _ | refine blk_drew ?_ | refine blk_alloc ?_ _)); refine blk_far ?_ NB192_202.out _; (with_reducible repeat (first | refine blk_drewN ?_ _ | refine blk_drew ?_ | refine blk_alloc ?_ _)); refine blk_far ?_ NB192_202.out _; (with_reducible repeat (first | refine blk_drewN ?_ _ | refine blk_drew ?_ | refine blk_alloc ?_ _)); refine blk_far ?_ NB192_202.out _; (with_reducible repeat (first | refine blk_drewN ?_ _ | refine blk_drew ?_ | refine blk_alloc ?_ _)); exact BK192.out⟩
               have n3 : Aside0 (((((w74.setCell ⟨gb202, 0, none⟩ (.int .i64 t198)).setCell ⟨gb202, 1, none⟩ (.int .i64 t199)).setCell ⟨gb202, 2, none⟩ (.int .i64 t200)).setCell ⟨gb202, 3, none⟩ (.bool true)).heap[gb196]? = some (.cells #[.int .i64 x197000_1, .int .i64 x197001_1, .int .i64 x197002_1, .bool false] 89 (0, 0))) := ⟨by (with_reducible repeat (first | refine blk_drewN ?_ _ | refine blk_drew ?_ | refine blk_alloc ?_ _)); refine blk_far ?_ NB196_202.out _; (with_reducible repeat (first | refine blk_drewN ?_ _ | refine blk_drew ?_ | refine blk_alloc ?_ _)); refine blk_far ?_ NB196_202.out _; (with_reducible repeat (first | refine blk_drewN ?_ _ | refine blk_drew ?_ | refine blk_alloc ?_ _)); refine blk_far ?_ NB196_202.out _; (with_reducible repeat (first | refine blk_drewN ?_ _ | refine blk_drew ?_ | refine blk_alloc ?_ _)); refine blk_far ?_ NB196_202.out _; (with_reducible repeat (first | refine blk_drewN ?_ _ | refine blk_drew ?_ | refine blk_alloc ?_ _)); exact BK196.out⟩
               have n4 : Aside0 (((((w74.setCell ⟨gb202, 0, none⟩ (.int .i64 t198)).setCell ⟨gb202, 1, none⟩ (.int .i64 t199)).setCell ⟨gb202, 2, none⟩ (.int .i64 t200)).setCell ⟨gb202, 3, none⟩ (.bool true)).heap[gb202]? = some (.cells #[.int .i64 t198, .int .i64 t199, .int .i64 t200, .bool true] 89 (0, 0))) := ⟨by (with_reducible repeat (first | refine blk_drewN ?_ _ | refine blk_drew ?_ | refine blk_alloc ?_ _)); refine blk_put (cs := #[.int .i64 t198, .int .i64 t199, .int .i64 t200, .bool false]) ?_ 3 _ rfl; (with_reducible repeat (first | refine blk_drewN ?_ _ | refine blk_drew ?_ | refine blk_alloc ?_ _)); refine blk_put (cs := #[.int .i64 t198, .int .i64 t199, .int .i64 0, .bool false]) ?_ 2 _ rfl; (with_reducible repeat (first | refine blk_drewN ?_ _ | refine blk_drew ?_ | refine blk_alloc ?_ _)); refine blk_put (cs := #[.int .i64 t198, .int .i64 0, .int .i64 0, .bool false]) ?_ 1 _ rfl; (with_reducible repeat (first | refine blk_drewN ?_ _ | refine blk_drew ?_ | refine blk_alloc ?_ _)); refine blk_put (cs := #[.int .i64 0, .int .i64 0, .int .i64 0, .bool false]) ?_ 0 _ rfl; (with_reducible repeat (first | refine blk_drewN ?_ _ | refine blk_drew ?_ | refine blk_alloc ?_ _)); exact BK202.out⟩
               have n5 : Aside0 (Below w.heap.size w ((((w74.setCell ⟨gb202, 0, none⟩ (.int .i64 t198)).setCell ⟨gb202, 1, none⟩ (.int .i64 t199)).setCell ⟨gb202, 2, none⟩ (.int .i64 t200)).setCell ⟨gb202, 3, none⟩ (.bool true))) := ⟨by repeat (first | (with_reducible first | exact HB.out | apply below_alloc | apply pw_below_drewN | apply below_drew1 | refine below_set ?_ GE189.out | refine below_set ?_ GE190.out | refine below_set ?_ GE192.out | refine below_set ?_ GE196.out | refine below_set ?_ GE202.out) | exact HB.out)⟩
               (try clear BK189)
               (try clear BK190)
               (try clear BK192)
               (try clear BK196)
               (try clear BK202)
               (try clear HB)
               generalize ((((w74.setCell ⟨gb202, 0, none⟩ (.int .i64 t198)).setCell ⟨gb202, 1, none⟩ (.int .i64 t199)).setCell ⟨gb202, 2, none⟩ (.int .i64 t200)).setCell ⟨gb202, 3, none⟩ (.bool true)) = w83 at n0 n1 n2 n3 n4 n5 ⊢
               have BK189 := n0
               have BK190 := n1
               have BK192 := n2
               have BK196 := n3
               have BK202 := n4
               have HB := n5
               clear n0 n1 n2 n3 n4 n5
               have p203 : 0 ≤ (x9_1 : Int) := of_decide_eq_true (by first | (with_reducible assumption) | assumption)
               have q203 : x9_1 < (((rd_T55 l0_0 a1).f2.f1).length : Int) := of_decide_eq_true (by first | (with_reducible assumption) | assumption)
               obtain ⟨ad203, e203, hx203_0, hx203_1⟩ := at_T49 HR191_3.out x9_1 p203 q203
               have hw203_1 := hx203_1
               have hw203_0 := hx203_0
               obtain rfl : ad197 = ad203 := (by injection e203)
               replace hx203_0 := (HB.out.cell (World.block_lt_of_cell? w _ hx203_0)).trans hx203_0
               replace hx203_1 := (HB.out.cell (World.block_lt_of_cell? w _ hx203_1)).trans hx203_1
               replace p203 := eq_true p203
               replace q203 := eq_true q203
               obtain ⟨y0_, y1_, y2_, y3_, y4_, y5_, y6_, y7_, y8_, y9_, y10_, y11_⟩ : w83.cell? ⟨gb202, 0, none⟩ = some (.int .i64 t198) ∧ w83.cell? ⟨gb202, 1, none⟩ = some (.int .i64 t199) ∧ w83.cell? ⟨gb202, 2, none⟩ = some (.int .i64 t200) ∧ w83.cell? ⟨gb202, 3, none⟩ = some (.bool true) ∧ w83.cell? ⟨gb192, 0, none⟩ = some (.bool false) ∧ w83.cell? ⟨gb192, 1, none⟩ = some (.slice (some ad197) ((rd_T55 l0_0 a1).f2.f1).length c191_3) ∧ w83.cell? ⟨gb196, 0, none⟩ = some (.int .i64 x197000_1) ∧ w83.cell? ⟨gb196, 1, none⟩ = some (.int .i64 x197001_1) ∧ w83.cell? ⟨gb196, 2, none⟩ = some (.int .i64 x197002_1) ∧ w83.cell? ⟨gb196, 3, none⟩ = some (.bool false) ∧ w83.cell? (ad197.add ((x9_1).toNat * 2)) = some (.int .i64 ((rd_T49 ((rd_T55 l0_0 a1).f2.f1) x9_1).f0)) ∧ w83.cell? ⟨(ad197.add ((x9_1).toNat * 2)).block, (ad197.add ((x9_1).toNat * 2)).off + 1, none⟩ = some (.int .i64 ((rd_T49 ((rd_T55 l0_0 a1).f2.f1) x9_1).f1)) := ⟨(blk_cell BK202.out 0).trans rfl, (blk_cell BK202.out 1).trans rfl, (blk_cell BK202.out 2).trans rfl, (blk_cell BK202.out 3).trans rfl, (blk_cell BK192.out 0).trans rfl, (blk_cell BK192.out 1).trans rfl, (blk_cell BK196.out 0).trans rfl, (blk_cell BK196.out 1).trans rfl, (blk_cell BK196.out 2).trans rfl, (blk_cell BK196.out 3).trans rfl, ((HB.out.cell (World.block_lt_of_cell? w _ hw203_0)).trans hw203_0), ((HB.out.cell (World.block_lt_of_cell? w _ hw203_1)).trans hw203_1)⟩
               go_quiet (fail)
               try go_wp2
               go_meet
               case rel => exact ⟨_, (true), (by first | rfl | (simp; done) | (simp [*]; done)), H', ⟨by have := HK1.out; first | omega | exact Nat.le_refl _⟩, ⟨by (with_reducible repeat (first | refine blk_drewN ?_ _ | refine blk_drew ?_ | refine blk_alloc ?_ _)); exact BK189.out⟩, ⟨by (with_reducible repeat (first | refine blk_drewN ?_ _ | refine blk_drew ?_ | refine blk_alloc ?_ _)); exact BK190.out⟩, ⟨by (with_reducible repeat (first | refine blk_drewN ?_ _ | refine blk_drew ?_ | refine blk_alloc ?_ _)); exact BK192.out⟩, ⟨by (with_reducible repeat (first | refine blk_drewN ?_ _ | refine blk_drew ?_ | refine blk_alloc ?_ _)); exact BK196.out⟩, ⟨by (with_reducible repeat (first | refine blk_drewN ?_ _ | refine blk_drew ?_ | refine blk_alloc ?_ _)); exact BK202.out⟩, ⟨by repeat (first | (with_reducible first | exact HB.out | apply below_alloc | apply pw_below_drewN | apply below_drew1 | refine below_set ?_ GE189.out | refine below_set ?_ GE190.out | refine below_set ?_ GE192.out | refine below_set ?_ GE196.out | refine below_set ?_ GE202.out) | exact HB.out)⟩⟩
              ·rw [if_neg c82] at H
               have c82b0 : decide (t198 ≤ x197001_1) = false := decide_eq_false c82
               clear c82
               have H' := Aside0.mk H
               clear H
               try go_wp2
               have n0 : Aside0 (((((w74.setCell ⟨gb202, 0, none⟩ (.int .i64 t198)).setCell ⟨gb202, 1, none⟩ (.int .i64 t199)).setCell ⟨gb202, 2, none⟩ (.int .i64 t200)).setCell ⟨gb202, 3, none⟩ (.bool true)).heap[gb189]? = some (.cells #[.slice (some ad191) l0_0.length c0_0, .int .i64 a0_1] 24 (0, 0))) := ⟨by (with_reducible repeat (first | refine blk_drewN ?_ _ | refine blk_drew ?_ | refine blk_alloc ?_ _)); refine blk_far ?_ NB189_202.out _; (with_reducible repeat (first | refine blk_drewN ?_ _ | refine blk_drew ?_ | refine blk_alloc ?_ _)); refine blk_far ?_ NB189_202.out _; (with_reducible repeat (first | refine blk_drewN ?_ _ | refine blk_drew ?_ | refine blk_alloc ?_ _)); refine blk_far ?_ NB189_202.out _; (with_reducible repeat (first | refine blk_drewN ?_ _ | refine blk_drew ?_ | refine blk_alloc ?_ _)); refine blk_far ?_ NB189_202.out _; (with_reducible repeat (first | refine blk_drewN ?_ _ | refine blk_drew ?_ | refine blk_alloc ?_ _)); exact BK189.out⟩
               have n1 : Aside0 (((((w74.setCell ⟨gb202, 0, none⟩ (.int .i64 t198)).setCell ⟨gb202, 1, none⟩ (.int .i64 t199)).setCell ⟨gb202, 2, none⟩ (.int .i64 t200)).setCell ⟨gb202, 3, none⟩ (.bool true)).heap[gb190]? = some (.cells #[.int .i64 x191000_1, .int .i64 x191001_1, .int .i64 x191002_1, .bool x191003_1] 89 (0, 0))) := ⟨by (with_reducible repeat (first | refine blk_drewN ?_ _ | refine blk_drew ?_ | refine blk_alloc ?_ _)); refine blk_far ?_ NB190_202.out _; (with_reducible repeat (first | refine blk_drewN ?_ _ | refine blk_drew ?_ | refine blk_alloc ?_ _)); refine blk_far ?_ NB190_202.out _; (with_reducible repeat (first | refine blk_drewN ?_ _ | refine blk_drew ?_ | refine blk_alloc ?_ _)); refine blk_far ?_ NB190_202.out _; (with_reducible repeat (first | refine blk_drewN ?_ _ | refine blk_drew ?_ | refine blk_alloc ?_ _)); refine blk_far ?_ NB190_202.out _; (with_reducible repeat (first | refine blk_drewN ?_ _ | refine blk_drew ?_ | refine blk_alloc ?_ _)); exact BK190.out⟩
               have n2 : Aside0 (((((w74.setCell ⟨gb202, 0, none⟩ (.int .i64 t198)).setCell ⟨gb202, 1, none⟩ (.int .i64 t199)).setCell ⟨gb202, 2, none⟩ (.int .i64 t200)).setCell ⟨gb202, 3, none⟩ (.bool true)).heap[gb192]? = some (.cells #[.bool false, .slice (some ad197) ((rd_T55 l0_0 a1).f2.f1).length c191_3] 53 (0, 0))) := ⟨by (with_reducible repeat (first | refine blk_drewN ?_ _ | refine blk_drew ?_ | refine blk_alloc ?_ _)); refine blk_far ?_ NB192_202.out _; (with_reducible repeat (first | refine blk_drewN ?_ _ | refine blk_drew ?_ | refine blk_alloc ?_ _)); refine blk_far ?_ NB192_202.out _; (with_reducible repeat (first | refine blk_drewN ?_ _ | refine blk_drew ?_ | refine blk_alloc ?_ _)); refine blk_far ?_ NB192_202.out _; (with_reducible repeat (first | refine blk_drewN ?_ _ | refine blk_drew ?_ | refine blk_alloc ?_ _)); refine blk_far ?_ NB192_202.out _; (with_reducible repeat (first | refine blk_drewN ?_ _ | refine blk_drew ?_ | refine blk_alloc ?_ _)); exact BK192.out⟩
               have n3 : Aside0 (((((w74.setCell ⟨gb202, 0, none⟩ (.int .i64 t198)).setCell ⟨gb202, 1, none⟩ (.int .i64 t199)).setCell ⟨gb202, 2, none⟩ (.int .i64 t200)).setCell ⟨gb202, 3, none⟩ (.bool true)).heap[gb196]? = some (.cells #[.int .i64 x197000_1, .int .i64 x197001_1, .int .i64 x197002_1, .bool false] 89 (0, 0))) := ⟨by (with_reducible repeat (first | refine blk_drewN ?_ _ | refine blk_drew ?_ | refine blk_alloc ?_ _)); refine blk_far ?_ NB196_202.out _; (with_reducible repeat (first | refine blk_drewN ?_ _ | refine blk_drew ?_ | refine blk_alloc ?_ _)); refine blk_far ?_ NB196_202.out _; (with_reducible repeat (first | refine blk_drewN ?_ _ | refine blk_drew ?_ | refine blk_alloc ?_ _)); refine blk_far ?_ NB196_202.out _; (with_reducible repeat (first | refine blk_drewN ?_ _ | refine blk_drew ?_ | refine blk_alloc ?_ _)); refine blk_far ?_ NB196_202.out _; (with_reducible repeat (first | refine blk_drewN ?_ _ | refine blk_drew ?_ | refine blk_alloc ?_ _)); exact BK196.out⟩
               have n4 : Aside0 (((((w74.setCell ⟨gb202, 0, none⟩ (.int .i64 t198)).setCell ⟨gb202, 1, none⟩ (.int .i64 t199)).setCell ⟨gb202, 2, none⟩ (.int .i64 t200)).setCell ⟨gb202, 3, none⟩ (.bool true)).heap[gb202]? = some (.cells #[.int .i64 t198, .int .i64 t199, .int .i64 t200, .bool true] 89 (0, 0))) := ⟨by (with_reducible repeat (first | refine blk_drewN ?_ _ | refine blk_drew ?_ | refine blk_alloc ?_ _)); refine blk_put (cs := #[.int .i64 t198, .int .i64 t199, .int .i64 t200, .bool false]) ?_ 3 _ rfl; (with_reducible repeat (first | refine blk_drewN ?_ _ | refine blk_drew ?_ | refine blk_alloc ?_ _)); refine blk_put (cs := #[.int .i64 t198, .int .i64 t199, .int .i64 0, .bool false]) ?_ 2 _ rfl; (with_reducible repeat (first | refine blk_drewN ?_ _ | refine blk_drew ?_ | refine blk_alloc ?_ _)); refine blk_put (cs := #[.int .i64 t198, .int .i64 0, .int .i64 0, .bool false]) ?_ 1 _ rfl; (with_reducible repeat (first | refine blk_drewN ?_ _ | refine blk_drew ?_ | refine blk_alloc ?_ _)); refine blk_put (cs := #[.int .i64 0, .int .i64 0, .int .i64 0, .bool false]) ?_ 0 _ rfl; (with_reducible repeat (first | refine blk_drewN ?_ _ | refine blk_drew ?_ | refine blk_alloc ?_ _)); exact BK202.out⟩
               have n5 : Aside0 (Below w.heap.size w ((((w74.setCell ⟨gb202, 0, none⟩ (.int .i64 t198)).setCell ⟨gb202, 1, none⟩ (.int .i64 t199)).setCell ⟨gb202, 2, none⟩ (.int .i64 t200)).setCell ⟨gb202, 3, none⟩ (.bool true))) := ⟨by repeat (first | (with_reducible first | exact HB.out | apply below_alloc | apply pw_below_drewN | apply below_drew1 | refine below_set ?_ GE189.out | refine below_set ?_ GE190.out | refine below_set ?_ GE192.out | refine below_set ?_ GE196.out | refine below_set ?_ GE202.out) | exact HB.out)⟩
               (try clear BK189)
               (try clear BK190)
               (try clear BK192)
               (try clear BK196)
               (try clear BK202)
               (try clear HB)
               generalize ((((w74.setCell ⟨gb202, 0, none⟩ (.int .i64 t198)).setCell ⟨gb202, 1, none⟩ (.int .i64 t199)).setCell ⟨gb202, 2, none⟩ (.int .i64 t200)).setCell ⟨gb202, 3, none⟩ (.bool true)) = w85 at n0 n1 n2 n3 n4 n5 ⊢
               have BK189 := n0
               have BK190 := n1
               have BK192 := n2
               have BK196 := n3
               have BK202 := n4
               have HB := n5
               clear n0 n1 n2 n3 n4 n5
               have p203 : 0 ≤ (x9_1 : Int) := of_decide_eq_true (by first | (with_reducible assumption) | assumption)
               have q203 : x9_1 < (((rd_T55 l0_0 a1).f2.f1).length : Int) := of_decide_eq_true (by first | (with_reducible assumption) | assumption)
               obtain ⟨ad203, e203, hx203_0, hx203_1⟩ := at_T49 HR191_3.out x9_1 p203 q203
               have hw203_1 := hx203_1
               have hw203_0 := hx203_0
               obtain rfl : ad197 = ad203 := (by injection e203)
               replace hx203_0 := (HB.out.cell (World.block_lt_of_cell? w _ hx203_0)).trans hx203_0
               replace hx203_1 := (HB.out.cell (World.block_lt_of_cell? w _ hx203_1)).trans hx203_1
               replace p203 := eq_true p203
               replace q203 := eq_true q203
               obtain ⟨y0_, y1_, y2_, y3_, y4_, y5_, y6_, y7_, y8_, y9_, y10_, y11_⟩ : w85.cell? ⟨gb202, 0, none⟩ = some (.int .i64 t198) ∧ w85.cell? ⟨gb202, 1, none⟩ = some (.int .i64 t199) ∧ w85.cell? ⟨gb202, 2, none⟩ = some (.int .i64 t200) ∧ w85.cell? ⟨gb202, 3, none⟩ = some (.bool true) ∧ w85.cell? ⟨gb192, 0, none⟩ = some (.bool false) ∧ w85.cell? ⟨gb192, 1, none⟩ = some (.slice (some ad197) ((rd_T55 l0_0 a1).f2.f1).length c191_3) ∧ w85.cell? ⟨gb196, 0, none⟩ = some (.int .i64 x197000_1) ∧ w85.cell? ⟨gb196, 1, none⟩ = some (.int .i64 x197001_1) ∧ w85.cell? ⟨gb196, 2, none⟩ = some (.int .i64 x197002_1) ∧ w85.cell? ⟨gb196, 3, none⟩ = some (.bool false) ∧ w85.cell? (ad197.add ((x9_1).toNat * 2)) = some (.int .i64 ((rd_T49 ((rd_T55 l0_0 a1).f2.f1) x9_1).f0)) ∧ w85.cell? ⟨(ad197.add ((x9_1).toNat * 2)).block, (ad197.add ((x9_1).toNat * 2)).off + 1, none⟩ = some (.int .i64 ((rd_T49 ((rd_T55 l0_0 a1).f2.f1) x9_1).f1)) := ⟨(blk_cell BK202.out 0).trans rfl, (blk_cell BK202.out 1).trans rfl, (blk_cell BK202.out 2).trans rfl, (blk_cell BK202.out 3).trans rfl, (blk_cell BK192.out 0).trans rfl, (blk_cell BK192.out 1).trans rfl, (blk_cell BK196.out 0).trans rfl, (blk_cell BK196.out 1).trans rfl, (blk_cell BK196.out 2).trans rfl, (blk_cell BK196.out 3).trans rfl, ((HB.out.cell (World.block_lt_of_cell? w _ hw203_0)).trans hw203_0), ((HB.out.cell (World.block_lt_of_cell? w _ hw203_1)).trans hw203_1)⟩
               go_quiet (fail)
               try go_wp2
               go_meet
               case rel => exact ⟨_, ((x197002_1 != (wrap64 (t200 + 1)))), (by first | rfl | (simp; done) | (simp [*]; done)), H', ⟨by have := HK1.out; first | omega | exact Nat.le_refl _⟩, ⟨by (with_reducible repeat (first | refine blk_drewN ?_ _ | refine blk_drew ?_ | refine blk_alloc ?_ _)); exact BK189.out⟩, ⟨by (with_reducible repeat (first | refine blk_drewN ?_ _ | refine blk_drew ?_ | refine blk_alloc ?_ _)); exact BK190.out⟩, ⟨by (with_reducible repeat (first | refine blk_drewN ?_ _ | refine blk_drew ?_ | refine blk_alloc ?_ _)); exact BK192.out⟩, ⟨by (with_reducible repeat (first | refine blk_drewN ?_ _ | refine blk_drew ?_ | refine blk_alloc ?_ _)); exact BK196.out⟩, ⟨by (with_reducible repeat (first | refine blk_drewN ?_ _ | refine blk_drew ?_ | refine blk_alloc ?_ _)); exact BK202.out⟩, ⟨by repeat (first | (with_reducible first | exact HB.out | apply below_alloc | apply pw_below_drewN | apply below_drew1 | refine below_set ?_ GE189.out | refine below_set ?_ GE190.out | refine below_set ?_ GE192.out | refine below_set ?_ GE196.out | refine below_set ?_ GE202.out) | exact HB.out)⟩⟩
             ·rw [if_neg c81] at H
              have c81b0 : decide (0 < x9_1) = false := decide_eq_false c81
              clear c81
              have H' := Aside0.mk H
              clear H
              try go_wp2
              have n0 : Aside0 (((((w74.setCell ⟨gb202, 0, none⟩ (.int .i64 t198)).setCell ⟨gb202, 1, none⟩ (.int .i64 t199)).setCell ⟨gb202, 2, none⟩ (.int .i64 t200)).setCell ⟨gb202, 3, none⟩ (.bool true)).heap[gb189]? = some (.cells #[.slice (some ad191) l0_0.length c0_0, .int .i64 a0_1] 24 (0, 0))) := ⟨by (with_reducible repeat (first | refine blk_drewN ?_ _ | refine blk_drew ?_ | refine blk_alloc ?_ _)); refine blk_far ?_ NB189_202.out _; (with_reducible repeat (first | refine blk_drewN ?_ _ | refine blk_drew ?_ | refine blk_alloc ?_ _)); refine blk_far ?_ NB189_202.out _; (with_reducible repeat (first | refine blk_drewN ?_ _ | refine blk_drew ?_ | refine blk_alloc ?_ _)); refine blk_far ?_ NB189_202.out _; (with_reducible repeat (first | refine blk_drewN ?_ _ | refine blk_drew ?_ | refine blk_alloc ?_ _)); refine blk_far ?_ NB189_202.out _; (with_reducible repeat (first | refine blk_drewN ?_ _ | refine blk_drew ?_ | refine blk_alloc ?_ _)); exact BK189.out⟩
              have n1 : Aside0 (((((w74.setCell ⟨gb202, 0, none⟩ (.int .i64 t198)).setCell ⟨gb202, 1, none⟩ (.int .i64 t199)).setCell ⟨gb202, 2, none⟩ (.int .i64 t200)).setCell ⟨gb202, 3, none⟩ (.bool true)).heap[gb190]? = some (.cells #[.int .i64 x191000_1, .int .i64 x191001_1, .int .i64 x191002_1, .bool x191003_1] 89 (0, 0))) := ⟨by (with_reducible repeat (first | refine blk_drewN ?_ _ | refine blk_drew ?_ | refine blk_alloc ?_ _)); refine blk_far ?_ NB190_202.out _; (with_reducible repeat (first | refine blk_drewN ?_ _ | refine blk_drew ?_ | refine blk_alloc ?_ _)); refine blk_far ?_ NB190_202.out _; (with_reducible repeat (first | refine blk_drewN ?_ _ | refine blk_drew ?_ | refine blk_alloc ?_ _)); refine blk_far ?_ NB190_202.out _; (with_reducible repeat (first | refine blk_drewN ?_ _ | refine blk_drew ?_ | refine blk_alloc ?_ _)); refine blk_far ?_ NB190_202.out _; (with_reducible repeat (first | refine blk_drewN ?_ _ | refine blk_drew ?_ | refine blk_alloc ?_ _)); exact BK190.out⟩
              have n2 : Aside0 (((((w74.setCell ⟨gb202, 0, none⟩ (.int .i64 t198)).setCell ⟨gb202, 1, none⟩ (.int .i64 t199)).setCell ⟨gb202, 2, none⟩ (.int .i64 t200)).setCell ⟨gb202, 3, none⟩ (.bool true)).heap[gb192]? = some (.cells #[.bool false, .slice (some ad197) ((rd_T55 l0_0 a1).f2.f1).length c191_3] 53 (0, 0))) := ⟨by (with_reducible repeat (first | refine blk_drewN ?_ _ | refine blk_drew ?_ | refine blk_alloc ?_ _)); refine blk_far ?_ NB192_202.out _; (with_reducible repeat (first | refine blk_drewN ?_ _ | refine blk_drew ?_ | refine blk_alloc ?_ _)); refine blk_far ?_ NB192_202.out _; (with_reducible repeat (first | refine blk_drewN ?_ _ | refine blk_drew ?_ | refine blk_alloc ?_ _)); refine blk_far ?_ NB192_202.out _; (with_reducible repeat (first | refine blk_drewN ?_ _ | refine blk_drew ?_ | refine blk_alloc ?_ _)); refine blk_far ?_ NB192_202.out _; (with_reducible repeat (first | refine blk_drewN ?_ _ | refine blk_drew ?_ | refine blk_alloc ?_ _)); exact BK192.out⟩
              have n3 : Aside0 (((((w74.setCell ⟨gb202, 0, none⟩ (.int .i64 t198)).setCell ⟨gb202, 1, none⟩ (.int .i64 t199)).setCell ⟨gb202, 2, none⟩ (.int .i64 t200)).setCell ⟨gb202, 3, none⟩ (.bool true)).heap[gb196]? = some (.cells #[.int .i64 x197000_1, .int .i64 x197001_1, .int .i64 x197002_1, .bool false] 89 (0, 0))) := ⟨by (with_reducible repeat (first | refine blk_drewN ?_ _ | refine blk_drew ?_ | refine blk_alloc ?_ _)); refine blk_far ?_ NB196_202.out _; (with_reducible repeat (first | refine blk_drewN ?_ _ | refine blk_drew ?_ | refine blk_alloc ?_ _)); refine blk_far ?_ NB196_202.out _; (with_reducible repeat (first | refine blk_drewN ?_ _ | refine blk_drew ?_ | refine blk_alloc ?_ _)); refine blk_far ?_ NB196_202.out _; (with_reducible repeat (first | refine blk_drewN ?_ _ | refine blk_drew ?_ | refine blk_alloc ?_ _)); refine blk_far ?_ NB196_202.out _; (with_reducible repeat (first | refine blk_drewN ?_ _ | refine blk_drew ?_ | refine blk_alloc ?_ _)); exact BK196.out⟩
              have n4 : Aside0 (((((w74.setCell ⟨gb202, 0, none⟩ (.int .i64 t198)).setCell ⟨gb202, 1, none⟩ (.int .i64 t199)).setCell ⟨gb202, 2, none⟩ (.int .i64 t200)).setCell ⟨gb202, 3, none⟩ (.bool true)).heap[gb202]? = some (.cells #[.int .i64 t198, .int .i64 t199, .int .i64 t200, .bool true] 89 (0, 0))) := ⟨by (with_reducible repeat (first | refine blk_drewN ?_ _ | refine blk_drew ?_ | refine blk_alloc ?_ _)); refine blk_put (cs := #[.int .i64 t198, .int .i64 t199, .int .i64 t200, .bool false]) ?_ 3 _ rfl; (with_reducible repeat (first | refine blk_drewN ?_ _ | refine blk_drew ?_ | refine blk_alloc ?_ _)); refine blk_put (cs := #[.int .i64 t198, .int .i64 t199, .int .i64 0, .bool false]) ?_ 2 _ rfl; (with_reducible repeat (first | refine blk_drewN ?_ _ | refine blk_drew ?_ | refine blk_alloc ?_ _)); refine blk_put (cs := #[.int .i64 t198, .int .i64 0, .int .i64 0, .bool false]) ?_ 1 _ rfl; (with_reducible repeat (first | refine blk_drewN ?_ _ | refine blk_drew ?_ | refine blk_alloc ?_ _)); refine blk_put (cs := #[.int .i64 0, .int .i64 0, .int .i64 0, .bool false]) ?_ 0 _ rfl; (with_reducible repeat (first | refine blk_drewN ?_ _ | refine blk_drew ?_ | refine blk_alloc ?_ _)); exact BK202.out⟩
              have n5 : Aside0 (Below w.heap.size w ((((w74.setCell ⟨gb202, 0, none⟩ (.int .i64 t198)).setCell ⟨gb202, 1, none⟩ (.int .i64 t199)).setCell ⟨gb202, 2, none⟩ (.int .i64 t200)).setCell ⟨gb202, 3, none⟩ (.bool true))) := ⟨by repeat (first | (with_reducible first | exact HB.out | apply below_alloc | apply pw_below_drewN | apply below_drew1 | refine below_set ?_ GE189.out | refine below_set ?_ GE190.out | refine below_set ?_ GE192.out | refine below_set ?_ GE196.out | refine below_set ?_ GE202.out) | exact HB.out)⟩
              (try clear BK189)
              (try clear BK190)
              (try clear BK192)
              (try clear BK196)
              (try clear BK202)
              (try clear HB)
              generalize ((((w74.setCell ⟨gb202, 0, none⟩ (.int .i64 t198)).setCell ⟨gb202, 1, none⟩ (.int .i64 t199)).setCell ⟨gb202, 2, none⟩ (.int .i64 t200)).setCell ⟨gb202, 3, none⟩ (.bool true)) = w87 at n0 n1 n2 n3 n4 n5 ⊢
              have BK189 := n0
              have BK190 := n1
              have BK192 := n2
              have BK196 := n3
              have BK202 := n4
              have HB := n5
              clear n0 n1 n2 n3 n4 n5
              have p203 : 0 ≤ (x9_1 : Int) := of_decide_eq_true (by first | (with_reducible assumption) | assumption)
              have q203 : x9_1 < (((rd_T55 l0_0 a1).f2.f1).length : Int) := of_decide_eq_true (by first | (with_reducible assumption) | assumption)
              obtain ⟨ad203, e203, hx203_0, hx203_1⟩ := at_T49 HR191_3.out x9_1 p203 q203
              have hw203_1 := hx203_1
              have hw203_0 := hx203_0
              obtain rfl : ad197 = ad203 := (by injection e203)
              replace hx203_0 := (HB.out.cell (World.block_lt_of_cell? w _ hx203_0)).trans hx203_0
              replace hx203_1 := (HB.out.cell (World.block_lt_of_cell? w _ hx203_1)).trans hx203_1
              replace p203 := eq_true p203
              replace q203 := eq_true q203
              obtain ⟨y0_, y1_, y2_, y3_, y4_, y5_, y6_, y7_⟩ : w87.cell? ⟨gb202, 0, none⟩ = some (.int .i64 t198) ∧ w87.cell? ⟨gb202, 1, none⟩ = some (.int .i64 t199) ∧ w87.cell? ⟨gb202, 2, none⟩ = some (.int .i64 t200) ∧ w87.cell? ⟨gb202, 3, none⟩ = some (.bool true) ∧ w87.cell? ⟨gb192, 0, none⟩ = some (.bool false) ∧ w87.cell? ⟨gb192, 1, none⟩ = some (.slice (some ad197) ((rd_T55 l0_0 a1).f2.f1).length c191_3) ∧ w87.cell? (ad197.add ((x9_1).toNat * 2)) = some (.int .i64 ((rd_T49 ((rd_T55 l0_0 a1).f2.f1) x9_1).f0)) ∧ w87.cell? ⟨(ad197.add ((x9_1).toNat * 2)).block, (ad197.add ((x9_1).toNat * 2)).off + 1, none⟩ = some (.int .i64 ((rd_T49 ((rd_T55 l0_0 a1).f2.f1) x9_1).f1)) := ⟨(blk_cell BK202.out 0).trans rfl, (blk_cell BK202.out 1).trans rfl, (blk_cell BK202.out 2).trans rfl, (blk_cell BK202.out 3).trans rfl, (blk_cell BK192.out 0).trans rfl, (blk_cell BK192.out 1).trans rfl, ((HB.out.cell (World.block_lt_of_cell? w _ hw203_0)).trans hw203_0), ((HB.out.cell (World.block_lt_of_cell? w _ hw203_1)).trans hw203_1)⟩
              go_quiet (fail)
              try go_wp2
              go_meet
              case rel => exact ⟨_, (false), (by first | rfl | (simp; done) | (simp [*]; done)), H', ⟨by have := HK1.out; first | omega | exact Nat.le_refl _⟩, ⟨by (with_reducible repeat (first | refine blk_drewN ?_ _ | refine blk_drew ?_ | refine blk_alloc ?_ _)); exact BK189.out⟩, ⟨by (with_reducible repeat (first | refine blk_drewN ?_ _ | refine blk_drew ?_ | refine blk_alloc ?_ _)); exact BK190.out⟩, ⟨by (with_reducible repeat (first | refine blk_drewN ?_ _ | refine blk_drew ?_ | refine blk_alloc ?_ _)); exact BK192.out⟩, ⟨by (with_reducible repeat (first | refine blk_drewN ?_ _ | refine blk_drew ?_ | refine blk_alloc ?_ _)); exact BK196.out⟩, ⟨by (with_reducible repeat (first | refine blk_drewN ?_ _ | refine blk_drew ?_ | refine blk_alloc ?_ _)); exact BK202.out⟩, ⟨by repeat (first | (with_reducible first | exact HB.out | apply below_alloc | apply pw_below_drewN | apply below_drew1 | refine below_set ?_ GE189.out | refine below_set ?_ GE190.out | refine below_set ?_ GE192.out | refine below_set ?_ GE196.out | refine below_set ?_ GE202.out) | exact HB.out)⟩⟩
            ·rw [if_neg c80] at H
             have c80b0 : (t198 == ((rd_T49 ((rd_T55 l0_0 a1).f2.f1) x9_1).f0)) = false := beq_eq_false_iff_ne.mpr c80
             have c80b1 : (t198 != ((rd_T49 ((rd_T55 l0_0 a1).f2.f1) x9_1).f0)) = true := bne_iff_ne.mpr c80
             (first | rw [c80b0] | (simp only [i64_w, i32_w]; rw [c80b0]) | skip)
             have H' := Aside0.mk H
             clear H
             try go_wp2
             have n0 : Aside0 (((((w74.setCell ⟨gb202, 0, none⟩ (.int .i64 t198)).setCell ⟨gb202, 1, none⟩ (.int .i64 t199)).setCell ⟨gb202, 2, none⟩ (.int .i64 t200)).setCell ⟨gb202, 3, none⟩ (.bool true)).heap[gb189]? = some (.cells #[.slice (some ad191) l0_0.length c0_0, .int .i64 a0_1] 24 (0, 0))) := ⟨by (with_reducible repeat (first | refine blk_drewN ?_ _ | refine blk_drew ?_ | refine blk_alloc ?_ _)); refine blk_far ?_ NB189_202.out _; (with_reducible repeat (first | refine blk_drewN ?_ _ | refine blk_drew ?_ | refine blk_alloc ?_ _)); refine blk_far ?_ NB189_202.out _; (with_reducible repeat (first | refine blk_drewN ?_ _ | refine blk_drew ?_ | refine blk_alloc ?_ _)); refine blk_far ?_ NB189_202.out _; (with_reducible repeat (first | refine blk_drewN ?_ _ | refine blk_drew ?_ | refine blk_alloc ?_ _)); refine blk_far ?_ NB189_202.out _; (with_reducible repeat (first | refine blk_drewN ?_ _ | refine blk_drew ?_ | refine blk_alloc ?_ _)); exact BK189.out⟩
             have n1 : Aside0 (((((w74.setCell ⟨gb202, 0, none⟩ (.int .i64 t198)).setCell ⟨gb202, 1, none⟩ (.int .i64 t199)).setCell ⟨gb202, 2, none⟩ (.int .i64 t200)).setCell ⟨gb202, 3, none⟩ (.bool true)).heap[gb190]? = some (.cells #[.int .i64 x191000_1, .int .i64 x191001_1, .int .i64 x191002_1, .bool x191003_1] 89 (0, 0))) := ⟨by (with_reducible repeat (first | refine blk_drewN ?_ _ | refine blk_drew ?_ | refine blk_alloc ?_ _)); refine blk_far ?_ NB190_202.out _; (with_reducible repeat (first | refine blk_drewN ?_ _ | refine blk_drew ?_ | refine blk_alloc ?_ _)); refine blk_far ?_ NB190_202.out _; (with_reducible repeat (first | refine blk_drewN ?_ _ | refine blk_drew ?_ | refine blk_alloc ?_ _)); refine blk_far ?_ NB190_202.out _; (with_reducible repeat (first | refine blk_drewN ?_ _ | refine blk_drew ?_ | refine blk_alloc ?_ _)); refine blk_far ?_ NB190_202.out _; (with_reducible repeat (first | refine blk_drewN ?_ _ | refine blk_drew ?_ | refine blk_alloc ?_ _)); exact BK190.out⟩
             have n2 : Aside0 (((((w74.setCell ⟨gb202, 0, none⟩ (.int .i64 t198)).setCell ⟨gb202, 1, none⟩ (.int .i64 t199)).setCell ⟨gb202, 2, none⟩ (.int .i64 t200)).setCell ⟨gb202, 3, none⟩ (.bool true)).heap[gb192]? = some (.cells #[.bool false, .slice (some ad197) ((rd_T55 l0_0 a1).f2.f1).length c191_3] 53 (0, 0))) := ⟨by (with_reducible repeat (first | refine blk_drewN ?_ _ | refine blk_drew ?_ | refine blk_alloc ?_ _)); refine blk_far ?_ NB192_202.out _; (with_reducible repeat (first | refine blk_drewN ?_ _ | refine blk_drew ?_ | refine blk_alloc ?_ _)); refine blk_far ?_ NB192_202.out _; (with_reducible repeat (first | refine blk_drewN ?_ _ | refine blk_drew ?_ | refine blk_alloc ?_ _)); refine blk_far ?_ NB192_202.out _; (with_reducible repeat (first | refine blk_drewN ?_ _ | refine blk_drew ?_ | refine blk_alloc ?_ _)); refine blk_far ?_ NB192_202.out _; (with_reducible repeat (first | refine blk_drewN ?_ _ | refine blk_drew ?_ | refine blk_alloc ?_ _)); exact BK192.out⟩
             have n3 : Aside0 (((((w74.setCell ⟨gb202, 0, none⟩ (.int .i64 t198)).setCell ⟨gb202, 1, none⟩ (.int .i64 t199)).setCell ⟨gb202, 2, none⟩ (.int .i64 t200)).setCell ⟨gb202, 3, none⟩ (.bool true)).heap[gb196]? = some (.cells #[.int .i64 x197000_1, .int .i64 x197001_1, .int .i64 x197002_1, .bool false] 89 (0, 0))) := ⟨by (with_reducible repeat (first | refine blk_drewN ?_ _ | refine blk_drew ?_ | refine blk_alloc ?_ _)); refine blk_far ?_ NB196_202.out _; (with_reducible repeat (first | refine blk_drewN ?_ _ | refine blk_drew ?_ | refine blk_alloc ?_ _)); refine blk_far ?_ NB196_202.out _; (with_reducible repeat (first | refine blk_drewN ?_ _ | refine blk_drew ?_ | refine blk_alloc ?_ _)); refine blk_far ?_ NB196_202.out _; (with_reducible repeat (first | refine blk_drewN ?_ _ | refine blk_drew ?_ | refine blk_alloc ?_ _)); refine blk_far ?_ NB196_202.out _; (with_reducible repeat (first | refine blk_drewN ?_ _ | refine blk_drew ?_ | refine blk_alloc ?_ _)); exact BK196.out⟩
             have n4 : Aside0 (((((w74.setCell ⟨gb202, 0, none⟩ (.int .i64 t198)).setCell ⟨gb202, 1, none⟩ (.int .i64 t199)).setCell ⟨gb202, 2, none⟩ (.int .i64 t200)).setCell ⟨gb202, 3, none⟩ (.bool true)).heap[gb202]? = some (.cells #[.int .i64 t198, .int .i64 t199, .int .i64 t200, .bool true] 89 (0, 0))) := ⟨by (with_reducible repeat (first | refine blk_drewN ?_ _ | refine blk_drew ?_ | refine blk_alloc ?_ _)); refine blk_put (cs := #[.int .i64 t198, .int .i64 t199, .int .i64 t200, .bool false]) ?_ 3 _ rfl; (with_reducible repeat (first | refine blk_drewN ?_ _ | refine blk_drew ?_ | refine blk_alloc ?_ _)); refine blk_put (cs := #[.int .i64 t198, .int .i64 t199, .int .i64 0, .bool false]) ?_ 2 _ rfl; (with_reducible repeat (first | refine blk_drewN ?_ _ | refine blk_drew ?_ | refine blk_alloc ?_ _)); refine blk_put (cs := #[.int .i64 t198, .int .i64 0, .int .i64 0, .bool false]) ?_ 1 _ rfl; (with_reducible repeat (first | refine blk_drewN ?_ _ | refine blk_drew ?_ | refine blk_alloc ?_ _)); refine blk_put (cs := #[.int .i64 0, .int .i64 0, .int .i64 0, .bool false]) ?_ 0 _ rfl; (with_reducible repeat (first | refine blk_drewN ?_ _ | refine blk_drew ?_ | refine blk_alloc ?_ _)); exact BK202.out⟩
             have n5 : Aside0 (Below w.heap.size w ((((w74.setCell ⟨gb202, 0, none⟩ (.int .i64 t198)).setCell ⟨gb202, 1, none⟩ (.int .i64 t199)).setCell ⟨gb202, 2, none⟩ (.int .i64 t200)).setCell ⟨gb202, 3, none⟩ (.bool true))) := ⟨by repeat (first | (with_reducible first | exact HB.out | apply below_alloc | apply pw_below_drewN | apply below_drew1 | refine below_set ?_ GE189.out | refine below_set ?_ GE190.out | refine below_set ?_ GE192.out | refine below_set ?_ GE196.out | refine below_set ?_ GE202.out) | exact HB.out)⟩
             (try clear BK189)
             (try clear BK190)
             (try clear BK192)
             (try clear BK196)
             (try clear BK202)
             (try clear HB)
             generalize ((((w74.setCell ⟨gb202, 0, none⟩ (.int .i64 t198)).setCell ⟨gb202, 1, none⟩ (.int .i64 t199)).setCell ⟨gb202, 2, none⟩ (.int .i64 t200)).setCell ⟨gb202, 3, none⟩ (.bool true)) = w89 at n0 n1 n2 n3 n4 n5 ⊢
             have BK189 := n0
             have BK190 := n1
             have BK192 := n2
             have BK196 := n3
             have BK202 := n4
             have HB := n5
             clear n0 n1 n2 n3 n4 n5
             have p203 : 0 ≤ (x9_1 : Int) := of_decide_eq_true (by first | (with_reducible assumption) | assumption)
             have q203 : x9_1 < (((rd_T55 l0_0 a1).f2.f1).length : Int) := of_decide_eq_true (by first | (with_reducible assumption) | assumption)
             obtain ⟨ad203, e203, hx203_0, hx203_1⟩ := at_T49 HR191_3.out x9_1 p203 q203
             have hw203_1 := hx203_1
             have hw203_0 := hx203_0
             obtain rfl : ad197 = ad203 := (by injection e203)
             replace hx203_0 := (HB.out.cell (World.block_lt_of_cell? w _ hx203_0)).trans hx203_0
             replace hx203_1 := (HB.out.cell (World.block_lt_of_cell? w _ hx203_1)).trans hx203_1
             replace p203 := eq_true p203
             replace q203 := eq_true q203
             obtain ⟨y0_, y1_, y2_, y3_, y4_, y5_, y6_, y7_⟩ : w89.cell? ⟨gb202, 0, none⟩ = some (.int .i64 t198) ∧ w89.cell? ⟨gb202, 1, none⟩ = some (.int .i64 t199) ∧ w89.cell? ⟨gb202, 2, none⟩ = some (.int .i64 t200) ∧ w89.cell? ⟨gb202, 3, none⟩ = some (.bool true) ∧ w89.cell? ⟨gb192, 0, none⟩ = some (.bool false) ∧ w89.cell? ⟨gb192, 1, none⟩ = some (.slice (some ad197) ((rd_T55 l0_0 a1).f2.f1).length c191_3) ∧ w89.cell? (ad197.add ((x9_1).toNat * 2)) = some (.int .i64 ((rd_T49 ((rd_T55 l0_0 a1).f2.f1) x9_1).f0)) ∧ w89.cell? ⟨(ad197.add ((x9_1).toNat * 2)).block, (ad197.add ((x9_1).toNat * 2)).off + 1, none⟩ = some (.int .i64 ((rd_T49 ((rd_T55 l0_0 a1).f2.f1) x9_1).f1)) := ⟨(blk_cell BK202.out 0).trans rfl, (blk_cell BK202.out 1).trans rfl, (blk_cell BK202.out 2).trans rfl, (blk_cell BK202.out 3).trans rfl, (blk_cell BK192.out 0).trans rfl, (blk_cell BK192.out 1).trans rfl, ((HB.out.cell (World.block_lt_of_cell? w _ hw203_0)).trans hw203_0), ((HB.out.cell (World.block_lt_of_cell? w _ hw203_1)).trans hw203_1)⟩
             go_quiet (fail)
             try go_wp2
             go_meet
             case rel => exact ⟨_, (true), (by first | rfl | (simp; done) | (simp [*]; done)), H', ⟨by have := HK1.out; first | omega | exact Nat.le_refl _⟩, ⟨by (with_reducible repeat (first | refine blk_drewN ?_ _ | refine blk_drew ?_ | refine blk_alloc ?_ _)); exact BK189.out⟩, ⟨by (with_reducible repeat (first | refine blk_drewN ?_ _ | refine blk_drew ?_ | refine blk_alloc ?_ _)); exact BK190.out⟩, ⟨by (with_reducible repeat (first | refine blk_drewN ?_ _ | refine blk_drew ?_ | refine blk_alloc ?_ _)); exact BK192.out⟩, ⟨by (with_reducible repeat (first | refine blk_drewN ?_ _ | refine blk_drew ?_ | refine blk_alloc ?_ _)); exact BK196.out⟩, ⟨by (with_reducible repeat (first | refine blk_drewN ?_ _ | refine blk_drew ?_ | refine blk_alloc ?_ _)); exact BK202.out⟩, ⟨by repeat (first | (with_reducible first | exact HB.out | apply below_alloc | apply pw_below_drewN | apply below_drew1 | refine below_set ?_ GE189.out | refine below_set ?_ GE190.out | refine below_set ?_ GE192.out | refine below_set ?_ GE196.out | refine below_set ?_ GE202.out) | exact HB.out)⟩⟩
           ·replace c79 := Bool.eq_false_iff.mpr c79
            subst c79
            have H1 : (assartref07_below.j1 k1 a2 x9_1 true l0_0 a0_1 false ((rd_T55 l0_0 a1).f2.f1) x197000_1 x197001_1 x197002_1 false t198 t199 t200 false) = some (r1, r2, r3, r4) := by rw [if_neg (show ¬ (false = true) by decide)] at H; exact H
            clear H
            have H := H1
            clear H1
            have H' := Aside0.mk H
            clear H
            try go_wp2
            have n0 : Aside0 (((((w74.setCell ⟨gb202, 0, none⟩ (.int .i64 t198)).setCell ⟨gb202, 1, none⟩ (.int .i64 t199)).setCell ⟨gb202, 2, none⟩ (.int .i64 t200)).setCell ⟨gb202, 3, none⟩ (.bool false)).heap[gb189]? = some (.cells #[.slice (some ad191) l0_0.length c0_0, .int .i64 a0_1] 24 (0, 0))) := ⟨by (with_reducible repeat (first | refine blk_drewN ?_ _ | refine blk_drew ?_ | refine blk_alloc ?_ _)); refine blk_far ?_ NB189_202.out _; (with_reducible repeat (first | refine blk_drewN ?_ _ | refine blk_drew ?_ | refine blk_alloc ?_ _)); refine blk_far ?_ NB189_202.out _; (with_reducible repeat (first | refine blk_drewN ?_ _ | refine blk_drew ?_ | refine blk_alloc ?_ _)); refine blk_far ?_ NB189_202.out _; (with_reducible repeat (first | refine blk_drewN ?_ _ | refine blk_drew ?_ | refine blk_alloc ?_ _)); refine blk_far ?_ NB189_202.out _; (with_reducible repeat (first | refine blk_drewN ?_ _ | refine blk_drew ?_ | refine blk_alloc ?_ _)); exact BK189.out⟩
            have n1 : Aside0 (((((w74.setCell ⟨gb202, 0, none⟩ (.int .i64 t198)).setCell ⟨gb202, 1, none⟩ (.int .i64 t199)).setCell ⟨gb202, 2, none⟩ (.int .i64 t200)).setCell ⟨gb202, 3, none⟩ (.bool false)).heap[gb190]? = some (.cells #[.int .i64 x191000_1, .int .i64 x191001_1, .int .i64 x191002_1, .bool x191003_1] 89 (0, 0))) := ⟨by (with_reducible repeat (first | refine blk_drewN ?_ _ | refine blk_drew ?_ | refine blk_alloc ?_ _)); refine blk_far ?_ NB190_202.out _; (with_reducible repeat (first | refine blk_drewN ?_ _ | refine blk_drew ?_ | refine blk_alloc ?_ _)); refine blk_far ?_ NB190_202.out _; (with_reducible repeat (first | refine blk_drewN ?_ _ | refine blk_drew ?_ | refine blk_alloc ?_ _)); refine blk_far ?_ NB190_202.out _; (with_reducible repeat (first | refine blk_drewN ?_ _ | refine blk_drew ?_ | refine blk_alloc ?_ _)); refine blk_far ?_ NB190_202.out _; (with_reducible repeat (first | refine blk_drewN ?_ _ | refine blk_drew ?_ | refine blk_alloc ?_ _)); exact BK190.out⟩
            have n2 : Aside0 (((((w74.setCell ⟨gb202, 0, none⟩ (.int .i64 t198)).setCell ⟨gb202, 1, none⟩ (.int .i64 t199)).setCell ⟨gb202, 2, none⟩ (.int .i64 t200)).setCell ⟨gb202, 3, none⟩ (.bool false)).heap[gb192]? = some (.cells #[.bool false, .slice (some ad197) ((rd_T55 l0_0 a1).f2.f1).length c191_3] 53 (0, 0))) := ⟨by (with_reducible repeat (first | refine blk_drewN ?_ _ | refine blk_drew ?_ | refine blk_alloc ?_ _)); refine blk_far ?_ NB192_202.out _; (with_reducible repeat (first | refine blk_drewN ?_ _ | refine blk_drew ?_ | refine blk_alloc ?_ _)); refine blk_far ?_ NB192_202.out _; (with_reducible repeat (first | refine blk_drewN ?_ _ | refine blk_drew ?_ | refine blk_alloc ?_ _)); refine blk_far ?_ NB192_202.out _; (with_reducible repeat (first | refine blk_drewN ?_ _ | refine blk_drew ?_ | refine blk_alloc ?_ _)); refine blk_far ?_ NB192_202.out _; (with_reducible repeat (first | refine blk_drewN ?_ _ | refine blk_drew ?_ | refine blk_alloc ?_ _)); exact BK192.out⟩
            have n3 : Aside0 (((((w74.setCell ⟨gb202, 0, none⟩ (.int .i64 t198)).setCell ⟨gb202, 1, none⟩ (.int .i64 t199)).setCell ⟨gb202, 2, none⟩ (.int .i64 t200)).setCell ⟨gb202, 3, none⟩ (.bool false)).heap[gb196]? = some (.cells #[.int .i64 x197000_1, .int .i64 x197001_1, .int .i64 x197002_1, .bool false] 89 (0, 0))) := ⟨by (with_reducible repeat (first | refine blk_drewN ?_ _ | refine blk_drew ?_ | refine blk_alloc ?_ _)); refine blk_far ?_ NB196_202.out _; (with_reducible repeat (first | refine blk_drewN ?_ _ | refine blk_drew ?_ | refine blk_alloc ?_ _)); refine blk_far ?_ NB196_202.out _; (with_reducible repeat (first | refine blk_drewN ?_ _ | refine blk_drew ?_ | refine blk_alloc ?_ _)); refine blk_far ?_ NB196_202.out _; (with_reducible repeat (first | refine blk_drewN ?_ _ | refine blk_drew ?_ | refine blk_alloc ?_ _)); refine blk_far ?_ NB196_202.out _; (with_reducible repeat (first | refine blk_drewN ?_ _ | refine blk_drew ?_ | refine blk_alloc ?_ _)); exact BK196.out⟩
            have n4 : Aside0 (((((w74.setCell ⟨gb202, 0, none⟩ (.int .i64 t198)).setCell ⟨gb202, 1, none⟩ (.int .i64 t199)).setCell ⟨gb202, 2, none⟩ (.int .i64 t200)).setCell ⟨gb202, 3, none⟩ (.bool false)).heap[gb202]? = some (.cells #[.int .i64 t198, .int .i64 t199, .int .i64 t200, .bool false] 89 (0, 0))) := ⟨by (with_reducible repeat (first | refine blk_drewN ?_ _ | refine blk_drew ?_ | refine blk_alloc ?_ _)); refine blk_put (cs := #[.int .i64 t198, .int .i64 t199, .int .i64 t200, .bool false]) ?_ 3 _ rfl; (with_reducible repeat (first | refine blk_drewN ?_ _ | refine blk_drew ?_ | refine blk_alloc ?_ _)); refine blk_put (cs := #[.int .i64 t198, .int .i64 t199, .int .i64 0, .bool false]) ?_ 2 _ rfl; (with_reducible repeat (first | refine blk_drewN ?_ _ | refine blk_drew ?_ | refine blk_alloc ?_ _)); refine blk_put (cs := #[.int .i64 t198, .int .i64 0, .int .i64 0, .bool false]) ?_ 1 _ rfl; (with_reducible repeat (first | refine blk_drewN ?_ _ | refine blk_drew ?_ | refine blk_alloc ?_ _)); refine blk_put (cs := #[.int .i64 0, .int .i64 0, .int .i64 0, .bool false]) ?_ 0 _ rfl; (with_reducible repeat (first | refine blk_drewN ?_ _ | refine blk_drew ?_ | refine blk_alloc ?_ _)); exact BK202.out⟩
            have n5 : Aside0 (Below w.heap.size w ((((w74.setCell ⟨gb202, 0, none⟩ (.int .i64 t198)).setCell ⟨gb202, 1, none⟩ (.int .i64 t199)).setCell ⟨gb202, 2, none⟩ (.int .i64 t200)).setCell ⟨gb202, 3, none⟩ (.bool false))) := ⟨by repeat (first | (with_reducible first | exact HB.out | apply below_alloc | apply pw_below_drewN | apply below_drew1 | refine below_set ?_ GE189.out | refine below_set ?_ GE190.out | refine below_set ?_ GE192.out | refine below_set ?_ GE196.out | refine below_set ?_ GE202.out) | exact HB.out)⟩
            (try clear BK189)
            (try clear BK190)
            (try clear BK192)
            (try clear BK196)
            (try clear BK202)
            (try clear HB)
            generalize ((((w74.setCell ⟨gb202, 0, none⟩ (.int .i64 t198)).setCell ⟨gb202, 1, none⟩ (.int .i64 t199)).setCell ⟨gb202, 2, none⟩ (.int .i64 t200)).setCell ⟨gb202, 3, none⟩ (.bool false)) = w91 at n0 n1 n2 n3 n4 n5 ⊢
            have BK189 := n0
            have BK190 := n1
            have BK192 := n2
            have BK196 := n3
            have BK202 := n4
            have HB := n5
            clear n0 n1 n2 n3 n4 n5
            obtain ⟨y0_, y1_, y2_, y3_⟩ : w91.cell? ⟨gb202, 0, none⟩ = some (.int .i64 t198) ∧ w91.cell? ⟨gb202, 1, none⟩ = some (.int .i64 t199) ∧ w91.cell? ⟨gb202, 2, none⟩ = some (.int .i64 t200) ∧ w91.cell? ⟨gb202, 3, none⟩ = some (.bool false) := ⟨(blk_cell BK202.out 0).trans rfl, (blk_cell BK202.out 1).trans rfl, (blk_cell BK202.out 2).trans rfl, (blk_cell BK202.out 3).trans rfl⟩
            go_quiet (fail)
            try go_wp2
            go_meet
            case rel => exact ⟨_, (true), (by first | rfl | (simp; done) | (simp [*]; done)), H', ⟨by have := HK1.out; first | omega | exact Nat.le_refl _⟩, ⟨by (with_reducible repeat (first | refine blk_drewN ?_ _ | refine blk_drew ?_ | refine blk_alloc ?_ _)); exact BK189.out⟩, ⟨by (with_reducible repeat (first | refine blk_drewN ?_ _ | refine blk_drew ?_ | refine blk_alloc ?_ _)); exact BK190.out⟩, ⟨by (with_reducible repeat (first | refine blk_drewN ?_ _ | refine blk_drew ?_ | refine blk_alloc ?_ _)); exact BK192.out⟩, ⟨by (with_reducible repeat (first | refine blk_drewN ?_ _ | refine blk_drew ?_ | refine blk_alloc ?_ _)); exact BK196.out⟩, ⟨by (with_reducible repeat (first | refine blk_drewN ?_ _ | refine blk_drew ?_ | refine blk_alloc ?_ _)); exact BK202.out⟩, ⟨by repeat (first | (with_reducible first | exact HB.out | apply below_alloc | apply pw_below_drewN | apply below_drew1 | refine below_set ?_ GE189.out | refine below_set ?_ GE190.out | refine below_set ?_ GE192.out | refine below_set ?_ GE196.out | refine below_set ?_ GE202.out) | exact HB.out)⟩⟩
          case rest =>
           clear HC66
           try clear c1
           try clear p2
           try clear q2
           try clear hx2
           try clear c7
           try clear c8
           try clear c19
           try clear p20
           try clear q20
           try clear hx20
           try clear c79
           try clear c80
           try clear c80b0
           try clear c80b1
           try clear hx203_0
           try clear hx203_1
           try clear p203
           try clear q203
           obtain ⟨kq, x97_65, rfl, HA, HJ65, BK189, BK190, BK192, BK196, BK202, HB⟩ := hcut
           cases kq with
           | zero => exact absurd HA.out (by simp [assartref07_below.j1])
           | succ kj65 =>
            have H := HA.out
            clear HA
            simp only [assartref07_below.j1] at H
            by_cases c93 : x97_65 = true
            ·subst c93
             have H1 : (some (0, 0, 0, false)) = some (r1, r2, r3, r4) := by rw [if_pos rfl] at H; exact H
             clear H
             have H := H1
             clear H1
             simp only [Option.some.injEq, Prod.mk.injEq] at H
             obtain ⟨rfl, rfl, rfl, rfl⟩ := H
             have hnb94 := NB190_189.out
             have hnc94 := NB189_190.out
             have hnb95 := NB190_192.out
             have hnc95 := NB192_190.out
             have hnb96 := NB190_196.out
             have hnc96 := NB196_190.out
             have hnb97 := NB190_202.out
             have hnc97 := NB202_190.out
             have hcz98_0 : wc.cell? ⟨gb190, 0, none⟩ = some (.int .i64 x191000_1) := (blk_cell BK190.out 0).trans rfl
             have hcz98_1 : wc.cell? ⟨gb190, 1, none⟩ = some (.int .i64 x191001_1) := (blk_cell BK190.out 1).trans rfl
             have hcz98_2 : wc.cell? ⟨gb190, 2, none⟩ = some (.int .i64 x191002_1) := (blk_cell BK190.out 2).trans rfl
             have hcz98_3 : wc.cell? ⟨gb190, 3, none⟩ = some (.bool x191003_1) := (blk_cell BK190.out 3).trans rfl
             have hfz98_0 := blk_frozen BK190.out 0
             have hfz98_1 := blk_frozen BK190.out 1
             have hfz98_2 := blk_frozen BK190.out 2
             have hfz98_3 := blk_frozen BK190.out 3
             go_wp2
             refine bodyPost_ret (results_cell_row rfl _ _ gb190 89 #[.int .i64 0, .int .i64 0, .int .i64 0, .bool false] (0, 0) _ rfl (by (with_reducible repeat (first | refine blk_drewN ?_ _ | refine blk_drew ?_ | refine blk_alloc ?_ _)); refine blk_put (cs := #[.int .i64 0, .int .i64 0, .int .i64 0, .bool x191003_1]) ?_ 3 _ rfl; (with_reducible repeat (first | refine blk_drewN ?_ _ | refine blk_drew ?_ | refine blk_alloc ?_ _)); refine blk_put (cs := #[.int .i64 0, .int .i64 0, .int .i64 x191002_1, .bool x191003_1]) ?_ 2 _ rfl; (with_reducible repeat (first | refine blk_drewN ?_ _ | refine blk_drew ?_ | refine blk_alloc ?_ _)); refine blk_put (cs := #[.int .i64 0, .int .i64 x191001_1, .int .i64 x191002_1, .bool x191003_1]) ?_ 1 _ rfl; (with_reducible repeat (first | refine blk_drewN ?_ _ | refine blk_drew ?_ | refine blk_alloc ?_ _)); refine blk_put (cs := #[.int .i64 x191000_1, .int .i64 x191001_1, .int .i64 x191002_1, .bool x191003_1]) ?_ 0 _ rfl; (with_reducible repeat (first | refine blk_drewN ?_ _ | refine blk_drew ?_ | refine blk_alloc ?_ _)); exact BK190.out) Try.underlying89 rfl (by kernel_rfl)) rfl ?_
             exact ⟨by first | rfl | (simp [errW_none, errW_some] <;> rfl) | (simp [*, errW_none, errW_some] <;> rfl), by repeat (first | (with_reducible first | exact HB.out | apply below_alloc | apply pw_below_drewN | apply below_drew1 | refine below_set ?_ GE189.out | refine below_set ?_ GE190.out | refine below_set ?_ GE192.out | refine below_set ?_ GE196.out | refine below_set ?_ GE202.out) | exact HB.out)⟩
            ·replace c93 := Bool.eq_false_iff.mpr c93
             subst c93
             have H1 : (if x9_1 = 0 then (assartref07_below.l0 kj65 a2 (wrap64 (x9_1 + 1)) l0_0 a0_1 false ((rd_T55 l0_0 a1).f2.f1) t198 t199 (wrap64 (t200 + 1)) false) else (assartref07_below.l0 kj65 a2 (wrap64 (x9_1 + 1)) l0_0 a0_1 false ((rd_T55 l0_0 a1).f2.f1) x197000_1 t199 x197002_1 false)) = some (r1, r2, r3, r4) := by rw [if_neg (show ¬ (false = true) by decide)] at H; exact H
             clear H
             have H := H1
             clear H1
             by_cases c99 : x9_1 = 0
             ·rw [if_pos c99] at H
              have c99b0 : (x9_1 == 0) = true := beq_iff_eq.mpr c99
              have c99b1 : (x9_1 != 0) = false := bne_eq_false_iff_eq.mpr c99
              clear c99
              have H' := Aside0.mk H
              clear H
              have hnb100 := NB202_189.out
              have hnc100 := NB189_202.out
              have hnb101 := NB202_190.out
              have hnc101 := NB190_202.out
              have hnb102 := NB202_192.out
              have hnc102 := NB192_202.out
              have hnb103 := NB202_196.out
              have hnc103 := NB196_202.out
              have hcz104_0 : wc.cell? ⟨gb202, 0, none⟩ = some (.int .i64 t198) := (blk_cell BK202.out 0).trans rfl
              have hcz104_1 : wc.cell? ⟨gb202, 1, none⟩ = some (.int .i64 t199) := (blk_cell BK202.out 1).trans rfl
              have hcz104_2 : wc.cell? ⟨gb202, 2, none⟩ = some (.int .i64 t200) := (blk_cell BK202.out 2).trans rfl
              have hcz104_3 : wc.cell? ⟨gb202, 3, none⟩ = some (.bool t201) := (blk_cell BK202.out 3).trans rfl
              have hfz104_0 := blk_frozen BK202.out 0
              have hfz104_1 := blk_frozen BK202.out 1
              have hfz104_2 := blk_frozen BK202.out 2
              have hfz104_3 := blk_frozen BK202.out 3
              have hnb105 := NB196_189.out
              have hnc105 := NB189_196.out
              have hnb106 := NB196_190.out
              have hnc106 := NB190_196.out
              have hnb107 := NB196_192.out
              have hnc107 := NB192_196.out
              have hcz108_0 : wc.cell? ⟨gb196, 0, none⟩ = some (.int .i64 x197000_1) := (blk_cell BK196.out 0).trans rfl
              have hcz108_1 : wc.cell? ⟨gb196, 1, none⟩ = some (.int .i64 x197001_1) := (blk_cell BK196.out 1).trans rfl
              have hcz108_2 : wc.cell? ⟨gb196, 2, none⟩ = some (.int .i64 x197002_1) := (blk_cell BK196.out 2).trans rfl
              have hcz108_3 : wc.cell? ⟨gb196, 3, none⟩ = some (.bool false) := (blk_cell BK196.out 3).trans rfl
              have hfz108_0 := blk_frozen BK196.out 0
              have hfz108_1 := blk_frozen BK196.out 1
              have hfz108_2 := blk_frozen BK196.out 2
              have hfz108_3 := blk_frozen BK196.out 3
              go_wp2
              go_roundg kj65
              case measure => have := HK1.out; have := HJ65.out; omega
              case rel => exact ⟨(wrap64 (x9_1 + 1)), (x191000_1), (x191001_1), (x191002_1), (x191003_1), (t198), (t199), (wrap64 (t200 + 1)), (by first | rfl | (simp; done) | (simp [*]; done)), H', ⟨by have := HK1.out; have := HJ65.out; omega⟩, ⟨by (with_reducible repeat (first | refine blk_drewN ?_ _ | refine blk_drew ?_ | refine blk_alloc ?_ _)); refine blk_far ?_ NB189_196.out _; (with_reducible repeat (first | refine blk_drewN ?_ _ | refine blk_drew ?_ | refine blk_alloc ?_ _)); refine blk_far ?_ NB189_196.out _; (with_reducible repeat (first | refine blk_drewN ?_ _ | refine blk_drew ?_ | refine blk_alloc ?_ _)); refine blk_far ?_ NB189_196.out _; (with_reducible repeat (first | refine blk_drewN ?_ _ | refine blk_drew ?_ | refine blk_alloc ?_ _)); exact BK189.out⟩, ⟨by (with_reducible repeat (first | refine blk_drewN ?_ _ | refine blk_drew ?_ | refine blk_alloc ?_ _)); refine blk_far ?_ NB190_196.out _; (with_reducible repeat (first | refine blk_drewN ?_ _ | refine blk_drew ?_ | refine blk_alloc ?_ _)); refine blk_far ?_ NB190_196.out _; (with_reducible repeat (first | refine blk_drewN ?_ _ | refine blk_drew ?_ | refine blk_alloc ?_ _)); refine blk_far ?_ NB190_196.out _; (with_reducible repeat (first | refine blk_drewN ?_ _ | refine blk_drew ?_ | refine blk_alloc ?_ _)); exact BK190.out⟩, ⟨by (with_reducible repeat (first | refine blk_drewN ?_ _ | refine blk_drew ?_ | refine blk_alloc ?_ _)); refine blk_far ?_ NB192_196.out _; (with_reducible repeat (first | refine blk_drewN ?_ _ | refine blk_drew ?_ | refine blk_alloc ?_ _)); refine blk_far ?_ NB192_196.out _; (with_reducible repeat (first | refine blk_drewN ?_ _ | refine blk_drew ?_ | refine blk_alloc ?_ _)); refine blk_far ?_ NB192_196.out _; (with_reducible repeat (first | refine blk_drewN ?_ _ | refine blk_drew ?_ | refine blk_alloc ?_ _)); exact BK192.out⟩, ⟨by (with_reducible repeat (first | refine blk_drewN ?_ _ | refine blk_drew ?_ | refine blk_alloc ?_ _)); refine blk_put (cs := #[.int .i64 t198, .int .i64 x197001_1, .int .i64 (wrap64 (t200 + 1)), .bool false]) ?_ 1 _ rfl; (with_reducible repeat (first | refine blk_drewN ?_ _ | refine blk_drew ?_ | refine blk_alloc ?_ _)); refine blk_put (cs := #[.int .i64 t198, .int .i64 x197001_1, .int .i64 x197002_1, .bool false]) ?_ 2 _ rfl; (with_reducible repeat (first | refine blk_drewN ?_ _ | refine blk_drew ?_ | refine blk_alloc ?_ _)); refine blk_put (cs := #[.int .i64 x197000_1, .int .i64 x197001_1, .int .i64 x197002_1, .bool false]) ?_ 0 _ rfl; (with_reducible repeat (first | refine blk_drewN ?_ _ | refine blk_drew ?_ | refine blk_alloc ?_ _)); exact BK196.out⟩, ⟨by repeat (first | (with_reducible first | exact HB.out | apply below_alloc | apply pw_below_drewN | apply below_drew1 | refine below_set ?_ GE189.out | refine below_set ?_ GE190.out | refine below_set ?_ GE192.out | refine below_set ?_ GE196.out | refine below_set ?_ GE202.out) | exact HB.out)⟩⟩
             ·rw [if_neg c99] at H
              have c99b0 : (x9_1 == 0) = false := beq_eq_false_iff_ne.mpr c99
              have c99b1 : (x9_1 != 0) = true := bne_iff_ne.mpr c99
              have H' := Aside0.mk H
              clear H
              have hnb109 := NB202_189.out
              have hnc109 := NB189_202.out
              have hnb110 := NB202_190.out
              have hnc110 := NB190_202.out
              have hnb111 := NB202_192.out
              have hnc111 := NB192_202.out
              have hnb112 := NB202_196.out
              have hnc112 := NB196_202.out
              have hcz113_0 : wc.cell? ⟨gb202, 0, none⟩ = some (.int .i64 t198) := (blk_cell BK202.out 0).trans rfl
              have hcz113_1 : wc.cell? ⟨gb202, 1, none⟩ = some (.int .i64 t199) := (blk_cell BK202.out 1).trans rfl
              have hcz113_2 : wc.cell? ⟨gb202, 2, none⟩ = some (.int .i64 t200) := (blk_cell BK202.out 2).trans rfl
              have hcz113_3 : wc.cell? ⟨gb202, 3, none⟩ = some (.bool t201) := (blk_cell BK202.out 3).trans rfl
              have hfz113_0 := blk_frozen BK202.out 0
              have hfz113_1 := blk_frozen BK202.out 1
              have hfz113_2 := blk_frozen BK202.out 2
              have hfz113_3 := blk_frozen BK202.out 3
              have hnb114 := NB196_189.out
              have hnc114 := NB189_196.out
              have hnb115 := NB196_190.out
              have hnc115 := NB190_196.out
              have hnb116 := NB196_192.out
              have hnc116 := NB192_196.out
              have hcz117_0 : wc.cell? ⟨gb196, 0, none⟩ = some (.int .i64 x197000_1) := (blk_cell BK196.out 0).trans rfl
              have hcz117_1 : wc.cell? ⟨gb196, 1, none⟩ = some (.int .i64 x197001_1) := (blk_cell BK196.out 1).trans rfl
              have hcz117_2 : wc.cell? ⟨gb196, 2, none⟩ = some (.int .i64 x197002_1) := (blk_cell BK196.out 2).trans rfl
              have hcz117_3 : wc.cell? ⟨gb196, 3, none⟩ = some (.bool false) := (blk_cell BK196.out 3).trans rfl
              have hfz117_0 := blk_frozen BK196.out 0
              have hfz117_1 := blk_frozen BK196.out 1
              have hfz117_2 := blk_frozen BK196.out 2
              have hfz117_3 := blk_frozen BK196.out 3
              go_wp2
              go_roundg kj65
              case measure => have := HK1.out; have := HJ65.out; omega
              case rel => exact ⟨(wrap64 (x9_1 + 1)), (x191000_1), (x191001_1), (x191002_1), (x191003_1), (x197000_1), (t199), (x197002_1), (by first | rfl | (simp; done) | (simp [*]; done)), H', ⟨by have := HK1.out; have := HJ65.out; omega⟩, ⟨by (with_reducible repeat (first | refine blk_drewN ?_ _ | refine blk_drew ?_ | refine blk_alloc ?_ _)); refine blk_far ?_ NB189_196.out _; (with_reducible repeat (first | refine blk_drewN ?_ _ | refine blk_drew ?_ | refine blk_alloc ?_ _)); exact BK189.out⟩, ⟨by (with_reducible repeat (first | refine blk_drewN ?_ _ | refine blk_drew ?_ | refine blk_alloc ?_ _)); refine blk_far ?_ NB190_196.out _; (with_reducible repeat (first | refine blk_drewN ?_ _ | refine blk_drew ?_ | refine blk_alloc ?_ _)); exact BK190.out⟩, ⟨by (with_reducible repeat (first | refine blk_drewN ?_ _ | refine blk_drew ?_ | refine blk_alloc ?_ _)); refine blk_far ?_ NB192_196.out _; (with_reducible repeat (first | refine blk_drewN ?_ _ | refine blk_drew ?_ | refine blk_alloc ?_ _)); exact BK192.out⟩, ⟨by (with_reducible repeat (first | refine blk_drewN ?_ _ | refine blk_drew ?_ | refine blk_alloc ?_ _)); refine blk_put (cs := #[.int .i64 x197000_1, .int .i64 x197001_1, .int .i64 x197002_1, .bool false]) ?_ 1 _ rfl; (with_reducible repeat (first | refine blk_drewN ?_ _ | refine blk_drew ?_ | refine blk_alloc ?_ _)); exact BK196.out⟩, ⟨by repeat (first | (with_reducible first | exact HB.out | apply below_alloc | apply pw_below_drewN | apply below_drew1 | refine below_set ?_ GE189.out | refine below_set ?_ GE190.out | refine below_set ?_ GE192.out | refine below_set ?_ GE196.out | refine below_set ?_ GE202.out) | exact HB.out)⟩⟩
         ·rw [if_neg c64] at H
          exact absurd H (by simp)
        ·rw [if_neg c63] at H
         have c63b0 : decide (x9_1 < (((rd_T55 l0_0 a1).f2.f1).length : Int)) = false := decide_eq_false c63
         clear c63
         simp only [Option.some.injEq, Prod.mk.injEq] at H
         obtain ⟨rfl, rfl, rfl, rfl⟩ := H
         have hnb118 := NB192_189.out
         have hnc118 := NB189_192.out
         have hnb119 := NB192_190.out
         have hnc119 := NB190_192.out
         have hnb120 := NB192_196.out
         have hnc120 := NB196_192.out
         have hcz121_0 : wr.cell? ⟨gb192, 0, none⟩ = some (.bool false) := (blk_cell BK192.out 0).trans rfl
         have hcz121_1 : wr.cell? ⟨gb192, 1, none⟩ = some (.slice A191_3 ((rd_T55 l0_0 a1).f2.f1).length c191_3) := (blk_cell BK192.out 1).trans rfl
         have hfz121_0 := blk_frozen BK192.out 0
         have hfz121_1 := blk_frozen BK192.out 1
         have hnb122 := NB196_189.out
         have hnc122 := NB189_196.out
         have hnb123 := NB196_190.out
         have hnc123 := NB190_196.out
         have hcz124_0 : wr.cell? ⟨gb196, 0, none⟩ = some (.int .i64 x197000_1) := (blk_cell BK196.out 0).trans rfl
         have hcz124_1 : wr.cell? ⟨gb196, 1, none⟩ = some (.int .i64 x197001_1) := (blk_cell BK196.out 1).trans rfl
         have hcz124_2 : wr.cell? ⟨gb196, 2, none⟩ = some (.int .i64 x197002_1) := (blk_cell BK196.out 2).trans rfl
         have hcz124_3 : wr.cell? ⟨gb196, 3, none⟩ = some (.bool false) := (blk_cell BK196.out 3).trans rfl
         have hfz124_0 := blk_frozen BK196.out 0
         have hfz124_1 := blk_frozen BK196.out 1
         have hfz124_2 := blk_frozen BK196.out 2
         have hfz124_3 := blk_frozen BK196.out 3
         have hnb125 := NB190_189.out
         have hnc125 := NB189_190.out
         have hcz126_0 : wr.cell? ⟨gb190, 0, none⟩ = some (.int .i64 x191000_1) := (blk_cell BK190.out 0).trans rfl
         have hcz126_1 : wr.cell? ⟨gb190, 1, none⟩ = some (.int .i64 x191001_1) := (blk_cell BK190.out 1).trans rfl
         have hcz126_2 : wr.cell? ⟨gb190, 2, none⟩ = some (.int .i64 x191002_1) := (blk_cell BK190.out 2).trans rfl
         have hcz126_3 : wr.cell? ⟨gb190, 3, none⟩ = some (.bool x191003_1) := (blk_cell BK190.out 3).trans rfl
         have hfz126_0 := blk_frozen BK190.out 0
         have hfz126_1 := blk_frozen BK190.out 1
         have hfz126_2 := blk_frozen BK190.out 2
         have hfz126_3 := blk_frozen BK190.out 3
         go_wp2
         refine bodyPost_ret (results_cell_row rfl _ _ gb190 89 #[.int .i64 x197000_1, .int .i64 x197001_1, .int .i64 x197002_1, .bool true] (0, 0) _ rfl (by (with_reducible repeat (first | refine blk_drewN ?_ _ | refine blk_drew ?_ | refine blk_alloc ?_ _)); refine blk_put (cs := #[.int .i64 x197000_1, .int .i64 x197001_1, .int .i64 x197002_1, .bool x191003_1]) ?_ 3 _ rfl; (with_reducible repeat (first | refine blk_drewN ?_ _ | refine blk_drew ?_ | refine blk_alloc ?_ _)); refine blk_put (cs := #[.int .i64 x197000_1, .int .i64 x197001_1, .int .i64 x191002_1, .bool x191003_1]) ?_ 2 _ rfl; (with_reducible repeat (first | refine blk_drewN ?_ _ | refine blk_drew ?_ | refine blk_alloc ?_ _)); refine blk_put (cs := #[.int .i64 x197000_1, .int .i64 x191001_1, .int .i64 x191002_1, .bool x191003_1]) ?_ 1 _ rfl; (with_reducible repeat (first | refine blk_drewN ?_ _ | refine blk_drew ?_ | refine blk_alloc ?_ _)); refine blk_put (cs := #[.int .i64 x191000_1, .int .i64 x191001_1, .int .i64 x191002_1, .bool x191003_1]) ?_ 0 _ rfl; (with_reducible repeat (first | refine blk_drewN ?_ _ | refine blk_drew ?_ | refine blk_alloc ?_ _)); refine blk_far ?_ NB190_196.out _; (with_reducible repeat (first | refine blk_drewN ?_ _ | refine blk_drew ?_ | refine blk_alloc ?_ _)); exact BK190.out) Try.underlying89 rfl (by kernel_rfl)) rfl ?_
         exact ⟨by first | rfl | (simp [errW_none, errW_some] <;> rfl) | (simp [*, errW_none, errW_some] <;> rfl), by repeat (first | (with_reducible first | exact HB.out | apply below_alloc | apply pw_below_drewN | apply below_drew1 | refine below_set ?_ GE189.out | refine below_set ?_ GE190.out | refine below_set ?_ GE192.out | refine below_set ?_ GE196.out) | exact HB.out)⟩
  ·rw [if_neg c5] at H
   exact absurd H (by simp)
 ·rw [if_neg c4] at H
  exact absurd H (by simp)
end Go.Proofs.Yteiladccdenpbaa.P
end
section
namespace Go.Proofs.Yteiladccdenpbaa.P
open Go.RowKit Go.Proofs.YteiladccdenpbaaW.PrintWords Go.Proofs.YteiladccdenpbaaW.PrintLast Go.Proofs.YteiladccdenpbaaW.PrintMore
attribute [local go_sem] max2_int min2_int max_two min_two max_three min_three max_four min_four
set_option linter.unusedVariables false
set_option linter.unusedSimpArgs false
def assartref07_Right.f (k : Nat) (l0_0 : List (S55)) (a0_1 : Int) (a1 : Int) : Option (Bool) := if a1 = (-1) then (some true) else ((assartref05_Used.f l0_0 a0_1 a1).bind fun t205 => (if t205 = true then ((assartref07_below.f k l0_0 a0_1 a1 20).bind fun bt206 => (some bt206.2.2.2)) else (some false)))
set_option maxHeartbeats 8000000 in
set_option maxRecDepth 100000 in
theorem assartref07_Right.calls (k : Nat) (A0_0 : Option Addr) (c0_0 : Nat) (l0_0 : List (S55)) (a0_1 : Int) (a1 : Int) (r : Bool) (w : World) (hr0_0 : Kd.C k55 w A0_0 l0_0.length l0_0) (hc0_0 : l0_0.length ≤ c0_0) (h : assartref07_Right.f k l0_0 a0_1 a1 = some r) :
  Calls Try.prog 17 #[.agg #[.slice A0_0 l0_0.length c0_0, .int .i64 a0_1], .int .i64 a1] w fun e w' => e = .returned (.bool r) ∧ Below w.heap.size w w' := by
 have hu24 := Try.underlying24
 have hu89 := Try.underlying89
 have HR0_0 := Aside0.mk hr0_0
 have HC0_0 := Aside0.mk hc0_0
 clear hr0_0 hc0_0
 have HB := Aside0.mk (Below.refl w.heap.size w)
 have H : (if a1 = (-1) then (some true) else ((assartref05_Used.f l0_0 a0_1 a1).bind fun t205 => (if t205 = true then ((assartref07_below.f k l0_0 a0_1 a1 20).bind fun bt206 => (some bt206.2.2.2)) else (some false)))) = some r := h
 clear h
 by_cases c3 : a1 = (-1)
 ·rw [if_pos c3] at H
  have c3b0 : (a1 == (-1)) = true := beq_iff_eq.mpr c3
  have c3b1 : (a1 != (-1)) = false := bne_eq_false_iff_eq.mpr c3
  clear c3
  obtain rfl := Option.some.inj H
  go_enter Try.func17, Try.ntmps17
  go_wp2_with (first | ((with_reducible refine gate_dst (N := 2) rfl ?_); refine box_event ?hg (N := 2) ?hd (cs := #[.slice A0_0 l0_0.length c0_0, .int .i64 a0_1]) (t := 24) ?hr ?_; (case hd => rfl); (case hg => rfl); (case hr => first | (go_simp; done) | (go_simp; rfl)); intro gb204 hg w4 hbox hb; have n0_ := Aside0.mk (below_step (by repeat (first | (with_reducible first | exact HB.out | apply below_alloc | apply pw_below_drewN | apply below_drew1) | exact HB.out)) hb); have n1_ := Aside0.mk (hbox); have n2_ := Aside0.mk ((by rw [hg]; exact (below_size (by repeat (first | (with_reducible first | exact HB.out | apply below_alloc | apply pw_below_drewN | apply below_drew1) | exact HB.out))) : w.heap.size ≤ gb204)); have n3_ := Aside0.mk ((by rw [hg]; exact (below_size (by repeat (first | (with_reducible first | exact HB.out | apply below_alloc | apply pw_below_drewN | apply below_drew1) | exact HB.out))) : w.heap.size ≤ gb204)); clear HB; have HB := n0_; have BK204 := n1_; have GW204 := n2_; have GE204 := n3_; clear n0_ n1_ n2_ n3_; clear hb hbox hg))
  go_ret
  exact ⟨by first | rfl | (simp [errW_none, errW_some] <;> rfl) | (simp [*, errW_none, errW_some] <;> rfl), by repeat (first | (with_reducible first | exact HB.out | apply below_alloc | apply pw_below_drewN | apply below_drew1 | refine below_set ?_ GE204.out) | exact HB.out)⟩
 ·rw [if_neg c3] at H
  have c3b0 : (a1 == (-1)) = false := beq_eq_false_iff_ne.mpr c3
  have c3b1 : (a1 != (-1)) = true := bne_iff_ne.mpr c3
  replace H := Option.bind_eq_some_iff.mp H
  obtain ⟨t205, A50, H⟩ := H
  replace H : (if t205 = true then ((assartref07_below.f k l0_0 a0_1 a1 20).bind fun bt206 => (some bt206.2.2.2)) else (some false)) = some r := H
  have A5 := Aside0.mk A50
  clear A50
  by_cases c6 : t205 = true
  ·subst c6
   have H1 : ((assartref07_below.f k l0_0 a0_1 a1 20).bind fun bt206 => (some bt206.2.2.2)) = some r := by rw [if_pos rfl] at H; exact H
   clear H
   have H := H1
   clear H1
   replace H := Option.bind_eq_some_iff.mp H
   obtain ⟨⟨t206, t207, t208, t209⟩, A70, H⟩ := H
   replace H : (some t209) = some r := H
   have A7 := Aside0.mk A70
   clear A70
   obtain rfl := Option.some.inj H
   go_enter Try.func17, Try.ntmps17
   go_wp2_with (first | ((with_reducible refine gate_dst (N := 2) rfl ?_); refine box_event ?hg (N := 2) ?hd (cs := #[.slice A0_0 l0_0.length c0_0, .int .i64 a0_1]) (t := 24) ?hr ?_; (case hd => rfl); (case hg => rfl); (case hr => first | (go_simp; done) | (go_simp; rfl)); intro gb204 hg w8 hbox hb; have n0_ := Aside0.mk (below_step (by repeat (first | (with_reducible first | exact HB.out | apply below_alloc | apply pw_below_drewN | apply below_drew1) | exact HB.out)) hb); have n1_ := Aside0.mk (hbox); have n2_ := Aside0.mk ((by rw [hg]; exact (below_size (by repeat (first | (with_reducible first | exact HB.out | apply below_alloc | apply pw_below_drewN | apply below_drew1) | exact HB.out))) : w.heap.size ≤ gb204)); have n3_ := Aside0.mk ((by rw [hg]; exact (below_size (by repeat (first | (with_reducible first | exact HB.out | apply below_alloc | apply pw_below_drewN | apply below_drew1) | exact HB.out))) : w.heap.size ≤ gb204)); clear HB; have HB := n0_; have BK204 := n1_; have GW204 := n2_; have GE204 := n3_; clear n0_ n1_ n2_ n3_; clear hb hbox hg; have hcz9_0 : w8.cell? ⟨gb204, 0, none⟩ = some (.slice A0_0 l0_0.length c0_0) := (blk_cell BK204.out 0).trans rfl; have hcz9_1 : w8.cell? ⟨gb204, 1, none⟩ = some (.int .i64 a0_1) := (blk_cell BK204.out 1).trans rfl; have hfz9_0 := blk_frozen BK204.out 0; have hfz9_1 := blk_frozen BK204.out 1) | ((with_reducible refine gate_callee (f := 52) rfl ?_); refine goesL_ (some 11) rfl rfl Try.func52 (by kernel_rfl) rfl #[.agg #[.slice A0_0 l0_0.length c0_0, .int .i64 a0_1], .int .i64 a1] rfl (by (try simp only [List.map_toArray, List.map_cons, List.map_nil]); first | done | rfl | (simp only [List.length_drop, List.length_take]; rfl)) ?_; (with_reducible refine (assartref05_Used.calls _ _ l0_0 a0_1 a1 true _ ?side1 ?side2 A5.out).mono ?_); (case side1 => repeat (first | exact (Kd.C_below HR0_0.out HB.out) | (with_reducible refine Kd.C_alloc ?_ _) | (with_reducible refine Kd.C_drewN ?_ _) | (with_reducible refine Kd.C_drew ?_))); (case side2 => exact HC0_0.out); rintro e w10 ⟨rfl, hb⟩; refine ⟨_, rfl, ?_⟩; have n0_ := Aside0.mk (blk_below (g := gb204) (o := .cells #[.slice A0_0 l0_0.length c0_0, .int .i64 a0_1] 24 (0, 0)) (by (with_reducible repeat (first | refine blk_drewN ?_ _ | refine blk_drew ?_ | refine blk_alloc ?_ _)); exact BK204.out) hb); have n1_ := Aside0.mk (below_step (by repeat (first | (with_reducible first | exact HB.out | apply below_alloc | apply pw_below_drewN | apply below_drew1 | refine below_set ?_ GE204.out) | exact HB.out)) hb); clear BK204; clear HB; have BK204 := n0_; have HB := n1_; clear n0_ n1_; (try clear hb); (try clear hb2); (try clear hk); (try clear hi); have hcz11_0 : w10.cell? ⟨gb204, 0, none⟩ = some (.slice A0_0 l0_0.length c0_0) := (blk_cell BK204.out 0).trans rfl; have hcz11_1 : w10.cell? ⟨gb204, 1, none⟩ = some (.int .i64 a0_1) := (blk_cell BK204.out 1).trans rfl; have hfz11_0 := blk_frozen BK204.out 0; have hfz11_1 := blk_frozen BK204.out 1) | ((with_reducible refine gate_callee (f := 57) rfl ?_); refine goesL_ (some 16) rfl rfl Try.func57 (by kernel_rfl) rfl #[.agg #[.slice A0_0 l0_0.length c0_0, .int .i64 a0_1], .int .i64 a1, .int .i64 20] rfl (by (try simp only [List.map_toArray, List.map_cons, List.map_nil]); first | done | rfl | (simp only [List.length_drop, List.length_take]; rfl)) ?_; (with_reducible refine (assartref07_below.calls k _ _ l0_0 a0_1 a1 20 t206 t207 t208 t209 _ ?side1 ?side2 A7.out).mono ?_); (case side1 => repeat (first | exact (Kd.C_below HR0_0.out HB.out) | (with_reducible refine Kd.C_alloc ?_ _) | (with_reducible refine Kd.C_drewN ?_ _) | (with_reducible refine Kd.C_drew ?_))); (case side2 => exact HC0_0.out); rintro e w12 ⟨rfl, hb⟩; refine ⟨_, rfl, ?_⟩; have n0_ := Aside0.mk (blk_below (g := gb204) (o := .cells #[.slice A0_0 l0_0.length c0_0, .int .i64 a0_1] 24 (0, 0)) (by (with_reducible repeat (first | refine blk_drewN ?_ _ | refine blk_drew ?_ | refine blk_alloc ?_ _)); exact BK204.out) hb); have n1_ := Aside0.mk (below_step (by repeat (first | (with_reducible first | exact HB.out | apply below_alloc | apply pw_below_drewN | apply below_drew1 | refine below_set ?_ GE204.out) | exact HB.out)) hb); clear BK204; clear HB; have BK204 := n0_; have HB := n1_; clear n0_ n1_; (try clear hb); (try clear hb2); (try clear hk); (try clear hi)) | ((with_reducible refine gate_dst (N := 6) rfl ?_); refine box_event ?hg (N := 6) ?hd (cs := #[.int .i64 0, .int .i64 0, .int .i64 0, .bool false]) (t := 89) ?hr ?_; (case hd => rfl); (case hg => rfl); (case hr => first | (go_simp; done) | (go_simp; rfl)); intro gb210 hg w13 hbox hb; have n0_ := Aside0.mk (blk_below (g := gb204) (o := .cells #[.slice A0_0 l0_0.length c0_0, .int .i64 a0_1] 24 (0, 0)) (by (with_reducible repeat (first | refine blk_drewN ?_ _ | refine blk_drew ?_ | refine blk_alloc ?_ _)); exact BK204.out) hb); have n1_ := Aside0.mk (below_step (by repeat (first | (with_reducible first | exact HB.out | apply below_alloc | apply pw_below_drewN | apply below_drew1 | refine below_set ?_ GE204.out) | exact HB.out)) hb); have n2_ := Aside0.mk (hbox); have n3_ := Aside0.mk ((by rw [hg]; exact (below_size (by repeat (first | (with_reducible first | exact HB.out | apply below_alloc | apply pw_below_drewN | apply below_drew1 | refine below_set ?_ GE204.out) | exact HB.out))) : w.heap.size ≤ gb210)); have n4_ := Aside0.mk ((by rw [hg]; exact (below_size (by repeat (first | (with_reducible first | exact HB.out | apply below_alloc | apply pw_below_drewN | apply below_drew1 | refine below_set ?_ GE204.out) | exact HB.out))) : w.heap.size ≤ gb210)); have n5_ := Aside0.mk ((by rw [hg]; exact Nat.ne_of_lt (blk_lt (g := gb204) (o := .cells #[.slice A0_0 l0_0.length c0_0, .int .i64 a0_1] 24 (0, 0)) (by (with_reducible repeat (first | refine blk_drewN ?_ _ | refine blk_drew ?_ | refine blk_alloc ?_ _)); exact BK204.out)) : gb204 ≠ gb210)); have n6_ := Aside0.mk ((by rw [hg]; exact Nat.ne_of_gt (blk_lt (g := gb204) (o := .cells #[.slice A0_0 l0_0.length c0_0, .int .i64 a0_1] 24 (0, 0)) (by (with_reducible repeat (first | refine blk_drewN ?_ _ | refine blk_drew ?_ | refine blk_alloc ?_ _)); exact BK204.out)) : gb210 ≠ gb204)); clear BK204; clear HB; have BK204 := n0_; have HB := n1_; have BK210 := n2_; have GW210 := n3_; have GE210 := n4_; have NB204_210 := n5_; have NB210_204 := n6_; clear n0_ n1_ n2_ n3_ n4_ n5_ n6_; clear hb hbox hg; have hnb14 := NB210_204.out; have hnc14 := NB204_210.out; have hcz15_0 : w13.cell? ⟨gb210, 0, none⟩ = some (.int .i64 0) := (blk_cell BK210.out 0).trans rfl; have hcz15_1 : w13.cell? ⟨gb210, 1, none⟩ = some (.int .i64 0) := (blk_cell BK210.out 1).trans rfl; have hcz15_2 : w13.cell? ⟨gb210, 2, none⟩ = some (.int .i64 0) := (blk_cell BK210.out 2).trans rfl; have hcz15_3 : w13.cell? ⟨gb210, 3, none⟩ = some (.bool false) := (blk_cell BK210.out 3).trans rfl; have hfz15_0 := blk_frozen BK210.out 0; have hfz15_1 := blk_frozen BK210.out 1; have hfz15_2 := blk_frozen BK210.out 2; have hfz15_3 := blk_frozen BK210.out 3))
   go_ret
   exact ⟨by first | rfl | (simp [errW_none, errW_some] <;> rfl) | (simp [*, errW_none, errW_some] <;> rfl), by repeat (first | (with_reducible first | exact HB.out | apply below_alloc | apply pw_below_drewN | apply below_drew1 | refine below_set ?_ GE204.out | refine below_set ?_ GE210.out) | exact HB.out)⟩
  ·replace c6 := Bool.eq_false_iff.mpr c6
   subst c6
   have H1 : (some false) = some r := by rw [if_neg (show ¬ (false = true) by decide)] at H; exact H
   clear H
   have H := H1
   clear H1
   obtain rfl := Option.some.inj H
   go_enter Try.func17, Try.ntmps17
   go_wp2_with (first | ((with_reducible refine gate_dst (N := 2) rfl ?_); refine box_event ?hg (N := 2) ?hd (cs := #[.slice A0_0 l0_0.length c0_0, .int .i64 a0_1]) (t := 24) ?hr ?_; (case hd => rfl); (case hg => rfl); (case hr => first | (go_simp; done) | (go_simp; rfl)); intro gb204 hg w16 hbox hb; have n0_ := Aside0.mk (below_step (by repeat (first | (with_reducible first | exact HB.out | apply below_alloc | apply pw_below_drewN | apply below_drew1) | exact HB.out)) hb); have n1_ := Aside0.mk (hbox); have n2_ := Aside0.mk ((by rw [hg]; exact (below_size (by repeat (first | (with_reducible first | exact HB.out | apply below_alloc | apply pw_below_drewN | apply below_drew1) | exact HB.out))) : w.heap.size ≤ gb204)); have n3_ := Aside0.mk ((by rw [hg]; exact (below_size (by repeat (first | (with_reducible first | exact HB.out | apply below_alloc | apply pw_below_drewN | apply below_drew1) | exact HB.out))) : w.heap.size ≤ gb204)); clear HB; have HB := n0_; have BK204 := n1_; have GW204 := n2_; have GE204 := n3_; clear n0_ n1_ n2_ n3_; clear hb hbox hg; have hcz17_0 : w16.cell? ⟨gb204, 0, none⟩ = some (.slice A0_0 l0_0.length c0_0) := (blk_cell BK204.out 0).trans rfl; have hcz17_1 : w16.cell? ⟨gb204, 1, none⟩ = some (.int .i64 a0_1) := (blk_cell BK204.out 1).trans rfl; have hfz17_0 := blk_frozen BK204.out 0; have hfz17_1 := blk_frozen BK204.out 1) | ((with_reducible refine gate_callee (f := 52) rfl ?_); refine goesL_ (some 11) rfl rfl Try.func52 (by kernel_rfl) rfl #[.agg #[.slice A0_0 l0_0.length c0_0, .int .i64 a0_1], .int .i64 a1] rfl (by (try simp only [List.map_toArray, List.map_cons, List.map_nil]); first | done | rfl | (simp only [List.length_drop, List.length_take]; rfl)) ?_; (with_reducible refine (assartref05_Used.calls _ _ l0_0 a0_1 a1 false _ ?side1 ?side2 A5.out).mono ?_); (case side1 => repeat (first | exact (Kd.C_below HR0_0.out HB.out) | (with_reducible refine Kd.C_alloc ?_ _) | (with_reducible refine Kd.C_drewN ?_ _) | (with_reducible refine Kd.C_drew ?_))); (case side2 => exact HC0_0.out); rintro e w18 ⟨rfl, hb⟩; refine ⟨_, rfl, ?_⟩; have n0_ := Aside0.mk (blk_below (g := gb204) (o := .cells #[.slice A0_0 l0_0.length c0_0, .int .i64 a0_1] 24 (0, 0)) (by (with_reducible repeat (first | refine blk_drewN ?_ _ | refine blk_drew ?_ | refine blk_alloc ?_ _)); exact BK204.out) hb); have n1_ := Aside0.mk (below_step (by repeat (first | (with_reducible first | exact HB.out | apply below_alloc | apply pw_below_drewN | apply below_drew1 | refine below_set ?_ GE204.out) | exact HB.out)) hb); clear BK204; clear HB; have BK204 := n0_; have HB := n1_; clear n0_ n1_; (try clear hb); (try clear hb2); (try clear hk); (try clear hi)))
   go_ret
   exact ⟨by first | rfl | (simp [errW_none, errW_some] <;> rfl) | (simp [*, errW_none, errW_some] <;> rfl), by repeat (first | (with_reducible first | exact HB.out | apply below_alloc | apply pw_below_drewN | apply below_drew1 | refine below_set ?_ GE204.out) | exact HB.out)⟩
end Go.Proofs.Yteiladccdenpbaa.P
end
section
namespace Go.Proofs.Yteiladccdenpbaa.P
open Go.RowKit Go.Proofs.YteiladccdenpbaaW.PrintWords Go.Proofs.YteiladccdenpbaaW.PrintLast Go.Proofs.YteiladccdenpbaaW.PrintMore
attribute [local go_sem] max2_int min2_int max_two min_two max_three min_three max_four min_four
set_option linter.unusedVariables false
set_option linter.unusedSimpArgs false
def assartref07_May.f (k : Nat) (l0_0 : List (S55)) (a0_1 : Int) (a1 : Int) (a2 : Int) : Option (Bool) := (assartref05_May.f k l0_0 a0_1 a2).bind fun t246 => (if t246 = true then ((assartref07_Right.f k l0_0 a0_1 a1).bind fun t247 => (some t247)) else (some false))
set_option maxHeartbeats 8000000 in
set_option maxRecDepth 100000 in
theorem assartref07_May.calls (k : Nat) (A0_0 : Option Addr) (c0_0 : Nat) (l0_0 : List (S55)) (a0_1 : Int) (a1 : Int) (a2 : Int) (r : Bool) (w : World) (hr0_0 : Kd.C k55 w A0_0 l0_0.length l0_0) (hc0_0 : l0_0.length ≤ c0_0) (h : assartref07_May.f k l0_0 a0_1 a1 a2 = some r) :
  Calls Try.prog 26 #[.agg #[.slice A0_0 l0_0.length c0_0, .int .i64 a0_1], .int .i64 a1, .int .i64 a2] w fun e w' => e = .returned (.bool r) ∧ Below w.heap.size w w' := by
 have hu24 := Try.underlying24
 have HR0_0 := Aside0.mk hr0_0
 have HC0_0 := Aside0.mk hc0_0
 clear hr0_0 hc0_0
 have HB := Aside0.mk (Below.refl w.heap.size w)
 have H : ((assartref05_May.f k l0_0 a0_1 a2).bind fun t246 => (if t246 = true then ((assartref07_Right.f k l0_0 a0_1 a1).bind fun t247 => (some t247)) else (some false))) = some r := h
 clear h
 replace H := Option.bind_eq_some_iff.mp H
 obtain ⟨t246, A40, H⟩ := H
 replace H : (if t246 = true then ((assartref07_Right.f k l0_0 a0_1 a1).bind fun t247 => (some t247)) else (some false)) = some r := H
 have A4 := Aside0.mk A40
 clear A40
 by_cases c5 : t246 = true
 ·subst c5
  have H1 : ((assartref07_Right.f k l0_0 a0_1 a1).bind fun t247 => (some t247)) = some r := by rw [if_pos rfl] at H; exact H
  clear H
  have H := H1
  clear H1
  replace H := Option.bind_eq_some_iff.mp H
  obtain ⟨t247, A60, H⟩ := H
  replace H : (some t247) = some r := H
  have A6 := Aside0.mk A60
  clear A60
  obtain rfl := Option.some.inj H
  go_enter Try.func26, Try.ntmps26
  go_wp2_with (first | ((with_reducible refine gate_dst (N := 3) rfl ?_); refine box_event ?hg (N := 3) ?hd (cs := #[.slice A0_0 l0_0.length c0_0, .int .i64 a0_1]) (t := 24) ?hr ?_; (case hd => rfl); (case hg => rfl); (case hr => first | (go_simp; done) | (go_simp; rfl)); intro gb245 hg w7 hbox hb; have n0_ := Aside0.mk (below_step (by repeat (first | (with_reducible first | exact HB.out | apply below_alloc | apply pw_below_drewN | apply below_drew1) | exact HB.out)) hb); have n1_ := Aside0.mk (hbox); have n2_ := Aside0.mk ((by rw [hg]; exact (below_size (by repeat (first | (with_reducible first | exact HB.out | apply below_alloc | apply pw_below_drewN | apply below_drew1) | exact HB.out))) : w.heap.size ≤ gb245)); have n3_ := Aside0.mk ((by rw [hg]; exact (below_size (by repeat (first | (with_reducible first | exact HB.out | apply below_alloc | apply pw_below_drewN | apply below_drew1) | exact HB.out))) : w.heap.size ≤ gb245)); clear HB; have HB := n0_; have BK245 := n1_; have GW245 := n2_; have GE245 := n3_; clear n0_ n1_ n2_ n3_; clear hb hbox hg; have hcz8_0 : w7.cell? ⟨gb245, 0, none⟩ = some (.slice A0_0 l0_0.length c0_0) := (blk_cell BK245.out 0).trans rfl; have hcz8_1 : w7.cell? ⟨gb245, 1, none⟩ = some (.int .i64 a0_1) := (blk_cell BK245.out 1).trans rfl; have hfz8_0 := blk_frozen BK245.out 0; have hfz8_1 := blk_frozen BK245.out 1) | ((with_reducible refine gate_callee (f := 16) rfl ?_); refine goesL_ (some 9) rfl rfl Try.func16 (by kernel_rfl) rfl #[.agg #[.slice A0_0 l0_0.length c0_0, .int .i64 a0_1], .int .i64 a2] rfl (by (try simp only [List.map_toArray, List.map_cons, List.map_nil]); first | done | rfl | (simp only [List.length_drop, List.length_take]; rfl)) ?_; (with_reducible refine (assartref05_May.calls k _ _ l0_0 a0_1 a2 true _ ?side1 ?side2 A4.out).mono ?_); (case side1 => repeat (first | exact (Kd.C_below HR0_0.out HB.out) | (with_reducible refine Kd.C_alloc ?_ _) | (with_reducible refine Kd.C_drewN ?_ _) | (with_reducible refine Kd.C_drew ?_))); (case side2 => exact HC0_0.out); rintro e w9 ⟨rfl, hb⟩; refine ⟨_, rfl, ?_⟩; have n0_ := Aside0.mk (blk_below (g := gb245) (o := .cells #[.slice A0_0 l0_0.length c0_0, .int .i64 a0_1] 24 (0, 0)) (by (with_reducible repeat (first | refine blk_drewN ?_ _ | refine blk_drew ?_ | refine blk_alloc ?_ _)); exact BK245.out) hb); have n1_ := Aside0.mk (below_step (by repeat (first | (with_reducible first | exact HB.out | apply below_alloc | apply pw_below_drewN | apply below_drew1 | refine below_set ?_ GE245.out) | exact HB.out)) hb); clear BK245; clear HB; have BK245 := n0_; have HB := n1_; clear n0_ n1_; (try clear hb); (try clear hb2); (try clear hk); (try clear hi); have hcz10_0 : w9.cell? ⟨gb245, 0, none⟩ = some (.slice A0_0 l0_0.length c0_0) := (blk_cell BK245.out 0).trans rfl; have hcz10_1 : w9.cell? ⟨gb245, 1, none⟩ = some (.int .i64 a0_1) := (blk_cell BK245.out 1).trans rfl; have hfz10_0 := blk_frozen BK245.out 0; have hfz10_1 := blk_frozen BK245.out 1) | (go_at_call 17; (with_reducible refine (assartref07_Right.calls k _ _ l0_0 a0_1 a1 t247 _ ?side1 ?side2 A6.out).mono ?_); (case side1 => repeat (first | exact (Kd.C_below HR0_0.out HB.out) | (with_reducible refine Kd.C_alloc ?_ _) | (with_reducible refine Kd.C_drewN ?_ _) | (with_reducible refine Kd.C_drew ?_))); (case side2 => exact HC0_0.out); rintro e w11 ⟨rfl, hb⟩; have n0_ := Aside0.mk (blk_below (g := gb245) (o := .cells #[.slice A0_0 l0_0.length c0_0, .int .i64 a0_1] 24 (0, 0)) (by (with_reducible repeat (first | refine blk_drewN ?_ _ | refine blk_drew ?_ | refine blk_alloc ?_ _)); exact BK245.out) hb); have n1_ := Aside0.mk (below_step (by repeat (first | (with_reducible first | exact HB.out | apply below_alloc | apply pw_below_drewN | apply below_drew1 | refine below_set ?_ GE245.out) | exact HB.out)) hb); clear BK245; clear HB; have BK245 := n0_; have HB := n1_; clear n0_ n1_; (try clear hb); (try clear hb2); (try clear hk); (try clear hi)))
  go_ret
  exact ⟨by first | rfl | (simp [errW_none, errW_some] <;> rfl) | (simp [*, errW_none, errW_some] <;> rfl), by repeat (first | (with_reducible first | exact HB.out | apply below_alloc | apply pw_below_drewN | apply below_drew1 | refine below_set ?_ GE245.out) | exact HB.out)⟩
 ·replace c5 := Bool.eq_false_iff.mpr c5
  subst c5
  have H1 : (some false) = some r := by rw [if_neg (show ¬ (false = true) by decide)] at H; exact H
  clear H
  have H := H1
  clear H1
  obtain rfl := Option.some.inj H
  go_enter Try.func26, Try.ntmps26
  go_wp2_with (first | ((with_reducible refine gate_dst (N := 3) rfl ?_); refine box_event ?hg (N := 3) ?hd (cs := #[.slice A0_0 l0_0.length c0_0, .int .i64 a0_1]) (t := 24) ?hr ?_; (case hd => rfl); (case hg => rfl); (case hr => first | (go_simp; done) | (go_simp; rfl)); intro gb245 hg w12 hbox hb; have n0_ := Aside0.mk (below_step (by repeat (first | (with_reducible first | exact HB.out | apply below_alloc | apply pw_below_drewN | apply below_drew1) | exact HB.out)) hb); have n1_ := Aside0.mk (hbox); have n2_ := Aside0.mk ((by rw [hg]; exact (below_size (by repeat (first | (with_reducible first | exact HB.out | apply below_alloc | apply pw_below_drewN | apply below_drew1) | exact HB.out))) : w.heap.size ≤ gb245)); have n3_ := Aside0.mk ((by rw [hg]; exact (below_size (by repeat (first | (with_reducible first | exact HB.out | apply below_alloc | apply pw_below_drewN | apply below_drew1) | exact HB.out))) : w.heap.size ≤ gb245)); clear HB; have HB := n0_; have BK245 := n1_; have GW245 := n2_; have GE245 := n3_; clear n0_ n1_ n2_ n3_; clear hb hbox hg; have hcz13_0 : w12.cell? ⟨gb245, 0, none⟩ = some (.slice A0_0 l0_0.length c0_0) := (blk_cell BK245.out 0).trans rfl; have hcz13_1 : w12.cell? ⟨gb245, 1, none⟩ = some (.int .i64 a0_1) := (blk_cell BK245.out 1).trans rfl; have hfz13_0 := blk_frozen BK245.out 0; have hfz13_1 := blk_frozen BK245.out 1) | ((with_reducible refine gate_callee (f := 16) rfl ?_); refine goesL_ (some 9) rfl rfl Try.func16 (by kernel_rfl) rfl #[.agg #[.slice A0_0 l0_0.length c0_0, .int .i64 a0_1], .int .i64 a2] rfl (by (try simp only [List.map_toArray, List.map_cons, List.map_nil]); first | done | rfl | (simp only [List.length_drop, List.length_take]; rfl)) ?_; (with_reducible refine (assartref05_May.calls k _ _ l0_0 a0_1 a2 false _ ?side1 ?side2 A4.out).mono ?_); (case side1 => repeat (first | exact (Kd.C_below HR0_0.out HB.out) | (with_reducible refine Kd.C_alloc ?_ _) | (with_reducible refine Kd.C_drewN ?_ _) | (with_reducible refine Kd.C_drew ?_))); (case side2 => exact HC0_0.out); rintro e w14 ⟨rfl, hb⟩; refine ⟨_, rfl, ?_⟩; have n0_ := Aside0.mk (blk_below (g := gb245) (o := .cells #[.slice A0_0 l0_0.length c0_0, .int .i64 a0_1] 24 (0, 0)) (by (with_reducible repeat (first | refine blk_drewN ?_ _ | refine blk_drew ?_ | refine blk_alloc ?_ _)); exact BK245.out) hb); have n1_ := Aside0.mk (below_step (by repeat (first | (with_reducible first | exact HB.out | apply below_alloc | apply pw_below_drewN | apply below_drew1 | refine below_set ?_ GE245.out) | exact HB.out)) hb); clear BK245; clear HB; have BK245 := n0_; have HB := n1_; clear n0_ n1_; (try clear hb); (try clear hb2); (try clear hk); (try clear hi)))
  go_ret
  exact ⟨by first | rfl | (simp [errW_none, errW_some] <;> rfl) | (simp [*, errW_none, errW_some] <;> rfl), by repeat (first | (with_reducible first | exact HB.out | apply below_alloc | apply pw_below_drewN | apply below_drew1 | refine below_set ?_ GE245.out) | exact HB.out)⟩
end Go.Proofs.Yteiladccdenpbaa.P
end
section
namespace Go.Proofs.Yteiladccdenpbaa.P
open Go.RowKit Go.Proofs.YteiladccdenpbaaW.PrintWords Go.Proofs.YteiladccdenpbaaW.PrintLast Go.Proofs.YteiladccdenpbaaW.PrintMore
attribute [local go_sem] max2_int min2_int max_two min_two max_three min_three max_four min_four
set_option linter.unusedVariables false
set_option linter.unusedSimpArgs false
theorem eqA49 (d : Nat) (w : World) (x0 y0 : Int) (x1 y1 : Int) :
  (Op.equalIn (d + 2) 49 (.agg #[.int .i64 x0, .int .i64 x1]) (.agg #[.int .i64 y0, .int .i64 y1])).run Try.prog w = .ok (x0 == y0 && (x1 == y1)) w := by
 refine eqA_of Try.underlying49 (by kernel_rfl) ?_
 refine eqf_cons (by rfl) (by go_simp; rfl) (by go_simp; rfl) (by go_simp) ?_
 exact eqf_last (by rfl) (by go_simp; rfl) (by go_simp; rfl) (by go_simp)
end Go.Proofs.Yteiladccdenpbaa.P
end
section
namespace Go.Proofs.Yteiladccdenpbaa.P
open Go.RowKit Go.Proofs.YteiladccdenpbaaW.PrintWords Go.Proofs.YteiladccdenpbaaW.PrintLast Go.Proofs.YteiladccdenpbaaW.PrintMore
attribute [local go_sem] max2_int min2_int max_two min_two max_three min_three max_four min_four
set_option linter.unusedVariables false
set_option linter.unusedSimpArgs false
attribute [local go_sem high] eqA49
def assartref04_Items.l0 : Nat → List (S49) → List (S49) → Int → Option (Bool)
 | 0, _, _, _ => none
 | k + 1, x0, x1, x5 => if x5 < (x0.length : Int) then (if 0 ≤ x5 then (if x5 < (x1.length : Int) then (if (!(((rd_T49 x0 x5).f0) == ((rd_T49 x1 x5).f0)) || (!(((rd_T49 x0 x5).f1) == ((rd_T49 x1 x5).f1)))) = true then (some false) else (assartref04_Items.l0 k x0 x1 (wrap64 (x5 + 1)))) else (none)) else (none)) else (some true)
def assartref04_Items.f (k : Nat) (l0 : List (S49)) (l1 : List (S49)) : Option (Bool) := if (l0.length : Int) = (l1.length : Int) then (assartref04_Items.l0 k l0 l1 0) else (some false)
set_option maxHeartbeats 8000000 in
set_option maxRecDepth 100000 in
theorem assartref04_Items.calls (k : Nat) (A0 : Option Addr) (c0 : Nat) (l0 : List (S49)) (A1 : Option Addr) (c1 : Nat) (l1 : List (S49)) (r : Bool) (w : World) (hr0 : Kd.C k49 w A0 l0.length l0) (hc0 : l0.length ≤ c0) (hr1 : Kd.C k49 w A1 l1.length l1) (hc1 : l1.length ≤ c1) (h : assartref04_Items.f k l0 l1 = some r) :
  Calls Try.prog 29 #[.slice A0 l0.length c0, .slice A1 l1.length c1] w fun e w' => e = .returned (.bool r) ∧ Drawn0 w w' := by
 have hu49 := Try.underlying49
 have HR0 := Aside0.mk hr0
 have HC0 := Aside0.mk hc0
 clear hr0 hc0
 have HR1 := Aside0.mk hr1
 have HC1 := Aside0.mk hc1
 clear hr1 hc1
 have H : (if (l0.length : Int) = (l1.length : Int) then (assartref04_Items.l0 k l0 l1 0) else (some false)) = some r := h
 clear h
 by_cases c3 : (l0.length : Int) = (l1.length : Int)
 ·rw [if_pos c3] at H
  have c3b0 : ((l0.length : Int) == (l1.length : Int)) = true := beq_iff_eq.mpr c3
  have c3b1 : ((l0.length : Int) != (l1.length : Int)) = false := bne_eq_false_iff_eq.mpr c3
  have c3b2 : (l0.length == l1.length) = true := by first | simpa using c3 | (simp at c3 ⊢; omega)
  clear c3
  have H' := Aside0.mk H
  clear H
  go_enter Try.func29, Try.ntmps29
  go_wp2
  repeat (go_quiet (fail); try go_wp2)
  go_loopg [5] k (fun kq v5 w' => ∃ (x5_1 : Int), v5 = .int .i64 x5_1 ∧ Aside0 (assartref04_Items.l0 kq l0 l1 x5_1 = some r) ∧ Aside0 (kq ≤ k) ∧ Drawn0 w w')
  case atStart => exact ⟨(0), (by first | rfl | (simp; done) | (simp [*]; done)), H', ⟨Nat.le_refl _⟩, by repeat (first | exact Drawn0.refl _ | apply Drawn0.step)⟩
  case round =>
   clear H'
   try clear c1
   try clear c2
   try clear p2
   try clear c3
   try clear c3b0
   try clear c3b1
   try clear c3b2
   obtain ⟨x5_1, rfl, HA, HK1, ⟨m1, rfl⟩⟩ := hrel
   cases gk with
   | zero => exact absurd HA.out (by simp [assartref04_Items.l0])
   | succ k1 =>
    have H := HA.out
    clear HA
    simp only [assartref04_Items.l0] at H
    by_cases c4 : x5_1 < (l0.length : Int)
    ·rw [if_pos c4] at H
     have c4b0 : decide (x5_1 < (l0.length : Int)) = true := decide_eq_true c4
     clear c4
     by_cases c5 : 0 ≤ x5_1
     ·rw [if_pos c5] at H
      have c5b0 : decide (0 ≤ x5_1) = true := decide_eq_true c5
      clear c5
      by_cases c6 : x5_1 < (l1.length : Int)
      ·rw [if_pos c6] at H
       have c6b0 : decide (x5_1 < (l1.length : Int)) = true := decide_eq_true c6
       clear c6
       by_cases c7 : (!(((rd_T49 l0 x5_1).f0) == ((rd_T49 l1 x5_1).f0)) || (!(((rd_T49 l0 x5_1).f1) == ((rd_T49 l1 x5_1).f1)))) = true
       ·rw [if_pos c7] at H
        have c7b0 : (!(((rd_T49 l0 x5_1).f0) == ((rd_T49 l1 x5_1).f0)) || (!(((rd_T49 l0 x5_1).f1) == ((rd_T49 l1 x5_1).f1)))) = true := c7
        clear c7
        obtain rfl := Option.some.inj H
        have p264 : 0 ≤ (x5_1 : Int) := of_decide_eq_true (by first | (with_reducible assumption) | assumption)
        have q264 : x5_1 < (l0.length : Int) := of_decide_eq_true (by first | (with_reducible assumption) | assumption)
        obtain ⟨ad264, e264, hx264_0, hx264_1⟩ := at_T49 HR0.out x5_1 p264 q264
        cases e264
        replace p264 := eq_true p264
        replace q264 := eq_true q264
        have p265 : 0 ≤ (x5_1 : Int) := of_decide_eq_true (by first | (with_reducible assumption) | assumption)
        have q265 : x5_1 < (l1.length : Int) := of_decide_eq_true (by first | (with_reducible assumption) | assumption)
        obtain ⟨ad265, e265, hx265_0, hx265_1⟩ := at_T49 HR1.out x5_1 p265 q265
        cases e265
        replace p265 := eq_true p265
        replace q265 := eq_true q265
        go_wp2
        repeat (go_quiet (fail); try go_wp2)
        go_ret
        exact ⟨by first | rfl | (simp; done) | (simp [*]; done), by repeat (first | exact Drawn0.refl _ | apply Drawn0.step)⟩
       ·rw [if_neg c7] at H
        have c7b0 : (!(((rd_T49 l0 x5_1).f0) == ((rd_T49 l1 x5_1).f0)) || (!(((rd_T49 l0 x5_1).f1) == ((rd_T49 l1 x5_1).f1)))) = false := by simpa using c7
        clear c7
        have H' := Aside0.mk H
        clear H
        have p264 : 0 ≤ (x5_1 : Int) := of_decide_eq_true (by first | (with_reducible assumption) | assumption)
        have q264 : x5_1 < (l0.length : Int) := of_decide_eq_true (by first | (with_reducible assumption) | assumption)
        obtain ⟨ad264, e264, hx264_0, hx264_1⟩ := at_T49 HR0.out x5_1 p264 q264
        cases e264
        replace p264 := eq_true p264
        replace q264 := eq_true q264
        have p265 : 0 ≤ (x5_1 : Int) := of_decide_eq_true (by first | (with_reducible assumption) | assumption)
        have q265 : x5_1 < (l1.length : Int) := of_decide_eq_true (by first | (with_reducible assumption) | assumption)
        obtain ⟨ad265, e265, hx265_0, hx265_1⟩ := at_T49 HR1.out x5_1 p265 q265
        cases e265
        replace p265 := eq_true p265
        replace q265 := eq_true q265
        go_wp2
        repeat (go_quiet (fail); try go_wp2)
        go_roundg k1
        case measure => have := HK1.out; omega
        case rel => exact ⟨(wrap64 (x5_1 + 1)), (by first | rfl | (simp; done) | (simp [*]; done)), H', ⟨by have := HK1.out; omega⟩, by repeat (first | exact Drawn0.refl _ | apply Drawn0.step)⟩
      ·rw [if_neg c6] at H
       exact absurd H (by simp)
     ·rw [if_neg c5] at H
      exact absurd H (by simp)
    ·rw [if_neg c4] at H
     have c4b0 : decide (x5_1 < (l0.length : Int)) = false := decide_eq_false c4
     clear c4
     obtain rfl := Option.some.inj H
     go_wp2
     repeat (go_quiet (fail); try go_wp2)
     go_ret
     exact ⟨by first | rfl | (simp; done) | (simp [*]; done), by repeat (first | exact Drawn0.refl _ | apply Drawn0.step)⟩
 ·rw [if_neg c3] at H
  have c3b0 : ((l0.length : Int) == (l1.length : Int)) = false := beq_eq_false_iff_ne.mpr c3
  have c3b1 : ((l0.length : Int) != (l1.length : Int)) = true := bne_iff_ne.mpr c3
  have c3b2 : (l0.length == l1.length) = false := by first | simpa using c3 | (simp at c3 ⊢; omega)
  obtain rfl := Option.some.inj H
  go_enter Try.func29, Try.ntmps29
  go_wp2
  repeat (go_quiet (fail); try go_wp2)
  go_ret
  exact ⟨by first | rfl | (simp; done) | (simp [*]; done), by repeat (first | exact Drawn0.refl _ | apply Drawn0.step)⟩
end Go.Proofs.Yteiladccdenpbaa.P
end
section
namespace Go.Proofs.Yteiladccdenpbaa.P
open Go.RowKit Go.Proofs.YteiladccdenpbaaW.PrintWords Go.Proofs.YteiladccdenpbaaW.PrintLast Go.Proofs.YteiladccdenpbaaW.PrintMore
set_option linter.unusedVariables false
set_option linter.unusedSimpArgs false
set_option maxHeartbeats 4000000 in
set_option maxRecDepth 100000 in
theorem at_closure (g2 g3 : Nat) (ad : Addr) (c : Nat) (n : Nat) (key y : Int) (i : Nat) (W : World) (hi : i < n)
    (h1 : W.cell? ⟨g2, 1, none⟩ = some (.slice (some ad) n c)) (h2 : W.cell? ⟨g3, 0, none⟩ = some (.int .i64 key)) (h3 : W.cell? (ad.add (i * 2)) = some (.int .i64 y)) :
    Calls Try.prog 84 #[.int .i64 i, .pointer (some ⟨g2, 0, none⟩), .pointer (some ⟨g3, 0, none⟩)] W fun e w' => e = .returned (.bool (decide (key ≤ y))) ∧ ∃ q, w' = W.drewN q := by
  have hu53 := Try.underlying53
  have hu49 := Try.underlying49
  have hiz : (i : Int) < (n : Int) := by omega
  have mixed : Try.prog.follows .mixedOrders = true := by kernel_rfl
  go_enter Try.func84, Try.ntmps84
  go_wp2
  go_region_o
  all_goals go_wp2
  all_goals go_ret
  all_goals exact ⟨by first | rfl | simp, 1, rfl⟩
theorem cut_at {n : Nat} {p : Nat → Bool} (i : Nat) (hi : i ≤ n) (h0 : ∀ t, t < i → p t = false) (h1 : ∀ t, i ≤ t → t < n → p t = true) : (List.range n).countP (fun t => !p t) = i := by
  have e : List.range n = List.range i ++ (List.range (n - i)).map (i + ·) := by
    apply List.ext_getElem
    · simp
      omega
    · intro j h1 h2
      rw [List.getElem_append]
      split
      · simp
      · rename_i h3
        rw [List.length_range] at h3
        simp
        omega
  rw [e, List.countP_append]
  have a : (List.range i).countP (fun t => !p t) = i := by
    have : (List.range i).countP (fun t => !p t) = (List.range i).length := List.countP_eq_length.2 fun t ht => by simp [h0 t (List.mem_range.1 ht)]
    rw [this, List.length_range]
  have b : ((List.range (n - i)).map (i + ·)).countP (fun t => !p t) = 0 := List.countP_eq_zero.2 fun t ht => by
    obtain ⟨u, hu, rfl⟩ := List.mem_map.1 ht
    have := List.mem_range.1 hu
    simp [h1 (i + u) (by omega) (by omega)]
  omega
set_option maxHeartbeats 4000000 in
set_option maxRecDepth 100000 in
theorem search_walk (cb : Array Value) (n : Nat) (p : Nat → Bool) (w : World) (hsz : n < 1000000)
    (hf : ∀ (m i : Nat), i < n → Calls Try.prog 84 (#[.int .i64 i] ++ cb) (w.drewN m) fun e w' => e = .returned (.bool (p i)) ∧ ∃ q, w' = (w.drewN m).drewN q)
    (hmono : ∀ a b, a ≤ b → b < n → p a = true → p b = true) :
    Calls Try.prog 83 #[.int .i64 n, .func (.func 84) #[] cb] w fun e w' => e = .returned (.int .i64 ((List.range n).countP (fun i => !p i) : Nat)) ∧ ∃ q, w' = w.drewN q := by
  have HF := Aside0.mk hf
  have M := Aside0.mk hmono
  have mixed : Try.prog.follows .mixedOrders = true := by kernel_rfl
  clear hf hmono
  generalize hcnt : (List.range n).countP (fun i => !p i) = cnt
  have CN := Aside0.mk hcnt
  clear hcnt
  go_enter Try.func83, Try.ntmps83
  go_wp2
  go_loopg [5, 6] n (fun kx s5 s6 wr => ∃ (lo hi q : Nat), s5 = .int .i64 lo ∧ s6 = .int .i64 hi ∧ lo ≤ hi ∧ hi ≤ n ∧ hi - lo ≤ kx ∧ wr = w.drewN q ∧
    Aside0 ((∀ t, t < lo → p t = false) ∧ (∀ t, hi ≤ t → t < n → p t = true)))
  case atStart => exact ⟨0, n, 0, rfl, rfl, Nat.zero_le _, Nat.le_refl _, by omega, rfl, ⟨fun t ht => absurd ht (Nat.not_lt_zero _), fun t h1 h2 => by omega⟩⟩
  case round =>
    obtain ⟨lo, hi, q, rfl, rfl, hlh, hin, hg, rfl, I⟩ := hrel
    by_cases hlt : lo < hi
    · have hc := HF.out q ((lo + hi) / 2) (by omega)
      rw [show (((lo + hi) / 2 : Nat) : Int) = ((lo : Int) + (hi : Int)) / 2 by omega] at hc
      cases hp : p ((lo + hi) / 2) <;> rw [hp] at hc
      · have HP := Aside0.mk hp
        clear hp
        go_wp2_with fail
        refine hc.mono ?_
        rintro e w' ⟨rfl, nq, rfl⟩
        go_wp2
        go_roundg (hi - ((lo + hi) / 2 + 1))
        case measure => omega
        case rel =>
          have I2 : Aside0 ((∀ t, t < (lo + hi) / 2 + 1 → p t = false) ∧ (∀ t, hi ≤ t → t < n → p t = true)) := ⟨fun t ht => (by
            cases h : p t with
            | false => rfl
            | true => have := M.out t ((lo + hi) / 2) (by omega) (by omega) h; rw [HP.out] at this; cases this), I.out.2⟩
          exact ⟨(lo + hi) / 2 + 1, hi, q + nq, by rw [show ((lo : Int) + (hi : Int)) / 2 + 1 = (((lo + hi) / 2 + 1 : Nat) : Int) by omega], rfl, by omega, hin, Nat.le_refl _, rfl, I2⟩
      · have HP := Aside0.mk hp
        clear hp
        go_wp2_with fail
        refine hc.mono ?_
        rintro e w' ⟨rfl, nq, rfl⟩
        go_wp2
        go_roundg ((lo + hi) / 2 - lo)
        case measure => omega
        case rel =>
          have I2 : Aside0 ((∀ t, t < lo → p t = false) ∧ (∀ t, (lo + hi) / 2 ≤ t → t < n → p t = true)) := ⟨I.out.1, fun t ht htn => M.out ((lo + hi) / 2) t ht htn HP.out⟩
          exact ⟨lo, (lo + hi) / 2, q + nq, rfl, by rw [show ((lo : Int) + (hi : Int)) / 2 = (((lo + hi) / 2 : Nat) : Int) by omega], by omega, by omega, Nat.le_refl _, rfl, I2⟩
    · obtain rfl : hi = lo := by omega
      have ecnt : cnt = hi := by rw [← CN.out]; exact cut_at hi hin I.out.1 I.out.2
      subst ecnt
      go_wp2
      go_ret
      exact ⟨rfl, q, rfl⟩
def rising (l : List S49) : Bool := (List.range l.length).all fun b => (List.range b).all fun a => decide ((rd_T49 l (a : Nat)).f0 < (rd_T49 l (b : Nat)).f0)
theorem rising_lt {l : List S49} (h : rising l = true) (a b : Nat) (hab : a < b) (hb : b < l.length) : (rd_T49 l (a : Nat)).f0 < (rd_T49 l (b : Nat)).f0 :=
  of_decide_eq_true (List.all_eq_true.1 (List.all_eq_true.1 h b (List.mem_range.2 hb)) a (List.mem_range.2 hab))
def atN (l : List S49) (key : Int) : Nat := (List.range l.length).countP fun i => !decide (key ≤ (rd_T49 l (i : Nat)).f0)
def atIs (l : List S49) (key : Int) : Bool := decide (atN l key < l.length) && ((rd_T49 l (atN l key : Nat)).f0 == key)
def node_At.f (a0_0 : Bool) (l0_1 : List S49) (a1 : Int) : Option (Int × Bool) :=
  if rising l0_1 = true ∧ l0_1.length < 1000000 then
    some (if a0_0 = false ∧ atIs l0_1 a1 = false then (if ((atN l0_1 a1 : Nat) : Int) - 1 < 0 then 0 else ((atN l0_1 a1 : Nat) : Int) - 1) else ((atN l0_1 a1 : Nat) : Int), atIs l0_1 a1)
  else none
theorem atN_le (l : List S49) (key : Int) : atN l key ≤ l.length := by
  have := List.countP_le_length (p := fun i : Nat => !decide (key ≤ (rd_T49 l (i : Nat)).f0)) (l := List.range l.length)
  rwa [List.length_range] at this
set_option maxHeartbeats 4000000 in
set_option maxRecDepth 100000 in
theorem node_At.calls (a0_0 : Bool) (A0_1 : Option Addr) (c0_1 : Nat) (l0_1 : List S49) (a1 : Int) (r1 : Int) (r2 : Bool) (w : World) (hr0_1 : Kd.C k49 w A0_1 l0_1.length l0_1) (hc0_1 : l0_1.length ≤ c0_1) (h : node_At.f a0_0 l0_1 a1 = some (r1, r2)) :
    Calls Try.prog 59 #[.agg #[.bool a0_0, .slice A0_1 l0_1.length c0_1], .int .i64 a1] w fun e w' => e = .returned (.tuple #[.int .i64 r1, .bool r2]) ∧ Below w.heap.size w w' := by
  have hu53 := Try.underlying53
  have hu49 := Try.underlying49
  have mixed : Try.prog.follows .mixedOrders = true := by kernel_rfl
  unfold node_At.f at h
  have hcond : rising l0_1 = true ∧ l0_1.length < 1000000 := by
    by_cases hc : rising l0_1 = true ∧ l0_1.length < 1000000
    · exact hc
    · rw [if_neg hc] at h
      cases h
  rw [if_pos hcond] at h
  obtain ⟨hris, hlen⟩ := hcond
  simp only [Option.some.injEq, Prod.mk.injEq] at h
  obtain ⟨h1, h2⟩ := h
  have H1 := Aside0.mk h1
  have H2 := Aside0.mk h2
  have HRIS := Aside0.mk hris
  have HLEN := Aside0.mk hlen
  have HR := Aside0.mk hr0_1
  clear h1 h2 hris hr0_1 hc0_1
  go_enter Try.func59, Try.ntmps59
  go_wp2_with (first | ((with_reducible refine gate_dst (N := 2) rfl ?_); refine box_event ?hg (N := 2) ?hd (cs := #[.bool a0_0, .slice A0_1 l0_1.length c0_1]) (t := 53) ?hr ?_; (case hd => rfl); (case hg => rfl); (case hr => first | (go_simp; done) | (go_simp; rfl)); intro g2 hg w2 hbox hb; have HB2 := Aside0.mk hb; have HK2 := Aside0.mk hbox; clear hb hbox hg) | ((with_reducible refine gate_dst (N := 3) rfl ?_); refine box_event ?hg (N := 3) ?hd (cs := #[.int .i64 a1]) (t := 3) ?hr ?_; (case hd => rfl); (case hg => rfl); (case hr => first | (go_simp; done) | (go_simp; rfl)); intro g3 hg w3 hbox hb; have HB3 := Aside0.mk (HB2.out.trans (hb.mono HB2.out.size)); have HK3 := Aside0.mk hbox; have HK23 := Aside0.mk (blk_below HK2.out hb); have k0 : w3.cell? ⟨g2, 0, none⟩ = some (.bool a0_0) := (blk_cell HK23.out 0).trans rfl; have k1 : w3.cell? ⟨g2, 1, none⟩ = some (.slice A0_1 l0_1.length c0_1) := (blk_cell HK23.out 1).trans rfl; have k3 : w3.cell? ⟨g3, 0, none⟩ = some (.int .i64 a1) := (blk_cell hbox 0).trans rfl; clear hb hbox hg HB2) | fail)
  have hS : Calls Try.prog 83 #[.int .i64 l0_1.length, .func (.func 84) #[] #[.pointer (some ⟨g2, 0, none⟩), .pointer (some ⟨g3, 0, none⟩)]] w3 fun e w' => e = .returned (.int .i64 (atN l0_1 a1 : Nat)) ∧ ∃ q, w' = w3.drewN q := by
    refine search_walk #[.pointer (some ⟨g2, 0, none⟩), .pointer (some ⟨g3, 0, none⟩)] l0_1.length (fun i => decide (a1 ≤ (rd_T49 l0_1 (i : Nat)).f0)) w3 hlen ?hf ?hm
    case hf =>
      intro m i hi
      obtain ⟨ad, hA, hc, _⟩ := at_T49 (Kd.C_below HR.out HB3.out) (i : Int) (by omega) (by omega)
      subst hA
      rw [Int.toNat_natCast] at hc
      exact at_closure g2 g3 ad c0_1 l0_1.length a1 _ i (w3.drewN m) hi k1 k3 hc
    case hm =>
      intro a b hab hb hp
      have hp := of_decide_eq_true hp
      by_cases he : a = b
      · subst he
        exact decide_eq_true hp
      · have := rising_lt HRIS.out a b (by omega) hb
        exact decide_eq_true (by omega)
  refine hS.mono ?_
  rintro e wd ⟨rfl, q, rfl⟩
  have HB4 := Aside0.mk (pw_below_drewN HB3.out q)
  have j0 : (w3.drewN q).cell? ⟨g2, 0, none⟩ = some (.bool a0_0) := k0
  have j1 : (w3.drewN q).cell? ⟨g2, 1, none⟩ = some (.slice A0_1 l0_1.length c0_1) := k1
  have j3 : (w3.drewN q).cell? ⟨g3, 0, none⟩ = some (.int .i64 a1) := k3
  have HR4 := Aside0.mk (Kd.C_below HR.out HB4.out)
  generalize w3.drewN q = w4 at HB4 j0 j1 j3 HR4 ⊢
  clear hS k0 k1 k3 HK2 HK3 HK23 HB3 HR
  have hle := atN_le l0_1 a1
  have HIS := Aside0.mk (show atIs l0_1 a1 = (decide (atN l0_1 a1 < l0_1.length) && ((rd_T49 l0_1 (atN l0_1 a1 : Nat)).f0 == a1)) from rfl)
  generalize atIs l0_1 a1 = is' at H1 H2 HIS
  generalize atN l0_1 a1 = c at H1 HIS hle ⊢
  by_cases hcl : c < l0_1.length
  · have d1 : decide ((c : Int) < (l0_1.length : Int)) = true := decide_eq_true (by omega)
    have p1 : (0 : Int) ≤ c := by omega
    have q1 : (c : Int) < l0_1.length := by omega
    obtain ⟨ad, hA, hc, _⟩ := at_T49 HR4.out (c : Int) p1 q1
    subst hA
    rw [Int.toNat_natCast] at hc
    obtain ⟨x, hx⟩ : ∃ x, (rd_T49 l0_1 (c : Nat)).f0 = x := ⟨_, rfl⟩
    rw [hx] at hc HIS
    rw [decide_eq_true hcl, Bool.true_and] at HIS
    obtain ⟨b, hb⟩ : ∃ b, (x == a1) = b := ⟨_, rfl⟩
    rw [hb] at HIS
    have hib := HIS.out
    subst hib
    have h2 := H2.out
    subst h2
    clear HIS H2 HRIS HLEN HR4 hx
    cases is' <;> cases a0_0
    all_goals (go_wp2; go_region_o)
    all_goals go_wp2
    all_goals go_ret2
    all_goals refine ⟨?_, below_drew1 HB4.out⟩
    all_goals have h1 := H1.out
    all_goals subst h1
    all_goals first | rfl | (simp; done) | (simp; omega)
  · have d1 : decide ((c : Int) < (l0_1.length : Int)) = false := decide_eq_false (by omega)
    have hib := HIS.out
    rw [decide_eq_false hcl, Bool.false_and] at hib
    subst hib
    have h2 := H2.out
    subst h2
    clear HIS H2 HRIS HLEN HR4
    cases a0_0
    all_goals (go_wp2; go_region_o)
    all_goals go_wp2
    all_goals go_ret2
    all_goals refine ⟨?_, below_drew1 HB4.out⟩
    all_goals have h1 := H1.out
    all_goals subst h1
    all_goals first | rfl | (simp; done) | (simp; omega)
end Go.Proofs.Yteiladccdenpbaa.P
end
section
namespace Go.Proofs.Yteiladccdenpbaa.P
open Go.RowKit Go.Shelf Go.Proofs.YteiladccdenpbaaW.PrintWords Go.Proofs.YteiladccdenpbaaW.PrintLast Go.Proofs.YteiladccdenpbaaW.PrintMore
attribute [local go_sem] Oper.semAt_some
set_option linter.unusedVariables false
set_option linter.unusedSimpArgs false
theorem w64s (i : Nat) (h : i < 1000000) : wrap64 ((i : Int) + 1) = ((i + 1 : Nat) : Int) := by
  unfold wrap64
  omega
theorem add_add_ (a : Addr) (x y : Nat) : (a.add x).add y = a.add (x + y) := by
  unfold Addr.add
  by_cases hx : x = 0 <;> by_cases hy : y = 0 <;> simp [hx, hy, Nat.add_assoc]
def catO (f : Int → Option (List S49)) : List S49 → Option (List S49)
  | [] => some []
  | x :: xs => (f x.f1).bind fun a => (catO f xs).bind fun b => some (a ++ b)
def itemsL : Nat → List S55 → Int → Int → Option (List S49)
  | 0, _, _, _ => none
  | k + 1, l, lo, p =>
    if 0 ≤ p ∧ p < (l.length : Int) then
      (node_At.f (rd_T55 l p).f2.f0 (rd_T55 l p).f2.f1 lo).bind fun r =>
        if 0 ≤ r.1 ∧ r.1 ≤ ((rd_T55 l p).f2.f1.length : Int) then
          (if (rd_T55 l p).f2.f0 = true then some ((rd_T55 l p).f2.f1.drop r.1.toNat) else catO (itemsL k l lo) ((rd_T55 l p).f2.f1.drop r.1.toNat))
        else none
    else none
def keepT : Obj → Bool
  | .cells _ t _ => t != 43 && t != 49
  | _ => false
def KpT (n₀ : Nat) (W W' : World) : Prop := Below n₀ W W' ∧ ∀ (k : Nat) (o : Obj), W.heap[k]? = some o → keepT o = true → W'.heap[k]? = some o
theorem KpT.t {n₀ : Nat} {A B C : World} (h : KpT n₀ A B) (k : KpT n₀ B C) : KpT n₀ A C := ⟨h.1.trans k.1, fun i o hi ho => k.2 i o (h.2 i o hi ho) ho⟩
theorem KpT.refl (n₀ : Nat) (A : World) : KpT n₀ A A := ⟨Below.refl _ _, fun _ _ h _ => h⟩
theorem KpT.below {n₀ : Nat} {A B : World} (h : Below A.heap.size A B) (hn : n₀ ≤ A.heap.size) : KpT n₀ A B := ⟨h.mono hn, fun i o hi _ => (h.block i (Array.getElem?_eq_some_iff.1 hi).1).trans hi⟩
theorem grown_below {A B : World} (h : Below A.heap.size A B) : A.grownBy B none := ⟨h.os, h.tape, h.output, h.size, fun k hk _ => h.block k hk⟩
theorem abides_below {β : Type} {B : Nat} {J : β → World → Prop} (hJ : AbidesFrom B J) {s : β} {X Y : World} (hs : J s X) (h : Below X.heap.size X Y) : J s Y := hJ s X Y none hs (grown_below h) (fun r e => by cases e)
structure Bx (w0 : World) (A : Option Addr) (c : Nat) (ls : List S55) (kp lo : Int) (ly gh gl gy gb : Nat) (W : World) : Prop where
  h : W.heap[gh]? = some (.cells #[.slice A ls.length c, .int .i64 kp] 24 (0, 0))
  l : W.heap[gl]? = some (.cells #[.int .i64 lo] 3 (0, 0))
  y : W.heap[gy]? = some (.cells #[.func (.yield ly) #[] #[]] 120 (0, 0))
  b : W.heap[gb]? = some (.cells #[.func (.func 86) #[] #[.pointer (some ⟨gh, 0, none⟩), .pointer (some ⟨gl, 0, none⟩), .pointer (some ⟨gy, 0, none⟩), .pointer (some ⟨gb, 0, none⟩)]] 119 (0, 0))
  w : Below w0.heap.size w0 W
theorem Bx.kp {w0 : World} {A : Option Addr} {c : Nat} {ls : List S55} {kp lo : Int} {ly gh gl gy gb : Nat} {W W' : World} (h : Bx w0 A c ls kp lo ly gh gl gy gb W) (hk : KpT w0.heap.size W W') : Bx w0 A c ls kp lo ly gh gl gy gb W' :=
  ⟨hk.2 _ _ h.h rfl, hk.2 _ _ h.l rfl, hk.2 _ _ h.y rfl, hk.2 _ _ h.b rfl, h.w.trans hk.1⟩
theorem Bx.below {w0 : World} {A : Option Addr} {c : Nat} {ls : List S55} {kp lo : Int} {ly gh gl gy gb : Nat} {W W' : World} (h : Bx w0 A c ls kp lo ly gh gl gy gb W) (hk : Below W.heap.size W W') : Bx w0 A c ls kp lo ly gh gl gy gb W' :=
  h.kp (KpT.below hk h.w.size)
set_option maxHeartbeats 4000000 in
set_option maxRecDepth 100000 in
theorem below_in (w0 : World) (A : Option Addr) (c : Nat) (ls : List S55) (kp lo : Int) (ly gh gl gy gb : Nat) (hC : Kd.C k55 w0 A ls.length ls) (N B : Nat) (J Jx : List S49 → World → Prop)
    (hJ : AbidesFrom B J) (hJx : AbidesFrom B Jx)
    (hY : ∀ m pre x W, J pre W → pre.length < N → YieldAt Fence.wide m Try.prog ly #[.agg #[.int .i64 (S49.f0 x), .int .i64 (S49.f1 x)]] W fun e W' =>
      (e = .returned (.bool true) ∧ J (pre ++ [x]) W' ∧ KpT w0.heap.size W W') ∨ (e = .returned (.bool false) ∧ Jx (pre ++ [x]) W')) (k : Nat) :
    ∀ (n : Nat) (p : Int) (pre out : List S49) (W : World), Bx w0 A c ls kp lo ly gh gl gy gb W → J pre W → itemsL k ls lo p = some out → pre.length + out.length ≤ N →
      CallsIn Fence.wide n Try.prog 86 #[.int .i64 p, .pointer (some ⟨gh, 0, none⟩), .pointer (some ⟨gl, 0, none⟩), .pointer (some ⟨gy, 0, none⟩), .pointer (some ⟨gb, 0, none⟩)] W fun e W' =>
        (e = .returned (.bool true) ∧ J (pre ++ out) W' ∧ KpT w0.heap.size W W') ∨ (e = .returned (.bool false) ∧ ∃ q, q <+: out ∧ Jx (pre ++ q) W') := by
  induction k with
  | zero => intro n p pre out W hb hj h _; simp [itemsL] at h
  | succ k ih =>
  intro n p pre out W hb hj h hN
  have hdd : ∀ k : Nat, (Fence.wide.depth.isSome = true → 1 ≤ k) := fun k h => by cases h
  rw [itemsL] at h
  have hp : 0 ≤ p ∧ p < (ls.length : Int) := by
    by_cases hc : 0 ≤ p ∧ p < (ls.length : Int)
    · exact hc
    · rw [if_neg hc] at h; cases h
  rw [if_pos hp] at h
  obtain ⟨⟨fr, is⟩, hat, h⟩ := Option.bind_eq_some_iff.1 h
  obtain ⟨hp0, hp1⟩ := hp
  obtain ⟨ad, A3, c3, rfl, x0, x1, x2, x3, hl3, hi3⟩ := at_T55 hC p hp0 hp1
  generalize hnd : (rd_T55 ls p).f2 = nd at *
  have hf : 0 ≤ fr ∧ fr ≤ (nd.f1.length : Int) := by
    by_cases hc : 0 ≤ fr ∧ fr ≤ (nd.f1.length : Int)
    · exact hc
    · simp only [] at h; rw [if_neg hc] at h; cases h
  simp only [] at h
  rw [if_pos hf] at h
  obtain ⟨hf0, hf1⟩ := hf
  have HB := Aside0.mk hb
  have HJ := Aside0.mk hj
  have HH := Aside0.mk h
  have HAT := Aside0.mk hat
  have HLEN : Aside0 (nd.f1.length < 1000000) := by
    refine ⟨?_⟩
    unfold node_At.f at hat
    by_cases hc : rising nd.f1 = true ∧ nd.f1.length < 1000000
    · exact hc.2
    · rw [if_neg hc] at hat; cases hat
  have HL3 := Aside0.mk hl3
  have HI3 := Aside0.mk hi3
  have HN := Aside0.mk hN
  have y0 := (hb.w.cell (World.block_lt_of_cell? w0 _ x0)).trans x0
  have y1 := (hb.w.cell (World.block_lt_of_cell? w0 _ x1)).trans x1
  have y2 := (hb.w.cell (World.block_lt_of_cell? w0 _ x2)).trans x2
  have y3 := (hb.w.cell (World.block_lt_of_cell? w0 _ x3)).trans x3
  have b0 : W.cell? ⟨gh, 0, none⟩ = some (.slice (some ad) ls.length c) := (blk_cell hb.h 0).trans rfl
  have b1 : W.cell? ⟨gl, 0, none⟩ = some (.int .i64 lo) := (blk_cell hb.l 0).trans rfl
  have l0 := HB.out.l
  have b1' := World.block_lt_of_cell? W _ b1
  clear hb hj h hat hl3 hi3 hN x0 x1 x2 x3 hC l0
  refine callsIn_of_wp Try.func86 rfl trivial ?_ rfl
  simp only [Try.ntmps86, List.size_toArray, List.length_cons, List.length_nil, Nat.reduceAdd, Nat.reduceSub, Array.replicate_succ, Array.replicate_zero, List.push_toArray, List.append_toArray, List.nil_append, List.cons_append]
  have hu24 := Try.underlying24
  have hu53 := Try.underlying53
  have hu49 := Try.underlying49
  gi_wp2
  refine ⟨trivial, hdd _, ?_⟩
  have HC7 : Kd.C k49 (W.alloc (.cells #[.bool nd.f0, .slice A3 nd.f1.length c3] 53)) A3 nd.f1.length nd.f1 := Kd.C_alloc (Kd.C_below HI3.out HB.out.w) _
  refine (callsIn_wide.2 (node_At.calls nd.f0 A3 c3 nd.f1 lo fr is _ HC7 HL3.out HAT.out)).mono ?_
  rintro e w1 ⟨rfl, hb1⟩
  have hbW : Below W.heap.size W w1 := ((Below.refl W.heap.size W).alloc (Nat.le_refl _) _).trans (hb1.mono (by simp))
  have hb7 : w1.heap[W.heap.size]? = some (.cells #[.bool nd.f0, .slice A3 nd.f1.length c3] 53 (0, 0)) := (hb1.block _ (by simp)).trans (World.alloc_heap_new W _)
  have HK1 := Aside0.mk (KpT.below hbW HB.out.w.size)
  have HB1 := Aside0.mk (HB.out.below hbW)
  have HJ1 := Aside0.mk (abides_below hJ HJ.out hbW)
  have H7 := Aside0.mk hb7
  have g0 : w1.cell? ⟨W.heap.size, 0, none⟩ = some (.bool nd.f0) := (blk_cell hb7 0).trans rfl
  have g1 : w1.cell? ⟨W.heap.size, 1, none⟩ = some (.slice A3 nd.f1.length c3) := (blk_cell hb7 1).trans rfl
  have HC1 := Aside0.mk (Kd.C_below HI3.out (HB1.out.w))
  have HW := Aside0.mk HB.out.w.size
  clear hb1 hbW hb7 HC7 HB HJ y0 y1 y2 y3 b0 b1 b1' HAT
  generalize W.heap.size = g7 at *
  obtain ⟨fi, rfl⟩ : ∃ fi : Nat, fr = (fi : Int) := ⟨fr.toNat, by omega⟩
  clear hf0
  have hfi : fi ≤ nd.f1.length := by omega
  by_cases hce : fi = nd.f1.length
  · have ho : out = [] := by
      have := HH.out
      rw [show nd.f1.drop ((fi : Int)).toNat = [] by rw [Int.toNat_natCast, hce]; exact List.drop_length] at this
      cases hl : nd.f0 <;> rw [hl] at this
      · simpa [catO] using this.symm
      · simpa using this.symm
    have HO := Aside0.mk ho
    have hz : nd.f1.length - fi = 0 := by omega
    clear ho hce hf1
    gi_wp2
    all_goals (gi_loopw [30] (fun p wr => p = .int .i64 0 ∧ wr = w1) (fun p wr => 0))
    case atStart => exact ⟨rfl, rfl⟩
    case atStart => exact ⟨rfl, rfl⟩
    all_goals obtain ⟨rfl, rfl⟩ := hrel
    all_goals gi_wp2
    all_goals go_ret
    all_goals exact .inl ⟨rfl, by rw [HO.out, List.append_nil]; exact HJ1.out, HK1.out⟩
  · have hlt : fi < nd.f1.length := by omega
    have hne : ¬ c3 = fi := by have := HL3.out; omega
    obtain ⟨ad3, hA3, -, -⟩ := at_T49 HC1.out (fi : Int) (by omega) (by omega)
    subst hA3
    clear hce hf1
    gi_wp2
    gi_loopw [30] (fun p wr => ∃ (i : Nat) (dn td : List S49), p = .int .i64 i ∧ i ≤ nd.f1.length - fi ∧ Aside0 (Bx w0 (some ad) c ls kp lo ly gh gl gy gb wr) ∧ Aside0 (J (pre ++ dn) wr) ∧ Aside0 (KpT w0.heap.size W wr) ∧ Aside0 (wr.heap[g7]? = some (.cells #[.bool nd.f0, .slice (some ad3) nd.f1.length c3] 53 (0, 0))) ∧ Aside0 (out = dn ++ td) ∧
      Aside0 ((if nd.f0 = true then some (nd.f1.drop (fi + i)) else catO (itemsL k ls lo) (nd.f1.drop (fi + i))) = some td)) (fun p wr => nd.f1.length - fi - (intOf p).toNat)
    case atStart => exact ⟨0, [], out, rfl, Nat.zero_le _, HB1, by rw [List.append_nil]; exact HJ1, HK1, H7, ⟨rfl⟩, by rw [Int.toNat_natCast] at HH; exact HH⟩
    case round =>
      obtain ⟨i, dn, td, rfl, hi, HBr, HJr, HKr, H7r, HOr, HTr⟩ := hrel
      have r0 : wr.cell? ⟨g7, 0, none⟩ = some (.bool nd.f0) := (blk_cell H7r.out 0).trans rfl
      have r1 : wr.cell? ⟨gy, 0, none⟩ = some (.func (.yield ly) #[] #[]) := (blk_cell HBr.out.y 0).trans rfl
      have r2 : wr.cell? ⟨gb, 0, none⟩ = some (.func (.func 86) #[] #[.pointer (some ⟨gh, 0, none⟩), .pointer (some ⟨gl, 0, none⟩), .pointer (some ⟨gy, 0, none⟩), .pointer (some ⟨gb, 0, none⟩)]) := (blk_cell HBr.out.b 0).trans rfl
      have s1 := World.block_lt_of_cell? wr _ r0
      have s2 := World.block_lt_of_cell? wr _ r1
      have s3 := World.block_lt_of_cell? wr _ r2
      by_cases hend : i < nd.f1.length - fi
      · obtain ⟨_, hA, z0, z1⟩ := at_T49 (Kd.C_below HI3.out HBr.out.w) ((fi + i : Nat) : Int) (by omega) (by omega)
        cases hA
        rw [Int.toNat_natCast] at z0 z1
        have hdrop : nd.f1.drop (fi + i) = rd_T49 nd.f1 ((fi + i : Nat) : Int) :: nd.f1.drop (fi + i + 1) := by
          rw [List.drop_eq_getElem_cons (by omega)]
          congr 1
          simp only [rd_T49, Int.toNat_natCast, List.getD_eq_getElem?_getD, List.getElem?_eq_getElem (show fi + i < nd.f1.length by omega), Option.getD_some]
        rw [show ad3.add ((fi + i) * 2) = (ad3.add (fi * 2)).add (i * 2) by rw [add_add_]; congr 1; omega] at z0 z1
        generalize rd_T49 nd.f1 ((fi + i : Nat) : Int) = x at *
        cases hlf : nd.f0 <;> rw [hlf] at r0
        ·
          have hT := HTr.out
          rw [hlf, if_neg Bool.false_ne_true, hdrop] at hT
          simp only [catO] at hT
          obtain ⟨ta, hta, hT⟩ := Option.bind_eq_some_iff.1 hT
          obtain ⟨tb, htb, hT⟩ := Option.bind_eq_some_iff.1 hT
          obtain rfl := Option.some.inj hT
          have HTA := Aside0.mk hta
          have HTB := Aside0.mk htb
          clear hT hta htb HTr
          have hbx : Below wr.heap.size wr (wr.alloc (.cells #[.int .i64 x.f0, .int .i64 x.f1] 49)) := (Below.refl _ wr).alloc (Nat.le_refl _) _
          have HIH := Aside0.mk (ih (n - 1) x.f1 (pre ++ dn) ta _ (HBr.out.below hbx) (abides_below hJ HJr.out hbx) HTA.out (by have := HN.out; rw [HOr.out] at this; simp only [List.length_append] at this ⊢; omega))
          have HK2 := Aside0.mk (HKr.out.t (KpT.below hbx HBr.out.w.size))
          have HB2 := Aside0.mk (HBr.out.below hbx)
          have H72 := Aside0.mk ((hbx.block _ s1).trans H7r.out)
          clear hbx
          gi_wp2
          refine ⟨trivial, hdd _, ?_⟩
          refine HIH.out.mono ?_
          rintro e W3 (⟨rfl, hJ3, hK3⟩ | ⟨rfl, q, hq, hx3⟩)
          · have HJ3 := Aside0.mk hJ3
            have HK3 := Aside0.mk hK3
            clear hJ3 hK3
            gi_wp2
            go_roundw
            case rel => exact ⟨i + 1, dn ++ ta, tb, congrArg _ (w64s i (by have := HLEN.out; omega)), by omega, ⟨HB2.out.kp HK3.out⟩, ⟨by rw [← List.append_assoc]; exact HJ3.out⟩, ⟨HK2.out.t HK3.out⟩, ⟨by rw [← hlf]; exact HK3.out.2 _ _ H72.out rfl⟩, ⟨by rw [HOr.out, List.append_assoc]⟩, ⟨by rw [if_neg Bool.false_ne_true]; exact HTB.out⟩⟩
            case measure => rw [w64s i (by have := HLEN.out; omega)]; simp only [intOf]; omega
          · gi_wp2
            go_ret
            obtain ⟨r, hr'⟩ := hq
            exact .inr ⟨rfl, dn ++ q, ⟨r ++ tb, by rw [HOr.out, ← hr']; simp [List.append_assoc]⟩, by rw [← List.append_assoc]; exact hx3⟩
        · have hT := HTr.out
          rw [hlf, if_pos rfl, hdrop] at hT
          obtain rfl := Option.some.inj hT
          clear hT HTr
          have hNl : pre.length + (dn ++ x :: nd.f1.drop (fi + i + 1)).length ≤ N := by rw [← HOr.out]; exact HN.out
          obtain ⟨fn, tmps, assign, body, hy, hR⟩ := hY (n - 1) (pre ++ dn) x (wr.alloc (.cells #[.int .i64 x.f0, .int .i64 x.f1] 49)) (abides_below hJ HJr.out ((Below.refl _ wr).alloc (Nat.le_refl _) _)) (by simp only [List.length_append, List.length_cons] at hNl ⊢; omega)
          clear hNl
          have hbx : Below wr.heap.size wr (wr.alloc (.cells #[.int .i64 x.f0, .int .i64 x.f1] 49)) := (Below.refl _ wr).alloc (Nat.le_refl _) _
          have HK2 := Aside0.mk (HKr.out.t (KpT.below hbx HBr.out.w.size))
          have HB2 := Aside0.mk (HBr.out.below hbx)
          have H72 := Aside0.mk ((hbx.block _ s1).trans H7r.out)
          clear hbx
          gi_wp2
          refine ⟨hdd _, ?_⟩
          refine hR.mono ?_
          rintro e W3 (⟨rfl, hJ3, hK3⟩ | ⟨rfl, hx3⟩)
          · have HJ3 := Aside0.mk hJ3
            have HK3 := Aside0.mk hK3
            clear hJ3 hK3
            gi_wp2
            go_roundw
            case rel => exact ⟨i + 1, dn ++ [x], nd.f1.drop (fi + i + 1), congrArg _ (w64s i (by have := HLEN.out; omega)), by omega, ⟨HB2.out.kp HK3.out⟩, ⟨by rw [← List.append_assoc]; exact HJ3.out⟩, ⟨HK2.out.t HK3.out⟩, ⟨by rw [← hlf]; exact HK3.out.2 _ _ H72.out rfl⟩, ⟨by rw [HOr.out, List.append_assoc]; rfl⟩, ⟨rfl⟩⟩
            case measure => rw [w64s i (by have := HLEN.out; omega)]; simp only [intOf]; omega
          · gi_wp2
            go_ret
            exact .inr ⟨rfl, dn ++ [x], ⟨nd.f1.drop (fi + i + 1), by rw [HOr.out]; simp [List.append_assoc]⟩, by rw [← List.append_assoc]; exact hx3⟩
      · obtain rfl : i = nd.f1.length - fi := by omega
        have ht : td = [] := by
          have := HTr.out
          rw [show nd.f1.drop (fi + (nd.f1.length - fi)) = [] from List.drop_eq_nil_of_le (by omega)] at this
          cases hl : nd.f0 <;> rw [hl] at this
          · simpa [catO] using this.symm
          · simpa using this.symm
        have HT0 := Aside0.mk ht
        clear ht
        gi_wp2
        go_ret
        exact .inl ⟨rfl, by rw [HOr.out, HT0.out, List.append_nil]; exact HJr.out, HKr.out⟩
end Go.Proofs.Yteiladccdenpbaa.P
end
section
namespace Go.Proofs.Yteiladccdenpbaa.P
open Go.RowKit Go.Shelf Go.Proofs.YteiladccdenpbaaW.PrintWords Go.Proofs.YteiladccdenpbaaW.PrintLast Go.Proofs.YteiladccdenpbaaW.PrintMore
attribute [local go_sem] Oper.semAt_some
set_option linter.unusedVariables false
set_option linter.unusedSimpArgs false
def itemsF (l : List S55) (root lo : Int) : Option (List S49) := if 0 ≤ root then itemsL 30 l lo root else some []
set_option maxHeartbeats 4000000 in
set_option maxRecDepth 100000 in
theorem items1_in (w0 : World) (A : Option Addr) (c : Nat) (ls : List S55) (kp lo root : Int) (ly gh gl gr : Nat) (hC : Kd.C k55 w0 A ls.length ls) (B : Nat) (J Jx : List S49 → World → Prop)
    (hJ : AbidesFrom B J) (hJx : AbidesFrom B Jx) (out : List S49) (ho : itemsF ls root lo = some out)
    (hY : ∀ m pre x W, J pre W → pre.length < out.length → YieldAt Fence.wide m Try.prog ly #[.agg #[.int .i64 (S49.f0 x), .int .i64 (S49.f1 x)]] W fun e W' =>
      (e = .returned (.bool true) ∧ J (pre ++ [x]) W' ∧ KpT w0.heap.size W W') ∨ (e = .returned (.bool false) ∧ Jx (pre ++ [x]) W'))
    (n : Nat) (W : World) (h1 : W.heap[gh]? = some (.cells #[.slice A ls.length c, .int .i64 kp] 24 (0, 0))) (h2 : W.heap[gl]? = some (.cells #[.int .i64 lo] 3 (0, 0))) (h3 : W.heap[gr]? = some (.cells #[.int .i64 root] 3 (0, 0)))
    (h4 : Below w0.heap.size w0 W) (h0 : J [] W) :
    CallsIn Fence.wide n Try.prog 85 #[.func (.yield ly) #[] #[], .pointer (some ⟨gh, 0, none⟩), .pointer (some ⟨gl, 0, none⟩), .pointer (some ⟨gr, 0, none⟩)] W fun e W' => (∃ v, e = .returned v) ∧
      ((∃ ys, ys = out ∧ J ys W') ∨ (∃ pre, pre <+: out ∧ Jx pre W')) := by
  have hdd : ∀ k : Nat, (Fence.wide.depth.isSome = true → 1 ≤ k) := fun k h => by cases h
  have b3 : W.cell? ⟨gr, 0, none⟩ = some (.int .i64 root) := (blk_cell h3 0).trans rfl
  have b3' := World.block_lt_of_cell? W _ b3
  have H1 := Aside0.mk h1
  have H2 := Aside0.mk h2
  have H3 := Aside0.mk h3
  have H4 := Aside0.mk h4
  have H0 := Aside0.mk h0
  have HO := Aside0.mk ho
  clear h1 h2 h3 h4 h0 ho
  refine callsIn_of_wp Try.func85 rfl trivial ?_ rfl
  simp only [Try.ntmps85, List.size_toArray, List.length_cons, List.length_nil, Nat.reduceAdd, Nat.reduceSub, Array.replicate_succ, Array.replicate_zero, List.push_toArray, List.append_toArray, List.nil_append, List.cons_append]
  have HX := Aside0.mk (show Below W.heap.size W ((W.alloc (.cells #[.func (.yield ly) #[] #[]] 120)).alloc (.cells #[(.func (.func 86) #[] #[.pointer (some ⟨gh, 0, none⟩), .pointer (some ⟨gl, 0, none⟩), .pointer (some ⟨W.heap.size, 0, none⟩), .pointer (some ⟨W.heap.size + 1, 0, none⟩)])] 119)) from (((Below.refl W.heap.size W).alloc (Nat.le_refl _) _).alloc (by simp) _))
  have Q3 : Aside0 (((W.alloc (.cells #[.func (.yield ly) #[] #[]] 120)).alloc (.cells #[(.func (.func 86) #[] #[.pointer (some ⟨gh, 0, none⟩), .pointer (some ⟨gl, 0, none⟩), .pointer (some ⟨W.heap.size, 0, none⟩), .pointer (some ⟨W.heap.size + 1, 0, none⟩)])] 119)).heap[W.heap.size + 1]? = some (.cells #[(.func (.func 86) #[] #[.pointer (some ⟨gh, 0, none⟩), .pointer (some ⟨gl, 0, none⟩), .pointer (some ⟨W.heap.size, 0, none⟩), .pointer (some ⟨W.heap.size + 1, 0, none⟩)])] 119 (0, 0))) := by
    have := World.alloc_heap_new (W.alloc (.cells #[.func (.yield ly) #[] #[]] 120)) (.cells #[(.func (.func 86) #[] #[.pointer (some ⟨gh, 0, none⟩), .pointer (some ⟨gl, 0, none⟩), .pointer (some ⟨W.heap.size, 0, none⟩), .pointer (some ⟨W.heap.size + 1, 0, none⟩)])] 119)
    exact ⟨by rwa [World.size_alloc] at this⟩
  have Q6 : Aside0 (((W.alloc (.cells #[.func (.yield ly) #[] #[]] 120)).alloc (.cells #[(.func (.func 86) #[] #[.pointer (some ⟨gh, 0, none⟩), .pointer (some ⟨gl, 0, none⟩), .pointer (some ⟨W.heap.size, 0, none⟩), .pointer (some ⟨W.heap.size + 1, 0, none⟩)])] 119)).heap[W.heap.size]? = some (.cells #[.func (.yield ly) #[] #[]] 120 (0, 0))) := ⟨blk_alloc (World.alloc_heap_new W _) _⟩
  have q5 : ((W.alloc (.cells #[.func (.yield ly) #[] #[]] 120)).alloc (.cells #[(.func (.func 86) #[] #[.pointer (some ⟨gh, 0, none⟩), .pointer (some ⟨gl, 0, none⟩), .pointer (some ⟨W.heap.size, 0, none⟩), .pointer (some ⟨W.heap.size + 1, 0, none⟩)])] 119)).cell? ⟨gr, 0, none⟩ = some (.int .i64 root) := (HX.out.cell b3').trans b3
  have HB := Aside0.mk (show Bx w0 A c ls kp lo ly gh gl W.heap.size (W.heap.size + 1) ((W.alloc (.cells #[.func (.yield ly) #[] #[]] 120)).alloc (.cells #[(.func (.func 86) #[] #[.pointer (some ⟨gh, 0, none⟩), .pointer (some ⟨gl, 0, none⟩), .pointer (some ⟨W.heap.size, 0, none⟩), .pointer (some ⟨W.heap.size + 1, 0, none⟩)])] 119)) from ⟨(HX.out.block _ (Array.getElem?_eq_some_iff.1 H1.out).1).trans H1.out, (HX.out.block _ (Array.getElem?_eq_some_iff.1 H2.out).1).trans H2.out, Q6.out, Q3.out, H4.out.trans (HX.out.mono H4.out.size)⟩)
  have HJ1 := Aside0.mk (abides_below hJ H0.out HX.out)
  by_cases hr : 0 ≤ root
  · have hi : itemsL 30 ls lo root = some out := by have := HO.out; rw [itemsF, if_pos hr] at this; exact this
    have HI := Aside0.mk hi
    clear hi
    gi_wp2
    refine ⟨trivial, hdd _, ?_⟩
    refine (below_in w0 A c ls kp lo ly gh gl W.heap.size (W.heap.size + 1) hC out.length B J Jx hJ hJx hY 30 (n - 1) root [] out _ HB.out HJ1.out HI.out (by simp)).mono ?_
    rintro e W3 (⟨rfl, hJ3, hK3⟩ | ⟨rfl, q, hq, hx3⟩)
    · gi_wp2
      go_end0
      exact ⟨⟨_, rfl⟩, .inl (by simpa using hJ3)⟩
    · gi_wp2
      go_end0
      exact ⟨⟨_, rfl⟩, .inr ⟨q, hq, by simpa using hx3⟩⟩
  · have hi : out = [] := by have := HO.out; rw [itemsF, if_neg hr] at this; exact (Option.some.inj this).symm
    have HI := Aside0.mk hi
    clear hi
    gi_wp2
    go_end0
    exact ⟨⟨_, rfl⟩, .inl (by rw [HI.out]; exact HJ1.out)⟩
set_option maxHeartbeats 1000000 in
theorem items_in (F : Fence) (n : Nat) (hf : F.fn 61) (hro : F.round = none) (A : Option Addr) (c m : Nat) (kp root lo : Int) (w : World) :
    CallsIn F n Try.prog 61 #[.agg #[.slice A m c, .int .i64 kp], .int .i64 root, .int .i64 lo] w fun e w' => e = .returned (.func (.func 85) #[] #[.pointer (some ⟨w.heap.size, 0, none⟩), .pointer (some ⟨w.heap.size + 2, 0, none⟩), .pointer (some ⟨w.heap.size + 1, 0, none⟩)]) ∧ w' = ((w.alloc (.cells #[.slice A m c, .int .i64 kp] 24)).alloc (.cells #[.int .i64 root] 3)).alloc (.cells #[.int .i64 lo] 3) := by
  refine callsIn_of_wp Try.func61 rfl hf ?_ hro
  have hu24 := Try.underlying24
  simp only [Try.ntmps61, List.size_toArray, List.length_cons, List.length_nil, Nat.reduceAdd, Nat.reduceSub, Array.replicate_succ, Array.replicate_zero, List.push_toArray, List.append_toArray, List.nil_append, List.cons_append]
  gi_wp2
  go_ret
  exact ⟨rfl, rfl⟩
theorem items_stops (w0 w : World) (A : Option Addr) (c : Nat) (ls : List S55) (kp lo root : Int) (n gh gl gr : Nat) (hC : Kd.C k55 w0 A ls.length ls) (out : List S49) (ho : itemsF ls root lo = some out)
    (h1 : w.heap[gh]? = some (.cells #[.slice A ls.length c, .int .i64 kp] 24 (0, 0))) (h2 : w.heap[gl]? = some (.cells #[.int .i64 lo] 3 (0, 0))) (h3 : w.heap[gr]? = some (.cells #[.int .i64 root] 3 (0, 0)))
    (h4 : Below w0.heap.size w0 w) :
    SeqStopsK Fence.wide n Try.prog 85 #[.pointer (some ⟨gh, 0, none⟩), .pointer (some ⟨gl, 0, none⟩), .pointer (some ⟨gr, 0, none⟩)] (fun x : S49 => #[Value.agg #[.int .i64 x.f0, .int .i64 x.f1]]) (KpT w0.heap.size) (fun ys => ys = out) (fun pre => pre <+: out) out.length w := by
  intro l J Jx W hW hJ hJx hY h0
  refine items1_in w0 A c ls kp lo root l gh gl gr hC _ J Jx hJ hJx out ho ?_ n W ?_ ?_ ?_ (h4.trans (hW.mono h4.size)) h0
  · intro m pre x X hj hl
    obtain ⟨fn, tmps, assign, body, hy, hR⟩ := hY pre x X hj hl
    exact ⟨fn, tmps, assign, body, hy, hR.1, fun c cs _ => hR.2 c cs (fun d h => by cases h)⟩
  · exact (hW.block _ (Array.getElem?_eq_some_iff.1 h1).1).trans h1
  · exact (hW.block _ (Array.getElem?_eq_some_iff.1 h2).1).trans h2
  · exact (hW.block _ (Array.getElem?_eq_some_iff.1 h3).1).trans h3
end Go.Proofs.Yteiladccdenpbaa.P
end
section
namespace Go.Proofs.Yteiladccdenpbaa.P
open Go.RowKit Go.Shelf Go.Proofs.YteiladccdenpbaaW.PrintWords Go.Proofs.YteiladccdenpbaaW.PrintLast Go.Proofs.YteiladccdenpbaaW.PrintMore
attribute [local go_sem] Oper.semAt_some
set_option linter.unusedVariables false
set_option linter.unusedSimpArgs false
def cellsI (x : S49) : List Value := [.int .i64 x.f0, .int .i64 x.f1]
def cellsL (l : List S49) : List Value := l.flatMap cellsI
theorem cellsL_snoc (l : List S49) (x : S49) : cellsL (l ++ [x]) = cellsL l ++ cellsI x := by simp [cellsL]
theorem cellsL_len (l : List S49) : (cellsL l).length = l.length * 2 := by
  induction l with
  | nil => rfl
  | cons x l ih =>
    show (cellsI x ++ cellsL l).length = _
    rw [List.length_append, ih, List.length_cons]
    show 2 + _ = _
    omega
theorem cellsL_at (l : List S49) (j : Nat) (p : S49) (h : l[j]? = some p) : ((cellsL l).drop (j * 2)).take 2 = cellsI p := by
  induction l generalizing j with
  | nil => simp at h
  | cons x l ih =>
    show ((cellsI x ++ cellsL l).drop (j * 2)).take 2 = _
    cases j with
    | zero => simp at h; subst h; rfl
    | succ j =>
      rw [List.getElem?_cons_succ] at h
      rw [show (j + 1) * 2 = 2 + j * 2 by omega, ← List.drop_drop, show (cellsI x ++ cellsL l).drop 2 = cellsL l from rfl]
      exact ih j h
theorem cellsL_reps (R : S49 → List Value → Prop) (hR : ∀ x, R x (cellsI x)) (l : List S49) : Reps R 2 l (cellsL l) :=
  ⟨cellsL_len l, fun j p hp => by rw [cellsL_at l j p hp]; exact hR p⟩
theorem cell_two_new (w : World) (x y : Value) (t : TypeId) : ∀ j u, [x, y][j]? = some u → (w.alloc (.cells #[x, y] t)).cell? ((⟨w.heap.size, 0, none⟩ : Addr).add j) = some u := by
  intro j u hj
  match j, hj with
  | 0, hj =>
    simp at hj
    subst hj
    simp [Addr.add]
  | 1, hj =>
    simp at hj
    subst hj
    simp [Addr.add]
theorem kp_appended {W w1 : World} {n₀ B : Nat} {v v' : Value} {k m : Nat} {xs ys : List Value} {tmp : Obj}
    (hv : Boxed W B 43 v) (hrow : W.ownsRow n₀ 49 2 v k xs) (hn₀ : n₀ ≤ W.heap.size) (hB : n₀ ≤ B)
    (hown' : w1.ownsRow n₀ 49 2 v' m ys) (hgrow : (W.alloc tmp).grownBy w1 v.ownBlock) : KpT n₀ W (w1.setCell ⟨B, 0, none⟩ v') := by
  refine ⟨(hv.appended (by decide) hrow hn₀ hB hown' hgrow).2.2.2.2, fun i o hi ho => ?_⟩
  have hlt := (Array.getElem?_eq_some_iff.1 hi).1
  have hne : i ≠ B := fun e => by
    subst e
    rw [show W.heap[i]? = _ from hv] at hi
    cases hi
    cases ho
  have hnr : some i ≠ v.ownBlock := fun e => by
    obtain ⟨cs, hc⟩ := own_typed hrow i e.symm
    rw [hc] at hi
    cases hi
    cases ho
  rw [Below.heap_setCell _ _ _ _ hne, hgrow.block i (by simp; omega) hnr, Below.heap_alloc _ _ _ hlt]
  exact hi
theorem kp_putObj {n₀ : Nat} (W : World) (l : Nat) (o o' : Obj) (hl : n₀ ≤ l) (h : W.heap[l]? = some o) (hc : o.isCells = false) : KpT n₀ W (W.putObj l o') := by
  have hlt := (Array.getElem?_eq_some_iff.1 h).1
  refine ⟨(Below.refl n₀ W).grown (grownBy_putObj' W l o') (by omega) (fun k e => by cases e; omega), fun i p hi hp => ?_⟩
  have hne : i ≠ l := fun e => by
    subst e
    rw [h] at hi
    cases hi
    cases o <;> first | (simp [Obj.isCells] at hc; done) | (simp [keepT] at hp; done)
  exact (World.putObj_heap_other hne).trans hi
def tree_Scan.f (l0_0 : List S55) (a0_1 a1 a2 a3 : Int) : Option (List S49) :=
  (itemsF l0_0 a1 a2).bind fun out => if out.length < 1000000000 then some (out.takeWhile fun x => decide (x.f0 < a3)) else none
theorem take_all {l : List S49} {hi : Int} (h : ∀ x ∈ l, x.f0 < hi) : l.takeWhile (fun x => decide (x.f0 < hi)) = l := by
  induction l with
  | nil => rfl
  | cons x l ih => rw [List.takeWhile_cons, if_pos (decide_eq_true (h x (List.mem_cons_self ..))), ih fun y hy => h y (List.mem_cons_of_mem _ hy)]
theorem take_pre {l p : List S49} {x : S49} {hi : Int} (h : ∀ x ∈ p, x.f0 < hi) (hx : hi ≤ x.f0) (hp : p ++ [x] <+: l) : l.takeWhile (fun x => decide (x.f0 < hi)) = p := by
  obtain ⟨r, rfl⟩ := hp
  rw [List.append_assoc, List.takeWhile_append_of_pos fun y hy => decide_eq_true (h y hy)]
  simp [List.takeWhile_cons, show ¬ x.f0 < hi by omega]
set_option maxHeartbeats 8000000 in
set_option maxRecDepth 100000 in
theorem tree_Scan.calls (A0_0 : Option Addr) (c0_0 : Nat) (l0_0 : List (S55)) (a0_1 : Int) (a1 : Int) (a2 : Int) (a3 : Int) (r : List (S49)) (w : World) (hr0_0 : Kd.C k55 w A0_0 l0_0.length l0_0) (hc0_0 : l0_0.length ≤ c0_0) (h : tree_Scan.f l0_0 a0_1 a1 a2 a3 = some r) :
    Calls Try.prog 30 #[.agg #[.slice A0_0 l0_0.length c0_0, .int .i64 a0_1], .int .i64 a1, .int .i64 a2, .int .i64 a3] w fun e w' => ∃ v0_ : Value, e = .returned (v0_) ∧ Kd.R k49 49 w' w.heap.size (fun _ => True) v0_ r ∧ Below w.heap.size w w' := by
  refine (callsIn_wide (n := 3)).1 ?_
  obtain ⟨out, hout, h⟩ := Option.bind_eq_some_iff.1 h
  have hlen : out.length < 1000000000 := by
    by_cases hc : out.length < 1000000000
    · exact hc
    · rw [if_neg hc] at h; cases h
  rw [if_pos hlen] at h
  have HT := Aside0.mk (Option.some.inj h)
  have HO := Aside0.mk hout
  have HL := Aside0.mk hlen
  have HR := Aside0.mk hr0_0
  clear h hout hlen hr0_0 hc0_0
  have hu24 := Try.underlying24
  have hu49 := Try.underlying49
  obtain ⟨i0, hi, hz0, hz1, hz2⟩ := info_parts info49
  have hdd : ∀ k : Nat, (Fence.wide.depth.isSome = true → 1 ≤ k) := fun k h => by cases h
  refine callsIn_of_wp_marks Try.func30 rfl trivial ?_ rfl
  simp only [Try.ntmps30, List.size_toArray, List.length_cons, List.length_nil, Nat.reduceAdd, Nat.reduceSub, Array.replicate_succ, Array.replicate_zero, List.push_toArray, List.append_toArray, List.nil_append, List.cons_append]
  gi_wp2
  refine ⟨trivial, ?_⟩
  refine (items_in Fence.wide 2 trivial rfl A0_0 c0_0 l0_0.length a0_1 a1 a2 _).mono ?_
  rintro e w' ⟨rfl, rfl⟩
  have bh : ∀ (X : World) (o : Obj) (k : Nat) (hk : k = X.heap.size), (X.alloc o).heap[k]? = some o := fun X o k hk => by rw [hk]; exact World.alloc_heap_new X o
  obtain ⟨W6, hW6⟩ : ∃ W6, ((((((w.alloc (.cells #[.slice A0_0 l0_0.length c0_0, .int .i64 a0_1] 24)).alloc (.cells #[.int .i64 a3] 3)).alloc (.cells #[.slice none 0 0] 43)).alloc (.cells #[.slice A0_0 l0_0.length c0_0, .int .i64 a0_1] 24)).alloc (.cells #[.int .i64 a1] 3)).alloc (.cells #[.int .i64 a2] 3)) = W6 := ⟨_, rfl⟩
  have h1 : W6.heap[w.heap.size + 1]? = some (.cells #[.int .i64 a3] 3 (0, 0)) := by rw [← hW6]; exact blk_alloc (blk_alloc (blk_alloc (blk_alloc (bh _ _ _ (by simp)) _) _) _) _
  have h2 : W6.heap[w.heap.size + 2]? = some (.cells #[.slice none 0 0] 43 (0, 0)) := by rw [← hW6]; exact blk_alloc (blk_alloc (blk_alloc (bh _ _ _ (by simp)) _) _) _
  have h3 : W6.heap[w.heap.size + 3]? = some (.cells #[.slice A0_0 l0_0.length c0_0, .int .i64 a0_1] 24 (0, 0)) := by rw [← hW6]; exact blk_alloc (blk_alloc (bh _ _ _ (by simp)) _) _
  have h4 : W6.heap[w.heap.size + 4]? = some (.cells #[.int .i64 a1] 3 (0, 0)) := by rw [← hW6]; exact blk_alloc (bh _ _ _ (by simp)) _
  have h5 : W6.heap[w.heap.size + 5]? = some (.cells #[.int .i64 a2] 3 (0, 0)) := by rw [← hW6]; exact bh _ _ _ (by simp)
  have hB : Below w.heap.size w W6 := by
    rw [← hW6]
    refine Below.alloc (Below.alloc (Below.alloc (Below.alloc (Below.alloc ((Below.refl _ w).alloc (Nat.le_refl _) _) ?_ _) ?_ _) ?_ _) ?_ _) ?_ _
    all_goals (simp only [World.size_alloc]; omega)
  have hs6 : W6.heap.size = w.heap.size + 6 := by rw [← hW6]; simp
  simp only [World.size_alloc, Nat.add_assoc, Nat.reduceAdd] at hW6 ⊢
  rw [hW6]
  have hown0 : W6.ownsRow w.heap.size 49 2 (.slice none 0 0) ([] : List S49).length (cellsL []) := World.ownsRow_nil _ _ _ _
  gi_wp2
  refine wpIn_rangeFunc_ownH rfl (by omega) (gf := 85) (lb := #[.pointer (some ⟨w.heap.size + 3, 0, none⟩), .pointer (some ⟨w.heap.size + 5, 0, none⟩), .pointer (some ⟨w.heap.size + 4, 0, none⟩)]) rfl trivial (enters_of Try.func85 (by kernel_rfl) rfl)
    (items_stops w W6 A0_0 c0_0 l0_0 a0_1 a2 a1 2 (w.heap.size + 3) (w.heap.size + 5) (w.heap.size + 4) HR.out out HO.out h3 h5 h4 hB) (fun h k => KpT.t h k) (fun W l o o' hl h hc _ => kp_putObj W l o o' (by omega) h hc) (Below.refl _ _) (fun _ => rfl)
    (fun pre W => ((∃ v, Boxed W (w.heap.size + 2) 43 v ∧ W.ownsRow w.heap.size 49 2 v pre.length (cellsL pre) ∧ (∀ x ∈ pre, x.f0 < a3)) ∧ Boxed W (w.heap.size + 1) 3 (.int .i64 a3)) ∧ Below w.heap.size w W)
    (fun c pre W => c = .exit 0 ∧ ∃ pre' x, pre = pre' ++ [x] ∧ a3 ≤ S49.f0 x ∧ ((∃ v, Boxed W (w.heap.size + 2) 43 v ∧ W.ownsRow w.heap.size 49 2 v pre'.length (cellsL pre') ∧ (∀ x ∈ pre', x.f0 < a3)) ∧ Boxed W (w.heap.size + 1) 3 (.int .i64 a3)) ∧ Below w.heap.size w W)
    ?hI ?hIx ⟨⟨⟨_, h2, hown0, fun x hx => by cases hx⟩, h1⟩, hB⟩
    (fun x a' W => ∃ B, W.heap[B]? = some (.cells #[.int .i64 x.f0, .int .i64 x.f1] 49 (0, 0)) ∧ a' = { tmps := #[.agg #[.slice A0_0 l0_0.length c0_0, .int .i64 a0_1], .int .i64 a1, .int .i64 a2, .int .i64 a3, .pointer (some ⟨w.heap.size, 0, none⟩), undef, undef, .pointer (some ⟨w.heap.size + 1, 0, none⟩), .slice none 0 0, .pointer (some ⟨w.heap.size + 2, 0, none⟩), .pointer (some ⟨B, 0, none⟩), .agg #[.slice A0_0 l0_0.length c0_0, .int .i64 a0_1], .int .i64 a1, .int .i64 a2, .func (.func 85) #[] #[.pointer (some ⟨w.heap.size + 3, 0, none⟩), .pointer (some ⟨w.heap.size + 5, 0, none⟩), .pointer (some ⟨w.heap.size + 4, 0, none⟩)], .agg #[.int .i64 x.f0, .int .i64 x.f1], undef, undef, undef, undef, undef, undef, undef, undef, undef], defers := [] })
    ?hAx ?assign ?body ?done ?stop
  case hI => exact OwnFrom.and (OwnFrom.and (Own.from (holdsRow_own w.heap.size (w.heap.size + 2) 43 49 2 (fun pre : List S49 => pre.length) (fun pre => cellsL pre) (fun pre v => ∀ x ∈ pre, x.f0 < a3)) _) (Own.from (boxed_own _ _ _) _)) (ownFrom_below (Nat.le_refl _) (by omega))
  case hIx =>
    rintro c s X Y row ⟨hc, pre', x, he, hx, hi⟩ hg hr
    exact ⟨hc, pre', x, he, hx, OwnFrom.and (OwnFrom.and (Own.from (holdsRow_own w.heap.size (w.heap.size + 2) 43 49 2 (fun pre : List S49 => pre.length) (fun pre => cellsL pre) (fun pre v => ∀ x ∈ pre, x.f0 < a3)) _) (Own.from (boxed_own (w.heap.size + 1) 3 (fun _ : List S49 => Value.int .i64 a3)) _)) (ownFrom_below (n₀ := w.heap.size) (w₀ := w) (B := W6.heap.size) (Nat.le_refl _) (by omega)) pre' X Y row hi hg hr⟩
  case hAx =>
    rintro x a' s X Y row ⟨B, hB, ha⟩ hg hr
    refine ⟨B, (hg.block B (Array.getElem?_eq_some_iff.1 hB).1 (fun e => ?_)).trans hB, ha⟩
    obtain ⟨_, o, ho, hc⟩ := hr B e.symm
    rw [hB] at ho
    cases ho
    cases hc
  case assign =>
    rintro l pre x W K ⟨⟨⟨v, hv, hrow, hlt⟩, hhi⟩, hbW⟩ hK
    have hbx : Below W.heap.size W (W.alloc (.cells #[.int .i64 x.f0, .int .i64 x.f1] 49)) := (Below.refl W.heap.size W).alloc (Nat.le_refl _) _
    have hKK := hK _ _ ((KeepsOthers.alloc W (.cells #[.int .i64 x.f0, .int .i64 x.f1] 49)).from _) (KpT.below hbx hbW.size) ⟨⟨⟨v, hv.alloc _, hrow.alloc _, hlt⟩, hhi.alloc _⟩, hbW.trans (hbx.mono hbW.size)⟩ ⟨W.heap.size, World.alloc_heap_new W _, rfl⟩
    have HKK := Aside0.mk hKK
    clear hKK hK hv hrow hhi
    gi_wp2
    exact HKK.out
  case body =>
    rintro l pre x a' W hl hrec ⟨⟨⟨v, hv, hrow, hlt⟩, hhi⟩, hbW⟩ ⟨Bk, hBk, rfl⟩ hlen
    have hc := hv.cell
    have hc2 := hhi.cell
    have x0 : W.cell? ⟨Bk, 0, none⟩ = some (.int .i64 x.f0) := (blk_cell hBk 0).trans rfl
    have x1 : W.cell? ⟨Bk, 1, none⟩ = some (.int .i64 x.f1) := (blk_cell hBk 1).trans rfl
    have HV := Aside0.mk hv
    have HROW := Aside0.mk hrow
    have HHI := Aside0.mk hhi
    have HLT := Aside0.mk hlt
    have HLEN := Aside0.mk hlen
    clear hv hrow hhi hlt hlen hBk hrec
    by_cases hx : a3 ≤ x.f0
    · gi_wp2
      exact ⟨KeepsFrom.refl _ _, rfl, pre, x, rfl, hx, ⟨⟨v, HV.out, HROW.out, HLT.out⟩, HHI.out⟩, hbW⟩
    · gi_wp2_with (gi_at_builtin; refine wpListIn_append_own _ rfl _ _ 43 rfl w.heap.size 49 i0 (.agg #[.int .i64 0, .int .i64 0]) 2 16 Try.underlying43 hi hz0 hz1 hz2 rfl (by decide) _ _ _ rfl (HROW.out.alloc _) ⟨W.heap.size, 0, none⟩ 1 1 [.int .i64 x.f0, .int .i64 x.f1] rfl rfl (cell_two_new _ _ _ _) (by simp [Value.oneCell']) (by have := HLEN.out; have := HL.out; simp only [maxLen]; omega) (by have := HLEN.out; have := HL.out; omega) (by have := hbW.size; simp; omega) ?_; intro v' w1 hown' hgrow _; obtain ⟨g', cap', rfl⟩ := ownsRow_succ hown'; obtain ⟨hv1, hv2, hr2, hk2, hb2⟩ := HV.out.appended (by decide) HROW.out hbW.size (by omega) hown' hgrow; have hkp := Aside0.mk (kp_appended HV.out HROW.out hbW.size (by omega) hown' hgrow); have hc1 := hv1.cell; have hf1 := hv1.frozen; have HV2 := Aside0.mk hv2; have HR2 := Aside0.mk hr2; have HK2 := Aside0.mk hk2; clear hv1 hv2 hr2 hk2 hown' hgrow)
      exact ⟨HK2.out.from _, hkp.out, ⟨⟨⟨_, HV2.out, by rw [List.length_append, cellsL_snoc]; exact HR2.out, fun y hy => by
        rcases List.mem_append.1 hy with h | h
        · exact HLT.out y h
        · rw [List.mem_singleton.1 h]; omega⟩, hkp.out.2 _ _ HHI.out rfl⟩, hbW.trans hb2⟩⟩
  case done =>
    rintro D ys W hD rfl ⟨⟨⟨v, hv, hrow, hlt⟩, hhi⟩, hbW⟩ hK
    have hc := hv.cell
    have HROW := Aside0.mk hrow
    have HK := Aside0.mk hK
    have er : ys = r := by have := HT.out; rwa [take_all hlt] at this
    have ER := Aside0.mk er
    clear hv hrow hhi hlt hK er
    gi_wp2
    refine ⟨by simp, .inl ⟨_, _, rfl, run_takeDeferred HK.out, ?_⟩⟩
    refine ⟨_, results_tmp rfl _ _ _, v, rfl, ?_, hbW.trans (belowK_b (w := w) (Nat.le_refl _) W D _ _ (by omega) HK.out rfl rfl)⟩
    rw [← ER.out]
    exact ⟨fun k _ => trivial, cellsL ys, ownsRow_putObj HROW.out _ HK.out rfl, cellsL_reps _ (fun x => k49_mkM _ _ _ x) ys⟩
  case stop =>
    rintro D c pre W hD hp ⟨rfl, ys, x, rfl, hx, ⟨⟨v, hv, hrow, hlt⟩, hhi⟩, hbW⟩ hK
    have hc := hv.cell
    have HROW := Aside0.mk hrow
    have HK := Aside0.mk hK
    have er : ys = r := by have := HT.out; rwa [take_pre hlt hx hp] at this
    have ER := Aside0.mk er
    clear hv hrow hhi hlt hK er hp
    gi_wp2
    refine ⟨by simp, .inl ⟨_, _, rfl, run_takeDeferred HK.out, ?_⟩⟩
    refine ⟨_, results_tmp rfl _ _ _, v, rfl, ?_, hbW.trans (belowK_b (w := w) (Nat.le_refl _) W D _ _ (by omega) HK.out rfl rfl)⟩
    rw [← ER.out]
    exact ⟨fun k _ => trivial, cellsL ys, ownsRow_putObj HROW.out _ HK.out rfl, cellsL_reps _ (fun x => k49_mkM _ _ _ x) ys⟩
end Go.Proofs.Yteiladccdenpbaa.P
end
