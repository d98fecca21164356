/- Texts of this claim's proof put together: F46A, F46, F34, PTrB, HCpx, F37. -/
import Derived.Below
import Derived.Deep.Draws
import Derived.Deep.AppendLies
import Derived.Maps.AppendAt
import Derived.OwnWalk
import Derived.Laws.BytesArg
import Derived.Laws.MakeOwn
import Derived.Laws.OwnMore
import Derived.Deep.OwnRows
import Derived.Tactics
import Derived.Lib.ConvBytes
import Derived.Laws.Slices
import Derived.WalkKit
import Derived.KernelRfl
import Derived.RowKit3
import Derived.Deep.LoopGhost
import Derived.Deep.QuietTactic
import Derived.BigQuiet
import Derived.WideLaws
import Derived.Deep.DeepCutAuto
import Derived.Deep.CutBlock
import Derived.Deep.RegionHeld3
import Derived.Laws.Rows
import Derived.Lib.AppendStr
import Derived.ArgAppend
import Derived.Laws.IdiomCopy
import Derived.RowKit
import Derived.OrdersHeld
import Derived.Laws.BitsLemmas
import Derived.Laws.StructEq
import Derived.Test.YtflndiikeoflfaaProg
import Derived.Shelf.RegionOpenPlain
import Derived.Shelf.Abstract
import Derived.Laws.CopyOwn
import Derived.Lib.SlBuf
import Derived.WalkLawsBesides
import Derived.Lib.LazyBuf
import Derived.ChangeArms
import Derived.DataReads
import Derived.DataElems
import Derived.SizedLaws
import Derived.Test.YtflndiikeoflfaaRows
import Derived.ProofKit
import Derived.OpenShut
import Derived.ShutString
import Derived.ChangeOld
import Derived.Test.YtflndiikeoflfaaKCleanBound0
import Derived.Test.YtflndiikeoflfaaKCleanBound1
namespace Foot
end Foot
namespace Go.Proofs.Ytflndiikeoflfaa
end Go.Proofs.Ytflndiikeoflfaa
namespace Go.Proofs.Ytflndiikeoflfaa.P
end Go.Proofs.Ytflndiikeoflfaa.P
namespace Go.Proofs.Ytflndiikeoflfaa.cleanBound
end Go.Proofs.Ytflndiikeoflfaa.cleanBound
namespace Go.Proofs.YtflndiikeoflfaaW.PrintLast
end Go.Proofs.YtflndiikeoflfaaW.PrintLast
namespace Go.Proofs.YtflndiikeoflfaaW.PrintMore
end Go.Proofs.YtflndiikeoflfaaW.PrintMore
namespace Go.Proofs.YtflndiikeoflfaaW.PrintWords
end Go.Proofs.YtflndiikeoflfaaW.PrintWords
namespace Kd
end Kd
section
namespace Go.Proofs.Ytflndiikeoflfaa.P
open Go.RowKit Go.Proofs.YtflndiikeoflfaaW.PrintWords Go.Proofs.YtflndiikeoflfaaW.PrintLast Go.Proofs.YtflndiikeoflfaaW.PrintMore
attribute [local go_sem] max2_int min2_int max_two min_two max_three min_three max_four min_four
set_option linter.unusedVariables false
set_option linter.unusedSimpArgs false
mutual
def assartref07_below.l0 : Nat → Int → Int → List (S38) → Int → Bool → List (S46) → Int → Int → Int → Bool → Option (Int × Int × Int × Bool)
 | 0, _, _, _, _, _, _, _, _, _, _ => none
 | k + 1, x2, x9, x154000, x154001, x157000, x157001, x161000, x161001, x161002, x161003 => if x9 < (x157001.length : Int) then (if 0 ≤ x9 then ((assartref07_below.f k x154000 x154001 ((rd_T46 x157001 x9).f1) (wrap64 (x2 - 1))).bind fun bt162 => (if bt162.2.2.2 = true then (if bt162.1 = ((rd_T46 x157001 x9).f0) then (if x9 > 0 then (if x161001 ≥ bt162.1 then (assartref07_below.j1 k x2 x9 true x154000 x154001 x157000 x157001 x161000 x161001 x161002 x161003 bt162.1 bt162.2.1 bt162.2.2.1 bt162.2.2.2) else (assartref07_below.j1 k x2 x9 (x161002 != (wrap64 (bt162.2.2.1 + 1))) x154000 x154001 x157000 x157001 x161000 x161001 x161002 x161003 bt162.1 bt162.2.1 bt162.2.2.1 bt162.2.2.2)) else (assartref07_below.j1 k x2 x9 false x154000 x154001 x157000 x157001 x161000 x161001 x161002 x161003 bt162.1 bt162.2.1 bt162.2.2.1 bt162.2.2.2)) else (assartref07_below.j1 k x2 x9 true x154000 x154001 x157000 x157001 x161000 x161001 x161002 x161003 bt162.1 bt162.2.1 bt162.2.2.1 bt162.2.2.2)) else (assartref07_below.j1 k x2 x9 true x154000 x154001 x157000 x157001 x161000 x161001 x161002 x161003 bt162.1 bt162.2.1 bt162.2.2.1 bt162.2.2.2))) else (none)) else (some (x161000, x161001, x161002, true))
def assartref07_below.j1 : Nat → Int → Int → Bool → List (S38) → Int → Bool → List (S46) → Int → Int → Int → Bool → Int → Int → Int → Bool → Option (Int × Int × Int × Bool)
 | 0, _, _, _, _, _, _, _, _, _, _, _, _, _, _, _ => none
 | k + 1, x2, x9, x97, x154000, x154001, x157000, x157001, x161000, x161001, x161002, x161003, x167000, x167001, x167002, x167003 => if x97 = true then (some (0, 0, 0, false)) else (if x9 = 0 then (assartref07_below.l0 k x2 (wrap64 (x9 + 1)) x154000 x154001 x157000 x157001 x167000 x167001 (wrap64 (x167002 + 1)) x161003) else (assartref07_below.l0 k x2 (wrap64 (x9 + 1)) x154000 x154001 x157000 x157001 x161000 x167001 x161002 x161003))
def assartref07_below.f : Nat → List (S38) → Int → Int → Int → Option (Int × Int × Int × Bool)
 | 0, _, _, _, _ => none
 | k + 1, l0_0, a0_1, a1, a2 => if 0 ≤ a1 then (if a1 < (l0_0.length : Int) then (if ((rd_T38 l0_0 a1).f0) < 1 then (some (0, 0, 0, false)) else (if (rd_T38 l0_0 a1).f2.f0 = true then (if 0 < (((rd_T38 l0_0 a1).f2.f1).length : Int) then (if 0 ≤ (wrap64 ((((rd_T38 l0_0 a1).f2.f1).length : Int) - 1)) then (if (wrap64 ((((rd_T38 l0_0 a1).f2.f1).length : Int) - 1)) < (((rd_T38 l0_0 a1).f2.f1).length : Int) then (some ((rd_T46 ((rd_T38 l0_0 a1).f2.f1) 0).f0, (rd_T46 ((rd_T38 l0_0 a1).f2.f1) (wrap64 ((((rd_T38 l0_0 a1).f2.f1).length : Int) - 1))).f0, 1, decide (a2 ≥ 1))) else (none)) else (none)) else (none)) else (if a2 ≤ 1 then (some (0, 0, 0, false)) else (assartref07_below.l0 k a2 0 l0_0 a0_1 ((rd_T38 l0_0 a1).f2.f0) ((rd_T38 l0_0 a1).f2.f1) 0 0 0 false)))) else (none)) else (none)
end
def assartref07_below.T5 : Bool × List (List Nat × List Nat) := (true, [([], []), ([0], [0]), ([1], [1]), ([2], [2]), ([3], [3]), ([], []), ([5], [5]), ([], []), ([7], [7]), ([8], [8]), ([9], [9]), ([6, 10], [6, 10]), ([11], [11]), ([12], [12]), ([], []), ([14], [14]), ([4, 13, 15], [4, 13, 15]), ([16, 0, 1, 2, 3, 4, 5, 6, 7, 8, 9, 10, 11, 12, 13, 14, 15, 16], [16])])
def assartref07_below.B5 : List Nat := [0, 1, 3, 7, 15, 0, 32, 0, 128, 384, 896, 2016, 4064, 8160, 0, 16384, 65535, 131071]
theorem assartref07_below.tab5 : rtab .any (opsOf Try.f46 5) = assartref07_below.T5 := by kernel_rfl
theorem assartref07_below.bits5 : waitsOk assartref07_below.T5.2 assartref07_below.B5 = true := by kernel_rfl
def assartref07_below.T12 : Bool × List (List Nat × List Nat) := (true, [([], []), ([], []), ([1], [1]), ([], []), ([2, 3], [2, 3]), ([4], [4]), ([5], [5]), ([], []), ([7], [7]), ([0, 6, 8], [0, 6, 8]), ([], []), ([10, 9, 9, 0, 1, 2, 3, 4, 5, 6, 7, 8, 9, 10], [9, 10])])
def assartref07_below.B12 : List Nat := [0, 0, 2, 0, 14, 30, 62, 0, 128, 511, 0, 2047]
theorem assartref07_below.tab12 : rtab .any (opsOf Try.f46 12) = assartref07_below.T12 := by kernel_rfl
theorem assartref07_below.bits12 : waitsOk assartref07_below.T12.2 assartref07_below.B12 = true := by kernel_rfl
set_option maxHeartbeats 8000000 in
set_option maxRecDepth 100000 in
theorem assartref07_below.calls0 (k : Nat) : ∀ (A0_0 : Option Addr) (c0_0 : Nat) (l0_0 : List (S38)) (a0_1 : Int) (a1 : Int) (a2 : Int) (r1 : Int) (r2 : Int) (r3 : Int) (r4 : Bool) (w : World) (hr0_0 : Kd.C k38 w A0_0 l0_0.length l0_0) (hc0_0 : l0_0.length ≤ c0_0) (HQ : Aside0 (decide (((rd_T38 l0_0 a1).f0) < 1) = true ∨ (rd_T38 l0_0 a1).f2.f0 = true ∨ decide (a2 ≤ 1) = true)) (h : assartref07_below.f k l0_0 a0_1 a1 a2 = some (r1, r2, r3, r4)),
  Calls Try.prog 46 #[.agg #[.slice A0_0 l0_0.length c0_0, .int .i64 a0_1], .int .i64 a1, .int .i64 a2] w fun e w' => e = .returned (.agg #[.int .i64 r1, .int .i64 r2, .int .i64 r3, .bool r4]) ∧ Below w.heap.size w w' := by
 intro A0_0 c0_0 l0_0 a0_1 a1 a2 r1 r2 r3 r4 w hr0_0 hc0_0 HQ h
 cases k with
 | zero => exact absurd h (by simp [assartref07_below.f])
 | succ k =>
 simp only [assartref07_below.f] at h
 have hu24 := Try.underlying24
 have hu88 := Try.underlying88
 have hu36 := Try.underlying36
 have HR0_0 := Aside0.mk hr0_0
 have HC0_0 := Aside0.mk hc0_0
 clear hr0_0 hc0_0
 have HB := Aside0.mk (Below.refl w.heap.size w)
 have H : (if 0 ≤ a1 then (if a1 < (l0_0.length : Int) then (if ((rd_T38 l0_0 a1).f0) < 1 then (some (0, 0, 0, false)) else (if (rd_T38 l0_0 a1).f2.f0 = true then (if 0 < (((rd_T38 l0_0 a1).f2.f1).length : Int) then (if 0 ≤ (wrap64 ((((rd_T38 l0_0 a1).f2.f1).length : Int) - 1)) then (if (wrap64 ((((rd_T38 l0_0 a1).f2.f1).length : Int) - 1)) < (((rd_T38 l0_0 a1).f2.f1).length : Int) then (some ((rd_T46 ((rd_T38 l0_0 a1).f2.f1) 0).f0, (rd_T46 ((rd_T38 l0_0 a1).f2.f1) (wrap64 ((((rd_T38 l0_0 a1).f2.f1).length : Int) - 1))).f0, 1, decide (a2 ≥ 1))) else (none)) else (none)) else (none)) else (if a2 ≤ 1 then (some (0, 0, 0, false)) else (assartref07_below.l0 k a2 0 l0_0 a0_1 ((rd_T38 l0_0 a1).f2.f0) ((rd_T38 l0_0 a1).f2.f1) 0 0 0 false)))) else (none)) else (none)) = some (r1, r2, r3, r4) := h
 clear h
 by_cases c4 : 0 ≤ a1
 ·rw [if_pos c4] at H
  have c4b0 : decide (0 ≤ a1) = true := decide_eq_true c4
  clear c4
  by_cases c5 : a1 < (l0_0.length : Int)
  ·rw [if_pos c5] at H
   have c5b0 : decide (a1 < (l0_0.length : Int)) = true := decide_eq_true c5
   clear c5
   by_cases c6 : ((rd_T38 l0_0 a1).f0) < 1
   ·rw [if_pos c6] at H
    have c6b0 : decide (((rd_T38 l0_0 a1).f0) < 1) = true := decide_eq_true c6
    clear c6
    simp only [Option.some.injEq, Prod.mk.injEq] at H
    obtain ⟨rfl, rfl, rfl, rfl⟩ := H
    go_enter Try.func46, Try.ntmps46
    go_wp2_with (first | ((with_reducible refine gate_dst (N := 3) rfl ?_); refine box_event ?hg (N := 3) ?hd (cs := #[.slice A0_0 l0_0.length c0_0, .int .i64 a0_1]) (t := 24) ?hr ?_; (case hd => rfl); (case hg => rfl); (case hr => first | (go_simp; done) | (go_simp; rfl)); intro gb153 hg w7 hbox hb; have n0_ := Aside0.mk (below_step (by repeat (first | (with_reducible first | exact HB.out | apply below_alloc | apply pw_below_drewN | apply below_drew1) | exact HB.out)) hb); have n1_ := Aside0.mk (hbox); have n2_ := Aside0.mk ((by rw [hg]; exact (below_size (by repeat (first | (with_reducible first | exact HB.out | apply below_alloc | apply pw_below_drewN | apply below_drew1) | exact HB.out))) : w.heap.size ≤ gb153)); have n3_ := Aside0.mk ((by rw [hg]; exact (below_size (by repeat (first | (with_reducible first | exact HB.out | apply below_alloc | apply pw_below_drewN | apply below_drew1) | exact HB.out))) : w.heap.size ≤ gb153)); clear HB; have HB := n0_; have BK153 := n1_; have GW153 := n2_; have GE153 := n3_; clear n0_ n1_ n2_ n3_; clear hb hbox hg) | ((with_reducible refine gate_dst (N := 6) rfl ?_); refine box_event ?hg (N := 6) ?hd (cs := #[.int .i64 0, .int .i64 0, .int .i64 0, .bool false]) (t := 88) ?hr ?_; (case hd => rfl); (case hg => rfl); (case hr => first | (go_simp; done) | (go_simp; rfl)); intro gb154 hg w8 hbox hb; have n0_ := Aside0.mk (blk_below (g := gb153) (o := .cells #[.slice A0_0 l0_0.length c0_0, .int .i64 a0_1] 24 (0, 0)) (by (with_reducible repeat (first | refine blk_drewN ?_ _ | refine blk_drew ?_ | refine blk_alloc ?_ _)); exact BK153.out) hb); have n1_ := Aside0.mk (below_step (by repeat (first | (with_reducible first | exact HB.out | apply below_alloc | apply pw_below_drewN | apply below_drew1 | refine below_set ?_ GE153.out) | exact HB.out)) hb); have n2_ := Aside0.mk (hbox); have n3_ := Aside0.mk ((by rw [hg]; exact (below_size (by repeat (first | (with_reducible first | exact HB.out | apply below_alloc | apply pw_below_drewN | apply below_drew1 | refine below_set ?_ GE153.out) | exact HB.out))) : w.heap.size ≤ gb154)); have n4_ := Aside0.mk ((by rw [hg]; exact (below_size (by repeat (first | (with_reducible first | exact HB.out | apply below_alloc | apply pw_below_drewN | apply below_drew1 | refine below_set ?_ GE153.out) | exact HB.out))) : w.heap.size ≤ gb154)); have n5_ := Aside0.mk ((by rw [hg]; exact Nat.ne_of_lt (blk_lt (g := gb153) (o := .cells #[.slice A0_0 l0_0.length c0_0, .int .i64 a0_1] 24 (0, 0)) (by (with_reducible repeat (first | refine blk_drewN ?_ _ | refine blk_drew ?_ | refine blk_alloc ?_ _)); exact BK153.out)) : gb153 ≠ gb154)); have n6_ := Aside0.mk ((by rw [hg]; exact Nat.ne_of_gt (blk_lt (g := gb153) (o := .cells #[.slice A0_0 l0_0.length c0_0, .int .i64 a0_1] 24 (0, 0)) (by (with_reducible repeat (first | refine blk_drewN ?_ _ | refine blk_drew ?_ | refine blk_alloc ?_ _)); exact BK153.out)) : gb154 ≠ gb153)); clear BK153; clear HB; have BK153 := n0_; have HB := n1_; have BK154 := n2_; have GW154 := n3_; have GE154 := n4_; have NB153_154 := n5_; have NB154_153 := n6_; clear n0_ n1_ n2_ n3_ n4_ n5_ n6_; clear hb hbox hg; have hnb9 := NB153_154.out; have hnc9 := NB154_153.out; have hcz10_0 : w8.cell? ⟨gb153, 0, none⟩ = some (.slice A0_0 l0_0.length c0_0) := (blk_cell BK153.out 0).trans rfl; have hcz10_1 : w8.cell? ⟨gb153, 1, none⟩ = some (.int .i64 a0_1) := (blk_cell BK153.out 1).trans rfl; have hfz10_0 := blk_frozen BK153.out 0; have hfz10_1 := blk_frozen BK153.out 1; have p155 : 0 ≤ (a1 : Int) := of_decide_eq_true (by first | (with_reducible assumption) | assumption); have q155 : a1 < (l0_0.length : Int) := of_decide_eq_true (by first | (with_reducible assumption) | assumption); obtain ⟨ad155, A155_3, c155_3, e155, hx155_0, hx155_1, hx155_2, hx155_3, hl155_3, hi155_3⟩ := at_T38 HR0_0.out a1 p155 q155; cases e155; replace hx155_0 := (HB.out.cell (World.block_lt_of_cell? w _ hx155_0)).trans hx155_0; replace hx155_1 := (HB.out.cell (World.block_lt_of_cell? w _ hx155_1)).trans hx155_1; replace hx155_2 := (HB.out.cell (World.block_lt_of_cell? w _ hx155_2)).trans hx155_2; replace hx155_3 := (HB.out.cell (World.block_lt_of_cell? w _ hx155_3)).trans hx155_3; have HR155_3 := Aside0.mk hi155_3; have HC155_3 := Aside0.mk hl155_3; clear hi155_3 hl155_3; replace p155 := eq_true p155; replace q155 := eq_true q155) | ((with_reducible refine gate_dst (N := 7) rfl ?_); refine box_event ?hg (N := 7) ?hd (cs := #[.bool false, .slice none 0 0]) (t := 36) ?hr ?_; (case hd => rfl); (case hg => rfl); (case hr => first | (go_simp; done) | (go_simp; rfl)); intro gb156 hg w11 hbox hb; have n0_ := Aside0.mk (blk_below (g := gb153) (o := .cells #[.slice (some ad155) l0_0.length c0_0, .int .i64 a0_1] 24 (0, 0)) (by (with_reducible repeat (first | refine blk_drewN ?_ _ | refine blk_drew ?_ | refine blk_alloc ?_ _)); exact BK153.out) hb); have n1_ := Aside0.mk (blk_below (g := gb154) (o := .cells #[.int .i64 0, .int .i64 0, .int .i64 0, .bool false] 88 (0, 0)) (by (with_reducible repeat (first | refine blk_drewN ?_ _ | refine blk_drew ?_ | refine blk_alloc ?_ _)); exact BK154.out) hb); have n2_ := Aside0.mk (below_step (by repeat (first | (with_reducible first | exact HB.out | apply below_alloc | apply pw_below_drewN | apply below_drew1 | refine below_set ?_ GE153.out | refine below_set ?_ GE154.out) | exact HB.out)) hb); have n3_ := Aside0.mk (hbox); have n4_ := Aside0.mk ((by rw [hg]; exact (below_size (by repeat (first | (with_reducible first | exact HB.out | apply below_alloc | apply pw_below_drewN | apply below_drew1 | refine below_set ?_ GE153.out | refine below_set ?_ GE154.out) | exact HB.out))) : w.heap.size ≤ gb156)); have n5_ := Aside0.mk ((by rw [hg]; exact (below_size (by repeat (first | (with_reducible first | exact HB.out | apply below_alloc | apply pw_below_drewN | apply below_drew1 | refine below_set ?_ GE153.out | refine below_set ?_ GE154.out) | exact HB.out))) : w.heap.size ≤ gb156)); have n6_ := Aside0.mk ((by rw [hg]; exact Nat.ne_of_lt (blk_lt (g := gb153) (o := .cells #[.slice (some ad155) l0_0.length c0_0, .int .i64 a0_1] 24 (0, 0)) (by (with_reducible repeat (first | refine blk_drewN ?_ _ | refine blk_drew ?_ | refine blk_alloc ?_ _)); exact BK153.out)) : gb153 ≠ gb156)); have n7_ := Aside0.mk ((by rw [hg]; exact Nat.ne_of_gt (blk_lt (g := gb153) (o := .cells #[.slice (some ad155) l0_0.length c0_0, .int .i64 a0_1] 24 (0, 0)) (by (with_reducible repeat (first | refine blk_drewN ?_ _ | refine blk_drew ?_ | refine blk_alloc ?_ _)); exact BK153.out)) : gb156 ≠ gb153)); have n8_ := Aside0.mk ((by rw [hg]; exact Nat.ne_of_lt (blk_lt (g := gb154) (o := .cells #[.int .i64 0, .int .i64 0, .int .i64 0, .bool false] 88 (0, 0)) (by (with_reducible repeat (first | refine blk_drewN ?_ _ | refine blk_drew ?_ | refine blk_alloc ?_ _)); exact BK154.out)) : gb154 ≠ gb156)); have n9_ := Aside0.mk ((by rw [hg]; exact Nat.ne_of_gt (blk_lt (g := gb154) (o := .cells #[.int .i64 0, .int .i64 0, .int .i64 0, .bool false] 88 (0, 0)) (by (with_reducible repeat (first | refine blk_drewN ?_ _ | refine blk_drew ?_ | refine blk_alloc ?_ _)); exact BK154.out)) : gb156 ≠ gb154)); clear BK153; clear BK154; clear HB; have BK153 := n0_; have BK154 := n1_; have HB := n2_; have BK156 := n3_; have GW156 := n4_; have GE156 := n5_; have NB153_156 := n6_; have NB156_153 := n7_; have NB154_156 := n8_; have NB156_154 := n9_; clear n0_ n1_ n2_ n3_ n4_ n5_ n6_ n7_ n8_ n9_; clear hb hbox hg; have hnb12 := NB156_153.out; have hnc12 := NB153_156.out; have hnb13 := NB156_154.out; have hnc13 := NB154_156.out; have hcz14_0 : w11.cell? ⟨gb156, 0, none⟩ = some (.bool false) := (blk_cell BK156.out 0).trans rfl; have hcz14_1 : w11.cell? ⟨gb156, 1, none⟩ = some (.slice none 0 0) := (blk_cell BK156.out 1).trans rfl; have hfz14_0 := blk_frozen BK156.out 0; have hfz14_1 := blk_frozen BK156.out 1; have hcz15_0 : w11.cell? ⟨gb153, 0, none⟩ = some (.slice (some ad155) l0_0.length c0_0) := (blk_cell BK153.out 0).trans rfl; have hcz15_1 : w11.cell? ⟨gb153, 1, none⟩ = some (.int .i64 a0_1) := (blk_cell BK153.out 1).trans rfl; have hfz15_0 := blk_frozen BK153.out 0; have hfz15_1 := blk_frozen BK153.out 1; have p157 : 0 ≤ (a1 : Int) := of_decide_eq_true (by first | (with_reducible assumption) | assumption); have q157 : a1 < (l0_0.length : Int) := of_decide_eq_true (by first | (with_reducible assumption) | assumption); obtain ⟨ad157, A157_3, c157_3, e157, hx157_0, hx157_1, hx157_2, hx157_3, hl157_3, hi157_3⟩ := at_T38 HR0_0.out a1 p157 q157; obtain rfl : ad155 = ad157 := (by injection e157); have hn157_0 : ad155.block ≠ gb156 := Nat.ne_of_lt (Nat.lt_of_lt_of_le (by have := World.block_lt_of_cell? _ _ hx157_0; first | rwa [add_block] at this | exact this) GW156.out); have hn157_1 : ad155.block ≠ gb156 := Nat.ne_of_lt (Nat.lt_of_lt_of_le (by have := World.block_lt_of_cell? _ _ hx157_0; first | rwa [add_block] at this | exact this) GW156.out); replace hx157_0 := (HB.out.cell (World.block_lt_of_cell? w _ hx157_0)).trans hx157_0; replace hx157_1 := (HB.out.cell (World.block_lt_of_cell? w _ hx157_1)).trans hx157_1; replace hx157_2 := (HB.out.cell (World.block_lt_of_cell? w _ hx157_2)).trans hx157_2; replace hx157_3 := (HB.out.cell (World.block_lt_of_cell? w _ hx157_3)).trans hx157_3; have HR157_3 := Aside0.mk hi157_3; have HC157_3 := Aside0.mk hl157_3; clear hi157_3 hl157_3; replace hx157_0 := (cell_far (p := ⟨gb156, 0, none⟩) (by first | (rw [add_block]; exact hn157_0) | (show (Addr.add _ _).block ≠ _; rw [add_block]; exact hn157_0) | exact hn157_0) (.bool ((rd_T38 l0_0 a1).f2.f0))).trans hx157_0; replace hx157_1 := (cell_far (p := ⟨gb156, 0, none⟩) (by first | (rw [add_block]; exact hn157_0) | (show (Addr.add _ _).block ≠ _; rw [add_block]; exact hn157_0) | exact hn157_0) (.bool ((rd_T38 l0_0 a1).f2.f0))).trans hx157_1; replace hx157_2 := (cell_far (p := ⟨gb156, 0, none⟩) (by first | (rw [add_block]; exact hn157_0) | (show (Addr.add _ _).block ≠ _; rw [add_block]; exact hn157_0) | exact hn157_0) (.bool ((rd_T38 l0_0 a1).f2.f0))).trans hx157_2; replace hx157_3 := (cell_far (p := ⟨gb156, 0, none⟩) (by first | (rw [add_block]; exact hn157_0) | (show (Addr.add _ _).block ≠ _; rw [add_block]; exact hn157_0) | exact hn157_0) (.bool ((rd_T38 l0_0 a1).f2.f0))).trans hx157_3; replace hx157_0 := (cell_far (p := ⟨gb156, 1, none⟩) (by first | (rw [add_block]; exact hn157_1) | (show (Addr.add _ _).block ≠ _; rw [add_block]; exact hn157_1) | exact hn157_1) (.slice A155_3 ((rd_T38 l0_0 a1).f2.f1).length c155_3)).trans hx157_0; replace hx157_1 := (cell_far (p := ⟨gb156, 1, none⟩) (by first | (rw [add_block]; exact hn157_1) | (show (Addr.add _ _).block ≠ _; rw [add_block]; exact hn157_1) | exact hn157_1) (.slice A155_3 ((rd_T38 l0_0 a1).f2.f1).length c155_3)).trans hx157_1; replace hx157_2 := (cell_far (p := ⟨gb156, 1, none⟩) (by first | (rw [add_block]; exact hn157_1) | (show (Addr.add _ _).block ≠ _; rw [add_block]; exact hn157_1) | exact hn157_1) (.slice A155_3 ((rd_T38 l0_0 a1).f2.f1).length c155_3)).trans hx157_2; replace hx157_3 := (cell_far (p := ⟨gb156, 1, none⟩) (by first | (rw [add_block]; exact hn157_1) | (show (Addr.add _ _).block ≠ _; rw [add_block]; exact hn157_1) | exact hn157_1) (.slice A155_3 ((rd_T38 l0_0 a1).f2.f1).length c155_3)).trans hx157_3; clear hn157_0; clear hn157_1; replace p157 := eq_true p157; replace q157 := eq_true q157; have hcz16_0 : w11.cell? ⟨gb154, 0, none⟩ = some (.int .i64 0) := (blk_cell BK154.out 0).trans rfl; have hcz16_1 : w11.cell? ⟨gb154, 1, none⟩ = some (.int .i64 0) := (blk_cell BK154.out 1).trans rfl; have hcz16_2 : w11.cell? ⟨gb154, 2, none⟩ = some (.int .i64 0) := (blk_cell BK154.out 2).trans rfl; have hcz16_3 : w11.cell? ⟨gb154, 3, none⟩ = some (.bool false) := (blk_cell BK154.out 3).trans rfl; have hfz16_0 := blk_frozen BK154.out 0; have hfz16_1 := blk_frozen BK154.out 1; have hfz16_2 := blk_frozen BK154.out 2; have hfz16_3 := blk_frozen BK154.out 3))
    refine bodyPost_ret (results_cell_row rfl _ _ gb154 88 #[.int .i64 0, .int .i64 0, .int .i64 0, .bool false] (0, 0) _ rfl (by (with_reducible repeat (first | refine blk_drewN ?_ _ | refine blk_drew ?_ | refine blk_alloc ?_ _)); refine blk_put (cs := #[.int .i64 0, .int .i64 0, .int .i64 0, .bool false]) ?_ 3 _ rfl; (with_reducible repeat (first | refine blk_drewN ?_ _ | refine blk_drew ?_ | refine blk_alloc ?_ _)); refine blk_put (cs := #[.int .i64 0, .int .i64 0, .int .i64 0, .bool false]) ?_ 2 _ rfl; (with_reducible repeat (first | refine blk_drewN ?_ _ | refine blk_drew ?_ | refine blk_alloc ?_ _)); refine blk_put (cs := #[.int .i64 0, .int .i64 0, .int .i64 0, .bool false]) ?_ 1 _ rfl; (with_reducible repeat (first | refine blk_drewN ?_ _ | refine blk_drew ?_ | refine blk_alloc ?_ _)); refine blk_put (cs := #[.int .i64 0, .int .i64 0, .int .i64 0, .bool false]) ?_ 0 _ rfl; (with_reducible repeat (first | refine blk_drewN ?_ _ | refine blk_drew ?_ | refine blk_alloc ?_ _)); refine blk_far ?_ NB154_156.out _; (with_reducible repeat (first | refine blk_drewN ?_ _ | refine blk_drew ?_ | refine blk_alloc ?_ _)); refine blk_far ?_ NB154_156.out _; (with_reducible repeat (first | refine blk_drewN ?_ _ | refine blk_drew ?_ | refine blk_alloc ?_ _)); exact BK154.out) Try.underlying88 rfl (by kernel_rfl)) rfl ?_
    exact ⟨by first | rfl | (simp [errW_none, errW_some] <;> rfl) | (simp [*, errW_none, errW_some] <;> rfl), by repeat (first | (with_reducible first | exact HB.out | apply below_alloc | apply pw_below_drewN | apply below_drew1 | refine below_set ?_ GE153.out | refine below_set ?_ GE154.out | refine below_set ?_ GE156.out) | exact HB.out)⟩
   ·rw [if_neg c6] at H
    have c6b0 : decide (((rd_T38 l0_0 a1).f0) < 1) = false := decide_eq_false c6
    clear c6
    obtain ⟨bq17, hbq17⟩ : ∃ b_ : Bool, b_ = ((rd_T38 l0_0 a1).f2.f0) := ⟨_, rfl⟩
    replace H : (if bq17 = true then (if 0 < (((rd_T38 l0_0 a1).f2.f1).length : Int) then (if 0 ≤ (wrap64 ((((rd_T38 l0_0 a1).f2.f1).length : Int) - 1)) then (if (wrap64 ((((rd_T38 l0_0 a1).f2.f1).length : Int) - 1)) < (((rd_T38 l0_0 a1).f2.f1).length : Int) then (some ((rd_T46 ((rd_T38 l0_0 a1).f2.f1) 0).f0, (rd_T46 ((rd_T38 l0_0 a1).f2.f1) (wrap64 ((((rd_T38 l0_0 a1).f2.f1).length : Int) - 1))).f0, 1, decide (a2 ≥ 1))) else (none)) else (none)) else (none)) else (if a2 ≤ 1 then (some (0, 0, 0, false)) else (assartref07_below.l0 k a2 0 l0_0 a0_1 bq17 ((rd_T38 l0_0 a1).f2.f1) 0 0 0 false))) = some (r1, r2, r3, r4) := by rw [← hbq17] at H; exact H
    have Nbq17 := Aside0.mk hbq17
    clear hbq17
    by_cases c18 : bq17 = true
    ·subst c18
     have H1 : (if 0 < (((rd_T38 l0_0 a1).f2.f1).length : Int) then (if 0 ≤ (wrap64 ((((rd_T38 l0_0 a1).f2.f1).length : Int) - 1)) then (if (wrap64 ((((rd_T38 l0_0 a1).f2.f1).length : Int) - 1)) < (((rd_T38 l0_0 a1).f2.f1).length : Int) then (some ((rd_T46 ((rd_T38 l0_0 a1).f2.f1) 0).f0, (rd_T46 ((rd_T38 l0_0 a1).f2.f1) (wrap64 ((((rd_T38 l0_0 a1).f2.f1).length : Int) - 1))).f0, 1, decide (a2 ≥ 1))) else (none)) else (none)) else (none)) = some (r1, r2, r3, r4) := by rw [if_pos rfl] at H; exact H
     clear H
     have H := H1
     clear H1
     by_cases c19 : 0 < (((rd_T38 l0_0 a1).f2.f1).length : Int)
     ·rw [if_pos c19] at H
      have c19b0 : decide (0 < (((rd_T38 l0_0 a1).f2.f1).length : Int)) = true := decide_eq_true c19
      have c19b1 : decide (0 < ((rd_T38 l0_0 a1).f2.f1).length) = true := decide_eq_true (by omega)
      clear c19
      obtain ⟨ji20, hji20⟩ : ∃ j_ : Int, (wrap64 ((((rd_T38 l0_0 a1).f2.f1).length : Int) - 1)) = j_ := ⟨_, rfl⟩
      replace H : (if 0 ≤ (ji20) then (if (ji20) < (((rd_T38 l0_0 a1).f2.f1).length : Int) then (some ((rd_T46 ((rd_T38 l0_0 a1).f2.f1) 0).f0, (rd_T46 ((rd_T38 l0_0 a1).f2.f1) (ji20)).f0, 1, decide (a2 ≥ 1))) else (none)) else (none)) = some (r1, r2, r3, r4) := by first | (rw [hji20] at H; exact H) | (simp only [hji20] at H ⊢; exact H)
      have hji20w : (IntKind.i64.wrap ((((rd_T38 l0_0 a1).f2.f1).length : Int) - 1)) = ji20 := (i64_w _).trans hji20
      by_cases c21 : 0 ≤ (ji20)
      ·rw [if_pos c21] at H
       have c21b0 : decide (0 ≤ (ji20)) = true := decide_eq_true c21
       clear c21
       by_cases c22 : (ji20) < (((rd_T38 l0_0 a1).f2.f1).length : Int)
       ·rw [if_pos c22] at H
        have c22b0 : decide ((ji20) < (((rd_T38 l0_0 a1).f2.f1).length : Int)) = true := decide_eq_true c22
        clear c22
        simp only [Option.some.injEq, Prod.mk.injEq] at H
        obtain ⟨rfl, rfl, rfl, rfl⟩ := H
        go_enter Try.func46, Try.ntmps46
        try go_wp2_with (first | ((with_reducible refine gate_dst (N := 3) rfl ?_); refine box_event ?hg (N := 3) ?hd (cs := #[.slice A0_0 l0_0.length c0_0, .int .i64 a0_1]) (t := 24) ?hr ?_; (case hd => rfl); (case hg => rfl); (case hr => first | (go_simp; done) | (go_simp; rfl)); intro gb153 hg w23 hbox hb; have n0_ := Aside0.mk (below_step (by repeat (first | (with_reducible first | exact HB.out | apply below_alloc | apply pw_below_drewN | apply below_drew1) | exact HB.out)) hb); have n1_ := Aside0.mk (hbox); have n2_ := Aside0.mk ((by rw [hg]; exact (below_size (by repeat (first | (with_reducible first | exact HB.out | apply below_alloc | apply pw_below_drewN | apply below_drew1) | exact HB.out))) : w.heap.size ≤ gb153)); have n3_ := Aside0.mk ((by rw [hg]; exact (below_size (by repeat (first | (with_reducible first | exact HB.out | apply below_alloc | apply pw_below_drewN | apply below_drew1) | exact HB.out))) : w.heap.size ≤ gb153)); clear HB; have HB := n0_; have BK153 := n1_; have GW153 := n2_; have GE153 := n3_; clear n0_ n1_ n2_ n3_; clear hb hbox hg) | ((with_reducible refine gate_dst (N := 6) rfl ?_); refine box_event ?hg (N := 6) ?hd (cs := #[.int .i64 0, .int .i64 0, .int .i64 0, .bool false]) (t := 88) ?hr ?_; (case hd => rfl); (case hg => rfl); (case hr => first | (go_simp; done) | (go_simp; rfl)); intro gb154 hg w24 hbox hb; have n0_ := Aside0.mk (blk_below (g := gb153) (o := .cells #[.slice A0_0 l0_0.length c0_0, .int .i64 a0_1] 24 (0, 0)) (by (with_reducible repeat (first | refine blk_drewN ?_ _ | refine blk_drew ?_ | refine blk_alloc ?_ _)); exact BK153.out) hb); have n1_ := Aside0.mk (below_step (by repeat (first | (with_reducible first | exact HB.out | apply below_alloc | apply pw_below_drewN | apply below_drew1 | refine below_set ?_ GE153.out) | exact HB.out)) hb); have n2_ := Aside0.mk (hbox); have n3_ := Aside0.mk ((by rw [hg]; exact (below_size (by repeat (first | (with_reducible first | exact HB.out | apply below_alloc | apply pw_below_drewN | apply below_drew1 | refine below_set ?_ GE153.out) | exact HB.out))) : w.heap.size ≤ gb154)); have n4_ := Aside0.mk ((by rw [hg]; exact (below_size (by repeat (first | (with_reducible first | exact HB.out | apply below_alloc | apply pw_below_drewN | apply below_drew1 | refine below_set ?_ GE153.out) | exact HB.out))) : w.heap.size ≤ gb154)); have n5_ := Aside0.mk ((by rw [hg]; exact Nat.ne_of_lt (blk_lt (g := gb153) (o := .cells #[.slice A0_0 l0_0.length c0_0, .int .i64 a0_1] 24 (0, 0)) (by (with_reducible repeat (first | refine blk_drewN ?_ _ | refine blk_drew ?_ | refine blk_alloc ?_ _)); exact BK153.out)) : gb153 ≠ gb154)); have n6_ := Aside0.mk ((by rw [hg]; exact Nat.ne_of_gt (blk_lt (g := gb153) (o := .cells #[.slice A0_0 l0_0.length c0_0, .int .i64 a0_1] 24 (0, 0)) (by (with_reducible repeat (first | refine blk_drewN ?_ _ | refine blk_drew ?_ | refine blk_alloc ?_ _)); exact BK153.out)) : gb154 ≠ gb153)); clear BK153; clear HB; have BK153 := n0_; have HB := n1_; have BK154 := n2_; have GW154 := n3_; have GE154 := n4_; have NB153_154 := n5_; have NB154_153 := n6_; clear n0_ n1_ n2_ n3_ n4_ n5_ n6_; clear hb hbox hg; have hnb25 := NB153_154.out; have hnc25 := NB154_153.out; have hcz26_0 : w24.cell? ⟨gb153, 0, none⟩ = some (.slice A0_0 l0_0.length c0_0) := (blk_cell BK153.out 0).trans rfl; have hcz26_1 : w24.cell? ⟨gb153, 1, none⟩ = some (.int .i64 a0_1) := (blk_cell BK153.out 1).trans rfl; have hfz26_0 := blk_frozen BK153.out 0; have hfz26_1 := blk_frozen BK153.out 1; have p155 : 0 ≤ (a1 : Int) := of_decide_eq_true (by first | (with_reducible assumption) | assumption); have q155 : a1 < (l0_0.length : Int) := of_decide_eq_true (by first | (with_reducible assumption) | assumption); obtain ⟨ad155, A155_3, c155_3, e155, hx155_0, hx155_1, hx155_2, hx155_3, hl155_3, hi155_3⟩ := at_T38 HR0_0.out a1 p155 q155; (try rw [← Nbq17.out] at hx155_1); (try rw [← Nbq17.out] at hx155_2); cases e155; replace hx155_0 := (HB.out.cell (World.block_lt_of_cell? w _ hx155_0)).trans hx155_0; replace hx155_1 := (HB.out.cell (World.block_lt_of_cell? w _ hx155_1)).trans hx155_1; replace hx155_2 := (HB.out.cell (World.block_lt_of_cell? w _ hx155_2)).trans hx155_2; replace hx155_3 := (HB.out.cell (World.block_lt_of_cell? w _ hx155_3)).trans hx155_3; have HR155_3 := Aside0.mk hi155_3; have HC155_3 := Aside0.mk hl155_3; clear hi155_3 hl155_3; replace p155 := eq_true p155; replace q155 := eq_true q155) | ((with_reducible refine gate_dst (N := 7) rfl ?_); refine box_event ?hg (N := 7) ?hd (cs := #[.bool false, .slice none 0 0]) (t := 36) ?hr ?_; (case hd => rfl); (case hg => rfl); (case hr => first | (go_simp; done) | (go_simp; rfl)); intro gb156 hg w27 hbox hb; have n0_ := Aside0.mk (blk_below (g := gb153) (o := .cells #[.slice (some ad155) l0_0.length c0_0, .int .i64 a0_1] 24 (0, 0)) (by (with_reducible repeat (first | refine blk_drewN ?_ _ | refine blk_drew ?_ | refine blk_alloc ?_ _)); exact BK153.out) hb); have n1_ := Aside0.mk (blk_below (g := gb154) (o := .cells #[.int .i64 0, .int .i64 0, .int .i64 0, .bool false] 88 (0, 0)) (by (with_reducible repeat (first | refine blk_drewN ?_ _ | refine blk_drew ?_ | refine blk_alloc ?_ _)); exact BK154.out) hb); have n2_ := Aside0.mk (below_step (by repeat (first | (with_reducible first | exact HB.out | apply below_alloc | apply pw_below_drewN | apply below_drew1 | refine below_set ?_ GE153.out | refine below_set ?_ GE154.out) | exact HB.out)) hb); have n3_ := Aside0.mk (hbox); have n4_ := Aside0.mk ((by rw [hg]; exact (below_size (by repeat (first | (with_reducible first | exact HB.out | apply below_alloc | apply pw_below_drewN | apply below_drew1 | refine below_set ?_ GE153.out | refine below_set ?_ GE154.out) | exact HB.out))) : w.heap.size ≤ gb156)); have n5_ := Aside0.mk ((by rw [hg]; exact (below_size (by repeat (first | (with_reducible first | exact HB.out | apply below_alloc | apply pw_below_drewN | apply below_drew1 | refine below_set ?_ GE153.out | refine below_set ?_ GE154.out) | exact HB.out))) : w.heap.size ≤ gb156)); have n6_ := Aside0.mk ((by rw [hg]; exact Nat.ne_of_lt (blk_lt (g := gb153) (o := .cells #[.slice (some ad155) l0_0.length c0_0, .int .i64 a0_1] 24 (0, 0)) (by (with_reducible repeat (first | refine blk_drewN ?_ _ | refine blk_drew ?_ | refine blk_alloc ?_ _)); exact BK153.out)) : gb153 ≠ gb156)); have n7_ := Aside0.mk ((by rw [hg]; exact Nat.ne_of_gt (blk_lt (g := gb153) (o := .cells #[.slice (some ad155) l0_0.length c0_0, .int .i64 a0_1] 24 (0, 0)) (by (with_reducible repeat (first | refine blk_drewN ?_ _ | refine blk_drew ?_ | refine blk_alloc ?_ _)); exact BK153.out)) : gb156 ≠ gb153)); have n8_ := Aside0.mk ((by rw [hg]; exact Nat.ne_of_lt (blk_lt (g := gb154) (o := .cells #[.int .i64 0, .int .i64 0, .int .i64 0, .bool false] 88 (0, 0)) (by (with_reducible repeat (first | refine blk_drewN ?_ _ | refine blk_drew ?_ | refine blk_alloc ?_ _)); exact BK154.out)) : gb154 ≠ gb156)); have n9_ := Aside0.mk ((by rw [hg]; exact Nat.ne_of_gt (blk_lt (g := gb154) (o := .cells #[.int .i64 0, .int .i64 0, .int .i64 0, .bool false] 88 (0, 0)) (by (with_reducible repeat (first | refine blk_drewN ?_ _ | refine blk_drew ?_ | refine blk_alloc ?_ _)); exact BK154.out)) : gb156 ≠ gb154)); clear BK153; clear BK154; clear HB; have BK153 := n0_; have BK154 := n1_; have HB := n2_; have BK156 := n3_; have GW156 := n4_; have GE156 := n5_; have NB153_156 := n6_; have NB156_153 := n7_; have NB154_156 := n8_; have NB156_154 := n9_; clear n0_ n1_ n2_ n3_ n4_ n5_ n6_ n7_ n8_ n9_; clear hb hbox hg; have hnb28 := NB156_153.out; have hnc28 := NB153_156.out; have hnb29 := NB156_154.out; have hnc29 := NB154_156.out; have hcz30_0 : w27.cell? ⟨gb156, 0, none⟩ = some (.bool false) := (blk_cell BK156.out 0).trans rfl; have hcz30_1 : w27.cell? ⟨gb156, 1, none⟩ = some (.slice none 0 0) := (blk_cell BK156.out 1).trans rfl; have hfz30_0 := blk_frozen BK156.out 0; have hfz30_1 := blk_frozen BK156.out 1; have hcz31_0 : w27.cell? ⟨gb153, 0, none⟩ = some (.slice (some ad155) l0_0.length c0_0) := (blk_cell BK153.out 0).trans rfl; have hcz31_1 : w27.cell? ⟨gb153, 1, none⟩ = some (.int .i64 a0_1) := (blk_cell BK153.out 1).trans rfl; have hfz31_0 := blk_frozen BK153.out 0; have hfz31_1 := blk_frozen BK153.out 1; have p157 : 0 ≤ (a1 : Int) := of_decide_eq_true (by first | (with_reducible assumption) | assumption); have q157 : a1 < (l0_0.length : Int) := of_decide_eq_true (by first | (with_reducible assumption) | assumption); obtain ⟨ad157, A157_3, c157_3, e157, hx157_0, hx157_1, hx157_2, hx157_3, hl157_3, hi157_3⟩ := at_T38 HR0_0.out a1 p157 q157; (try rw [← Nbq17.out] at hx157_1); (try rw [← Nbq17.out] at hx157_2); obtain rfl : ad155 = ad157 := (by injection e157); have hn157_0 : ad155.block ≠ gb156 := Nat.ne_of_lt (Nat.lt_of_lt_of_le (by have := World.block_lt_of_cell? _ _ hx157_0; first | rwa [add_block] at this | exact this) GW156.out); have hn157_1 : ad155.block ≠ gb156 := Nat.ne_of_lt (Nat.lt_of_lt_of_le (by have := World.block_lt_of_cell? _ _ hx157_0; first | rwa [add_block] at this | exact this) GW156.out); replace hx157_0 := (HB.out.cell (World.block_lt_of_cell? w _ hx157_0)).trans hx157_0; replace hx157_1 := (HB.out.cell (World.block_lt_of_cell? w _ hx157_1)).trans hx157_1; replace hx157_2 := (HB.out.cell (World.block_lt_of_cell? w _ hx157_2)).trans hx157_2; replace hx157_3 := (HB.out.cell (World.block_lt_of_cell? w _ hx157_3)).trans hx157_3; have HR157_3 := Aside0.mk hi157_3; have HC157_3 := Aside0.mk hl157_3; clear hi157_3 hl157_3; replace hx157_0 := (cell_far (p := ⟨gb156, 0, none⟩) (by first | (rw [add_block]; exact hn157_0) | (show (Addr.add _ _).block ≠ _; rw [add_block]; exact hn157_0) | exact hn157_0) (.bool true)).trans hx157_0; replace hx157_1 := (cell_far (p := ⟨gb156, 0, none⟩) (by first | (rw [add_block]; exact hn157_0) | (show (Addr.add _ _).block ≠ _; rw [add_block]; exact hn157_0) | exact hn157_0) (.bool true)).trans hx157_1; replace hx157_2 := (cell_far (p := ⟨gb156, 0, none⟩) (by first | (rw [add_block]; exact hn157_0) | (show (Addr.add _ _).block ≠ _; rw [add_block]; exact hn157_0) | exact hn157_0) (.bool true)).trans hx157_2; replace hx157_3 := (cell_far (p := ⟨gb156, 0, none⟩) (by first | (rw [add_block]; exact hn157_0) | (show (Addr.add _ _).block ≠ _; rw [add_block]; exact hn157_0) | exact hn157_0) (.bool true)).trans hx157_3; replace hx157_0 := (cell_far (p := ⟨gb156, 1, none⟩) (by first | (rw [add_block]; exact hn157_1) | (show (Addr.add _ _).block ≠ _; rw [add_block]; exact hn157_1) | exact hn157_1) (.slice A155_3 ((rd_T38 l0_0 a1).f2.f1).length c155_3)).trans hx157_0; replace hx157_1 := (cell_far (p := ⟨gb156, 1, none⟩) (by first | (rw [add_block]; exact hn157_1) | (show (Addr.add _ _).block ≠ _; rw [add_block]; exact hn157_1) | exact hn157_1) (.slice A155_3 ((rd_T38 l0_0 a1).f2.f1).length c155_3)).trans hx157_1; replace hx157_2 := (cell_far (p := ⟨gb156, 1, none⟩) (by first | (rw [add_block]; exact hn157_1) | (show (Addr.add _ _).block ≠ _; rw [add_block]; exact hn157_1) | exact hn157_1) (.slice A155_3 ((rd_T38 l0_0 a1).f2.f1).length c155_3)).trans hx157_2; replace hx157_3 := (cell_far (p := ⟨gb156, 1, none⟩) (by first | (rw [add_block]; exact hn157_1) | (show (Addr.add _ _).block ≠ _; rw [add_block]; exact hn157_1) | exact hn157_1) (.slice A155_3 ((rd_T38 l0_0 a1).f2.f1).length c155_3)).trans hx157_3; clear hn157_0; clear hn157_1; replace p157 := eq_true p157; replace q157 := eq_true q157))
        have n0_ : Aside0 (((w27.setCell ⟨gb156, 0, none⟩ (.bool true)).setCell ⟨gb156, 1, none⟩ (.slice A155_3 ((rd_T38 l0_0 a1).f2.f1).length c155_3)).heap[gb153]? = some (.cells #[.slice (some ad155) l0_0.length c0_0, .int .i64 a0_1] 24 (0, 0))) := ⟨by (with_reducible repeat (first | refine blk_drewN ?_ _ | refine blk_drew ?_ | refine blk_alloc ?_ _)); refine blk_far ?_ NB153_156.out _; (with_reducible repeat (first | refine blk_drewN ?_ _ | refine blk_drew ?_ | refine blk_alloc ?_ _)); refine blk_far ?_ NB153_156.out _; (with_reducible repeat (first | refine blk_drewN ?_ _ | refine blk_drew ?_ | refine blk_alloc ?_ _)); exact BK153.out⟩
        have n1_ : Aside0 (((w27.setCell ⟨gb156, 0, none⟩ (.bool true)).setCell ⟨gb156, 1, none⟩ (.slice A155_3 ((rd_T38 l0_0 a1).f2.f1).length c155_3)).heap[gb154]? = some (.cells #[.int .i64 0, .int .i64 0, .int .i64 0, .bool false] 88 (0, 0))) := ⟨by (with_reducible repeat (first | refine blk_drewN ?_ _ | refine blk_drew ?_ | refine blk_alloc ?_ _)); refine blk_far ?_ NB154_156.out _; (with_reducible repeat (first | refine blk_drewN ?_ _ | refine blk_drew ?_ | refine blk_alloc ?_ _)); refine blk_far ?_ NB154_156.out _; (with_reducible repeat (first | refine blk_drewN ?_ _ | refine blk_drew ?_ | refine blk_alloc ?_ _)); exact BK154.out⟩
        have n2_ : Aside0 (((w27.setCell ⟨gb156, 0, none⟩ (.bool true)).setCell ⟨gb156, 1, none⟩ (.slice A155_3 ((rd_T38 l0_0 a1).f2.f1).length c155_3)).heap[gb156]? = some (.cells #[.bool true, .slice A155_3 ((rd_T38 l0_0 a1).f2.f1).length c155_3] 36 (0, 0))) := ⟨by (with_reducible repeat (first | refine blk_drewN ?_ _ | refine blk_drew ?_ | refine blk_alloc ?_ _)); refine blk_put (cs := #[.bool true, .slice none 0 0]) ?_ 1 _ rfl; (with_reducible repeat (first | refine blk_drewN ?_ _ | refine blk_drew ?_ | refine blk_alloc ?_ _)); refine blk_put (cs := #[.bool false, .slice none 0 0]) ?_ 0 _ rfl; (with_reducible repeat (first | refine blk_drewN ?_ _ | refine blk_drew ?_ | refine blk_alloc ?_ _)); exact BK156.out⟩
        have n3_ : Aside0 (Below w.heap.size w ((w27.setCell ⟨gb156, 0, none⟩ (.bool true)).setCell ⟨gb156, 1, none⟩ (.slice A155_3 ((rd_T38 l0_0 a1).f2.f1).length c155_3))) := ⟨by repeat (first | (with_reducible first | exact HB.out | apply below_alloc | apply pw_below_drewN | apply below_drew1 | refine below_set ?_ GE153.out | refine below_set ?_ GE154.out | refine below_set ?_ GE156.out) | exact HB.out)⟩
        (try clear BK153)
        (try clear BK154)
        (try clear BK156)
        (try clear HB)
        generalize ((w27.setCell ⟨gb156, 0, none⟩ (.bool true)).setCell ⟨gb156, 1, none⟩ (.slice A155_3 ((rd_T38 l0_0 a1).f2.f1).length c155_3)) = w32 at n0_ n1_ n2_ n3_ ⊢
        have BK153 := n0_
        have BK154 := n1_
        have BK156 := n2_
        have HB := n3_
        clear n0_ n1_ n2_ n3_
        have n0_ := Aside0.mk (blk_drew BK153.out)
        have n1_ := Aside0.mk (blk_drew BK154.out)
        have n2_ := Aside0.mk (blk_drew BK156.out)
        have n3_ := Aside0.mk (below_drew1 HB.out)
        clear BK153
        clear BK154
        clear BK156
        clear HB
        have BK153 := n0_
        have BK154 := n1_
        have BK156 := n2_
        have HB := n3_
        clear n0_ n1_ n2_ n3_
        have p158 : 0 ≤ (0 : Int) := (by omega)
        have q158 : 0 < (((rd_T38 l0_0 a1).f2.f1).length : Int) := of_decide_eq_true (by first | (with_reducible assumption) | assumption)
        obtain ⟨ad158, e158, hx158_0, hx158_1⟩ := at_T46 HR155_3.out 0 p158 q158
        have hw158_1 := hx158_1
        (try rw [show ((0 : Int)).toNat = 0 from rfl] at hw158_1)
        (try rw [show 0 * 2 = 0 from rfl] at hw158_1)
        (try rw [Addr.add_zero'] at hw158_1)
        have hw158_0 := hx158_0
        (try rw [show ((0 : Int)).toNat = 0 from rfl] at hw158_0)
        (try rw [show 0 * 2 = 0 from rfl] at hw158_0)
        (try rw [Addr.add_zero'] at hw158_0)
        cases e158
        have qi158 : (0 < ((rd_T38 l0_0 a1).f2.f1).length) = True := eq_true (by omega)
        (try rw [show ((0 : Int)).toNat = 0 from rfl] at hx158_0)
        (try rw [show 0 * 2 = 0 from rfl] at hx158_0)
        (try rw [Addr.add_zero'] at hx158_0)
        (try rw [show ((0 : Int)).toNat = 0 from rfl] at hx158_1)
        (try rw [show 0 * 2 = 0 from rfl] at hx158_1)
        (try rw [Addr.add_zero'] at hx158_1)
        replace hx158_0 := (HB.out.cell (World.block_lt_of_cell? w _ hx158_0)).trans hx158_0
        replace hx158_1 := (HB.out.cell (World.block_lt_of_cell? w _ hx158_1)).trans hx158_1
        replace p158 := eq_true p158
        replace q158 := eq_true q158
        have p159 : 0 ≤ ((ji20) : Int) := of_decide_eq_true (by first | (with_reducible assumption) | assumption)
        have q159 : (ji20) < (((rd_T38 l0_0 a1).f2.f1).length : Int) := of_decide_eq_true (by first | (with_reducible assumption) | assumption)
        obtain ⟨ad159, e159, hx159_0, hx159_1⟩ := at_T46 HR155_3.out (ji20) p159 q159
        have hw159_1 := hx159_1
        have hw159_0 := hx159_0
        obtain rfl : ad158 = ad159 := (by injection e159)
        replace hx159_0 := (HB.out.cell (World.block_lt_of_cell? w _ hx159_0)).trans hx159_0
        replace hx159_1 := (HB.out.cell (World.block_lt_of_cell? w _ hx159_1)).trans hx159_1
        replace p159 := eq_true p159
        replace q159 := eq_true q159
        refine start_ (n := 18) (S := fun w' => w'.cell? ⟨gb156, 0, none⟩ = some (.bool true) ∧ w'.cell? ⟨gb156, 1, none⟩ = some (.slice (some ad158) ((rd_T38 l0_0 a1).f2.f1).length c155_3) ∧ w'.cell? ad158 = some (.int .i64 ((rd_T46 ((rd_T38 l0_0 a1).f2.f1) 0).f0)) ∧ w'.cell? ⟨ad158.block, ad158.off + 1, none⟩ = some (.int .i64 ((rd_T46 ((rd_T38 l0_0 a1).f2.f1) 0).f1)) ∧ w'.cell? (ad158.add (((ji20)).toNat * 2)) = some (.int .i64 ((rd_T46 ((rd_T38 l0_0 a1).f2.f1) (ji20)).f0)) ∧ w'.cell? ⟨(ad158.add (((ji20)).toNat * 2)).block, (ad158.add (((ji20)).toNat * 2)).off + 1, none⟩ = some (.int .i64 ((rd_T46 ((rd_T38 l0_0 a1).f2.f1) (ji20)).f1))) (ds := []) #[false, false, false, false, false, false, false, false, false, false, false, false, false, false, false, false, false, false] (by kernel_rfl) rfl rfl ⟨(blk_cell BK156.out 0).trans rfl, (blk_cell BK156.out 1).trans rfl, ((HB.out.cell (World.block_lt_of_cell? w _ hw158_0)).trans hw158_0), ((HB.out.cell (World.block_lt_of_cell? w _ hw158_1)).trans hw158_1), ((HB.out.cell (World.block_lt_of_cell? w _ hw159_0)).trans hw159_0), ((HB.out.cell (World.block_lt_of_cell? w _ hw159_1)).trans hw159_1)⟩ (fun hHeld => ?_); refine with_tabW assartref07_below.tab5 assartref07_below.bits5 (fun HT_ HW_ => ?_)
        generalize w32.drew = w33 at BK153 BK154 BK156 HB hx158_0 hx158_1 hx159_0 hx159_1 hHeld ⊢
        refine pure_ (i := 0) (N := some 27) (v := ?_) (a' := ?_) #[true, false, false, false, false, false, false, false, false, false, false, false, false, false, false, false, false, false] rfl rfl (any_of HT_.out (by kernel_rfl)) (fun _ _ _ h => h) (Or.inl ⟨by rfl, ?_⟩) ?_ ?_
        rotate_left
        ·intro w'
         go_simp
         with_reducible rfl
        rotate_left
        ·simp only [Act.put, List.setIfInBounds_toArray, List.set_cons_zero, List.set_cons_succ, i64_w, i32_w]
         rfl
        refine pure_ (i := 5) (N := some 32) (v := ?_) (a' := ?_) #[true, false, false, false, false, true, false, false, false, false, false, false, false, false, false, false, false, false] rfl rfl (any_of HT_.out (by kernel_rfl)) (fun _ _ _ h => h) (Or.inl ⟨by rfl, ?_⟩) ?_ ?_
        rotate_left
        ·intro w'
         go_simp
         with_reducible rfl
        rotate_left
        ·simp only [Act.put, List.setIfInBounds_toArray, List.set_cons_zero, List.set_cons_succ, i64_w, i32_w]
         rfl
        refine pure_ (i := 7) (N := some 34) (v := ?_) (a' := ?_) #[true, false, false, false, false, true, false, true, false, false, false, false, false, false, false, false, false, false] rfl rfl (any_of HT_.out (by kernel_rfl)) (fun _ _ _ h => h) (Or.inl ⟨by rfl, ?_⟩) ?_ ?_
        rotate_left
        ·intro w'
         go_simp
         with_reducible rfl
        rotate_left
        ·simp only [Act.put, List.setIfInBounds_toArray, List.set_cons_zero, List.set_cons_succ, i64_w, i32_w]
         rfl
        refine pure_ (i := 14) (N := some 41) (v := ?_) (a' := ?_) #[true, false, false, false, false, true, false, true, false, false, false, false, false, false, true, false, false, false] rfl rfl (any_of HT_.out (by kernel_rfl)) (fun _ _ _ h => h) (Or.inl ⟨by rfl, ?_⟩) ?_ ?_
        rotate_left
        ·intro w'
         go_simp
         with_reducible rfl
        rotate_left
        ·simp only [Act.put, List.setIfInBounds_toArray, List.set_cons_zero, List.set_cons_succ, i64_w, i32_w]
         rfl
        refine pure_ (i := 15) (N := some 42) (v := ?_) (a' := ?_) #[true, false, false, false, false, true, false, true, false, false, false, false, false, false, true, true, false, false] rfl rfl (any_of HT_.out (by kernel_rfl)) (fun _ _ _ h => h) (Or.inl ⟨by rfl, ?_⟩) ?_ ?_
        rotate_left
        ·intro w'
         go_simp
         with_reducible rfl
        rotate_left
        ·simp only [Act.put, List.setIfInBounds_toArray, List.set_cons_zero, List.set_cons_succ, i64_w, i32_w]
         rfl
        refine take_ (i := 1) (N := some 28) (v := ?_) (a' := ?_) #[true, true, false, false, false, true, false, true, false, false, false, false, false, false, true, true, false, false] rfl rfl (take_ofW HT_.out HW_.out (by kernel_rfl)) (fun _ _ _ h => h) (Or.inl ⟨by rfl, ?_⟩) hHeld ?_ ?_
        rotate_left
        ·rintro w' ⟨s0, s1, s2, s3, s4, s5⟩
         go_simp
         with_reducible rfl
        rotate_left
        ·simp only [Act.put, List.setIfInBounds_toArray, List.set_cons_zero, List.set_cons_succ, i64_w, i32_w]
         rfl
        refine pure_ (i := 2) (N := some 29) (v := ?_) (a' := ?_) #[true, true, true, false, false, true, false, true, false, false, false, false, false, false, true, true, false, false] rfl rfl (any_of HT_.out (by kernel_rfl)) (fun _ _ _ h => h) (Or.inl ⟨by rfl, ?_⟩) ?_ ?_
        rotate_left
        ·intro w'
         go_simp
         with_reducible rfl
        rotate_left
        ·simp only [Act.put, List.setIfInBounds_toArray, List.set_cons_zero, List.set_cons_succ, i64_w, i32_w]
         rfl
        refine pure_ (i := 3) (N := some 30) (v := ?_) (a' := ?_) #[true, true, true, true, false, true, false, true, false, false, false, false, false, false, true, true, false, false] rfl rfl (any_of HT_.out (by kernel_rfl)) (fun _ _ _ h => h) (Or.inl ⟨by rfl, ?_⟩) ?_ ?_
        rotate_left
        ·intro w'
         go_simp
         with_reducible rfl
        rotate_left
        ·simp only [Act.put, List.setIfInBounds_toArray, List.set_cons_zero, List.set_cons_succ, i64_w, i32_w]
         rfl
        refine take_ (i := 4) (N := some 31) (v := ?_) (a' := ?_) #[true, true, true, true, true, true, false, true, false, false, false, false, false, false, true, true, false, false] rfl rfl (take_ofW HT_.out HW_.out (by kernel_rfl)) (fun _ _ _ h => h) (Or.inl ⟨by rfl, ?_⟩) hHeld ?_ ?_
        rotate_left
        ·rintro w' ⟨s0, s1, s2, s3, s4, s5⟩
         go_simp
         with_reducible rfl
        rotate_left
        ·simp only [Act.put, List.setIfInBounds_toArray, List.set_cons_zero, List.set_cons_succ, i64_w, i32_w]
         rfl
        refine take_ (i := 6) (N := some 33) (v := ?_) (a' := ?_) #[true, true, true, true, true, true, true, true, false, false, false, false, false, false, true, true, false, false] rfl rfl (take_ofW HT_.out HW_.out (by kernel_rfl)) (fun _ _ _ h => h) (Or.inl ⟨by rfl, ?_⟩) hHeld ?_ ?_
        rotate_left
        ·rintro w' ⟨s0, s1, s2, s3, s4, s5⟩
         go_simp
         with_reducible rfl
        rotate_left
        ·simp only [Act.put, List.setIfInBounds_toArray, List.set_cons_zero, List.set_cons_succ, i64_w, i32_w]
         rfl
        refine take_ (i := 8) (N := some 35) (v := ?_) (a' := ?_) #[true, true, true, true, true, true, true, true, true, false, false, false, false, false, true, true, false, false] rfl rfl (take_ofW HT_.out HW_.out (by kernel_rfl)) (fun _ _ _ h => h) (Or.inl ⟨by rfl, ?_⟩) hHeld ?_ ?_
        rotate_left
        ·rintro w' ⟨s0, s1, s2, s3, s4, s5⟩
         go_simp
         with_reducible rfl
        rotate_left
        ·simp only [Act.put, List.setIfInBounds_toArray, List.set_cons_zero, List.set_cons_succ, i64_w, i32_w]
         rfl
        refine pure_ (i := 9) (N := some 36) (v := ?_) (a' := ?_) #[true, true, true, true, true, true, true, true, true, true, false, false, false, false, true, true, false, false] rfl rfl (any_of HT_.out (by kernel_rfl)) (fun _ _ _ h => h) (Or.inl ⟨by rfl, ?_⟩) ?_ ?_
        rotate_left
        ·intro w'
         go_simp
         with_reducible rfl
        rotate_left
        ·simp only [Act.put, List.setIfInBounds_toArray, List.set_cons_zero, List.set_cons_succ, i64_w, i32_w]
         rfl
        refine pure_ (i := 10) (N := some 37) (v := ?_) (a' := ?_) #[true, true, true, true, true, true, true, true, true, true, true, false, false, false, true, true, false, false] rfl rfl (any_of HT_.out (by kernel_rfl)) (fun _ _ _ h => h) (Or.inl ⟨by rfl, ?_⟩) ?_ ?_
        rotate_left
        ·intro w'
         go_simp
         with_reducible rfl
        rotate_left
        ·simp only [Act.put, List.setIfInBounds_toArray, List.set_cons_zero, List.set_cons_succ, i64_w, i32_w]
         rfl
        refine pure_ (i := 11) (N := some 38) (v := ?_) (a' := ?_) #[true, true, true, true, true, true, true, true, true, true, true, true, false, false, true, true, false, false] rfl rfl (any_of HT_.out (by kernel_rfl)) (fun _ _ _ h => h) (Or.inl ⟨by rfl, ?_⟩) ?_ ?_
        rotate_left
        ·intro w'
         go_simp
         with_reducible rfl
        rotate_left
        ·simp only [Act.put, List.setIfInBounds_toArray, List.set_cons_zero, List.set_cons_succ, i64_w, i32_w]
         rfl
        refine pure_ (i := 12) (N := some 39) (v := ?_) (a' := ?_) #[true, true, true, true, true, true, true, true, true, true, true, true, true, false, true, true, false, false] rfl rfl (any_of HT_.out (by kernel_rfl)) (fun _ _ _ h => h) (Or.inl ⟨by rfl, ?_⟩) ?_ ?_
        rotate_left
        ·intro w'
         go_simp
         with_reducible rfl
        rotate_left
        ·simp only [Act.put, List.setIfInBounds_toArray, List.set_cons_zero, List.set_cons_succ, i64_w, i32_w]
         rfl
        refine take_ (i := 13) (N := some 40) (v := ?_) (a' := ?_) #[true, true, true, true, true, true, true, true, true, true, true, true, true, true, true, true, false, false] rfl rfl (take_ofW HT_.out HW_.out (by kernel_rfl)) (fun _ _ _ h => h) (Or.inl ⟨by rfl, ?_⟩) hHeld ?_ ?_
        rotate_left
        ·rintro w' ⟨s0, s1, s2, s3, s4, s5⟩
         go_simp
         with_reducible rfl
        rotate_left
        ·simp only [Act.put, List.setIfInBounds_toArray, List.set_cons_zero, List.set_cons_succ, i64_w, i32_w]
         rfl
        refine pure_ (i := 16) (N := some 43) (v := ?_) (a' := ?_) #[true, true, true, true, true, true, true, true, true, true, true, true, true, true, true, true, true, false] rfl rfl (any_of HT_.out (by kernel_rfl)) (fun _ _ _ h => h) (Or.inl ⟨by rfl, ?_⟩) ?_ ?_
        rotate_left
        ·intro w'
         go_simp
         with_reducible rfl
        rotate_left
        ·simp only [Act.put, List.setIfInBounds_toArray, List.set_cons_zero, List.set_cons_succ, i64_w, i32_w]
         rfl
        refine one_ (i := 17) (N := none) #[true, true, true, true, true, true, true, true, true, true, true, true, true, true, true, true, true, true] rfl rfl (one_of HT_.out (by kernel_rfl)) (by decide) (fun K hK => ?_)
        have hs34 : w33.cell? ⟨gb154, 0, none⟩ = some (.int .i64 0) := (blk_cell BK154.out 0).trans rfl
        have hfs34 := blk_frozen BK154.out 0
        have hns34_0 := NB153_154.out
        have hns34_2 := NB156_154.out
        have hms34_0 := NB154_153.out
        have hms34_2 := NB154_156.out
        have hs35 : w33.cell? ⟨gb154, 1, none⟩ = some (.int .i64 0) := (blk_cell BK154.out 1).trans rfl
        have hfs35 := blk_frozen BK154.out 1
        have hns35_0 := NB153_154.out
        have hns35_2 := NB156_154.out
        have hms35_0 := NB154_153.out
        have hms35_2 := NB154_156.out
        have hs36 : w33.cell? ⟨gb154, 2, none⟩ = some (.int .i64 0) := (blk_cell BK154.out 2).trans rfl
        have hfs36 := blk_frozen BK154.out 2
        have hns36_0 := NB153_154.out
        have hns36_2 := NB156_154.out
        have hms36_0 := NB154_153.out
        have hms36_2 := NB154_156.out
        have hs37 : w33.cell? ⟨gb154, 3, none⟩ = some (.bool false) := (blk_cell BK154.out 3).trans rfl
        have hfs37 := blk_frozen BK154.out 3
        have hns37_0 := NB153_154.out
        have hns37_2 := NB156_154.out
        have hms37_0 := NB154_153.out
        have hms37_2 := NB154_156.out
        refine skip_ (w1 := ?_) (by rfl) rfl ?_ ?_
        rotate_left
        ·go_simp
         rfl
        refine hK.out _ _ ⟨((cell_far (p := ⟨gb154, _, none⟩) NB156_154.out _).trans (((cell_far (p := ⟨gb154, _, none⟩) NB156_154.out _).trans (((cell_far (p := ⟨gb154, _, none⟩) NB156_154.out _).trans (((cell_far (p := ⟨gb154, _, none⟩) NB156_154.out _).trans (hHeld.1)))))))), ((cell_far (p := ⟨gb154, _, none⟩) NB156_154.out _).trans (((cell_far (p := ⟨gb154, _, none⟩) NB156_154.out _).trans (((cell_far (p := ⟨gb154, _, none⟩) NB156_154.out _).trans (((cell_far (p := ⟨gb154, _, none⟩) NB156_154.out _).trans (hHeld.2.1)))))))), ((cell_far (p := ⟨gb154, _, none⟩) (by first | exact Nat.ne_of_lt (Nat.lt_of_lt_of_le (by have := World.block_lt_of_cell? _ _ hw158_0; first | rwa [add_block] at this | exact this) GW154.out) | (rw [add_block]; exact Nat.ne_of_lt (Nat.lt_of_lt_of_le (by have := World.block_lt_of_cell? _ _ hw158_0; first | rwa [add_block] at this | exact this) GW154.out)) | (show (Addr.add _ _).block ≠ _; rw [add_block]; exact Nat.ne_of_lt (Nat.lt_of_lt_of_le (by have := World.block_lt_of_cell? _ _ hw158_0; first | rwa [add_block] at this | exact this) GW154.out)) | (dsimp only; exact Nat.ne_of_lt (Nat.lt_of_lt_of_le (by have := World.block_lt_of_cell? _ _ hw158_0; first | rwa [add_block] at this | exact this) GW154.out))) _).trans (((cell_far (p := ⟨gb154, _, none⟩) (by first | exact Nat.ne_of_lt (Nat.lt_of_lt_of_le (by have := World.block_lt_of_cell? _ _ hw158_0; first | rwa [add_block] at this | exact this) GW154.out) | (rw [add_block]; exact Nat.ne_of_lt (Nat.lt_of_lt_of_le (by have := World.block_lt_of_cell? _ _ hw158_0; first | rwa [add_block] at this | exact this) GW154.out)) | (show (Addr.add _ _).block ≠ _; rw [add_block]; exact Nat.ne_of_lt (Nat.lt_of_lt_of_le (by have := World.block_lt_of_cell? _ _ hw158_0; first | rwa [add_block] at this | exact this) GW154.out)) | (dsimp only; exact Nat.ne_of_lt (Nat.lt_of_lt_of_le (by have := World.block_lt_of_cell? _ _ hw158_0; first | rwa [add_block] at this | exact this) GW154.out))) _).trans (((cell_far (p := ⟨gb154, _, none⟩) (by first | exact Nat.ne_of_lt (Nat.lt_of_lt_of_le (by have := World.block_lt_of_cell? _ _ hw158_0; first | rwa [add_block] at this | exact this) GW154.out) | (rw [add_block]; exact Nat.ne_of_lt (Nat.lt_of_lt_of_le (by have := World.block_lt_of_cell? _ _ hw158_0; first | rwa [add_block] at this | exact this) GW154.out)) | (show (Addr.add _ _).block ≠ _; rw [add_block]; exact Nat.ne_of_lt (Nat.lt_of_lt_of_le (by have := World.block_lt_of_cell? _ _ hw158_0; first | rwa [add_block] at this | exact this) GW154.out)) | (dsimp only; exact Nat.ne_of_lt (Nat.lt_of_lt_of_le (by have := World.block_lt_of_cell? _ _ hw158_0; first | rwa [add_block] at this | exact this) GW154.out))) _).trans (((cell_far (p := ⟨gb154, _, none⟩) (by first | exact Nat.ne_of_lt (Nat.lt_of_lt_of_le (by have := World.block_lt_of_cell? _ _ hw158_0; first | rwa [add_block] at this | exact this) GW154.out) | (rw [add_block]; exact Nat.ne_of_lt (Nat.lt_of_lt_of_le (by have := World.block_lt_of_cell? _ _ hw158_0; first | rwa [add_block] at this | exact this) GW154.out)) | (show (Addr.add _ _).block ≠ _; rw [add_block]; exact Nat.ne_of_lt (Nat.lt_of_lt_of_le (by have := World.block_lt_of_cell? _ _ hw158_0; first | rwa [add_block] at this | exact this) GW154.out)) | (dsimp only; exact Nat.ne_of_lt (Nat.lt_of_lt_of_le (by have := World.block_lt_of_cell? _ _ hw158_0; first | rwa [add_block] at this | exact this) GW154.out))) _).trans (hHeld.2.2.1)))))))), ((cell_far (p := ⟨gb154, _, none⟩) (by first | exact Nat.ne_of_lt (Nat.lt_of_lt_of_le (by have := World.block_lt_of_cell? _ _ hw158_1; first | rwa [add_block] at this | exact this) GW154.out) | (rw [add_block]; exact Nat.ne_of_lt (Nat.lt_of_lt_of_le (by have := World.block_lt_of_cell? _ _ hw158_1; first | rwa [add_block] at this | exact this) GW154.out)) | (show (Addr.add _ _).block ≠ _; rw [add_block]; exact Nat.ne_of_lt (Nat.lt_of_lt_of_le (by have := World.block_lt_of_cell? _ _ hw158_1; first | rwa [add_block] at this | exact this) GW154.out)) | (dsimp only; exact Nat.ne_of_lt (Nat.lt_of_lt_of_le (by have := World.block_lt_of_cell? _ _ hw158_1; first | rwa [add_block] at this | exact this) GW154.out))) _).trans (((cell_far (p := ⟨gb154, _, none⟩) (by first | exact Nat.ne_of_lt (Nat.lt_of_lt_of_le (by have := World.block_lt_of_cell? _ _ hw158_1; first | rwa [add_block] at this | exact this) GW154.out) | (rw [add_block]; exact Nat.ne_of_lt (Nat.lt_of_lt_of_le (by have := World.block_lt_of_cell? _ _ hw158_1; first | rwa [add_block] at this | exact this) GW154.out)) | (show (Addr.add _ _).block ≠ _; rw [add_block]; exact Nat.ne_of_lt (Nat.lt_of_lt_of_le (by have := World.block_lt_of_cell? _ _ hw158_1; first | rwa [add_block] at this | exact this) GW154.out)) | (dsimp only; exact Nat.ne_of_lt (Nat.lt_of_lt_of_le (by have := World.block_lt_of_cell? _ _ hw158_1; first | rwa [add_block] at this | exact this) GW154.out))) _).trans (((cell_far (p := ⟨gb154, _, none⟩) (by first | exact Nat.ne_of_lt (Nat.lt_of_lt_of_le (by have := World.block_lt_of_cell? _ _ hw158_1; first | rwa [add_block] at this | exact this) GW154.out) | (rw [add_block]; exact Nat.ne_of_lt (Nat.lt_of_lt_of_le (by have := World.block_lt_of_cell? _ _ hw158_1; first | rwa [add_block] at this | exact this) GW154.out)) | (show (Addr.add _ _).block ≠ _; rw [add_block]; exact Nat.ne_of_lt (Nat.lt_of_lt_of_le (by have := World.block_lt_of_cell? _ _ hw158_1; first | rwa [add_block] at this | exact this) GW154.out)) | (dsimp only; exact Nat.ne_of_lt (Nat.lt_of_lt_of_le (by have := World.block_lt_of_cell? _ _ hw158_1; first | rwa [add_block] at this | exact this) GW154.out))) _).trans (((cell_far (p := ⟨gb154, _, none⟩) (by first | exact Nat.ne_of_lt (Nat.lt_of_lt_of_le (by have := World.block_lt_of_cell? _ _ hw158_1; first | rwa [add_block] at this | exact this) GW154.out) | (rw [add_block]; exact Nat.ne_of_lt (Nat.lt_of_lt_of_le (by have := World.block_lt_of_cell? _ _ hw158_1; first | rwa [add_block] at this | exact this) GW154.out)) | (show (Addr.add _ _).block ≠ _; rw [add_block]; exact Nat.ne_of_lt (Nat.lt_of_lt_of_le (by have := World.block_lt_of_cell? _ _ hw158_1; first | rwa [add_block] at this | exact this) GW154.out)) | (dsimp only; exact Nat.ne_of_lt (Nat.lt_of_lt_of_le (by have := World.block_lt_of_cell? _ _ hw158_1; first | rwa [add_block] at this | exact this) GW154.out))) _).trans (hHeld.2.2.2.1)))))))), ((cell_far (p := ⟨gb154, _, none⟩) (by first | exact Nat.ne_of_lt (Nat.lt_of_lt_of_le (by have := World.block_lt_of_cell? _ _ hw159_0; first | rwa [add_block] at this | exact this) GW154.out) | (rw [add_block]; exact Nat.ne_of_lt (Nat.lt_of_lt_of_le (by have := World.block_lt_of_cell? _ _ hw159_0; first | rwa [add_block] at this | exact this) GW154.out)) | (show (Addr.add _ _).block ≠ _; rw [add_block]; exact Nat.ne_of_lt (Nat.lt_of_lt_of_le (by have := World.block_lt_of_cell? _ _ hw159_0; first | rwa [add_block] at this | exact this) GW154.out)) | (dsimp only; exact Nat.ne_of_lt (Nat.lt_of_lt_of_le (by have := World.block_lt_of_cell? _ _ hw159_0; first | rwa [add_block] at this | exact this) GW154.out))) _).trans (((cell_far (p := ⟨gb154, _, none⟩) (by first | exact Nat.ne_of_lt (Nat.lt_of_lt_of_le (by have := World.block_lt_of_cell? _ _ hw159_0; first | rwa [add_block] at this | exact this) GW154.out) | (rw [add_block]; exact Nat.ne_of_lt (Nat.lt_of_lt_of_le (by have := World.block_lt_of_cell? _ _ hw159_0; first | rwa [add_block] at this | exact this) GW154.out)) | (show (Addr.add _ _).block ≠ _; rw [add_block]; exact Nat.ne_of_lt (Nat.lt_of_lt_of_le (by have := World.block_lt_of_cell? _ _ hw159_0; first | rwa [add_block] at this | exact this) GW154.out)) | (dsimp only; exact Nat.ne_of_lt (Nat.lt_of_lt_of_le (by have := World.block_lt_of_cell? _ _ hw159_0; first | rwa [add_block] at this | exact this) GW154.out))) _).trans (((cell_far (p := ⟨gb154, _, none⟩) (by first | exact Nat.ne_of_lt (Nat.lt_of_lt_of_le (by have := World.block_lt_of_cell? _ _ hw159_0; first | rwa [add_block] at this | exact this) GW154.out) | (rw [add_block]; exact Nat.ne_of_lt (Nat.lt_of_lt_of_le (by have := World.block_lt_of_cell? _ _ hw159_0; first | rwa [add_block] at this | exact this) GW154.out)) | (show (Addr.add _ _).block ≠ _; rw [add_block]; exact Nat.ne_of_lt (Nat.lt_of_lt_of_le (by have := World.block_lt_of_cell? _ _ hw159_0; first | rwa [add_block] at this | exact this) GW154.out)) | (dsimp only; exact Nat.ne_of_lt (Nat.lt_of_lt_of_le (by have := World.block_lt_of_cell? _ _ hw159_0; first | rwa [add_block] at this | exact this) GW154.out))) _).trans (((cell_far (p := ⟨gb154, _, none⟩) (by first | exact Nat.ne_of_lt (Nat.lt_of_lt_of_le (by have := World.block_lt_of_cell? _ _ hw159_0; first | rwa [add_block] at this | exact this) GW154.out) | (rw [add_block]; exact Nat.ne_of_lt (Nat.lt_of_lt_of_le (by have := World.block_lt_of_cell? _ _ hw159_0; first | rwa [add_block] at this | exact this) GW154.out)) | (show (Addr.add _ _).block ≠ _; rw [add_block]; exact Nat.ne_of_lt (Nat.lt_of_lt_of_le (by have := World.block_lt_of_cell? _ _ hw159_0; first | rwa [add_block] at this | exact this) GW154.out)) | (dsimp only; exact Nat.ne_of_lt (Nat.lt_of_lt_of_le (by have := World.block_lt_of_cell? _ _ hw159_0; first | rwa [add_block] at this | exact this) GW154.out))) _).trans (hHeld.2.2.2.2.1)))))))), ((cell_far (p := ⟨gb154, _, none⟩) (by first | exact Nat.ne_of_lt (Nat.lt_of_lt_of_le (by have := World.block_lt_of_cell? _ _ hw159_1; first | rwa [add_block] at this | exact this) GW154.out) | (rw [add_block]; exact Nat.ne_of_lt (Nat.lt_of_lt_of_le (by have := World.block_lt_of_cell? _ _ hw159_1; first | rwa [add_block] at this | exact this) GW154.out)) | (show (Addr.add _ _).block ≠ _; rw [add_block]; exact Nat.ne_of_lt (Nat.lt_of_lt_of_le (by have := World.block_lt_of_cell? _ _ hw159_1; first | rwa [add_block] at this | exact this) GW154.out)) | (dsimp only; exact Nat.ne_of_lt (Nat.lt_of_lt_of_le (by have := World.block_lt_of_cell? _ _ hw159_1; first | rwa [add_block] at this | exact this) GW154.out))) _).trans (((cell_far (p := ⟨gb154, _, none⟩) (by first | exact Nat.ne_of_lt (Nat.lt_of_lt_of_le (by have := World.block_lt_of_cell? _ _ hw159_1; first | rwa [add_block] at this | exact this) GW154.out) | (rw [add_block]; exact Nat.ne_of_lt (Nat.lt_of_lt_of_le (by have := World.block_lt_of_cell? _ _ hw159_1; first | rwa [add_block] at this | exact this) GW154.out)) | (show (Addr.add _ _).block ≠ _; rw [add_block]; exact Nat.ne_of_lt (Nat.lt_of_lt_of_le (by have := World.block_lt_of_cell? _ _ hw159_1; first | rwa [add_block] at this | exact this) GW154.out)) | (dsimp only; exact Nat.ne_of_lt (Nat.lt_of_lt_of_le (by have := World.block_lt_of_cell? _ _ hw159_1; first | rwa [add_block] at this | exact this) GW154.out))) _).trans (((cell_far (p := ⟨gb154, _, none⟩) (by first | exact Nat.ne_of_lt (Nat.lt_of_lt_of_le (by have := World.block_lt_of_cell? _ _ hw159_1; first | rwa [add_block] at this | exact this) GW154.out) | (rw [add_block]; exact Nat.ne_of_lt (Nat.lt_of_lt_of_le (by have := World.block_lt_of_cell? _ _ hw159_1; first | rwa [add_block] at this | exact this) GW154.out)) | (show (Addr.add _ _).block ≠ _; rw [add_block]; exact Nat.ne_of_lt (Nat.lt_of_lt_of_le (by have := World.block_lt_of_cell? _ _ hw159_1; first | rwa [add_block] at this | exact this) GW154.out)) | (dsimp only; exact Nat.ne_of_lt (Nat.lt_of_lt_of_le (by have := World.block_lt_of_cell? _ _ hw159_1; first | rwa [add_block] at this | exact this) GW154.out))) _).trans (((cell_far (p := ⟨gb154, _, none⟩) (by first | exact Nat.ne_of_lt (Nat.lt_of_lt_of_le (by have := World.block_lt_of_cell? _ _ hw159_1; first | rwa [add_block] at this | exact this) GW154.out) | (rw [add_block]; exact Nat.ne_of_lt (Nat.lt_of_lt_of_le (by have := World.block_lt_of_cell? _ _ hw159_1; first | rwa [add_block] at this | exact this) GW154.out)) | (show (Addr.add _ _).block ≠ _; rw [add_block]; exact Nat.ne_of_lt (Nat.lt_of_lt_of_le (by have := World.block_lt_of_cell? _ _ hw159_1; first | rwa [add_block] at this | exact this) GW154.out)) | (dsimp only; exact Nat.ne_of_lt (Nat.lt_of_lt_of_le (by have := World.block_lt_of_cell? _ _ hw159_1; first | rwa [add_block] at this | exact this) GW154.out))) _).trans (hHeld.2.2.2.2.2))))))))⟩ (fun hHeld => ?_)
        clear hK K
        refine done_ (done_of HT_.out (by kernel_rfl)) ?_
        try go_wp2
        refine bodyPost_ret (results_cell_row rfl _ _ gb154 88 #[.int .i64 ((rd_T46 ((rd_T38 l0_0 a1).f2.f1) 0).f0), .int .i64 ((rd_T46 ((rd_T38 l0_0 a1).f2.f1) (ji20)).f0), .int .i64 1, .bool (decide (a2 ≥ 1))] (0, 0) _ rfl (by (with_reducible repeat (first | refine blk_drewN ?_ _ | refine blk_drew ?_ | refine blk_alloc ?_ _)); refine blk_put (cs := #[.int .i64 ((rd_T46 ((rd_T38 l0_0 a1).f2.f1) 0).f0), .int .i64 ((rd_T46 ((rd_T38 l0_0 a1).f2.f1) (ji20)).f0), .int .i64 1, .bool false]) ?_ 3 _ rfl; (with_reducible repeat (first | refine blk_drewN ?_ _ | refine blk_drew ?_ | refine blk_alloc ?_ _)); refine blk_put (cs := #[.int .i64 ((rd_T46 ((rd_T38 l0_0 a1).f2.f1) 0).f0), .int .i64 ((rd_T46 ((rd_T38 l0_0 a1).f2.f1) (ji20)).f0), .int .i64 0, .bool false]) ?_ 2 _ rfl; (with_reducible repeat (first | refine blk_drewN ?_ _ | refine blk_drew ?_ | refine blk_alloc ?_ _)); refine blk_put (cs := #[.int .i64 ((rd_T46 ((rd_T38 l0_0 a1).f2.f1) 0).f0), .int .i64 0, .int .i64 0, .bool false]) ?_ 1 _ rfl; (with_reducible repeat (first | refine blk_drewN ?_ _ | refine blk_drew ?_ | refine blk_alloc ?_ _)); refine blk_put (cs := #[.int .i64 0, .int .i64 0, .int .i64 0, .bool false]) ?_ 0 _ rfl; (with_reducible repeat (first | refine blk_drewN ?_ _ | refine blk_drew ?_ | refine blk_alloc ?_ _)); exact BK154.out) Try.underlying88 rfl (by kernel_rfl)) rfl ?_
        exact ⟨by first | rfl | (simp [errW_none, errW_some] <;> rfl) | (simp only [← hji20]; first | rfl | (simp [errW_none, errW_some] <;> rfl)) | (simp [*, errW_none, errW_some] <;> rfl), by repeat (first | (with_reducible first | exact HB.out | apply below_alloc | apply pw_below_drewN | apply below_drew1 | refine below_set ?_ GE153.out | refine below_set ?_ GE154.out | refine below_set ?_ GE156.out) | exact HB.out)⟩
       ·rw [if_neg c22] at H
        exact absurd H (by simp)
      ·rw [if_neg c21] at H
       exact absurd H (by simp)
     ·rw [if_neg c19] at H
      exact absurd H (by simp)
    ·replace c18 := Bool.eq_false_iff.mpr c18
     subst c18
     have H1 : (if a2 ≤ 1 then (some (0, 0, 0, false)) else (assartref07_below.l0 k a2 0 l0_0 a0_1 false ((rd_T38 l0_0 a1).f2.f1) 0 0 0 false)) = some (r1, r2, r3, r4) := by rw [if_neg (show ¬ (false = true) by decide)] at H; exact H
     clear H
     have H := H1
     clear H1
     by_cases c38 : a2 ≤ 1
     ·rw [if_pos c38] at H
      have c38b0 : decide (a2 ≤ 1) = true := decide_eq_true c38
      clear c38
      simp only [Option.some.injEq, Prod.mk.injEq] at H
      obtain ⟨rfl, rfl, rfl, rfl⟩ := H
      go_enter Try.func46, Try.ntmps46
      go_wp2_with (first | ((with_reducible refine gate_dst (N := 3) rfl ?_); refine box_event ?hg (N := 3) ?hd (cs := #[.slice A0_0 l0_0.length c0_0, .int .i64 a0_1]) (t := 24) ?hr ?_; (case hd => rfl); (case hg => rfl); (case hr => first | (go_simp; done) | (go_simp; rfl)); intro gb153 hg w39 hbox hb; have n0_ := Aside0.mk (below_step (by repeat (first | (with_reducible first | exact HB.out | apply below_alloc | apply pw_below_drewN | apply below_drew1) | exact HB.out)) hb); have n1_ := Aside0.mk (hbox); have n2_ := Aside0.mk ((by rw [hg]; exact (below_size (by repeat (first | (with_reducible first | exact HB.out | apply below_alloc | apply pw_below_drewN | apply below_drew1) | exact HB.out))) : w.heap.size ≤ gb153)); have n3_ := Aside0.mk ((by rw [hg]; exact (below_size (by repeat (first | (with_reducible first | exact HB.out | apply below_alloc | apply pw_below_drewN | apply below_drew1) | exact HB.out))) : w.heap.size ≤ gb153)); clear HB; have HB := n0_; have BK153 := n1_; have GW153 := n2_; have GE153 := n3_; clear n0_ n1_ n2_ n3_; clear hb hbox hg) | ((with_reducible refine gate_dst (N := 6) rfl ?_); refine box_event ?hg (N := 6) ?hd (cs := #[.int .i64 0, .int .i64 0, .int .i64 0, .bool false]) (t := 88) ?hr ?_; (case hd => rfl); (case hg => rfl); (case hr => first | (go_simp; done) | (go_simp; rfl)); intro gb154 hg w40 hbox hb; have n0_ := Aside0.mk (blk_below (g := gb153) (o := .cells #[.slice A0_0 l0_0.length c0_0, .int .i64 a0_1] 24 (0, 0)) (by (with_reducible repeat (first | refine blk_drewN ?_ _ | refine blk_drew ?_ | refine blk_alloc ?_ _)); exact BK153.out) hb); have n1_ := Aside0.mk (below_step (by repeat (first | (with_reducible first | exact HB.out | apply below_alloc | apply pw_below_drewN | apply below_drew1 | refine below_set ?_ GE153.out) | exact HB.out)) hb); have n2_ := Aside0.mk (hbox); have n3_ := Aside0.mk ((by rw [hg]; exact (below_size (by repeat (first | (with_reducible first | exact HB.out | apply below_alloc | apply pw_below_drewN | apply below_drew1 | refine below_set ?_ GE153.out) | exact HB.out))) : w.heap.size ≤ gb154)); have n4_ := Aside0.mk ((by rw [hg]; exact (below_size (by repeat (first | (with_reducible first | exact HB.out | apply below_alloc | apply pw_below_drewN | apply below_drew1 | refine below_set ?_ GE153.out) | exact HB.out))) : w.heap.size ≤ gb154)); have n5_ := Aside0.mk ((by rw [hg]; exact Nat.ne_of_lt (blk_lt (g := gb153) (o := .cells #[.slice A0_0 l0_0.length c0_0, .int .i64 a0_1] 24 (0, 0)) (by (with_reducible repeat (first | refine blk_drewN ?_ _ | refine blk_drew ?_ | refine blk_alloc ?_ _)); exact BK153.out)) : gb153 ≠ gb154)); have n6_ := Aside0.mk ((by rw [hg]; exact Nat.ne_of_gt (blk_lt (g := gb153) (o := .cells #[.slice A0_0 l0_0.length c0_0, .int .i64 a0_1] 24 (0, 0)) (by (with_reducible repeat (first | refine blk_drewN ?_ _ | refine blk_drew ?_ | refine blk_alloc ?_ _)); exact BK153.out)) : gb154 ≠ gb153)); clear BK153; clear HB; have BK153 := n0_; have HB := n1_; have BK154 := n2_; have GW154 := n3_; have GE154 := n4_; have NB153_154 := n5_; have NB154_153 := n6_; clear n0_ n1_ n2_ n3_ n4_ n5_ n6_; clear hb hbox hg; have hnb41 := NB153_154.out; have hnc41 := NB154_153.out; have hcz42_0 : w40.cell? ⟨gb153, 0, none⟩ = some (.slice A0_0 l0_0.length c0_0) := (blk_cell BK153.out 0).trans rfl; have hcz42_1 : w40.cell? ⟨gb153, 1, none⟩ = some (.int .i64 a0_1) := (blk_cell BK153.out 1).trans rfl; have hfz42_0 := blk_frozen BK153.out 0; have hfz42_1 := blk_frozen BK153.out 1; have p155 : 0 ≤ (a1 : Int) := of_decide_eq_true (by first | (with_reducible assumption) | assumption); have q155 : a1 < (l0_0.length : Int) := of_decide_eq_true (by first | (with_reducible assumption) | assumption); obtain ⟨ad155, A155_3, c155_3, e155, hx155_0, hx155_1, hx155_2, hx155_3, hl155_3, hi155_3⟩ := at_T38 HR0_0.out a1 p155 q155; (try rw [← Nbq17.out] at hx155_1); (try rw [← Nbq17.out] at hx155_2); cases e155; replace hx155_0 := (HB.out.cell (World.block_lt_of_cell? w _ hx155_0)).trans hx155_0; replace hx155_1 := (HB.out.cell (World.block_lt_of_cell? w _ hx155_1)).trans hx155_1; replace hx155_2 := (HB.out.cell (World.block_lt_of_cell? w _ hx155_2)).trans hx155_2; replace hx155_3 := (HB.out.cell (World.block_lt_of_cell? w _ hx155_3)).trans hx155_3; have HR155_3 := Aside0.mk hi155_3; have HC155_3 := Aside0.mk hl155_3; clear hi155_3 hl155_3; replace p155 := eq_true p155; replace q155 := eq_true q155) | ((with_reducible refine gate_dst (N := 7) rfl ?_); refine box_event ?hg (N := 7) ?hd (cs := #[.bool false, .slice none 0 0]) (t := 36) ?hr ?_; (case hd => rfl); (case hg => rfl); (case hr => first | (go_simp; done) | (go_simp; rfl)); intro gb156 hg w43 hbox hb; have n0_ := Aside0.mk (blk_below (g := gb153) (o := .cells #[.slice (some ad155) l0_0.length c0_0, .int .i64 a0_1] 24 (0, 0)) (by (with_reducible repeat (first | refine blk_drewN ?_ _ | refine blk_drew ?_ | refine blk_alloc ?_ _)); exact BK153.out) hb); have n1_ := Aside0.mk (blk_below (g := gb154) (o := .cells #[.int .i64 0, .int .i64 0, .int .i64 0, .bool false] 88 (0, 0)) (by (with_reducible repeat (first | refine blk_drewN ?_ _ | refine blk_drew ?_ | refine blk_alloc ?_ _)); exact BK154.out) hb); have n2_ := Aside0.mk (below_step (by repeat (first | (with_reducible first | exact HB.out | apply below_alloc | apply pw_below_drewN | apply below_drew1 | refine below_set ?_ GE153.out | refine below_set ?_ GE154.out) | exact HB.out)) hb); have n3_ := Aside0.mk (hbox); have n4_ := Aside0.mk ((by rw [hg]; exact (below_size (by repeat (first | (with_reducible first | exact HB.out | apply below_alloc | apply pw_below_drewN | apply below_drew1 | refine below_set ?_ GE153.out | refine below_set ?_ GE154.out) | exact HB.out))) : w.heap.size ≤ gb156)); have n5_ := Aside0.mk ((by rw [hg]; exact (below_size (by repeat (first | (with_reducible first | exact HB.out | apply below_alloc | apply pw_below_drewN | apply below_drew1 | refine below_set ?_ GE153.out | refine below_set ?_ GE154.out) | exact HB.out))) : w.heap.size ≤ gb156)); have n6_ := Aside0.mk ((by rw [hg]; exact Nat.ne_of_lt (blk_lt (g := gb153) (o := .cells #[.slice (some ad155) l0_0.length c0_0, .int .i64 a0_1] 24 (0, 0)) (by (with_reducible repeat (first | refine blk_drewN ?_ _ | refine blk_drew ?_ | refine blk_alloc ?_ _)); exact BK153.out)) : gb153 ≠ gb156)); have n7_ := Aside0.mk ((by rw [hg]; exact Nat.ne_of_gt (blk_lt (g := gb153) (o := .cells #[.slice (some ad155) l0_0.length c0_0, .int .i64 a0_1] 24 (0, 0)) (by (with_reducible repeat (first | refine blk_drewN ?_ _ | refine blk_drew ?_ | refine blk_alloc ?_ _)); exact BK153.out)) : gb156 ≠ gb153)); have n8_ := Aside0.mk ((by rw [hg]; exact Nat.ne_of_lt (blk_lt (g := gb154) (o := .cells #[.int .i64 0, .int .i64 0, .int .i64 0, .bool false] 88 (0, 0)) (by (with_reducible repeat (first | refine blk_drewN ?_ _ | refine blk_drew ?_ | refine blk_alloc ?_ _)); exact BK154.out)) : gb154 ≠ gb156)); have n9_ := Aside0.mk ((by rw [hg]; exact Nat.ne_of_gt (blk_lt (g := gb154) (o := .cells #[.int .i64 0, .int .i64 0, .int .i64 0, .bool false] 88 (0, 0)) (by (with_reducible repeat (first | refine blk_drewN ?_ _ | refine blk_drew ?_ | refine blk_alloc ?_ _)); exact BK154.out)) : gb156 ≠ gb154)); clear BK153; clear BK154; clear HB; have BK153 := n0_; have BK154 := n1_; have HB := n2_; have BK156 := n3_; have GW156 := n4_; have GE156 := n5_; have NB153_156 := n6_; have NB156_153 := n7_; have NB154_156 := n8_; have NB156_154 := n9_; clear n0_ n1_ n2_ n3_ n4_ n5_ n6_ n7_ n8_ n9_; clear hb hbox hg; have hnb44 := NB156_153.out; have hnc44 := NB153_156.out; have hnb45 := NB156_154.out; have hnc45 := NB154_156.out; have hcz46_0 : w43.cell? ⟨gb156, 0, none⟩ = some (.bool false) := (blk_cell BK156.out 0).trans rfl; have hcz46_1 : w43.cell? ⟨gb156, 1, none⟩ = some (.slice none 0 0) := (blk_cell BK156.out 1).trans rfl; have hfz46_0 := blk_frozen BK156.out 0; have hfz46_1 := blk_frozen BK156.out 1; have hcz47_0 : w43.cell? ⟨gb153, 0, none⟩ = some (.slice (some ad155) l0_0.length c0_0) := (blk_cell BK153.out 0).trans rfl; have hcz47_1 : w43.cell? ⟨gb153, 1, none⟩ = some (.int .i64 a0_1) := (blk_cell BK153.out 1).trans rfl; have hfz47_0 := blk_frozen BK153.out 0; have hfz47_1 := blk_frozen BK153.out 1; have p157 : 0 ≤ (a1 : Int) := of_decide_eq_true (by first | (with_reducible assumption) | assumption); have q157 : a1 < (l0_0.length : Int) := of_decide_eq_true (by first | (with_reducible assumption) | assumption); obtain ⟨ad157, A157_3, c157_3, e157, hx157_0, hx157_1, hx157_2, hx157_3, hl157_3, hi157_3⟩ := at_T38 HR0_0.out a1 p157 q157; (try rw [← Nbq17.out] at hx157_1); (try rw [← Nbq17.out] at hx157_2); obtain rfl : ad155 = ad157 := (by injection e157); have hn157_0 : ad155.block ≠ gb156 := Nat.ne_of_lt (Nat.lt_of_lt_of_le (by have := World.block_lt_of_cell? _ _ hx157_0; first | rwa [add_block] at this | exact this) GW156.out); have hn157_1 : ad155.block ≠ gb156 := Nat.ne_of_lt (Nat.lt_of_lt_of_le (by have := World.block_lt_of_cell? _ _ hx157_0; first | rwa [add_block] at this | exact this) GW156.out); replace hx157_0 := (HB.out.cell (World.block_lt_of_cell? w _ hx157_0)).trans hx157_0; replace hx157_1 := (HB.out.cell (World.block_lt_of_cell? w _ hx157_1)).trans hx157_1; replace hx157_2 := (HB.out.cell (World.block_lt_of_cell? w _ hx157_2)).trans hx157_2; replace hx157_3 := (HB.out.cell (World.block_lt_of_cell? w _ hx157_3)).trans hx157_3; have HR157_3 := Aside0.mk hi157_3; have HC157_3 := Aside0.mk hl157_3; clear hi157_3 hl157_3; replace hx157_0 := (cell_far (p := ⟨gb156, 0, none⟩) (by first | (rw [add_block]; exact hn157_0) | (show (Addr.add _ _).block ≠ _; rw [add_block]; exact hn157_0) | exact hn157_0) (.bool false)).trans hx157_0; replace hx157_1 := (cell_far (p := ⟨gb156, 0, none⟩) (by first | (rw [add_block]; exact hn157_0) | (show (Addr.add _ _).block ≠ _; rw [add_block]; exact hn157_0) | exact hn157_0) (.bool false)).trans hx157_1; replace hx157_2 := (cell_far (p := ⟨gb156, 0, none⟩) (by first | (rw [add_block]; exact hn157_0) | (show (Addr.add _ _).block ≠ _; rw [add_block]; exact hn157_0) | exact hn157_0) (.bool false)).trans hx157_2; replace hx157_3 := (cell_far (p := ⟨gb156, 0, none⟩) (by first | (rw [add_block]; exact hn157_0) | (show (Addr.add _ _).block ≠ _; rw [add_block]; exact hn157_0) | exact hn157_0) (.bool false)).trans hx157_3; replace hx157_0 := (cell_far (p := ⟨gb156, 1, none⟩) (by first | (rw [add_block]; exact hn157_1) | (show (Addr.add _ _).block ≠ _; rw [add_block]; exact hn157_1) | exact hn157_1) (.slice A155_3 ((rd_T38 l0_0 a1).f2.f1).length c155_3)).trans hx157_0; replace hx157_1 := (cell_far (p := ⟨gb156, 1, none⟩) (by first | (rw [add_block]; exact hn157_1) | (show (Addr.add _ _).block ≠ _; rw [add_block]; exact hn157_1) | exact hn157_1) (.slice A155_3 ((rd_T38 l0_0 a1).f2.f1).length c155_3)).trans hx157_1; replace hx157_2 := (cell_far (p := ⟨gb156, 1, none⟩) (by first | (rw [add_block]; exact hn157_1) | (show (Addr.add _ _).block ≠ _; rw [add_block]; exact hn157_1) | exact hn157_1) (.slice A155_3 ((rd_T38 l0_0 a1).f2.f1).length c155_3)).trans hx157_2; replace hx157_3 := (cell_far (p := ⟨gb156, 1, none⟩) (by first | (rw [add_block]; exact hn157_1) | (show (Addr.add _ _).block ≠ _; rw [add_block]; exact hn157_1) | exact hn157_1) (.slice A155_3 ((rd_T38 l0_0 a1).f2.f1).length c155_3)).trans hx157_3; clear hn157_0; clear hn157_1; replace p157 := eq_true p157; replace q157 := eq_true q157; have hcz48_0 : w43.cell? ⟨gb154, 0, none⟩ = some (.int .i64 0) := (blk_cell BK154.out 0).trans rfl; have hcz48_1 : w43.cell? ⟨gb154, 1, none⟩ = some (.int .i64 0) := (blk_cell BK154.out 1).trans rfl; have hcz48_2 : w43.cell? ⟨gb154, 2, none⟩ = some (.int .i64 0) := (blk_cell BK154.out 2).trans rfl; have hcz48_3 : w43.cell? ⟨gb154, 3, none⟩ = some (.bool false) := (blk_cell BK154.out 3).trans rfl; have hfz48_0 := blk_frozen BK154.out 0; have hfz48_1 := blk_frozen BK154.out 1; have hfz48_2 := blk_frozen BK154.out 2; have hfz48_3 := blk_frozen BK154.out 3))
      refine bodyPost_ret (results_cell_row rfl _ _ gb154 88 #[.int .i64 0, .int .i64 0, .int .i64 0, .bool false] (0, 0) _ rfl (by (with_reducible repeat (first | refine blk_drewN ?_ _ | refine blk_drew ?_ | refine blk_alloc ?_ _)); refine blk_put (cs := #[.int .i64 0, .int .i64 0, .int .i64 0, .bool false]) ?_ 3 _ rfl; (with_reducible repeat (first | refine blk_drewN ?_ _ | refine blk_drew ?_ | refine blk_alloc ?_ _)); refine blk_put (cs := #[.int .i64 0, .int .i64 0, .int .i64 0, .bool false]) ?_ 2 _ rfl; (with_reducible repeat (first | refine blk_drewN ?_ _ | refine blk_drew ?_ | refine blk_alloc ?_ _)); refine blk_put (cs := #[.int .i64 0, .int .i64 0, .int .i64 0, .bool false]) ?_ 1 _ rfl; (with_reducible repeat (first | refine blk_drewN ?_ _ | refine blk_drew ?_ | refine blk_alloc ?_ _)); refine blk_put (cs := #[.int .i64 0, .int .i64 0, .int .i64 0, .bool false]) ?_ 0 _ rfl; (with_reducible repeat (first | refine blk_drewN ?_ _ | refine blk_drew ?_ | refine blk_alloc ?_ _)); refine blk_far ?_ NB154_156.out _; (with_reducible repeat (first | refine blk_drewN ?_ _ | refine blk_drew ?_ | refine blk_alloc ?_ _)); refine blk_far ?_ NB154_156.out _; (with_reducible repeat (first | refine blk_drewN ?_ _ | refine blk_drew ?_ | refine blk_alloc ?_ _)); exact BK154.out) Try.underlying88 rfl (by kernel_rfl)) rfl ?_
      exact ⟨by first | rfl | (simp [errW_none, errW_some] <;> rfl) | (simp [*, errW_none, errW_some] <;> rfl), by repeat (first | (with_reducible first | exact HB.out | apply below_alloc | apply pw_below_drewN | apply below_drew1 | refine below_set ?_ GE153.out | refine below_set ?_ GE154.out | refine below_set ?_ GE156.out) | exact HB.out)⟩
     ·rcases HQ.out with h | h | h
      ·rw [c6b0] at h; cases h
      ·rw [← Nbq17.out] at h; cases h
      ·exact (c38 (of_decide_eq_true h)).elim
  ·rw [if_neg c5] at H
   exact absurd H (by simp)
 ·rw [if_neg c4] at H
  exact absurd H (by simp)
end Go.Proofs.Ytflndiikeoflfaa.P
end
section
namespace Go.Proofs.Ytflndiikeoflfaa.P
open Go.RowKit Go.Proofs.YtflndiikeoflfaaW.PrintWords Go.Proofs.YtflndiikeoflfaaW.PrintLast Go.Proofs.YtflndiikeoflfaaW.PrintMore
attribute [local go_sem] max2_int min2_int max_two min_two max_three min_three max_four min_four
set_option linter.unusedVariables false
set_option linter.unusedSimpArgs false
set_option maxHeartbeats 8000000 in
set_option maxRecDepth 100000 in
theorem assartref07_below.calls (k : Nat) : ∀ (A0_0 : Option Addr) (c0_0 : Nat) (l0_0 : List (S38)) (a0_1 : Int) (a1 : Int) (a2 : Int) (r1 : Int) (r2 : Int) (r3 : Int) (r4 : Bool) (w : World) (hr0_0 : Kd.C k38 w A0_0 l0_0.length l0_0) (hc0_0 : l0_0.length ≤ c0_0) (h : assartref07_below.f k l0_0 a0_1 a1 a2 = some (r1, r2, r3, r4)),
  Calls Try.prog 46 #[.agg #[.slice A0_0 l0_0.length c0_0, .int .i64 a0_1], .int .i64 a1, .int .i64 a2] w fun e w' => e = .returned (.agg #[.int .i64 r1, .int .i64 r2, .int .i64 r3, .bool r4]) ∧ Below w.heap.size w w' := by
 induction k using Nat.strongRecOn with
 | _ k ih =>
 intro A0_0 c0_0 l0_0 a0_1 a1 a2 r1 r2 r3 r4 w hr0_0 hc0_0 h
 by_cases hq : decide (((rd_T38 l0_0 a1).f0) < 1) = true ∨ (rd_T38 l0_0 a1).f2.f0 = true ∨ decide (a2 ≤ 1) = true
 ·exact assartref07_below.calls0 k A0_0 c0_0 l0_0 a0_1 a1 a2 r1 r2 r3 r4 w hr0_0 hc0_0 ⟨hq⟩ h
 have HQ := Aside0.mk hq
 clear hq
 cases k with
 | zero => exact absurd h (by simp [assartref07_below.f])
 | succ k =>
 simp only [assartref07_below.f] at h
 have hu24 := Try.underlying24
 have hu88 := Try.underlying88
 have hu36 := Try.underlying36
 have HR0_0 := Aside0.mk hr0_0
 have HC0_0 := Aside0.mk hc0_0
 clear hr0_0 hc0_0
 have HB := Aside0.mk (Below.refl w.heap.size w)
 have H : (if 0 ≤ a1 then (if a1 < (l0_0.length : Int) then (if ((rd_T38 l0_0 a1).f0) < 1 then (some (0, 0, 0, false)) else (if (rd_T38 l0_0 a1).f2.f0 = true then (if 0 < (((rd_T38 l0_0 a1).f2.f1).length : Int) then (if 0 ≤ (wrap64 ((((rd_T38 l0_0 a1).f2.f1).length : Int) - 1)) then (if (wrap64 ((((rd_T38 l0_0 a1).f2.f1).length : Int) - 1)) < (((rd_T38 l0_0 a1).f2.f1).length : Int) then (some ((rd_T46 ((rd_T38 l0_0 a1).f2.f1) 0).f0, (rd_T46 ((rd_T38 l0_0 a1).f2.f1) (wrap64 ((((rd_T38 l0_0 a1).f2.f1).length : Int) - 1))).f0, 1, decide (a2 ≥ 1))) else (none)) else (none)) else (none)) else (if a2 ≤ 1 then (some (0, 0, 0, false)) else (assartref07_below.l0 k a2 0 l0_0 a0_1 ((rd_T38 l0_0 a1).f2.f0) ((rd_T38 l0_0 a1).f2.f1) 0 0 0 false)))) else (none)) else (none)) = some (r1, r2, r3, r4) := h
 clear h
 by_cases c4 : 0 ≤ a1
 ·rw [if_pos c4] at H
  have c4b0 : decide (0 ≤ a1) = true := decide_eq_true c4
  clear c4
  by_cases c5 : a1 < (l0_0.length : Int)
  ·rw [if_pos c5] at H
   have c5b0 : decide (a1 < (l0_0.length : Int)) = true := decide_eq_true c5
   clear c5
   by_cases c6 : ((rd_T38 l0_0 a1).f0) < 1
   ·have c6b0 : decide (((rd_T38 l0_0 a1).f0) < 1) = true := decide_eq_true c6; exact absurd (.inl c6b0) HQ.out
   ·rw [if_neg c6] at H
    have c6b0 : decide (((rd_T38 l0_0 a1).f0) < 1) = false := decide_eq_false c6
    clear c6
    obtain ⟨bq17, hbq17⟩ : ∃ b_ : Bool, b_ = ((rd_T38 l0_0 a1).f2.f0) := ⟨_, rfl⟩
    replace H : (if bq17 = true then (if 0 < (((rd_T38 l0_0 a1).f2.f1).length : Int) then (if 0 ≤ (wrap64 ((((rd_T38 l0_0 a1).f2.f1).length : Int) - 1)) then (if (wrap64 ((((rd_T38 l0_0 a1).f2.f1).length : Int) - 1)) < (((rd_T38 l0_0 a1).f2.f1).length : Int) then (some ((rd_T46 ((rd_T38 l0_0 a1).f2.f1) 0).f0, (rd_T46 ((rd_T38 l0_0 a1).f2.f1) (wrap64 ((((rd_T38 l0_0 a1).f2.f1).length : Int) - 1))).f0, 1, decide (a2 ≥ 1))) else (none)) else (none)) else (none)) else (if a2 ≤ 1 then (some (0, 0, 0, false)) else (assartref07_below.l0 k a2 0 l0_0 a0_1 bq17 ((rd_T38 l0_0 a1).f2.f1) 0 0 0 false))) = some (r1, r2, r3, r4) := by rw [← hbq17] at H; exact H
    have Nbq17 := Aside0.mk hbq17
    clear hbq17
    by_cases c18 : bq17 = true
    ·subst c18; exact absurd (.inr (.inl Nbq17.out.symm)) HQ.out
    ·replace c18 := Bool.eq_false_iff.mpr c18
     subst c18
     have H1 : (if a2 ≤ 1 then (some (0, 0, 0, false)) else (assartref07_below.l0 k a2 0 l0_0 a0_1 false ((rd_T38 l0_0 a1).f2.f1) 0 0 0 false)) = some (r1, r2, r3, r4) := by rw [if_neg (show ¬ (false = true) by decide)] at H; exact H
     clear H
     have H := H1
     clear H1
     by_cases c38 : a2 ≤ 1
     ·exact absurd (.inr (.inr (decide_eq_true c38))) HQ.out
     ·rw [if_neg c38] at H
      have c38b0 : decide (a2 ≤ 1) = false := decide_eq_false c38
      clear c38
      have H' := Aside0.mk H
      clear H
      go_enter Try.func46, Try.ntmps46
      go_wp2_with (first | ((with_reducible refine gate_dst (N := 3) rfl ?_); refine box_event ?hg (N := 3) ?hd (cs := #[.slice A0_0 l0_0.length c0_0, .int .i64 a0_1]) (t := 24) ?hr ?_; (case hd => rfl); (case hg => rfl); (case hr => first | (go_simp; done) | (go_simp; rfl)); intro gb153 hg w49 hbox hb; have n0 := Aside0.mk (below_step (by repeat (first | (with_reducible first | exact HB.out | apply below_alloc | apply pw_below_drewN | apply below_drew1) | exact HB.out)) hb); have n1 := Aside0.mk (hbox); have n2 := Aside0.mk ((by rw [hg]; exact (below_size (by repeat (first | (with_reducible first | exact HB.out | apply below_alloc | apply pw_below_drewN | apply below_drew1) | exact HB.out))) : w.heap.size ≤ gb153)); have n3 := Aside0.mk ((by rw [hg]; exact (below_size (by repeat (first | (with_reducible first | exact HB.out | apply below_alloc | apply pw_below_drewN | apply below_drew1) | exact HB.out))) : w.heap.size ≤ gb153)); clear HB; have HB := n0; have BK153 := n1; have GW153 := n2; have GE153 := n3; clear n0 n1 n2 n3; clear hb hbox hg) | ((with_reducible refine gate_dst (N := 6) rfl ?_); refine box_event ?hg (N := 6) ?hd (cs := #[.int .i64 0, .int .i64 0, .int .i64 0, .bool false]) (t := 88) ?hr ?_; (case hd => rfl); (case hg => rfl); (case hr => first | (go_simp; done) | (go_simp; rfl)); intro gb154 hg w50 hbox hb; have n0 := Aside0.mk (blk_below (g := gb153) (o := .cells #[.slice A0_0 l0_0.length c0_0, .int .i64 a0_1] 24 (0, 0)) (by (with_reducible repeat (first | refine blk_drewN ?_ _ | refine blk_drew ?_ | refine blk_alloc ?_ _)); exact BK153.out) hb); have n1 := Aside0.mk (below_step (by repeat (first | (with_reducible first | exact HB.out | apply below_alloc | apply pw_below_drewN | apply below_drew1 | refine below_set ?_ GE153.out) | exact HB.out)) hb); have n2 := Aside0.mk (hbox); have n3 := Aside0.mk ((by rw [hg]; exact (below_size (by repeat (first | (with_reducible first | exact HB.out | apply below_alloc | apply pw_below_drewN | apply below_drew1 | refine below_set ?_ GE153.out) | exact HB.out))) : w.heap.size ≤ gb154)); have n4 := Aside0.mk ((by rw [hg]; exact (below_size (by repeat (first | (with_reducible first | exact HB.out | apply below_alloc | apply pw_below_drewN | apply below_drew1 | refine below_set ?_ GE153.out) | exact HB.out))) : w.heap.size ≤ gb154)); have n5 := Aside0.mk ((by rw [hg]; exact Nat.ne_of_lt (blk_lt (g := gb153) (o := .cells #[.slice A0_0 l0_0.length c0_0, .int .i64 a0_1] 24 (0, 0)) (by (with_reducible repeat (first | refine blk_drewN ?_ _ | refine blk_drew ?_ | refine blk_alloc ?_ _)); exact BK153.out)) : gb153 ≠ gb154)); have n6 := Aside0.mk ((by rw [hg]; exact Nat.ne_of_gt (blk_lt (g := gb153) (o := .cells #[.slice A0_0 l0_0.length c0_0, .int .i64 a0_1] 24 (0, 0)) (by (with_reducible repeat (first | refine blk_drewN ?_ _ | refine blk_drew ?_ | refine blk_alloc ?_ _)); exact BK153.out)) : gb154 ≠ gb153)); clear BK153; clear HB; have BK153 := n0; have HB := n1; have BK154 := n2; have GW154 := n3; have GE154 := n4; have NB153_154 := n5; have NB154_153 := n6; clear n0 n1 n2 n3 n4 n5 n6; clear hb hbox hg; have hnb51 := NB153_154.out; have hnc51 := NB154_153.out; have hcz52_0 : w50.cell? ⟨gb153, 0, none⟩ = some (.slice A0_0 l0_0.length c0_0) := (blk_cell BK153.out 0).trans rfl; have hcz52_1 : w50.cell? ⟨gb153, 1, none⟩ = some (.int .i64 a0_1) := (blk_cell BK153.out 1).trans rfl; have hfz52_0 := blk_frozen BK153.out 0; have hfz52_1 := blk_frozen BK153.out 1; have p155 : 0 ≤ (a1 : Int) := of_decide_eq_true (by first | (with_reducible assumption) | assumption); have q155 : a1 < (l0_0.length : Int) := of_decide_eq_true (by first | (with_reducible assumption) | assumption); obtain ⟨ad155, A155_3, c155_3, e155, hx155_0, hx155_1, hx155_2, hx155_3, hl155_3, hi155_3⟩ := at_T38 HR0_0.out a1 p155 q155; (try rw [← Nbq17.out] at hx155_1); (try rw [← Nbq17.out] at hx155_2); cases e155; replace hx155_0 := (HB.out.cell (World.block_lt_of_cell? w _ hx155_0)).trans hx155_0; replace hx155_1 := (HB.out.cell (World.block_lt_of_cell? w _ hx155_1)).trans hx155_1; replace hx155_2 := (HB.out.cell (World.block_lt_of_cell? w _ hx155_2)).trans hx155_2; replace hx155_3 := (HB.out.cell (World.block_lt_of_cell? w _ hx155_3)).trans hx155_3; have HR155_3 := Aside0.mk hi155_3; have HC155_3 := Aside0.mk hl155_3; clear hi155_3 hl155_3; replace p155 := eq_true p155; replace q155 := eq_true q155) | ((with_reducible refine gate_dst (N := 7) rfl ?_); refine box_event ?hg (N := 7) ?hd (cs := #[.bool false, .slice none 0 0]) (t := 36) ?hr ?_; (case hd => rfl); (case hg => rfl); (case hr => first | (go_simp; done) | (go_simp; rfl)); intro gb156 hg w53 hbox hb; have n0 := Aside0.mk (blk_below (g := gb153) (o := .cells #[.slice (some ad155) l0_0.length c0_0, .int .i64 a0_1] 24 (0, 0)) (by (with_reducible repeat (first | refine blk_drewN ?_ _ | refine blk_drew ?_ | refine blk_alloc ?_ _)); exact BK153.out) hb); have n1 := Aside0.mk (blk_below (g := gb154) (o := .cells #[.int .i64 0, .int .i64 0, .int .i64 0, .bool false] 88 (0, 0)) (by (with_reducible repeat (first | refine blk_drewN ?_ _ | refine blk_drew ?_ | refine blk_alloc ?_ _)); exact BK154.out) hb); have n2 := Aside0.mk (below_step (by repeat (first | (with_reducible first | exact HB.out | apply below_alloc | apply pw_below_drewN | apply below_drew1 | refine below_set ?_ GE153.out | refine below_set ?_ GE154.out) | exact HB.out)) hb); have n3 := Aside0.mk (hbox); have n4 := Aside0.mk ((by rw [hg]; exact (below_size (by repeat (first | (with_reducible first | exact HB.out | apply below_alloc | apply pw_below_drewN | apply below_drew1 | refine below_set ?_ GE153.out | refine below_set ?_ GE154.out) | exact HB.out))) : w.heap.size ≤ gb156)); have n5 := Aside0.mk ((by rw [hg]; exact (below_size (by repeat (first | (with_reducible first | exact HB.out | apply below_alloc | apply pw_below_drewN | apply below_drew1 | refine below_set ?_ GE153.out | refine below_set ?_ GE154.out) | exact HB.out))) : w.heap.size ≤ gb156)); have n6 := Aside0.mk ((by rw [hg]; exact Nat.ne_of_lt (blk_lt (g := gb153) (o := .cells #[.slice (some ad155) l0_0.length c0_0, .int .i64 a0_1] 24 (0, 0)) (by (with_reducible repeat (first | refine blk_drewN ?_ _ | refine blk_drew ?_ | refine blk_alloc ?_ _)); exact BK153.out)) : gb153 ≠ gb156)); have n7 := Aside0.mk ((by rw [hg]; exact Nat.ne_of_gt (blk_lt (g := gb153) (o := .cells #[.slice (some ad155) l0_0.length c0_0, .int .i64 a0_1] 24 (0, 0)) (by (with_reducible repeat (first | refine blk_drewN ?_ _ | refine blk_drew ?_ | refine blk_alloc ?_ _)); exact BK153.out)) : gb156 ≠ gb153)); have n8 := Aside0.mk ((by rw [hg]; exact Nat.ne_of_lt (blk_lt (g := gb154) (o := .cells #[.int .i64 0, .int .i64 0, .int .i64 0, .bool false] 88 (0, 0)) (by (with_reducible repeat (first | refine blk_drewN ?_ _ | refine blk_drew ?_ | refine blk_alloc ?_ _)); exact BK154.out)) : gb154 ≠ gb156)); have n9 := Aside0.mk ((by rw [hg]; exact Nat.ne_of_gt (blk_lt (g := gb154) (o := .cells #[.int .i64 0, .int .i64 0, .int .i64 0, .bool false] 88 (0, 0)) (by (with_reducible repeat (first | refine blk_drewN ?_ _ | refine blk_drew ?_ | refine blk_alloc ?_ _)); exact BK154.out)) : gb156 ≠ gb154)); clear BK153; clear BK154; clear HB; have BK153 := n0; have BK154 := n1; have HB := n2; have BK156 := n3; have GW156 := n4; have GE156 := n5; have NB153_156 := n6; have NB156_153 := n7; have NB154_156 := n8; have NB156_154 := n9; clear n0 n1 n2 n3 n4 n5 n6 n7 n8 n9; clear hb hbox hg; have hnb54 := NB156_153.out; have hnc54 := NB153_156.out; have hnb55 := NB156_154.out; have hnc55 := NB154_156.out; have hcz56_0 : w53.cell? ⟨gb156, 0, none⟩ = some (.bool false) := (blk_cell BK156.out 0).trans rfl; have hcz56_1 : w53.cell? ⟨gb156, 1, none⟩ = some (.slice none 0 0) := (blk_cell BK156.out 1).trans rfl; have hfz56_0 := blk_frozen BK156.out 0; have hfz56_1 := blk_frozen BK156.out 1; have hcz57_0 : w53.cell? ⟨gb153, 0, none⟩ = some (.slice (some ad155) l0_0.length c0_0) := (blk_cell BK153.out 0).trans rfl; have hcz57_1 : w53.cell? ⟨gb153, 1, none⟩ = some (.int .i64 a0_1) := (blk_cell BK153.out 1).trans rfl; have hfz57_0 := blk_frozen BK153.out 0; have hfz57_1 := blk_frozen BK153.out 1; have p157 : 0 ≤ (a1 : Int) := of_decide_eq_true (by first | (with_reducible assumption) | assumption); have q157 : a1 < (l0_0.length : Int) := of_decide_eq_true (by first | (with_reducible assumption) | assumption); obtain ⟨ad157, A157_3, c157_3, e157, hx157_0, hx157_1, hx157_2, hx157_3, hl157_3, hi157_3⟩ := at_T38 HR0_0.out a1 p157 q157; (try rw [← Nbq17.out] at hx157_1); (try rw [← Nbq17.out] at hx157_2); obtain rfl : ad155 = ad157 := (by injection e157); have hn157_0 : ad155.block ≠ gb156 := Nat.ne_of_lt (Nat.lt_of_lt_of_le (by have := World.block_lt_of_cell? _ _ hx157_0; first | rwa [add_block] at this | exact this) GW156.out); have hn157_1 : ad155.block ≠ gb156 := Nat.ne_of_lt (Nat.lt_of_lt_of_le (by have := World.block_lt_of_cell? _ _ hx157_0; first | rwa [add_block] at this | exact this) GW156.out); replace hx157_0 := (HB.out.cell (World.block_lt_of_cell? w _ hx157_0)).trans hx157_0; replace hx157_1 := (HB.out.cell (World.block_lt_of_cell? w _ hx157_1)).trans hx157_1; replace hx157_2 := (HB.out.cell (World.block_lt_of_cell? w _ hx157_2)).trans hx157_2; replace hx157_3 := (HB.out.cell (World.block_lt_of_cell? w _ hx157_3)).trans hx157_3; have HR157_3 := Aside0.mk hi157_3; have HC157_3 := Aside0.mk hl157_3; clear hi157_3 hl157_3; replace hx157_0 := (cell_far (p := ⟨gb156, 0, none⟩) (by first | (rw [add_block]; exact hn157_0) | (show (Addr.add _ _).block ≠ _; rw [add_block]; exact hn157_0) | exact hn157_0) (.bool false)).trans hx157_0; replace hx157_1 := (cell_far (p := ⟨gb156, 0, none⟩) (by first | (rw [add_block]; exact hn157_0) | (show (Addr.add _ _).block ≠ _; rw [add_block]; exact hn157_0) | exact hn157_0) (.bool false)).trans hx157_1; replace hx157_2 := (cell_far (p := ⟨gb156, 0, none⟩) (by first | (rw [add_block]; exact hn157_0) | (show (Addr.add _ _).block ≠ _; rw [add_block]; exact hn157_0) | exact hn157_0) (.bool false)).trans hx157_2; replace hx157_3 := (cell_far (p := ⟨gb156, 0, none⟩) (by first | (rw [add_block]; exact hn157_0) | (show (Addr.add _ _).block ≠ _; rw [add_block]; exact hn157_0) | exact hn157_0) (.bool false)).trans hx157_3; replace hx157_0 := (cell_far (p := ⟨gb156, 1, none⟩) (by first | (rw [add_block]; exact hn157_1) | (show (Addr.add _ _).block ≠ _; rw [add_block]; exact hn157_1) | exact hn157_1) (.slice A155_3 ((rd_T38 l0_0 a1).f2.f1).length c155_3)).trans hx157_0; replace hx157_1 := (cell_far (p := ⟨gb156, 1, none⟩) (by first | (rw [add_block]; exact hn157_1) | (show (Addr.add _ _).block ≠ _; rw [add_block]; exact hn157_1) | exact hn157_1) (.slice A155_3 ((rd_T38 l0_0 a1).f2.f1).length c155_3)).trans hx157_1; replace hx157_2 := (cell_far (p := ⟨gb156, 1, none⟩) (by first | (rw [add_block]; exact hn157_1) | (show (Addr.add _ _).block ≠ _; rw [add_block]; exact hn157_1) | exact hn157_1) (.slice A155_3 ((rd_T38 l0_0 a1).f2.f1).length c155_3)).trans hx157_2; replace hx157_3 := (cell_far (p := ⟨gb156, 1, none⟩) (by first | (rw [add_block]; exact hn157_1) | (show (Addr.add _ _).block ≠ _; rw [add_block]; exact hn157_1) | exact hn157_1) (.slice A155_3 ((rd_T38 l0_0 a1).f2.f1).length c155_3)).trans hx157_3; clear hn157_0; clear hn157_1; replace p157 := eq_true p157; replace q157 := eq_true q157) | ((with_reducible refine gate_dst (N := 8) rfl ?_); refine box_event ?hg (N := 8) ?hd (cs := #[.int .i64 0, .int .i64 0, .int .i64 0, .bool false]) (t := 88) ?hr ?_; (case hd => rfl); (case hg => rfl); (case hr => first | (go_simp; done) | (go_simp; rfl)); intro gb160 hg w58 hbox hb; have n0 := Aside0.mk (blk_below (g := gb153) (o := .cells #[.slice (some ad155) l0_0.length c0_0, .int .i64 a0_1] 24 (0, 0)) (by (with_reducible repeat (first | refine blk_drewN ?_ _ | refine blk_drew ?_ | refine blk_alloc ?_ _)); refine blk_far ?_ NB153_156.out _; (with_reducible repeat (first | refine blk_drewN ?_ _ | refine blk_drew ?_ | refine blk_alloc ?_ _)); refine blk_far ?_ NB153_156.out _; (with_reducible repeat (first | refine blk_drewN ?_ _ | refine blk_drew ?_ | refine blk_alloc ?_ _)); exact BK153.out) hb); have n1 := Aside0.mk (blk_below (g := gb154) (o := .cells #[.int .i64 0, .int .i64 0, .int .i64 0, .bool false] 88 (0, 0)) (by (with_reducible repeat (first | refine blk_drewN ?_ _ | refine blk_drew ?_ | refine blk_alloc ?_ _)); refine blk_far ?_ NB154_156.out _; (with_reducible repeat (first | refine blk_drewN ?_ _ | refine blk_drew ?_ | refine blk_alloc ?_ _)); refine blk_far ?_ NB154_156.out _; (with_reducible repeat (first | refine blk_drewN ?_ _ | refine blk_drew ?_ | refine blk_alloc ?_ _)); exact BK154.out) hb); have n2 := Aside0.mk (blk_below (g := gb156) (o := .cells #[.bool false, .slice A155_3 ((rd_T38 l0_0 a1).f2.f1).length c155_3] 36 (0, 0)) (by (with_reducible repeat (first | refine blk_drewN ?_ _ | refine blk_drew ?_ | refine blk_alloc ?_ _)); refine blk_put (cs := #[.bool false, .slice none 0 0]) ?_ 1 _ rfl; (with_reducible repeat (first | refine blk_drewN ?_ _ | refine blk_drew ?_ | refine blk_alloc ?_ _)); refine blk_put (cs := #[.bool false, .slice none 0 0]) ?_ 0 _ rfl; (with_reducible repeat (first | refine blk_drewN ?_ _ | refine blk_drew ?_ | refine blk_alloc ?_ _)); exact BK156.out) hb); have n3 := Aside0.mk (below_step (by repeat (first | (with_reducible first | exact HB.out | apply below_alloc | apply pw_below_drewN | apply below_drew1 | refine below_set ?_ GE153.out | refine below_set ?_ GE154.out | refine below_set ?_ GE156.out) | exact HB.out)) hb); have n4 := Aside0.mk (hbox); have n5 := Aside0.mk ((by rw [hg]; exact (below_size (by repeat (first | (with_reducible first | exact HB.out | apply below_alloc | apply pw_below_drewN | apply below_drew1 | refine below_set ?_ GE153.out | refine below_set ?_ GE154.out | refine below_set ?_ GE156.out) | exact HB.out))) : w.heap.size ≤ gb160)); have n6 := Aside0.mk ((by rw [hg]; exact (below_size (by repeat (first | (with_reducible first | exact HB.out | apply below_alloc | apply pw_below_drewN | apply below_drew1 | refine below_set ?_ GE153.out | refine below_set ?_ GE154.out | refine below_set ?_ GE156.out) | exact HB.out))) : w.heap.size ≤ gb160)); have n7 := Aside0.mk ((by rw [hg]; exact Nat.ne_of_lt (blk_lt (g := gb153) (o := .cells #[.slice (some ad155) l0_0.length c0_0, .int .i64 a0_1] 24 (0, 0)) (by (with_reducible repeat (first | refine blk_drewN ?_ _ | refine blk_drew ?_ | refine blk_alloc ?_ _)); refine blk_far ?_ NB153_156.out _; (with_reducible repeat (first | refine blk_drewN ?_ _ | refine blk_drew ?_ | refine blk_alloc ?_ _)); refine blk_far ?_ NB153_156.out _; (with_reducible repeat (first | refine blk_drewN ?_ _ | refine blk_drew ?_ | refine blk_alloc ?_ _)); exact BK153.out)) : gb153 ≠ gb160)); have n8 := Aside0.mk ((by rw [hg]; exact Nat.ne_of_gt (blk_lt (g := gb153) (o := .cells #[.slice (some ad155) l0_0.length c0_0, .int .i64 a0_1] 24 (0, 0)) (by (with_reducible repeat (first | refine blk_drewN ?_ _ | refine blk_drew ?_ | refine blk_alloc ?_ _)); refine blk_far ?_ NB153_156.out _; (with_reducible repeat (first | refine blk_drewN ?_ _ | refine blk_drew ?_ | refine blk_alloc ?_ _)); refine blk_far ?_ NB153_156.out _; (with_reducible repeat (first | refine blk_drewN ?_ _ | refine blk_drew ?_ | refine blk_alloc ?_ _)); exact BK153.out)) : gb160 ≠ gb153)); have n9 := Aside0.mk ((by rw [hg]; exact Nat.ne_of_lt (blk_lt (g := gb154) (o := .cells #[.int .i64 0, .int .i64 0, .int .i64 0, .bool false] 88 (0, 0)) (by (with_reducible repeat (first | refine blk_drewN ?_ _ | refine blk_drew ?_ | refine blk_alloc ?_ _)); refine blk_far ?_ NB154_156.out _; (with_reducible repeat (first | refine blk_drewN ?_ _ | refine blk_drew ?_ | refine blk_alloc ?_ _)); refine blk_far ?_ NB154_156.out _; (with_reducible repeat (first | refine blk_drewN ?_ _ | refine blk_drew ?_ | refine blk_alloc ?_ _)); exact BK154.out)) : gb154 ≠ gb160)); have n10 := Aside0.mk ((by rw [hg]; exact Nat.ne_of_gt (blk_lt (g := gb154) (o := .cells #[.int .i64 0, .int .i64 0, .int .i64 0, .bool false] 88 (0, 0)) (by (with_reducible repeat (first | refine blk_drewN ?_ _ | refine blk_drew ?_ | refine blk_alloc ?_ _)); refine blk_far ?_ NB154_156.out _; (with_reducible repeat (first | refine blk_drewN ?_ _ | refine blk_drew ?_ | refine blk_alloc ?_ _)); refine blk_far ?_ NB154_156.out _; (with_reducible repeat (first | refine blk_drewN ?_ _ | refine blk_drew ?_ | refine blk_alloc ?_ _)); exact BK154.out)) : gb160 ≠ gb154)); have n11 := Aside0.mk ((by rw [hg]; exact Nat.ne_of_lt (blk_lt (g := gb156) (o := .cells #[.bool false, .slice A155_3 ((rd_T38 l0_0 a1).f2.f1).length c155_3] 36 (0, 0)) (by (with_reducible repeat (first | refine blk_drewN ?_ _ | refine blk_drew ?_ | refine blk_alloc ?_ _)); refine blk_put (cs := #[.bool false, .slice none 0 0]) ?_ 1 _ rfl; (with_reducible repeat (first | refine blk_drewN ?_ _ | refine blk_drew ?_ | refine blk_alloc ?_ _)); refine blk_put (cs := #[.bool false, .slice none 0 0]) ?_ 0 _ rfl; (with_reducible repeat (first | refine blk_drewN ?_ _ | refine blk_drew ?_ | refine blk_alloc ?_ _)); exact BK156.out)) : gb156 ≠ gb160)); have n12 := Aside0.mk ((by rw [hg]; exact Nat.ne_of_gt (blk_lt (g := gb156) (o := .cells #[.bool false, .slice A155_3 ((rd_T38 l0_0 a1).f2.f1).length c155_3] 36 (0, 0)) (by (with_reducible repeat (first | refine blk_drewN ?_ _ | refine blk_drew ?_ | refine blk_alloc ?_ _)); refine blk_put (cs := #[.bool false, .slice none 0 0]) ?_ 1 _ rfl; (with_reducible repeat (first | refine blk_drewN ?_ _ | refine blk_drew ?_ | refine blk_alloc ?_ _)); refine blk_put (cs := #[.bool false, .slice none 0 0]) ?_ 0 _ rfl; (with_reducible repeat (first | refine blk_drewN ?_ _ | refine blk_drew ?_ | refine blk_alloc ?_ _)); exact BK156.out)) : gb160 ≠ gb156)); clear BK153; clear BK154; clear BK156; clear HB; have BK153 := n0; have BK154 := n1; have BK156 := n2; have HB := n3; have BK160 := n4; have GW160 := n5; have GE160 := n6; have NB153_160 := n7; have NB160_153 := n8; have NB154_160 := n9; have NB160_154 := n10; have NB156_160 := n11; have NB160_156 := n12; clear n0 n1 n2 n3 n4 n5 n6 n7 n8 n9 n10 n11 n12; clear hb hbox hg; have hnb59 := NB160_153.out; have hnc59 := NB153_160.out; have hnb60 := NB160_154.out; have hnc60 := NB154_160.out; have hnb61 := NB160_156.out; have hnc61 := NB156_160.out; have hcz62_0 : w58.cell? ⟨gb160, 0, none⟩ = some (.int .i64 0) := (blk_cell BK160.out 0).trans rfl; have hcz62_1 : w58.cell? ⟨gb160, 1, none⟩ = some (.int .i64 0) := (blk_cell BK160.out 1).trans rfl; have hcz62_2 : w58.cell? ⟨gb160, 2, none⟩ = some (.int .i64 0) := (blk_cell BK160.out 2).trans rfl; have hcz62_3 : w58.cell? ⟨gb160, 3, none⟩ = some (.bool false) := (blk_cell BK160.out 3).trans rfl; have hfz62_0 := blk_frozen BK160.out 0; have hfz62_1 := blk_frozen BK160.out 1; have hfz62_2 := blk_frozen BK160.out 2; have hfz62_3 := blk_frozen BK160.out 3))
      go_loopg [9] k (fun kq v9 w' => ∃ (x9_1 : Int) (x155000_1 : Int) (x155001_1 : Int) (x155002_1 : Int) (x155003_1 : Bool) (x161000_1 : Int) (x161001_1 : Int) (x161002_1 : Int), v9 = .int .i64 x9_1 ∧ Aside0 (assartref07_below.l0 kq a2 x9_1 l0_0 a0_1 false ((rd_T38 l0_0 a1).f2.f1) x161000_1 x161001_1 x161002_1 false = some (r1, r2, r3, r4)) ∧ Aside0 (kq ≤ k) ∧ Aside0 (w'.heap[gb153]? = some (.cells #[(.slice (some ad155) l0_0.length c0_0), .int .i64 a0_1] 24 (0, 0))) ∧ Aside0 (w'.heap[gb154]? = some (.cells #[.int .i64 x155000_1, .int .i64 x155001_1, .int .i64 x155002_1, .bool x155003_1] 88 (0, 0))) ∧ Aside0 (w'.heap[gb156]? = some (.cells #[.bool false, (.slice A155_3 ((rd_T38 l0_0 a1).f2.f1).length c155_3)] 36 (0, 0))) ∧ Aside0 (w'.heap[gb160]? = some (.cells #[.int .i64 x161000_1, .int .i64 x161001_1, .int .i64 x161002_1, .bool false] 88 (0, 0))) ∧ Aside0 (Below w.heap.size w w'))
      case atStart => exact ⟨(0), (0), (0), (0), (false), (0), (0), (0), (by first | rfl | (simp; done) | (simp [*]; done)), H', ⟨Nat.le_refl _⟩, ⟨by (with_reducible repeat (first | refine blk_drewN ?_ _ | refine blk_drew ?_ | refine blk_alloc ?_ _)); refine blk_far ?_ NB153_160.out _; (with_reducible repeat (first | refine blk_drewN ?_ _ | refine blk_drew ?_ | refine blk_alloc ?_ _)); refine blk_far ?_ NB153_160.out _; (with_reducible repeat (first | refine blk_drewN ?_ _ | refine blk_drew ?_ | refine blk_alloc ?_ _)); refine blk_far ?_ NB153_160.out _; (with_reducible repeat (first | refine blk_drewN ?_ _ | refine blk_drew ?_ | refine blk_alloc ?_ _)); refine blk_far ?_ NB153_160.out _; (with_reducible repeat (first | refine blk_drewN ?_ _ | refine blk_drew ?_ | refine blk_alloc ?_ _)); exact BK153.out⟩, ⟨by (with_reducible repeat (first | refine blk_drewN ?_ _ | refine blk_drew ?_ | refine blk_alloc ?_ _)); refine blk_far ?_ NB154_160.out _; (with_reducible repeat (first | refine blk_drewN ?_ _ | refine blk_drew ?_ | refine blk_alloc ?_ _)); refine blk_far ?_ NB154_160.out _; (with_reducible repeat (first | refine blk_drewN ?_ _ | refine blk_drew ?_ | refine blk_alloc ?_ _)); refine blk_far ?_ NB154_160.out _; (with_reducible repeat (first | refine blk_drewN ?_ _ | refine blk_drew ?_ | refine blk_alloc ?_ _)); refine blk_far ?_ NB154_160.out _; (with_reducible repeat (first | refine blk_drewN ?_ _ | refine blk_drew ?_ | refine blk_alloc ?_ _)); exact BK154.out⟩, ⟨by (with_reducible repeat (first | refine blk_drewN ?_ _ | refine blk_drew ?_ | refine blk_alloc ?_ _)); refine blk_far ?_ NB156_160.out _; (with_reducible repeat (first | refine blk_drewN ?_ _ | refine blk_drew ?_ | refine blk_alloc ?_ _)); refine blk_far ?_ NB156_160.out _; (with_reducible repeat (first | refine blk_drewN ?_ _ | refine blk_drew ?_ | refine blk_alloc ?_ _)); refine blk_far ?_ NB156_160.out _; (with_reducible repeat (first | refine blk_drewN ?_ _ | refine blk_drew ?_ | refine blk_alloc ?_ _)); refine blk_far ?_ NB156_160.out _; (with_reducible repeat (first | refine blk_drewN ?_ _ | refine blk_drew ?_ | refine blk_alloc ?_ _)); exact BK156.out⟩, ⟨by (with_reducible repeat (first | refine blk_drewN ?_ _ | refine blk_drew ?_ | refine blk_alloc ?_ _)); refine blk_put (cs := #[.int .i64 0, .int .i64 0, .int .i64 0, .bool false]) ?_ 3 _ rfl; (with_reducible repeat (first | refine blk_drewN ?_ _ | refine blk_drew ?_ | refine blk_alloc ?_ _)); refine blk_put (cs := #[.int .i64 0, .int .i64 0, .int .i64 0, .bool false]) ?_ 2 _ rfl; (with_reducible repeat (first | refine blk_drewN ?_ _ | refine blk_drew ?_ | refine blk_alloc ?_ _)); refine blk_put (cs := #[.int .i64 0, .int .i64 0, .int .i64 0, .bool false]) ?_ 1 _ rfl; (with_reducible repeat (first | refine blk_drewN ?_ _ | refine blk_drew ?_ | refine blk_alloc ?_ _)); refine blk_put (cs := #[.int .i64 0, .int .i64 0, .int .i64 0, .bool false]) ?_ 0 _ rfl; (with_reducible repeat (first | refine blk_drewN ?_ _ | refine blk_drew ?_ | refine blk_alloc ?_ _)); exact BK160.out⟩, ⟨by repeat (first | (with_reducible first | exact HB.out | apply below_alloc | apply pw_below_drewN | apply below_drew1 | refine below_set ?_ GE153.out | refine below_set ?_ GE154.out | refine below_set ?_ GE156.out | refine below_set ?_ GE160.out) | exact HB.out)⟩⟩
      case round =>
       clear H'
       try clear c1
       try clear p1
       try clear q1
       try clear hx1
       try clear qi1
       try clear c2
       try clear p2
       try clear c3
       try clear c4
       try clear c4b0
       try clear c5
       try clear c5b0
       try clear c6
       try clear c6b0
       try clear p6
       try clear c9
       try clear c12
       try clear c13
       try clear c15
       try clear p15
       try clear q15
       try clear hx15
       try clear qi15
       try clear q17
       try clear c18
       try clear c19
       try clear c19b0
       try clear c19b1
       try clear c21
       try clear c21b0
       try clear c22
       try clear c22b0
       try clear c25
       try clear c28
       try clear c29
       try clear c38
       try clear c38b0
       try clear c41
       try clear c44
       try clear c45
       try clear c46
       try clear c51
       try clear c54
       try clear c55
       try clear c59
       try clear c60
       try clear c61
       try clear hcz10_0
       try clear hcz10_1
       try clear hcz14_0
       try clear hcz14_1
       try clear hcz15_0
       try clear hcz15_1
       try clear hcz16_0
       try clear hcz16_1
       try clear hcz16_2
       try clear hcz16_3
       try clear hcz26_0
       try clear hcz26_1
       try clear hcz30_0
       try clear hcz30_1
       try clear hcz31_0
       try clear hcz31_1
       try clear hcz42_0
       try clear hcz42_1
       try clear hcz46_0
       try clear hcz46_1
       try clear hcz47_0
       try clear hcz47_1
       try clear hcz48_0
       try clear hcz48_1
       try clear hcz48_2
       try clear hcz48_3
       try clear hcz52_0
       try clear hcz52_1
       try clear hcz56_0
       try clear hcz56_1
       try clear hcz57_0
       try clear hcz57_1
       try clear hcz62_0
       try clear hcz62_1
       try clear hcz62_2
       try clear hcz62_3
       try clear hfz10_0
       try clear hfz10_1
       try clear hfz14_0
       try clear hfz14_1
       try clear hfz15_0
       try clear hfz15_1
       try clear hfz16_0
       try clear hfz16_1
       try clear hfz16_2
       try clear hfz16_3
       try clear hfz26_0
       try clear hfz26_1
       try clear hfz30_0
       try clear hfz30_1
       try clear hfz31_0
       try clear hfz31_1
       try clear hfz42_0
       try clear hfz42_1
       try clear hfz46_0
       try clear hfz46_1
       try clear hfz47_0
       try clear hfz47_1
       try clear hfz48_0
       try clear hfz48_1
       try clear hfz48_2
       try clear hfz48_3
       try clear hfz52_0
       try clear hfz52_1
       try clear hfz56_0
       try clear hfz56_1
       try clear hfz57_0
       try clear hfz57_1
       try clear hfz62_0
       try clear hfz62_1
       try clear hfz62_2
       try clear hfz62_3
       try clear hx155_0
       try clear hx155_1
       try clear hx155_2
       try clear hx155_3
       try clear hx157_0
       try clear hx157_1
       try clear hx157_2
       try clear hx157_3
       try clear hx158_0
       try clear hx158_1
       try clear hx159_0
       try clear hx159_1
       try clear p155
       try clear p157
       try clear p158
       try clear p159
       try clear q155
       try clear q157
       try clear q158
       try clear q159
       obtain ⟨x9_1, x155000_1, x155001_1, x155002_1, x155003_1, x161000_1, x161001_1, x161002_1, rfl, HA, HK1, BK153, BK154, BK156, BK160, HB⟩ := hrel
       cases gk with
       | zero => exact absurd HA.out (by simp [assartref07_below.l0])
       | succ k1 =>
        have H := HA.out
        clear HA
        simp only [assartref07_below.l0] at H
        by_cases c63 : x9_1 < (((rd_T38 l0_0 a1).f2.f1).length : Int)
        ·rw [if_pos c63] at H
         have c63b0 : decide (x9_1 < (((rd_T38 l0_0 a1).f2.f1).length : Int)) = true := decide_eq_true c63
         clear c63
         by_cases c64 : 0 ≤ x9_1
         ·rw [if_pos c64] at H
          have c64b0 : decide (0 ≤ x9_1) = true := decide_eq_true c64
          clear c64
          replace H := Option.bind_eq_some_iff.mp H
          obtain ⟨⟨t162, t163, t164, t165⟩, A650, H⟩ := H
          replace H : (if t165 = true then (if t162 = ((rd_T46 ((rd_T38 l0_0 a1).f2.f1) x9_1).f0) then (if x9_1 > 0 then (if x161001_1 ≥ t162 then (assartref07_below.j1 k1 a2 x9_1 true l0_0 a0_1 false ((rd_T38 l0_0 a1).f2.f1) x161000_1 x161001_1 x161002_1 false t162 t163 t164 t165) else (assartref07_below.j1 k1 a2 x9_1 (x161002_1 != (wrap64 (t164 + 1))) l0_0 a0_1 false ((rd_T38 l0_0 a1).f2.f1) x161000_1 x161001_1 x161002_1 false t162 t163 t164 t165)) else (assartref07_below.j1 k1 a2 x9_1 false l0_0 a0_1 false ((rd_T38 l0_0 a1).f2.f1) x161000_1 x161001_1 x161002_1 false t162 t163 t164 t165)) else (assartref07_below.j1 k1 a2 x9_1 true l0_0 a0_1 false ((rd_T38 l0_0 a1).f2.f1) x161000_1 x161001_1 x161002_1 false t162 t163 t164 t165)) else (assartref07_below.j1 k1 a2 x9_1 true l0_0 a0_1 false ((rd_T38 l0_0 a1).f2.f1) x161000_1 x161001_1 x161002_1 false t162 t163 t164 t165)) = some (r1, r2, r3, r4) := H
          have A65 := Aside0.mk A650
          clear A650
          have HC66 := Aside0.mk H
          clear H
          have hnb67 := NB156_153.out
          have hnc67 := NB153_156.out
          have hnb68 := NB156_154.out
          have hnc68 := NB154_156.out
          have hnb69 := NB156_160.out
          have hnc69 := NB160_156.out
          have hcz70_0 : wr.cell? ⟨gb156, 0, none⟩ = some (.bool false) := (blk_cell BK156.out 0).trans rfl
          have hcz70_1 : wr.cell? ⟨gb156, 1, none⟩ = some (.slice A155_3 ((rd_T38 l0_0 a1).f2.f1).length c155_3) := (blk_cell BK156.out 1).trans rfl
          have hfz70_0 := blk_frozen BK156.out 0
          have hfz70_1 := blk_frozen BK156.out 1
          try go_wp2
          have n0 := Aside0.mk (blk_drew BK153.out)
          have n1 := Aside0.mk (blk_drew BK154.out)
          have n2 := Aside0.mk (blk_drew BK156.out)
          have n3 := Aside0.mk (blk_drew BK160.out)
          have n4 := Aside0.mk (below_drew1 HB.out)
          clear BK153
          clear BK154
          clear BK156
          clear BK160
          clear HB
          have BK153 := n0
          have BK154 := n1
          have BK156 := n2
          have BK160 := n3
          have HB := n4
          clear n0 n1 n2 n3 n4
          have p161 : 0 ≤ (x9_1 : Int) := of_decide_eq_true (by first | (with_reducible assumption) | assumption)
          have q161 : x9_1 < (((rd_T38 l0_0 a1).f2.f1).length : Int) := of_decide_eq_true (by first | (with_reducible assumption) | assumption)
          obtain ⟨ad161, e161, hx161_0, hx161_1⟩ := at_T46 HR155_3.out x9_1 p161 q161
          have hw161_1 := hx161_1
          have hw161_0 := hx161_0
          cases e161
          replace hx161_0 := (HB.out.cell (World.block_lt_of_cell? w _ hx161_0)).trans hx161_0
          replace hx161_1 := (HB.out.cell (World.block_lt_of_cell? w _ hx161_1)).trans hx161_1
          replace p161 := eq_true p161
          replace q161 := eq_true q161
          refine start_ (n := 12) (S := fun w' => w'.cell? ⟨gb153, 0, none⟩ = some (.slice (some ad155) l0_0.length c0_0) ∧ w'.cell? ⟨gb153, 1, none⟩ = some (.int .i64 a0_1) ∧ w'.cell? ⟨gb156, 0, none⟩ = some (.bool false) ∧ w'.cell? ⟨gb156, 1, none⟩ = some (.slice (some ad161) ((rd_T38 l0_0 a1).f2.f1).length c155_3) ∧ w'.cell? (ad161.add ((x9_1).toNat * 2)) = some (.int .i64 ((rd_T46 ((rd_T38 l0_0 a1).f2.f1) x9_1).f0)) ∧ w'.cell? ⟨(ad161.add ((x9_1).toNat * 2)).block, (ad161.add ((x9_1).toNat * 2)).off + 1, none⟩ = some (.int .i64 ((rd_T46 ((rd_T38 l0_0 a1).f2.f1) x9_1).f1))) (ds := []) #[false, false, false, false, false, false, false, false, false, false, false, false] (by kernel_rfl) rfl rfl ⟨(blk_cell BK153.out 0).trans rfl, (blk_cell BK153.out 1).trans rfl, (blk_cell BK156.out 0).trans rfl, (blk_cell BK156.out 1).trans rfl, ((HB.out.cell (World.block_lt_of_cell? w _ hw161_0)).trans hw161_0), ((HB.out.cell (World.block_lt_of_cell? w _ hw161_1)).trans hw161_1)⟩ (fun hHeld => ?_); refine with_tabW assartref07_below.tab12 assartref07_below.bits12 (fun HT_ HW_ => ?_)
          generalize wr.drew = w71 at BK153 BK154 BK156 BK160 HB hx161_0 hx161_1 hHeld ⊢
          refine pure_ (i := 1) (N := some 56) (v := ?_) (a' := ?_) #[false, true, false, false, false, false, false, false, false, false, false, false] rfl rfl (any_of HT_.out (by kernel_rfl)) (fun _ _ _ h => h) (Or.inl ⟨by rfl, ?_⟩) ?_ ?_
          rotate_left
          ·intro w'
           go_simp
           with_reducible rfl
          rotate_left
          ·simp only [Act.put, List.setIfInBounds_toArray, List.set_cons_zero, List.set_cons_succ, i64_w, i32_w]
           rfl
          refine pure_ (i := 3) (N := some 58) (v := ?_) (a' := ?_) #[false, true, false, true, false, false, false, false, false, false, false, false] rfl rfl (any_of HT_.out (by kernel_rfl)) (fun _ _ _ h => h) (Or.inl ⟨by rfl, ?_⟩) ?_ ?_
          rotate_left
          ·intro w'
           go_simp
           with_reducible rfl
          rotate_left
          ·simp only [Act.put, List.setIfInBounds_toArray, List.set_cons_zero, List.set_cons_succ, i64_w, i32_w]
           rfl
          refine pure_ (i := 7) (N := some 62) (v := ?_) (a' := ?_) #[false, true, false, true, false, false, false, true, false, false, false, false] rfl rfl (any_of HT_.out (by kernel_rfl)) (fun _ _ _ h => h) (Or.inl ⟨by rfl, ?_⟩) ?_ ?_
          rotate_left
          ·intro w'
           go_simp
           with_reducible rfl
          rotate_left
          ·simp only [Act.put, List.setIfInBounds_toArray, List.set_cons_zero, List.set_cons_succ, i64_w, i32_w]
           rfl
          refine pure_ (i := 8) (N := some 63) (v := ?_) (a' := ?_) #[false, true, false, true, false, false, false, true, true, false, false, false] rfl rfl (any_of HT_.out (by kernel_rfl)) (fun _ _ _ h => h) (Or.inl ⟨by rfl, ?_⟩) ?_ ?_
          rotate_left
          ·intro w'
           go_simp
           with_reducible rfl
          rotate_left
          ·simp only [Act.put, List.setIfInBounds_toArray, List.set_cons_zero, List.set_cons_succ, i64_w, i32_w]
           rfl
          refine take_ (i := 0) (N := some 55) (v := ?_) (a' := ?_) #[true, true, false, true, false, false, false, true, true, false, false, false] rfl rfl (take_ofW HT_.out HW_.out (by kernel_rfl)) (fun _ _ _ h => h) (Or.inl ⟨by rfl, ?_⟩) hHeld ?_ ?_
          rotate_left
          ·rintro w' ⟨s0, s1, s2, s3, s4, s5⟩
           go_simp
           with_reducible rfl
          rotate_left
          ·simp only [Act.put, List.setIfInBounds_toArray, List.set_cons_zero, List.set_cons_succ, i64_w, i32_w]
           rfl
          refine take_ (i := 2) (N := some 57) (v := ?_) (a' := ?_) #[true, true, true, true, false, false, false, true, true, false, false, false] rfl rfl (take_ofW HT_.out HW_.out (by kernel_rfl)) (fun _ _ _ h => h) (Or.inl ⟨by rfl, ?_⟩) hHeld ?_ ?_
          rotate_left
          ·rintro w' ⟨s0, s1, s2, s3, s4, s5⟩
           go_simp
           with_reducible rfl
          rotate_left
          ·simp only [Act.put, List.setIfInBounds_toArray, List.set_cons_zero, List.set_cons_succ, i64_w, i32_w]
           rfl
          refine pure_ (i := 4) (N := some 59) (v := ?_) (a' := ?_) #[true, true, true, true, true, false, false, true, true, false, false, false] rfl rfl (any_of HT_.out (by kernel_rfl)) (fun _ _ _ h => h) (Or.inl ⟨by rfl, ?_⟩) ?_ ?_
          rotate_left
          ·intro w'
           go_simp
           with_reducible rfl
          rotate_left
          ·simp only [Act.put, List.setIfInBounds_toArray, List.set_cons_zero, List.set_cons_succ, i64_w, i32_w]
           rfl
          refine pure_ (i := 5) (N := some 60) (v := ?_) (a' := ?_) #[true, true, true, true, true, true, false, true, true, false, false, false] rfl rfl (any_of HT_.out (by kernel_rfl)) (fun _ _ _ h => h) (Or.inl ⟨by rfl, ?_⟩) ?_ ?_
          rotate_left
          ·intro w'
           go_simp
           with_reducible rfl
          rotate_left
          ·simp only [Act.put, List.setIfInBounds_toArray, List.set_cons_zero, List.set_cons_succ, i64_w, i32_w]
           rfl
          refine take_ (i := 6) (N := some 61) (v := ?_) (a' := ?_) #[true, true, true, true, true, true, true, true, true, false, false, false] rfl rfl (take_ofW HT_.out HW_.out (by kernel_rfl)) (fun _ _ _ h => h) (Or.inl ⟨by rfl, ?_⟩) hHeld ?_ ?_
          rotate_left
          ·rintro w' ⟨s0, s1, s2, s3, s4, s5⟩
           go_simp
           with_reducible rfl
          rotate_left
          ·simp only [Act.put, List.setIfInBounds_toArray, List.set_cons_zero, List.set_cons_succ, i64_w, i32_w]
           rfl
          refine join_ (σ := Nat) 1 #[true, true, true, true, true, true, true, true, true, true, true, false] (fun s_ => [(64, .agg #[.int .i64 t162, .int .i64 t163, .int .i64 t164, .bool t165]), (10, .pointer (some ⟨s_, 0, none⟩))]) (fun s_ w' => (w'.cell? ⟨gb153, 0, none⟩ = some (.slice (some ad155) l0_0.length c0_0) ∧ w'.cell? ⟨gb153, 1, none⟩ = some (.int .i64 a0_1) ∧ w'.cell? ⟨gb156, 0, none⟩ = some (.bool false) ∧ w'.cell? ⟨gb156, 1, none⟩ = some (.slice (some ad161) ((rd_T38 l0_0 a1).f2.f1).length c155_3) ∧ w'.cell? (ad161.add ((x9_1).toNat * 2)) = some (.int .i64 ((rd_T46 ((rd_T38 l0_0 a1).f2.f1) x9_1).f0)) ∧ w'.cell? ⟨(ad161.add ((x9_1).toNat * 2)).block, (ad161.add ((x9_1).toNat * 2)).off + 1, none⟩ = some (.int .i64 ((rd_T46 ((rd_T38 l0_0 a1).f2.f1) x9_1).f1))) ∧ (w'.heap[gb153]? = some (.cells #[.slice (some ad155) l0_0.length c0_0, .int .i64 a0_1] 24 (0, 0))) ∧ (w'.heap[gb154]? = some (.cells #[.int .i64 x155000_1, .int .i64 x155001_1, .int .i64 x155002_1, .bool x155003_1] 88 (0, 0))) ∧ (w'.heap[gb156]? = some (.cells #[.bool false, .slice (some ad161) ((rd_T38 l0_0 a1).f2.f1).length c155_3] 36 (0, 0))) ∧ (w'.heap[gb160]? = some (.cells #[.int .i64 x161000_1, .int .i64 x161001_1, .int .i64 x161002_1, .bool false] 88 (0, 0))) ∧ (w'.heap[s_]? = some (.cells #[.int .i64 0, .int .i64 0, .int .i64 0, .bool false] 88 (0, 0))) ∧ (w.heap.size ≤ s_) ∧ (w.heap.size ≤ s_) ∧ (gb153 ≠ s_) ∧ (s_ ≠ gb153) ∧ (gb154 ≠ s_) ∧ (s_ ≠ gb154) ∧ (gb156 ≠ s_) ∧ (s_ ≠ gb156) ∧ (gb160 ≠ s_) ∧ (s_ ≠ gb160) ∧ (Below w.heap.size w w')) ?_ ?_
          rotate_left
          ·intro hCont
           refine two_ (i := 9) (j := 10) (Ni := some 64) (Nj := some 10) #[true, true, true, true, true, true, true, true, true, true, false, false] #[true, true, true, true, true, true, true, true, true, false, true, false] rfl rfl rfl rfl (two_of HT_.out (by kernel_rfl)) (by decide) (by decide) (fun K hK => ?_) (fun K hK => ?_)
           ·skip
            refine goes_ Try.func46 (by kernel_rfl) rfl #[.agg #[.slice (some ad155) l0_0.length c0_0, .int .i64 a0_1], .int .i64 ((rd_T46 ((rd_T38 l0_0 a1).f2.f1) x9_1).f1), .int .i64 (wrap64 (a2 - 1))] (by rfl) rfl rfl (by (try simp only [List.map_toArray, List.map_cons, List.map_nil]); first | done | rfl | (simp only [List.length_drop, List.length_take]; rfl)) ?_
            with_reducible refine (ih k1 (by have := HK1.out; omega) _ _ l0_0 a0_1 ((rd_T46 ((rd_T38 l0_0 a1).f2.f1) x9_1).f1) (wrap64 (a2 - 1)) t162 t163 t164 t165 _ ?side1 ?side2 A65.out).mono ?_
            (case side1 => repeat (first | exact (Kd.C_below HR0_0.out HB.out) | (with_reducible refine Kd.C_alloc ?_ _) | (with_reducible refine Kd.C_drewN ?_ _) | (with_reducible refine Kd.C_drew ?_)))
            (case side2 => exact HC0_0.out)
            rintro e w72 ⟨rfl, hb⟩
            refine ⟨_, rfl, ?_⟩
            have n0 := Aside0.mk (blk_below (g := gb153) (o := .cells #[.slice (some ad155) l0_0.length c0_0, .int .i64 a0_1] 24 (0, 0)) (by (with_reducible repeat (first | refine blk_drewN ?_ _ | refine blk_drew ?_ | refine blk_alloc ?_ _)); exact BK153.out) hb)
            have n1 := Aside0.mk (blk_below (g := gb154) (o := .cells #[.int .i64 x155000_1, .int .i64 x155001_1, .int .i64 x155002_1, .bool x155003_1] 88 (0, 0)) (by (with_reducible repeat (first | refine blk_drewN ?_ _ | refine blk_drew ?_ | refine blk_alloc ?_ _)); exact BK154.out) hb)
            have n2 := Aside0.mk (blk_below (g := gb156) (o := .cells #[.bool false, .slice (some ad161) ((rd_T38 l0_0 a1).f2.f1).length c155_3] 36 (0, 0)) (by (with_reducible repeat (first | refine blk_drewN ?_ _ | refine blk_drew ?_ | refine blk_alloc ?_ _)); exact BK156.out) hb)
            have n3 := Aside0.mk (blk_below (g := gb160) (o := .cells #[.int .i64 x161000_1, .int .i64 x161001_1, .int .i64 x161002_1, .bool false] 88 (0, 0)) (by (with_reducible repeat (first | refine blk_drewN ?_ _ | refine blk_drew ?_ | refine blk_alloc ?_ _)); exact BK160.out) hb)
            have n4 := Aside0.mk (below_step (by repeat (first | (with_reducible first | exact HB.out | apply below_alloc | apply pw_below_drewN | apply below_drew1 | refine below_set ?_ GE153.out | refine below_set ?_ GE154.out | refine below_set ?_ GE156.out | refine below_set ?_ GE160.out) | exact HB.out)) hb)
            clear BK153
            clear BK154
            clear BK156
            clear BK160
            clear HB
            have BK153 := n0
            have BK154 := n1
            have BK156 := n2
            have BK160 := n3
            have HB := n4
            clear n0 n1 n2 n3 n4
            (try clear hb)
            (try clear hb2)
            (try clear hk)
            (try clear hi)
            refine hK.out _ _ ⟨(blk_cell BK153.out 0).trans rfl, (blk_cell BK153.out 1).trans rfl, (blk_cell BK156.out 0).trans rfl, (blk_cell BK156.out 1).trans rfl, ((HB.out.cell (World.block_lt_of_cell? w _ hw161_0)).trans hw161_0), ((HB.out.cell (World.block_lt_of_cell? w _ hw161_1)).trans hw161_1)⟩ (fun hHeld => ?_)
            clear hK K
            refine norm_ (a' := ?_) ?_ ?_
            rotate_left
            ·show Act.put _ (some 64) _ = _
             simp only [Act.put, List.setIfInBounds_toArray, List.set_cons_zero, List.set_cons_succ, i64_w, i32_w]
             rfl
            refine one_ (i := 10) (N := some 10) #[true, true, true, true, true, true, true, true, true, true, true, false] rfl rfl (one_of HT_.out (by kernel_rfl)) (by decide) (fun K hK => ?_)
            refine box_step ?hg (N := 10) ?hd (cs := #[.int .i64 0, .int .i64 0, .int .i64 0, .bool false]) (t := 88) ?hr ?_; (case hd => rfl); (case hg => rfl); (case hr => first | (go_simp; done) | (go_simp; rfl))
            intro gb166 hg w73 hbox hb
            have n0 := Aside0.mk (blk_below (g := gb153) (o := .cells #[.slice (some ad155) l0_0.length c0_0, .int .i64 a0_1] 24 (0, 0)) (by (with_reducible repeat (first | refine blk_drewN ?_ _ | refine blk_drew ?_ | refine blk_alloc ?_ _)); exact BK153.out) hb)
            have n1 := Aside0.mk (blk_below (g := gb154) (o := .cells #[.int .i64 x155000_1, .int .i64 x155001_1, .int .i64 x155002_1, .bool x155003_1] 88 (0, 0)) (by (with_reducible repeat (first | refine blk_drewN ?_ _ | refine blk_drew ?_ | refine blk_alloc ?_ _)); exact BK154.out) hb)
            have n2 := Aside0.mk (blk_below (g := gb156) (o := .cells #[.bool false, .slice (some ad161) ((rd_T38 l0_0 a1).f2.f1).length c155_3] 36 (0, 0)) (by (with_reducible repeat (first | refine blk_drewN ?_ _ | refine blk_drew ?_ | refine blk_alloc ?_ _)); exact BK156.out) hb)
            have n3 := Aside0.mk (blk_below (g := gb160) (o := .cells #[.int .i64 x161000_1, .int .i64 x161001_1, .int .i64 x161002_1, .bool false] 88 (0, 0)) (by (with_reducible repeat (first | refine blk_drewN ?_ _ | refine blk_drew ?_ | refine blk_alloc ?_ _)); exact BK160.out) hb)
            have n4 := Aside0.mk (below_step (by repeat (first | (with_reducible first | exact HB.out | apply below_alloc | apply pw_below_drewN | apply below_drew1 | refine below_set ?_ GE153.out | refine below_set ?_ GE154.out | refine below_set ?_ GE156.out | refine below_set ?_ GE160.out) | exact HB.out)) hb)
            have n5 := Aside0.mk (hbox)
            have n6 := Aside0.mk ((by rw [hg]; exact (below_size (by repeat (first | (with_reducible first | exact HB.out | apply below_alloc | apply pw_below_drewN | apply below_drew1 | refine below_set ?_ GE153.out | refine below_set ?_ GE154.out | refine below_set ?_ GE156.out | refine below_set ?_ GE160.out) | exact HB.out))) : w.heap.size ≤ gb166))
            have n7 := Aside0.mk ((by rw [hg]; exact (below_size (by repeat (first | (with_reducible first | exact HB.out | apply below_alloc | apply pw_below_drewN | apply below_drew1 | refine below_set ?_ GE153.out | refine below_set ?_ GE154.out | refine below_set ?_ GE156.out | refine below_set ?_ GE160.out) | exact HB.out))) : w.heap.size ≤ gb166))
            have n8 := Aside0.mk ((by rw [hg]; exact Nat.ne_of_lt (blk_lt (g := gb153) (o := .cells #[.slice (some ad155) l0_0.length c0_0, .int .i64 a0_1] 24 (0, 0)) (by (with_reducible repeat (first | refine blk_drewN ?_ _ | refine blk_drew ?_ | refine blk_alloc ?_ _)); exact BK153.out)) : gb153 ≠ gb166))
            have n9 := Aside0.mk ((by rw [hg]; exact Nat.ne_of_gt (blk_lt (g := gb153) (o := .cells #[.slice (some ad155) l0_0.length c0_0, .int .i64 a0_1] 24 (0, 0)) (by (with_reducible repeat (first | refine blk_drewN ?_ _ | refine blk_drew ?_ | refine blk_alloc ?_ _)); exact BK153.out)) : gb166 ≠ gb153))
            have n10 := Aside0.mk ((by rw [hg]; exact Nat.ne_of_lt (blk_lt (g := gb154) (o := .cells #[.int .i64 x155000_1, .int .i64 x155001_1, .int .i64 x155002_1, .bool x155003_1] 88 (0, 0)) (by (with_reducible repeat (first | refine blk_drewN ?_ _ | refine blk_drew ?_ | refine blk_alloc ?_ _)); exact BK154.out)) : gb154 ≠ gb166))
            have n11 := Aside0.mk ((by rw [hg]; exact Nat.ne_of_gt (blk_lt (g := gb154) (o := .cells #[.int .i64 x155000_1, .int .i64 x155001_1, .int .i64 x155002_1, .bool x155003_1] 88 (0, 0)) (by (with_reducible repeat (first | refine blk_drewN ?_ _ | refine blk_drew ?_ | refine blk_alloc ?_ _)); exact BK154.out)) : gb166 ≠ gb154))
            have n12 := Aside0.mk ((by rw [hg]; exact Nat.ne_of_lt (blk_lt (g := gb156) (o := .cells #[.bool false, .slice (some ad161) ((rd_T38 l0_0 a1).f2.f1).length c155_3] 36 (0, 0)) (by (with_reducible repeat (first | refine blk_drewN ?_ _ | refine blk_drew ?_ | refine blk_alloc ?_ _)); exact BK156.out)) : gb156 ≠ gb166))
            have n13 := Aside0.mk ((by rw [hg]; exact Nat.ne_of_gt (blk_lt (g := gb156) (o := .cells #[.bool false, .slice (some ad161) ((rd_T38 l0_0 a1).f2.f1).length c155_3] 36 (0, 0)) (by (with_reducible repeat (first | refine blk_drewN ?_ _ | refine blk_drew ?_ | refine blk_alloc ?_ _)); exact BK156.out)) : gb166 ≠ gb156))
            have n14 := Aside0.mk ((by rw [hg]; exact Nat.ne_of_lt (blk_lt (g := gb160) (o := .cells #[.int .i64 x161000_1, .int .i64 x161001_1, .int .i64 x161002_1, .bool false] 88 (0, 0)) (by (with_reducible repeat (first | refine blk_drewN ?_ _ | refine blk_drew ?_ | refine blk_alloc ?_ _)); exact BK160.out)) : gb160 ≠ gb166))
            have n15 := Aside0.mk ((by rw [hg]; exact Nat.ne_of_gt (blk_lt (g := gb160) (o := .cells #[.int .i64 x161000_1, .int .i64 x161001_1, .int .i64 x161002_1, .bool false] 88 (0, 0)) (by (with_reducible repeat (first | refine blk_drewN ?_ _ | refine blk_drew ?_ | refine blk_alloc ?_ _)); exact BK160.out)) : gb166 ≠ gb160))
            clear BK153
            clear BK154
            clear BK156
            clear BK160
            clear HB
            have BK153 := n0
            have BK154 := n1
            have BK156 := n2
            have BK160 := n3
            have HB := n4
            have BK166 := n5
            have GW166 := n6
            have GE166 := n7
            have NB153_166 := n8
            have NB166_153 := n9
            have NB154_166 := n10
            have NB166_154 := n11
            have NB156_166 := n12
            have NB166_156 := n13
            have NB160_166 := n14
            have NB166_160 := n15
            clear n0 n1 n2 n3 n4 n5 n6 n7 n8 n9 n10 n11 n12 n13 n14 n15
            clear hb hbox hg
            refine hK.out _ _ ⟨(blk_cell BK153.out 0).trans rfl, (blk_cell BK153.out 1).trans rfl, (blk_cell BK156.out 0).trans rfl, (blk_cell BK156.out 1).trans rfl, ((HB.out.cell (World.block_lt_of_cell? w _ hw161_0)).trans hw161_0), ((HB.out.cell (World.block_lt_of_cell? w _ hw161_1)).trans hw161_1)⟩ (fun hHeld => ?_)
            clear hK K
            refine norm_ (a' := ?_) ?_ ?_
            rotate_left
            ·show Act.put _ (some 10) _ = _
             simp only [Act.put, List.setIfInBounds_toArray, List.set_cons_zero, List.set_cons_succ, i64_w, i32_w]
             rfl
            exact norm_ (by simp only [putAll, Act.put, List.setIfInBounds_toArray, List.set_cons_zero, List.set_cons_succ]) (hCont (gb166) _ ⟨hHeld, (by (with_reducible repeat (first | refine blk_drewN ?_ _ | refine blk_drew ?_ | refine blk_alloc ?_ _)); exact BK153.out), (by (with_reducible repeat (first | refine blk_drewN ?_ _ | refine blk_drew ?_ | refine blk_alloc ?_ _)); exact BK154.out), (by (with_reducible repeat (first | refine blk_drewN ?_ _ | refine blk_drew ?_ | refine blk_alloc ?_ _)); exact BK156.out), (by (with_reducible repeat (first | refine blk_drewN ?_ _ | refine blk_drew ?_ | refine blk_alloc ?_ _)); exact BK160.out), (by (with_reducible repeat (first | refine blk_drewN ?_ _ | refine blk_drew ?_ | refine blk_alloc ?_ _)); exact BK166.out), GW166.out, GE166.out, NB153_166.out, NB166_153.out, NB154_166.out, NB166_154.out, NB156_166.out, NB166_156.out, NB160_166.out, NB166_160.out, (by repeat (first | (with_reducible first | exact HB.out | apply below_alloc | apply pw_below_drewN | apply below_drew1 | refine below_set ?_ GE153.out | refine below_set ?_ GE154.out | refine below_set ?_ GE156.out | refine below_set ?_ GE160.out | refine below_set ?_ GE166.out) | exact HB.out))⟩)
           ·skip
            refine box_step ?hg (N := 10) ?hd (cs := #[.int .i64 0, .int .i64 0, .int .i64 0, .bool false]) (t := 88) ?hr ?_; (case hd => rfl); (case hg => rfl); (case hr => first | (go_simp; done) | (go_simp; rfl))
            intro gb166 hg w72 hbox hb
            have n0 := Aside0.mk (blk_below (g := gb153) (o := .cells #[.slice (some ad155) l0_0.length c0_0, .int .i64 a0_1] 24 (0, 0)) (by (with_reducible repeat (first | refine blk_drewN ?_ _ | refine blk_drew ?_ | refine blk_alloc ?_ _)); exact BK153.out) hb)
            have n1 := Aside0.mk (blk_below (g := gb154) (o := .cells #[.int .i64 x155000_1, .int .i64 x155001_1, .int .i64 x155002_1, .bool x155003_1] 88 (0, 0)) (by (with_reducible repeat (first | refine blk_drewN ?_ _ | refine blk_drew ?_ | refine blk_alloc ?_ _)); exact BK154.out) hb)
            have n2 := Aside0.mk (blk_below (g := gb156) (o := .cells #[.bool false, .slice (some ad161) ((rd_T38 l0_0 a1).f2.f1).length c155_3] 36 (0, 0)) (by (with_reducible repeat (first | refine blk_drewN ?_ _ | refine blk_drew ?_ | refine blk_alloc ?_ _)); exact BK156.out) hb)
            have n3 := Aside0.mk (blk_below (g := gb160) (o := .cells #[.int .i64 x161000_1, .int .i64 x161001_1, .int .i64 x161002_1, .bool false] 88 (0, 0)) (by (with_reducible repeat (first | refine blk_drewN ?_ _ | refine blk_drew ?_ | refine blk_alloc ?_ _)); exact BK160.out) hb)
            have n4 := Aside0.mk (below_step (by repeat (first | (with_reducible first | exact HB.out | apply below_alloc | apply pw_below_drewN | apply below_drew1 | refine below_set ?_ GE153.out | refine below_set ?_ GE154.out | refine below_set ?_ GE156.out | refine below_set ?_ GE160.out) | exact HB.out)) hb)
            have n5 := Aside0.mk (hbox)
            have n6 := Aside0.mk ((by rw [hg]; exact (below_size (by repeat (first | (with_reducible first | exact HB.out | apply below_alloc | apply pw_below_drewN | apply below_drew1 | refine below_set ?_ GE153.out | refine below_set ?_ GE154.out | refine below_set ?_ GE156.out | refine below_set ?_ GE160.out) | exact HB.out))) : w.heap.size ≤ gb166))
            have n7 := Aside0.mk ((by rw [hg]; exact (below_size (by repeat (first | (with_reducible first | exact HB.out | apply below_alloc | apply pw_below_drewN | apply below_drew1 | refine below_set ?_ GE153.out | refine below_set ?_ GE154.out | refine below_set ?_ GE156.out | refine below_set ?_ GE160.out) | exact HB.out))) : w.heap.size ≤ gb166))
            have n8 := Aside0.mk ((by rw [hg]; exact Nat.ne_of_lt (blk_lt (g := gb153) (o := .cells #[.slice (some ad155) l0_0.length c0_0, .int .i64 a0_1] 24 (0, 0)) (by (with_reducible repeat (first | refine blk_drewN ?_ _ | refine blk_drew ?_ | refine blk_alloc ?_ _)); exact BK153.out)) : gb153 ≠ gb166))
            have n9 := Aside0.mk ((by rw [hg]; exact Nat.ne_of_gt (blk_lt (g := gb153) (o := .cells #[.slice (some ad155) l0_0.length c0_0, .int .i64 a0_1] 24 (0, 0)) (by (with_reducible repeat (first | refine blk_drewN ?_ _ | refine blk_drew ?_ | refine blk_alloc ?_ _)); exact BK153.out)) : gb166 ≠ gb153))
            have n10 := Aside0.mk ((by rw [hg]; exact Nat.ne_of_lt (blk_lt (g := gb154) (o := .cells #[.int .i64 x155000_1, .int .i64 x155001_1, .int .i64 x155002_1, .bool x155003_1] 88 (0, 0)) (by (with_reducible repeat (first | refine blk_drewN ?_ _ | refine blk_drew ?_ | refine blk_alloc ?_ _)); exact BK154.out)) : gb154 ≠ gb166))
            have n11 := Aside0.mk ((by rw [hg]; exact Nat.ne_of_gt (blk_lt (g := gb154) (o := .cells #[.int .i64 x155000_1, .int .i64 x155001_1, .int .i64 x155002_1, .bool x155003_1] 88 (0, 0)) (by (with_reducible repeat (first | refine blk_drewN ?_ _ | refine blk_drew ?_ | refine blk_alloc ?_ _)); exact BK154.out)) : gb166 ≠ gb154))
            have n12 := Aside0.mk ((by rw [hg]; exact Nat.ne_of_lt (blk_lt (g := gb156) (o := .cells #[.bool false, .slice (some ad161) ((rd_T38 l0_0 a1).f2.f1).length c155_3] 36 (0, 0)) (by (with_reducible repeat (first | refine blk_drewN ?_ _ | refine blk_drew ?_ | refine blk_alloc ?_ _)); exact BK156.out)) : gb156 ≠ gb166))
            have n13 := Aside0.mk ((by rw [hg]; exact Nat.ne_of_gt (blk_lt (g := gb156) (o := .cells #[.bool false, .slice (some ad161) ((rd_T38 l0_0 a1).f2.f1).length c155_3] 36 (0, 0)) (by (with_reducible repeat (first | refine blk_drewN ?_ _ | refine blk_drew ?_ | refine blk_alloc ?_ _)); exact BK156.out)) : gb166 ≠ gb156))
            have n14 := Aside0.mk ((by rw [hg]; exact Nat.ne_of_lt (blk_lt (g := gb160) (o := .cells #[.int .i64 x161000_1, .int .i64 x161001_1, .int .i64 x161002_1, .bool false] 88 (0, 0)) (by (with_reducible repeat (first | refine blk_drewN ?_ _ | refine blk_drew ?_ | refine blk_alloc ?_ _)); exact BK160.out)) : gb160 ≠ gb166))
            have n15 := Aside0.mk ((by rw [hg]; exact Nat.ne_of_gt (blk_lt (g := gb160) (o := .cells #[.int .i64 x161000_1, .int .i64 x161001_1, .int .i64 x161002_1, .bool false] 88 (0, 0)) (by (with_reducible repeat (first | refine blk_drewN ?_ _ | refine blk_drew ?_ | refine blk_alloc ?_ _)); exact BK160.out)) : gb166 ≠ gb160))
            clear BK153
            clear BK154
            clear BK156
            clear BK160
            clear HB
            have BK153 := n0
            have BK154 := n1
            have BK156 := n2
            have BK160 := n3
            have HB := n4
            have BK166 := n5
            have GW166 := n6
            have GE166 := n7
            have NB153_166 := n8
            have NB166_153 := n9
            have NB154_166 := n10
            have NB166_154 := n11
            have NB156_166 := n12
            have NB166_156 := n13
            have NB160_166 := n14
            have NB166_160 := n15
            clear n0 n1 n2 n3 n4 n5 n6 n7 n8 n9 n10 n11 n12 n13 n14 n15
            clear hb hbox hg
            refine hK.out _ _ ⟨(blk_cell BK153.out 0).trans rfl, (blk_cell BK153.out 1).trans rfl, (blk_cell BK156.out 0).trans rfl, (blk_cell BK156.out 1).trans rfl, ((HB.out.cell (World.block_lt_of_cell? w _ hw161_0)).trans hw161_0), ((HB.out.cell (World.block_lt_of_cell? w _ hw161_1)).trans hw161_1)⟩ (fun hHeld => ?_)
            clear hK K
            refine norm_ (a' := ?_) ?_ ?_
            rotate_left
            ·show Act.put _ (some 10) _ = _
             simp only [Act.put, List.setIfInBounds_toArray, List.set_cons_zero, List.set_cons_succ, i64_w, i32_w]
             rfl
            refine one_ (i := 9) (N := some 64) #[true, true, true, true, true, true, true, true, true, true, true, false] rfl rfl (one_of HT_.out (by kernel_rfl)) (by decide) (fun K hK => ?_)
            refine goes_ Try.func46 (by kernel_rfl) rfl #[.agg #[.slice (some ad155) l0_0.length c0_0, .int .i64 a0_1], .int .i64 ((rd_T46 ((rd_T38 l0_0 a1).f2.f1) x9_1).f1), .int .i64 (wrap64 (a2 - 1))] (by rfl) rfl rfl (by (try simp only [List.map_toArray, List.map_cons, List.map_nil]); first | done | rfl | (simp only [List.length_drop, List.length_take]; rfl)) ?_
            with_reducible refine (ih k1 (by have := HK1.out; omega) _ _ l0_0 a0_1 ((rd_T46 ((rd_T38 l0_0 a1).f2.f1) x9_1).f1) (wrap64 (a2 - 1)) t162 t163 t164 t165 _ ?side1 ?side2 A65.out).mono ?_
            (case side1 => repeat (first | exact (Kd.C_below HR0_0.out HB.out) | (with_reducible refine Kd.C_alloc ?_ _) | (with_reducible refine Kd.C_drewN ?_ _) | (with_reducible refine Kd.C_drew ?_)))
            (case side2 => exact HC0_0.out)
            rintro e w73 ⟨rfl, hb⟩
            refine ⟨_, rfl, ?_⟩
            have n0 := Aside0.mk (blk_below (g := gb153) (o := .cells #[.slice (some ad155) l0_0.length c0_0, .int .i64 a0_1] 24 (0, 0)) (by (with_reducible repeat (first | refine blk_drewN ?_ _ | refine blk_drew ?_ | refine blk_alloc ?_ _)); exact BK153.out) hb)
            have n1 := Aside0.mk (blk_below (g := gb154) (o := .cells #[.int .i64 x155000_1, .int .i64 x155001_1, .int .i64 x155002_1, .bool x155003_1] 88 (0, 0)) (by (with_reducible repeat (first | refine blk_drewN ?_ _ | refine blk_drew ?_ | refine blk_alloc ?_ _)); exact BK154.out) hb)
            have n2 := Aside0.mk (blk_below (g := gb156) (o := .cells #[.bool false, .slice (some ad161) ((rd_T38 l0_0 a1).f2.f1).length c155_3] 36 (0, 0)) (by (with_reducible repeat (first | refine blk_drewN ?_ _ | refine blk_drew ?_ | refine blk_alloc ?_ _)); exact BK156.out) hb)
            have n3 := Aside0.mk (blk_below (g := gb160) (o := .cells #[.int .i64 x161000_1, .int .i64 x161001_1, .int .i64 x161002_1, .bool false] 88 (0, 0)) (by (with_reducible repeat (first | refine blk_drewN ?_ _ | refine blk_drew ?_ | refine blk_alloc ?_ _)); exact BK160.out) hb)
            have n4 := Aside0.mk (blk_below (g := gb166) (o := .cells #[.int .i64 0, .int .i64 0, .int .i64 0, .bool false] 88 (0, 0)) (by (with_reducible repeat (first | refine blk_drewN ?_ _ | refine blk_drew ?_ | refine blk_alloc ?_ _)); exact BK166.out) hb)
            have n5 := Aside0.mk (below_step (by repeat (first | (with_reducible first | exact HB.out | apply below_alloc | apply pw_below_drewN | apply below_drew1 | refine below_set ?_ GE153.out | refine below_set ?_ GE154.out | refine below_set ?_ GE156.out | refine below_set ?_ GE160.out | refine below_set ?_ GE166.out) | exact HB.out)) hb)
            clear BK153
            clear BK154
            clear BK156
            clear BK160
            clear BK166
            clear HB
            have BK153 := n0
            have BK154 := n1
            have BK156 := n2
            have BK160 := n3
            have BK166 := n4
            have HB := n5
            clear n0 n1 n2 n3 n4 n5
            (try clear hb)
            (try clear hb2)
            (try clear hk)
            (try clear hi)
            refine hK.out _ _ ⟨(blk_cell BK153.out 0).trans rfl, (blk_cell BK153.out 1).trans rfl, (blk_cell BK156.out 0).trans rfl, (blk_cell BK156.out 1).trans rfl, ((HB.out.cell (World.block_lt_of_cell? w _ hw161_0)).trans hw161_0), ((HB.out.cell (World.block_lt_of_cell? w _ hw161_1)).trans hw161_1)⟩ (fun hHeld => ?_)
            clear hK K
            refine norm_ (a' := ?_) ?_ ?_
            rotate_left
            ·show Act.put _ (some 64) _ = _
             simp only [Act.put, List.setIfInBounds_toArray, List.set_cons_zero, List.set_cons_succ, i64_w, i32_w]
             rfl
            exact norm_ (by simp only [putAll, Act.put, List.setIfInBounds_toArray, List.set_cons_zero, List.set_cons_succ]) (hCont (gb166) _ ⟨hHeld, (by (with_reducible repeat (first | refine blk_drewN ?_ _ | refine blk_drew ?_ | refine blk_alloc ?_ _)); exact BK153.out), (by (with_reducible repeat (first | refine blk_drewN ?_ _ | refine blk_drew ?_ | refine blk_alloc ?_ _)); exact BK154.out), (by (with_reducible repeat (first | refine blk_drewN ?_ _ | refine blk_drew ?_ | refine blk_alloc ?_ _)); exact BK156.out), (by (with_reducible repeat (first | refine blk_drewN ?_ _ | refine blk_drew ?_ | refine blk_alloc ?_ _)); exact BK160.out), (by (with_reducible repeat (first | refine blk_drewN ?_ _ | refine blk_drew ?_ | refine blk_alloc ?_ _)); exact BK166.out), GW166.out, GE166.out, NB153_166.out, NB166_153.out, NB154_166.out, NB166_154.out, NB156_166.out, NB166_156.out, NB160_166.out, NB166_160.out, (by repeat (first | (with_reducible first | exact HB.out | apply below_alloc | apply pw_below_drewN | apply below_drew1 | refine below_set ?_ GE153.out | refine below_set ?_ GE154.out | refine below_set ?_ GE156.out | refine below_set ?_ GE160.out | refine below_set ?_ GE166.out) | exact HB.out))⟩)
          rintro gb166 w74 ⟨hS_, h0_, h1_, h2_, h3_, h4_, h5_, h6_, h7_, h8_, h9_, h10_, h11_, h12_, h13_, h14_, h15_⟩
          have n0 : Aside0 (w74.heap[gb153]? = some (.cells #[.slice (some ad155) l0_0.length c0_0, .int .i64 a0_1] 24 (0, 0))) := ⟨h0_⟩
          have n1 : Aside0 (w74.heap[gb154]? = some (.cells #[.int .i64 x155000_1, .int .i64 x155001_1, .int .i64 x155002_1, .bool x155003_1] 88 (0, 0))) := ⟨h1_⟩
          have n2 : Aside0 (w74.heap[gb156]? = some (.cells #[.bool false, .slice (some ad161) ((rd_T38 l0_0 a1).f2.f1).length c155_3] 36 (0, 0))) := ⟨h2_⟩
          have n3 : Aside0 (w74.heap[gb160]? = some (.cells #[.int .i64 x161000_1, .int .i64 x161001_1, .int .i64 x161002_1, .bool false] 88 (0, 0))) := ⟨h3_⟩
          have n4 : Aside0 (w74.heap[gb166]? = some (.cells #[.int .i64 0, .int .i64 0, .int .i64 0, .bool false] 88 (0, 0))) := ⟨h4_⟩
          have n5 : Aside0 (w.heap.size ≤ gb166) := ⟨h5_⟩
          have n6 : Aside0 (w.heap.size ≤ gb166) := ⟨h6_⟩
          have n7 : Aside0 (gb153 ≠ gb166) := ⟨h7_⟩
          have n8 : Aside0 (gb166 ≠ gb153) := ⟨h8_⟩
          have n9 : Aside0 (gb154 ≠ gb166) := ⟨h9_⟩
          have n10 : Aside0 (gb166 ≠ gb154) := ⟨h10_⟩
          have n11 : Aside0 (gb156 ≠ gb166) := ⟨h11_⟩
          have n12 : Aside0 (gb166 ≠ gb156) := ⟨h12_⟩
          have n13 : Aside0 (gb160 ≠ gb166) := ⟨h13_⟩
          have n14 : Aside0 (gb166 ≠ gb160) := ⟨h14_⟩
          have n15 : Aside0 (Below w.heap.size w w74) := ⟨h15_⟩
          clear BK153
          clear BK154
          clear BK156
          clear BK160
          clear HB
          clear h0_ h1_ h2_ h3_ h4_ h5_ h6_ h7_ h8_ h9_ h10_ h11_ h12_ h13_ h14_ h15_
          have BK153 := n0
          have BK154 := n1
          have BK156 := n2
          have BK160 := n3
          have BK166 := n4
          have GW166 := n5
          have GE166 := n6
          have NB153_166 := n7
          have NB166_153 := n8
          have NB154_166 := n9
          have NB166_154 := n10
          have NB156_166 := n11
          have NB166_156 := n12
          have NB160_166 := n13
          have NB166_160 := n14
          have HB := n15
          clear n0 n1 n2 n3 n4 n5 n6 n7 n8 n9 n10 n11 n12 n13 n14 n15
          have hHeld : w74.cell? ⟨gb153, 0, none⟩ = some (.slice (some ad155) l0_0.length c0_0) ∧ w74.cell? ⟨gb153, 1, none⟩ = some (.int .i64 a0_1) ∧ w74.cell? ⟨gb156, 0, none⟩ = some (.bool false) ∧ w74.cell? ⟨gb156, 1, none⟩ = some (.slice (some ad161) ((rd_T38 l0_0 a1).f2.f1).length c155_3) ∧ w74.cell? (ad161.add ((x9_1).toNat * 2)) = some (.int .i64 ((rd_T46 ((rd_T38 l0_0 a1).f2.f1) x9_1).f0)) ∧ w74.cell? ⟨(ad161.add ((x9_1).toNat * 2)).block, (ad161.add ((x9_1).toNat * 2)).off + 1, none⟩ = some (.int .i64 ((rd_T46 ((rd_T38 l0_0 a1).f2.f1) x9_1).f1)) := hS_
          refine norm_ (a' := ?_) ?_ ?_
          rotate_left
          ·simp only [putAll, Act.put, List.setIfInBounds_toArray, List.set_cons_zero, List.set_cons_succ]
           rfl
          refine one_ (i := 11) (N := none) #[true, true, true, true, true, true, true, true, true, true, true, true] rfl rfl (one_of HT_.out (by kernel_rfl)) (by decide) (fun K hK => ?_)
          have hs75 : w74.cell? ⟨gb166, 0, none⟩ = some (.int .i64 0) := (blk_cell BK166.out 0).trans rfl
          have hfs75 := blk_frozen BK166.out 0
          have hns75_0 := NB153_166.out
          have hns75_1 := NB154_166.out
          have hns75_2 := NB156_166.out
          have hns75_3 := NB160_166.out
          have hms75_0 := NB166_153.out
          have hms75_1 := NB166_154.out
          have hms75_2 := NB166_156.out
          have hms75_3 := NB166_160.out
          have hs76 : w74.cell? ⟨gb166, 1, none⟩ = some (.int .i64 0) := (blk_cell BK166.out 1).trans rfl
          have hfs76 := blk_frozen BK166.out 1
          have hns76_0 := NB153_166.out
          have hns76_1 := NB154_166.out
          have hns76_2 := NB156_166.out
          have hns76_3 := NB160_166.out
          have hms76_0 := NB166_153.out
          have hms76_1 := NB166_154.out
          have hms76_2 := NB166_156.out
          have hms76_3 := NB166_160.out
          have hs77 : w74.cell? ⟨gb166, 2, none⟩ = some (.int .i64 0) := (blk_cell BK166.out 2).trans rfl
          have hfs77 := blk_frozen BK166.out 2
          have hns77_0 := NB153_166.out
          have hns77_1 := NB154_166.out
          have hns77_2 := NB156_166.out
          have hns77_3 := NB160_166.out
          have hms77_0 := NB166_153.out
          have hms77_1 := NB166_154.out
          have hms77_2 := NB166_156.out
          have hms77_3 := NB166_160.out
          have hs78 : w74.cell? ⟨gb166, 3, none⟩ = some (.bool false) := (blk_cell BK166.out 3).trans rfl
          have hfs78 := blk_frozen BK166.out 3
          have hns78_0 := NB153_166.out
          have hns78_1 := NB154_166.out
          have hns78_2 := NB156_166.out
          have hns78_3 := NB160_166.out
          have hms78_0 := NB166_153.out
          have hms78_1 := NB166_154.out
          have hms78_2 := NB166_156.out
          have hms78_3 := NB166_160.out
          refine skip_ (w1 := ?_) (by rfl) rfl ?_ ?_
          rotate_left
          ·go_simp
           rfl
          refine hK.out _ _ ⟨((cell_far (p := ⟨gb166, _, none⟩) NB153_166.out _).trans (((cell_far (p := ⟨gb166, _, none⟩) NB153_166.out _).trans (((cell_far (p := ⟨gb166, _, none⟩) NB153_166.out _).trans (((cell_far (p := ⟨gb166, _, none⟩) NB153_166.out _).trans (hHeld.1)))))))), ((cell_far (p := ⟨gb166, _, none⟩) NB153_166.out _).trans (((cell_far (p := ⟨gb166, _, none⟩) NB153_166.out _).trans (((cell_far (p := ⟨gb166, _, none⟩) NB153_166.out _).trans (((cell_far (p := ⟨gb166, _, none⟩) NB153_166.out _).trans (hHeld.2.1)))))))), ((cell_far (p := ⟨gb166, _, none⟩) NB156_166.out _).trans (((cell_far (p := ⟨gb166, _, none⟩) NB156_166.out _).trans (((cell_far (p := ⟨gb166, _, none⟩) NB156_166.out _).trans (((cell_far (p := ⟨gb166, _, none⟩) NB156_166.out _).trans (hHeld.2.2.1)))))))), ((cell_far (p := ⟨gb166, _, none⟩) NB156_166.out _).trans (((cell_far (p := ⟨gb166, _, none⟩) NB156_166.out _).trans (((cell_far (p := ⟨gb166, _, none⟩) NB156_166.out _).trans (((cell_far (p := ⟨gb166, _, none⟩) NB156_166.out _).trans (hHeld.2.2.2.1)))))))), ((cell_far (p := ⟨gb166, _, none⟩) (by first | exact Nat.ne_of_lt (Nat.lt_of_lt_of_le (by have := World.block_lt_of_cell? _ _ hw161_0; first | rwa [add_block] at this | exact this) GW166.out) | (rw [add_block]; exact Nat.ne_of_lt (Nat.lt_of_lt_of_le (by have := World.block_lt_of_cell? _ _ hw161_0; first | rwa [add_block] at this | exact this) GW166.out)) | (show (Addr.add _ _).block ≠ _; rw [add_block]; exact Nat.ne_of_lt (Nat.lt_of_lt_of_le (by have := World.block_lt_of_cell? _ _ hw161_0; first | rwa [add_block] at this | exact this) GW166.out)) | (dsimp only; exact Nat.ne_of_lt (Nat.lt_of_lt_of_le (by have := World.block_lt_of_cell? _ _ hw161_0; first | rwa [add_block] at this | exact this) GW166.out))) _).trans (((cell_far (p := ⟨gb166, _, none⟩) (by first | exact Nat.ne_of_lt (Nat.lt_of_lt_of_le (by have := World.block_lt_of_cell? _ _ hw161_0; first | rwa [add_block] at this | exact this) GW166.out) | (rw [add_block]; exact Nat.ne_of_lt (Nat.lt_of_lt_of_le (by have := World.block_lt_of_cell? _ _ hw161_0; first | rwa [add_block] at this | exact this) GW166.out)) | (show (Addr.add _ _).block ≠ _; rw [add_block]; exact Nat.ne_of_lt (Nat.lt_of_lt_of_le (by have := World.block_lt_of_cell? _ _ hw161_0; first | rwa [add_block] at this | exact this) GW166.out)) | (dsimp only; exact Nat.ne_of_lt (Nat.lt_of_lt_of_le (by have := World.block_lt_of_cell? _ _ hw161_0; first | rwa [add_block] at this | exact this) GW166.out))) _).trans (((cell_far (p := ⟨gb166, _, none⟩) (by first | exact Nat.ne_of_lt (Nat.lt_of_lt_of_le (by have := World.block_lt_of_cell? _ _ hw161_0; first | rwa [add_block] at this | exact this) GW166.out) | (rw [add_block]; exact Nat.ne_of_lt (Nat.lt_of_lt_of_le (by have := World.block_lt_of_cell? _ _ hw161_0; first | rwa [add_block] at this | exact this) GW166.out)) | (show (Addr.add _ _).block ≠ _; rw [add_block]; exact Nat.ne_of_lt (Nat.lt_of_lt_of_le (by have := World.block_lt_of_cell? _ _ hw161_0; first | rwa [add_block] at this | exact this) GW166.out)) | (dsimp only; exact Nat.ne_of_lt (Nat.lt_of_lt_of_le (by have := World.block_lt_of_cell? _ _ hw161_0; first | rwa [add_block] at this | exact this) GW166.out))) _).trans (((cell_far (p := ⟨gb166, _, none⟩) (by first | exact Nat.ne_of_lt (Nat.lt_of_lt_of_le (by have := World.block_lt_of_cell? _ _ hw161_0; first | rwa [add_block] at this | exact this) GW166.out) | (rw [add_block]; exact Nat.ne_of_lt (Nat.lt_of_lt_of_le (by have := World.block_lt_of_cell? _ _ hw161_0; first | rwa [add_block] at this | exact this) GW166.out)) | (show (Addr.add _ _).block ≠ _; rw [add_block]; exact Nat.ne_of_lt (Nat.lt_of_lt_of_le (by have := World.block_lt_of_cell? _ _ hw161_0; first | rwa [add_block] at this | exact this) GW166.out)) | (dsimp only; exact Nat.ne_of_lt (Nat.lt_of_lt_of_le (by have := World.block_lt_of_cell? _ _ hw161_0; first | rwa [add_block] at this | exact this) GW166.out))) _).trans (hHeld.2.2.2.2.1)))))))), ((cell_far (p := ⟨gb166, _, none⟩) (by first | exact Nat.ne_of_lt (Nat.lt_of_lt_of_le (by have := World.block_lt_of_cell? _ _ hw161_1; first | rwa [add_block] at this | exact this) GW166.out) | (rw [add_block]; exact Nat.ne_of_lt (Nat.lt_of_lt_of_le (by have := World.block_lt_of_cell? _ _ hw161_1; first | rwa [add_block] at this | exact this) GW166.out)) | (show (Addr.add _ _).block ≠ _; rw [add_block]; exact Nat.ne_of_lt (Nat.lt_of_lt_of_le (by have := World.block_lt_of_cell? _ _ hw161_1; first | rwa [add_block] at this | exact this) GW166.out)) | (dsimp only; exact Nat.ne_of_lt (Nat.lt_of_lt_of_le (by have := World.block_lt_of_cell? _ _ hw161_1; first | rwa [add_block] at this | exact this) GW166.out))) _).trans (((cell_far (p := ⟨gb166, _, none⟩) (by first | exact Nat.ne_of_lt (Nat.lt_of_lt_of_le (by have := World.block_lt_of_cell? _ _ hw161_1; first | rwa [add_block] at this | exact this) GW166.out) | (rw [add_block]; exact Nat.ne_of_lt (Nat.lt_of_lt_of_le (by have := World.block_lt_of_cell? _ _ hw161_1; first | rwa [add_block] at this | exact this) GW166.out)) | (show (Addr.add _ _).block ≠ _; rw [add_block]; exact Nat.ne_of_lt (Nat.lt_of_lt_of_le (by have := World.block_lt_of_cell? _ _ hw161_1; first | rwa [add_block] at this | exact this) GW166.out)) | (dsimp only; exact Nat.ne_of_lt (Nat.lt_of_lt_of_le (by have := World.block_lt_of_cell? _ _ hw161_1; first | rwa [add_block] at this | exact this) GW166.out))) _).trans (((cell_far (p := ⟨gb166, _, none⟩) (by first | exact Nat.ne_of_lt (Nat.lt_of_lt_of_le (by have := World.block_lt_of_cell? _ _ hw161_1; first | rwa [add_block] at this | exact this) GW166.out) | (rw [add_block]; exact Nat.ne_of_lt (Nat.lt_of_lt_of_le (by have := World.block_lt_of_cell? _ _ hw161_1; first | rwa [add_block] at this | exact this) GW166.out)) | (show (Addr.add _ _).block ≠ _; rw [add_block]; exact Nat.ne_of_lt (Nat.lt_of_lt_of_le (by have := World.block_lt_of_cell? _ _ hw161_1; first | rwa [add_block] at this | exact this) GW166.out)) | (dsimp only; exact Nat.ne_of_lt (Nat.lt_of_lt_of_le (by have := World.block_lt_of_cell? _ _ hw161_1; first | rwa [add_block] at this | exact this) GW166.out))) _).trans (((cell_far (p := ⟨gb166, _, none⟩) (by first | exact Nat.ne_of_lt (Nat.lt_of_lt_of_le (by have := World.block_lt_of_cell? _ _ hw161_1; first | rwa [add_block] at this | exact this) GW166.out) | (rw [add_block]; exact Nat.ne_of_lt (Nat.lt_of_lt_of_le (by have := World.block_lt_of_cell? _ _ hw161_1; first | rwa [add_block] at this | exact this) GW166.out)) | (show (Addr.add _ _).block ≠ _; rw [add_block]; exact Nat.ne_of_lt (Nat.lt_of_lt_of_le (by have := World.block_lt_of_cell? _ _ hw161_1; first | rwa [add_block] at this | exact this) GW166.out)) | (dsimp only; exact Nat.ne_of_lt (Nat.lt_of_lt_of_le (by have := World.block_lt_of_cell? _ _ hw161_1; first | rwa [add_block] at this | exact this) GW166.out))) _).trans (hHeld.2.2.2.2.2))))))))⟩ (fun hHeld => ?_)
          clear hK K
          refine done_ (done_of HT_.out (by kernel_rfl)) ?_
          go_upto_region 13 with (fail)
          go_cut [97] (fun v97 wc => ∃ (kq : Nat) (x97_65 : Bool), v97 = .bool x97_65 ∧ Aside0 (assartref07_below.j1 kq a2 x9_1 x97_65 l0_0 a0_1 false ((rd_T38 l0_0 a1).f2.f1) x161000_1 x161001_1 x161002_1 false t162 t163 t164 t165 = some (r1, r2, r3, r4)) ∧ Aside0 (kq ≤ k1) ∧ Aside0 (wc.heap[gb153]? = some (.cells #[(.slice (some ad155) l0_0.length c0_0), .int .i64 a0_1] 24 (0, 0))) ∧ Aside0 (wc.heap[gb154]? = some (.cells #[.int .i64 x155000_1, .int .i64 x155001_1, .int .i64 x155002_1, .bool x155003_1] 88 (0, 0))) ∧ Aside0 (wc.heap[gb156]? = some (.cells #[.bool false, (.slice (some ad161) ((rd_T38 l0_0 a1).f2.f1).length c155_3)] 36 (0, 0))) ∧ Aside0 (wc.heap[gb160]? = some (.cells #[.int .i64 x161000_1, .int .i64 x161001_1, .int .i64 x161002_1, .bool false] 88 (0, 0))) ∧ Aside0 (wc.heap[gb166]? = some (.cells #[.int .i64 t162, .int .i64 t163, .int .i64 t164, .bool t165] 88 (0, 0))) ∧ Aside0 (Below w.heap.size w wc))
          case first =>
           have H := HC66.out
           clear HC66
           by_cases c79 : t165 = true
           ·subst c79
            have H1 : (if t162 = ((rd_T46 ((rd_T38 l0_0 a1).f2.f1) x9_1).f0) then (if x9_1 > 0 then (if x161001_1 ≥ t162 then (assartref07_below.j1 k1 a2 x9_1 true l0_0 a0_1 false ((rd_T38 l0_0 a1).f2.f1) x161000_1 x161001_1 x161002_1 false t162 t163 t164 true) else (assartref07_below.j1 k1 a2 x9_1 (x161002_1 != (wrap64 (t164 + 1))) l0_0 a0_1 false ((rd_T38 l0_0 a1).f2.f1) x161000_1 x161001_1 x161002_1 false t162 t163 t164 true)) else (assartref07_below.j1 k1 a2 x9_1 false l0_0 a0_1 false ((rd_T38 l0_0 a1).f2.f1) x161000_1 x161001_1 x161002_1 false t162 t163 t164 true)) else (assartref07_below.j1 k1 a2 x9_1 true l0_0 a0_1 false ((rd_T38 l0_0 a1).f2.f1) x161000_1 x161001_1 x161002_1 false t162 t163 t164 true)) = some (r1, r2, r3, r4) := by rw [if_pos rfl] at H; exact H
            clear H
            have H := H1
            clear H1
            by_cases c80 : t162 = ((rd_T46 ((rd_T38 l0_0 a1).f2.f1) x9_1).f0)
            ·rw [if_pos c80] at H
             have c80b0 : (t162 == ((rd_T46 ((rd_T38 l0_0 a1).f2.f1) x9_1).f0)) = true := beq_iff_eq.mpr c80
             have c80b1 : (t162 != ((rd_T46 ((rd_T38 l0_0 a1).f2.f1) x9_1).f0)) = false := bne_eq_false_iff_eq.mpr c80
             clear c80
             (first | rw [c80b0] | (simp only [i64_w, i32_w]; rw [c80b0]) | skip)
             by_cases c81 : x9_1 > 0
             ·rw [if_pos c81] at H
              have c81b0 : decide (0 < x9_1) = true := decide_eq_true c81
              clear c81
              by_cases c82 : x161001_1 ≥ t162
              ·rw [if_pos c82] at H
               have c82b0 : decide (t162 ≤ x161001_1) = true := decide_eq_true c82
               clear c82
               have H' := Aside0.mk H
               clear H
               try go_wp2
               have n0 : Aside0 (((((w74.setCell ⟨gb166, 0, none⟩ (.int .i64 t162)).setCell ⟨gb166, 1, none⟩ (.int .i64 t163)).setCell ⟨gb166, 2, none⟩ (.int .i64 t164)).setCell ⟨gb166, 3, none⟩ (.bool true)).heap[gb153]? = some (.cells #[.slice (some ad155) l0_0.length c0_0, .int .i64 a0_1] 24 (0, 0))) := ⟨by (with_reducible repeat (first | refine blk_drewN ?_ _ | refine blk_drew ?_ | refine blk_alloc ?_ _)); refine blk_far ?_ NB153_166.out _; (with_reducible repeat (first | refine blk_drewN ?_ _ | refine blk_drew ?_ | refine blk_alloc ?_ _)); refine blk_far ?_ NB153_166.out _; (with_reducible repeat (first | refine blk_drewN ?_ _ | refine blk_drew ?_ | refine blk_alloc ?_ _)); refine blk_far ?_ NB153_166.out _; (with_reducible repeat (first | refine blk_drewN ?_ _ | refine blk_drew ?_ | refine blk_alloc ?_ _)); refine blk_far ?_ NB153_166.out _; (with_reducible repeat (first | refine blk_drewN ?_ _ | refine blk_drew ?_ | refine blk_alloc ?_ _)); exact BK153.out⟩
               have n1 : Aside0 (((((w74.setCell ⟨gb166, 0, none⟩ (.int .i64 t162)).setCell ⟨gb166, 1, none⟩ (.int .i64 t163)).setCell ⟨gb166, 2, none⟩ (.int .i64 t164)).setCell ⟨gb166, 3, none⟩ (.bool true)).heap[gb154]? = some (.cells #[.int .i64 x155000_1, .int .i64 x155001_1, .int .i64 x155002_1, .bool x155003_1] 88 (0, 0))) := ⟨by (with_reducible repeat (first | refine blk_drewN ?_ _ | refine blk_drew ?_ | refine blk_alloc ?_ _)); refine blk_far ?_ NB154_166.out _; (with_reducible repeat (first | refine blk_drewN ?_ _ | refine blk_drew ?_ | refine blk_alloc ?_ _)); refine blk_far ?_ NB154_166.out _; (with_reducible repeat (first | refine blk_drewN ?_ _ | refine blk_drew ?_ | refine blk_alloc ?_ _)); refine blk_far ?_ NB154_166.out _; (with_reducible repeat (first | refine blk_drewN ?_ _ | refine blk_drew ?_ | refine blk_alloc ?_ _)); refine blk_far ?_ NB154_166.out _; (with_reducible repeat (first | refine blk_drewN ?_ _ | refine blk_drew ?_ | refine blk_alloc ?_ _)); exact BK154.out⟩
               have n2 : Aside0 (((((w74.setCell ⟨gb166, 0, none⟩ (.int .i64 t162)).setCell ⟨gb166, 1, none⟩ (.int .i64 t163)).setCell ⟨gb166, 2, none⟩ (.int .i64 t164)).setCell ⟨gb166, 3, none⟩ (.bool true)).heap[gb156]? = some (.cells #[.bool false, .slice (some ad161) ((rd_T38 l0_0 a1).f2.f1).length c155_3] 36 (0, 0))) := ⟨by (with_reducible repeat (first | refine blk_drewN ?_ _ | refine blk_drew ?_ | refine blk_alloc ?_ _)); refine blk_far ?_ NB156_166.out _; (with_reducible repeat (first | refine blk_drewN ?_ _ | refine blk_drew ?_ | refine blk_alloc ?_ _)); refine blk_far ?_ NB156_166.out _; (with_reducible repeat (first | refine blk_drewN ?_ _ | refine blk_drew ?_ | refine blk_alloc ?_ _)); refine blk_far ?_ NB156_166.out _; (with_reducible repeat (first | refine blk_drewN ?_ _ | refine blk_drew ?_ | refine blk_alloc ?_ _)); refine blk_far ?_ NB156_166.out _; (with_reducible repeat (first | refine blk_drewN ?_ _ | refine blk_drew ?_ | refine blk_alloc ?_ _)); exact BK156.out⟩
               have n3 : Aside0 (((((w74.setCell ⟨gb166, 0, none⟩ (.int .i64 t162)).setCell ⟨gb166, 1, none⟩ (.int .i64 t163)).setCell ⟨gb166, 2, none⟩ (.int .i64 t164)).setCell ⟨gb166, 3, none⟩ (.bool true)).heap[gb160]? = some (.cells #[.int .i64 x161000_1, .int .i64 x161001_1, .int .i64 x161002_1, .bool false] 88 (0, 0))) := ⟨by (with_reducible repeat (first | refine blk_drewN ?_ _ | refine blk_drew ?_ | refine blk_alloc ?_ _)); refine blk_far ?_ NB160_166.out _; (with_reducible repeat (first | refine blk_drewN ?_ _ | refine blk_drew ?_ | refine blk_alloc ?_ _)); refine blk_far ?_ NB160_166.out _; (with_reducible repeat (first | refine blk_drewN ?_ _ | refine blk_drew ?_ | refine blk_alloc ?_ _)); refine blk_far ?_ NB160_166.out _; (with_reducible repeat (first | refine blk_drewN ?_ _ | refine blk_drew ?_ | refine blk_alloc ?_ _)); refine blk_far ?_ NB160_166.out _; (with_reducible repeat (first | refine blk_drewN ?_ _ | refine blk_drew ?_ | refine blk_alloc ?_ _)); exact BK160.out⟩
               have n4 : Aside0 (((((w74.setCell ⟨gb166, 0, none⟩ (.int .i64 t162)).setCell ⟨gb166, 1, none⟩ (.int .i64 t163)).setCell ⟨gb166, 2, none⟩ (.int .i64 t164)).setCell ⟨gb166, 3, none⟩ (.bool true)).heap[gb166]? = some (.cells #[.int .i64 t162, .int .i64 t163, .int .i64 t164, .bool true] 88 (0, 0))) := ⟨by (with_reducible repeat (first | refine blk_drewN ?_ _ | refine blk_drew ?_ | refine blk_alloc ?_ _)); refine blk_put (cs := #[.int .i64 t162, .int .i64 t163, .int .i64 t164, .bool false]) ?_ 3 _ rfl; (with_reducible repeat (first | refine blk_drewN ?_ _ | refine blk_drew ?_ | refine blk_alloc ?_ _)); refine blk_put (cs := #[.int .i64 t162, .int .i64 t163, .int .i64 0, .bool false]) ?_ 2 _ rfl; (with_reducible repeat (first | refine blk_drewN ?_ _ | refine blk_drew ?_ | refine blk_alloc ?_ _)); refine blk_put (cs := #[.int .i64 t162, .int .i64 0, .int .i64 0, .bool false]) ?_ 1 _ rfl; (with_reducible repeat (first | refine blk_drewN ?_ _ | refine blk_drew ?_ | refine blk_alloc ?_ _)); refine blk_put (cs := #[.int .i64 0, .int .i64 0, .int .i64 0, .bool false]) ?_ 0 _ rfl; (with_reducible repeat (first | refine blk_drewN ?_ _ | refine blk_drew ?_ | refine blk_alloc ?_ _)); exact BK166.out⟩
               have n5 : Aside0 (Below w.heap.size w ((((w74.setCell ⟨gb166, 0, none⟩ (.int .i64 t162)).setCell ⟨gb166, 1, none⟩ (.int .i64 t163)).setCell ⟨gb166, 2, none⟩ (.int .i64 t164)).setCell ⟨gb166, 3, none⟩ (.bool true))) := ⟨by repeat (first | (with_reducible first | exact HB.out | apply below_alloc | apply pw_below_drewN | apply below_drew1 | refine below_set ?_ GE153.out | refine below_set ?_ GE154.out | refine below_set ?_ GE156.out | refine below_set ?_ GE160.out | refine below_set ?_ GE166.out) | exact HB.out)⟩
               (try clear BK153)
               (try clear BK154)
               (try clear BK156)
               (try clear BK160)
               (try clear BK166)
               (try clear HB)
               generalize ((((w74.setCell ⟨gb166, 0, none⟩ (.int .i64 t162)).setCell ⟨gb166, 1, none⟩ (.int .i64 t163)).setCell ⟨gb166, 2, none⟩ (.int .i64 t164)).setCell ⟨gb166, 3, none⟩ (.bool true)) = w83 at n0 n1 n2 n3 n4 n5 ⊢
               have BK153 := n0
               have BK154 := n1
               have BK156 := n2
               have BK160 := n3
               have BK166 := n4
               have HB := n5
               clear n0 n1 n2 n3 n4 n5
               have p167 : 0 ≤ (x9_1 : Int) := of_decide_eq_true (by first | (with_reducible assumption) | assumption)
               have q167 : x9_1 < (((rd_T38 l0_0 a1).f2.f1).length : Int) := of_decide_eq_true (by first | (with_reducible assumption) | assumption)
               obtain ⟨ad167, e167, hx167_0, hx167_1⟩ := at_T46 HR155_3.out x9_1 p167 q167
               have hw167_1 := hx167_1
               have hw167_0 := hx167_0
               obtain rfl : ad161 = ad167 := (by injection e167)
               replace hx167_0 := (HB.out.cell (World.block_lt_of_cell? w _ hx167_0)).trans hx167_0
               replace hx167_1 := (HB.out.cell (World.block_lt_of_cell? w _ hx167_1)).trans hx167_1
               replace p167 := eq_true p167
               replace q167 := eq_true q167
               obtain ⟨y0_, y1_, y2_, y3_, y4_, y5_, y6_, y7_, y8_, y9_, y10_, y11_⟩ : w83.cell? ⟨gb166, 0, none⟩ = some (.int .i64 t162) ∧ w83.cell? ⟨gb166, 1, none⟩ = some (.int .i64 t163) ∧ w83.cell? ⟨gb166, 2, none⟩ = some (.int .i64 t164) ∧ w83.cell? ⟨gb166, 3, none⟩ = some (.bool true) ∧ w83.cell? ⟨gb156, 0, none⟩ = some (.bool false) ∧ w83.cell? ⟨gb156, 1, none⟩ = some (.slice (some ad161) ((rd_T38 l0_0 a1).f2.f1).length c155_3) ∧ w83.cell? ⟨gb160, 0, none⟩ = some (.int .i64 x161000_1) ∧ w83.cell? ⟨gb160, 1, none⟩ = some (.int .i64 x161001_1) ∧ w83.cell? ⟨gb160, 2, none⟩ = some (.int .i64 x161002_1) ∧ w83.cell? ⟨gb160, 3, none⟩ = some (.bool false) ∧ w83.cell? (ad161.add ((x9_1).toNat * 2)) = some (.int .i64 ((rd_T46 ((rd_T38 l0_0 a1).f2.f1) x9_1).f0)) ∧ w83.cell? ⟨(ad161.add ((x9_1).toNat * 2)).block, (ad161.add ((x9_1).toNat * 2)).off + 1, none⟩ = some (.int .i64 ((rd_T46 ((rd_T38 l0_0 a1).f2.f1) x9_1).f1)) := ⟨(blk_cell BK166.out 0).trans rfl, (blk_cell BK166.out 1).trans rfl, (blk_cell BK166.out 2).trans rfl, (blk_cell BK166.out 3).trans rfl, (blk_cell BK156.out 0).trans rfl, (blk_cell BK156.out 1).trans rfl, (blk_cell BK160.out 0).trans rfl, (blk_cell BK160.out 1).trans rfl, (blk_cell BK160.out 2).trans rfl, (blk_cell BK160.out 3).trans rfl, ((HB.out.cell (World.block_lt_of_cell? w _ hw167_0)).trans hw167_0), ((HB.out.cell (World.block_lt_of_cell? w _ hw167_1)).trans hw167_1)⟩
               go_quiet (fail)
               try go_wp2
               go_meet
               case rel => exact ⟨_, (true), (by first | rfl | (simp; done) | (simp [*]; done)), H', ⟨by have := HK1.out; first | omega | exact Nat.le_refl _⟩, ⟨by (with_reducible repeat (first | refine blk_drewN ?_ _ | refine blk_drew ?_ | refine blk_alloc ?_ _)); exact BK153.out⟩, ⟨by (with_reducible repeat (first | refine blk_drewN ?_ _ | refine blk_drew ?_ | refine blk_alloc ?_ _)); exact BK154.out⟩, ⟨by (with_reducible repeat (first | refine blk_drewN ?_ _ | refine blk_drew ?_ | refine blk_alloc ?_ _)); exact BK156.out⟩, ⟨by (with_reducible repeat (first | refine blk_drewN ?_ _ | refine blk_drew ?_ | refine blk_alloc ?_ _)); exact BK160.out⟩, ⟨by (with_reducible repeat (first | refine blk_drewN ?_ _ | refine blk_drew ?_ | refine blk_alloc ?_ _)); exact BK166.out⟩, ⟨by repeat (first | (with_reducible first | exact HB.out | apply below_alloc | apply pw_below_drewN | apply below_drew1 | refine below_set ?_ GE153.out | refine below_set ?_ GE154.out | refine below_set ?_ GE156.out | refine below_set ?_ GE160.out | refine below_set ?_ GE166.out) | exact HB.out)⟩⟩
              ·rw [if_neg c82] at H
               have c82b0 : decide (t162 ≤ x161001_1) = false := decide_eq_false c82
               clear c82
               have H' := Aside0.mk H
               clear H
               try go_wp2
               have n0 : Aside0 (((((w74.setCell ⟨gb166, 0, none⟩ (.int .i64 t162)).setCell ⟨gb166, 1, none⟩ (.int .i64 t163)).setCell ⟨gb166, 2, none⟩ (.int .i64 t164)).setCell ⟨gb166, 3, none⟩ (.bool true)).heap[gb153]? = some (.cells #[.slice (some ad155) l0_0.length c0_0, .int .i64 a0_1] 24 (0, 0))) := ⟨by (with_reducible repeat (first | refine blk_drewN ?_ _ | refine blk_drew ?_ | refine blk_alloc ?_ _)); refine blk_far ?_ NB153_166.out _; (with_reducible repeat (first | refine blk_drewN ?_ _ | refine blk_drew ?_ | refine blk_alloc ?_ _)); refine blk_far ?_ NB153_166.out _; (with_reducible repeat (first | refine blk_drewN ?_ _ | refine blk_drew ?_ | refine blk_alloc ?_ _)); refine blk_far ?_ NB153_166.out _; (with_reducible repeat (first | refine blk_drewN ?_ _ | refine blk_drew ?_ | refine blk_alloc ?_ _)); refine blk_far ?_ NB153_166.out _; (with_reducible repeat (first | refine blk_drewN ?_ _ | refine blk_drew ?_ | refine blk_alloc ?_ _)); exact BK153.out⟩
               have n1 : Aside0 (((((w74.setCell ⟨gb166, 0, none⟩ (.int .i64 t162)).setCell ⟨gb166, 1, none⟩ (.int .i64 t163)).setCell ⟨gb166, 2, none⟩ (.int .i64 t164)).setCell ⟨gb166, 3, none⟩ (.bool true)).heap[gb154]? = some (.cells #[.int .i64 x155000_1, .int .i64 x155001_1, .int .i64 x155002_1, .bool x155003_1] 88 (0, 0))) := ⟨by (with_reducible repeat (first | refine blk_drewN ?_ _ | refine blk_drew ?_ | refine blk_alloc ?_ _)); refine blk_far ?_ NB154_166.out _; (with_reducible repeat (first | refine blk_drewN ?_ _ | refine blk_drew ?_ | refine blk_alloc ?_ _)); refine blk_far ?_ NB154_166.out _; (with_reducible repeat (first | refine blk_drewN ?_ _ | refine blk_drew ?_ | refine blk_alloc ?_ _)); refine blk_far ?_ NB154_166.out _; (with_reducible repeat (first | refine blk_drewN ?_ _ | refine blk_drew ?_ | refine blk_alloc ?_ _)); refine blk_far ?_ NB154_166.out _; (with_reducible repeat (first | refine blk_drewN ?_ _ | refine blk_drew ?_ | refine blk_alloc ?_ _)); exact BK154.out⟩
               have n2 : Aside0 (((((w74.setCell ⟨gb166, 0, none⟩ (.int .i64 t162)).setCell ⟨gb166, 1, none⟩ (.int .i64 t163)).setCell ⟨gb166, 2, none⟩ (.int .i64 t164)).setCell ⟨gb166, 3, none⟩ (.bool true)).heap[gb156]? = some (.cells #[.bool false, .slice (some ad161) ((rd_T38 l0_0 a1).f2.f1).length c155_3] 36 (0, 0))) := ⟨by (with_reducible repeat (first | refine blk_drewN ?_ _ | refine blk_drew ?_ | refine blk_alloc ?_ _)); refine blk_far ?_ NB156_166.out _; (with_reducible repeat (first | refine blk_drewN ?_ _ | refine blk_drew ?_ | refine blk_alloc ?_ _)); refine blk_far ?_ NB156_166.out _; (with_reducible repeat (first | refine blk_drewN ?_ _ | refine blk_drew ?_ | refine blk_alloc ?_ _)); refine blk_far ?_ NB156_166.out _; (with_reducible repeat (first | refine blk_drewN ?_ _ | refine blk_drew ?_ | refine blk_alloc ?_ _)); refine blk_far ?_ NB156_166.out _; (with_reducible repeat (first | refine blk_drewN ?_ _ | refine blk_drew ?_ | refine blk_alloc ?_ _)); exact BK156.out⟩
               have n3 : Aside0 (((((w74.setCell ⟨gb166, 0, none⟩ (.int .i64 t162)).setCell ⟨gb166, 1, none⟩ (.int .i64 t163)).setCell ⟨gb166, 2, none⟩ (.int .i64 t164)).setCell ⟨gb166, 3, none⟩ (.bool true)).heap[gb160]? = some (.cells #[.int .i64 x161000_1, .int .i64 x161001_1, .int .i64 x161002_1, .bool false] 88 (0, 0))) := ⟨by (with_reducible repeat (first | refine blk_drewN ?_ _ | refine blk_drew ?_ | refine blk_alloc ?_ _)); refine blk_far ?_ NB160_166.out _; (with_reducible repeat (first | refine blk_drewN ?_ _ | refine blk_drew ?_ | refine blk_alloc ?_ _)); refine blk_far ?_ NB160_166.out _; (with_reducible repeat (first | refine blk_drewN ?_ _ | refine blk_drew ?_ | refine blk_alloc ?_ _)); refine blk_far ?_ NB160_166.out _; (with_reducible repeat (first | refine blk_drewN ?_ _ | refine blk_drew ?_ | refine blk_alloc ?_ _)); refine blk_far ?_ NB160_166.out _; (with_reducible repeat (first | refine blk_drewN ?_ _ | refine blk_drew ?_ | refine blk_alloc ?_ _)); exact BK160.out⟩
               have n4 : Aside0 (((((w74.setCell ⟨gb166, 0, none⟩ (.int .i64 t162)).setCell ⟨gb166, 1, none⟩ (.int .i64 t163)).setCell ⟨gb166, 2, none⟩ (.int .i64 t164)).setCell ⟨gb166, 3, none⟩ (.bool true)).heap[gb166]? = some (.cells #[.int .i64 t162, .int .i64 t163, .int .i64 t164, .bool true] 88 (0, 0))) := ⟨by (with_reducible repeat (first | refine blk_drewN ?_ _ | refine blk_drew ?_ | refine blk_alloc ?_ _)); refine blk_put (cs := #[.int .i64 t162, .int .i64 t163, .int .i64 t164, .bool false]) ?_ 3 _ rfl; (with_reducible repeat (first | refine blk_drewN ?_ _ | refine blk_drew ?_ | refine blk_alloc ?_ _)); refine blk_put (cs := #[.int .i64 t162, .int .i64 t163, .int .i64 0, .bool false]) ?_ 2 _ rfl; (with_reducible repeat (first | refine blk_drewN ?_ _ | refine blk_drew ?_ | refine blk_alloc ?_ _)); refine blk_put (cs := #[.int .i64 t162, .int .i64 0, .int .i64 0, .bool false]) ?_ 1 _ rfl; (with_reducible repeat (first | refine blk_drewN ?_ _ | refine blk_drew ?_ | refine blk_alloc ?_ _)); refine blk_put (cs := #[.int .i64 0, .int .i64 0, .int .i64 0, .bool false]) ?_ 0 _ rfl; (with_reducible repeat (first | refine blk_drewN ?_ _ | refine blk_drew ?_ | refine blk_alloc ?_ _)); exact BK166.out⟩
               have n5 : Aside0 (Below w.heap.size w ((((w74.setCell ⟨gb166, 0, none⟩ (.int .i64 t162)).setCell ⟨gb166, 1, none⟩ (.int .i64 t163)).setCell ⟨gb166, 2, none⟩ (.int .i64 t164)).setCell ⟨gb166, 3, none⟩ (.bool true))) := ⟨by repeat (first | (with_reducible first | exact HB.out | apply below_alloc | apply pw_below_drewN | apply below_drew1 | refine below_set ?_ GE153.out | refine below_set ?_ GE154.out | refine below_set ?_ GE156.out | refine below_set ?_ GE160.out | refine below_set ?_ GE166.out) | exact HB.out)⟩
               (try clear BK153)
               (try clear BK154)
               (try clear BK156)
               (try clear BK160)
               (try clear BK166)
               (try clear HB)
               generalize ((((w74.setCell ⟨gb166, 0, none⟩ (.int .i64 t162)).setCell ⟨gb166, 1, none⟩ (.int .i64 t163)).setCell ⟨gb166, 2, none⟩ (.int .i64 t164)).setCell ⟨gb166, 3, none⟩ (.bool true)) = w85 at n0 n1 n2 n3 n4 n5 ⊢
               have BK153 := n0
               have BK154 := n1
               have BK156 := n2
               have BK160 := n3
               have BK166 := n4
               have HB := n5
               clear n0 n1 n2 n3 n4 n5
               have p167 : 0 ≤ (x9_1 : Int) := of_decide_eq_true (by first | (with_reducible assumption) | assumption)
               have q167 : x9_1 < (((rd_T38 l0_0 a1).f2.f1).length : Int) := of_decide_eq_true (by first | (with_reducible assumption) | assumption)
               obtain ⟨ad167, e167, hx167_0, hx167_1⟩ := at_T46 HR155_3.out x9_1 p167 q167
               have hw167_1 := hx167_1
               have hw167_0 := hx167_0
               obtain rfl : ad161 = ad167 := (by injection e167)
               replace hx167_0 := (HB.out.cell (World.block_lt_of_cell? w _ hx167_0)).trans hx167_0
               replace hx167_1 := (HB.out.cell (World.block_lt_of_cell? w _ hx167_1)).trans hx167_1
               replace p167 := eq_true p167
               replace q167 := eq_true q167
               obtain ⟨y0_, y1_, y2_, y3_, y4_, y5_, y6_, y7_, y8_, y9_, y10_, y11_⟩ : w85.cell? ⟨gb166, 0, none⟩ = some (.int .i64 t162) ∧ w85.cell? ⟨gb166, 1, none⟩ = some (.int .i64 t163) ∧ w85.cell? ⟨gb166, 2, none⟩ = some (.int .i64 t164) ∧ w85.cell? ⟨gb166, 3, none⟩ = some (.bool true) ∧ w85.cell? ⟨gb156, 0, none⟩ = some (.bool false) ∧ w85.cell? ⟨gb156, 1, none⟩ = some (.slice (some ad161) ((rd_T38 l0_0 a1).f2.f1).length c155_3) ∧ w85.cell? ⟨gb160, 0, none⟩ = some (.int .i64 x161000_1) ∧ w85.cell? ⟨gb160, 1, none⟩ = some (.int .i64 x161001_1) ∧ w85.cell? ⟨gb160, 2, none⟩ = some (.int .i64 x161002_1) ∧ w85.cell? ⟨gb160, 3, none⟩ = some (.bool false) ∧ w85.cell? (ad161.add ((x9_1).toNat * 2)) = some (.int .i64 ((rd_T46 ((rd_T38 l0_0 a1).f2.f1) x9_1).f0)) ∧ w85.cell? ⟨(ad161.add ((x9_1).toNat * 2)).block, (ad161.add ((x9_1).toNat * 2)).off + 1, none⟩ = some (.int .i64 ((rd_T46 ((rd_T38 l0_0 a1).f2.f1) x9_1).f1)) := ⟨(blk_cell BK166.out 0).trans rfl, (blk_cell BK166.out 1).trans rfl, (blk_cell BK166.out 2).trans rfl, (blk_cell BK166.out 3).trans rfl, (blk_cell BK156.out 0).trans rfl, (blk_cell BK156.out 1).trans rfl, (blk_cell BK160.out 0).trans rfl, (blk_cell BK160.out 1).trans rfl, (blk_cell BK160.out 2).trans rfl, (blk_cell BK160.out 3).trans rfl, ((HB.out.cell (World.block_lt_of_cell? w _ hw167_0)).trans hw167_0), ((HB.out.cell (World.block_lt_of_cell? w _ hw167_1)).trans hw167_1)⟩
               go_quiet (fail)
               try go_wp2
               go_meet
               case rel => exact ⟨_, ((x161002_1 != (wrap64 (t164 + 1)))), (by first | rfl | (simp; done) | (simp [*]; done)), H', ⟨by have := HK1.out; first | omega | exact Nat.le_refl _⟩, ⟨by (with_reducible repeat (first | refine blk_drewN ?_ _ | refine blk_drew ?_ | refine blk_alloc ?_ _)); exact BK153.out⟩, ⟨by (with_reducible repeat (first | refine blk_drewN ?_ _ | refine blk_drew ?_ | refine blk_alloc ?_ _)); exact BK154.out⟩, ⟨by (with_reducible repeat (first | refine blk_drewN ?_ _ | refine blk_drew ?_ | refine blk_alloc ?_ _)); exact BK156.out⟩, ⟨by (with_reducible repeat (first | refine blk_drewN ?_ _ | refine blk_drew ?_ | refine blk_alloc ?_ _)); exact BK160.out⟩, ⟨by (with_reducible repeat (first | refine blk_drewN ?_ _ | refine blk_drew ?_ | refine blk_alloc ?_ _)); exact BK166.out⟩, ⟨by repeat (first | (with_reducible first | exact HB.out | apply below_alloc | apply pw_below_drewN | apply below_drew1 | refine below_set ?_ GE153.out | refine below_set ?_ GE154.out | refine below_set ?_ GE156.out | refine below_set ?_ GE160.out | refine below_set ?_ GE166.out) | exact HB.out)⟩⟩
             ·rw [if_neg c81] at H
              have c81b0 : decide (0 < x9_1) = false := decide_eq_false c81
              clear c81
              have H' := Aside0.mk H
              clear H
              try go_wp2
              have n0 : Aside0 (((((w74.setCell ⟨gb166, 0, none⟩ (.int .i64 t162)).setCell ⟨gb166, 1, none⟩ (.int .i64 t163)).setCell ⟨gb166, 2, none⟩ (.int .i64 t164)).setCell ⟨gb166, 3, none⟩ (.bool true)).heap[gb153]? = some (.cells #[.slice (some ad155) l0_0.length c0_0, .int .i64 a0_1] 24 (0, 0))) := ⟨by (with_reducible repeat (first | refine blk_drewN ?_ _ | refine blk_drew ?_ | refine blk_alloc ?_ _)); refine blk_far ?_ NB153_166.out _; (with_reducible repeat (first | refine blk_drewN ?_ _ | refine blk_drew ?_ | refine blk_alloc ?_ _)); refine blk_far ?_ NB153_166.out _; (with_reducible repeat (first | refine blk_drewN ?_ _ | refine blk_drew ?_ | refine blk_alloc ?_ _)); refine blk_far ?_ NB153_166.out _; (with_reducible repeat (first | refine blk_drewN ?_ _ | refine blk_drew ?_ | refine blk_alloc ?_ _)); refine blk_far ?_ NB153_166.out _; (with_reducible repeat (first | refine blk_drewN ?_ _ | refine blk_drew ?_ | refine blk_alloc ?_ _)); exact BK153.out⟩
              have n1 : Aside0 (((((w74.setCell ⟨gb166, 0, none⟩ (.int .i64 t162)).setCell ⟨gb166, 1, none⟩ (.int .i64 t163)).setCell ⟨gb166, 2, none⟩ (.int .i64 t164)).setCell ⟨gb166, 3, none⟩ (.bool true)).heap[gb154]? = some (.cells #[.int .i64 x155000_1, .int .i64 x155001_1, .int .i64 x155002_1, .bool x155003_1] 88 (0, 0))) := ⟨by (with_reducible repeat (first | refine blk_drewN ?_ _ | refine blk_drew ?_ | refine blk_alloc ?_ _)); refine blk_far ?_ NB154_166.out _; (with_reducible repeat (first | refine blk_drewN ?_ _ | refine blk_drew ?_ | refine blk_alloc ?_ _)); refine blk_far ?_ NB154_166.out _; (with_reducible repeat (first | refine blk_drewN ?_ _ | refine blk_drew ?_ | refine blk_alloc ?_ _)); refine blk_far ?_ NB154_166.out _; (with_reducible repeat (first | refine blk_drewN ?_ _ | refine blk_drew ?_ | refine blk_alloc ?_ _)); refine blk_far ?_ NB154_166.out _; (with_reducible repeat (first | refine blk_drewN ?_ _ | refine blk_drew ?_ | refine blk_alloc ?_ _)); exact BK154.out⟩
              have n2 : Aside0 (((((w74.setCell ⟨gb166, 0, none⟩ (.int .i64 t162)).setCell ⟨gb166, 1, none⟩ (.int .i64 t163)).setCell ⟨gb166, 2, none⟩ (.int .i64 t164)).setCell ⟨gb166, 3, none⟩ (.bool true)).heap[gb156]? = some (.cells #[.bool false, .slice (some ad161) ((rd_T38 l0_0 a1).f2.f1).length c155_3] 36 (0, 0))) := ⟨by (with_reducible repeat (first | refine blk_drewN ?_ _ | refine blk_drew ?_ | refine blk_alloc ?_ _)); refine blk_far ?_ NB156_166.out _; (with_reducible repeat (first | refine blk_drewN ?_ _ | refine blk_drew ?_ | refine blk_alloc ?_ _)); refine blk_far ?_ NB156_166.out _; (with_reducible repeat (first | refine blk_drewN ?_ _ | refine blk_drew ?_ | refine blk_alloc ?_ _)); refine blk_far ?_ NB156_166.out _; (with_reducible repeat (first | refine blk_drewN ?_ _ | refine blk_drew ?_ | refine blk_alloc ?_ _)); refine blk_far ?_ NB156_166.out _; (with_reducible repeat (first | refine blk_drewN ?_ _ | refine blk_drew ?_ | refine blk_alloc ?_ _)); exact BK156.out⟩
              have n3 : Aside0 (((((w74.setCell ⟨gb166, 0, none⟩ (.int .i64 t162)).setCell ⟨gb166, 1, none⟩ (.int .i64 t163)).setCell ⟨gb166, 2, none⟩ (.int .i64 t164)).setCell ⟨gb166, 3, none⟩ (.bool true)).heap[gb160]? = some (.cells #[.int .i64 x161000_1, .int .i64 x161001_1, .int .i64 x161002_1, .bool false] 88 (0, 0))) := ⟨by (with_reducible repeat (first | refine blk_drewN ?_ _ | refine blk_drew ?_ | refine blk_alloc ?_ _)); refine blk_far ?_ NB160_166.out _; (with_reducible repeat (first | refine blk_drewN ?_ _ | refine blk_drew ?_ | refine blk_alloc ?_ _)); refine blk_far ?_ NB160_166.out _; (with_reducible repeat (first | refine blk_drewN ?_ _ | refine blk_drew ?_ | refine blk_alloc ?_ _)); refine blk_far ?_ NB160_166.out _; (with_reducible repeat (first | refine blk_drewN ?_ _ | refine blk_drew ?_ | refine blk_alloc ?_ _)); refine blk_far ?_ NB160_166.out _; (with_reducible repeat (first | refine blk_drewN ?_ _ | refine blk_drew ?_ | refine blk_alloc ?_ _)); exact BK160.out⟩
              have n4 : Aside0 (((((w74.setCell ⟨gb166, 0, none⟩ (.int .i64 t162)).setCell ⟨gb166, 1, none⟩ (.int .i64 t163)).setCell ⟨gb166, 2, none⟩ (.int .i64 t164)).setCell ⟨gb166, 3, none⟩ (.bool true)).heap[gb166]? = some (.cells #[.int .i64 t162, .int .i64 t163, .int .i64 t164, .bool true] 88 (0, 0))) := ⟨by (with_reducible repeat (first | refine blk_drewN ?_ _ | refine blk_drew ?_ | refine blk_alloc ?_ _)); refine blk_put (cs := #[.int .i64 t162, .int .i64 t163, .int .i64 t164, .bool false]) ?_ 3 _ rfl; (with_reducible repeat (first | refine blk_drewN ?_ _ | refine blk_drew ?_ | refine blk_alloc ?_ _)); refine blk_put (cs := #[.int .i64 t162, .int .i64 t163, .int .i64 0, .bool false]) ?_ 2 _ rfl; (with_reducible repeat (first | refine blk_drewN ?_ _ | refine blk_drew ?_ | refine blk_alloc ?_ _)); refine blk_put (cs := #[.int .i64 t162, .int .i64 0, .int .i64 0, .bool false]) ?_ 1 _ rfl; (with_reducible repeat (first | refine blk_drewN ?_ _ | refine blk_drew ?_ | refine blk_alloc ?_ _)); refine blk_put (cs := #[.int .i64 0, .int .i64 0, .int .i64 0, .bool false]) ?_ 0 _ rfl; (with_reducible repeat (first | refine blk_drewN ?_ _ | refine blk_drew ?_ | refine blk_alloc ?_ _)); exact BK166.out⟩
              have n5 : Aside0 (Below w.heap.size w ((((w74.setCell ⟨gb166, 0, none⟩ (.int .i64 t162)).setCell ⟨gb166, 1, none⟩ (.int .i64 t163)).setCell ⟨gb166, 2, none⟩ (.int .i64 t164)).setCell ⟨gb166, 3, none⟩ (.bool true))) := ⟨by repeat (first | (with_reducible first | exact HB.out | apply below_alloc | apply pw_below_drewN | apply below_drew1 | refine below_set ?_ GE153.out | refine below_set ?_ GE154.out | refine below_set ?_ GE156.out | refine below_set ?_ GE160.out | refine below_set ?_ GE166.out) | exact HB.out)⟩
              (try clear BK153)
              (try clear BK154)
              (try clear BK156)
              (try clear BK160)
              (try clear BK166)
              (try clear HB)
              generalize ((((w74.setCell ⟨gb166, 0, none⟩ (.int .i64 t162)).setCell ⟨gb166, 1, none⟩ (.int .i64 t163)).setCell ⟨gb166, 2, none⟩ (.int .i64 t164)).setCell ⟨gb166, 3, none⟩ (.bool true)) = w87 at n0 n1 n2 n3 n4 n5 ⊢
              have BK153 := n0
              have BK154 := n1
              have BK156 := n2
              have BK160 := n3
              have BK166 := n4
              have HB := n5
              clear n0 n1 n2 n3 n4 n5
              have p167 : 0 ≤ (x9_1 : Int) := of_decide_eq_true (by first | (with_reducible assumption) | assumption)
              have q167 : x9_1 < (((rd_T38 l0_0 a1).f2.f1).length : Int) := of_decide_eq_true (by first | (with_reducible assumption) | assumption)
              obtain ⟨ad167, e167, hx167_0, hx167_1⟩ := at_T46 HR155_3.out x9_1 p167 q167
              have hw167_1 := hx167_1
              have hw167_0 := hx167_0
              obtain rfl : ad161 = ad167 := (by injection e167)
              replace hx167_0 := (HB.out.cell (World.block_lt_of_cell? w _ hx167_0)).trans hx167_0
              replace hx167_1 := (HB.out.cell (World.block_lt_of_cell? w _ hx167_1)).trans hx167_1
              replace p167 := eq_true p167
              replace q167 := eq_true q167
              obtain ⟨y0_, y1_, y2_, y3_, y4_, y5_, y6_, y7_⟩ : w87.cell? ⟨gb166, 0, none⟩ = some (.int .i64 t162) ∧ w87.cell? ⟨gb166, 1, none⟩ = some (.int .i64 t163) ∧ w87.cell? ⟨gb166, 2, none⟩ = some (.int .i64 t164) ∧ w87.cell? ⟨gb166, 3, none⟩ = some (.bool true) ∧ w87.cell? ⟨gb156, 0, none⟩ = some (.bool false) ∧ w87.cell? ⟨gb156, 1, none⟩ = some (.slice (some ad161) ((rd_T38 l0_0 a1).f2.f1).length c155_3) ∧ w87.cell? (ad161.add ((x9_1).toNat * 2)) = some (.int .i64 ((rd_T46 ((rd_T38 l0_0 a1).f2.f1) x9_1).f0)) ∧ w87.cell? ⟨(ad161.add ((x9_1).toNat * 2)).block, (ad161.add ((x9_1).toNat * 2)).off + 1, none⟩ = some (.int .i64 ((rd_T46 ((rd_T38 l0_0 a1).f2.f1) x9_1).f1)) := ⟨(blk_cell BK166.out 0).trans rfl, (blk_cell BK166.out 1).trans rfl, (blk_cell BK166.out 2).trans rfl, (blk_cell BK166.out 3).trans rfl, (blk_cell BK156.out 0).trans rfl, (blk_cell BK156.out 1).trans rfl, ((HB.out.cell (World.block_lt_of_cell? w _ hw167_0)).trans hw167_0), ((HB.out.cell (World.block_lt_of_cell? w _ hw167_1)).trans hw167_1)⟩
              go_quiet (fail)
              try go_wp2
              go_meet
              case rel => exact ⟨_, (false), (by first | rfl | (simp; done) | (simp [*]; done)), H', ⟨by have := HK1.out; first | omega | exact Nat.le_refl _⟩, ⟨by (with_reducible repeat (first | refine blk_drewN ?_ _ | refine blk_drew ?_ | refine blk_alloc ?_ _)); exact BK153.out⟩, ⟨by (with_reducible repeat (first | refine blk_drewN ?_ _ | refine blk_drew ?_ | refine blk_alloc ?_ _)); exact BK154.out⟩, ⟨by (with_reducible repeat (first | refine blk_drewN ?_ _ | refine blk_drew ?_ | refine blk_alloc ?_ _)); exact BK156.out⟩, ⟨by (with_reducible repeat (first | refine blk_drewN ?_ _ | refine blk_drew ?_ | refine blk_alloc ?_ _)); exact BK160.out⟩, ⟨by (with_reducible repeat (first | refine blk_drewN ?_ _ | refine blk_drew ?_ | refine blk_alloc ?_ _)); exact BK166.out⟩, ⟨by repeat (first | (with_reducible first | exact HB.out | apply below_alloc | apply pw_below_drewN | apply below_drew1 | refine below_set ?_ GE153.out | refine below_set ?_ GE154.out | refine below_set ?_ GE156.out | refine below_set ?_ GE160.out | refine below_set ?_ GE166.out) | exact HB.out)⟩⟩
            ·rw [if_neg c80] at H
             have c80b0 : (t162 == ((rd_T46 ((rd_T38 l0_0 a1).f2.f1) x9_1).f0)) = false := beq_eq_false_iff_ne.mpr c80
             have c80b1 : (t162 != ((rd_T46 ((rd_T38 l0_0 a1).f2.f1) x9_1).f0)) = true := bne_iff_ne.mpr c80
             (first | rw [c80b0] | (simp only [i64_w, i32_w]; rw [c80b0]) | skip)
             have H' := Aside0.mk H
             clear H
             try go_wp2
             have n0 : Aside0 (((((w74.setCell ⟨gb166, 0, none⟩ (.int .i64 t162)).setCell ⟨gb166, 1, none⟩ (.int .i64 t163)).setCell ⟨gb166, 2, none⟩ (.int .i64 t164)).setCell ⟨gb166, 3, none⟩ (.bool true)).heap[gb153]? = some (.cells #[.slice (some ad155) l0_0.length c0_0, .int .i64 a0_1] 24 (0, 0))) := ⟨by (with_reducible repeat (first | refine blk_drewN ?_ _ | refine blk_drew ?_ | refine blk_alloc ?_ _)); refine blk_far ?_ NB153_166.out _; (with_reducible repeat (first | refine blk_drewN ?_ _ | refine blk_drew ?_ | refine blk_alloc ?_ _)); refine blk_far ?_ NB153_166.out _; (with_reducible repeat (first | refine blk_drewN ?_ _ | refine blk_drew ?_ | refine blk_alloc ?_ _)); refine blk_far ?_ NB153_166.out _; (with_reducible repeat (first | refine blk_drewN ?_ _ | refine blk_drew ?_ | refine blk_alloc ?_ _)); refine blk_far ?_ NB153_166.out _; (with_reducible repeat (first | refine blk_drewN ?_ _ | refine blk_drew ?_ | refine blk_alloc ?_ _)); exact BK153.out⟩
             have n1 : Aside0 (((((w74.setCell ⟨gb166, 0, none⟩ (.int .i64 t162)).setCell ⟨gb166, 1, none⟩ (.int .i64 t163)).setCell ⟨gb166, 2, none⟩ (.int .i64 t164)).setCell ⟨gb166, 3, none⟩ (.bool true)).heap[gb154]? = some (.cells #[.int .i64 x155000_1, .int .i64 x155001_1, .int .i64 x155002_1, .bool x155003_1] 88 (0, 0))) := ⟨by (with_reducible repeat (first | refine blk_drewN ?_ _ | refine blk_drew ?_ | refine blk_alloc ?_ _)); refine blk_far ?_ NB154_166.out _; (with_reducible repeat (first | refine blk_drewN ?_ _ | refine blk_drew ?_ | refine blk_alloc ?_ _)); refine blk_far ?_ NB154_166.out _; (with_reducible repeat (first | refine blk_drewN ?_ _ | refine blk_drew ?_ | refine blk_alloc ?_ _)); refine blk_far ?_ NB154_166.out _; (with_reducible repeat (first | refine blk_drewN ?_ _ | refine blk_drew ?_ | refine blk_alloc ?_ _)); refine blk_far ?_ NB154_166.out _; (with_reducible repeat (first | refine blk_drewN ?_ _ | refine blk_drew ?_ | refine blk_alloc ?_ _)); exact BK154.out⟩
             have n2 : Aside0 (((((w74.setCell ⟨gb166, 0, none⟩ (.int .i64 t162)).setCell ⟨gb166, 1, none⟩ (.int .i64 t163)).setCell ⟨gb166, 2, none⟩ (.int .i64 t164)).setCell ⟨gb166, 3, none⟩ (.bool true)).heap[gb156]? = some (.cells #[.bool false, .slice (some ad161) ((rd_T38 l0_0 a1).f2.f1).length c155_3] 36 (0, 0))) := ⟨by (with_reducible repeat (first | refine blk_drewN ?_ _ | refine blk_drew ?_ | refine blk_alloc ?_ _)); refine blk_far ?_ NB156_166.out _; (with_reducible repeat (first | refine blk_drewN ?_ _ | refine blk_drew ?_ | refine blk_alloc ?_ _)); refine blk_far ?_ NB156_166.out _; (with_reducible repeat (first | refine blk_drewN ?_ _ | refine blk_drew ?_ | refine blk_alloc ?_ _)); refine blk_far ?_ NB156_166.out _; (with_reducible repeat (first | refine blk_drewN ?_ _ | refine blk_drew ?_ | refine blk_alloc ?_ _)); refine blk_far ?_ NB156_166.out _; (with_reducible repeat (first | refine blk_drewN ?_ _ | refine blk_drew ?_ | refine blk_alloc ?_ _)); exact BK156.out⟩
             have n3 : Aside0 (((((w74.setCell ⟨gb166, 0, none⟩ (.int .i64 t162)).setCell ⟨gb166, 1, none⟩ (.int .i64 t163)).setCell ⟨gb166, 2, none⟩ (.int .i64 t164)).setCell ⟨gb166, 3, none⟩ (.bool true)).heap[gb160]? = some (.cells #[.int .i64 x161000_1, .int .i64 x161001_1, .int .i64 x161002_1, .bool false] 88 (0, 0))) := ⟨by (with_reducible repeat (first | refine blk_drewN ?_ _ | refine blk_drew ?_ | refine blk_alloc ?_ _)); refine blk_far ?_ NB160_166.out _; (with_reducible repeat (first | refine blk_drewN ?_ _ | refine blk_drew ?_ | refine blk_alloc ?_ _)); refine blk_far ?_ NB160_166.out _; (with_reducible repeat (first | refine blk_drewN ?_ _ | refine blk_drew ?_ | refine blk_alloc ?_ _)); refine blk_far ?_ NB160_166.out _; (with_reducible repeat (first | refine blk_drewN ?_ _ | refine blk_drew ?_ | refine blk_alloc ?_ _)); refine blk_far ?_ NB160_166.out _; (with_reducible repeat (first | refine blk_drewN ?_ _ | refine blk_drew ?_ | refine blk_alloc ?_ _)); exact BK160.out⟩
             have n4 : Aside0 (((((w74.setCell ⟨gb166, 0, none⟩ (.int .i64 t162)).setCell ⟨gb166, 1, none⟩ (.int .i64 t163)).setCell ⟨gb166, 2, none⟩ (.int .i64 t164)).setCell ⟨gb166, 3, none⟩ (.bool true)).heap[gb166]? = some (.cells #[.int .i64 t162, .int .i64 t163, .int .i64 t164, .bool true] 88 (0, 0))) := ⟨by (with_reducible repeat (first | refine blk_drewN ?_ _ | refine blk_drew ?_ | refine blk_alloc ?_ _)); refine blk_put (cs := #[.int .i64 t162, .int .i64 t163, .int .i64 t164, .bool false]) ?_ 3 _ rfl; (with_reducible repeat (first | refine blk_drewN ?_ _ | refine blk_drew ?_ | refine blk_alloc ?_ _)); refine blk_put (cs := #[.int .i64 t162, .int .i64 t163, .int .i64 0, .bool false]) ?_ 2 _ rfl; (with_reducible repeat (first | refine blk_drewN ?_ _ | refine blk_drew ?_ | refine blk_alloc ?_ _)); refine blk_put (cs := #[.int .i64 t162, .int .i64 0, .int .i64 0, .bool false]) ?_ 1 _ rfl; (with_reducible repeat (first | refine blk_drewN ?_ _ | refine blk_drew ?_ | refine blk_alloc ?_ _)); refine blk_put (cs := #[.int .i64 0, .int .i64 0, .int .i64 0, .bool false]) ?_ 0 _ rfl; (with_reducible repeat (first | refine blk_drewN ?_ _ | refine blk_drew ?_ | refine blk_alloc ?_ _)); exact BK166.out⟩
             have n5 : Aside0 (Below w.heap.size w ((((w74.setCell ⟨gb166, 0, none⟩ (.int .i64 t162)).setCell ⟨gb166, 1, none⟩ (.int .i64 t163)).setCell ⟨gb166, 2, none⟩ (.int .i64 t164)).setCell ⟨gb166, 3, none⟩ (.bool true))) := ⟨by repeat (first | (with_reducible first | exact HB.out | apply below_alloc | apply pw_below_drewN | apply below_drew1 | refine below_set ?_ GE153.out | refine below_set ?_ GE154.out | refine below_set ?_ GE156.out | refine below_set ?_ GE160.out | refine below_set ?_ GE166.out) | exact HB.out)⟩
             (try clear BK153)
             (try clear BK154)
             (try clear BK156)
             (try clear BK160)
             (try clear BK166)
             (try clear HB)
             generalize ((((w74.setCell ⟨gb166, 0, none⟩ (.int .i64 t162)).setCell ⟨gb166, 1, none⟩ (.int .i64 t163)).setCell ⟨gb166, 2, none⟩ (.int .i64 t164)).setCell ⟨gb166, 3, none⟩ (.bool true)) = w89 at n0 n1 n2 n3 n4 n5 ⊢
             have BK153 := n0
             have BK154 := n1
             have BK156 := n2
             have BK160 := n3
             have BK166 := n4
             have HB := n5
             clear n0 n1 n2 n3 n4 n5
             have p167 : 0 ≤ (x9_1 : Int) := of_decide_eq_true (by first | (with_reducible assumption) | assumption)
             have q167 : x9_1 < (((rd_T38 l0_0 a1).f2.f1).length : Int) := of_decide_eq_true (by first | (with_reducible assumption) | assumption)
             obtain ⟨ad167, e167, hx167_0, hx167_1⟩ := at_T46 HR155_3.out x9_1 p167 q167
             have hw167_1 := hx167_1
             have hw167_0 := hx167_0
             obtain rfl : ad161 = ad167 := (by injection e167)
             replace hx167_0 := (HB.out.cell (World.block_lt_of_cell? w _ hx167_0)).trans hx167_0
             replace hx167_1 := (HB.out.cell (World.block_lt_of_cell? w _ hx167_1)).trans hx167_1
             replace p167 := eq_true p167
             replace q167 := eq_true q167
             obtain ⟨y0_, y1_, y2_, y3_, y4_, y5_, y6_, y7_⟩ : w89.cell? ⟨gb166, 0, none⟩ = some (.int .i64 t162) ∧ w89.cell? ⟨gb166, 1, none⟩ = some (.int .i64 t163) ∧ w89.cell? ⟨gb166, 2, none⟩ = some (.int .i64 t164) ∧ w89.cell? ⟨gb166, 3, none⟩ = some (.bool true) ∧ w89.cell? ⟨gb156, 0, none⟩ = some (.bool false) ∧ w89.cell? ⟨gb156, 1, none⟩ = some (.slice (some ad161) ((rd_T38 l0_0 a1).f2.f1).length c155_3) ∧ w89.cell? (ad161.add ((x9_1).toNat * 2)) = some (.int .i64 ((rd_T46 ((rd_T38 l0_0 a1).f2.f1) x9_1).f0)) ∧ w89.cell? ⟨(ad161.add ((x9_1).toNat * 2)).block, (ad161.add ((x9_1).toNat * 2)).off + 1, none⟩ = some (.int .i64 ((rd_T46 ((rd_T38 l0_0 a1).f2.f1) x9_1).f1)) := ⟨(blk_cell BK166.out 0).trans rfl, (blk_cell BK166.out 1).trans rfl, (blk_cell BK166.out 2).trans rfl, (blk_cell BK166.out 3).trans rfl, (blk_cell BK156.out 0).trans rfl, (blk_cell BK156.out 1).trans rfl, ((HB.out.cell (World.block_lt_of_cell? w _ hw167_0)).trans hw167_0), ((HB.out.cell (World.block_lt_of_cell? w _ hw167_1)).trans hw167_1)⟩
             go_quiet (fail)
             try go_wp2
             go_meet
             case rel => exact ⟨_, (true), (by first | rfl | (simp; done) | (simp [*]; done)), H', ⟨by have := HK1.out; first | omega | exact Nat.le_refl _⟩, ⟨by (with_reducible repeat (first | refine blk_drewN ?_ _ | refine blk_drew ?_ | refine blk_alloc ?_ _)); exact BK153.out⟩, ⟨by (with_reducible repeat (first | refine blk_drewN ?_ _ | refine blk_drew ?_ | refine blk_alloc ?_ _)); exact BK154.out⟩, ⟨by (with_reducible repeat (first | refine blk_drewN ?_ _ | refine blk_drew ?_ | refine blk_alloc ?_ _)); exact BK156.out⟩, ⟨by (with_reducible repeat (first | refine blk_drewN ?_ _ | refine blk_drew ?_ | refine blk_alloc ?_ _)); exact BK160.out⟩, ⟨by (with_reducible repeat (first | refine blk_drewN ?_ _ | refine blk_drew ?_ | refine blk_alloc ?_ _)); exact BK166.out⟩, ⟨by repeat (first | (with_reducible first | exact HB.out | apply below_alloc | apply pw_below_drewN | apply below_drew1 | refine below_set ?_ GE153.out | refine below_set ?_ GE154.out | refine below_set ?_ GE156.out | refine below_set ?_ GE160.out | refine below_set ?_ GE166.out) | exact HB.out)⟩⟩
           ·replace c79 := Bool.eq_false_iff.mpr c79
            subst c79
            have H1 : (assartref07_below.j1 k1 a2 x9_1 true l0_0 a0_1 false ((rd_T38 l0_0 a1).f2.f1) x161000_1 x161001_1 x161002_1 false t162 t163 t164 false) = some (r1, r2, r3, r4) := by rw [if_neg (show ¬ (false = true) by decide)] at H; exact H
            clear H
            have H := H1
            clear H1
            have H' := Aside0.mk H
            clear H
            try go_wp2
            have n0 : Aside0 (((((w74.setCell ⟨gb166, 0, none⟩ (.int .i64 t162)).setCell ⟨gb166, 1, none⟩ (.int .i64 t163)).setCell ⟨gb166, 2, none⟩ (.int .i64 t164)).setCell ⟨gb166, 3, none⟩ (.bool false)).heap[gb153]? = some (.cells #[.slice (some ad155) l0_0.length c0_0, .int .i64 a0_1] 24 (0, 0))) := ⟨by (with_reducible repeat (first | refine blk_drewN ?_ _ | refine blk_drew ?_ | refine blk_alloc ?_ _)); refine blk_far ?_ NB153_166.out _; (with_reducible repeat (first | refine blk_drewN ?_ _ | refine blk_drew ?_ | refine blk_alloc ?_ _)); refine blk_far ?_ NB153_166.out _; (with_reducible repeat (first | refine blk_drewN ?_ _ | refine blk_drew ?_ | refine blk_alloc ?_ _)); refine blk_far ?_ NB153_166.out _; (with_reducible repeat (first | refine blk_drewN ?_ _ | refine blk_drew ?_ | refine blk_alloc ?_ _)); refine blk_far ?_ NB153_166.out _; (with_reducible repeat (first | refine blk_drewN ?_ _ | refine blk_drew ?_ | refine blk_alloc ?_ _)); exact BK153.out⟩
            have n1 : Aside0 (((((w74.setCell ⟨gb166, 0, none⟩ (.int .i64 t162)).setCell ⟨gb166, 1, none⟩ (.int .i64 t163)).setCell ⟨gb166, 2, none⟩ (.int .i64 t164)).setCell ⟨gb166, 3, none⟩ (.bool false)).heap[gb154]? = some (.cells #[.int .i64 x155000_1, .int .i64 x155001_1, .int .i64 x155002_1, .bool x155003_1] 88 (0, 0))) := ⟨by (with_reducible repeat (first | refine blk_drewN ?_ _ | refine blk_drew ?_ | refine blk_alloc ?_ _)); refine blk_far ?_ NB154_166.out _; (with_reducible repeat (first | refine blk_drewN ?_ _ | refine blk_drew ?_ | refine blk_alloc ?_ _)); refine blk_far ?_ NB154_166.out _; (with_reducible repeat (first | refine blk_drewN ?_ _ | refine blk_drew ?_ | refine blk_alloc ?_ _)); refine blk_far ?_ NB154_166.out _; (with_reducible repeat (first | refine blk_drewN ?_ _ | refine blk_drew ?_ | refine blk_alloc ?_ _)); refine blk_far ?_ NB154_166.out _; (with_reducible repeat (first | refine blk_drewN ?_ _ | refine blk_drew ?_ | refine blk_alloc ?_ _)); exact BK154.out⟩
            have n2 : Aside0 (((((w74.setCell ⟨gb166, 0, none⟩ (.int .i64 t162)).setCell ⟨gb166, 1, none⟩ (.int .i64 t163)).setCell ⟨gb166, 2, none⟩ (.int .i64 t164)).setCell ⟨gb166, 3, none⟩ (.bool false)).heap[gb156]? = some (.cells #[.bool false, .slice (some ad161) ((rd_T38 l0_0 a1).f2.f1).length c155_3] 36 (0, 0))) := ⟨by (with_reducible repeat (first | refine blk_drewN ?_ _ | refine blk_drew ?_ | refine blk_alloc ?_ _)); refine blk_far ?_ NB156_166.out _; (with_reducible repeat (first | refine blk_drewN ?_ _ | refine blk_drew ?_ | refine blk_alloc ?_ _)); refine blk_far ?_ NB156_166.out _; (with_reducible repeat (first | refine blk_drewN ?_ _ | refine blk_drew ?_ | refine blk_alloc ?_ _)); refine blk_far ?_ NB156_166.out _; (with_reducible repeat (first | refine blk_drewN ?_ _ | refine blk_drew ?_ | refine blk_alloc ?_ _)); refine blk_far ?_ NB156_166.out _; (with_reducible repeat (first | refine blk_drewN ?_ _ | refine blk_drew ?_ | refine blk_alloc ?_ _)); exact BK156.out⟩
            have n3 : Aside0 (((((w74.setCell ⟨gb166, 0, none⟩ (.int .i64 t162)).setCell ⟨gb166, 1, none⟩ (.int .i64 t163)).setCell ⟨gb166, 2, none⟩ (.int .i64 t164)).setCell ⟨gb166, 3, none⟩ (.bool false)).heap[gb160]? = some (.cells #[.int .i64 x161000_1, .int .i64 x161001_1, .int .i64 x161002_1, .bool false] 88 (0, 0))) := ⟨by (with_reducible repeat (first | refine blk_drewN ?_ _ | refine blk_drew ?_ | refine blk_alloc ?_ _)); refine blk_far ?_ NB160_166.out _; (with_reducible repeat (first | refine blk_drewN ?_ _ | refine blk_drew ?_ | refine blk_alloc ?_ _)); refine blk_far ?_ NB160_166.out _; (with_reducible repeat (first | refine blk_drewN ?_ _ | refine blk_drew ?_ | refine blk_alloc ?_ _)); refine blk_far ?_ NB160_166.out _; (with_reducible repeat (first | refine blk_drewN ?_ _ | refine blk_drew ?_ | refine blk_alloc ?_ _)); refine blk_far ?_ NB160_166.out _; (with_reducible repeat (first | refine blk_drewN ?_ _ | refine blk_drew ?_ | refine blk_alloc ?_ _)); exact BK160.out⟩
            have n4 : Aside0 (((((w74.setCell ⟨gb166, 0, none⟩ (.int .i64 t162)).setCell ⟨gb166, 1, none⟩ (.int .i64 t163)).setCell ⟨gb166, 2, none⟩ (.int .i64 t164)).setCell ⟨gb166, 3, none⟩ (.bool false)).heap[gb166]? = some (.cells #[.int .i64 t162, .int .i64 t163, .int .i64 t164, .bool false] 88 (0, 0))) := ⟨by (with_reducible repeat (first | refine blk_drewN ?_ _ | refine blk_drew ?_ | refine blk_alloc ?_ _)); refine blk_put (cs := #[.int .i64 t162, .int .i64 t163, .int .i64 t164, .bool false]) ?_ 3 _ rfl; (with_reducible repeat (first | refine blk_drewN ?_ _ | refine blk_drew ?_ | refine blk_alloc ?_ _)); refine blk_put (cs := #[.int .i64 t162, .int .i64 t163, .int .i64 0, .bool false]) ?_ 2 _ rfl; (with_reducible repeat (first | refine blk_drewN ?_ _ | refine blk_drew ?_ | refine blk_alloc ?_ _)); refine blk_put (cs := #[.int .i64 t162, .int .i64 0, .int .i64 0, .bool false]) ?_ 1 _ rfl; (with_reducible repeat (first | refine blk_drewN ?_ _ | refine blk_drew ?_ | refine blk_alloc ?_ _)); refine blk_put (cs := #[.int .i64 0, .int .i64 0, .int .i64 0, .bool false]) ?_ 0 _ rfl; (with_reducible repeat (first | refine blk_drewN ?_ _ | refine blk_drew ?_ | refine blk_alloc ?_ _)); exact BK166.out⟩
            have n5 : Aside0 (Below w.heap.size w ((((w74.setCell ⟨gb166, 0, none⟩ (.int .i64 t162)).setCell ⟨gb166, 1, none⟩ (.int .i64 t163)).setCell ⟨gb166, 2, none⟩ (.int .i64 t164)).setCell ⟨gb166, 3, none⟩ (.bool false))) := ⟨by repeat (first | (with_reducible first | exact HB.out | apply below_alloc | apply pw_below_drewN | apply below_drew1 | refine below_set ?_ GE153.out | refine below_set ?_ GE154.out | refine below_set ?_ GE156.out | refine below_set ?_ GE160.out | refine below_set ?_ GE166.out) | exact HB.out)⟩
            (try clear BK153)
            (try clear BK154)
            (try clear BK156)
            (try clear BK160)
            (try clear BK166)
            (try clear HB)
            generalize ((((w74.setCell ⟨gb166, 0, none⟩ (.int .i64 t162)).setCell ⟨gb166, 1, none⟩ (.int .i64 t163)).setCell ⟨gb166, 2, none⟩ (.int .i64 t164)).setCell ⟨gb166, 3, none⟩ (.bool false)) = w91 at n0 n1 n2 n3 n4 n5 ⊢
            have BK153 := n0
            have BK154 := n1
            have BK156 := n2
            have BK160 := n3
            have BK166 := n4
            have HB := n5
            clear n0 n1 n2 n3 n4 n5
            obtain ⟨y0_, y1_, y2_, y3_⟩ : w91.cell? ⟨gb166, 0, none⟩ = some (.int .i64 t162) ∧ w91.cell? ⟨gb166, 1, none⟩ = some (.int .i64 t163) ∧ w91.cell? ⟨gb166, 2, none⟩ = some (.int .i64 t164) ∧ w91.cell? ⟨gb166, 3, none⟩ = some (.bool false) := ⟨(blk_cell BK166.out 0).trans rfl, (blk_cell BK166.out 1).trans rfl, (blk_cell BK166.out 2).trans rfl, (blk_cell BK166.out 3).trans rfl⟩
            go_quiet (fail)
            try go_wp2
            go_meet
            case rel => exact ⟨_, (true), (by first | rfl | (simp; done) | (simp [*]; done)), H', ⟨by have := HK1.out; first | omega | exact Nat.le_refl _⟩, ⟨by (with_reducible repeat (first | refine blk_drewN ?_ _ | refine blk_drew ?_ | refine blk_alloc ?_ _)); exact BK153.out⟩, ⟨by (with_reducible repeat (first | refine blk_drewN ?_ _ | refine blk_drew ?_ | refine blk_alloc ?_ _)); exact BK154.out⟩, ⟨by (with_reducible repeat (first | refine blk_drewN ?_ _ | refine blk_drew ?_ | refine blk_alloc ?_ _)); exact BK156.out⟩, ⟨by (with_reducible repeat (first | refine blk_drewN ?_ _ | refine blk_drew ?_ | refine blk_alloc ?_ _)); exact BK160.out⟩, ⟨by (with_reducible repeat (first | refine blk_drewN ?_ _ | refine blk_drew ?_ | refine blk_alloc ?_ _)); exact BK166.out⟩, ⟨by repeat (first | (with_reducible first | exact HB.out | apply below_alloc | apply pw_below_drewN | apply below_drew1 | refine below_set ?_ GE153.out | refine below_set ?_ GE154.out | refine below_set ?_ GE156.out | refine below_set ?_ GE160.out | refine below_set ?_ GE166.out) | exact HB.out)⟩⟩
          case rest =>
           clear HC66
           try clear c1
           try clear p1
           try clear q1
           try clear hx1
           try clear p2
           try clear c7
           try clear c8
           try clear c15
           try clear p16
           try clear q16
           try clear hx16
           try clear c79
           try clear c80
           try clear c80b0
           try clear c80b1
           try clear hx167_0
           try clear hx167_1
           try clear p167
           try clear q167
           obtain ⟨kq, x97_65, rfl, HA, HJ65, BK153, BK154, BK156, BK160, BK166, HB⟩ := hcut
           cases kq with
           | zero => exact absurd HA.out (by simp [assartref07_below.j1])
           | succ kj65 =>
            have H := HA.out
            clear HA
            simp only [assartref07_below.j1] at H
            by_cases c93 : x97_65 = true
            ·subst c93
             have H1 : (some (0, 0, 0, false)) = some (r1, r2, r3, r4) := by rw [if_pos rfl] at H; exact H
             clear H
             have H := H1
             clear H1
             simp only [Option.some.injEq, Prod.mk.injEq] at H
             obtain ⟨rfl, rfl, rfl, rfl⟩ := H
             have hnb94 := NB154_153.out
             have hnc94 := NB153_154.out
             have hnb95 := NB154_156.out
             have hnc95 := NB156_154.out
             have hnb96 := NB154_160.out
             have hnc96 := NB160_154.out
             have hnb97 := NB154_166.out
             have hnc97 := NB166_154.out
             have hcz98_0 : wc.cell? ⟨gb154, 0, none⟩ = some (.int .i64 x155000_1) := (blk_cell BK154.out 0).trans rfl
             have hcz98_1 : wc.cell? ⟨gb154, 1, none⟩ = some (.int .i64 x155001_1) := (blk_cell BK154.out 1).trans rfl
             have hcz98_2 : wc.cell? ⟨gb154, 2, none⟩ = some (.int .i64 x155002_1) := (blk_cell BK154.out 2).trans rfl
             have hcz98_3 : wc.cell? ⟨gb154, 3, none⟩ = some (.bool x155003_1) := (blk_cell BK154.out 3).trans rfl
             have hfz98_0 := blk_frozen BK154.out 0
             have hfz98_1 := blk_frozen BK154.out 1
             have hfz98_2 := blk_frozen BK154.out 2
             have hfz98_3 := blk_frozen BK154.out 3
             go_wp2
             refine bodyPost_ret (results_cell_row rfl _ _ gb154 88 #[.int .i64 0, .int .i64 0, .int .i64 0, .bool false] (0, 0) _ rfl (by (with_reducible repeat (first | refine blk_drewN ?_ _ | refine blk_drew ?_ | refine blk_alloc ?_ _)); refine blk_put (cs := #[.int .i64 0, .int .i64 0, .int .i64 0, .bool x155003_1]) ?_ 3 _ rfl; (with_reducible repeat (first | refine blk_drewN ?_ _ | refine blk_drew ?_ | refine blk_alloc ?_ _)); refine blk_put (cs := #[.int .i64 0, .int .i64 0, .int .i64 x155002_1, .bool x155003_1]) ?_ 2 _ rfl; (with_reducible repeat (first | refine blk_drewN ?_ _ | refine blk_drew ?_ | refine blk_alloc ?_ _)); refine blk_put (cs := #[.int .i64 0, .int .i64 x155001_1, .int .i64 x155002_1, .bool x155003_1]) ?_ 1 _ rfl; (with_reducible repeat (first | refine blk_drewN ?_ _ | refine blk_drew ?_ | refine blk_alloc ?_ _)); refine blk_put (cs := #[.int .i64 x155000_1, .int .i64 x155001_1, .int .i64 x155002_1, .bool x155003_1]) ?_ 0 _ rfl; (with_reducible repeat (first | refine blk_drewN ?_ _ | refine blk_drew ?_ | refine blk_alloc ?_ _)); exact BK154.out) Try.underlying88 rfl (by kernel_rfl)) rfl ?_
             exact ⟨by first | rfl | (simp [errW_none, errW_some] <;> rfl) | (simp [*, errW_none, errW_some] <;> rfl), by repeat (first | (with_reducible first | exact HB.out | apply below_alloc | apply pw_below_drewN | apply below_drew1 | refine below_set ?_ GE153.out | refine below_set ?_ GE154.out | refine below_set ?_ GE156.out | refine below_set ?_ GE160.out | refine below_set ?_ GE166.out) | exact HB.out)⟩
            ·replace c93 := Bool.eq_false_iff.mpr c93
             subst c93
             have H1 : (if x9_1 = 0 then (assartref07_below.l0 kj65 a2 (wrap64 (x9_1 + 1)) l0_0 a0_1 false ((rd_T38 l0_0 a1).f2.f1) t162 t163 (wrap64 (t164 + 1)) false) else (assartref07_below.l0 kj65 a2 (wrap64 (x9_1 + 1)) l0_0 a0_1 false ((rd_T38 l0_0 a1).f2.f1) x161000_1 t163 x161002_1 false)) = some (r1, r2, r3, r4) := by rw [if_neg (show ¬ (false = true) by decide)] at H; exact H
             clear H
             have H := H1
             clear H1
             by_cases c99 : x9_1 = 0
             ·rw [if_pos c99] at H
              have c99b0 : (x9_1 == 0) = true := beq_iff_eq.mpr c99
              have c99b1 : (x9_1 != 0) = false := bne_eq_false_iff_eq.mpr c99
              clear c99
              have H' := Aside0.mk H
              clear H
              have hnb100 := NB166_153.out
              have hnc100 := NB153_166.out
              have hnb101 := NB166_154.out
              have hnc101 := NB154_166.out
              have hnb102 := NB166_156.out
              have hnc102 := NB156_166.out
              have hnb103 := NB166_160.out
              have hnc103 := NB160_166.out
              have hcz104_0 : wc.cell? ⟨gb166, 0, none⟩ = some (.int .i64 t162) := (blk_cell BK166.out 0).trans rfl
              have hcz104_1 : wc.cell? ⟨gb166, 1, none⟩ = some (.int .i64 t163) := (blk_cell BK166.out 1).trans rfl
              have hcz104_2 : wc.cell? ⟨gb166, 2, none⟩ = some (.int .i64 t164) := (blk_cell BK166.out 2).trans rfl
              have hcz104_3 : wc.cell? ⟨gb166, 3, none⟩ = some (.bool t165) := (blk_cell BK166.out 3).trans rfl
              have hfz104_0 := blk_frozen BK166.out 0
              have hfz104_1 := blk_frozen BK166.out 1
              have hfz104_2 := blk_frozen BK166.out 2
              have hfz104_3 := blk_frozen BK166.out 3
              have hnb105 := NB160_153.out
              have hnc105 := NB153_160.out
              have hnb106 := NB160_154.out
              have hnc106 := NB154_160.out
              have hnb107 := NB160_156.out
              have hnc107 := NB156_160.out
              have hcz108_0 : wc.cell? ⟨gb160, 0, none⟩ = some (.int .i64 x161000_1) := (blk_cell BK160.out 0).trans rfl
              have hcz108_1 : wc.cell? ⟨gb160, 1, none⟩ = some (.int .i64 x161001_1) := (blk_cell BK160.out 1).trans rfl
              have hcz108_2 : wc.cell? ⟨gb160, 2, none⟩ = some (.int .i64 x161002_1) := (blk_cell BK160.out 2).trans rfl
              have hcz108_3 : wc.cell? ⟨gb160, 3, none⟩ = some (.bool false) := (blk_cell BK160.out 3).trans rfl
              have hfz108_0 := blk_frozen BK160.out 0
              have hfz108_1 := blk_frozen BK160.out 1
              have hfz108_2 := blk_frozen BK160.out 2
              have hfz108_3 := blk_frozen BK160.out 3
              go_wp2
              go_roundg kj65
              case measure => have := HK1.out; have := HJ65.out; omega
              case rel => exact ⟨(wrap64 (x9_1 + 1)), (x155000_1), (x155001_1), (x155002_1), (x155003_1), (t162), (t163), (wrap64 (t164 + 1)), (by first | rfl | (simp; done) | (simp [*]; done)), H', ⟨by have := HK1.out; have := HJ65.out; omega⟩, ⟨by (with_reducible repeat (first | refine blk_drewN ?_ _ | refine blk_drew ?_ | refine blk_alloc ?_ _)); refine blk_far ?_ NB153_160.out _; (with_reducible repeat (first | refine blk_drewN ?_ _ | refine blk_drew ?_ | refine blk_alloc ?_ _)); refine blk_far ?_ NB153_160.out _; (with_reducible repeat (first | refine blk_drewN ?_ _ | refine blk_drew ?_ | refine blk_alloc ?_ _)); refine blk_far ?_ NB153_160.out _; (with_reducible repeat (first | refine blk_drewN ?_ _ | refine blk_drew ?_ | refine blk_alloc ?_ _)); exact BK153.out⟩, ⟨by (with_reducible repeat (first | refine blk_drewN ?_ _ | refine blk_drew ?_ | refine blk_alloc ?_ _)); refine blk_far ?_ NB154_160.out _; (with_reducible repeat (first | refine blk_drewN ?_ _ | refine blk_drew ?_ | refine blk_alloc ?_ _)); refine blk_far ?_ NB154_160.out _; (with_reducible repeat (first | refine blk_drewN ?_ _ | refine blk_drew ?_ | refine blk_alloc ?_ _)); refine blk_far ?_ NB154_160.out _; (with_reducible repeat (first | refine blk_drewN ?_ _ | refine blk_drew ?_ | refine blk_alloc ?_ _)); exact BK154.out⟩, ⟨by (with_reducible repeat (first | refine blk_drewN ?_ _ | refine blk_drew ?_ | refine blk_alloc ?_ _)); refine blk_far ?_ NB156_160.out _; (with_reducible repeat (first | refine blk_drewN ?_ _ | refine blk_drew ?_ | refine blk_alloc ?_ _)); refine blk_far ?_ NB156_160.out _; (with_reducible repeat (first | refine blk_drewN ?_ _ | refine blk_drew ?_ | refine blk_alloc ?_ _)); refine blk_far ?_ NB156_160.out _; (with_reducible repeat (first | refine blk_drewN ?_ _ | refine blk_drew ?_ | refine blk_alloc ?_ _)); exact BK156.out⟩, ⟨by (with_reducible repeat (first | refine blk_drewN ?_ _ | refine blk_drew ?_ | refine blk_alloc ?_ _)); refine blk_put (cs := #[.int .i64 t162, .int .i64 x161001_1, .int .i64 (wrap64 (t164 + 1)), .bool false]) ?_ 1 _ rfl; (with_reducible repeat (first | refine blk_drewN ?_ _ | refine blk_drew ?_ | refine blk_alloc ?_ _)); refine blk_put (cs := #[.int .i64 t162, .int .i64 x161001_1, .int .i64 x161002_1, .bool false]) ?_ 2 _ rfl; (with_reducible repeat (first | refine blk_drewN ?_ _ | refine blk_drew ?_ | refine blk_alloc ?_ _)); refine blk_put (cs := #[.int .i64 x161000_1, .int .i64 x161001_1, .int .i64 x161002_1, .bool false]) ?_ 0 _ rfl; (with_reducible repeat (first | refine blk_drewN ?_ _ | refine blk_drew ?_ | refine blk_alloc ?_ _)); exact BK160.out⟩, ⟨by repeat (first | (with_reducible first | exact HB.out | apply below_alloc | apply pw_below_drewN | apply below_drew1 | refine below_set ?_ GE153.out | refine below_set ?_ GE154.out | refine below_set ?_ GE156.out | refine below_set ?_ GE160.out | refine below_set ?_ GE166.out) | exact HB.out)⟩⟩
             ·rw [if_neg c99] at H
              have c99b0 : (x9_1 == 0) = false := beq_eq_false_iff_ne.mpr c99
              have c99b1 : (x9_1 != 0) = true := bne_iff_ne.mpr c99
              have H' := Aside0.mk H
              clear H
              have hnb109 := NB166_153.out
              have hnc109 := NB153_166.out
              have hnb110 := NB166_154.out
              have hnc110 := NB154_166.out
              have hnb111 := NB166_156.out
              have hnc111 := NB156_166.out
              have hnb112 := NB166_160.out
              have hnc112 := NB160_166.out
              have hcz113_0 : wc.cell? ⟨gb166, 0, none⟩ = some (.int .i64 t162) := (blk_cell BK166.out 0).trans rfl
              have hcz113_1 : wc.cell? ⟨gb166, 1, none⟩ = some (.int .i64 t163) := (blk_cell BK166.out 1).trans rfl
              have hcz113_2 : wc.cell? ⟨gb166, 2, none⟩ = some (.int .i64 t164) := (blk_cell BK166.out 2).trans rfl
              have hcz113_3 : wc.cell? ⟨gb166, 3, none⟩ = some (.bool t165) := (blk_cell BK166.out 3).trans rfl
              have hfz113_0 := blk_frozen BK166.out 0
              have hfz113_1 := blk_frozen BK166.out 1
              have hfz113_2 := blk_frozen BK166.out 2
              have hfz113_3 := blk_frozen BK166.out 3
              have hnb114 := NB160_153.out
              have hnc114 := NB153_160.out
              have hnb115 := NB160_154.out
              have hnc115 := NB154_160.out
              have hnb116 := NB160_156.out
              have hnc116 := NB156_160.out
              have hcz117_0 : wc.cell? ⟨gb160, 0, none⟩ = some (.int .i64 x161000_1) := (blk_cell BK160.out 0).trans rfl
              have hcz117_1 : wc.cell? ⟨gb160, 1, none⟩ = some (.int .i64 x161001_1) := (blk_cell BK160.out 1).trans rfl
              have hcz117_2 : wc.cell? ⟨gb160, 2, none⟩ = some (.int .i64 x161002_1) := (blk_cell BK160.out 2).trans rfl
              have hcz117_3 : wc.cell? ⟨gb160, 3, none⟩ = some (.bool false) := (blk_cell BK160.out 3).trans rfl
              have hfz117_0 := blk_frozen BK160.out 0
              have hfz117_1 := blk_frozen BK160.out 1
              have hfz117_2 := blk_frozen BK160.out 2
              have hfz117_3 := blk_frozen BK160.out 3
              go_wp2
              go_roundg kj65
              case measure => have := HK1.out; have := HJ65.out; omega
              case rel => exact ⟨(wrap64 (x9_1 + 1)), (x155000_1), (x155001_1), (x155002_1), (x155003_1), (x161000_1), (t163), (x161002_1), (by first | rfl | (simp; done) | (simp [*]; done)), H', ⟨by have := HK1.out; have := HJ65.out; omega⟩, ⟨by (with_reducible repeat (first | refine blk_drewN ?_ _ | refine blk_drew ?_ | refine blk_alloc ?_ _)); refine blk_far ?_ NB153_160.out _; (with_reducible repeat (first | refine blk_drewN ?_ _ | refine blk_drew ?_ | refine blk_alloc ?_ _)); exact BK153.out⟩, ⟨by (with_reducible repeat (first | refine blk_drewN ?_ _ | refine blk_drew ?_ | refine blk_alloc ?_ _)); refine blk_far ?_ NB154_160.out _; (with_reducible repeat (first | refine blk_drewN ?_ _ | refine blk_drew ?_ | refine blk_alloc ?_ _)); exact BK154.out⟩, ⟨by (with_reducible repeat (first | refine blk_drewN ?_ _ | refine blk_drew ?_ | refine blk_alloc ?_ _)); refine blk_far ?_ NB156_160.out _; (with_reducible repeat (first | refine blk_drewN ?_ _ | refine blk_drew ?_ | refine blk_alloc ?_ _)); exact BK156.out⟩, ⟨by (with_reducible repeat (first | refine blk_drewN ?_ _ | refine blk_drew ?_ | refine blk_alloc ?_ _)); refine blk_put (cs := #[.int .i64 x161000_1, .int .i64 x161001_1, .int .i64 x161002_1, .bool false]) ?_ 1 _ rfl; (with_reducible repeat (first | refine blk_drewN ?_ _ | refine blk_drew ?_ | refine blk_alloc ?_ _)); exact BK160.out⟩, ⟨by repeat (first | (with_reducible first | exact HB.out | apply below_alloc | apply pw_below_drewN | apply below_drew1 | refine below_set ?_ GE153.out | refine below_set ?_ GE154.out | refine below_set ?_ GE156.out | refine below_set ?_ GE160.out | refine below_set ?_ GE166.out) | exact HB.out)⟩⟩
         ·rw [if_neg c64] at H
          exact absurd H (by simp)
        ·rw [if_neg c63] at H
         have c63b0 : decide (x9_1 < (((rd_T38 l0_0 a1).f2.f1).length : Int)) = false := decide_eq_false c63
         clear c63
         simp only [Option.some.injEq, Prod.mk.injEq] at H
         obtain ⟨rfl, rfl, rfl, rfl⟩ := H
         have hnb118 := NB156_153.out
         have hnc118 := NB153_156.out
         have hnb119 := NB156_154.out
         have hnc119 := NB154_156.out
         have hnb120 := NB156_160.out
         have hnc120 := NB160_156.out
         have hcz121_0 : wr.cell? ⟨gb156, 0, none⟩ = some (.bool false) := (blk_cell BK156.out 0).trans rfl
         have hcz121_1 : wr.cell? ⟨gb156, 1, none⟩ = some (.slice A155_3 ((rd_T38 l0_0 a1).f2.f1).length c155_3) := (blk_cell BK156.out 1).trans rfl
         have hfz121_0 := blk_frozen BK156.out 0
         have hfz121_1 := blk_frozen BK156.out 1
         have hnb122 := NB160_153.out
         have hnc122 := NB153_160.out
         have hnb123 := NB160_154.out
         have hnc123 := NB154_160.out
         have hcz124_0 : wr.cell? ⟨gb160, 0, none⟩ = some (.int .i64 x161000_1) := (blk_cell BK160.out 0).trans rfl
         have hcz124_1 : wr.cell? ⟨gb160, 1, none⟩ = some (.int .i64 x161001_1) := (blk_cell BK160.out 1).trans rfl
         have hcz124_2 : wr.cell? ⟨gb160, 2, none⟩ = some (.int .i64 x161002_1) := (blk_cell BK160.out 2).trans rfl
         have hcz124_3 : wr.cell? ⟨gb160, 3, none⟩ = some (.bool false) := (blk_cell BK160.out 3).trans rfl
         have hfz124_0 := blk_frozen BK160.out 0
         have hfz124_1 := blk_frozen BK160.out 1
         have hfz124_2 := blk_frozen BK160.out 2
         have hfz124_3 := blk_frozen BK160.out 3
         have hnb125 := NB154_153.out
         have hnc125 := NB153_154.out
         have hcz126_0 : wr.cell? ⟨gb154, 0, none⟩ = some (.int .i64 x155000_1) := (blk_cell BK154.out 0).trans rfl
         have hcz126_1 : wr.cell? ⟨gb154, 1, none⟩ = some (.int .i64 x155001_1) := (blk_cell BK154.out 1).trans rfl
         have hcz126_2 : wr.cell? ⟨gb154, 2, none⟩ = some (.int .i64 x155002_1) := (blk_cell BK154.out 2).trans rfl
         have hcz126_3 : wr.cell? ⟨gb154, 3, none⟩ = some (.bool x155003_1) := (blk_cell BK154.out 3).trans rfl
         have hfz126_0 := blk_frozen BK154.out 0
         have hfz126_1 := blk_frozen BK154.out 1
         have hfz126_2 := blk_frozen BK154.out 2
         have hfz126_3 := blk_frozen BK154.out 3
         go_wp2
         refine bodyPost_ret (results_cell_row rfl _ _ gb154 88 #[.int .i64 x161000_1, .int .i64 x161001_1, .int .i64 x161002_1, .bool true] (0, 0) _ rfl (by (with_reducible repeat (first | refine blk_drewN ?_ _ | refine blk_drew ?_ | refine blk_alloc ?_ _)); refine blk_put (cs := #[.int .i64 x161000_1, .int .i64 x161001_1, .int .i64 x161002_1, .bool x155003_1]) ?_ 3 _ rfl; (with_reducible repeat (first | refine blk_drewN ?_ _ | refine blk_drew ?_ | refine blk_alloc ?_ _)); refine blk_put (cs := #[.int .i64 x161000_1, .int .i64 x161001_1, .int .i64 x155002_1, .bool x155003_1]) ?_ 2 _ rfl; (with_reducible repeat (first | refine blk_drewN ?_ _ | refine blk_drew ?_ | refine blk_alloc ?_ _)); refine blk_put (cs := #[.int .i64 x161000_1, .int .i64 x155001_1, .int .i64 x155002_1, .bool x155003_1]) ?_ 1 _ rfl; (with_reducible repeat (first | refine blk_drewN ?_ _ | refine blk_drew ?_ | refine blk_alloc ?_ _)); refine blk_put (cs := #[.int .i64 x155000_1, .int .i64 x155001_1, .int .i64 x155002_1, .bool x155003_1]) ?_ 0 _ rfl; (with_reducible repeat (first | refine blk_drewN ?_ _ | refine blk_drew ?_ | refine blk_alloc ?_ _)); refine blk_far ?_ NB154_160.out _; (with_reducible repeat (first | refine blk_drewN ?_ _ | refine blk_drew ?_ | refine blk_alloc ?_ _)); exact BK154.out) Try.underlying88 rfl (by kernel_rfl)) rfl ?_
         exact ⟨by first | rfl | (simp [errW_none, errW_some] <;> rfl) | (simp [*, errW_none, errW_some] <;> rfl), by repeat (first | (with_reducible first | exact HB.out | apply below_alloc | apply pw_below_drewN | apply below_drew1 | refine below_set ?_ GE153.out | refine below_set ?_ GE154.out | refine below_set ?_ GE156.out | refine below_set ?_ GE160.out) | exact HB.out)⟩
  ·rw [if_neg c5] at H
   exact absurd H (by simp)
 ·rw [if_neg c4] at H
  exact absurd H (by simp)
end Go.Proofs.Ytflndiikeoflfaa.P
end
section
namespace Go.Proofs.Ytflndiikeoflfaa.P
open Go.RowKit Go.Proofs.YtflndiikeoflfaaW.PrintWords Go.Proofs.YtflndiikeoflfaaW.PrintLast Go.Proofs.YtflndiikeoflfaaW.PrintMore
attribute [local go_sem] max2_int min2_int max_two min_two max_three min_three max_four min_four
set_option linter.unusedVariables false
set_option linter.unusedSimpArgs false
def assartref07_Right.f (k : Nat) (l0_0 : List (S38)) (a0_1 : Int) (a1 : Int) : Option (Bool) := if a1 = (-1) then (some true) else ((assartref05_Used.f l0_0 a0_1 a1).bind fun t169 => (if t169 = true then ((assartref07_below.f k l0_0 a0_1 a1 20).bind fun bt170 => (some bt170.2.2.2)) else (some false)))
set_option maxHeartbeats 8000000 in
set_option maxRecDepth 100000 in
theorem assartref07_Right.calls (k : Nat) (A0_0 : Option Addr) (c0_0 : Nat) (l0_0 : List (S38)) (a0_1 : Int) (a1 : Int) (r : Bool) (w : World) (hr0_0 : Kd.C k38 w A0_0 l0_0.length l0_0) (hc0_0 : l0_0.length ≤ c0_0) (h : assartref07_Right.f k l0_0 a0_1 a1 = some r) :
  Calls Try.prog 34 #[.agg #[.slice A0_0 l0_0.length c0_0, .int .i64 a0_1], .int .i64 a1] w fun e w' => e = .returned (.bool r) ∧ Below w.heap.size w w' := by
 have hu24 := Try.underlying24
 have hu88 := Try.underlying88
 have HR0_0 := Aside0.mk hr0_0
 have HC0_0 := Aside0.mk hc0_0
 clear hr0_0 hc0_0
 have HB := Aside0.mk (Below.refl w.heap.size w)
 have H : (if a1 = (-1) then (some true) else ((assartref05_Used.f l0_0 a0_1 a1).bind fun t169 => (if t169 = true then ((assartref07_below.f k l0_0 a0_1 a1 20).bind fun bt170 => (some bt170.2.2.2)) else (some false)))) = some r := h
 clear h
 by_cases c3 : a1 = (-1)
 ·rw [if_pos c3] at H
  have c3b0 : (a1 == (-1)) = true := beq_iff_eq.mpr c3
  have c3b1 : (a1 != (-1)) = false := bne_eq_false_iff_eq.mpr c3
  clear c3
  obtain rfl := Option.some.inj H
  go_enter Try.func34, Try.ntmps34
  go_wp2_with (first | ((with_reducible refine gate_dst (N := 2) rfl ?_); refine box_event ?hg (N := 2) ?hd (cs := #[.slice A0_0 l0_0.length c0_0, .int .i64 a0_1]) (t := 24) ?hr ?_; (case hd => rfl); (case hg => rfl); (case hr => first | (go_simp; done) | (go_simp; rfl)); intro gb168 hg w4 hbox hb; have n0_ := Aside0.mk (below_step (by repeat (first | (with_reducible first | exact HB.out | apply below_alloc | apply pw_below_drewN | apply below_drew1) | exact HB.out)) hb); have n1_ := Aside0.mk (hbox); have n2_ := Aside0.mk ((by rw [hg]; exact (below_size (by repeat (first | (with_reducible first | exact HB.out | apply below_alloc | apply pw_below_drewN | apply below_drew1) | exact HB.out))) : w.heap.size ≤ gb168)); have n3_ := Aside0.mk ((by rw [hg]; exact (below_size (by repeat (first | (with_reducible first | exact HB.out | apply below_alloc | apply pw_below_drewN | apply below_drew1) | exact HB.out))) : w.heap.size ≤ gb168)); clear HB; have HB := n0_; have BK168 := n1_; have GW168 := n2_; have GE168 := n3_; clear n0_ n1_ n2_ n3_; clear hb hbox hg))
  go_ret
  exact ⟨by first | rfl | (simp [errW_none, errW_some] <;> rfl) | (simp [*, errW_none, errW_some] <;> rfl), by repeat (first | (with_reducible first | exact HB.out | apply below_alloc | apply pw_below_drewN | apply below_drew1 | refine below_set ?_ GE168.out) | exact HB.out)⟩
 ·rw [if_neg c3] at H
  have c3b0 : (a1 == (-1)) = false := beq_eq_false_iff_ne.mpr c3
  have c3b1 : (a1 != (-1)) = true := bne_iff_ne.mpr c3
  replace H := Option.bind_eq_some_iff.mp H
  obtain ⟨t169, A50, H⟩ := H
  replace H : (if t169 = true then ((assartref07_below.f k l0_0 a0_1 a1 20).bind fun bt170 => (some bt170.2.2.2)) else (some false)) = some r := H
  have A5 := Aside0.mk A50
  clear A50
  by_cases c6 : t169 = true
  ·subst c6
   have H1 : ((assartref07_below.f k l0_0 a0_1 a1 20).bind fun bt170 => (some bt170.2.2.2)) = some r := by rw [if_pos rfl] at H; exact H
   clear H
   have H := H1
   clear H1
   replace H := Option.bind_eq_some_iff.mp H
   obtain ⟨⟨t170, t171, t172, t173⟩, A70, H⟩ := H
   replace H : (some t173) = some r := H
   have A7 := Aside0.mk A70
   clear A70
   obtain rfl := Option.some.inj H
   go_enter Try.func34, Try.ntmps34
   go_wp2_with (first | ((with_reducible refine gate_dst (N := 2) rfl ?_); refine box_event ?hg (N := 2) ?hd (cs := #[.slice A0_0 l0_0.length c0_0, .int .i64 a0_1]) (t := 24) ?hr ?_; (case hd => rfl); (case hg => rfl); (case hr => first | (go_simp; done) | (go_simp; rfl)); intro gb168 hg w8 hbox hb; have n0_ := Aside0.mk (below_step (by repeat (first | (with_reducible first | exact HB.out | apply below_alloc | apply pw_below_drewN | apply below_drew1) | exact HB.out)) hb); have n1_ := Aside0.mk (hbox); have n2_ := Aside0.mk ((by rw [hg]; exact (below_size (by repeat (first | (with_reducible first | exact HB.out | apply below_alloc | apply pw_below_drewN | apply below_drew1) | exact HB.out))) : w.heap.size ≤ gb168)); have n3_ := Aside0.mk ((by rw [hg]; exact (below_size (by repeat (first | (with_reducible first | exact HB.out | apply below_alloc | apply pw_below_drewN | apply below_drew1) | exact HB.out))) : w.heap.size ≤ gb168)); clear HB; have HB := n0_; have BK168 := n1_; have GW168 := n2_; have GE168 := n3_; clear n0_ n1_ n2_ n3_; clear hb hbox hg; have hcz9_0 : w8.cell? ⟨gb168, 0, none⟩ = some (.slice A0_0 l0_0.length c0_0) := (blk_cell BK168.out 0).trans rfl; have hcz9_1 : w8.cell? ⟨gb168, 1, none⟩ = some (.int .i64 a0_1) := (blk_cell BK168.out 1).trans rfl; have hfz9_0 := blk_frozen BK168.out 0; have hfz9_1 := blk_frozen BK168.out 1) | ((with_reducible refine gate_callee (f := 45) rfl ?_); refine goesL_ (some 11) rfl rfl Try.func45 (by kernel_rfl) rfl #[.agg #[.slice A0_0 l0_0.length c0_0, .int .i64 a0_1], .int .i64 a1] rfl (by (try simp only [List.map_toArray, List.map_cons, List.map_nil]); first | done | rfl | (simp only [List.length_drop, List.length_take]; rfl)) ?_; (with_reducible refine (assartref05_Used.calls _ _ l0_0 a0_1 a1 true _ ?side1 ?side2 A5.out).mono ?_); (case side1 => repeat (first | exact (Kd.C_below HR0_0.out HB.out) | (with_reducible refine Kd.C_alloc ?_ _) | (with_reducible refine Kd.C_drewN ?_ _) | (with_reducible refine Kd.C_drew ?_))); (case side2 => exact HC0_0.out); rintro e w10 ⟨rfl, hb⟩; refine ⟨_, rfl, ?_⟩; have n0_ := Aside0.mk (blk_below (g := gb168) (o := .cells #[.slice A0_0 l0_0.length c0_0, .int .i64 a0_1] 24 (0, 0)) (by (with_reducible repeat (first | refine blk_drewN ?_ _ | refine blk_drew ?_ | refine blk_alloc ?_ _)); exact BK168.out) hb); have n1_ := Aside0.mk (below_step (by repeat (first | (with_reducible first | exact HB.out | apply below_alloc | apply pw_below_drewN | apply below_drew1 | refine below_set ?_ GE168.out) | exact HB.out)) hb); clear BK168; clear HB; have BK168 := n0_; have HB := n1_; clear n0_ n1_; (try clear hb); (try clear hb2); (try clear hk); (try clear hi); have hcz11_0 : w10.cell? ⟨gb168, 0, none⟩ = some (.slice A0_0 l0_0.length c0_0) := (blk_cell BK168.out 0).trans rfl; have hcz11_1 : w10.cell? ⟨gb168, 1, none⟩ = some (.int .i64 a0_1) := (blk_cell BK168.out 1).trans rfl; have hfz11_0 := blk_frozen BK168.out 0; have hfz11_1 := blk_frozen BK168.out 1) | ((with_reducible refine gate_callee (f := 46) rfl ?_); refine goesL_ (some 16) rfl rfl Try.func46 (by kernel_rfl) rfl #[.agg #[.slice A0_0 l0_0.length c0_0, .int .i64 a0_1], .int .i64 a1, .int .i64 20] rfl (by (try simp only [List.map_toArray, List.map_cons, List.map_nil]); first | done | rfl | (simp only [List.length_drop, List.length_take]; rfl)) ?_; (with_reducible refine (assartref07_below.calls k _ _ l0_0 a0_1 a1 20 t170 t171 t172 t173 _ ?side1 ?side2 A7.out).mono ?_); (case side1 => repeat (first | exact (Kd.C_below HR0_0.out HB.out) | (with_reducible refine Kd.C_alloc ?_ _) | (with_reducible refine Kd.C_drewN ?_ _) | (with_reducible refine Kd.C_drew ?_))); (case side2 => exact HC0_0.out); rintro e w12 ⟨rfl, hb⟩; refine ⟨_, rfl, ?_⟩; have n0_ := Aside0.mk (blk_below (g := gb168) (o := .cells #[.slice A0_0 l0_0.length c0_0, .int .i64 a0_1] 24 (0, 0)) (by (with_reducible repeat (first | refine blk_drewN ?_ _ | refine blk_drew ?_ | refine blk_alloc ?_ _)); exact BK168.out) hb); have n1_ := Aside0.mk (below_step (by repeat (first | (with_reducible first | exact HB.out | apply below_alloc | apply pw_below_drewN | apply below_drew1 | refine below_set ?_ GE168.out) | exact HB.out)) hb); clear BK168; clear HB; have BK168 := n0_; have HB := n1_; clear n0_ n1_; (try clear hb); (try clear hb2); (try clear hk); (try clear hi)) | ((with_reducible refine gate_dst (N := 6) rfl ?_); refine box_event ?hg (N := 6) ?hd (cs := #[.int .i64 0, .int .i64 0, .int .i64 0, .bool false]) (t := 88) ?hr ?_; (case hd => rfl); (case hg => rfl); (case hr => first | (go_simp; done) | (go_simp; rfl)); intro gb174 hg w13 hbox hb; have n0_ := Aside0.mk (blk_below (g := gb168) (o := .cells #[.slice A0_0 l0_0.length c0_0, .int .i64 a0_1] 24 (0, 0)) (by (with_reducible repeat (first | refine blk_drewN ?_ _ | refine blk_drew ?_ | refine blk_alloc ?_ _)); exact BK168.out) hb); have n1_ := Aside0.mk (below_step (by repeat (first | (with_reducible first | exact HB.out | apply below_alloc | apply pw_below_drewN | apply below_drew1 | refine below_set ?_ GE168.out) | exact HB.out)) hb); have n2_ := Aside0.mk (hbox); have n3_ := Aside0.mk ((by rw [hg]; exact (below_size (by repeat (first | (with_reducible first | exact HB.out | apply below_alloc | apply pw_below_drewN | apply below_drew1 | refine below_set ?_ GE168.out) | exact HB.out))) : w.heap.size ≤ gb174)); have n4_ := Aside0.mk ((by rw [hg]; exact (below_size (by repeat (first | (with_reducible first | exact HB.out | apply below_alloc | apply pw_below_drewN | apply below_drew1 | refine below_set ?_ GE168.out) | exact HB.out))) : w.heap.size ≤ gb174)); have n5_ := Aside0.mk ((by rw [hg]; exact Nat.ne_of_lt (blk_lt (g := gb168) (o := .cells #[.slice A0_0 l0_0.length c0_0, .int .i64 a0_1] 24 (0, 0)) (by (with_reducible repeat (first | refine blk_drewN ?_ _ | refine blk_drew ?_ | refine blk_alloc ?_ _)); exact BK168.out)) : gb168 ≠ gb174)); have n6_ := Aside0.mk ((by rw [hg]; exact Nat.ne_of_gt (blk_lt (g := gb168) (o := .cells #[.slice A0_0 l0_0.length c0_0, .int .i64 a0_1] 24 (0, 0)) (by (with_reducible repeat (first | refine blk_drewN ?_ _ | refine blk_drew ?_ | refine blk_alloc ?_ _)); exact BK168.out)) : gb174 ≠ gb168)); clear BK168; clear HB; have BK168 := n0_; have HB := n1_; have BK174 := n2_; have GW174 := n3_; have GE174 := n4_; have NB168_174 := n5_; have NB174_168 := n6_; clear n0_ n1_ n2_ n3_ n4_ n5_ n6_; clear hb hbox hg; have hnb14 := NB174_168.out; have hnc14 := NB168_174.out; have hcz15_0 : w13.cell? ⟨gb174, 0, none⟩ = some (.int .i64 0) := (blk_cell BK174.out 0).trans rfl; have hcz15_1 : w13.cell? ⟨gb174, 1, none⟩ = some (.int .i64 0) := (blk_cell BK174.out 1).trans rfl; have hcz15_2 : w13.cell? ⟨gb174, 2, none⟩ = some (.int .i64 0) := (blk_cell BK174.out 2).trans rfl; have hcz15_3 : w13.cell? ⟨gb174, 3, none⟩ = some (.bool false) := (blk_cell BK174.out 3).trans rfl; have hfz15_0 := blk_frozen BK174.out 0; have hfz15_1 := blk_frozen BK174.out 1; have hfz15_2 := blk_frozen BK174.out 2; have hfz15_3 := blk_frozen BK174.out 3))
   go_ret
   exact ⟨by first | rfl | (simp [errW_none, errW_some] <;> rfl) | (simp [*, errW_none, errW_some] <;> rfl), by repeat (first | (with_reducible first | exact HB.out | apply below_alloc | apply pw_below_drewN | apply below_drew1 | refine below_set ?_ GE168.out | refine below_set ?_ GE174.out) | exact HB.out)⟩
  ·replace c6 := Bool.eq_false_iff.mpr c6
   subst c6
   have H1 : (some false) = some r := by rw [if_neg (show ¬ (false = true) by decide)] at H; exact H
   clear H
   have H := H1
   clear H1
   obtain rfl := Option.some.inj H
   go_enter Try.func34, Try.ntmps34
   go_wp2_with (first | ((with_reducible refine gate_dst (N := 2) rfl ?_); refine box_event ?hg (N := 2) ?hd (cs := #[.slice A0_0 l0_0.length c0_0, .int .i64 a0_1]) (t := 24) ?hr ?_; (case hd => rfl); (case hg => rfl); (case hr => first | (go_simp; done) | (go_simp; rfl)); intro gb168 hg w16 hbox hb; have n0_ := Aside0.mk (below_step (by repeat (first | (with_reducible first | exact HB.out | apply below_alloc | apply pw_below_drewN | apply below_drew1) | exact HB.out)) hb); have n1_ := Aside0.mk (hbox); have n2_ := Aside0.mk ((by rw [hg]; exact (below_size (by repeat (first | (with_reducible first | exact HB.out | apply below_alloc | apply pw_below_drewN | apply below_drew1) | exact HB.out))) : w.heap.size ≤ gb168)); have n3_ := Aside0.mk ((by rw [hg]; exact (below_size (by repeat (first | (with_reducible first | exact HB.out | apply below_alloc | apply pw_below_drewN | apply below_drew1) | exact HB.out))) : w.heap.size ≤ gb168)); clear HB; have HB := n0_; have BK168 := n1_; have GW168 := n2_; have GE168 := n3_; clear n0_ n1_ n2_ n3_; clear hb hbox hg; have hcz17_0 : w16.cell? ⟨gb168, 0, none⟩ = some (.slice A0_0 l0_0.length c0_0) := (blk_cell BK168.out 0).trans rfl; have hcz17_1 : w16.cell? ⟨gb168, 1, none⟩ = some (.int .i64 a0_1) := (blk_cell BK168.out 1).trans rfl; have hfz17_0 := blk_frozen BK168.out 0; have hfz17_1 := blk_frozen BK168.out 1) | ((with_reducible refine gate_callee (f := 45) rfl ?_); refine goesL_ (some 11) rfl rfl Try.func45 (by kernel_rfl) rfl #[.agg #[.slice A0_0 l0_0.length c0_0, .int .i64 a0_1], .int .i64 a1] rfl (by (try simp only [List.map_toArray, List.map_cons, List.map_nil]); first | done | rfl | (simp only [List.length_drop, List.length_take]; rfl)) ?_; (with_reducible refine (assartref05_Used.calls _ _ l0_0 a0_1 a1 false _ ?side1 ?side2 A5.out).mono ?_); (case side1 => repeat (first | exact (Kd.C_below HR0_0.out HB.out) | (with_reducible refine Kd.C_alloc ?_ _) | (with_reducible refine Kd.C_drewN ?_ _) | (with_reducible refine Kd.C_drew ?_))); (case side2 => exact HC0_0.out); rintro e w18 ⟨rfl, hb⟩; refine ⟨_, rfl, ?_⟩; have n0_ := Aside0.mk (blk_below (g := gb168) (o := .cells #[.slice A0_0 l0_0.length c0_0, .int .i64 a0_1] 24 (0, 0)) (by (with_reducible repeat (first | refine blk_drewN ?_ _ | refine blk_drew ?_ | refine blk_alloc ?_ _)); exact BK168.out) hb); have n1_ := Aside0.mk (below_step (by repeat (first | (with_reducible first | exact HB.out | apply below_alloc | apply pw_below_drewN | apply below_drew1 | refine below_set ?_ GE168.out) | exact HB.out)) hb); clear BK168; clear HB; have BK168 := n0_; have HB := n1_; clear n0_ n1_; (try clear hb); (try clear hb2); (try clear hk); (try clear hi)))
   go_ret
   exact ⟨by first | rfl | (simp [errW_none, errW_some] <;> rfl) | (simp [*, errW_none, errW_some] <;> rfl), by repeat (first | (with_reducible first | exact HB.out | apply below_alloc | apply pw_below_drewN | apply below_drew1 | refine below_set ?_ GE168.out) | exact HB.out)⟩
end Go.Proofs.Ytflndiikeoflfaa.P
end
section
namespace Go.Proofs.Ytflndiikeoflfaa.P
open Go.RowKit Go.Proofs.YtflndiikeoflfaaW.PrintWords Go.Proofs.YtflndiikeoflfaaW.PrintLast Go.Proofs.YtflndiikeoflfaaW.PrintMore
set_option linter.unusedVariables false
set_option linter.unusedSimpArgs false
def Pre (l : List S38) (it : List S46) (c j : Nat) : Prop := ∀ i, i < j → Tr l c (vAt it i) ∧ lo l (vAt it i) = kAt it i ∧ (i + 1 < j → Hi l c (vAt it i) < kAt it (i + 1))
theorem Pre.snoc {l : List S38} {it : List S46} {c j : Nat} (h : Pre l it c j) (t : Tr l c (vAt it j)) (k : lo l (vAt it j) = kAt it j) (g : 0 < j → Hi l c (vAt it (j - 1)) < kAt it j) : Pre l it c (j + 1) := fun i hi => by
  by_cases e : i = j
  · subst e; exact ⟨t, k, fun h => by omega⟩
  · refine ⟨(h i (by omega)).1, (h i (by omega)).2.1, fun h2 => ?_⟩
    by_cases e2 : i + 1 = j
    · have := g (by omega)
      rw [show j - 1 = i by omega] at this
      rw [e2]
      exact this
    · exact (h i (by omega)).2.2 (by omega)
theorem pre_tr {l : List S38} {p : Int} (h0 : 0 ≤ p) (h1 : p < (l.length : Int)) (hr : 0 < Rf l p) (hl : Lf l p = false) {c : Nat} (hc : 1 ≤ c) : Tr l (c + 1) p ↔ Pre l (It l p) c (It l p).length := by
  obtain ⟨c, rfl⟩ : ∃ m, c = m + 1 := ⟨c - 1, by omega⟩
  exact ⟨fun t i hi => t.2.2.2.2 i hi, fun h => ⟨h0, h1, hr, hl, fun i hi => h i hi⟩⟩
abbrev BS (l : List S38) (p : Int) (m : Nat) (r : Int × Int × Int × Bool) : Prop :=
  (r.2.2.2 = true → ∃ h, h ≤ m ∧ Tr l h p ∧ r.1 = lo l p ∧ r.2.1 = Hi l h p ∧ r.2.2.1 = (h : Int)) ∧ (r.2.2.2 = false → ∀ h, h ≤ m → ¬ Tr l h p)
abbrev BL (l : List S38) (it : List S46) (m : Nat) (r : Int × Int × Int × Bool) : Prop :=
  (r.2.2.2 = true → ∃ c, 1 ≤ c ∧ c ≤ m ∧ Pre l it c it.length ∧ r.1 = kAt it 0 ∧ r.2.1 = Hi l c (vAt it (it.length - 1)) ∧ r.2.2.1 = (c : Int) + 1) ∧ (r.2.2.2 = false → ∀ c, c ≤ m → ¬ Pre l it c it.length)
theorem below_loop {l : List S38} {kp : Int} (H : HR l) (it : List S46) (lf : Bool) (hl0 : 0 < it.length) (hl : it.length ≤ 1000) (m : Nat) (hm : m ≤ 1000)
    (hF : ∀ i, i < it.length → ∀ k, 10 * m + 10 ≤ k → ∃ r, assartref07_below.f k l kp (vAt it i) (m : Int) = some r ∧ BS l (vAt it i) m r) :
    ∀ (d k j : Nat) (a b c : Int) (is : Bool), j + d = it.length → 10 * m + 10 + 2 * d + 1 ≤ k →
      (0 < j → ∃ h : Nat, 1 ≤ h ∧ h ≤ m ∧ Pre l it h j ∧ a = kAt it 0 ∧ b = Hi l h (vAt it (j - 1)) ∧ c = (h : Int) + 1) →
      ∃ r, assartref07_below.l0 k ((m + 1 : Nat) : Int) (j : Int) l kp lf it a b c is = some r ∧ BL l it m r := by
  intro d
  induction d with
  | zero =>
    intro k j a b c is hj hk hI
    obtain ⟨k, rfl⟩ : ∃ m, k = m + 1 := ⟨k - 1, by omega⟩
    obtain rfl : j = it.length := by omega
    simp only [assartref07_below.l0]
    rw [if_neg (by omega)]
    exact ⟨_, rfl, fun _ => hI hl0, fun h => by cases h⟩
  | succ d ih =>
    intro k j a b c is hj hk hI
    obtain ⟨k, rfl⟩ : ∃ m, k = m + 2 := ⟨k - 2, by omega⟩
    obtain ⟨x, hx, hs⟩ := hF j (by omega) (k + 1) (by omega)
    simp only [assartref07_below.l0]
    have hw : wrap64 (((m + 1 : Nat) : Int) - 1) = (m : Int) := by unfold wrap64; omega
    rw [if_pos (by omega), if_pos (by omega), hw, show (rd_T46 it (j : Nat)).f1 = vAt it j from rfl, show (rd_T46 it (j : Nat)).f0 = kAt it j from rfl, hx, Option.bind_some]
    have no : ∀ r : Int × Int × Int × Bool, r = (0, 0, 0, false) → (∀ c, c ≤ m → Pre l it c it.length → False) → ∃ r', (some r : Option (Int × Int × Int × Bool)) = some r' ∧ BL l it m r' :=
      fun r e h => ⟨r, rfl, fun hh => (by rw [e] at hh; cases hh), fun _ c hc hp => h c hc hp⟩
    by_cases h1 : x.2.2.2 = true
    · rw [if_pos h1]
      obtain ⟨h, hhm, ht, hlo, hhi, hhg⟩ := hs.1 h1
      have hh1 := ht.pos
      by_cases h2 : x.1 = kAt it j
      · rw [if_pos h2]
        by_cases h3 : (j : Int) > 0
        · obtain ⟨c', c1, c2, hp, rfl, rfl, rfl⟩ := hI (by omega)
          rw [if_pos h3]
          by_cases h4 : Hi l c' (vAt it (j - 1)) ≥ x.1
          · rw [if_pos h4]
            simp only [assartref07_below.j1]
            rw [if_pos trivial]
            refine no _ rfl fun c hc hq => ?_
            have e := tr_uniq H (hp (j - 1) (by omega)).1 (hq (j - 1) (by omega)).1
            subst e
            have := (hq (j - 1) (by omega)).2.2 (by omega)
            rw [show j - 1 + 1 = j by omega] at this
            omega
          · rw [if_neg h4]
            have hw2 : wrap64 (x.2.2.1 + 1) = (h : Int) + 1 := by rw [hhg]; unfold wrap64; omega
            rw [hw2]
            by_cases h5 : c' = h
            · subst h5
              simp only [assartref07_below.j1]
              rw [if_neg (by simp), if_neg (by omega), wsucc j (by omega)]
              exact ih k (j + 1) _ _ _ _ (by omega) (by omega) (fun _ => ⟨c', c1, c2, hp.snoc ht (by rw [← hlo, h2]) (fun _ => by omega), rfl, by rw [hhi]; rfl, rfl⟩)
            · simp only [assartref07_below.j1]
              rw [if_pos (by rw [bne_iff_ne]; omega)]
              refine no _ rfl fun c hc hq => ?_
              have e := tr_uniq H (hp (j - 1) (by omega)).1 (hq (j - 1) (by omega)).1
              have e2 := tr_uniq H ht (hq j (by omega)).1
              omega
        · obtain rfl : j = 0 := by omega
          rw [if_neg h3]
          simp only [assartref07_below.j1]
          have hw2 : wrap64 (x.2.2.1 + 1) = (h : Int) + 1 := by rw [hhg]; unfold wrap64; omega
          rw [if_neg (by simp), if_pos (show ((0 : Nat) : Int) = 0 from rfl), wsucc 0 (by omega), hw2]
          exact ih k (0 + 1) _ _ _ _ (by omega) (by omega) (fun _ => ⟨h, hh1, hhm, Pre.snoc (fun i hi => by omega) ht (by rw [← hlo, h2]) (fun h => by omega), h2, hhi, rfl⟩)
      · rw [if_neg h2]
        simp only [assartref07_below.j1]
        rw [if_pos trivial]
        refine no _ rfl fun c hc hq => ?_
        have := (hq j (by omega)).2.1
        omega
    · rw [if_neg h1]
      simp only [assartref07_below.j1]
      rw [if_pos trivial]
      rw [Bool.not_eq_true] at h1
      exact no _ rfl fun c hc hq => hs.2 h1 c hc (hq j (by omega)).1
theorem below_val {l : List S38} {kp : Int} (H : HR l) : ∀ (m k : Nat) (p : Int), m ≤ 1000 → 0 ≤ p → p < (l.length : Int) → 10 * m + 10 ≤ k → ∃ r, assartref07_below.f k l kp p (m : Int) = some r ∧ BS l p m r := by
  intro m
  induction m with
  | zero =>
    intro k p hm h0 h1 hk
    obtain ⟨k, rfl⟩ : ∃ m, k = m + 1 := ⟨k - 1, by omega⟩
    have none : ∀ h, h ≤ 0 → ¬ Tr l h p := fun h hh t => by have := t.pos; omega
    simp only [assartref07_below.f]
    rw [if_pos h0, if_pos h1]
    by_cases hr : Rf l p < 1
    · rw [if_pos hr]
      exact ⟨_, rfl, fun h => (by cases h), fun _ => none⟩
    · rw [if_neg hr]
      have hn := H.rn h0 h1 (by omega)
      have := hn.1
      have := hn.2.1
      by_cases hl : (rd_T38 l p).f2.f0 = true
      · have hw : wrap64 (((rd_T38 l p).f2.f1.length : Int) - 1) = (((It l p).length - 1 : Nat) : Int) := by
          show wrap64 (((It l p).length : Int) - 1) = _
          unfold wrap64; omega
        rw [if_pos hl, if_pos (show (0 : Int) < ((It l p).length : Int) by omega), hw, if_pos (by omega), if_pos (show (((It l p).length - 1 : Nat) : Int) < ((It l p).length : Int) by omega)]
        exact ⟨_, rfl, fun h => by simp at h, fun _ => none⟩
      · rw [if_neg hl, if_pos (by omega)]
        exact ⟨_, rfl, fun h => (by cases h), fun _ => none⟩
  | succ m ih =>
    intro k p hm h0 h1 hk
    obtain ⟨k, rfl⟩ : ∃ m, k = m + 1 := ⟨k - 1, by omega⟩
    simp only [assartref07_below.f]
    rw [if_pos h0, if_pos h1]
    by_cases hr : Rf l p < 1
    · rw [if_pos hr]
      exact ⟨_, rfl, fun h => (by cases h), fun _ h _ t => (by have := t.base.2.2; omega)⟩
    · rw [if_neg hr]
      have hn := H.rn h0 h1 (by omega)
      have := hn.1
      have := hn.2.1
      by_cases hl : (rd_T38 l p).f2.f0 = true
      · have hw : wrap64 (((rd_T38 l p).f2.f1.length : Int) - 1) = (((It l p).length - 1 : Nat) : Int) := by
          show wrap64 (((It l p).length : Int) - 1) = _
          unfold wrap64; omega
        rw [if_pos hl, if_pos (show (0 : Int) < ((It l p).length : Int) by omega), hw, if_pos (by omega), if_pos (show (((It l p).length - 1 : Nat) : Int) < ((It l p).length : Int) by omega)]
        refine ⟨_, rfl, fun _ => ⟨1, by omega, ⟨h0, h1, by omega, hl⟩, rfl, rfl, rfl⟩, fun h => ?_⟩
        have := of_decide_eq_false h
        omega
      · rw [if_neg hl]
        rw [Bool.not_eq_true] at hl
        have hlf : Lf l p = false := hl
        by_cases hm1 : m = 0
        · subst hm1
          rw [if_pos (by omega)]
          refine ⟨_, rfl, fun h => (by cases h), fun _ h hh t => ?_⟩
          have a := t.leaf
          rw [hlf] at a
          have := t.pos
          have := of_decide_eq_false a.symm
          omega
        · rw [if_neg (by omega)]
          obtain ⟨r, hr', hs⟩ := below_loop (kp := kp) H (It l p) (Lf l p) (by omega) (by omega) m (by omega) (fun i hi k hk => by
            have := H.ch h0 h1 (by omega) hlf hi
            exact ih k _ (by omega) this.1 this.2 hk) _ k 0 0 0 0 false (Nat.zero_add _) (by omega) (fun h => by omega)
          refine ⟨r, hr', fun h => ?_, fun h h' hh t => ?_⟩
          · obtain ⟨c, c1, c2, hp, e1, e2, e3⟩ := hs.1 h
            refine ⟨c + 1, by omega, (pre_tr h0 h1 (by omega) hlf c1).2 hp, e1, ?_, by rw [e3]; rfl⟩
            obtain ⟨c, rfl⟩ : ∃ m, c = m + 1 := ⟨c - 1, by omega⟩
            exact e2
          · have a := t.leaf
            rw [hlf] at a
            have a := of_decide_eq_false a.symm
            have := t.pos
            obtain ⟨c, rfl⟩ : ∃ c, h' = c + 1 := ⟨h' - 1, by omega⟩
            exact hs.2 h c (by omega) ((pre_tr h0 h1 (by omega) hlf (by omega)).1 t)
def RightP (l : List S38) (root : Int) : Prop := root = -1 ∨ ∃ h, h ≤ 20 ∧ Tr l h root
theorem refRight_val {l : List S38} {kp : Int} (H : HR l) (root : Int) {k : Nat} (hk : 300 ≤ k) : ∃ b, assartref07_Right.f k l kp root = some b ∧ (b = true ↔ RightP l root) := by
  unfold assartref07_Right.f assartref05_Used.f
  by_cases h : root = -1
  · rw [if_pos h]
    exact ⟨true, rfl, fun _ => .inl h, fun _ => rfl⟩
  · rw [if_neg h]
    have none : (root < 0 ∨ (l.length : Int) ≤ root ∨ Rf l root ≤ 0) → ¬ RightP l root := by
      rintro hh (e | ⟨c, _, t⟩)
      · exact h e
      · have := t.base; omega
    by_cases h0 : root ≥ 0
    · rw [if_pos h0]
      by_cases h1 : root < (l.length : Int)
      · rw [if_pos h1, if_pos h0, Option.bind_some]
        by_cases h2 : (rd_T38 l root).f0 > 0
        · rw [if_pos (decide_eq_true h2)]
          obtain ⟨r, hr, hs⟩ := below_val (kp := kp) H 20 k root (by omega) h0 h1 (by omega)
          rw [show ((20 : Nat) : Int) = 20 from rfl] at hr
          rw [hr, Option.bind_some]
          refine ⟨_, rfl, fun hb => ?_, fun hb => ?_⟩
          · obtain ⟨c, hc, t, _⟩ := hs.1 hb
            exact .inr ⟨c, hc, t⟩
          · rcases hb with hb | ⟨c, hc, t⟩
            · exact absurd hb h
            · cases hb : r.2.2.2 with
              | true => rfl
              | false => exact absurd t (hs.2 hb c hc)
        · rw [if_neg (by simpa using h2)]
          exact ⟨_, rfl, fun h => (by cases h), fun hb => absurd hb (none (by simp only [Rf]; omega))⟩
      · rw [if_neg h1, Option.bind_some, if_neg (by simp)]
        exact ⟨_, rfl, fun h => (by cases h), fun hb => absurd hb (none (by omega))⟩
    · rw [if_neg h0, Option.bind_some, if_neg (by simp)]
      exact ⟨_, rfl, fun h => (by cases h), fun hb => absurd hb (none (by omega))⟩
end Go.Proofs.Ytflndiikeoflfaa.P
end
section
namespace Go.Proofs.Ytflndiikeoflfaa.P
open Go.RowKit Go.Proofs.YtflndiikeoflfaaW.PrintWords Go.Proofs.YtflndiikeoflfaaW.PrintLast Go.Proofs.YtflndiikeoflfaaW.PrintMore
set_option linter.unusedVariables false
set_option linter.unusedSimpArgs false
def assartref06_Place.f (s : ByteArray) : Option Int := none
theorem assartref06_Place.calls (s : ByteArray) (r : Int) (w : World) (h : assartref06_Place.f s = some r) : Calls Try.prog 35 #[.string s] w fun e w' => e = .returned (.int .i64 r) ∧ Below w.heap.size w w' := by
  unfold assartref06_Place.f at h
  cases h
def assartref06_Done.f (s : ByteArray) : Option Int := none
theorem assartref06_Done.calls (s : ByteArray) (r : Int) (w : World) (h : assartref06_Done.f s = some r) : Calls Try.prog 36 #[.string s] w fun e w' => e = .returned (.int .i64 r) ∧ Below w.heap.size w w' := by
  unfold assartref06_Done.f at h
  cases h
def assartref06_Right.f (l : List ByteArray) (n : Int) : Option Bool := if l.length = 0 then some true else none
set_option maxHeartbeats 4000000 in
set_option maxRecDepth 100000 in
theorem assartref06_Right.calls (A : Option Addr) (c : Nat) (l : List ByteArray) (n : Int) (r : Bool) (w : World) (hr : Kd.C Kd.string w A l.length l) (hc : l.length ≤ c) (h : assartref06_Right.f l n = some r) :
    Calls Try.prog 33 #[.slice A l.length c, .int .i64 n] w fun e w' => e = .returned (.bool r) ∧ Drawn0 w w' := by
  unfold assartref06_Right.f at h
  by_cases h0 : l.length = 0
  · rw [if_pos h0] at h
    obtain rfl := Option.some.inj h
    rw [h0]
    clear h h0 hr hc
    go_enter Try.func33, Try.ntmps33
    go_wp2
    go_loopg [5, 6, 7] 1 (fun kx s s6 s7 wr => s = .int .i64 0 ∧ w = wr)
    case atStart => exact ⟨rfl, rfl⟩
    case round =>
      obtain ⟨rfl, rfl⟩ := hrel
      go_wp2
      go_ret
      exact ⟨rfl, Drawn0.refl _⟩
  · rw [if_neg h0] at h
    cases h
end Go.Proofs.Ytflndiikeoflfaa.P
end
section
namespace Go.Proofs.Ytflndiikeoflfaa.P
open Go.RowKit Go.Proofs.YtflndiikeoflfaaW.PrintWords Go.Proofs.YtflndiikeoflfaaW.PrintLast Go.Proofs.YtflndiikeoflfaaW.PrintMore
attribute [local go_sem] max2_int min2_int max_two min_two max_three min_three max_four min_four
set_option linter.unusedVariables false
set_option linter.unusedSimpArgs false
def assartref08_Given.l0 : Nat → List ByteArray → Int → Int → Int → Option (Int)
 | 0, _, _, _, _ => none
 | k + 1, x0, x1, x5, x6 => if x6 < (x0.length : Int) then (if 0 ≤ x6 then ((assartref06_Place.f (rdOf ByteArray.empty x0 x6)).bind fun t176 => (if t176 = x1 then ((assartref06_Done.f (rdOf ByteArray.empty x0 x6)).bind fun t178 => (assartref08_Given.l0 k x0 x1 (mx x5 (wrap64 (t178 - 1))) (wrap64 (x6 + 1)))) else (assartref08_Given.l0 k x0 x1 x5 (wrap64 (x6 + 1))))) else (none)) else (some x5)
def assartref08_Given.f (k : Nat) (l0 : List ByteArray) (a1 : Int) : Option (Int) := assartref08_Given.l0 k l0 a1 0 0
theorem assartref08_Given.mono_l : ∀ k, (∀ y0 y1 y2 y3, LeO (assartref08_Given.l0 k y0 y1 y2 y3) (assartref08_Given.l0 (k + 1) y0 y1 y2 y3))
 | 0 => fun _ _ _ _ r h => by simp [assartref08_Given.l0] at h
 | k + 1 => by
  have ih0 := assartref08_Given.mono_l k
  ·intro y0 y1 y2 y3
   unfold assartref08_Given.l0
   repeat' first
   | (with_reducible exact ih0 _ _ _ _)
   | (with_reducible exact LeO.refl _)
   | (with_reducible exact LeO.none _)
   | (with_reducible refine LeO.ite ?_ ?_)
   | (with_reducible refine LeO.bind ?_ (fun _ => ?_))
   | exact ih0 _ _ _ _
   | exact LeO.none _
   | refine LeO.ite ?_ ?_
   | refine LeO.bind ?_ (fun _ => ?_)
theorem assartref08_Given.mono : ∀ a0 a1 k, LeO (assartref08_Given.f k a0 a1) (assartref08_Given.f (k + 1) a0 a1) := by
 intro a0 a1 k
 have ih0 := assartref08_Given.mono_l k
 unfold assartref08_Given.f
 repeat' first
   | (with_reducible exact ih0 _ _ _ _)
   | (with_reducible exact LeO.refl _)
   | (with_reducible exact LeO.none _)
   | (with_reducible refine LeO.ite ?_ ?_)
   | (with_reducible refine LeO.bind ?_ (fun _ => ?_))
   | exact ih0 _ _ _ _
   | exact LeO.none _
   | refine LeO.ite ?_ ?_
   | refine LeO.bind ?_ (fun _ => ?_)
set_option maxHeartbeats 8000000 in
set_option maxRecDepth 100000 in
theorem assartref08_Given.calls (k : Nat) (A0 : Option Addr) (c0 : Nat) (l0 : List ByteArray) (a1 : Int) (r : Int) (w : World) (hr0 : Kd.C Kd.string w A0 l0.length l0) (hc0 : l0.length ≤ c0) (h : assartref08_Given.f k l0 a1 = some r) :
  Calls Try.prog 37 #[.slice A0 l0.length c0, .int .i64 a1] w fun e w' => e = .returned (.int .i64 r) ∧ Below w.heap.size w w' := by
 have HR0 := Aside0.mk hr0
 have HC0 := Aside0.mk hc0
 clear hr0 hc0
 have HB := Aside0.mk (Below.refl w.heap.size w)
 have H : (assartref08_Given.l0 k l0 a1 0 0) = some r := h
 clear h
 have H' := Aside0.mk H
 clear H
 go_enter Try.func37, Try.ntmps37
 go_wp2
 go_loopg [5, 6] k (fun kq v5 v6 w' => ∃ (x5_1 : Int) (x6_1 : Int), v5 = .int .i64 x5_1 ∧ v6 = .int .i64 x6_1 ∧ Aside0 (assartref08_Given.l0 kq l0 a1 x5_1 x6_1 = some r) ∧ Aside0 (kq ≤ k) ∧ Aside0 (Below w.heap.size w w'))
 case atStart => exact ⟨(0), (0), (by first | rfl | (simp; done) | (simp [*]; done)), (by first | rfl | (simp; done) | (simp [*]; done)), H', ⟨Nat.le_refl _⟩, ⟨by repeat (first | (with_reducible first | exact HB.out | apply below_alloc | apply pw_below_drewN | apply below_drew1) | exact HB.out)⟩⟩
 case round =>
  clear H'
  try clear p2
  obtain ⟨x5_1, x6_1, rfl, rfl, HA, HK1, HB⟩ := hrel
  cases gk with
  | zero => exact absurd HA.out (by simp [assartref08_Given.l0])
  | succ k1 =>
   have H := HA.out
   clear HA
   simp only [assartref08_Given.l0] at H
   by_cases c3 : x6_1 < (l0.length : Int)
   ·rw [if_pos c3] at H
    have c3b0 : decide (x6_1 < (l0.length : Int)) = true := decide_eq_true c3
    clear c3
    by_cases c4 : 0 ≤ x6_1
    ·rw [if_pos c4] at H
     have c4b0 : decide (0 ≤ x6_1) = true := decide_eq_true c4
     clear c4
     replace H := Option.bind_eq_some_iff.mp H
     obtain ⟨t176, A50, H⟩ := H
     replace H : (if t176 = a1 then ((assartref06_Done.f (rdOf ByteArray.empty l0 x6_1)).bind fun t178 => (assartref08_Given.l0 k1 l0 a1 (mx x5_1 (wrap64 (t178 - 1))) (wrap64 (x6_1 + 1)))) else (assartref08_Given.l0 k1 l0 a1 x5_1 (wrap64 (x6_1 + 1)))) = some r := H
     have A5 := Aside0.mk A50
     clear A50
     by_cases c6 : t176 = a1
     ·rw [if_pos c6] at H
      have c6b0 : (t176 == a1) = true := beq_iff_eq.mpr c6
      have c6b1 : (t176 != a1) = false := bne_eq_false_iff_eq.mpr c6
      clear c6
      replace H := Option.bind_eq_some_iff.mp H
      obtain ⟨t178, A70, H⟩ := H
      replace H : (assartref08_Given.l0 k1 l0 a1 (mx x5_1 (wrap64 (t178 - 1))) (wrap64 (x6_1 + 1))) = some r := H
      have A7 := Aside0.mk A70
      clear A70
      obtain ⟨ji8, hji8⟩ : ∃ j_ : Int, (mx x5_1 (wrap64 (t178 - 1))) = j_ := ⟨_, rfl⟩
      replace H : (assartref08_Given.l0 k1 l0 a1 ji8 (wrap64 (x6_1 + 1))) = some r := by first | (rw [hji8] at H; exact H) | (simp only [hji8] at H ⊢; exact H)
      (try rw [hji8] at A5)
      (try rw [hji8] at A7)
      have hji8_ : (if x5_1 < (wrap64 (t178 - 1)) then (wrap64 (t178 - 1)) else x5_1) = ji8 := hji8
      have H' := Aside0.mk H
      clear H
      have p175 : 0 ≤ (x6_1 : Int) := of_decide_eq_true (by first | (with_reducible assumption) | assumption)
      have q175 : x6_1 < (l0.length : Int) := of_decide_eq_true (by first | (with_reducible assumption) | assumption)
      obtain ⟨ad175, e175, hx175_0⟩ := Kd.at_string HR0.out x6_1 p175 q175
      cases e175
      replace hx175_0 := (HB.out.cell (World.block_lt_of_cell? w _ hx175_0)).trans hx175_0
      replace p175 := eq_true p175
      replace q175 := eq_true q175
      go_wp2_with (first | ((with_reducible refine gate_callee (f := 35) rfl ?_); refine goesL_ (some 17) rfl rfl Try.func35 (by kernel_rfl) rfl #[.string (rdOf ByteArray.empty l0 x6_1)] rfl (by (try simp only [List.map_toArray, List.map_cons, List.map_nil]); first | done | rfl | (simp only [List.length_drop, List.length_take]; rfl)) ?_; (with_reducible refine (assartref06_Place.calls (rdOf ByteArray.empty l0 x6_1) t176 _ A5.out).mono ?_); rintro e w9 ⟨rfl, hb⟩; refine ⟨_, rfl, ?_⟩; have n0_ := Aside0.mk (below_step (by repeat (first | (with_reducible first | exact HB.out | apply below_alloc | apply pw_below_drewN | apply below_drew1) | exact HB.out)) hb); clear HB; have HB := n0_; clear n0_; (try clear hb); (try clear hb2); (try clear hk); (try clear hi); have p177 : 0 ≤ (x6_1 : Int) := of_decide_eq_true (by first | (with_reducible assumption) | assumption); have q177 : x6_1 < (l0.length : Int) := of_decide_eq_true (by first | (with_reducible assumption) | assumption); obtain ⟨ad177, e177, hx177_0⟩ := Kd.at_string HR0.out x6_1 p177 q177; obtain rfl : ad175 = ad177 := (by injection e177); replace hx177_0 := (HB.out.cell (World.block_lt_of_cell? w _ hx177_0)).trans hx177_0; replace p177 := eq_true p177; replace q177 := eq_true q177) | ((with_reducible refine gate_callee (f := 36) rfl ?_); refine goesL_ (some 25) rfl rfl Try.func36 (by kernel_rfl) rfl #[.string (rdOf ByteArray.empty l0 x6_1)] rfl (by (try simp only [List.map_toArray, List.map_cons, List.map_nil]); first | done | rfl | (simp only [List.length_drop, List.length_take]; rfl)) ?_; (with_reducible refine (assartref06_Done.calls (rdOf ByteArray.empty l0 x6_1) t178 _ A7.out).mono ?_); rintro e w10 ⟨rfl, hb⟩; refine ⟨_, rfl, ?_⟩; have n0_ := Aside0.mk (below_step (by repeat (first | (with_reducible first | exact HB.out | apply below_alloc | apply pw_below_drewN | apply below_drew1) | exact HB.out)) hb); clear HB; have HB := n0_; clear n0_; (try clear hb); (try clear hb2); (try clear hk); (try clear hi)))
      go_roundg k1
      case measure => have := HK1.out; omega
      case rel => exact ⟨(ji8), (wrap64 (x6_1 + 1)), (by first | rfl | (simp; done) | (simp only [← hji8] <;> (first | rfl | simp)) | (simp [*]; done)), (by first | rfl | (simp; done) | (simp [*]; done)), H', ⟨by have := HK1.out; omega⟩, ⟨by repeat (first | (with_reducible first | exact HB.out | apply below_alloc | apply pw_below_drewN | apply below_drew1) | exact HB.out)⟩⟩
     ·rw [if_neg c6] at H
      have c6b0 : (t176 == a1) = false := beq_eq_false_iff_ne.mpr c6
      have c6b1 : (t176 != a1) = true := bne_iff_ne.mpr c6
      have H' := Aside0.mk H
      clear H
      have p175 : 0 ≤ (x6_1 : Int) := of_decide_eq_true (by first | (with_reducible assumption) | assumption)
      have q175 : x6_1 < (l0.length : Int) := of_decide_eq_true (by first | (with_reducible assumption) | assumption)
      obtain ⟨ad175, e175, hx175_0⟩ := Kd.at_string HR0.out x6_1 p175 q175
      cases e175
      replace hx175_0 := (HB.out.cell (World.block_lt_of_cell? w _ hx175_0)).trans hx175_0
      replace p175 := eq_true p175
      replace q175 := eq_true q175
      go_wp2_with (first | ((with_reducible refine gate_callee (f := 35) rfl ?_); refine goesL_ (some 17) rfl rfl Try.func35 (by kernel_rfl) rfl #[.string (rdOf ByteArray.empty l0 x6_1)] rfl (by (try simp only [List.map_toArray, List.map_cons, List.map_nil]); first | done | rfl | (simp only [List.length_drop, List.length_take]; rfl)) ?_; (with_reducible refine (assartref06_Place.calls (rdOf ByteArray.empty l0 x6_1) t176 _ A5.out).mono ?_); rintro e w11 ⟨rfl, hb⟩; refine ⟨_, rfl, ?_⟩; have n0_ := Aside0.mk (below_step (by repeat (first | (with_reducible first | exact HB.out | apply below_alloc | apply pw_below_drewN | apply below_drew1) | exact HB.out)) hb); clear HB; have HB := n0_; clear n0_; (try clear hb); (try clear hb2); (try clear hk); (try clear hi)))
      go_roundg k1
      case measure => have := HK1.out; omega
      case rel => exact ⟨(x5_1), (wrap64 (x6_1 + 1)), (by first | rfl | (simp; done) | (simp [*]; done)), (by first | rfl | (simp; done) | (simp [*]; done)), H', ⟨by have := HK1.out; omega⟩, ⟨by repeat (first | (with_reducible first | exact HB.out | apply below_alloc | apply pw_below_drewN | apply below_drew1) | exact HB.out)⟩⟩
    ·rw [if_neg c4] at H
     exact absurd H (by simp)
   ·rw [if_neg c3] at H
    have c3b0 : decide (x6_1 < (l0.length : Int)) = false := decide_eq_false c3
    clear c3
    obtain rfl := Option.some.inj H
    go_wp2
    go_ret
    exact ⟨by first | rfl | (simp [errW_none, errW_some] <;> rfl) | (simp [*, errW_none, errW_some] <;> rfl), by repeat (first | (with_reducible first | exact HB.out | apply below_alloc | apply pw_below_drewN | apply below_drew1) | exact HB.out)⟩
end Go.Proofs.Ytflndiikeoflfaa.P
end
