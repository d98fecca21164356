/- Texts of this claim's proof put together: F37, F40, F42, F52, F55, PHeap1, PHeap2, HShown5, HHeapHolds. -/
import Derived.Below
import Derived.Deep.Draws
import Derived.Deep.AppendLies
import Derived.Maps.AppendAt
import Derived.OwnWalk
import Derived.Laws.BytesArg
import Derived.Laws.MakeOwn
import Derived.Laws.OwnMore
import Derived.Deep.OwnRows
import Derived.Tactics
import Derived.Lib.ConvBytes
import Derived.Laws.Slices
import Derived.WalkKit
import Derived.KernelRfl
import Derived.RowKit3
import Derived.Deep.LoopGhost
import Derived.Deep.QuietTactic
import Derived.BigQuiet
import Derived.WideLaws
import Derived.Deep.DeepCutAuto
import Derived.Deep.CutBlock
import Derived.Deep.RegionHeld3
import Derived.Laws.Rows
import Derived.Lib.AppendStr
import Derived.ArgAppend
import Derived.Laws.IdiomCopy
import Derived.RowKit
import Derived.OrdersHeld
import Derived.Laws.BitsLemmas
import Derived.Laws.StructEq
import Derived.Test.YteiladccdenpbaaProg
import Derived.Shelf.RegionOpenPlain
import Derived.Shelf.Abstract
import Derived.Laws.CopyOwn
import Derived.Lib.SlBuf
import Derived.ChangeArms
import Derived.DataReads
import Derived.DataElems
import Derived.SizedLaws
import Derived.Test.YteiladccdenpbaaRows
import Derived.ProofKit
import Derived.OpenShut
import Derived.ShutString
import Derived.ChangeOld
import Derived.Test.YteiladccdenpbaaKHeapDoes0
import Derived.Test.YteiladccdenpbaaKHeapDoes1
import Derived.Test.YteiladccdenpbaaKHeapDoes2
namespace Foot
end Foot
namespace Go.Proofs.Yteiladccdenpbaa
end Go.Proofs.Yteiladccdenpbaa
namespace Go.Proofs.Yteiladccdenpbaa.P
end Go.Proofs.Yteiladccdenpbaa.P
namespace Go.Proofs.Yteiladccdenpbaa.heapDoes
end Go.Proofs.Yteiladccdenpbaa.heapDoes
namespace Go.Proofs.YteiladccdenpbaaW.PrintLast
end Go.Proofs.YteiladccdenpbaaW.PrintLast
namespace Go.Proofs.YteiladccdenpbaaW.PrintMore
end Go.Proofs.YteiladccdenpbaaW.PrintMore
namespace Go.Proofs.YteiladccdenpbaaW.PrintWords
end Go.Proofs.YteiladccdenpbaaW.PrintWords
namespace Kd
end Kd
section
namespace Go.Proofs.Yteiladccdenpbaa.P
open Go.RowKit Go.Proofs.YteiladccdenpbaaW.PrintWords Go.Proofs.YteiladccdenpbaaW.PrintLast Go.Proofs.YteiladccdenpbaaW.PrintMore
attribute [local go_sem] max2_int min2_int max_two min_two max_three min_three max_four min_four
set_option linter.unusedVariables false
set_option linter.unusedSimpArgs false
mutual
def assartref05_Same.j0 : Nat → Bool → List (S55) → Int → List (S55) → Int → Option (Bool)
 | 0, _, _, _, _, _ => none
 | k + 1, x20, x154000, x154001, x155000, x155001 => if x20 = true then (some false) else (assartref05_Same.l0 k 0 x154000 x154001 x155000 x155001)
def assartref05_Same.l0 : Nat → Int → List (S55) → Int → List (S55) → Int → Option (Bool)
 | 0, _, _, _, _, _ => none
 | k + 1, x5, x154000, x154001, x155000, x155001 => if x5 < (x154000.length : Int) then (if 0 ≤ x5 then (if x5 < (x155000.length : Int) then ((assartref04_Same.f k ((rd_T55 x154000 x5).f2.f0) ((rd_T55 x154000 x5).f2.f1) ((rd_T55 x155000 x5).f2.f0) ((rd_T55 x155000 x5).f2.f1)).bind fun t157 => (if t157 = true then (if ((rd_T55 x154000 x5).f0) = ((rd_T55 x155000 x5).f0) then (if (((rd_T55 x154000 x5).f1) != ((rd_T55 x155000 x5).f1)) = true then (some false) else (assartref05_Same.l0 k (wrap64 (x5 + 1)) x154000 x154001 x155000 x155001)) else (some false)) else (some false))) else (none)) else (none)) else (some true)
end
def assartref05_Same.f (k : Nat) (l0_0 : List (S55)) (a0_1 : Int) (l1_0 : List (S55)) (a1_1 : Int) : Option (Bool) := if a0_1 = a1_1 then (assartref05_Same.j0 k ((l0_0.length : Int) != (l1_0.length : Int)) l0_0 a0_1 l1_0 a1_1) else (assartref05_Same.j0 k true l0_0 a0_1 l1_0 a1_1)
def assartref05_Same.T6 : Bool × List (List Nat × List Nat) := (true, [([], []), ([0], [0]), ([], []), ([1, 2], [1, 2]), ([3], [3]), ([4], [4]), ([], []), ([6], [6]), ([], []), ([7, 8], [7, 8]), ([9], [9]), ([10], [10]), ([5, 11], [5, 11]), ([12, 12, 0, 1, 2, 3, 4, 5, 6, 7, 8, 9, 10, 11, 12], [12])])
def assartref05_Same.B6 : List Nat := [0, 1, 0, 7, 15, 31, 0, 64, 0, 448, 960, 1984, 4095, 8191]
theorem assartref05_Same.tab6 : rtab .any (opsOf Try.f37 6) = assartref05_Same.T6 := by kernel_rfl
theorem assartref05_Same.bits6 : waitsOk assartref05_Same.T6.2 assartref05_Same.B6 = true := by kernel_rfl
def assartref05_Same.T7 : Bool × List (List Nat × List Nat) := (true, [([], []), ([0], [0]), ([1], [1]), ([2], [2]), ([3, 2], [2, 3]), ([2], [2]), ([4, 5, 2], [2, 4, 5]), ([6, 2], [2, 6]), ([7, 2], [2, 7]), ([2], [2]), ([9, 2], [2, 9]), ([2], [2]), ([10, 11, 2], [2, 10, 11]), ([12, 2], [2, 12]), ([13, 2], [2, 13]), ([8, 14, 2], [2, 8, 14]), ([2, 15], [2, 15]), ([16, 2], [16]), ([17], [17]), ([18, 17], [17, 18]), ([17], [17]), ([19, 20, 17], [17, 19, 20]), ([21, 17], [17, 21]), ([22, 17], [17, 22]), ([17], [17]), ([24, 17], [17, 24]), ([17], [17]), ([25, 26, 17], [17, 25, 26]), ([27, 17], [17, 27]), ([28, 17], [17, 28]), ([23, 29, 17], [17, 23, 29]), ([17, 30], [17, 30])])
def assartref05_Same.B7 : List Nat := [0, 1, 3, 7, 15, 7, 63, 127, 255, 7, 519, 7, 3591, 7687, 15879, 32767, 65535, 131071, 262143, 524287, 262143, 2097151, 4194303, 8388607, 262143, 17039359, 262143, 117702655, 251920383, 520355839, 1073741823, 2147483647]
theorem assartref05_Same.tab7 : rtab .any (opsOf Try.f37 7) = assartref05_Same.T7 := by kernel_rfl
theorem assartref05_Same.bits7 : waitsOk assartref05_Same.T7.2 assartref05_Same.B7 = true := by kernel_rfl
set_option maxHeartbeats 8000000 in
set_option maxRecDepth 100000 in
theorem assartref05_Same.calls (k : Nat) (A0_0 : Option Addr) (c0_0 : Nat) (l0_0 : List (S55)) (a0_1 : Int) (A1_0 : Option Addr) (c1_0 : Nat) (l1_0 : List (S55)) (a1_1 : Int) (r : Bool) (w : World) (hr0_0 : Kd.C k55 w A0_0 l0_0.length l0_0) (hc0_0 : l0_0.length ≤ c0_0) (hr1_0 : Kd.C k55 w A1_0 l1_0.length l1_0) (hc1_0 : l1_0.length ≤ c1_0) (h : assartref05_Same.f k l0_0 a0_1 l1_0 a1_1 = some r) :
  Calls Try.prog 37 #[.agg #[.slice A0_0 l0_0.length c0_0, .int .i64 a0_1], .agg #[.slice A1_0 l1_0.length c1_0, .int .i64 a1_1]] w fun e w' => e = .returned (.bool r) ∧ Below w.heap.size w w' := by
 have hu24 := Try.underlying24
 have hu53 := Try.underlying53
 have HR0_0 := Aside0.mk hr0_0
 have HC0_0 := Aside0.mk hc0_0
 clear hr0_0 hc0_0
 have HR1_0 := Aside0.mk hr1_0
 have HC1_0 := Aside0.mk hc1_0
 clear hr1_0 hc1_0
 have HB := Aside0.mk (Below.refl w.heap.size w)
 have H : (if a0_1 = a1_1 then (assartref05_Same.j0 k ((l0_0.length : Int) != (l1_0.length : Int)) l0_0 a0_1 l1_0 a1_1) else (assartref05_Same.j0 k true l0_0 a0_1 l1_0 a1_1)) = some r := h
 clear h
 have HC3 := Aside0.mk H
 clear H
 go_enter Try.func37, Try.ntmps37
 go_upto_region 1 with (first | ((with_reducible refine gate_dst (N := 2) rfl ?_); (try (refine gate_guard (by rfl) ?_; dsimp only)); refine box_event ?hg (N := 2) ?hd (cs := #[.slice A0_0 l0_0.length c0_0, .int .i64 a0_1]) (t := 24) ?hr ?_; (case hd => rfl); (case hg => rfl); (case hr => first | (go_simp; done) | (go_simp; rfl)); intro gb153 hg w4 hbox hb; have n0_ := Aside0.mk (below_step (by repeat (first | (with_reducible first | exact HB.out | apply below_alloc | apply pw_below_drewN | apply below_drew1) | exact HB.out)) hb); have n1_ := Aside0.mk (hbox); have n2_ := Aside0.mk ((by rw [hg]; exact (below_size (by repeat (first | (with_reducible first | exact HB.out | apply below_alloc | apply pw_below_drewN | apply below_drew1) | exact HB.out))) : w.heap.size ≤ gb153)); have n3_ := Aside0.mk ((by rw [hg]; exact (below_size (by repeat (first | (with_reducible first | exact HB.out | apply below_alloc | apply pw_below_drewN | apply below_drew1) | exact HB.out))) : w.heap.size ≤ gb153)); clear HB; have HB := n0_; have BK153 := n1_; have GW153 := n2_; have GE153 := n3_; clear n0_ n1_ n2_ n3_; clear hb hbox hg) | ((with_reducible refine gate_dst (N := 3) rfl ?_); (try (refine gate_guard (by rfl) ?_; dsimp only)); refine box_event ?hg (N := 3) ?hd (cs := #[.slice A1_0 l1_0.length c1_0, .int .i64 a1_1]) (t := 24) ?hr ?_; (case hd => rfl); (case hg => rfl); (case hr => first | (go_simp; done) | (go_simp; rfl)); intro gb154 hg w5 hbox hb; have n0_ := Aside0.mk (blk_below (g := gb153) (o := .cells #[.slice A0_0 l0_0.length c0_0, .int .i64 a0_1] 24 (0, 0)) (by (with_reducible repeat (first | refine blk_drewN ?_ _ | refine blk_drew ?_ | refine blk_alloc ?_ _)); exact BK153.out) hb); have n1_ := Aside0.mk (below_step (by repeat (first | (with_reducible first | exact HB.out | apply below_alloc | apply pw_below_drewN | apply below_drew1 | refine below_set ?_ GE153.out) | exact HB.out)) hb); have n2_ := Aside0.mk (hbox); have n3_ := Aside0.mk ((by rw [hg]; exact (below_size (by repeat (first | (with_reducible first | exact HB.out | apply below_alloc | apply pw_below_drewN | apply below_drew1 | refine below_set ?_ GE153.out) | exact HB.out))) : w.heap.size ≤ gb154)); have n4_ := Aside0.mk ((by rw [hg]; exact (below_size (by repeat (first | (with_reducible first | exact HB.out | apply below_alloc | apply pw_below_drewN | apply below_drew1 | refine below_set ?_ GE153.out) | exact HB.out))) : w.heap.size ≤ gb154)); have n5_ := Aside0.mk ((by rw [hg]; exact Nat.ne_of_lt (blk_lt (g := gb153) (o := .cells #[.slice A0_0 l0_0.length c0_0, .int .i64 a0_1] 24 (0, 0)) (by (with_reducible repeat (first | refine blk_drewN ?_ _ | refine blk_drew ?_ | refine blk_alloc ?_ _)); exact BK153.out)) : gb153 ≠ gb154)); have n6_ := Aside0.mk ((by rw [hg]; exact Nat.ne_of_gt (blk_lt (g := gb153) (o := .cells #[.slice A0_0 l0_0.length c0_0, .int .i64 a0_1] 24 (0, 0)) (by (with_reducible repeat (first | refine blk_drewN ?_ _ | refine blk_drew ?_ | refine blk_alloc ?_ _)); exact BK153.out)) : gb154 ≠ gb153)); clear BK153; clear HB; have BK153 := n0_; have HB := n1_; have BK154 := n2_; have GW154 := n3_; have GE154 := n4_; have NB153_154 := n5_; have NB154_153 := n6_; clear n0_ n1_ n2_ n3_ n4_ n5_ n6_; clear hb hbox hg))
 (try simp only [Act.put, List.setIfInBounds_toArray, List.set_cons_zero, List.set_cons_succ])
 go_cut [20] (fun v20 wc => ∃ (kq : Nat) (x20_2 : Bool), v20 = .bool x20_2 ∧ Aside0 (assartref05_Same.j0 kq x20_2 l0_0 a0_1 l1_0 a1_1 = some r) ∧ Aside0 (kq ≤ k) ∧ Aside0 (wc.heap[gb153]? = some (.cells #[(.slice A0_0 l0_0.length c0_0), .int .i64 a0_1] 24 (0, 0))) ∧ Aside0 (wc.heap[gb154]? = some (.cells #[(.slice A1_0 l1_0.length c1_0), .int .i64 a1_1] 24 (0, 0))) ∧ Aside0 (Below w.heap.size w wc))
 case first =>
  have H := HC3.out
  clear HC3
  by_cases c6 : a0_1 = a1_1
  ·rw [if_pos c6] at H
   have c6b0 : (a0_1 == a1_1) = true := beq_iff_eq.mpr c6
   have c6b1 : (a0_1 != a1_1) = false := bne_eq_false_iff_eq.mpr c6
   clear c6
   (first | rw [c6b0] | (simp only [i64_w, i32_w]; rw [c6b0]) | skip)
   have H' := Aside0.mk H
   clear H
   have hnb7 := NB153_154.out
   have hnc7 := NB154_153.out
   have hcz8_0 : w5.cell? ⟨gb153, 0, none⟩ = some (.slice A0_0 l0_0.length c0_0) := (blk_cell BK153.out 0).trans rfl
   have hcz8_1 : w5.cell? ⟨gb153, 1, none⟩ = some (.int .i64 a0_1) := (blk_cell BK153.out 1).trans rfl
   have hfz8_0 := blk_frozen BK153.out 0
   have hfz8_1 := blk_frozen BK153.out 1
   have hcz9_0 : w5.cell? ⟨gb154, 0, none⟩ = some (.slice A1_0 l1_0.length c1_0) := (blk_cell BK154.out 0).trans rfl
   have hcz9_1 : w5.cell? ⟨gb154, 1, none⟩ = some (.int .i64 a1_1) := (blk_cell BK154.out 1).trans rfl
   have hfz9_0 := blk_frozen BK154.out 0
   have hfz9_1 := blk_frozen BK154.out 1
   go_wp2
   go_meet
   case rel => exact ⟨_, (((l0_0.length : Int) != (l1_0.length : Int))), (by first | rfl | (simp; done) | (simp [*]; done)), H', ⟨by first | omega | exact Nat.le_refl _⟩, ⟨by (with_reducible repeat (first | refine blk_drewN ?_ _ | refine blk_drew ?_ | refine blk_alloc ?_ _)); exact BK153.out⟩, ⟨by (with_reducible repeat (first | refine blk_drewN ?_ _ | refine blk_drew ?_ | refine blk_alloc ?_ _)); exact BK154.out⟩, ⟨by repeat (first | (with_reducible first | exact HB.out | apply below_alloc | apply pw_below_drewN | apply below_drew1 | refine below_set ?_ GE153.out | refine below_set ?_ GE154.out) | exact HB.out)⟩⟩
  ·rw [if_neg c6] at H
   have c6b0 : (a0_1 == a1_1) = false := beq_eq_false_iff_ne.mpr c6
   have c6b1 : (a0_1 != a1_1) = true := bne_iff_ne.mpr c6
   (first | rw [c6b0] | (simp only [i64_w, i32_w]; rw [c6b0]) | skip)
   have H' := Aside0.mk H
   clear H
   have hnb10 := NB153_154.out
   have hnc10 := NB154_153.out
   have hcz11_0 : w5.cell? ⟨gb153, 0, none⟩ = some (.slice A0_0 l0_0.length c0_0) := (blk_cell BK153.out 0).trans rfl
   have hcz11_1 : w5.cell? ⟨gb153, 1, none⟩ = some (.int .i64 a0_1) := (blk_cell BK153.out 1).trans rfl
   have hfz11_0 := blk_frozen BK153.out 0
   have hfz11_1 := blk_frozen BK153.out 1
   have hcz12_0 : w5.cell? ⟨gb154, 0, none⟩ = some (.slice A1_0 l1_0.length c1_0) := (blk_cell BK154.out 0).trans rfl
   have hcz12_1 : w5.cell? ⟨gb154, 1, none⟩ = some (.int .i64 a1_1) := (blk_cell BK154.out 1).trans rfl
   have hfz12_0 := blk_frozen BK154.out 0
   have hfz12_1 := blk_frozen BK154.out 1
   go_wp2
   go_meet
   case rel => exact ⟨_, (true), (by first | rfl | (simp; done) | (simp [*]; done)), H', ⟨by first | omega | exact Nat.le_refl _⟩, ⟨by (with_reducible repeat (first | refine blk_drewN ?_ _ | refine blk_drew ?_ | refine blk_alloc ?_ _)); exact BK153.out⟩, ⟨by (with_reducible repeat (first | refine blk_drewN ?_ _ | refine blk_drew ?_ | refine blk_alloc ?_ _)); exact BK154.out⟩, ⟨by repeat (first | (with_reducible first | exact HB.out | apply below_alloc | apply pw_below_drewN | apply below_drew1 | refine below_set ?_ GE153.out | refine below_set ?_ GE154.out) | exact HB.out)⟩⟩
 case rest =>
  clear HC3
  try clear c1
  try clear p2
  try clear c3
  try clear c6
  try clear c6b0
  try clear c6b1
  try clear c7
  try clear c10
  try clear hcz11_0
  try clear hcz11_1
  try clear hcz12_0
  try clear hcz12_1
  try clear hcz8_0
  try clear hcz8_1
  try clear hcz9_0
  try clear hcz9_1
  try clear hfz11_0
  try clear hfz11_1
  try clear hfz12_0
  try clear hfz12_1
  try clear hfz8_0
  try clear hfz8_1
  try clear hfz9_0
  try clear hfz9_1
  obtain ⟨kq, x20_2, rfl, HA, HJ2, BK153, BK154, HB⟩ := hcut
  cases kq with
  | zero => exact absurd HA.out (by simp [assartref05_Same.j0])
  | succ kj2 =>
   have H := HA.out
   clear HA
   simp only [assartref05_Same.j0] at H
   by_cases c13 : x20_2 = true
   ·subst c13
    have H1 : (some false) = some r := by rw [if_pos rfl] at H; exact H
    clear H
    have H := H1
    clear H1
    obtain rfl := Option.some.inj H
    go_wp2
    go_ret
    exact ⟨by first | rfl | (simp [errW_none, errW_some] <;> rfl) | (simp [*, errW_none, errW_some] <;> rfl), by repeat (first | (with_reducible first | exact HB.out | apply below_alloc | apply pw_below_drewN | apply below_drew1 | refine below_set ?_ GE153.out | refine below_set ?_ GE154.out) | exact HB.out)⟩
   ·replace c13 := Bool.eq_false_iff.mpr c13
    subst c13
    have H1 : (assartref05_Same.l0 kj2 0 l0_0 a0_1 l1_0 a1_1) = some r := by rw [if_neg (show ¬ (false = true) by decide)] at H; exact H
    clear H
    have H := H1
    clear H1
    have H' := Aside0.mk H
    clear H
    go_wp2
    go_loopg [5] kj2 (fun kq v5 w' => ∃ (x5_2 : Int), v5 = .int .i64 x5_2 ∧ Aside0 (assartref05_Same.l0 kq x5_2 l0_0 a0_1 l1_0 a1_1 = some r) ∧ Aside0 (kq ≤ kj2) ∧ Aside0 (w'.heap[gb153]? = some (.cells #[(.slice A0_0 l0_0.length c0_0), .int .i64 a0_1] 24 (0, 0))) ∧ Aside0 (w'.heap[gb154]? = some (.cells #[(.slice A1_0 l1_0.length c1_0), .int .i64 a1_1] 24 (0, 0))) ∧ Aside0 (Below w.heap.size w w'))
    case atStart => exact ⟨(0), (by first | rfl | (simp; done) | (simp [*]; done)), H', ⟨Nat.le_refl _⟩, ⟨by (with_reducible repeat (first | refine blk_drewN ?_ _ | refine blk_drew ?_ | refine blk_alloc ?_ _)); exact BK153.out⟩, ⟨by (with_reducible repeat (first | refine blk_drewN ?_ _ | refine blk_drew ?_ | refine blk_alloc ?_ _)); exact BK154.out⟩, ⟨by repeat (first | (with_reducible first | exact HB.out | apply below_alloc | apply pw_below_drewN | apply below_drew1 | refine below_set ?_ GE153.out | refine below_set ?_ GE154.out) | exact HB.out)⟩⟩
    case round =>
     clear H'
     try clear c1
     try clear p2
     try clear c3
     try clear c6
     try clear c6b0
     try clear c6b1
     try clear c7
     try clear c10
     try clear c13
     try clear hcz11_0
     try clear hcz11_1
     try clear hcz12_0
     try clear hcz12_1
     try clear hcz8_0
     try clear hcz8_1
     try clear hcz9_0
     try clear hcz9_1
     try clear hfz11_0
     try clear hfz11_1
     try clear hfz12_0
     try clear hfz12_1
     try clear hfz8_0
     try clear hfz8_1
     try clear hfz9_0
     try clear hfz9_1
     try clear p2
     obtain ⟨x5_2, rfl, HA, HK2, BK153, BK154, HB⟩ := hrel
     cases gk with
     | zero => exact absurd HA.out (by simp [assartref05_Same.l0])
     | succ k2 =>
      have H := HA.out
      clear HA
      simp only [assartref05_Same.l0] at H
      by_cases c14 : x5_2 < (l0_0.length : Int)
      ·rw [if_pos c14] at H
       have c14b0 : decide (x5_2 < (l0_0.length : Int)) = true := decide_eq_true c14
       clear c14
       by_cases c15 : 0 ≤ x5_2
       ·rw [if_pos c15] at H
        have c15b0 : decide (0 ≤ x5_2) = true := decide_eq_true c15
        clear c15
        by_cases c16 : x5_2 < (l1_0.length : Int)
        ·rw [if_pos c16] at H
         have c16b0 : decide (x5_2 < (l1_0.length : Int)) = true := decide_eq_true c16
         clear c16
         replace H := Option.bind_eq_some_iff.mp H
         obtain ⟨t157, A170, H⟩ := H
         replace H : (if t157 = true then (if ((rd_T55 l0_0 x5_2).f0) = ((rd_T55 l1_0 x5_2).f0) then (if (((rd_T55 l0_0 x5_2).f1) != ((rd_T55 l1_0 x5_2).f1)) = true then (some false) else (assartref05_Same.l0 k2 (wrap64 (x5_2 + 1)) l0_0 a0_1 l1_0 a1_1)) else (some false)) else (some false)) = some r := H
         have A17 := Aside0.mk A170
         clear A170
         by_cases c18 : t157 = true
         ·subst c18
          have H1 : (if ((rd_T55 l0_0 x5_2).f0) = ((rd_T55 l1_0 x5_2).f0) then (if (((rd_T55 l0_0 x5_2).f1) != ((rd_T55 l1_0 x5_2).f1)) = true then (some false) else (assartref05_Same.l0 k2 (wrap64 (x5_2 + 1)) l0_0 a0_1 l1_0 a1_1)) else (some false)) = some r := by rw [if_pos rfl] at H; exact H
          clear H
          have H := H1
          clear H1
          by_cases c19 : ((rd_T55 l0_0 x5_2).f0) = ((rd_T55 l1_0 x5_2).f0)
          ·rw [if_pos c19] at H
           have c19b0 : (((rd_T55 l0_0 x5_2).f0) == ((rd_T55 l1_0 x5_2).f0)) = true := beq_iff_eq.mpr c19
           have c19b1 : (((rd_T55 l0_0 x5_2).f0) != ((rd_T55 l1_0 x5_2).f0)) = false := bne_eq_false_iff_eq.mpr c19
           clear c19
           by_cases c20 : (((rd_T55 l0_0 x5_2).f1) != ((rd_T55 l1_0 x5_2).f1)) = true
           ·rw [if_pos c20] at H
            have c20b0 : (((rd_T55 l0_0 x5_2).f1) != ((rd_T55 l1_0 x5_2).f1)) = true := c20
            (try (have c20b1 : decide (((rd_T55 l0_0 x5_2).f1) = ((rd_T55 l1_0 x5_2).f1)) = false := by simpa using c20))
            (try (have c20b2 : (((rd_T55 l0_0 x5_2).f1) == ((rd_T55 l1_0 x5_2).f1)) = false := by simpa using c20))
            (try (have c20b3 : ¬ (((rd_T55 l0_0 x5_2).f1) = ((rd_T55 l1_0 x5_2).f1)) := by simpa using c20))
            clear c20
            obtain rfl := Option.some.inj H
            have hnb21 := NB153_154.out
            have hnc21 := NB154_153.out
            have hcz22_0 : wr.cell? ⟨gb153, 0, none⟩ = some (.slice A0_0 l0_0.length c0_0) := (blk_cell BK153.out 0).trans rfl
            have hcz22_1 : wr.cell? ⟨gb153, 1, none⟩ = some (.int .i64 a0_1) := (blk_cell BK153.out 1).trans rfl
            have hfz22_0 := blk_frozen BK153.out 0
            have hfz22_1 := blk_frozen BK153.out 1
            try go_wp2
            have n0_ := Aside0.mk (blk_drew BK153.out)
            have n1_ := Aside0.mk (blk_drew BK154.out)
            have n2_ := Aside0.mk (below_drew1 HB.out)
            clear BK153
            clear BK154
            clear HB
            have BK153 := n0_
            have BK154 := n1_
            have HB := n2_
            clear n0_ n1_ n2_
            have p155 : 0 ≤ (x5_2 : Int) := of_decide_eq_true (by first | (with_reducible assumption) | assumption)
            have q155 : x5_2 < (l0_0.length : Int) := of_decide_eq_true (by first | (with_reducible assumption) | assumption)
            obtain ⟨ad155, A155_3, c155_3, e155, hx155_0, hx155_1, hx155_2, hx155_3, hl155_3, hi155_3⟩ := at_T55 HR0_0.out x5_2 p155 q155
            have hw155_3 := hx155_3
            have hw155_2 := hx155_2
            have hw155_1 := hx155_1
            have hw155_0 := hx155_0
            cases e155
            replace hx155_0 := (HB.out.cell (World.block_lt_of_cell? w _ hx155_0)).trans hx155_0
            replace hx155_1 := (HB.out.cell (World.block_lt_of_cell? w _ hx155_1)).trans hx155_1
            replace hx155_2 := (HB.out.cell (World.block_lt_of_cell? w _ hx155_2)).trans hx155_2
            replace hx155_3 := (HB.out.cell (World.block_lt_of_cell? w _ hx155_3)).trans hx155_3
            have HR155_3 := Aside0.mk hi155_3
            have HC155_3 := Aside0.mk hl155_3
            clear hi155_3 hl155_3
            replace p155 := eq_true p155
            replace q155 := eq_true q155
            have p156 : 0 ≤ (x5_2 : Int) := of_decide_eq_true (by first | (with_reducible assumption) | assumption)
            have q156 : x5_2 < (l1_0.length : Int) := of_decide_eq_true (by first | (with_reducible assumption) | assumption)
            obtain ⟨ad156, A156_3, c156_3, e156, hx156_0, hx156_1, hx156_2, hx156_3, hl156_3, hi156_3⟩ := at_T55 HR1_0.out x5_2 p156 q156
            have hw156_3 := hx156_3
            have hw156_2 := hx156_2
            have hw156_1 := hx156_1
            have hw156_0 := hx156_0
            cases e156
            replace hx156_0 := (HB.out.cell (World.block_lt_of_cell? w _ hx156_0)).trans hx156_0
            replace hx156_1 := (HB.out.cell (World.block_lt_of_cell? w _ hx156_1)).trans hx156_1
            replace hx156_2 := (HB.out.cell (World.block_lt_of_cell? w _ hx156_2)).trans hx156_2
            replace hx156_3 := (HB.out.cell (World.block_lt_of_cell? w _ hx156_3)).trans hx156_3
            have HR156_3 := Aside0.mk hi156_3
            have HC156_3 := Aside0.mk hl156_3
            clear hi156_3 hl156_3
            replace p156 := eq_true p156
            replace q156 := eq_true q156
            refine start_ (n := 14) (S := fun w' => w'.cell? ⟨gb153, 0, none⟩ = some (.slice (some ad155) l0_0.length c0_0) ∧ w'.cell? ⟨gb153, 1, none⟩ = some (.int .i64 a0_1) ∧ w'.cell? ⟨gb154, 0, none⟩ = some (.slice (some ad156) l1_0.length c1_0) ∧ w'.cell? ⟨gb154, 1, none⟩ = some (.int .i64 a1_1) ∧ w'.cell? (ad155.add ((x5_2).toNat * 4)) = some (.int .i64 ((rd_T55 l0_0 x5_2).f0)) ∧ w'.cell? ⟨(ad155.add ((x5_2).toNat * 4)).block, (ad155.add ((x5_2).toNat * 4)).off + 1, none⟩ = some (.bool ((rd_T55 l0_0 x5_2).f1)) ∧ w'.cell? ⟨(ad155.add ((x5_2).toNat * 4)).block, (ad155.add ((x5_2).toNat * 4)).off + 2, none⟩ = some (.bool ((rd_T55 l0_0 x5_2).f2.f0)) ∧ w'.cell? ⟨(ad155.add ((x5_2).toNat * 4)).block, (ad155.add ((x5_2).toNat * 4)).off + 3, none⟩ = some (.slice A155_3 ((rd_T55 l0_0 x5_2).f2.f1).length c155_3) ∧ w'.cell? (ad156.add ((x5_2).toNat * 4)) = some (.int .i64 ((rd_T55 l1_0 x5_2).f0)) ∧ w'.cell? ⟨(ad156.add ((x5_2).toNat * 4)).block, (ad156.add ((x5_2).toNat * 4)).off + 1, none⟩ = some (.bool ((rd_T55 l1_0 x5_2).f1)) ∧ w'.cell? ⟨(ad156.add ((x5_2).toNat * 4)).block, (ad156.add ((x5_2).toNat * 4)).off + 2, none⟩ = some (.bool ((rd_T55 l1_0 x5_2).f2.f0)) ∧ w'.cell? ⟨(ad156.add ((x5_2).toNat * 4)).block, (ad156.add ((x5_2).toNat * 4)).off + 3, none⟩ = some (.slice A156_3 ((rd_T55 l1_0 x5_2).f2.f1).length c156_3)) (ds := []) #[false, false, false, false, false, false, false, false, false, false, false, false, false, false] (by kernel_rfl) rfl rfl ⟨(blk_cell BK153.out 0).trans rfl, (blk_cell BK153.out 1).trans rfl, (blk_cell BK154.out 0).trans rfl, (blk_cell BK154.out 1).trans rfl, ((HB.out.cell (World.block_lt_of_cell? w _ hw155_0)).trans hw155_0), ((HB.out.cell (World.block_lt_of_cell? w _ hw155_1)).trans hw155_1), ((HB.out.cell (World.block_lt_of_cell? w _ hw155_2)).trans hw155_2), ((HB.out.cell (World.block_lt_of_cell? w _ hw155_3)).trans hw155_3), ((HB.out.cell (World.block_lt_of_cell? w _ hw156_0)).trans hw156_0), ((HB.out.cell (World.block_lt_of_cell? w _ hw156_1)).trans hw156_1), ((HB.out.cell (World.block_lt_of_cell? w _ hw156_2)).trans hw156_2), ((HB.out.cell (World.block_lt_of_cell? w _ hw156_3)).trans hw156_3)⟩ (fun hHeld => ?_); refine with_tabW assartref05_Same.tab6 assartref05_Same.bits6 (fun HT_ HW_ => ?_)
            generalize wr.drew = w23 at BK153 BK154 HB HR155_3 HR156_3 hx155_0 hx155_1 hx155_2 hx155_3 hx156_0 hx156_1 hx156_2 hx156_3 hHeld ⊢
            refine pure_ (i := 0) (N := some 28) (v := ?_) (a' := ?_) #[true, false, false, false, false, false, false, false, false, false, false, false, false, false] rfl rfl (any_of HT_.out (by kernel_rfl)) (fun _ _ _ h => h) (Or.inl ⟨by rfl, ?_⟩) ?_ ?_
            rotate_left
            ·intro w'
             go_simp
             with_reducible rfl
            rotate_left
            ·simp only [Act.put, List.setIfInBounds_toArray, List.set_cons_zero, List.set_cons_succ, i64_w, i32_w]
             rfl
            refine pure_ (i := 2) (N := some 30) (v := ?_) (a' := ?_) #[true, false, true, false, false, false, false, false, false, false, false, false, false, false] rfl rfl (any_of HT_.out (by kernel_rfl)) (fun _ _ _ h => h) (Or.inl ⟨by rfl, ?_⟩) ?_ ?_
            rotate_left
            ·intro w'
             go_simp
             with_reducible rfl
            rotate_left
            ·simp only [Act.put, List.setIfInBounds_toArray, List.set_cons_zero, List.set_cons_succ, i64_w, i32_w]
             rfl
            refine pure_ (i := 6) (N := some 34) (v := ?_) (a' := ?_) #[true, false, true, false, false, false, true, false, false, false, false, false, false, false] rfl rfl (any_of HT_.out (by kernel_rfl)) (fun _ _ _ h => h) (Or.inl ⟨by rfl, ?_⟩) ?_ ?_
            rotate_left
            ·intro w'
             go_simp
             with_reducible rfl
            rotate_left
            ·simp only [Act.put, List.setIfInBounds_toArray, List.set_cons_zero, List.set_cons_succ, i64_w, i32_w]
             rfl
            refine pure_ (i := 8) (N := some 36) (v := ?_) (a' := ?_) #[true, false, true, false, false, false, true, false, true, false, false, false, false, false] rfl rfl (any_of HT_.out (by kernel_rfl)) (fun _ _ _ h => h) (Or.inl ⟨by rfl, ?_⟩) ?_ ?_
            rotate_left
            ·intro w'
             go_simp
             with_reducible rfl
            rotate_left
            ·simp only [Act.put, List.setIfInBounds_toArray, List.set_cons_zero, List.set_cons_succ, i64_w, i32_w]
             rfl
            refine take_ (i := 1) (N := some 29) (v := ?_) (a' := ?_) #[true, true, true, false, false, false, true, false, true, false, false, false, false, false] rfl rfl (take_ofW HT_.out HW_.out (by kernel_rfl)) (fun _ _ _ h => h) (Or.inl ⟨by rfl, ?_⟩) hHeld ?_ ?_
            rotate_left
            ·rintro w' ⟨s0, s1, s2, s3, s4, s5, s6, s7, s8, s9, s10, s11⟩
             go_simp
             with_reducible rfl
            rotate_left
            ·simp only [Act.put, List.setIfInBounds_toArray, List.set_cons_zero, List.set_cons_succ, i64_w, i32_w]
             rfl
            refine pure_ (i := 3) (N := some 31) (v := ?_) (a' := ?_) #[true, true, true, true, false, false, true, false, true, false, false, false, false, false] rfl rfl (any_of HT_.out (by kernel_rfl)) (fun _ _ _ h => h) (Or.inl ⟨by rfl, ?_⟩) ?_ ?_
            rotate_left
            ·intro w'
             go_simp
             with_reducible rfl
            rotate_left
            ·simp only [Act.put, List.setIfInBounds_toArray, List.set_cons_zero, List.set_cons_succ, i64_w, i32_w]
             rfl
            refine pure_ (i := 4) (N := some 32) (v := ?_) (a' := ?_) #[true, true, true, true, true, false, true, false, true, false, false, false, false, false] rfl rfl (any_of HT_.out (by kernel_rfl)) (fun _ _ _ h => h) (Or.inl ⟨by rfl, ?_⟩) ?_ ?_
            rotate_left
            ·intro w'
             go_simp
             with_reducible rfl
            rotate_left
            ·simp only [Act.put, List.setIfInBounds_toArray, List.set_cons_zero, List.set_cons_succ, i64_w, i32_w]
             rfl
            refine take_ (i := 5) (N := some 33) (v := ?_) (a' := ?_) #[true, true, true, true, true, true, true, false, true, false, false, false, false, false] rfl rfl (take_ofW HT_.out HW_.out (by kernel_rfl)) (fun _ _ _ h => h) (Or.inl ⟨by rfl, ?_⟩) hHeld ?_ ?_
            rotate_left
            ·rintro w' ⟨s0, s1, s2, s3, s4, s5, s6, s7, s8, s9, s10, s11⟩
             go_simp
             with_reducible rfl
            rotate_left
            ·simp only [Act.put, List.setIfInBounds_toArray, List.set_cons_zero, List.set_cons_succ, i64_w, i32_w]
             rfl
            refine take_ (i := 7) (N := some 35) (v := ?_) (a' := ?_) #[true, true, true, true, true, true, true, true, true, false, false, false, false, false] rfl rfl (take_ofW HT_.out HW_.out (by kernel_rfl)) (fun _ _ _ h => h) (Or.inl ⟨by rfl, ?_⟩) hHeld ?_ ?_
            rotate_left
            ·rintro w' ⟨s0, s1, s2, s3, s4, s5, s6, s7, s8, s9, s10, s11⟩
             go_simp
             with_reducible rfl
            rotate_left
            ·simp only [Act.put, List.setIfInBounds_toArray, List.set_cons_zero, List.set_cons_succ, i64_w, i32_w]
             rfl
            refine pure_ (i := 9) (N := some 37) (v := ?_) (a' := ?_) #[true, true, true, true, true, true, true, true, true, true, false, false, false, false] rfl rfl (any_of HT_.out (by kernel_rfl)) (fun _ _ _ h => h) (Or.inl ⟨by rfl, ?_⟩) ?_ ?_
            rotate_left
            ·intro w'
             go_simp
             with_reducible rfl
            rotate_left
            ·simp only [Act.put, List.setIfInBounds_toArray, List.set_cons_zero, List.set_cons_succ, i64_w, i32_w]
             rfl
            refine pure_ (i := 10) (N := some 38) (v := ?_) (a' := ?_) #[true, true, true, true, true, true, true, true, true, true, true, false, false, false] rfl rfl (any_of HT_.out (by kernel_rfl)) (fun _ _ _ h => h) (Or.inl ⟨by rfl, ?_⟩) ?_ ?_
            rotate_left
            ·intro w'
             go_simp
             with_reducible rfl
            rotate_left
            ·simp only [Act.put, List.setIfInBounds_toArray, List.set_cons_zero, List.set_cons_succ, i64_w, i32_w]
             rfl
            refine take_ (i := 11) (N := some 39) (v := ?_) (a' := ?_) #[true, true, true, true, true, true, true, true, true, true, true, true, false, false] rfl rfl (take_ofW HT_.out HW_.out (by kernel_rfl)) (fun _ _ _ h => h) (Or.inl ⟨by rfl, ?_⟩) hHeld ?_ ?_
            rotate_left
            ·rintro w' ⟨s0, s1, s2, s3, s4, s5, s6, s7, s8, s9, s10, s11⟩
             go_simp
             with_reducible rfl
            rotate_left
            ·simp only [Act.put, List.setIfInBounds_toArray, List.set_cons_zero, List.set_cons_succ, i64_w, i32_w]
             rfl
            refine one_ (i := 12) (N := some 40) #[true, true, true, true, true, true, true, true, true, true, true, true, true, false] rfl rfl (one_of HT_.out (by kernel_rfl)) (by decide) (fun K hK => ?_)
            refine goes_ Try.func53 (by kernel_rfl) rfl #[.agg #[.bool ((rd_T55 l0_0 x5_2).f2.f0), .slice A155_3 ((rd_T55 l0_0 x5_2).f2.f1).length c155_3], .agg #[.bool ((rd_T55 l1_0 x5_2).f2.f0), .slice A156_3 ((rd_T55 l1_0 x5_2).f2.f1).length c156_3]] (by rfl) rfl rfl (by (try simp only [List.map_toArray, List.map_cons, List.map_nil]); first | done | rfl | (simp only [List.length_drop, List.length_take]; rfl)) ?_
            with_reducible refine (assartref04_Same.calls k2 ((rd_T55 l0_0 x5_2).f2.f0) _ _ ((rd_T55 l0_0 x5_2).f2.f1) ((rd_T55 l1_0 x5_2).f2.f0) _ _ ((rd_T55 l1_0 x5_2).f2.f1) true _ ?side1 ?side2 ?side3 ?side4 A17.out).mono ?_
            (case side1 => repeat (first | exact (Kd.C_below HR155_3.out HB.out) | (with_reducible refine Kd.C_alloc ?_ _) | (with_reducible refine Kd.C_drewN ?_ _) | (with_reducible refine Kd.C_drew ?_)))
            (case side2 => exact HC155_3.out)
            (case side3 => repeat (first | exact (Kd.C_below HR156_3.out HB.out) | (with_reducible refine Kd.C_alloc ?_ _) | (with_reducible refine Kd.C_drewN ?_ _) | (with_reducible refine Kd.C_drew ?_)))
            (case side4 => exact HC156_3.out)
            rintro e w24 ⟨rfl, hb⟩
            refine ⟨_, rfl, ?_⟩
            have n0_ := Aside0.mk (blk_below (g := gb153) (o := .cells #[.slice (some ad155) l0_0.length c0_0, .int .i64 a0_1] 24 (0, 0)) (by (with_reducible repeat (first | refine blk_drewN ?_ _ | refine blk_drew ?_ | refine blk_alloc ?_ _)); exact BK153.out) hb)
            have n1_ := Aside0.mk (blk_below (g := gb154) (o := .cells #[.slice (some ad156) l1_0.length c1_0, .int .i64 a1_1] 24 (0, 0)) (by (with_reducible repeat (first | refine blk_drewN ?_ _ | refine blk_drew ?_ | refine blk_alloc ?_ _)); exact BK154.out) hb)
            have n2_ := Aside0.mk (below_step (by repeat (first | (with_reducible first | exact HB.out | apply below_alloc | apply pw_below_drewN | apply below_drew1 | refine below_set ?_ GE153.out | refine below_set ?_ GE154.out) | exact HB.out)) hb)
            clear BK153
            clear BK154
            clear HB
            have BK153 := n0_
            have BK154 := n1_
            have HB := n2_
            clear n0_ n1_ n2_
            (try clear hb)
            (try clear hb2)
            (try clear hk)
            (try clear hi)
            refine hK.out _ _ ⟨(blk_cell BK153.out 0).trans rfl, (blk_cell BK153.out 1).trans rfl, (blk_cell BK154.out 0).trans rfl, (blk_cell BK154.out 1).trans rfl, ((HB.out.cell (World.block_lt_of_cell? w _ hw155_0)).trans hw155_0), ((HB.out.cell (World.block_lt_of_cell? w _ hw155_1)).trans hw155_1), ((HB.out.cell (World.block_lt_of_cell? w _ hw155_2)).trans hw155_2), ((HB.out.cell (World.block_lt_of_cell? w _ hw155_3)).trans hw155_3), ((HB.out.cell (World.block_lt_of_cell? w _ hw156_0)).trans hw156_0), ((HB.out.cell (World.block_lt_of_cell? w _ hw156_1)).trans hw156_1), ((HB.out.cell (World.block_lt_of_cell? w _ hw156_2)).trans hw156_2), ((HB.out.cell (World.block_lt_of_cell? w _ hw156_3)).trans hw156_3)⟩ (fun hHeld => ?_)
            clear hK K
            refine norm_ (a' := ?_) ?_ ?_
            rotate_left
            ·show Act.put _ (some 40) _ = _
             simp only [Act.put, List.setIfInBounds_toArray, List.set_cons_zero, List.set_cons_succ, i64_w, i32_w]
             rfl
            refine pure_ (i := 13) (N := some 6) (v := ?_) (a' := ?_) #[true, true, true, true, true, true, true, true, true, true, true, true, true, true] rfl rfl (any_of HT_.out (by kernel_rfl)) (fun _ _ _ h => h) (Or.inl ⟨by rfl, ?_⟩) ?_ ?_
            rotate_left
            ·intro w'
             go_simp
             with_reducible rfl
            rotate_left
            ·simp only [Act.put, List.setIfInBounds_toArray, List.set_cons_zero, List.set_cons_succ, i64_w, i32_w]
             rfl
            refine done_ (done_of HT_.out (by kernel_rfl)) ?_
            try go_wp2
            have n0_ := Aside0.mk (blk_drew BK153.out)
            have n1_ := Aside0.mk (blk_drew BK154.out)
            have n2_ := Aside0.mk (below_drew1 HB.out)
            clear BK153
            clear BK154
            clear HB
            have BK153 := n0_
            have BK154 := n1_
            have HB := n2_
            clear n0_ n1_ n2_
            have p158 : 0 ≤ (x5_2 : Int) := of_decide_eq_true (by first | (with_reducible assumption) | assumption)
            have q158 : x5_2 < (l0_0.length : Int) := of_decide_eq_true (by first | (with_reducible assumption) | assumption)
            obtain ⟨ad158, A158_3, c158_3, e158, hx158_0, hx158_1, hx158_2, hx158_3, hl158_3, hi158_3⟩ := at_T55 HR0_0.out x5_2 p158 q158
            have hw158_3 := hx158_3
            have hw158_2 := hx158_2
            have hw158_1 := hx158_1
            have hw158_0 := hx158_0
            obtain rfl : ad155 = ad158 := (by injection e158)
            replace hx158_0 := (HB.out.cell (World.block_lt_of_cell? w _ hx158_0)).trans hx158_0
            replace hx158_1 := (HB.out.cell (World.block_lt_of_cell? w _ hx158_1)).trans hx158_1
            replace hx158_2 := (HB.out.cell (World.block_lt_of_cell? w _ hx158_2)).trans hx158_2
            replace hx158_3 := (HB.out.cell (World.block_lt_of_cell? w _ hx158_3)).trans hx158_3
            have HR158_3 := Aside0.mk hi158_3
            have HC158_3 := Aside0.mk hl158_3
            clear hi158_3 hl158_3
            replace p158 := eq_true p158
            replace q158 := eq_true q158
            have p159 : 0 ≤ (x5_2 : Int) := of_decide_eq_true (by first | (with_reducible assumption) | assumption)
            have q159 : x5_2 < (l1_0.length : Int) := of_decide_eq_true (by first | (with_reducible assumption) | assumption)
            obtain ⟨ad159, A159_3, c159_3, e159, hx159_0, hx159_1, hx159_2, hx159_3, hl159_3, hi159_3⟩ := at_T55 HR1_0.out x5_2 p159 q159
            have hw159_3 := hx159_3
            have hw159_2 := hx159_2
            have hw159_1 := hx159_1
            have hw159_0 := hx159_0
            obtain rfl : ad156 = ad159 := (by injection e159)
            replace hx159_0 := (HB.out.cell (World.block_lt_of_cell? w _ hx159_0)).trans hx159_0
            replace hx159_1 := (HB.out.cell (World.block_lt_of_cell? w _ hx159_1)).trans hx159_1
            replace hx159_2 := (HB.out.cell (World.block_lt_of_cell? w _ hx159_2)).trans hx159_2
            replace hx159_3 := (HB.out.cell (World.block_lt_of_cell? w _ hx159_3)).trans hx159_3
            have HR159_3 := Aside0.mk hi159_3
            have HC159_3 := Aside0.mk hl159_3
            clear hi159_3 hl159_3
            replace p159 := eq_true p159
            replace q159 := eq_true q159
            have p160 : 0 ≤ (x5_2 : Int) := of_decide_eq_true (by first | (with_reducible assumption) | assumption)
            have q160 : x5_2 < (l0_0.length : Int) := of_decide_eq_true (by first | (with_reducible assumption) | assumption)
            obtain ⟨ad160, A160_3, c160_3, e160, hx160_0, hx160_1, hx160_2, hx160_3, hl160_3, hi160_3⟩ := at_T55 HR0_0.out x5_2 p160 q160
            have hw160_3 := hx160_3
            have hw160_2 := hx160_2
            have hw160_1 := hx160_1
            have hw160_0 := hx160_0
            obtain rfl : ad155 = ad160 := (by injection e160)
            replace hx160_0 := (HB.out.cell (World.block_lt_of_cell? w _ hx160_0)).trans hx160_0
            replace hx160_1 := (HB.out.cell (World.block_lt_of_cell? w _ hx160_1)).trans hx160_1
            replace hx160_2 := (HB.out.cell (World.block_lt_of_cell? w _ hx160_2)).trans hx160_2
            replace hx160_3 := (HB.out.cell (World.block_lt_of_cell? w _ hx160_3)).trans hx160_3
            have HR160_3 := Aside0.mk hi160_3
            have HC160_3 := Aside0.mk hl160_3
            clear hi160_3 hl160_3
            replace p160 := eq_true p160
            replace q160 := eq_true q160
            have ea_ := Option.some.inj (hx158_3.symm.trans hx160_3)
            injection ea_ with ea_ en_ ec_
            subst ea_
            subst ec_
            clear en_
            have p161 : 0 ≤ (x5_2 : Int) := of_decide_eq_true (by first | (with_reducible assumption) | assumption)
            have q161 : x5_2 < (l1_0.length : Int) := of_decide_eq_true (by first | (with_reducible assumption) | assumption)
            obtain ⟨ad161, A161_3, c161_3, e161, hx161_0, hx161_1, hx161_2, hx161_3, hl161_3, hi161_3⟩ := at_T55 HR1_0.out x5_2 p161 q161
            have hw161_3 := hx161_3
            have hw161_2 := hx161_2
            have hw161_1 := hx161_1
            have hw161_0 := hx161_0
            obtain rfl : ad156 = ad161 := (by injection e161)
            replace hx161_0 := (HB.out.cell (World.block_lt_of_cell? w _ hx161_0)).trans hx161_0
            replace hx161_1 := (HB.out.cell (World.block_lt_of_cell? w _ hx161_1)).trans hx161_1
            replace hx161_2 := (HB.out.cell (World.block_lt_of_cell? w _ hx161_2)).trans hx161_2
            replace hx161_3 := (HB.out.cell (World.block_lt_of_cell? w _ hx161_3)).trans hx161_3
            have HR161_3 := Aside0.mk hi161_3
            have HC161_3 := Aside0.mk hl161_3
            clear hi161_3 hl161_3
            replace p161 := eq_true p161
            replace q161 := eq_true q161
            have ea_ := Option.some.inj (hx159_3.symm.trans hx161_3)
            injection ea_ with ea_ en_ ec_
            subst ea_
            subst ec_
            clear en_
            refine start_ (n := 32) (S := fun w' => w'.cell? ⟨gb153, 0, none⟩ = some (.slice (some ad155) l0_0.length c0_0) ∧ w'.cell? ⟨gb153, 1, none⟩ = some (.int .i64 a0_1) ∧ w'.cell? ⟨gb154, 0, none⟩ = some (.slice (some ad156) l1_0.length c1_0) ∧ w'.cell? ⟨gb154, 1, none⟩ = some (.int .i64 a1_1) ∧ w'.cell? (ad155.add ((x5_2).toNat * 4)) = some (.int .i64 ((rd_T55 l0_0 x5_2).f0)) ∧ w'.cell? ⟨(ad155.add ((x5_2).toNat * 4)).block, (ad155.add ((x5_2).toNat * 4)).off + 1, none⟩ = some (.bool ((rd_T55 l0_0 x5_2).f1)) ∧ w'.cell? ⟨(ad155.add ((x5_2).toNat * 4)).block, (ad155.add ((x5_2).toNat * 4)).off + 2, none⟩ = some (.bool ((rd_T55 l0_0 x5_2).f2.f0)) ∧ w'.cell? ⟨(ad155.add ((x5_2).toNat * 4)).block, (ad155.add ((x5_2).toNat * 4)).off + 3, none⟩ = some (.slice A158_3 ((rd_T55 l0_0 x5_2).f2.f1).length c158_3) ∧ w'.cell? (ad156.add ((x5_2).toNat * 4)) = some (.int .i64 ((rd_T55 l1_0 x5_2).f0)) ∧ w'.cell? ⟨(ad156.add ((x5_2).toNat * 4)).block, (ad156.add ((x5_2).toNat * 4)).off + 1, none⟩ = some (.bool ((rd_T55 l1_0 x5_2).f1)) ∧ w'.cell? ⟨(ad156.add ((x5_2).toNat * 4)).block, (ad156.add ((x5_2).toNat * 4)).off + 2, none⟩ = some (.bool ((rd_T55 l1_0 x5_2).f2.f0)) ∧ w'.cell? ⟨(ad156.add ((x5_2).toNat * 4)).block, (ad156.add ((x5_2).toNat * 4)).off + 3, none⟩ = some (.slice A159_3 ((rd_T55 l1_0 x5_2).f2.f1).length c159_3) ∧ w'.cell? (ad155.add ((x5_2).toNat * 4)) = some (.int .i64 ((rd_T55 l0_0 x5_2).f0)) ∧ w'.cell? ⟨(ad155.add ((x5_2).toNat * 4)).block, (ad155.add ((x5_2).toNat * 4)).off + 1, none⟩ = some (.bool ((rd_T55 l0_0 x5_2).f1)) ∧ w'.cell? ⟨(ad155.add ((x5_2).toNat * 4)).block, (ad155.add ((x5_2).toNat * 4)).off + 2, none⟩ = some (.bool ((rd_T55 l0_0 x5_2).f2.f0)) ∧ w'.cell? ⟨(ad155.add ((x5_2).toNat * 4)).block, (ad155.add ((x5_2).toNat * 4)).off + 3, none⟩ = some (.slice A158_3 ((rd_T55 l0_0 x5_2).f2.f1).length c158_3) ∧ w'.cell? (ad156.add ((x5_2).toNat * 4)) = some (.int .i64 ((rd_T55 l1_0 x5_2).f0)) ∧ w'.cell? ⟨(ad156.add ((x5_2).toNat * 4)).block, (ad156.add ((x5_2).toNat * 4)).off + 1, none⟩ = some (.bool ((rd_T55 l1_0 x5_2).f1)) ∧ w'.cell? ⟨(ad156.add ((x5_2).toNat * 4)).block, (ad156.add ((x5_2).toNat * 4)).off + 2, none⟩ = some (.bool ((rd_T55 l1_0 x5_2).f2.f0)) ∧ w'.cell? ⟨(ad156.add ((x5_2).toNat * 4)).block, (ad156.add ((x5_2).toNat * 4)).off + 3, none⟩ = some (.slice A159_3 ((rd_T55 l1_0 x5_2).f2.f1).length c159_3)) (ds := []) #[false, false, false, false, false, false, false, false, false, false, false, false, false, false, false, false, false, false, false, false, false, false, false, false, false, false, false, false, false, false, false, false] (by kernel_rfl) rfl rfl ⟨(blk_cell BK153.out 0).trans rfl, (blk_cell BK153.out 1).trans rfl, (blk_cell BK154.out 0).trans rfl, (blk_cell BK154.out 1).trans rfl, ((HB.out.cell (World.block_lt_of_cell? w _ hw158_0)).trans hw158_0), ((HB.out.cell (World.block_lt_of_cell? w _ hw158_1)).trans hw158_1), ((HB.out.cell (World.block_lt_of_cell? w _ hw158_2)).trans hw158_2), ((HB.out.cell (World.block_lt_of_cell? w _ hw158_3)).trans hw158_3), ((HB.out.cell (World.block_lt_of_cell? w _ hw159_0)).trans hw159_0), ((HB.out.cell (World.block_lt_of_cell? w _ hw159_1)).trans hw159_1), ((HB.out.cell (World.block_lt_of_cell? w _ hw159_2)).trans hw159_2), ((HB.out.cell (World.block_lt_of_cell? w _ hw159_3)).trans hw159_3), ((HB.out.cell (World.block_lt_of_cell? w _ hw160_0)).trans hw160_0), ((HB.out.cell (World.block_lt_of_cell? w _ hw160_1)).trans hw160_1), ((HB.out.cell (World.block_lt_of_cell? w _ hw160_2)).trans hw160_2), ((HB.out.cell (World.block_lt_of_cell? w _ hw160_3)).trans hw160_3), ((HB.out.cell (World.block_lt_of_cell? w _ hw161_0)).trans hw161_0), ((HB.out.cell (World.block_lt_of_cell? w _ hw161_1)).trans hw161_1), ((HB.out.cell (World.block_lt_of_cell? w _ hw161_2)).trans hw161_2), ((HB.out.cell (World.block_lt_of_cell? w _ hw161_3)).trans hw161_3)⟩ (fun hHeld => ?_); refine with_tabW assartref05_Same.tab7 assartref05_Same.bits7 (fun HT_ HW_ => ?_)
            generalize w24.drew = w25 at BK153 BK154 HB HR158_3 HR159_3 HR160_3 HR161_3 hx158_0 hx158_1 hx158_2 hx158_3 hx159_0 hx159_1 hx159_2 hx159_3 hx160_0 hx160_1 hx160_2 hx160_3 hx161_0 hx161_1 hx161_2 hx161_3 hHeld ⊢
            refine pure_ (i := 0) (N := some 41) (v := ?_) (a' := ?_) #[true, false, false, false, false, false, false, false, false, false, false, false, false, false, false, false, false, false, false, false, false, false, false, false, false, false, false, false, false, false, false, false] rfl rfl (any_of HT_.out (by kernel_rfl)) (fun _ _ _ h => h) (Or.inl ⟨by rfl, ?_⟩) ?_ ?_
            rotate_left
            ·intro w'
             go_simp
             with_reducible rfl
            rotate_left
            ·simp only [Act.put, List.setIfInBounds_toArray, List.set_cons_zero, List.set_cons_succ, i64_w, i32_w]
             rfl
            refine pure_ (i := 1) (N := some 42) (v := ?_) (a' := ?_) #[true, true, false, false, false, false, false, false, false, false, false, false, false, false, false, false, false, false, false, false, false, false, false, false, false, false, false, false, false, false, false, false] rfl rfl (any_of HT_.out (by kernel_rfl)) (fun _ _ _ h => h) (Or.inl ⟨by rfl, ?_⟩) ?_ ?_
            rotate_left
            ·intro w'
             go_simp
             with_reducible rfl
            rotate_left
            ·simp only [Act.put, List.setIfInBounds_toArray, List.set_cons_zero, List.set_cons_succ, i64_w, i32_w]
             rfl
            refine pure_ (i := 2) (N := some 43) (v := ?_) (a' := ?_) #[true, true, true, false, false, false, false, false, false, false, false, false, false, false, false, false, false, false, false, false, false, false, false, false, false, false, false, false, false, false, false, false] rfl rfl (any_of HT_.out (by kernel_rfl)) (fun _ _ _ h => h) (Or.inl ⟨by rfl, ?_⟩) ?_ ?_
            rotate_left
            ·intro w'
             go_simp
             with_reducible rfl
            rotate_left
            ·simp only [Act.put, List.setIfInBounds_toArray, List.set_cons_zero, List.set_cons_succ, i64_w, i32_w]
             rfl
            refine pure_ (i := 3) (N := some 44) (v := ?_) (a' := ?_) #[true, true, true, true, false, false, false, false, false, false, false, false, false, false, false, false, false, false, false, false, false, false, false, false, false, false, false, false, false, false, false, false] rfl rfl (any_of HT_.out (by kernel_rfl)) (fun _ _ _ h => h) (Or.inl ⟨by rfl, ?_⟩) ?_ ?_
            rotate_left
            ·intro w'
             go_simp
             with_reducible rfl
            rotate_left
            ·simp only [Act.put, List.setIfInBounds_toArray, List.set_cons_zero, List.set_cons_succ, i64_w, i32_w]
             rfl
            refine pure_ (i := 5) (N := some 46) (v := ?_) (a' := ?_) #[true, true, true, true, false, true, false, false, false, false, false, false, false, false, false, false, false, false, false, false, false, false, false, false, false, false, false, false, false, false, false, false] rfl rfl (any_of HT_.out (by kernel_rfl)) (fun _ _ _ h => h) (Or.inl ⟨by rfl, ?_⟩) ?_ ?_
            rotate_left
            ·intro w'
             go_simp
             with_reducible rfl
            rotate_left
            ·simp only [Act.put, List.setIfInBounds_toArray, List.set_cons_zero, List.set_cons_succ, i64_w, i32_w]
             rfl
            refine pure_ (i := 9) (N := some 50) (v := ?_) (a' := ?_) #[true, true, true, true, false, true, false, false, false, true, false, false, false, false, false, false, false, false, false, false, false, false, false, false, false, false, false, false, false, false, false, false] rfl rfl (any_of HT_.out (by kernel_rfl)) (fun _ _ _ h => h) (Or.inl ⟨by rfl, ?_⟩) ?_ ?_
            rotate_left
            ·intro w'
             go_simp
             with_reducible rfl
            rotate_left
            ·simp only [Act.put, List.setIfInBounds_toArray, List.set_cons_zero, List.set_cons_succ, i64_w, i32_w]
             rfl
            refine pure_ (i := 11) (N := some 52) (v := ?_) (a' := ?_) #[true, true, true, true, false, true, false, false, false, true, false, true, false, false, false, false, false, false, false, false, false, false, false, false, false, false, false, false, false, false, false, false] rfl rfl (any_of HT_.out (by kernel_rfl)) (fun _ _ _ h => h) (Or.inl ⟨by rfl, ?_⟩) ?_ ?_
            rotate_left
            ·intro w'
             go_simp
             with_reducible rfl
            rotate_left
            ·simp only [Act.put, List.setIfInBounds_toArray, List.set_cons_zero, List.set_cons_succ, i64_w, i32_w]
             rfl
            refine take_ (i := 4) (N := some 45) (v := ?_) (a' := ?_) #[true, true, true, true, true, true, false, false, false, true, false, true, false, false, false, false, false, false, false, false, false, false, false, false, false, false, false, false, false, false, false, false] rfl rfl (take_ofW HT_.out HW_.out (by kernel_rfl)) (fun _ _ _ h => h) (Or.inl ⟨by rfl, ?_⟩) hHeld ?_ ?_
            rotate_left
            ·rintro w' ⟨s0, s1, s2, s3, s4, s5, s6, s7, s8, s9, s10, s11, s12, s13, s14, s15, s16, s17, s18, s19⟩
             go_simp
             with_reducible rfl
            rotate_left
            ·simp only [Act.put, List.setIfInBounds_toArray, List.set_cons_zero, List.set_cons_succ, i64_w, i32_w]
             rfl
            refine pure_ (i := 6) (N := some 47) (v := ?_) (a' := ?_) #[true, true, true, true, true, true, true, false, false, true, false, true, false, false, false, false, false, false, false, false, false, false, false, false, false, false, false, false, false, false, false, false] rfl rfl (any_of HT_.out (by kernel_rfl)) (fun _ _ _ h => h) (Or.inl ⟨by rfl, ?_⟩) ?_ ?_
            rotate_left
            ·intro w'
             go_simp
             with_reducible rfl
            rotate_left
            ·simp only [Act.put, List.setIfInBounds_toArray, List.set_cons_zero, List.set_cons_succ, i64_w, i32_w]
             rfl
            refine pure_ (i := 7) (N := some 48) (v := ?_) (a' := ?_) #[true, true, true, true, true, true, true, true, false, true, false, true, false, false, false, false, false, false, false, false, false, false, false, false, false, false, false, false, false, false, false, false] rfl rfl (any_of HT_.out (by kernel_rfl)) (fun _ _ _ h => h) (Or.inl ⟨by rfl, ?_⟩) ?_ ?_
            rotate_left
            ·intro w'
             go_simp
             with_reducible rfl
            rotate_left
            ·simp only [Act.put, List.setIfInBounds_toArray, List.set_cons_zero, List.set_cons_succ, i64_w, i32_w]
             rfl
            refine take_ (i := 8) (N := some 49) (v := ?_) (a' := ?_) #[true, true, true, true, true, true, true, true, true, true, false, true, false, false, false, false, false, false, false, false, false, false, false, false, false, false, false, false, false, false, false, false] rfl rfl (take_ofW HT_.out HW_.out (by kernel_rfl)) (fun _ _ _ h => h) (Or.inl ⟨by rfl, ?_⟩) hHeld ?_ ?_
            rotate_left
            ·rintro w' ⟨s0, s1, s2, s3, s4, s5, s6, s7, s8, s9, s10, s11, s12, s13, s14, s15, s16, s17, s18, s19⟩
             go_simp
             with_reducible rfl
            rotate_left
            ·simp only [Act.put, List.setIfInBounds_toArray, List.set_cons_zero, List.set_cons_succ, i64_w, i32_w]
             rfl
            refine take_ (i := 10) (N := some 51) (v := ?_) (a' := ?_) #[true, true, true, true, true, true, true, true, true, true, true, true, false, false, false, false, false, false, false, false, false, false, false, false, false, false, false, false, false, false, false, false] rfl rfl (take_ofW HT_.out HW_.out (by kernel_rfl)) (fun _ _ _ h => h) (Or.inl ⟨by rfl, ?_⟩) hHeld ?_ ?_
            rotate_left
            ·rintro w' ⟨s0, s1, s2, s3, s4, s5, s6, s7, s8, s9, s10, s11, s12, s13, s14, s15, s16, s17, s18, s19⟩
             go_simp
             with_reducible rfl
            rotate_left
            ·simp only [Act.put, List.setIfInBounds_toArray, List.set_cons_zero, List.set_cons_succ, i64_w, i32_w]
             rfl
            refine pure_ (i := 12) (N := some 53) (v := ?_) (a' := ?_) #[true, true, true, true, true, true, true, true, true, true, true, true, true, false, false, false, false, false, false, false, false, false, false, false, false, false, false, false, false, false, false, false] rfl rfl (any_of HT_.out (by kernel_rfl)) (fun _ _ _ h => h) (Or.inl ⟨by rfl, ?_⟩) ?_ ?_
            rotate_left
            ·intro w'
             go_simp
             with_reducible rfl
            rotate_left
            ·simp only [Act.put, List.setIfInBounds_toArray, List.set_cons_zero, List.set_cons_succ, i64_w, i32_w]
             rfl
            refine pure_ (i := 13) (N := some 54) (v := ?_) (a' := ?_) #[true, true, true, true, true, true, true, true, true, true, true, true, true, true, false, false, false, false, false, false, false, false, false, false, false, false, false, false, false, false, false, false] rfl rfl (any_of HT_.out (by kernel_rfl)) (fun _ _ _ h => h) (Or.inl ⟨by rfl, ?_⟩) ?_ ?_
            rotate_left
            ·intro w'
             go_simp
             with_reducible rfl
            rotate_left
            ·simp only [Act.put, List.setIfInBounds_toArray, List.set_cons_zero, List.set_cons_succ, i64_w, i32_w]
             rfl
            refine take_ (i := 14) (N := some 55) (v := ?_) (a' := ?_) #[true, true, true, true, true, true, true, true, true, true, true, true, true, true, true, false, false, false, false, false, false, false, false, false, false, false, false, false, false, false, false, false] rfl rfl (take_ofW HT_.out HW_.out (by kernel_rfl)) (fun _ _ _ h => h) (Or.inl ⟨by rfl, ?_⟩) hHeld ?_ ?_
            rotate_left
            ·rintro w' ⟨s0, s1, s2, s3, s4, s5, s6, s7, s8, s9, s10, s11, s12, s13, s14, s15, s16, s17, s18, s19⟩
             go_simp
             with_reducible rfl
            rotate_left
            ·simp only [Act.put, List.setIfInBounds_toArray, List.set_cons_zero, List.set_cons_succ, i64_w, i32_w]
             rfl
            refine pure_ (i := 15) (N := some 56) (v := ?_) (a' := ?_) #[true, true, true, true, true, true, true, true, true, true, true, true, true, true, true, true, false, false, false, false, false, false, false, false, false, false, false, false, false, false, false, false] rfl rfl (any_of HT_.out (by kernel_rfl)) (fun _ _ _ h => h) (Or.inl ⟨by rfl, ?_⟩) ?_ ?_
            rotate_left
            ·intro w'
             go_simp
             with_reducible rfl
            rotate_left
            ·simp only [Act.put, List.setIfInBounds_toArray, List.set_cons_zero, List.set_cons_succ, i64_w, i32_w]
             rfl
            refine pure_ (i := 16) (N := some 57) (v := ?_) (a' := ?_) #[true, true, true, true, true, true, true, true, true, true, true, true, true, true, true, true, true, false, false, false, false, false, false, false, false, false, false, false, false, false, false, false] rfl rfl (any_of HT_.out (by kernel_rfl)) (fun _ _ _ h => h) (Or.inl ⟨by rfl, ?_⟩) ?_ ?_
            rotate_left
            ·intro w'
             go_simp
             with_reducible rfl
            rotate_left
            ·simp only [Act.put, List.setIfInBounds_toArray, List.set_cons_zero, List.set_cons_succ, i64_w, i32_w]
             rfl
            refine pure_ (i := 17) (N := some 58) (v := ?_) (a' := ?_) #[true, true, true, true, true, true, true, true, true, true, true, true, true, true, true, true, true, true, false, false, false, false, false, false, false, false, false, false, false, false, false, false] rfl rfl (any_of HT_.out (by kernel_rfl)) (fun _ _ _ h => h) (Or.inl ⟨by rfl, ?_⟩) ?_ ?_
            rotate_left
            ·intro w'
             go_simp
             with_reducible rfl
            rotate_left
            ·simp only [Act.put, List.setIfInBounds_toArray, List.set_cons_zero, List.set_cons_succ, i64_w, i32_w]
             rfl
            refine pure_ (i := 18) (N := some 59) (v := ?_) (a' := ?_) #[true, true, true, true, true, true, true, true, true, true, true, true, true, true, true, true, true, true, true, false, false, false, false, false, false, false, false, false, false, false, false, false] rfl rfl (any_of HT_.out (by kernel_rfl)) (fun _ _ _ h => h) (Or.inl ⟨by rfl, ?_⟩) ?_ ?_
            rotate_left
            ·intro w'
             go_simp
             with_reducible rfl
            rotate_left
            ·simp only [Act.put, List.setIfInBounds_toArray, List.set_cons_zero, List.set_cons_succ, i64_w, i32_w]
             rfl
            refine pure_ (i := 20) (N := some 61) (v := ?_) (a' := ?_) #[true, true, true, true, true, true, true, true, true, true, true, true, true, true, true, true, true, true, true, false, true, false, false, false, false, false, false, false, false, false, false, false] rfl rfl (any_of HT_.out (by kernel_rfl)) (fun _ _ _ h => h) (Or.inl ⟨by rfl, ?_⟩) ?_ ?_
            rotate_left
            ·intro w'
             go_simp
             with_reducible rfl
            rotate_left
            ·simp only [Act.put, List.setIfInBounds_toArray, List.set_cons_zero, List.set_cons_succ, i64_w, i32_w]
             rfl
            refine pure_ (i := 24) (N := some 65) (v := ?_) (a' := ?_) #[true, true, true, true, true, true, true, true, true, true, true, true, true, true, true, true, true, true, true, false, true, false, false, false, true, false, false, false, false, false, false, false] rfl rfl (any_of HT_.out (by kernel_rfl)) (fun _ _ _ h => h) (Or.inl ⟨by rfl, ?_⟩) ?_ ?_
            rotate_left
            ·intro w'
             go_simp
             with_reducible rfl
            rotate_left
            ·simp only [Act.put, List.setIfInBounds_toArray, List.set_cons_zero, List.set_cons_succ, i64_w, i32_w]
             rfl
            refine pure_ (i := 26) (N := some 67) (v := ?_) (a' := ?_) #[true, true, true, true, true, true, true, true, true, true, true, true, true, true, true, true, true, true, true, false, true, false, false, false, true, false, true, false, false, false, false, false] rfl rfl (any_of HT_.out (by kernel_rfl)) (fun _ _ _ h => h) (Or.inl ⟨by rfl, ?_⟩) ?_ ?_
            rotate_left
            ·intro w'
             go_simp
             with_reducible rfl
            rotate_left
            ·simp only [Act.put, List.setIfInBounds_toArray, List.set_cons_zero, List.set_cons_succ, i64_w, i32_w]
             rfl
            refine take_ (i := 19) (N := some 60) (v := ?_) (a' := ?_) #[true, true, true, true, true, true, true, true, true, true, true, true, true, true, true, true, true, true, true, true, true, false, false, false, true, false, true, false, false, false, false, false] rfl rfl (take_ofW HT_.out HW_.out (by kernel_rfl)) (fun _ _ _ h => h) (Or.inl ⟨by rfl, ?_⟩) hHeld ?_ ?_
            rotate_left
            ·rintro w' ⟨s0, s1, s2, s3, s4, s5, s6, s7, s8, s9, s10, s11, s12, s13, s14, s15, s16, s17, s18, s19⟩
             go_simp
             with_reducible rfl
            rotate_left
            ·simp only [Act.put, List.setIfInBounds_toArray, List.set_cons_zero, List.set_cons_succ, i64_w, i32_w]
             rfl
            refine pure_ (i := 21) (N := some 62) (v := ?_) (a' := ?_) #[true, true, true, true, true, true, true, true, true, true, true, true, true, true, true, true, true, true, true, true, true, true, false, false, true, false, true, false, false, false, false, false] rfl rfl (any_of HT_.out (by kernel_rfl)) (fun _ _ _ h => h) (Or.inl ⟨by rfl, ?_⟩) ?_ ?_
            rotate_left
            ·intro w'
             go_simp
             with_reducible rfl
            rotate_left
            ·simp only [Act.put, List.setIfInBounds_toArray, List.set_cons_zero, List.set_cons_succ, i64_w, i32_w]
             rfl
            refine pure_ (i := 22) (N := some 63) (v := ?_) (a' := ?_) #[true, true, true, true, true, true, true, true, true, true, true, true, true, true, true, true, true, true, true, true, true, true, true, false, true, false, true, false, false, false, false, false] rfl rfl (any_of HT_.out (by kernel_rfl)) (fun _ _ _ h => h) (Or.inl ⟨by rfl, ?_⟩) ?_ ?_
            rotate_left
            ·intro w'
             go_simp
             with_reducible rfl
            rotate_left
            ·simp only [Act.put, List.setIfInBounds_toArray, List.set_cons_zero, List.set_cons_succ, i64_w, i32_w]
             rfl
            refine take_ (i := 23) (N := some 64) (v := ?_) (a' := ?_) #[true, true, true, true, true, true, true, true, true, true, true, true, true, true, true, true, true, true, true, true, true, true, true, true, true, false, true, false, false, false, false, false] rfl rfl (take_ofW HT_.out HW_.out (by kernel_rfl)) (fun _ _ _ h => h) (Or.inl ⟨by rfl, ?_⟩) hHeld ?_ ?_
            rotate_left
            ·rintro w' ⟨s0, s1, s2, s3, s4, s5, s6, s7, s8, s9, s10, s11, s12, s13, s14, s15, s16, s17, s18, s19⟩
             go_simp
             with_reducible rfl
            rotate_left
            ·simp only [Act.put, List.setIfInBounds_toArray, List.set_cons_zero, List.set_cons_succ, i64_w, i32_w]
             rfl
            refine take_ (i := 25) (N := some 66) (v := ?_) (a' := ?_) #[true, true, true, true, true, true, true, true, true, true, true, true, true, true, true, true, true, true, true, true, true, true, true, true, true, true, true, false, false, false, false, false] rfl rfl (take_ofW HT_.out HW_.out (by kernel_rfl)) (fun _ _ _ h => h) (Or.inl ⟨by rfl, ?_⟩) hHeld ?_ ?_
            rotate_left
            ·rintro w' ⟨s0, s1, s2, s3, s4, s5, s6, s7, s8, s9, s10, s11, s12, s13, s14, s15, s16, s17, s18, s19⟩
             go_simp
             with_reducible rfl
            rotate_left
            ·simp only [Act.put, List.setIfInBounds_toArray, List.set_cons_zero, List.set_cons_succ, i64_w, i32_w]
             rfl
            refine pure_ (i := 27) (N := some 68) (v := ?_) (a' := ?_) #[true, true, true, true, true, true, true, true, true, true, true, true, true, true, true, true, true, true, true, true, true, true, true, true, true, true, true, true, false, false, false, false] rfl rfl (any_of HT_.out (by kernel_rfl)) (fun _ _ _ h => h) (Or.inl ⟨by rfl, ?_⟩) ?_ ?_
            rotate_left
            ·intro w'
             go_simp
             with_reducible rfl
            rotate_left
            ·simp only [Act.put, List.setIfInBounds_toArray, List.set_cons_zero, List.set_cons_succ, i64_w, i32_w]
             rfl
            refine pure_ (i := 28) (N := some 69) (v := ?_) (a' := ?_) #[true, true, true, true, true, true, true, true, true, true, true, true, true, true, true, true, true, true, true, true, true, true, true, true, true, true, true, true, true, false, false, false] rfl rfl (any_of HT_.out (by kernel_rfl)) (fun _ _ _ h => h) (Or.inl ⟨by rfl, ?_⟩) ?_ ?_
            rotate_left
            ·intro w'
             go_simp
             with_reducible rfl
            rotate_left
            ·simp only [Act.put, List.setIfInBounds_toArray, List.set_cons_zero, List.set_cons_succ, i64_w, i32_w]
             rfl
            refine take_ (i := 29) (N := some 70) (v := ?_) (a' := ?_) #[true, true, true, true, true, true, true, true, true, true, true, true, true, true, true, true, true, true, true, true, true, true, true, true, true, true, true, true, true, true, false, false] rfl rfl (take_ofW HT_.out HW_.out (by kernel_rfl)) (fun _ _ _ h => h) (Or.inl ⟨by rfl, ?_⟩) hHeld ?_ ?_
            rotate_left
            ·rintro w' ⟨s0, s1, s2, s3, s4, s5, s6, s7, s8, s9, s10, s11, s12, s13, s14, s15, s16, s17, s18, s19⟩
             go_simp
             with_reducible rfl
            rotate_left
            ·simp only [Act.put, List.setIfInBounds_toArray, List.set_cons_zero, List.set_cons_succ, i64_w, i32_w]
             rfl
            refine pure_ (i := 30) (N := some 71) (v := ?_) (a' := ?_) #[true, true, true, true, true, true, true, true, true, true, true, true, true, true, true, true, true, true, true, true, true, true, true, true, true, true, true, true, true, true, true, false] rfl rfl (any_of HT_.out (by kernel_rfl)) (fun _ _ _ h => h) (Or.inl ⟨by rfl, ?_⟩) ?_ ?_
            rotate_left
            ·intro w'
             go_simp
             with_reducible rfl
            rotate_left
            ·simp only [Act.put, List.setIfInBounds_toArray, List.set_cons_zero, List.set_cons_succ, i64_w, i32_w]
             rfl
            refine pure_ (i := 31) (N := some 72) (v := ?_) (a' := ?_) #[true, true, true, true, true, true, true, true, true, true, true, true, true, true, true, true, true, true, true, true, true, true, true, true, true, true, true, true, true, true, true, true] rfl rfl (any_of HT_.out (by kernel_rfl)) (fun _ _ _ h => h) (Or.inl ⟨by rfl, ?_⟩) ?_ ?_
            rotate_left
            ·intro w'
             go_simp
             with_reducible rfl
            rotate_left
            ·simp only [Act.put, List.setIfInBounds_toArray, List.set_cons_zero, List.set_cons_succ, i64_w, i32_w]
             rfl
            refine done_ (done_of HT_.out (by kernel_rfl)) ?_
            try go_wp2
            go_ret
            exact ⟨by first | rfl | (simp [errW_none, errW_some] <;> rfl) | (simp [*, errW_none, errW_some] <;> rfl), by repeat (first | (with_reducible first | exact HB.out | apply below_alloc | apply pw_below_drewN | apply below_drew1 | refine below_set ?_ GE153.out | refine below_set ?_ GE154.out) | exact HB.out)⟩
           ·rw [if_neg c20] at H
            have c20b0 : (((rd_T55 l0_0 x5_2).f1) != ((rd_T55 l1_0 x5_2).f1)) = false := by simpa using c20
            (try (have c20b1 : decide (((rd_T55 l0_0 x5_2).f1) = ((rd_T55 l1_0 x5_2).f1)) = true := by simpa using c20))
            (try (have c20b2 : (((rd_T55 l0_0 x5_2).f1) == ((rd_T55 l1_0 x5_2).f1)) = true := by simpa using c20))
            clear c20
            have H' := Aside0.mk H
            clear H
            have hnb26 := NB153_154.out
            have hnc26 := NB154_153.out
            have hcz27_0 : wr.cell? ⟨gb153, 0, none⟩ = some (.slice A0_0 l0_0.length c0_0) := (blk_cell BK153.out 0).trans rfl
            have hcz27_1 : wr.cell? ⟨gb153, 1, none⟩ = some (.int .i64 a0_1) := (blk_cell BK153.out 1).trans rfl
            have hfz27_0 := blk_frozen BK153.out 0
            have hfz27_1 := blk_frozen BK153.out 1
            try go_wp2
            have n0_ := Aside0.mk (blk_drew BK153.out)
            have n1_ := Aside0.mk (blk_drew BK154.out)
            have n2_ := Aside0.mk (below_drew1 HB.out)
            clear BK153
            clear BK154
            clear HB
            have BK153 := n0_
            have BK154 := n1_
            have HB := n2_
            clear n0_ n1_ n2_
            have p155 : 0 ≤ (x5_2 : Int) := of_decide_eq_true (by first | (with_reducible assumption) | assumption)
            have q155 : x5_2 < (l0_0.length : Int) := of_decide_eq_true (by first | (with_reducible assumption) | assumption)
            obtain ⟨ad155, A155_3, c155_3, e155, hx155_0, hx155_1, hx155_2, hx155_3, hl155_3, hi155_3⟩ := at_T55 HR0_0.out x5_2 p155 q155
            have hw155_3 := hx155_3
            have hw155_2 := hx155_2
            have hw155_1 := hx155_1
            have hw155_0 := hx155_0
            cases e155
            replace hx155_0 := (HB.out.cell (World.block_lt_of_cell? w _ hx155_0)).trans hx155_0
            replace hx155_1 := (HB.out.cell (World.block_lt_of_cell? w _ hx155_1)).trans hx155_1
            replace hx155_2 := (HB.out.cell (World.block_lt_of_cell? w _ hx155_2)).trans hx155_2
            replace hx155_3 := (HB.out.cell (World.block_lt_of_cell? w _ hx155_3)).trans hx155_3
            have HR155_3 := Aside0.mk hi155_3
            have HC155_3 := Aside0.mk hl155_3
            clear hi155_3 hl155_3
            replace p155 := eq_true p155
            replace q155 := eq_true q155
            have p156 : 0 ≤ (x5_2 : Int) := of_decide_eq_true (by first | (with_reducible assumption) | assumption)
            have q156 : x5_2 < (l1_0.length : Int) := of_decide_eq_true (by first | (with_reducible assumption) | assumption)
            obtain ⟨ad156, A156_3, c156_3, e156, hx156_0, hx156_1, hx156_2, hx156_3, hl156_3, hi156_3⟩ := at_T55 HR1_0.out x5_2 p156 q156
            have hw156_3 := hx156_3
            have hw156_2 := hx156_2
            have hw156_1 := hx156_1
            have hw156_0 := hx156_0
            cases e156
            replace hx156_0 := (HB.out.cell (World.block_lt_of_cell? w _ hx156_0)).trans hx156_0
            replace hx156_1 := (HB.out.cell (World.block_lt_of_cell? w _ hx156_1)).trans hx156_1
            replace hx156_2 := (HB.out.cell (World.block_lt_of_cell? w _ hx156_2)).trans hx156_2
            replace hx156_3 := (HB.out.cell (World.block_lt_of_cell? w _ hx156_3)).trans hx156_3
            have HR156_3 := Aside0.mk hi156_3
            have HC156_3 := Aside0.mk hl156_3
            clear hi156_3 hl156_3
            replace p156 := eq_true p156
            replace q156 := eq_true q156
            refine start_ (n := 14) (S := fun w' => w'.cell? ⟨gb153, 0, none⟩ = some (.slice (some ad155) l0_0.length c0_0) ∧ w'.cell? ⟨gb153, 1, none⟩ = some (.int .i64 a0_1) ∧ w'.cell? ⟨gb154, 0, none⟩ = some (.slice (some ad156) l1_0.length c1_0) ∧ w'.cell? ⟨gb154, 1, none⟩ = some (.int .i64 a1_1) ∧ w'.cell? (ad155.add ((x5_2).toNat * 4)) = some (.int .i64 ((rd_T55 l0_0 x5_2).f0)) ∧ w'.cell? ⟨(ad155.add ((x5_2).toNat * 4)).block, (ad155.add ((x5_2).toNat * 4)).off + 1, none⟩ = some (.bool ((rd_T55 l0_0 x5_2).f1)) ∧ w'.cell? ⟨(ad155.add ((x5_2).toNat * 4)).block, (ad155.add ((x5_2).toNat * 4)).off + 2, none⟩ = some (.bool ((rd_T55 l0_0 x5_2).f2.f0)) ∧ w'.cell? ⟨(ad155.add ((x5_2).toNat * 4)).block, (ad155.add ((x5_2).toNat * 4)).off + 3, none⟩ = some (.slice A155_3 ((rd_T55 l0_0 x5_2).f2.f1).length c155_3) ∧ w'.cell? (ad156.add ((x5_2).toNat * 4)) = some (.int .i64 ((rd_T55 l1_0 x5_2).f0)) ∧ w'.cell? ⟨(ad156.add ((x5_2).toNat * 4)).block, (ad156.add ((x5_2).toNat * 4)).off + 1, none⟩ = some (.bool ((rd_T55 l1_0 x5_2).f1)) ∧ w'.cell? ⟨(ad156.add ((x5_2).toNat * 4)).block, (ad156.add ((x5_2).toNat * 4)).off + 2, none⟩ = some (.bool ((rd_T55 l1_0 x5_2).f2.f0)) ∧ w'.cell? ⟨(ad156.add ((x5_2).toNat * 4)).block, (ad156.add ((x5_2).toNat * 4)).off + 3, none⟩ = some (.slice A156_3 ((rd_T55 l1_0 x5_2).f2.f1).length c156_3)) (ds := []) #[false, false, false, false, false, false, false, false, false, false, false, false, false, false] (by kernel_rfl) rfl rfl ⟨(blk_cell BK153.out 0).trans rfl, (blk_cell BK153.out 1).trans rfl, (blk_cell BK154.out 0).trans rfl, (blk_cell BK154.out 1).trans rfl, ((HB.out.cell (World.block_lt_of_cell? w _ hw155_0)).trans hw155_0), ((HB.out.cell (World.block_lt_of_cell? w _ hw155_1)).trans hw155_1), ((HB.out.cell (World.block_lt_of_cell? w _ hw155_2)).trans hw155_2), ((HB.out.cell (World.block_lt_of_cell? w _ hw155_3)).trans hw155_3), ((HB.out.cell (World.block_lt_of_cell? w _ hw156_0)).trans hw156_0), ((HB.out.cell (World.block_lt_of_cell? w _ hw156_1)).trans hw156_1), ((HB.out.cell (World.block_lt_of_cell? w _ hw156_2)).trans hw156_2), ((HB.out.cell (World.block_lt_of_cell? w _ hw156_3)).trans hw156_3)⟩ (fun hHeld => ?_); refine with_tabW assartref05_Same.tab6 assartref05_Same.bits6 (fun HT_ HW_ => ?_)
            generalize wr.drew = w28 at BK153 BK154 HB HR155_3 HR156_3 hx155_0 hx155_1 hx155_2 hx155_3 hx156_0 hx156_1 hx156_2 hx156_3 hHeld ⊢
            refine pure_ (i := 0) (N := some 28) (v := ?_) (a' := ?_) #[true, false, false, false, false, false, false, false, false, false, false, false, false, false] rfl rfl (any_of HT_.out (by kernel_rfl)) (fun _ _ _ h => h) (Or.inl ⟨by rfl, ?_⟩) ?_ ?_
            rotate_left
            ·intro w'
             go_simp
             with_reducible rfl
            rotate_left
            ·simp only [Act.put, List.setIfInBounds_toArray, List.set_cons_zero, List.set_cons_succ, i64_w, i32_w]
             rfl
            refine pure_ (i := 2) (N := some 30) (v := ?_) (a' := ?_) #[true, false, true, false, false, false, false, false, false, false, false, false, false, false] rfl rfl (any_of HT_.out (by kernel_rfl)) (fun _ _ _ h => h) (Or.inl ⟨by rfl, ?_⟩) ?_ ?_
            rotate_left
            ·intro w'
             go_simp
             with_reducible rfl
            rotate_left
            ·simp only [Act.put, List.setIfInBounds_toArray, List.set_cons_zero, List.set_cons_succ, i64_w, i32_w]
             rfl
            refine pure_ (i := 6) (N := some 34) (v := ?_) (a' := ?_) #[true, false, true, false, false, false, true, false, false, false, false, false, false, false] rfl rfl (any_of HT_.out (by kernel_rfl)) (fun _ _ _ h => h) (Or.inl ⟨by rfl, ?_⟩) ?_ ?_
            rotate_left
            ·intro w'
             go_simp
             with_reducible rfl
            rotate_left
            ·simp only [Act.put, List.setIfInBounds_toArray, List.set_cons_zero, List.set_cons_succ, i64_w, i32_w]
             rfl
            refine pure_ (i := 8) (N := some 36) (v := ?_) (a' := ?_) #[true, false, true, false, false, false, true, false, true, false, false, false, false, false] rfl rfl (any_of HT_.out (by kernel_rfl)) (fun _ _ _ h => h) (Or.inl ⟨by rfl, ?_⟩) ?_ ?_
            rotate_left
            ·intro w'
             go_simp
             with_reducible rfl
            rotate_left
            ·simp only [Act.put, List.setIfInBounds_toArray, List.set_cons_zero, List.set_cons_succ, i64_w, i32_w]
             rfl
            refine take_ (i := 1) (N := some 29) (v := ?_) (a' := ?_) #[true, true, true, false, false, false, true, false, true, false, false, false, false, false] rfl rfl (take_ofW HT_.out HW_.out (by kernel_rfl)) (fun _ _ _ h => h) (Or.inl ⟨by rfl, ?_⟩) hHeld ?_ ?_
            rotate_left
            ·rintro w' ⟨s0, s1, s2, s3, s4, s5, s6, s7, s8, s9, s10, s11⟩
             go_simp
             with_reducible rfl
            rotate_left
            ·simp only [Act.put, List.setIfInBounds_toArray, List.set_cons_zero, List.set_cons_succ, i64_w, i32_w]
             rfl
            refine pure_ (i := 3) (N := some 31) (v := ?_) (a' := ?_) #[true, true, true, true, false, false, true, false, true, false, false, false, false, false] rfl rfl (any_of HT_.out (by kernel_rfl)) (fun _ _ _ h => h) (Or.inl ⟨by rfl, ?_⟩) ?_ ?_
            rotate_left
            ·intro w'
             go_simp
             with_reducible rfl
            rotate_left
            ·simp only [Act.put, List.setIfInBounds_toArray, List.set_cons_zero, List.set_cons_succ, i64_w, i32_w]
             rfl
            refine pure_ (i := 4) (N := some 32) (v := ?_) (a' := ?_) #[true, true, true, true, true, false, true, false, true, false, false, false, false, false] rfl rfl (any_of HT_.out (by kernel_rfl)) (fun _ _ _ h => h) (Or.inl ⟨by rfl, ?_⟩) ?_ ?_
            rotate_left
            ·intro w'
             go_simp
             with_reducible rfl
            rotate_left
            ·simp only [Act.put, List.setIfInBounds_toArray, List.set_cons_zero, List.set_cons_succ, i64_w, i32_w]
             rfl
            refine take_ (i := 5) (N := some 33) (v := ?_) (a' := ?_) #[true, true, true, true, true, true, true, false, true, false, false, false, false, false] rfl rfl (take_ofW HT_.out HW_.out (by kernel_rfl)) (fun _ _ _ h => h) (Or.inl ⟨by rfl, ?_⟩) hHeld ?_ ?_
            rotate_left
            ·rintro w' ⟨s0, s1, s2, s3, s4, s5, s6, s7, s8, s9, s10, s11⟩
             go_simp
             with_reducible rfl
            rotate_left
            ·simp only [Act.put, List.setIfInBounds_toArray, List.set_cons_zero, List.set_cons_succ, i64_w, i32_w]
             rfl
            refine take_ (i := 7) (N := some 35) (v := ?_) (a' := ?_) #[true, true, true, true, true, true, true, true, true, false, false, false, false, false] rfl rfl (take_ofW HT_.out HW_.out (by kernel_rfl)) (fun _ _ _ h => h) (Or.inl ⟨by rfl, ?_⟩) hHeld ?_ ?_
            rotate_left
            ·rintro w' ⟨s0, s1, s2, s3, s4, s5, s6, s7, s8, s9, s10, s11⟩
             go_simp
             with_reducible rfl
            rotate_left
            ·simp only [Act.put, List.setIfInBounds_toArray, List.set_cons_zero, List.set_cons_succ, i64_w, i32_w]
             rfl
            refine pure_ (i := 9) (N := some 37) (v := ?_) (a' := ?_) #[true, true, true, true, true, true, true, true, true, true, false, false, false, false] rfl rfl (any_of HT_.out (by kernel_rfl)) (fun _ _ _ h => h) (Or.inl ⟨by rfl, ?_⟩) ?_ ?_
            rotate_left
            ·intro w'
             go_simp
             with_reducible rfl
            rotate_left
            ·simp only [Act.put, List.setIfInBounds_toArray, List.set_cons_zero, List.set_cons_succ, i64_w, i32_w]
             rfl
            refine pure_ (i := 10) (N := some 38) (v := ?_) (a' := ?_) #[true, true, true, true, true, true, true, true, true, true, true, false, false, false] rfl rfl (any_of HT_.out (by kernel_rfl)) (fun _ _ _ h => h) (Or.inl ⟨by rfl, ?_⟩) ?_ ?_
            rotate_left
            ·intro w'
             go_simp
             with_reducible rfl
            rotate_left
            ·simp only [Act.put, List.setIfInBounds_toArray, List.set_cons_zero, List.set_cons_succ, i64_w, i32_w]
             rfl
            refine take_ (i := 11) (N := some 39) (v := ?_) (a' := ?_) #[true, true, true, true, true, true, true, true, true, true, true, true, false, false] rfl rfl (take_ofW HT_.out HW_.out (by kernel_rfl)) (fun _ _ _ h => h) (Or.inl ⟨by rfl, ?_⟩) hHeld ?_ ?_
            rotate_left
            ·rintro w' ⟨s0, s1, s2, s3, s4, s5, s6, s7, s8, s9, s10, s11⟩
             go_simp
             with_reducible rfl
            rotate_left
            ·simp only [Act.put, List.setIfInBounds_toArray, List.set_cons_zero, List.set_cons_succ, i64_w, i32_w]
             rfl
            refine one_ (i := 12) (N := some 40) #[true, true, true, true, true, true, true, true, true, true, true, true, true, false] rfl rfl (one_of HT_.out (by kernel_rfl)) (by decide) (fun K hK => ?_)
            refine goes_ Try.func53 (by kernel_rfl) rfl #[.agg #[.bool ((rd_T55 l0_0 x5_2).f2.f0), .slice A155_3 ((rd_T55 l0_0 x5_2).f2.f1).length c155_3], .agg #[.bool ((rd_T55 l1_0 x5_2).f2.f0), .slice A156_3 ((rd_T55 l1_0 x5_2).f2.f1).length c156_3]] (by rfl) rfl rfl (by (try simp only [List.map_toArray, List.map_cons, List.map_nil]); first | done | rfl | (simp only [List.length_drop, List.length_take]; rfl)) ?_
            with_reducible refine (assartref04_Same.calls k2 ((rd_T55 l0_0 x5_2).f2.f0) _ _ ((rd_T55 l0_0 x5_2).f2.f1) ((rd_T55 l1_0 x5_2).f2.f0) _ _ ((rd_T55 l1_0 x5_2).f2.f1) true _ ?side1 ?side2 ?side3 ?side4 A17.out).mono ?_
            (case side1 => repeat (first | exact (Kd.C_below HR155_3.out HB.out) | (with_reducible refine Kd.C_alloc ?_ _) | (with_reducible refine Kd.C_drewN ?_ _) | (with_reducible refine Kd.C_drew ?_)))
            (case side2 => exact HC155_3.out)
            (case side3 => repeat (first | exact (Kd.C_below HR156_3.out HB.out) | (with_reducible refine Kd.C_alloc ?_ _) | (with_reducible refine Kd.C_drewN ?_ _) | (with_reducible refine Kd.C_drew ?_)))
            (case side4 => exact HC156_3.out)
            rintro e w29 ⟨rfl, hb⟩
            refine ⟨_, rfl, ?_⟩
            have n0_ := Aside0.mk (blk_below (g := gb153) (o := .cells #[.slice (some ad155) l0_0.length c0_0, .int .i64 a0_1] 24 (0, 0)) (by (with_reducible repeat (first | refine blk_drewN ?_ _ | refine blk_drew ?_ | refine blk_alloc ?_ _)); exact BK153.out) hb)
            have n1_ := Aside0.mk (blk_below (g := gb154) (o := .cells #[.slice (some ad156) l1_0.length c1_0, .int .i64 a1_1] 24 (0, 0)) (by (with_reducible repeat (first | refine blk_drewN ?_ _ | refine blk_drew ?_ | refine blk_alloc ?_ _)); exact BK154.out) hb)
            have n2_ := Aside0.mk (below_step (by repeat (first | (with_reducible first | exact HB.out | apply below_alloc | apply pw_below_drewN | apply below_drew1 | refine below_set ?_ GE153.out | refine below_set ?_ GE154.out) | exact HB.out)) hb)
            clear BK153
            clear BK154
            clear HB
            have BK153 := n0_
            have BK154 := n1_
            have HB := n2_
            clear n0_ n1_ n2_
            (try clear hb)
            (try clear hb2)
            (try clear hk)
            (try clear hi)
            refine hK.out _ _ ⟨(blk_cell BK153.out 0).trans rfl, (blk_cell BK153.out 1).trans rfl, (blk_cell BK154.out 0).trans rfl, (blk_cell BK154.out 1).trans rfl, ((HB.out.cell (World.block_lt_of_cell? w _ hw155_0)).trans hw155_0), ((HB.out.cell (World.block_lt_of_cell? w _ hw155_1)).trans hw155_1), ((HB.out.cell (World.block_lt_of_cell? w _ hw155_2)).trans hw155_2), ((HB.out.cell (World.block_lt_of_cell? w _ hw155_3)).trans hw155_3), ((HB.out.cell (World.block_lt_of_cell? w _ hw156_0)).trans hw156_0), ((HB.out.cell (World.block_lt_of_cell? w _ hw156_1)).trans hw156_1), ((HB.out.cell (World.block_lt_of_cell? w _ hw156_2)).trans hw156_2), ((HB.out.cell (World.block_lt_of_cell? w _ hw156_3)).trans hw156_3)⟩ (fun hHeld => ?_)
            clear hK K
            refine norm_ (a' := ?_) ?_ ?_
            rotate_left
            ·show Act.put _ (some 40) _ = _
             simp only [Act.put, List.setIfInBounds_toArray, List.set_cons_zero, List.set_cons_succ, i64_w, i32_w]
             rfl
            refine pure_ (i := 13) (N := some 6) (v := ?_) (a' := ?_) #[true, true, true, true, true, true, true, true, true, true, true, true, true, true] rfl rfl (any_of HT_.out (by kernel_rfl)) (fun _ _ _ h => h) (Or.inl ⟨by rfl, ?_⟩) ?_ ?_
            rotate_left
            ·intro w'
             go_simp
             with_reducible rfl
            rotate_left
            ·simp only [Act.put, List.setIfInBounds_toArray, List.set_cons_zero, List.set_cons_succ, i64_w, i32_w]
             rfl
            refine done_ (done_of HT_.out (by kernel_rfl)) ?_
            try go_wp2
            have n0_ := Aside0.mk (blk_drew BK153.out)
            have n1_ := Aside0.mk (blk_drew BK154.out)
            have n2_ := Aside0.mk (below_drew1 HB.out)
            clear BK153
            clear BK154
            clear HB
            have BK153 := n0_
            have BK154 := n1_
            have HB := n2_
            clear n0_ n1_ n2_
            have p158 : 0 ≤ (x5_2 : Int) := of_decide_eq_true (by first | (with_reducible assumption) | assumption)
            have q158 : x5_2 < (l0_0.length : Int) := of_decide_eq_true (by first | (with_reducible assumption) | assumption)
            obtain ⟨ad158, A158_3, c158_3, e158, hx158_0, hx158_1, hx158_2, hx158_3, hl158_3, hi158_3⟩ := at_T55 HR0_0.out x5_2 p158 q158
            have hw158_3 := hx158_3
            have hw158_2 := hx158_2
            have hw158_1 := hx158_1
            have hw158_0 := hx158_0
            obtain rfl : ad155 = ad158 := (by injection e158)
            replace hx158_0 := (HB.out.cell (World.block_lt_of_cell? w _ hx158_0)).trans hx158_0
            replace hx158_1 := (HB.out.cell (World.block_lt_of_cell? w _ hx158_1)).trans hx158_1
            replace hx158_2 := (HB.out.cell (World.block_lt_of_cell? w _ hx158_2)).trans hx158_2
            replace hx158_3 := (HB.out.cell (World.block_lt_of_cell? w _ hx158_3)).trans hx158_3
            have HR158_3 := Aside0.mk hi158_3
            have HC158_3 := Aside0.mk hl158_3
            clear hi158_3 hl158_3
            replace p158 := eq_true p158
            replace q158 := eq_true q158
            have p159 : 0 ≤ (x5_2 : Int) := of_decide_eq_true (by first | (with_reducible assumption) | assumption)
            have q159 : x5_2 < (l1_0.length : Int) := of_decide_eq_true (by first | (with_reducible assumption) | assumption)
            obtain ⟨ad159, A159_3, c159_3, e159, hx159_0, hx159_1, hx159_2, hx159_3, hl159_3, hi159_3⟩ := at_T55 HR1_0.out x5_2 p159 q159
            have hw159_3 := hx159_3
            have hw159_2 := hx159_2
            have hw159_1 := hx159_1
            have hw159_0 := hx159_0
            obtain rfl : ad156 = ad159 := (by injection e159)
            replace hx159_0 := (HB.out.cell (World.block_lt_of_cell? w _ hx159_0)).trans hx159_0
            replace hx159_1 := (HB.out.cell (World.block_lt_of_cell? w _ hx159_1)).trans hx159_1
            replace hx159_2 := (HB.out.cell (World.block_lt_of_cell? w _ hx159_2)).trans hx159_2
            replace hx159_3 := (HB.out.cell (World.block_lt_of_cell? w _ hx159_3)).trans hx159_3
            have HR159_3 := Aside0.mk hi159_3
            have HC159_3 := Aside0.mk hl159_3
            clear hi159_3 hl159_3
            replace p159 := eq_true p159
            replace q159 := eq_true q159
            have p160 : 0 ≤ (x5_2 : Int) := of_decide_eq_true (by first | (with_reducible assumption) | assumption)
            have q160 : x5_2 < (l0_0.length : Int) := of_decide_eq_true (by first | (with_reducible assumption) | assumption)
            obtain ⟨ad160, A160_3, c160_3, e160, hx160_0, hx160_1, hx160_2, hx160_3, hl160_3, hi160_3⟩ := at_T55 HR0_0.out x5_2 p160 q160
            have hw160_3 := hx160_3
            have hw160_2 := hx160_2
            have hw160_1 := hx160_1
            have hw160_0 := hx160_0
            obtain rfl : ad155 = ad160 := (by injection e160)
            replace hx160_0 := (HB.out.cell (World.block_lt_of_cell? w _ hx160_0)).trans hx160_0
            replace hx160_1 := (HB.out.cell (World.block_lt_of_cell? w _ hx160_1)).trans hx160_1
            replace hx160_2 := (HB.out.cell (World.block_lt_of_cell? w _ hx160_2)).trans hx160_2
            replace hx160_3 := (HB.out.cell (World.block_lt_of_cell? w _ hx160_3)).trans hx160_3
            have HR160_3 := Aside0.mk hi160_3
            have HC160_3 := Aside0.mk hl160_3
            clear hi160_3 hl160_3
            replace p160 := eq_true p160
            replace q160 := eq_true q160
            have ea_ := Option.some.inj (hx158_3.symm.trans hx160_3)
            injection ea_ with ea_ en_ ec_
            subst ea_
            subst ec_
            clear en_
            have p161 : 0 ≤ (x5_2 : Int) := of_decide_eq_true (by first | (with_reducible assumption) | assumption)
            have q161 : x5_2 < (l1_0.length : Int) := of_decide_eq_true (by first | (with_reducible assumption) | assumption)
            obtain ⟨ad161, A161_3, c161_3, e161, hx161_0, hx161_1, hx161_2, hx161_3, hl161_3, hi161_3⟩ := at_T55 HR1_0.out x5_2 p161 q161
            have hw161_3 := hx161_3
            have hw161_2 := hx161_2
            have hw161_1 := hx161_1
            have hw161_0 := hx161_0
            obtain rfl : ad156 = ad161 := (by injection e161)
            replace hx161_0 := (HB.out.cell (World.block_lt_of_cell? w _ hx161_0)).trans hx161_0
            replace hx161_1 := (HB.out.cell (World.block_lt_of_cell? w _ hx161_1)).trans hx161_1
            replace hx161_2 := (HB.out.cell (World.block_lt_of_cell? w _ hx161_2)).trans hx161_2
            replace hx161_3 := (HB.out.cell (World.block_lt_of_cell? w _ hx161_3)).trans hx161_3
            have HR161_3 := Aside0.mk hi161_3
            have HC161_3 := Aside0.mk hl161_3
            clear hi161_3 hl161_3
            replace p161 := eq_true p161
            replace q161 := eq_true q161
            have ea_ := Option.some.inj (hx159_3.symm.trans hx161_3)
            injection ea_ with ea_ en_ ec_
            subst ea_
            subst ec_
            clear en_
            refine start_ (n := 32) (S := fun w' => w'.cell? ⟨gb153, 0, none⟩ = some (.slice (some ad155) l0_0.length c0_0) ∧ w'.cell? ⟨gb153, 1, none⟩ = some (.int .i64 a0_1) ∧ w'.cell? ⟨gb154, 0, none⟩ = some (.slice (some ad156) l1_0.length c1_0) ∧ w'.cell? ⟨gb154, 1, none⟩ = some (.int .i64 a1_1) ∧ w'.cell? (ad155.add ((x5_2).toNat * 4)) = some (.int .i64 ((rd_T55 l0_0 x5_2).f0)) ∧ w'.cell? ⟨(ad155.add ((x5_2).toNat * 4)).block, (ad155.add ((x5_2).toNat * 4)).off + 1, none⟩ = some (.bool ((rd_T55 l0_0 x5_2).f1)) ∧ w'.cell? ⟨(ad155.add ((x5_2).toNat * 4)).block, (ad155.add ((x5_2).toNat * 4)).off + 2, none⟩ = some (.bool ((rd_T55 l0_0 x5_2).f2.f0)) ∧ w'.cell? ⟨(ad155.add ((x5_2).toNat * 4)).block, (ad155.add ((x5_2).toNat * 4)).off + 3, none⟩ = some (.slice A158_3 ((rd_T55 l0_0 x5_2).f2.f1).length c158_3) ∧ w'.cell? (ad156.add ((x5_2).toNat * 4)) = some (.int .i64 ((rd_T55 l1_0 x5_2).f0)) ∧ w'.cell? ⟨(ad156.add ((x5_2).toNat * 4)).block, (ad156.add ((x5_2).toNat * 4)).off + 1, none⟩ = some (.bool ((rd_T55 l1_0 x5_2).f1)) ∧ w'.cell? ⟨(ad156.add ((x5_2).toNat * 4)).block, (ad156.add ((x5_2).toNat * 4)).off + 2, none⟩ = some (.bool ((rd_T55 l1_0 x5_2).f2.f0)) ∧ w'.cell? ⟨(ad156.add ((x5_2).toNat * 4)).block, (ad156.add ((x5_2).toNat * 4)).off + 3, none⟩ = some (.slice A159_3 ((rd_T55 l1_0 x5_2).f2.f1).length c159_3) ∧ w'.cell? (ad155.add ((x5_2).toNat * 4)) = some (.int .i64 ((rd_T55 l0_0 x5_2).f0)) ∧ w'.cell? ⟨(ad155.add ((x5_2).toNat * 4)).block, (ad155.add ((x5_2).toNat * 4)).off + 1, none⟩ = some (.bool ((rd_T55 l0_0 x5_2).f1)) ∧ w'.cell? ⟨(ad155.add ((x5_2).toNat * 4)).block, (ad155.add ((x5_2).toNat * 4)).off + 2, none⟩ = some (.bool ((rd_T55 l0_0 x5_2).f2.f0)) ∧ w'.cell? ⟨(ad155.add ((x5_2).toNat * 4)).block, (ad155.add ((x5_2).toNat * 4)).off + 3, none⟩ = some (.slice A158_3 ((rd_T55 l0_0 x5_2).f2.f1).length c158_3) ∧ w'.cell? (ad156.add ((x5_2).toNat * 4)) = some (.int .i64 ((rd_T55 l1_0 x5_2).f0)) ∧ w'.cell? ⟨(ad156.add ((x5_2).toNat * 4)).block, (ad156.add ((x5_2).toNat * 4)).off + 1, none⟩ = some (.bool ((rd_T55 l1_0 x5_2).f1)) ∧ w'.cell? ⟨(ad156.add ((x5_2).toNat * 4)).block, (ad156.add ((x5_2).toNat * 4)).off + 2, none⟩ = some (.bool ((rd_T55 l1_0 x5_2).f2.f0)) ∧ w'.cell? ⟨(ad156.add ((x5_2).toNat * 4)).block, (ad156.add ((x5_2).toNat * 4)).off + 3, none⟩ = some (.slice A159_3 ((rd_T55 l1_0 x5_2).f2.f1).length c159_3)) (ds := []) #[false, false, false, false, false, false, false, false, false, false, false, false, false, false, false, false, false, false, false, false, false, false, false, false, false, false, false, false, false, false, false, false] (by kernel_rfl) rfl rfl ⟨(blk_cell BK153.out 0).trans rfl, (blk_cell BK153.out 1).trans rfl, (blk_cell BK154.out 0).trans rfl, (blk_cell BK154.out 1).trans rfl, ((HB.out.cell (World.block_lt_of_cell? w _ hw158_0)).trans hw158_0), ((HB.out.cell (World.block_lt_of_cell? w _ hw158_1)).trans hw158_1), ((HB.out.cell (World.block_lt_of_cell? w _ hw158_2)).trans hw158_2), ((HB.out.cell (World.block_lt_of_cell? w _ hw158_3)).trans hw158_3), ((HB.out.cell (World.block_lt_of_cell? w _ hw159_0)).trans hw159_0), ((HB.out.cell (World.block_lt_of_cell? w _ hw159_1)).trans hw159_1), ((HB.out.cell (World.block_lt_of_cell? w _ hw159_2)).trans hw159_2), ((HB.out.cell (World.block_lt_of_cell? w _ hw159_3)).trans hw159_3), ((HB.out.cell (World.block_lt_of_cell? w _ hw160_0)).trans hw160_0), ((HB.out.cell (World.block_lt_of_cell? w _ hw160_1)).trans hw160_1), ((HB.out.cell (World.block_lt_of_cell? w _ hw160_2)).trans hw160_2), ((HB.out.cell (World.block_lt_of_cell? w _ hw160_3)).trans hw160_3), ((HB.out.cell (World.block_lt_of_cell? w _ hw161_0)).trans hw161_0), ((HB.out.cell (World.block_lt_of_cell? w _ hw161_1)).trans hw161_1), ((HB.out.cell (World.block_lt_of_cell? w _ hw161_2)).trans hw161_2), ((HB.out.cell (World.block_lt_of_cell? w _ hw161_3)).trans hw161_3)⟩ (fun hHeld => ?_); refine with_tabW assartref05_Same.tab7 assartref05_Same.bits7 (fun HT_ HW_ => ?_)
            generalize w29.drew = w30 at BK153 BK154 HB HR158_3 HR159_3 HR160_3 HR161_3 hx158_0 hx158_1 hx158_2 hx158_3 hx159_0 hx159_1 hx159_2 hx159_3 hx160_0 hx160_1 hx160_2 hx160_3 hx161_0 hx161_1 hx161_2 hx161_3 hHeld ⊢
            refine pure_ (i := 0) (N := some 41) (v := ?_) (a' := ?_) #[true, false, false, false, false, false, false, false, false, false, false, false, false, false, false, false, false, false, false, false, false, false, false, false, false, false, false, false, false, false, false, false] rfl rfl (any_of HT_.out (by kernel_rfl)) (fun _ _ _ h => h) (Or.inl ⟨by rfl, ?_⟩) ?_ ?_
            rotate_left
            ·intro w'
             go_simp
             with_reducible rfl
            rotate_left
            ·simp only [Act.put, List.setIfInBounds_toArray, List.set_cons_zero, List.set_cons_succ, i64_w, i32_w]
             rfl
            refine pure_ (i := 1) (N := some 42) (v := ?_) (a' := ?_) #[true, true, false, false, false, false, false, false, false, false, false, false, false, false, false, false, false, false, false, false, false, false, false, false, false, false, false, false, false, false, false, false] rfl rfl (any_of HT_.out (by kernel_rfl)) (fun _ _ _ h => h) (Or.inl ⟨by rfl, ?_⟩) ?_ ?_
            rotate_left
            ·intro w'
             go_simp
             with_reducible rfl
            rotate_left
            ·simp only [Act.put, List.setIfInBounds_toArray, List.set_cons_zero, List.set_cons_succ, i64_w, i32_w]
             rfl
            refine pure_ (i := 2) (N := some 43) (v := ?_) (a' := ?_) #[true, true, true, false, false, false, false, false, false, false, false, false, false, false, false, false, false, false, false, false, false, false, false, false, false, false, false, false, false, false, false, false] rfl rfl (any_of HT_.out (by kernel_rfl)) (fun _ _ _ h => h) (Or.inl ⟨by rfl, ?_⟩) ?_ ?_
            rotate_left
            ·intro w'
             go_simp
             with_reducible rfl
            rotate_left
            ·simp only [Act.put, List.setIfInBounds_toArray, List.set_cons_zero, List.set_cons_succ, i64_w, i32_w]
             rfl
            refine pure_ (i := 3) (N := some 44) (v := ?_) (a' := ?_) #[true, true, true, true, false, false, false, false, false, false, false, false, false, false, false, false, false, false, false, false, false, false, false, false, false, false, false, false, false, false, false, false] rfl rfl (any_of HT_.out (by kernel_rfl)) (fun _ _ _ h => h) (Or.inl ⟨by rfl, ?_⟩) ?_ ?_
            rotate_left
            ·intro w'
             go_simp
             with_reducible rfl
            rotate_left
            ·simp only [Act.put, List.setIfInBounds_toArray, List.set_cons_zero, List.set_cons_succ, i64_w, i32_w]
             rfl
            refine pure_ (i := 5) (N := some 46) (v := ?_) (a' := ?_) #[true, true, true, true, false, true, false, false, false, false, false, false, false, false, false, false, false, false, false, false, false, false, false, false, false, false, false, false, false, false, false, false] rfl rfl (any_of HT_.out (by kernel_rfl)) (fun _ _ _ h => h) (Or.inl ⟨by rfl, ?_⟩) ?_ ?_
            rotate_left
            ·intro w'
             go_simp
             with_reducible rfl
            rotate_left
            ·simp only [Act.put, List.setIfInBounds_toArray, List.set_cons_zero, List.set_cons_succ, i64_w, i32_w]
             rfl
            refine pure_ (i := 9) (N := some 50) (v := ?_) (a' := ?_) #[true, true, true, true, false, true, false, false, false, true, false, false, false, false, false, false, false, false, false, false, false, false, false, false, false, false, false, false, false, false, false, false] rfl rfl (any_of HT_.out (by kernel_rfl)) (fun _ _ _ h => h) (Or.inl ⟨by rfl, ?_⟩) ?_ ?_
            rotate_left
            ·intro w'
             go_simp
             with_reducible rfl
            rotate_left
            ·simp only [Act.put, List.setIfInBounds_toArray, List.set_cons_zero, List.set_cons_succ, i64_w, i32_w]
             rfl
            refine pure_ (i := 11) (N := some 52) (v := ?_) (a' := ?_) #[true, true, true, true, false, true, false, false, false, true, false, true, false, false, false, false, false, false, false, false, false, false, false, false, false, false, false, false, false, false, false, false] rfl rfl (any_of HT_.out (by kernel_rfl)) (fun _ _ _ h => h) (Or.inl ⟨by rfl, ?_⟩) ?_ ?_
            rotate_left
            ·intro w'
             go_simp
             with_reducible rfl
            rotate_left
            ·simp only [Act.put, List.setIfInBounds_toArray, List.set_cons_zero, List.set_cons_succ, i64_w, i32_w]
             rfl
            refine take_ (i := 4) (N := some 45) (v := ?_) (a' := ?_) #[true, true, true, true, true, true, false, false, false, true, false, true, false, false, false, false, false, false, false, false, false, false, false, false, false, false, false, false, false, false, false, false] rfl rfl (take_ofW HT_.out HW_.out (by kernel_rfl)) (fun _ _ _ h => h) (Or.inl ⟨by rfl, ?_⟩) hHeld ?_ ?_
            rotate_left
            ·rintro w' ⟨s0, s1, s2, s3, s4, s5, s6, s7, s8, s9, s10, s11, s12, s13, s14, s15, s16, s17, s18, s19⟩
             go_simp
             with_reducible rfl
            rotate_left
            ·simp only [Act.put, List.setIfInBounds_toArray, List.set_cons_zero, List.set_cons_succ, i64_w, i32_w]
             rfl
            refine pure_ (i := 6) (N := some 47) (v := ?_) (a' := ?_) #[true, true, true, true, true, true, true, false, false, true, false, true, false, false, false, false, false, false, false, false, false, false, false, false, false, false, false, false, false, false, false, false] rfl rfl (any_of HT_.out (by kernel_rfl)) (fun _ _ _ h => h) (Or.inl ⟨by rfl, ?_⟩) ?_ ?_
            rotate_left
            ·intro w'
             go_simp
             with_reducible rfl
            rotate_left
            ·simp only [Act.put, List.setIfInBounds_toArray, List.set_cons_zero, List.set_cons_succ, i64_w, i32_w]
             rfl
            refine pure_ (i := 7) (N := some 48) (v := ?_) (a' := ?_) #[true, true, true, true, true, true, true, true, false, true, false, true, false, false, false, false, false, false, false, false, false, false, false, false, false, false, false, false, false, false, false, false] rfl rfl (any_of HT_.out (by kernel_rfl)) (fun _ _ _ h => h) (Or.inl ⟨by rfl, ?_⟩) ?_ ?_
            rotate_left
            ·intro w'
             go_simp
             with_reducible rfl
            rotate_left
            ·simp only [Act.put, List.setIfInBounds_toArray, List.set_cons_zero, List.set_cons_succ, i64_w, i32_w]
             rfl
            refine take_ (i := 8) (N := some 49) (v := ?_) (a' := ?_) #[true, true, true, true, true, true, true, true, true, true, false, true, false, false, false, false, false, false, false, false, false, false, false, false, false, false, false, false, false, false, false, false] rfl rfl (take_ofW HT_.out HW_.out (by kernel_rfl)) (fun _ _ _ h => h) (Or.inl ⟨by rfl, ?_⟩) hHeld ?_ ?_
            rotate_left
            ·rintro w' ⟨s0, s1, s2, s3, s4, s5, s6, s7, s8, s9, s10, s11, s12, s13, s14, s15, s16, s17, s18, s19⟩
             go_simp
             with_reducible rfl
            rotate_left
            ·simp only [Act.put, List.setIfInBounds_toArray, List.set_cons_zero, List.set_cons_succ, i64_w, i32_w]
             rfl
            refine take_ (i := 10) (N := some 51) (v := ?_) (a' := ?_) #[true, true, true, true, true, true, true, true, true, true, true, true, false, false, false, false, false, false, false, false, false, false, false, false, false, false, false, false, false, false, false, false] rfl rfl (take_ofW HT_.out HW_.out (by kernel_rfl)) (fun _ _ _ h => h) (Or.inl ⟨by rfl, ?_⟩) hHeld ?_ ?_
            rotate_left
            ·rintro w' ⟨s0, s1, s2, s3, s4, s5, s6, s7, s8, s9, s10, s11, s12, s13, s14, s15, s16, s17, s18, s19⟩
             go_simp
             with_reducible rfl
            rotate_left
            ·simp only [Act.put, List.setIfInBounds_toArray, List.set_cons_zero, List.set_cons_succ, i64_w, i32_w]
             rfl
            refine pure_ (i := 12) (N := some 53) (v := ?_) (a' := ?_) #[true, true, true, true, true, true, true, true, true, true, true, true, true, false, false, false, false, false, false, false, false, false, false, false, false, false, false, false, false, false, false, false] rfl rfl (any_of HT_.out (by kernel_rfl)) (fun _ _ _ h => h) (Or.inl ⟨by rfl, ?_⟩) ?_ ?_
            rotate_left
            ·intro w'
             go_simp
             with_reducible rfl
            rotate_left
            ·simp only [Act.put, List.setIfInBounds_toArray, List.set_cons_zero, List.set_cons_succ, i64_w, i32_w]
             rfl
            refine pure_ (i := 13) (N := some 54) (v := ?_) (a' := ?_) #[true, true, true, true, true, true, true, true, true, true, true, true, true, true, false, false, false, false, false, false, false, false, false, false, false, false, false, false, false, false, false, false] rfl rfl (any_of HT_.out (by kernel_rfl)) (fun _ _ _ h => h) (Or.inl ⟨by rfl, ?_⟩) ?_ ?_
            rotate_left
            ·intro w'
             go_simp
             with_reducible rfl
            rotate_left
            ·simp only [Act.put, List.setIfInBounds_toArray, List.set_cons_zero, List.set_cons_succ, i64_w, i32_w]
             rfl
            refine take_ (i := 14) (N := some 55) (v := ?_) (a' := ?_) #[true, true, true, true, true, true, true, true, true, true, true, true, true, true, true, false, false, false, false, false, false, false, false, false, false, false, false, false, false, false, false, false] rfl rfl (take_ofW HT_.out HW_.out (by kernel_rfl)) (fun _ _ _ h => h) (Or.inl ⟨by rfl, ?_⟩) hHeld ?_ ?_
            rotate_left
            ·rintro w' ⟨s0, s1, s2, s3, s4, s5, s6, s7, s8, s9, s10, s11, s12, s13, s14, s15, s16, s17, s18, s19⟩
             go_simp
             with_reducible rfl
            rotate_left
            ·simp only [Act.put, List.setIfInBounds_toArray, List.set_cons_zero, List.set_cons_succ, i64_w, i32_w]
             rfl
            refine pure_ (i := 15) (N := some 56) (v := ?_) (a' := ?_) #[true, true, true, true, true, true, true, true, true, true, true, true, true, true, true, true, false, false, false, false, false, false, false, false, false, false, false, false, false, false, false, false] rfl rfl (any_of HT_.out (by kernel_rfl)) (fun _ _ _ h => h) (Or.inl ⟨by rfl, ?_⟩) ?_ ?_
            rotate_left
            ·intro w'
             go_simp
             with_reducible rfl
            rotate_left
            ·simp only [Act.put, List.setIfInBounds_toArray, List.set_cons_zero, List.set_cons_succ, i64_w, i32_w]
             rfl
            refine pure_ (i := 16) (N := some 57) (v := ?_) (a' := ?_) #[true, true, true, true, true, true, true, true, true, true, true, true, true, true, true, true, true, false, false, false, false, false, false, false, false, false, false, false, false, false, false, false] rfl rfl (any_of HT_.out (by kernel_rfl)) (fun _ _ _ h => h) (Or.inl ⟨by rfl, ?_⟩) ?_ ?_
            rotate_left
            ·intro w'
             go_simp
             with_reducible rfl
            rotate_left
            ·simp only [Act.put, List.setIfInBounds_toArray, List.set_cons_zero, List.set_cons_succ, i64_w, i32_w]
             rfl
            refine pure_ (i := 17) (N := some 58) (v := ?_) (a' := ?_) #[true, true, true, true, true, true, true, true, true, true, true, true, true, true, true, true, true, true, false, false, false, false, false, false, false, false, false, false, false, false, false, false] rfl rfl (any_of HT_.out (by kernel_rfl)) (fun _ _ _ h => h) (Or.inl ⟨by rfl, ?_⟩) ?_ ?_
            rotate_left
            ·intro w'
             go_simp
             with_reducible rfl
            rotate_left
            ·simp only [Act.put, List.setIfInBounds_toArray, List.set_cons_zero, List.set_cons_succ, i64_w, i32_w]
             rfl
            refine pure_ (i := 18) (N := some 59) (v := ?_) (a' := ?_) #[true, true, true, true, true, true, true, true, true, true, true, true, true, true, true, true, true, true, true, false, false, false, false, false, false, false, false, false, false, false, false, false] rfl rfl (any_of HT_.out (by kernel_rfl)) (fun _ _ _ h => h) (Or.inl ⟨by rfl, ?_⟩) ?_ ?_
            rotate_left
            ·intro w'
             go_simp
             with_reducible rfl
            rotate_left
            ·simp only [Act.put, List.setIfInBounds_toArray, List.set_cons_zero, List.set_cons_succ, i64_w, i32_w]
             rfl
            refine pure_ (i := 20) (N := some 61) (v := ?_) (a' := ?_) #[true, true, true, true, true, true, true, true, true, true, true, true, true, true, true, true, true, true, true, false, true, false, false, false, false, false, false, false, false, false, false, false] rfl rfl (any_of HT_.out (by kernel_rfl)) (fun _ _ _ h => h) (Or.inl ⟨by rfl, ?_⟩) ?_ ?_
            rotate_left
            ·intro w'
             go_simp
             with_reducible rfl
            rotate_left
            ·simp only [Act.put, List.setIfInBounds_toArray, List.set_cons_zero, List.set_cons_succ, i64_w, i32_w]
             rfl
            refine pure_ (i := 24) (N := some 65) (v := ?_) (a' := ?_) #[true, true, true, true, true, true, true, true, true, true, true, true, true, true, true, true, true, true, true, false, true, false, false, false, true, false, false, false, false, false, false, false] rfl rfl (any_of HT_.out (by kernel_rfl)) (fun _ _ _ h => h) (Or.inl ⟨by rfl, ?_⟩) ?_ ?_
            rotate_left
            ·intro w'
             go_simp
             with_reducible rfl
            rotate_left
            ·simp only [Act.put, List.setIfInBounds_toArray, List.set_cons_zero, List.set_cons_succ, i64_w, i32_w]
             rfl
            refine pure_ (i := 26) (N := some 67) (v := ?_) (a' := ?_) #[true, true, true, true, true, true, true, true, true, true, true, true, true, true, true, true, true, true, true, false, true, false, false, false, true, false, true, false, false, false, false, false] rfl rfl (any_of HT_.out (by kernel_rfl)) (fun _ _ _ h => h) (Or.inl ⟨by rfl, ?_⟩) ?_ ?_
            rotate_left
            ·intro w'
             go_simp
             with_reducible rfl
            rotate_left
            ·simp only [Act.put, List.setIfInBounds_toArray, List.set_cons_zero, List.set_cons_succ, i64_w, i32_w]
             rfl
            refine take_ (i := 19) (N := some 60) (v := ?_) (a' := ?_) #[true, true, true, true, true, true, true, true, true, true, true, true, true, true, true, true, true, true, true, true, true, false, false, false, true, false, true, false, false, false, false, false] rfl rfl (take_ofW HT_.out HW_.out (by kernel_rfl)) (fun _ _ _ h => h) (Or.inl ⟨by rfl, ?_⟩) hHeld ?_ ?_
            rotate_left
            ·rintro w' ⟨s0, s1, s2, s3, s4, s5, s6, s7, s8, s9, s10, s11, s12, s13, s14, s15, s16, s17, s18, s19⟩
             go_simp
             with_reducible rfl
            rotate_left
            ·simp only [Act.put, List.setIfInBounds_toArray, List.set_cons_zero, List.set_cons_succ, i64_w, i32_w]
             rfl
            refine pure_ (i := 21) (N := some 62) (v := ?_) (a' := ?_) #[true, true, true, true, true, true, true, true, true, true, true, true, true, true, true, true, true, true, true, true, true, true, false, false, true, false, true, false, false, false, false, false] rfl rfl (any_of HT_.out (by kernel_rfl)) (fun _ _ _ h => h) (Or.inl ⟨by rfl, ?_⟩) ?_ ?_
            rotate_left
            ·intro w'
             go_simp
             with_reducible rfl
            rotate_left
            ·simp only [Act.put, List.setIfInBounds_toArray, List.set_cons_zero, List.set_cons_succ, i64_w, i32_w]
             rfl
            refine pure_ (i := 22) (N := some 63) (v := ?_) (a' := ?_) #[true, true, true, true, true, true, true, true, true, true, true, true, true, true, true, true, true, true, true, true, true, true, true, false, true, false, true, false, false, false, false, false] rfl rfl (any_of HT_.out (by kernel_rfl)) (fun _ _ _ h => h) (Or.inl ⟨by rfl, ?_⟩) ?_ ?_
            rotate_left
            ·intro w'
             go_simp
             with_reducible rfl
            rotate_left
            ·simp only [Act.put, List.setIfInBounds_toArray, List.set_cons_zero, List.set_cons_succ, i64_w, i32_w]
             rfl
            refine take_ (i := 23) (N := some 64) (v := ?_) (a' := ?_) #[true, true, true, true, true, true, true, true, true, true, true, true, true, true, true, true, true, true, true, true, true, true, true, true, true, false, true, false, false, false, false, false] rfl rfl (take_ofW HT_.out HW_.out (by kernel_rfl)) (fun _ _ _ h => h) (Or.inl ⟨by rfl, ?_⟩) hHeld ?_ ?_
            rotate_left
            ·rintro w' ⟨s0, s1, s2, s3, s4, s5, s6, s7, s8, s9, s10, s11, s12, s13, s14, s15, s16, s17, s18, s19⟩
             go_simp
             with_reducible rfl
            rotate_left
            ·simp only [Act.put, List.setIfInBounds_toArray, List.set_cons_zero, List.set_cons_succ, i64_w, i32_w]
             rfl
            refine take_ (i := 25) (N := some 66) (v := ?_) (a' := ?_) #[true, true, true, true, true, true, true, true, true, true, true, true, true, true, true, true, true, true, true, true, true, true, true, true, true, true, true, false, false, false, false, false] rfl rfl (take_ofW HT_.out HW_.out (by kernel_rfl)) (fun _ _ _ h => h) (Or.inl ⟨by rfl, ?_⟩) hHeld ?_ ?_
            rotate_left
            ·rintro w' ⟨s0, s1, s2, s3, s4, s5, s6, s7, s8, s9, s10, s11, s12, s13, s14, s15, s16, s17, s18, s19⟩
             go_simp
             with_reducible rfl
            rotate_left
            ·simp only [Act.put, List.setIfInBounds_toArray, List.set_cons_zero, List.set_cons_succ, i64_w, i32_w]
             rfl
            refine pure_ (i := 27) (N := some 68) (v := ?_) (a' := ?_) #[true, true, true, true, true, true, true, true, true, true, true, true, true, true, true, true, true, true, true, true, true, true, true, true, true, true, true, true, false, false, false, false] rfl rfl (any_of HT_.out (by kernel_rfl)) (fun _ _ _ h => h) (Or.inl ⟨by rfl, ?_⟩) ?_ ?_
            rotate_left
            ·intro w'
             go_simp
             with_reducible rfl
            rotate_left
            ·simp only [Act.put, List.setIfInBounds_toArray, List.set_cons_zero, List.set_cons_succ, i64_w, i32_w]
             rfl
            refine pure_ (i := 28) (N := some 69) (v := ?_) (a' := ?_) #[true, true, true, true, true, true, true, true, true, true, true, true, true, true, true, true, true, true, true, true, true, true, true, true, true, true, true, true, true, false, false, false] rfl rfl (any_of HT_.out (by kernel_rfl)) (fun _ _ _ h => h) (Or.inl ⟨by rfl, ?_⟩) ?_ ?_
            rotate_left
            ·intro w'
             go_simp
             with_reducible rfl
            rotate_left
            ·simp only [Act.put, List.setIfInBounds_toArray, List.set_cons_zero, List.set_cons_succ, i64_w, i32_w]
             rfl
            refine take_ (i := 29) (N := some 70) (v := ?_) (a' := ?_) #[true, true, true, true, true, true, true, true, true, true, true, true, true, true, true, true, true, true, true, true, true, true, true, true, true, true, true, true, true, true, false, false] rfl rfl (take_ofW HT_.out HW_.out (by kernel_rfl)) (fun _ _ _ h => h) (Or.inl ⟨by rfl, ?_⟩) hHeld ?_ ?_
            rotate_left
            ·rintro w' ⟨s0, s1, s2, s3, s4, s5, s6, s7, s8, s9, s10, s11, s12, s13, s14, s15, s16, s17, s18, s19⟩
             go_simp
             with_reducible rfl
            rotate_left
            ·simp only [Act.put, List.setIfInBounds_toArray, List.set_cons_zero, List.set_cons_succ, i64_w, i32_w]
             rfl
            refine pure_ (i := 30) (N := some 71) (v := ?_) (a' := ?_) #[true, true, true, true, true, true, true, true, true, true, true, true, true, true, true, true, true, true, true, true, true, true, true, true, true, true, true, true, true, true, true, false] rfl rfl (any_of HT_.out (by kernel_rfl)) (fun _ _ _ h => h) (Or.inl ⟨by rfl, ?_⟩) ?_ ?_
            rotate_left
            ·intro w'
             go_simp
             with_reducible rfl
            rotate_left
            ·simp only [Act.put, List.setIfInBounds_toArray, List.set_cons_zero, List.set_cons_succ, i64_w, i32_w]
             rfl
            refine pure_ (i := 31) (N := some 72) (v := ?_) (a' := ?_) #[true, true, true, true, true, true, true, true, true, true, true, true, true, true, true, true, true, true, true, true, true, true, true, true, true, true, true, true, true, true, true, true] rfl rfl (any_of HT_.out (by kernel_rfl)) (fun _ _ _ h => h) (Or.inl ⟨by rfl, ?_⟩) ?_ ?_
            rotate_left
            ·intro w'
             go_simp
             with_reducible rfl
            rotate_left
            ·simp only [Act.put, List.setIfInBounds_toArray, List.set_cons_zero, List.set_cons_succ, i64_w, i32_w]
             rfl
            refine done_ (done_of HT_.out (by kernel_rfl)) ?_
            try go_wp2
            go_roundg k2
            case measure => have := HJ2.out; have := HK2.out; omega
            case rel => exact ⟨(wrap64 (x5_2 + 1)), (by first | rfl | (simp; done) | (simp [*]; done)), H', ⟨by have := HJ2.out; have := HK2.out; omega⟩, ⟨by (with_reducible repeat (first | refine blk_drewN ?_ _ | refine blk_drew ?_ | refine blk_alloc ?_ _)); exact BK153.out⟩, ⟨by (with_reducible repeat (first | refine blk_drewN ?_ _ | refine blk_drew ?_ | refine blk_alloc ?_ _)); exact BK154.out⟩, ⟨by repeat (first | (with_reducible first | exact HB.out | apply below_alloc | apply pw_below_drewN | apply below_drew1 | refine below_set ?_ GE153.out | refine below_set ?_ GE154.out) | exact HB.out)⟩⟩
          ·rw [if_neg c19] at H
           have c19b0 : (((rd_T55 l0_0 x5_2).f0) == ((rd_T55 l1_0 x5_2).f0)) = false := beq_eq_false_iff_ne.mpr c19
           have c19b1 : (((rd_T55 l0_0 x5_2).f0) != ((rd_T55 l1_0 x5_2).f0)) = true := bne_iff_ne.mpr c19
           obtain rfl := Option.some.inj H
           have hnb31 := NB153_154.out
           have hnc31 := NB154_153.out
           have hcz32_0 : wr.cell? ⟨gb153, 0, none⟩ = some (.slice A0_0 l0_0.length c0_0) := (blk_cell BK153.out 0).trans rfl
           have hcz32_1 : wr.cell? ⟨gb153, 1, none⟩ = some (.int .i64 a0_1) := (blk_cell BK153.out 1).trans rfl
           have hfz32_0 := blk_frozen BK153.out 0
           have hfz32_1 := blk_frozen BK153.out 1
           try go_wp2
           have n0_ := Aside0.mk (blk_drew BK153.out)
           have n1_ := Aside0.mk (blk_drew BK154.out)
           have n2_ := Aside0.mk (below_drew1 HB.out)
           clear BK153
           clear BK154
           clear HB
           have BK153 := n0_
           have BK154 := n1_
           have HB := n2_
           clear n0_ n1_ n2_
           have p155 : 0 ≤ (x5_2 : Int) := of_decide_eq_true (by first | (with_reducible assumption) | assumption)
           have q155 : x5_2 < (l0_0.length : Int) := of_decide_eq_true (by first | (with_reducible assumption) | assumption)
           obtain ⟨ad155, A155_3, c155_3, e155, hx155_0, hx155_1, hx155_2, hx155_3, hl155_3, hi155_3⟩ := at_T55 HR0_0.out x5_2 p155 q155
           have hw155_3 := hx155_3
           have hw155_2 := hx155_2
           have hw155_1 := hx155_1
           have hw155_0 := hx155_0
           cases e155
           replace hx155_0 := (HB.out.cell (World.block_lt_of_cell? w _ hx155_0)).trans hx155_0
           replace hx155_1 := (HB.out.cell (World.block_lt_of_cell? w _ hx155_1)).trans hx155_1
           replace hx155_2 := (HB.out.cell (World.block_lt_of_cell? w _ hx155_2)).trans hx155_2
           replace hx155_3 := (HB.out.cell (World.block_lt_of_cell? w _ hx155_3)).trans hx155_3
           have HR155_3 := Aside0.mk hi155_3
           have HC155_3 := Aside0.mk hl155_3
           clear hi155_3 hl155_3
           replace p155 := eq_true p155
           replace q155 := eq_true q155
           have p156 : 0 ≤ (x5_2 : Int) := of_decide_eq_true (by first | (with_reducible assumption) | assumption)
           have q156 : x5_2 < (l1_0.length : Int) := of_decide_eq_true (by first | (with_reducible assumption) | assumption)
           obtain ⟨ad156, A156_3, c156_3, e156, hx156_0, hx156_1, hx156_2, hx156_3, hl156_3, hi156_3⟩ := at_T55 HR1_0.out x5_2 p156 q156
           have hw156_3 := hx156_3
           have hw156_2 := hx156_2
           have hw156_1 := hx156_1
           have hw156_0 := hx156_0
           cases e156
           replace hx156_0 := (HB.out.cell (World.block_lt_of_cell? w _ hx156_0)).trans hx156_0
           replace hx156_1 := (HB.out.cell (World.block_lt_of_cell? w _ hx156_1)).trans hx156_1
           replace hx156_2 := (HB.out.cell (World.block_lt_of_cell? w _ hx156_2)).trans hx156_2
           replace hx156_3 := (HB.out.cell (World.block_lt_of_cell? w _ hx156_3)).trans hx156_3
           have HR156_3 := Aside0.mk hi156_3
           have HC156_3 := Aside0.mk hl156_3
           clear hi156_3 hl156_3
           replace p156 := eq_true p156
           replace q156 := eq_true q156
           refine start_ (n := 14) (S := fun w' => w'.cell? ⟨gb153, 0, none⟩ = some (.slice (some ad155) l0_0.length c0_0) ∧ w'.cell? ⟨gb153, 1, none⟩ = some (.int .i64 a0_1) ∧ w'.cell? ⟨gb154, 0, none⟩ = some (.slice (some ad156) l1_0.length c1_0) ∧ w'.cell? ⟨gb154, 1, none⟩ = some (.int .i64 a1_1) ∧ w'.cell? (ad155.add ((x5_2).toNat * 4)) = some (.int .i64 ((rd_T55 l0_0 x5_2).f0)) ∧ w'.cell? ⟨(ad155.add ((x5_2).toNat * 4)).block, (ad155.add ((x5_2).toNat * 4)).off + 1, none⟩ = some (.bool ((rd_T55 l0_0 x5_2).f1)) ∧ w'.cell? ⟨(ad155.add ((x5_2).toNat * 4)).block, (ad155.add ((x5_2).toNat * 4)).off + 2, none⟩ = some (.bool ((rd_T55 l0_0 x5_2).f2.f0)) ∧ w'.cell? ⟨(ad155.add ((x5_2).toNat * 4)).block, (ad155.add ((x5_2).toNat * 4)).off + 3, none⟩ = some (.slice A155_3 ((rd_T55 l0_0 x5_2).f2.f1).length c155_3) ∧ w'.cell? (ad156.add ((x5_2).toNat * 4)) = some (.int .i64 ((rd_T55 l1_0 x5_2).f0)) ∧ w'.cell? ⟨(ad156.add ((x5_2).toNat * 4)).block, (ad156.add ((x5_2).toNat * 4)).off + 1, none⟩ = some (.bool ((rd_T55 l1_0 x5_2).f1)) ∧ w'.cell? ⟨(ad156.add ((x5_2).toNat * 4)).block, (ad156.add ((x5_2).toNat * 4)).off + 2, none⟩ = some (.bool ((rd_T55 l1_0 x5_2).f2.f0)) ∧ w'.cell? ⟨(ad156.add ((x5_2).toNat * 4)).block, (ad156.add ((x5_2).toNat * 4)).off + 3, none⟩ = some (.slice A156_3 ((rd_T55 l1_0 x5_2).f2.f1).length c156_3)) (ds := []) #[false, false, false, false, false, false, false, false, false, false, false, false, false, false] (by kernel_rfl) rfl rfl ⟨(blk_cell BK153.out 0).trans rfl, (blk_cell BK153.out 1).trans rfl, (blk_cell BK154.out 0).trans rfl, (blk_cell BK154.out 1).trans rfl, ((HB.out.cell (World.block_lt_of_cell? w _ hw155_0)).trans hw155_0), ((HB.out.cell (World.block_lt_of_cell? w _ hw155_1)).trans hw155_1), ((HB.out.cell (World.block_lt_of_cell? w _ hw155_2)).trans hw155_2), ((HB.out.cell (World.block_lt_of_cell? w _ hw155_3)).trans hw155_3), ((HB.out.cell (World.block_lt_of_cell? w _ hw156_0)).trans hw156_0), ((HB.out.cell (World.block_lt_of_cell? w _ hw156_1)).trans hw156_1), ((HB.out.cell (World.block_lt_of_cell? w _ hw156_2)).trans hw156_2), ((HB.out.cell (World.block_lt_of_cell? w _ hw156_3)).trans hw156_3)⟩ (fun hHeld => ?_); refine with_tabW assartref05_Same.tab6 assartref05_Same.bits6 (fun HT_ HW_ => ?_)
           generalize wr.drew = w33 at BK153 BK154 HB HR155_3 HR156_3 hx155_0 hx155_1 hx155_2 hx155_3 hx156_0 hx156_1 hx156_2 hx156_3 hHeld ⊢
           refine pure_ (i := 0) (N := some 28) (v := ?_) (a' := ?_) #[true, false, false, false, false, false, false, false, false, false, false, false, false, false] rfl rfl (any_of HT_.out (by kernel_rfl)) (fun _ _ _ h => h) (Or.inl ⟨by rfl, ?_⟩) ?_ ?_
           rotate_left
           ·intro w'
            go_simp
            with_reducible rfl
           rotate_left
           ·simp only [Act.put, List.setIfInBounds_toArray, List.set_cons_zero, List.set_cons_succ, i64_w, i32_w]
            rfl
           refine pure_ (i := 2) (N := some 30) (v := ?_) (a' := ?_) #[true, false, true, false, false, false, false, false, false, false, false, false, false, false] rfl rfl (any_of HT_.out (by kernel_rfl)) (fun _ _ _ h => h) (Or.inl ⟨by rfl, ?_⟩) ?_ ?_
           rotate_left
           ·intro w'
            go_simp
            with_reducible rfl
           rotate_left
           ·simp only [Act.put, List.setIfInBounds_toArray, List.set_cons_zero, List.set_cons_succ, i64_w, i32_w]
            rfl
           refine pure_ (i := 6) (N := some 34) (v := ?_) (a' := ?_) #[true, false, true, false, false, false, true, false, false, false, false, false, false, false] rfl rfl (any_of HT_.out (by kernel_rfl)) (fun _ _ _ h => h) (Or.inl ⟨by rfl, ?_⟩) ?_ ?_
           rotate_left
           ·intro w'
            go_simp
            with_reducible rfl
           rotate_left
           ·simp only [Act.put, List.setIfInBounds_toArray, List.set_cons_zero, List.set_cons_succ, i64_w, i32_w]
            rfl
           refine pure_ (i := 8) (N := some 36) (v := ?_) (a' := ?_) #[true, false, true, false, false, false, true, false, true, false, false, false, false, false] rfl rfl (any_of HT_.out (by kernel_rfl)) (fun _ _ _ h => h) (Or.inl ⟨by rfl, ?_⟩) ?_ ?_
           rotate_left
           ·intro w'
            go_simp
            with_reducible rfl
           rotate_left
           ·simp only [Act.put, List.setIfInBounds_toArray, List.set_cons_zero, List.set_cons_succ, i64_w, i32_w]
            rfl
           refine take_ (i := 1) (N := some 29) (v := ?_) (a' := ?_) #[true, true, true, false, false, false, true, false, true, false, false, false, false, false] rfl rfl (take_ofW HT_.out HW_.out (by kernel_rfl)) (fun _ _ _ h => h) (Or.inl ⟨by rfl, ?_⟩) hHeld ?_ ?_
           rotate_left
           ·rintro w' ⟨s0, s1, s2, s3, s4, s5, s6, s7, s8, s9, s10, s11⟩
            go_simp
            with_reducible rfl
           rotate_left
           ·simp only [Act.put, List.setIfInBounds_toArray, List.set_cons_zero, List.set_cons_succ, i64_w, i32_w]
            rfl
           refine pure_ (i := 3) (N := some 31) (v := ?_) (a' := ?_) #[true, true, true, true, false, false, true, false, true, false, false, false, false, false] rfl rfl (any_of HT_.out (by kernel_rfl)) (fun _ _ _ h => h) (Or.inl ⟨by rfl, ?_⟩) ?_ ?_
           rotate_left
           ·intro w'
            go_simp
            with_reducible rfl
           rotate_left
           ·simp only [Act.put, List.setIfInBounds_toArray, List.set_cons_zero, List.set_cons_succ, i64_w, i32_w]
            rfl
           refine pure_ (i := 4) (N := some 32) (v := ?_) (a' := ?_) #[true, true, true, true, true, false, true, false, true, false, false, false, false, false] rfl rfl (any_of HT_.out (by kernel_rfl)) (fun _ _ _ h => h) (Or.inl ⟨by rfl, ?_⟩) ?_ ?_
           rotate_left
           ·intro w'
            go_simp
            with_reducible rfl
           rotate_left
           ·simp only [Act.put, List.setIfInBounds_toArray, List.set_cons_zero, List.set_cons_succ, i64_w, i32_w]
            rfl
           refine take_ (i := 5) (N := some 33) (v := ?_) (a' := ?_) #[true, true, true, true, true, true, true, false, true, false, false, false, false, false] rfl rfl (take_ofW HT_.out HW_.out (by kernel_rfl)) (fun _ _ _ h => h) (Or.inl ⟨by rfl, ?_⟩) hHeld ?_ ?_
           rotate_left
           ·rintro w' ⟨s0, s1, s2, s3, s4, s5, s6, s7, s8, s9, s10, s11⟩
            go_simp
            with_reducible rfl
           rotate_left
           ·simp only [Act.put, List.setIfInBounds_toArray, List.set_cons_zero, List.set_cons_succ, i64_w, i32_w]
            rfl
           refine take_ (i := 7) (N := some 35) (v := ?_) (a' := ?_) #[true, true, true, true, true, true, true, true, true, false, false, false, false, false] rfl rfl (take_ofW HT_.out HW_.out (by kernel_rfl)) (fun _ _ _ h => h) (Or.inl ⟨by rfl, ?_⟩) hHeld ?_ ?_
           rotate_left
           ·rintro w' ⟨s0, s1, s2, s3, s4, s5, s6, s7, s8, s9, s10, s11⟩
            go_simp
            with_reducible rfl
           rotate_left
           ·simp only [Act.put, List.setIfInBounds_toArray, List.set_cons_zero, List.set_cons_succ, i64_w, i32_w]
            rfl
           refine pure_ (i := 9) (N := some 37) (v := ?_) (a' := ?_) #[true, true, true, true, true, true, true, true, true, true, false, false, false, false] rfl rfl (any_of HT_.out (by kernel_rfl)) (fun _ _ _ h => h) (Or.inl ⟨by rfl, ?_⟩) ?_ ?_
           rotate_left
           ·intro w'
            go_simp
            with_reducible rfl
           rotate_left
           ·simp only [Act.put, List.setIfInBounds_toArray, List.set_cons_zero, List.set_cons_succ, i64_w, i32_w]
            rfl
           refine pure_ (i := 10) (N := some 38) (v := ?_) (a' := ?_) #[true, true, true, true, true, true, true, true, true, true, true, false, false, false] rfl rfl (any_of HT_.out (by kernel_rfl)) (fun _ _ _ h => h) (Or.inl ⟨by rfl, ?_⟩) ?_ ?_
           rotate_left
           ·intro w'
            go_simp
            with_reducible rfl
           rotate_left
           ·simp only [Act.put, List.setIfInBounds_toArray, List.set_cons_zero, List.set_cons_succ, i64_w, i32_w]
            rfl
           refine take_ (i := 11) (N := some 39) (v := ?_) (a' := ?_) #[true, true, true, true, true, true, true, true, true, true, true, true, false, false] rfl rfl (take_ofW HT_.out HW_.out (by kernel_rfl)) (fun _ _ _ h => h) (Or.inl ⟨by rfl, ?_⟩) hHeld ?_ ?_
           rotate_left
           ·rintro w' ⟨s0, s1, s2, s3, s4, s5, s6, s7, s8, s9, s10, s11⟩
            go_simp
            with_reducible rfl
           rotate_left
           ·simp only [Act.put, List.setIfInBounds_toArray, List.set_cons_zero, List.set_cons_succ, i64_w, i32_w]
            rfl
           refine one_ (i := 12) (N := some 40) #[true, true, true, true, true, true, true, true, true, true, true, true, true, false] rfl rfl (one_of HT_.out (by kernel_rfl)) (by decide) (fun K hK => ?_)
           refine goes_ Try.func53 (by kernel_rfl) rfl #[.agg #[.bool ((rd_T55 l0_0 x5_2).f2.f0), .slice A155_3 ((rd_T55 l0_0 x5_2).f2.f1).length c155_3], .agg #[.bool ((rd_T55 l1_0 x5_2).f2.f0), .slice A156_3 ((rd_T55 l1_0 x5_2).f2.f1).length c156_3]] (by rfl) rfl rfl (by (try simp only [List.map_toArray, List.map_cons, List.map_nil]); first | done | rfl | (simp only [List.length_drop, List.length_take]; rfl)) ?_
           with_reducible refine (assartref04_Same.calls k2 ((rd_T55 l0_0 x5_2).f2.f0) _ _ ((rd_T55 l0_0 x5_2).f2.f1) ((rd_T55 l1_0 x5_2).f2.f0) _ _ ((rd_T55 l1_0 x5_2).f2.f1) true _ ?side1 ?side2 ?side3 ?side4 A17.out).mono ?_
           (case side1 => repeat (first | exact (Kd.C_below HR155_3.out HB.out) | (with_reducible refine Kd.C_alloc ?_ _) | (with_reducible refine Kd.C_drewN ?_ _) | (with_reducible refine Kd.C_drew ?_)))
           (case side2 => exact HC155_3.out)
           (case side3 => repeat (first | exact (Kd.C_below HR156_3.out HB.out) | (with_reducible refine Kd.C_alloc ?_ _) | (with_reducible refine Kd.C_drewN ?_ _) | (with_reducible refine Kd.C_drew ?_)))
           (case side4 => exact HC156_3.out)
           rintro e w34 ⟨rfl, hb⟩
           refine ⟨_, rfl, ?_⟩
           have n0_ := Aside0.mk (blk_below (g := gb153) (o := .cells #[.slice (some ad155) l0_0.length c0_0, .int .i64 a0_1] 24 (0, 0)) (by (with_reducible repeat (first | refine blk_drewN ?_ _ | refine blk_drew ?_ | refine blk_alloc ?_ _)); exact BK153.out) hb)
           have n1_ := Aside0.mk (blk_below (g := gb154) (o := .cells #[.slice (some ad156) l1_0.length c1_0, .int .i64 a1_1] 24 (0, 0)) (by (with_reducible repeat (first | refine blk_drewN ?_ _ | refine blk_drew ?_ | refine blk_alloc ?_ _)); exact BK154.out) hb)
           have n2_ := Aside0.mk (below_step (by repeat (first | (with_reducible first | exact HB.out | apply below_alloc | apply pw_below_drewN | apply below_drew1 | refine below_set ?_ GE153.out | refine below_set ?_ GE154.out) | exact HB.out)) hb)
           clear BK153
           clear BK154
           clear HB
           have BK153 := n0_
           have BK154 := n1_
           have HB := n2_
           clear n0_ n1_ n2_
           (try clear hb)
           (try clear hb2)
           (try clear hk)
           (try clear hi)
           refine hK.out _ _ ⟨(blk_cell BK153.out 0).trans rfl, (blk_cell BK153.out 1).trans rfl, (blk_cell BK154.out 0).trans rfl, (blk_cell BK154.out 1).trans rfl, ((HB.out.cell (World.block_lt_of_cell? w _ hw155_0)).trans hw155_0), ((HB.out.cell (World.block_lt_of_cell? w _ hw155_1)).trans hw155_1), ((HB.out.cell (World.block_lt_of_cell? w _ hw155_2)).trans hw155_2), ((HB.out.cell (World.block_lt_of_cell? w _ hw155_3)).trans hw155_3), ((HB.out.cell (World.block_lt_of_cell? w _ hw156_0)).trans hw156_0), ((HB.out.cell (World.block_lt_of_cell? w _ hw156_1)).trans hw156_1), ((HB.out.cell (World.block_lt_of_cell? w _ hw156_2)).trans hw156_2), ((HB.out.cell (World.block_lt_of_cell? w _ hw156_3)).trans hw156_3)⟩ (fun hHeld => ?_)
           clear hK K
           refine norm_ (a' := ?_) ?_ ?_
           rotate_left
           ·show Act.put _ (some 40) _ = _
            simp only [Act.put, List.setIfInBounds_toArray, List.set_cons_zero, List.set_cons_succ, i64_w, i32_w]
            rfl
           refine pure_ (i := 13) (N := some 6) (v := ?_) (a' := ?_) #[true, true, true, true, true, true, true, true, true, true, true, true, true, true] rfl rfl (any_of HT_.out (by kernel_rfl)) (fun _ _ _ h => h) (Or.inl ⟨by rfl, ?_⟩) ?_ ?_
           rotate_left
           ·intro w'
            go_simp
            with_reducible rfl
           rotate_left
           ·simp only [Act.put, List.setIfInBounds_toArray, List.set_cons_zero, List.set_cons_succ, i64_w, i32_w]
            rfl
           refine done_ (done_of HT_.out (by kernel_rfl)) ?_
           try go_wp2
           have n0_ := Aside0.mk (blk_drew BK153.out)
           have n1_ := Aside0.mk (blk_drew BK154.out)
           have n2_ := Aside0.mk (below_drew1 HB.out)
           clear BK153
           clear BK154
           clear HB
           have BK153 := n0_
           have BK154 := n1_
           have HB := n2_
           clear n0_ n1_ n2_
           have p158 : 0 ≤ (x5_2 : Int) := of_decide_eq_true (by first | (with_reducible assumption) | assumption)
           have q158 : x5_2 < (l0_0.length : Int) := of_decide_eq_true (by first | (with_reducible assumption) | assumption)
           obtain ⟨ad158, A158_3, c158_3, e158, hx158_0, hx158_1, hx158_2, hx158_3, hl158_3, hi158_3⟩ := at_T55 HR0_0.out x5_2 p158 q158
           have hw158_3 := hx158_3
           have hw158_2 := hx158_2
           have hw158_1 := hx158_1
           have hw158_0 := hx158_0
           obtain rfl : ad155 = ad158 := (by injection e158)
           replace hx158_0 := (HB.out.cell (World.block_lt_of_cell? w _ hx158_0)).trans hx158_0
           replace hx158_1 := (HB.out.cell (World.block_lt_of_cell? w _ hx158_1)).trans hx158_1
           replace hx158_2 := (HB.out.cell (World.block_lt_of_cell? w _ hx158_2)).trans hx158_2
           replace hx158_3 := (HB.out.cell (World.block_lt_of_cell? w _ hx158_3)).trans hx158_3
           have HR158_3 := Aside0.mk hi158_3
           have HC158_3 := Aside0.mk hl158_3
           clear hi158_3 hl158_3
           replace p158 := eq_true p158
           replace q158 := eq_true q158
           have p159 : 0 ≤ (x5_2 : Int) := of_decide_eq_true (by first | (with_reducible assumption) | assumption)
           have q159 : x5_2 < (l1_0.length : Int) := of_decide_eq_true (by first | (with_reducible assumption) | assumption)
           obtain ⟨ad159, A159_3, c159_3, e159, hx159_0, hx159_1, hx159_2, hx159_3, hl159_3, hi159_3⟩ := at_T55 HR1_0.out x5_2 p159 q159
           have hw159_3 := hx159_3
           have hw159_2 := hx159_2
           have hw159_1 := hx159_1
           have hw159_0 := hx159_0
           obtain rfl : ad156 = ad159 := (by injection e159)
           replace hx159_0 := (HB.out.cell (World.block_lt_of_cell? w _ hx159_0)).trans hx159_0
           replace hx159_1 := (HB.out.cell (World.block_lt_of_cell? w _ hx159_1)).trans hx159_1
           replace hx159_2 := (HB.out.cell (World.block_lt_of_cell? w _ hx159_2)).trans hx159_2
           replace hx159_3 := (HB.out.cell (World.block_lt_of_cell? w _ hx159_3)).trans hx159_3
           have HR159_3 := Aside0.mk hi159_3
           have HC159_3 := Aside0.mk hl159_3
           clear hi159_3 hl159_3
           replace p159 := eq_true p159
           replace q159 := eq_true q159
           refine start_ (n := 32) (S := fun w' => w'.cell? ⟨gb153, 0, none⟩ = some (.slice (some ad155) l0_0.length c0_0) ∧ w'.cell? ⟨gb153, 1, none⟩ = some (.int .i64 a0_1) ∧ w'.cell? ⟨gb154, 0, none⟩ = some (.slice (some ad156) l1_0.length c1_0) ∧ w'.cell? ⟨gb154, 1, none⟩ = some (.int .i64 a1_1) ∧ w'.cell? (ad155.add ((x5_2).toNat * 4)) = some (.int .i64 ((rd_T55 l0_0 x5_2).f0)) ∧ w'.cell? ⟨(ad155.add ((x5_2).toNat * 4)).block, (ad155.add ((x5_2).toNat * 4)).off + 1, none⟩ = some (.bool ((rd_T55 l0_0 x5_2).f1)) ∧ w'.cell? ⟨(ad155.add ((x5_2).toNat * 4)).block, (ad155.add ((x5_2).toNat * 4)).off + 2, none⟩ = some (.bool ((rd_T55 l0_0 x5_2).f2.f0)) ∧ w'.cell? ⟨(ad155.add ((x5_2).toNat * 4)).block, (ad155.add ((x5_2).toNat * 4)).off + 3, none⟩ = some (.slice A158_3 ((rd_T55 l0_0 x5_2).f2.f1).length c158_3) ∧ w'.cell? (ad156.add ((x5_2).toNat * 4)) = some (.int .i64 ((rd_T55 l1_0 x5_2).f0)) ∧ w'.cell? ⟨(ad156.add ((x5_2).toNat * 4)).block, (ad156.add ((x5_2).toNat * 4)).off + 1, none⟩ = some (.bool ((rd_T55 l1_0 x5_2).f1)) ∧ w'.cell? ⟨(ad156.add ((x5_2).toNat * 4)).block, (ad156.add ((x5_2).toNat * 4)).off + 2, none⟩ = some (.bool ((rd_T55 l1_0 x5_2).f2.f0)) ∧ w'.cell? ⟨(ad156.add ((x5_2).toNat * 4)).block, (ad156.add ((x5_2).toNat * 4)).off + 3, none⟩ = some (.slice A159_3 ((rd_T55 l1_0 x5_2).f2.f1).length c159_3)) (ds := []) #[false, false, false, false, false, false, false, false, false, false, false, false, false, false, false, false, false, false, false, false, false, false, false, false, false, false, false, false, false, false, false, false] (by kernel_rfl) rfl rfl ⟨(blk_cell BK153.out 0).trans rfl, (blk_cell BK153.out 1).trans rfl, (blk_cell BK154.out 0).trans rfl, (blk_cell BK154.out 1).trans rfl, ((HB.out.cell (World.block_lt_of_cell? w _ hw158_0)).trans hw158_0), ((HB.out.cell (World.block_lt_of_cell? w _ hw158_1)).trans hw158_1), ((HB.out.cell (World.block_lt_of_cell? w _ hw158_2)).trans hw158_2), ((HB.out.cell (World.block_lt_of_cell? w _ hw158_3)).trans hw158_3), ((HB.out.cell (World.block_lt_of_cell? w _ hw159_0)).trans hw159_0), ((HB.out.cell (World.block_lt_of_cell? w _ hw159_1)).trans hw159_1), ((HB.out.cell (World.block_lt_of_cell? w _ hw159_2)).trans hw159_2), ((HB.out.cell (World.block_lt_of_cell? w _ hw159_3)).trans hw159_3)⟩ (fun hHeld => ?_); refine with_tabW assartref05_Same.tab7 assartref05_Same.bits7 (fun HT_ HW_ => ?_)
           generalize w34.drew = w35 at BK153 BK154 HB HR158_3 HR159_3 hx158_0 hx158_1 hx158_2 hx158_3 hx159_0 hx159_1 hx159_2 hx159_3 hHeld ⊢
           refine pure_ (i := 0) (N := some 41) (v := ?_) (a' := ?_) #[true, false, false, false, false, false, false, false, false, false, false, false, false, false, false, false, false, false, false, false, false, false, false, false, false, false, false, false, false, false, false, false] rfl rfl (any_of HT_.out (by kernel_rfl)) (fun _ _ _ h => h) (Or.inl ⟨by rfl, ?_⟩) ?_ ?_
           rotate_left
           ·intro w'
            go_simp
            with_reducible rfl
           rotate_left
           ·simp only [Act.put, List.setIfInBounds_toArray, List.set_cons_zero, List.set_cons_succ, i64_w, i32_w]
            rfl
           refine pure_ (i := 1) (N := some 42) (v := ?_) (a' := ?_) #[true, true, false, false, false, false, false, false, false, false, false, false, false, false, false, false, false, false, false, false, false, false, false, false, false, false, false, false, false, false, false, false] rfl rfl (any_of HT_.out (by kernel_rfl)) (fun _ _ _ h => h) (Or.inl ⟨by rfl, ?_⟩) ?_ ?_
           rotate_left
           ·intro w'
            go_simp
            with_reducible rfl
           rotate_left
           ·simp only [Act.put, List.setIfInBounds_toArray, List.set_cons_zero, List.set_cons_succ, i64_w, i32_w]
            rfl
           refine pure_ (i := 2) (N := some 43) (v := ?_) (a' := ?_) #[true, true, true, false, false, false, false, false, false, false, false, false, false, false, false, false, false, false, false, false, false, false, false, false, false, false, false, false, false, false, false, false] rfl rfl (any_of HT_.out (by kernel_rfl)) (fun _ _ _ h => h) (Or.inl ⟨by rfl, ?_⟩) ?_ ?_
           rotate_left
           ·intro w'
            go_simp
            with_reducible rfl
           rotate_left
           ·simp only [Act.put, List.setIfInBounds_toArray, List.set_cons_zero, List.set_cons_succ, i64_w, i32_w]
            rfl
           refine pure_ (i := 3) (N := some 44) (v := ?_) (a' := ?_) #[true, true, true, true, false, false, false, false, false, false, false, false, false, false, false, false, false, false, false, false, false, false, false, false, false, false, false, false, false, false, false, false] rfl rfl (any_of HT_.out (by kernel_rfl)) (fun _ _ _ h => h) (Or.inl ⟨by rfl, ?_⟩) ?_ ?_
           rotate_left
           ·intro w'
            go_simp
            with_reducible rfl
           rotate_left
           ·simp only [Act.put, List.setIfInBounds_toArray, List.set_cons_zero, List.set_cons_succ, i64_w, i32_w]
            rfl
           refine pure_ (i := 5) (N := some 46) (v := ?_) (a' := ?_) #[true, true, true, true, false, true, false, false, false, false, false, false, false, false, false, false, false, false, false, false, false, false, false, false, false, false, false, false, false, false, false, false] rfl rfl (any_of HT_.out (by kernel_rfl)) (fun _ _ _ h => h) (Or.inl ⟨by rfl, ?_⟩) ?_ ?_
           rotate_left
           ·intro w'
            go_simp
            with_reducible rfl
           rotate_left
           ·simp only [Act.put, List.setIfInBounds_toArray, List.set_cons_zero, List.set_cons_succ, i64_w, i32_w]
            rfl
           refine pure_ (i := 9) (N := some 50) (v := ?_) (a' := ?_) #[true, true, true, true, false, true, false, false, false, true, false, false, false, false, false, false, false, false, false, false, false, false, false, false, false, false, false, false, false, false, false, false] rfl rfl (any_of HT_.out (by kernel_rfl)) (fun _ _ _ h => h) (Or.inl ⟨by rfl, ?_⟩) ?_ ?_
           rotate_left
           ·intro w'
            go_simp
            with_reducible rfl
           rotate_left
           ·simp only [Act.put, List.setIfInBounds_toArray, List.set_cons_zero, List.set_cons_succ, i64_w, i32_w]
            rfl
           refine pure_ (i := 11) (N := some 52) (v := ?_) (a' := ?_) #[true, true, true, true, false, true, false, false, false, true, false, true, false, false, false, false, false, false, false, false, false, false, false, false, false, false, false, false, false, false, false, false] rfl rfl (any_of HT_.out (by kernel_rfl)) (fun _ _ _ h => h) (Or.inl ⟨by rfl, ?_⟩) ?_ ?_
           rotate_left
           ·intro w'
            go_simp
            with_reducible rfl
           rotate_left
           ·simp only [Act.put, List.setIfInBounds_toArray, List.set_cons_zero, List.set_cons_succ, i64_w, i32_w]
            rfl
           refine take_ (i := 4) (N := some 45) (v := ?_) (a' := ?_) #[true, true, true, true, true, true, false, false, false, true, false, true, false, false, false, false, false, false, false, false, false, false, false, false, false, false, false, false, false, false, false, false] rfl rfl (take_ofW HT_.out HW_.out (by kernel_rfl)) (fun _ _ _ h => h) (Or.inl ⟨by rfl, ?_⟩) hHeld ?_ ?_
           rotate_left
           ·rintro w' ⟨s0, s1, s2, s3, s4, s5, s6, s7, s8, s9, s10, s11⟩
            go_simp
            with_reducible rfl
           rotate_left
           ·simp only [Act.put, List.setIfInBounds_toArray, List.set_cons_zero, List.set_cons_succ, i64_w, i32_w]
            rfl
           refine pure_ (i := 6) (N := some 47) (v := ?_) (a' := ?_) #[true, true, true, true, true, true, true, false, false, true, false, true, false, false, false, false, false, false, false, false, false, false, false, false, false, false, false, false, false, false, false, false] rfl rfl (any_of HT_.out (by kernel_rfl)) (fun _ _ _ h => h) (Or.inl ⟨by rfl, ?_⟩) ?_ ?_
           rotate_left
           ·intro w'
            go_simp
            with_reducible rfl
           rotate_left
           ·simp only [Act.put, List.setIfInBounds_toArray, List.set_cons_zero, List.set_cons_succ, i64_w, i32_w]
            rfl
           refine pure_ (i := 7) (N := some 48) (v := ?_) (a' := ?_) #[true, true, true, true, true, true, true, true, false, true, false, true, false, false, false, false, false, false, false, false, false, false, false, false, false, false, false, false, false, false, false, false] rfl rfl (any_of HT_.out (by kernel_rfl)) (fun _ _ _ h => h) (Or.inl ⟨by rfl, ?_⟩) ?_ ?_
           rotate_left
           ·intro w'
            go_simp
            with_reducible rfl
           rotate_left
           ·simp only [Act.put, List.setIfInBounds_toArray, List.set_cons_zero, List.set_cons_succ, i64_w, i32_w]
            rfl
           refine take_ (i := 8) (N := some 49) (v := ?_) (a' := ?_) #[true, true, true, true, true, true, true, true, true, true, false, true, false, false, false, false, false, false, false, false, false, false, false, false, false, false, false, false, false, false, false, false] rfl rfl (take_ofW HT_.out HW_.out (by kernel_rfl)) (fun _ _ _ h => h) (Or.inl ⟨by rfl, ?_⟩) hHeld ?_ ?_
           rotate_left
           ·rintro w' ⟨s0, s1, s2, s3, s4, s5, s6, s7, s8, s9, s10, s11⟩
            go_simp
            with_reducible rfl
           rotate_left
           ·simp only [Act.put, List.setIfInBounds_toArray, List.set_cons_zero, List.set_cons_succ, i64_w, i32_w]
            rfl
           refine take_ (i := 10) (N := some 51) (v := ?_) (a' := ?_) #[true, true, true, true, true, true, true, true, true, true, true, true, false, false, false, false, false, false, false, false, false, false, false, false, false, false, false, false, false, false, false, false] rfl rfl (take_ofW HT_.out HW_.out (by kernel_rfl)) (fun _ _ _ h => h) (Or.inl ⟨by rfl, ?_⟩) hHeld ?_ ?_
           rotate_left
           ·rintro w' ⟨s0, s1, s2, s3, s4, s5, s6, s7, s8, s9, s10, s11⟩
            go_simp
            with_reducible rfl
           rotate_left
           ·simp only [Act.put, List.setIfInBounds_toArray, List.set_cons_zero, List.set_cons_succ, i64_w, i32_w]
            rfl
           refine pure_ (i := 12) (N := some 53) (v := ?_) (a' := ?_) #[true, true, true, true, true, true, true, true, true, true, true, true, true, false, false, false, false, false, false, false, false, false, false, false, false, false, false, false, false, false, false, false] rfl rfl (any_of HT_.out (by kernel_rfl)) (fun _ _ _ h => h) (Or.inl ⟨by rfl, ?_⟩) ?_ ?_
           rotate_left
           ·intro w'
            go_simp
            with_reducible rfl
           rotate_left
           ·simp only [Act.put, List.setIfInBounds_toArray, List.set_cons_zero, List.set_cons_succ, i64_w, i32_w]
            rfl
           refine pure_ (i := 13) (N := some 54) (v := ?_) (a' := ?_) #[true, true, true, true, true, true, true, true, true, true, true, true, true, true, false, false, false, false, false, false, false, false, false, false, false, false, false, false, false, false, false, false] rfl rfl (any_of HT_.out (by kernel_rfl)) (fun _ _ _ h => h) (Or.inl ⟨by rfl, ?_⟩) ?_ ?_
           rotate_left
           ·intro w'
            go_simp
            with_reducible rfl
           rotate_left
           ·simp only [Act.put, List.setIfInBounds_toArray, List.set_cons_zero, List.set_cons_succ, i64_w, i32_w]
            rfl
           refine take_ (i := 14) (N := some 55) (v := ?_) (a' := ?_) #[true, true, true, true, true, true, true, true, true, true, true, true, true, true, true, false, false, false, false, false, false, false, false, false, false, false, false, false, false, false, false, false] rfl rfl (take_ofW HT_.out HW_.out (by kernel_rfl)) (fun _ _ _ h => h) (Or.inl ⟨by rfl, ?_⟩) hHeld ?_ ?_
           rotate_left
           ·rintro w' ⟨s0, s1, s2, s3, s4, s5, s6, s7, s8, s9, s10, s11⟩
            go_simp
            with_reducible rfl
           rotate_left
           ·simp only [Act.put, List.setIfInBounds_toArray, List.set_cons_zero, List.set_cons_succ, i64_w, i32_w]
            rfl
           refine pure_ (i := 15) (N := some 56) (v := ?_) (a' := ?_) #[true, true, true, true, true, true, true, true, true, true, true, true, true, true, true, true, false, false, false, false, false, false, false, false, false, false, false, false, false, false, false, false] rfl rfl (any_of HT_.out (by kernel_rfl)) (fun _ _ _ h => h) (Or.inl ⟨by rfl, ?_⟩) ?_ ?_
           rotate_left
           ·intro w'
            go_simp
            with_reducible rfl
           rotate_left
           ·simp only [Act.put, List.setIfInBounds_toArray, List.set_cons_zero, List.set_cons_succ, i64_w, i32_w]
            rfl
           refine pure_ (i := 16) (N := some 57) (v := ?_) (a' := ?_) #[true, true, true, true, true, true, true, true, true, true, true, true, true, true, true, true, true, false, false, false, false, false, false, false, false, false, false, false, false, false, false, false] rfl rfl (any_of HT_.out (by kernel_rfl)) (fun _ _ _ h => h) (Or.inl ⟨by rfl, ?_⟩) ?_ ?_
           rotate_left
           ·intro w'
            go_simp
            with_reducible rfl
           rotate_left
           ·simp only [Act.put, List.setIfInBounds_toArray, List.set_cons_zero, List.set_cons_succ, i64_w, i32_w]
            rfl
           refine pure_ (i := 17) (N := some 58) (v := ?_) (a' := ?_) #[true, true, true, true, true, true, true, true, true, true, true, true, true, true, true, true, true, true, false, false, false, false, false, false, false, false, false, false, false, false, false, false] rfl rfl (any_of HT_.out (by kernel_rfl)) (fun _ _ _ h => h) (Or.inl ⟨by rfl, ?_⟩) ?_ ?_
           rotate_left
           ·intro w'
            go_simp
            with_reducible rfl
           rotate_left
           ·simp only [Act.put, List.setIfInBounds_toArray, List.set_cons_zero, List.set_cons_succ, i64_w, i32_w]
            rfl
           refine pure_ (i := 18) (N := some 59) (v := undef) (a' := ?_) #[true, true, true, true, true, true, true, true, true, true, true, true, true, true, true, true, true, true, true, false, false, false, false, false, false, false, false, false, false, false, false, false] rfl rfl (any_of HT_.out (by kernel_rfl)) (fun _ _ _ h => h) (Or.inr ⟨by rfl, rfl⟩) ?_ ?_
           rotate_left
           ·simp only [Act.put, List.setIfInBounds_toArray, List.set_cons_zero, List.set_cons_succ, i64_w, i32_w]
            rfl
           refine pure_ (i := 19) (N := some 60) (v := undef) (a' := ?_) #[true, true, true, true, true, true, true, true, true, true, true, true, true, true, true, true, true, true, true, true, false, false, false, false, false, false, false, false, false, false, false, false] rfl rfl (any_of HT_.out (by kernel_rfl)) (fun _ _ _ h => h) (Or.inr ⟨by rfl, rfl⟩) ?_ ?_
           rotate_left
           ·simp only [Act.put, List.setIfInBounds_toArray, List.set_cons_zero, List.set_cons_succ, i64_w, i32_w]
            rfl
           refine pure_ (i := 20) (N := some 61) (v := undef) (a' := ?_) #[true, true, true, true, true, true, true, true, true, true, true, true, true, true, true, true, true, true, true, true, true, false, false, false, false, false, false, false, false, false, false, false] rfl rfl (any_of HT_.out (by kernel_rfl)) (fun _ _ _ h => h) (Or.inr ⟨by rfl, rfl⟩) ?_ ?_
           rotate_left
           ·simp only [Act.put, List.setIfInBounds_toArray, List.set_cons_zero, List.set_cons_succ, i64_w, i32_w]
            rfl
           refine pure_ (i := 21) (N := some 62) (v := undef) (a' := ?_) #[true, true, true, true, true, true, true, true, true, true, true, true, true, true, true, true, true, true, true, true, true, true, false, false, false, false, false, false, false, false, false, false] rfl rfl (any_of HT_.out (by kernel_rfl)) (fun _ _ _ h => h) (Or.inr ⟨by rfl, rfl⟩) ?_ ?_
           rotate_left
           ·simp only [Act.put, List.setIfInBounds_toArray, List.set_cons_zero, List.set_cons_succ, i64_w, i32_w]
            rfl
           refine pure_ (i := 22) (N := some 63) (v := undef) (a' := ?_) #[true, true, true, true, true, true, true, true, true, true, true, true, true, true, true, true, true, true, true, true, true, true, true, false, false, false, false, false, false, false, false, false] rfl rfl (any_of HT_.out (by kernel_rfl)) (fun _ _ _ h => h) (Or.inr ⟨by rfl, rfl⟩) ?_ ?_
           rotate_left
           ·simp only [Act.put, List.setIfInBounds_toArray, List.set_cons_zero, List.set_cons_succ, i64_w, i32_w]
            rfl
           refine pure_ (i := 23) (N := some 64) (v := undef) (a' := ?_) #[true, true, true, true, true, true, true, true, true, true, true, true, true, true, true, true, true, true, true, true, true, true, true, true, false, false, false, false, false, false, false, false] rfl rfl (any_of HT_.out (by kernel_rfl)) (fun _ _ _ h => h) (Or.inr ⟨by rfl, rfl⟩) ?_ ?_
           rotate_left
           ·simp only [Act.put, List.setIfInBounds_toArray, List.set_cons_zero, List.set_cons_succ, i64_w, i32_w]
            rfl
           refine pure_ (i := 24) (N := some 65) (v := undef) (a' := ?_) #[true, true, true, true, true, true, true, true, true, true, true, true, true, true, true, true, true, true, true, true, true, true, true, true, true, false, false, false, false, false, false, false] rfl rfl (any_of HT_.out (by kernel_rfl)) (fun _ _ _ h => h) (Or.inr ⟨by rfl, rfl⟩) ?_ ?_
           rotate_left
           ·simp only [Act.put, List.setIfInBounds_toArray, List.set_cons_zero, List.set_cons_succ, i64_w, i32_w]
            rfl
           refine pure_ (i := 25) (N := some 66) (v := undef) (a' := ?_) #[true, true, true, true, true, true, true, true, true, true, true, true, true, true, true, true, true, true, true, true, true, true, true, true, true, true, false, false, false, false, false, false] rfl rfl (any_of HT_.out (by kernel_rfl)) (fun _ _ _ h => h) (Or.inr ⟨by rfl, rfl⟩) ?_ ?_
           rotate_left
           ·simp only [Act.put, List.setIfInBounds_toArray, List.set_cons_zero, List.set_cons_succ, i64_w, i32_w]
            rfl
           refine pure_ (i := 26) (N := some 67) (v := undef) (a' := ?_) #[true, true, true, true, true, true, true, true, true, true, true, true, true, true, true, true, true, true, true, true, true, true, true, true, true, true, true, false, false, false, false, false] rfl rfl (any_of HT_.out (by kernel_rfl)) (fun _ _ _ h => h) (Or.inr ⟨by rfl, rfl⟩) ?_ ?_
           rotate_left
           ·simp only [Act.put, List.setIfInBounds_toArray, List.set_cons_zero, List.set_cons_succ, i64_w, i32_w]
            rfl
           refine pure_ (i := 27) (N := some 68) (v := undef) (a' := ?_) #[true, true, true, true, true, true, true, true, true, true, true, true, true, true, true, true, true, true, true, true, true, true, true, true, true, true, true, true, false, false, false, false] rfl rfl (any_of HT_.out (by kernel_rfl)) (fun _ _ _ h => h) (Or.inr ⟨by rfl, rfl⟩) ?_ ?_
           rotate_left
           ·simp only [Act.put, List.setIfInBounds_toArray, List.set_cons_zero, List.set_cons_succ, i64_w, i32_w]
            rfl
           refine pure_ (i := 28) (N := some 69) (v := undef) (a' := ?_) #[true, true, true, true, true, true, true, true, true, true, true, true, true, true, true, true, true, true, true, true, true, true, true, true, true, true, true, true, true, false, false, false] rfl rfl (any_of HT_.out (by kernel_rfl)) (fun _ _ _ h => h) (Or.inr ⟨by rfl, rfl⟩) ?_ ?_
           rotate_left
           ·simp only [Act.put, List.setIfInBounds_toArray, List.set_cons_zero, List.set_cons_succ, i64_w, i32_w]
            rfl
           refine pure_ (i := 29) (N := some 70) (v := undef) (a' := ?_) #[true, true, true, true, true, true, true, true, true, true, true, true, true, true, true, true, true, true, true, true, true, true, true, true, true, true, true, true, true, true, false, false] rfl rfl (any_of HT_.out (by kernel_rfl)) (fun _ _ _ h => h) (Or.inr ⟨by rfl, rfl⟩) ?_ ?_
           rotate_left
           ·simp only [Act.put, List.setIfInBounds_toArray, List.set_cons_zero, List.set_cons_succ, i64_w, i32_w]
            rfl
           refine pure_ (i := 30) (N := some 71) (v := undef) (a' := ?_) #[true, true, true, true, true, true, true, true, true, true, true, true, true, true, true, true, true, true, true, true, true, true, true, true, true, true, true, true, true, true, true, false] rfl rfl (any_of HT_.out (by kernel_rfl)) (fun _ _ _ h => h) (Or.inr ⟨by rfl, rfl⟩) ?_ ?_
           rotate_left
           ·simp only [Act.put, List.setIfInBounds_toArray, List.set_cons_zero, List.set_cons_succ, i64_w, i32_w]
            rfl
           refine pure_ (i := 31) (N := some 72) (v := ?_) (a' := ?_) #[true, true, true, true, true, true, true, true, true, true, true, true, true, true, true, true, true, true, true, true, true, true, true, true, true, true, true, true, true, true, true, true] rfl rfl (any_of HT_.out (by kernel_rfl)) (fun _ _ _ h => h) (Or.inl ⟨by rfl, ?_⟩) ?_ ?_
           rotate_left
           ·intro w'
            go_simp
            with_reducible rfl
           rotate_left
           ·simp only [Act.put, List.setIfInBounds_toArray, List.set_cons_zero, List.set_cons_succ, i64_w, i32_w]
            rfl
           refine done_ (done_of HT_.out (by kernel_rfl)) ?_
           try go_wp2
           go_ret
           exact ⟨by first | rfl | (simp [errW_none, errW_some] <;> rfl) | (simp [*, errW_none, errW_some] <;> rfl), by repeat (first | (with_reducible first | exact HB.out | apply below_alloc | apply pw_below_drewN | apply below_drew1 | refine below_set ?_ GE153.out | refine below_set ?_ GE154.out) | exact HB.out)⟩
         ·replace c18 := Bool.eq_false_iff.mpr c18
          subst c18
          have H1 : (some false) = some r := by rw [if_neg (show ¬ (false = true) by decide)] at H; exact H
          clear H
          have H := H1
          clear H1
          obtain rfl := Option.some.inj H
          have hnb36 := NB153_154.out
          have hnc36 := NB154_153.out
          have hcz37_0 : wr.cell? ⟨gb153, 0, none⟩ = some (.slice A0_0 l0_0.length c0_0) := (blk_cell BK153.out 0).trans rfl
          have hcz37_1 : wr.cell? ⟨gb153, 1, none⟩ = some (.int .i64 a0_1) := (blk_cell BK153.out 1).trans rfl
          have hfz37_0 := blk_frozen BK153.out 0
          have hfz37_1 := blk_frozen BK153.out 1
          try go_wp2
          have n0_ := Aside0.mk (blk_drew BK153.out)
          have n1_ := Aside0.mk (blk_drew BK154.out)
          have n2_ := Aside0.mk (below_drew1 HB.out)
          clear BK153
          clear BK154
          clear HB
          have BK153 := n0_
          have BK154 := n1_
          have HB := n2_
          clear n0_ n1_ n2_
          have p155 : 0 ≤ (x5_2 : Int) := of_decide_eq_true (by first | (with_reducible assumption) | assumption)
          have q155 : x5_2 < (l0_0.length : Int) := of_decide_eq_true (by first | (with_reducible assumption) | assumption)
          obtain ⟨ad155, A155_3, c155_3, e155, hx155_0, hx155_1, hx155_2, hx155_3, hl155_3, hi155_3⟩ := at_T55 HR0_0.out x5_2 p155 q155
          have hw155_3 := hx155_3
          have hw155_2 := hx155_2
          have hw155_1 := hx155_1
          have hw155_0 := hx155_0
          cases e155
          replace hx155_0 := (HB.out.cell (World.block_lt_of_cell? w _ hx155_0)).trans hx155_0
          replace hx155_1 := (HB.out.cell (World.block_lt_of_cell? w _ hx155_1)).trans hx155_1
          replace hx155_2 := (HB.out.cell (World.block_lt_of_cell? w _ hx155_2)).trans hx155_2
          replace hx155_3 := (HB.out.cell (World.block_lt_of_cell? w _ hx155_3)).trans hx155_3
          have HR155_3 := Aside0.mk hi155_3
          have HC155_3 := Aside0.mk hl155_3
          clear hi155_3 hl155_3
          replace p155 := eq_true p155
          replace q155 := eq_true q155
          have p156 : 0 ≤ (x5_2 : Int) := of_decide_eq_true (by first | (with_reducible assumption) | assumption)
          have q156 : x5_2 < (l1_0.length : Int) := of_decide_eq_true (by first | (with_reducible assumption) | assumption)
          obtain ⟨ad156, A156_3, c156_3, e156, hx156_0, hx156_1, hx156_2, hx156_3, hl156_3, hi156_3⟩ := at_T55 HR1_0.out x5_2 p156 q156
          have hw156_3 := hx156_3
          have hw156_2 := hx156_2
          have hw156_1 := hx156_1
          have hw156_0 := hx156_0
          cases e156
          replace hx156_0 := (HB.out.cell (World.block_lt_of_cell? w _ hx156_0)).trans hx156_0
          replace hx156_1 := (HB.out.cell (World.block_lt_of_cell? w _ hx156_1)).trans hx156_1
          replace hx156_2 := (HB.out.cell (World.block_lt_of_cell? w _ hx156_2)).trans hx156_2
          replace hx156_3 := (HB.out.cell (World.block_lt_of_cell? w _ hx156_3)).trans hx156_3
          have HR156_3 := Aside0.mk hi156_3
          have HC156_3 := Aside0.mk hl156_3
          clear hi156_3 hl156_3
          replace p156 := eq_true p156
          replace q156 := eq_true q156
          refine start_ (n := 14) (S := fun w' => w'.cell? ⟨gb153, 0, none⟩ = some (.slice (some ad155) l0_0.length c0_0) ∧ w'.cell? ⟨gb153, 1, none⟩ = some (.int .i64 a0_1) ∧ w'.cell? ⟨gb154, 0, none⟩ = some (.slice (some ad156) l1_0.length c1_0) ∧ w'.cell? ⟨gb154, 1, none⟩ = some (.int .i64 a1_1) ∧ w'.cell? (ad155.add ((x5_2).toNat * 4)) = some (.int .i64 ((rd_T55 l0_0 x5_2).f0)) ∧ w'.cell? ⟨(ad155.add ((x5_2).toNat * 4)).block, (ad155.add ((x5_2).toNat * 4)).off + 1, none⟩ = some (.bool ((rd_T55 l0_0 x5_2).f1)) ∧ w'.cell? ⟨(ad155.add ((x5_2).toNat * 4)).block, (ad155.add ((x5_2).toNat * 4)).off + 2, none⟩ = some (.bool ((rd_T55 l0_0 x5_2).f2.f0)) ∧ w'.cell? ⟨(ad155.add ((x5_2).toNat * 4)).block, (ad155.add ((x5_2).toNat * 4)).off + 3, none⟩ = some (.slice A155_3 ((rd_T55 l0_0 x5_2).f2.f1).length c155_3) ∧ w'.cell? (ad156.add ((x5_2).toNat * 4)) = some (.int .i64 ((rd_T55 l1_0 x5_2).f0)) ∧ w'.cell? ⟨(ad156.add ((x5_2).toNat * 4)).block, (ad156.add ((x5_2).toNat * 4)).off + 1, none⟩ = some (.bool ((rd_T55 l1_0 x5_2).f1)) ∧ w'.cell? ⟨(ad156.add ((x5_2).toNat * 4)).block, (ad156.add ((x5_2).toNat * 4)).off + 2, none⟩ = some (.bool ((rd_T55 l1_0 x5_2).f2.f0)) ∧ w'.cell? ⟨(ad156.add ((x5_2).toNat * 4)).block, (ad156.add ((x5_2).toNat * 4)).off + 3, none⟩ = some (.slice A156_3 ((rd_T55 l1_0 x5_2).f2.f1).length c156_3)) (ds := []) #[false, false, false, false, false, false, false, false, false, false, false, false, false, false] (by kernel_rfl) rfl rfl ⟨(blk_cell BK153.out 0).trans rfl, (blk_cell BK153.out 1).trans rfl, (blk_cell BK154.out 0).trans rfl, (blk_cell BK154.out 1).trans rfl, ((HB.out.cell (World.block_lt_of_cell? w _ hw155_0)).trans hw155_0), ((HB.out.cell (World.block_lt_of_cell? w _ hw155_1)).trans hw155_1), ((HB.out.cell (World.block_lt_of_cell? w _ hw155_2)).trans hw155_2), ((HB.out.cell (World.block_lt_of_cell? w _ hw155_3)).trans hw155_3), ((HB.out.cell (World.block_lt_of_cell? w _ hw156_0)).trans hw156_0), ((HB.out.cell (World.block_lt_of_cell? w _ hw156_1)).trans hw156_1), ((HB.out.cell (World.block_lt_of_cell? w _ hw156_2)).trans hw156_2), ((HB.out.cell (World.block_lt_of_cell? w _ hw156_3)).trans hw156_3)⟩ (fun hHeld => ?_); refine with_tabW assartref05_Same.tab6 assartref05_Same.bits6 (fun HT_ HW_ => ?_)
          generalize wr.drew = w38 at BK153 BK154 HB HR155_3 HR156_3 hx155_0 hx155_1 hx155_2 hx155_3 hx156_0 hx156_1 hx156_2 hx156_3 hHeld ⊢
          refine pure_ (i := 0) (N := some 28) (v := ?_) (a' := ?_) #[true, false, false, false, false, false, false, false, false, false, false, false, false, false] rfl rfl (any_of HT_.out (by kernel_rfl)) (fun _ _ _ h => h) (Or.inl ⟨by rfl, ?_⟩) ?_ ?_
          rotate_left
          ·intro w'
           go_simp
           with_reducible rfl
          rotate_left
          ·simp only [Act.put, List.setIfInBounds_toArray, List.set_cons_zero, List.set_cons_succ, i64_w, i32_w]
           rfl
          refine pure_ (i := 2) (N := some 30) (v := ?_) (a' := ?_) #[true, false, true, false, false, false, false, false, false, false, false, false, false, false] rfl rfl (any_of HT_.out (by kernel_rfl)) (fun _ _ _ h => h) (Or.inl ⟨by rfl, ?_⟩) ?_ ?_
          rotate_left
          ·intro w'
           go_simp
           with_reducible rfl
          rotate_left
          ·simp only [Act.put, List.setIfInBounds_toArray, List.set_cons_zero, List.set_cons_succ, i64_w, i32_w]
           rfl
          refine pure_ (i := 6) (N := some 34) (v := ?_) (a' := ?_) #[true, false, true, false, false, false, true, false, false, false, false, false, false, false] rfl rfl (any_of HT_.out (by kernel_rfl)) (fun _ _ _ h => h) (Or.inl ⟨by rfl, ?_⟩) ?_ ?_
          rotate_left
          ·intro w'
           go_simp
           with_reducible rfl
          rotate_left
          ·simp only [Act.put, List.setIfInBounds_toArray, List.set_cons_zero, List.set_cons_succ, i64_w, i32_w]
           rfl
          refine pure_ (i := 8) (N := some 36) (v := ?_) (a' := ?_) #[true, false, true, false, false, false, true, false, true, false, false, false, false, false] rfl rfl (any_of HT_.out (by kernel_rfl)) (fun _ _ _ h => h) (Or.inl ⟨by rfl, ?_⟩) ?_ ?_
          rotate_left
          ·intro w'
           go_simp
           with_reducible rfl
          rotate_left
          ·simp only [Act.put, List.setIfInBounds_toArray, List.set_cons_zero, List.set_cons_succ, i64_w, i32_w]
           rfl
          refine take_ (i := 1) (N := some 29) (v := ?_) (a' := ?_) #[true, true, true, false, false, false, true, false, true, false, false, false, false, false] rfl rfl (take_ofW HT_.out HW_.out (by kernel_rfl)) (fun _ _ _ h => h) (Or.inl ⟨by rfl, ?_⟩) hHeld ?_ ?_
          rotate_left
          ·rintro w' ⟨s0, s1, s2, s3, s4, s5, s6, s7, s8, s9, s10, s11⟩
           go_simp
           with_reducible rfl
          rotate_left
          ·simp only [Act.put, List.setIfInBounds_toArray, List.set_cons_zero, List.set_cons_succ, i64_w, i32_w]
           rfl
          refine pure_ (i := 3) (N := some 31) (v := ?_) (a' := ?_) #[true, true, true, true, false, false, true, false, true, false, false, false, false, false] rfl rfl (any_of HT_.out (by kernel_rfl)) (fun _ _ _ h => h) (Or.inl ⟨by rfl, ?_⟩) ?_ ?_
          rotate_left
          ·intro w'
           go_simp
           with_reducible rfl
          rotate_left
          ·simp only [Act.put, List.setIfInBounds_toArray, List.set_cons_zero, List.set_cons_succ, i64_w, i32_w]
           rfl
          refine pure_ (i := 4) (N := some 32) (v := ?_) (a' := ?_) #[true, true, true, true, true, false, true, false, true, false, false, false, false, false] rfl rfl (any_of HT_.out (by kernel_rfl)) (fun _ _ _ h => h) (Or.inl ⟨by rfl, ?_⟩) ?_ ?_
          rotate_left
          ·intro w'
           go_simp
           with_reducible rfl
          rotate_left
          ·simp only [Act.put, List.setIfInBounds_toArray, List.set_cons_zero, List.set_cons_succ, i64_w, i32_w]
           rfl
          refine take_ (i := 5) (N := some 33) (v := ?_) (a' := ?_) #[true, true, true, true, true, true, true, false, true, false, false, false, false, false] rfl rfl (take_ofW HT_.out HW_.out (by kernel_rfl)) (fun _ _ _ h => h) (Or.inl ⟨by rfl, ?_⟩) hHeld ?_ ?_
          rotate_left
          ·rintro w' ⟨s0, s1, s2, s3, s4, s5, s6, s7, s8, s9, s10, s11⟩
           go_simp
           with_reducible rfl
          rotate_left
          ·simp only [Act.put, List.setIfInBounds_toArray, List.set_cons_zero, List.set_cons_succ, i64_w, i32_w]
           rfl
          refine take_ (i := 7) (N := some 35) (v := ?_) (a' := ?_) #[true, true, true, true, true, true, true, true, true, false, false, false, false, false] rfl rfl (take_ofW HT_.out HW_.out (by kernel_rfl)) (fun _ _ _ h => h) (Or.inl ⟨by rfl, ?_⟩) hHeld ?_ ?_
          rotate_left
          ·rintro w' ⟨s0, s1, s2, s3, s4, s5, s6, s7, s8, s9, s10, s11⟩
           go_simp
           with_reducible rfl
          rotate_left
          ·simp only [Act.put, List.setIfInBounds_toArray, List.set_cons_zero, List.set_cons_succ, i64_w, i32_w]
           rfl
          refine pure_ (i := 9) (N := some 37) (v := ?_) (a' := ?_) #[true, true, true, true, true, true, true, true, true, true, false, false, false, false] rfl rfl (any_of HT_.out (by kernel_rfl)) (fun _ _ _ h => h) (Or.inl ⟨by rfl, ?_⟩) ?_ ?_
          rotate_left
          ·intro w'
           go_simp
           with_reducible rfl
          rotate_left
          ·simp only [Act.put, List.setIfInBounds_toArray, List.set_cons_zero, List.set_cons_succ, i64_w, i32_w]
           rfl
          refine pure_ (i := 10) (N := some 38) (v := ?_) (a' := ?_) #[true, true, true, true, true, true, true, true, true, true, true, false, false, false] rfl rfl (any_of HT_.out (by kernel_rfl)) (fun _ _ _ h => h) (Or.inl ⟨by rfl, ?_⟩) ?_ ?_
          rotate_left
          ·intro w'
           go_simp
           with_reducible rfl
          rotate_left
          ·simp only [Act.put, List.setIfInBounds_toArray, List.set_cons_zero, List.set_cons_succ, i64_w, i32_w]
           rfl
          refine take_ (i := 11) (N := some 39) (v := ?_) (a' := ?_) #[true, true, true, true, true, true, true, true, true, true, true, true, false, false] rfl rfl (take_ofW HT_.out HW_.out (by kernel_rfl)) (fun _ _ _ h => h) (Or.inl ⟨by rfl, ?_⟩) hHeld ?_ ?_
          rotate_left
          ·rintro w' ⟨s0, s1, s2, s3, s4, s5, s6, s7, s8, s9, s10, s11⟩
           go_simp
           with_reducible rfl
          rotate_left
          ·simp only [Act.put, List.setIfInBounds_toArray, List.set_cons_zero, List.set_cons_succ, i64_w, i32_w]
           rfl
          refine one_ (i := 12) (N := some 40) #[true, true, true, true, true, true, true, true, true, true, true, true, true, false] rfl rfl (one_of HT_.out (by kernel_rfl)) (by decide) (fun K hK => ?_)
          refine goes_ Try.func53 (by kernel_rfl) rfl #[.agg #[.bool ((rd_T55 l0_0 x5_2).f2.f0), .slice A155_3 ((rd_T55 l0_0 x5_2).f2.f1).length c155_3], .agg #[.bool ((rd_T55 l1_0 x5_2).f2.f0), .slice A156_3 ((rd_T55 l1_0 x5_2).f2.f1).length c156_3]] (by rfl) rfl rfl (by (try simp only [List.map_toArray, List.map_cons, List.map_nil]); first | done | rfl | (simp only [List.length_drop, List.length_take]; rfl)) ?_
          with_reducible refine (assartref04_Same.calls k2 ((rd_T55 l0_0 x5_2).f2.f0) _ _ ((rd_T55 l0_0 x5_2).f2.f1) ((rd_T55 l1_0 x5_2).f2.f0) _ _ ((rd_T55 l1_0 x5_2).f2.f1) false _ ?side1 ?side2 ?side3 ?side4 A17.out).mono ?_
          (case side1 => repeat (first | exact (Kd.C_below HR155_3.out HB.out) | (with_reducible refine Kd.C_alloc ?_ _) | (with_reducible refine Kd.C_drewN ?_ _) | (with_reducible refine Kd.C_drew ?_)))
          (case side2 => exact HC155_3.out)
          (case side3 => repeat (first | exact (Kd.C_below HR156_3.out HB.out) | (with_reducible refine Kd.C_alloc ?_ _) | (with_reducible refine Kd.C_drewN ?_ _) | (with_reducible refine Kd.C_drew ?_)))
          (case side4 => exact HC156_3.out)
          rintro e w39 ⟨rfl, hb⟩
          refine ⟨_, rfl, ?_⟩
          have n0_ := Aside0.mk (blk_below (g := gb153) (o := .cells #[.slice (some ad155) l0_0.length c0_0, .int .i64 a0_1] 24 (0, 0)) (by (with_reducible repeat (first | refine blk_drewN ?_ _ | refine blk_drew ?_ | refine blk_alloc ?_ _)); exact BK153.out) hb)
          have n1_ := Aside0.mk (blk_below (g := gb154) (o := .cells #[.slice (some ad156) l1_0.length c1_0, .int .i64 a1_1] 24 (0, 0)) (by (with_reducible repeat (first | refine blk_drewN ?_ _ | refine blk_drew ?_ | refine blk_alloc ?_ _)); exact BK154.out) hb)
          have n2_ := Aside0.mk (below_step (by repeat (first | (with_reducible first | exact HB.out | apply below_alloc | apply pw_below_drewN | apply below_drew1 | refine below_set ?_ GE153.out | refine below_set ?_ GE154.out) | exact HB.out)) hb)
          clear BK153
          clear BK154
          clear HB
          have BK153 := n0_
          have BK154 := n1_
          have HB := n2_
          clear n0_ n1_ n2_
          (try clear hb)
          (try clear hb2)
          (try clear hk)
          (try clear hi)
          refine hK.out _ _ ⟨(blk_cell BK153.out 0).trans rfl, (blk_cell BK153.out 1).trans rfl, (blk_cell BK154.out 0).trans rfl, (blk_cell BK154.out 1).trans rfl, ((HB.out.cell (World.block_lt_of_cell? w _ hw155_0)).trans hw155_0), ((HB.out.cell (World.block_lt_of_cell? w _ hw155_1)).trans hw155_1), ((HB.out.cell (World.block_lt_of_cell? w _ hw155_2)).trans hw155_2), ((HB.out.cell (World.block_lt_of_cell? w _ hw155_3)).trans hw155_3), ((HB.out.cell (World.block_lt_of_cell? w _ hw156_0)).trans hw156_0), ((HB.out.cell (World.block_lt_of_cell? w _ hw156_1)).trans hw156_1), ((HB.out.cell (World.block_lt_of_cell? w _ hw156_2)).trans hw156_2), ((HB.out.cell (World.block_lt_of_cell? w _ hw156_3)).trans hw156_3)⟩ (fun hHeld => ?_)
          clear hK K
          refine norm_ (a' := ?_) ?_ ?_
          rotate_left
          ·show Act.put _ (some 40) _ = _
           simp only [Act.put, List.setIfInBounds_toArray, List.set_cons_zero, List.set_cons_succ, i64_w, i32_w]
           rfl
          refine pure_ (i := 13) (N := some 6) (v := ?_) (a' := ?_) #[true, true, true, true, true, true, true, true, true, true, true, true, true, true] rfl rfl (any_of HT_.out (by kernel_rfl)) (fun _ _ _ h => h) (Or.inl ⟨by rfl, ?_⟩) ?_ ?_
          rotate_left
          ·intro w'
           go_simp
           with_reducible rfl
          rotate_left
          ·simp only [Act.put, List.setIfInBounds_toArray, List.set_cons_zero, List.set_cons_succ, i64_w, i32_w]
           rfl
          refine done_ (done_of HT_.out (by kernel_rfl)) ?_
          try go_wp2
          have n0_ := Aside0.mk (blk_drew BK153.out)
          have n1_ := Aside0.mk (blk_drew BK154.out)
          have n2_ := Aside0.mk (below_drew1 HB.out)
          clear BK153
          clear BK154
          clear HB
          have BK153 := n0_
          have BK154 := n1_
          have HB := n2_
          clear n0_ n1_ n2_
          refine start_ (n := 32) (S := fun w' => True) (ds := []) #[false, false, false, false, false, false, false, false, false, false, false, false, false, false, false, false, false, false, false, false, false, false, false, false, false, false, false, false, false, false, false, false] (by kernel_rfl) rfl rfl trivial (fun hHeld => ?_); refine with_tabW assartref05_Same.tab7 assartref05_Same.bits7 (fun HT_ HW_ => ?_)
          generalize w39.drew = w40 at BK153 BK154 HB hHeld ⊢
          refine pure_ (i := 0) (N := some 41) (v := ?_) (a' := ?_) #[true, false, false, false, false, false, false, false, false, false, false, false, false, false, false, false, false, false, false, false, false, false, false, false, false, false, false, false, false, false, false, false] rfl rfl (any_of HT_.out (by kernel_rfl)) (fun _ _ _ h => h) (Or.inl ⟨by rfl, ?_⟩) ?_ ?_
          rotate_left
          ·intro w'
           go_simp
           with_reducible rfl
          rotate_left
          ·simp only [Act.put, List.setIfInBounds_toArray, List.set_cons_zero, List.set_cons_succ, i64_w, i32_w]
           rfl
          refine pure_ (i := 1) (N := some 42) (v := ?_) (a' := ?_) #[true, true, false, false, false, false, false, false, false, false, false, false, false, false, false, false, false, false, false, false, false, false, false, false, false, false, false, false, false, false, false, false] rfl rfl (any_of HT_.out (by kernel_rfl)) (fun _ _ _ h => h) (Or.inl ⟨by rfl, ?_⟩) ?_ ?_
          rotate_left
          ·intro w'
           go_simp
           with_reducible rfl
          rotate_left
          ·simp only [Act.put, List.setIfInBounds_toArray, List.set_cons_zero, List.set_cons_succ, i64_w, i32_w]
           rfl
          refine pure_ (i := 2) (N := some 43) (v := ?_) (a' := ?_) #[true, true, true, false, false, false, false, false, false, false, false, false, false, false, false, false, false, false, false, false, false, false, false, false, false, false, false, false, false, false, false, false] rfl rfl (any_of HT_.out (by kernel_rfl)) (fun _ _ _ h => h) (Or.inl ⟨by rfl, ?_⟩) ?_ ?_
          rotate_left
          ·intro w'
           go_simp
           with_reducible rfl
          rotate_left
          ·simp only [Act.put, List.setIfInBounds_toArray, List.set_cons_zero, List.set_cons_succ, i64_w, i32_w]
           rfl
          refine pure_ (i := 3) (N := some 44) (v := undef) (a' := ?_) #[true, true, true, true, false, false, false, false, false, false, false, false, false, false, false, false, false, false, false, false, false, false, false, false, false, false, false, false, false, false, false, false] rfl rfl (any_of HT_.out (by kernel_rfl)) (fun _ _ _ h => h) (Or.inr ⟨by rfl, rfl⟩) ?_ ?_
          rotate_left
          ·simp only [Act.put, List.setIfInBounds_toArray, List.set_cons_zero, List.set_cons_succ, i64_w, i32_w]
           rfl
          refine pure_ (i := 4) (N := some 45) (v := undef) (a' := ?_) #[true, true, true, true, true, false, false, false, false, false, false, false, false, false, false, false, false, false, false, false, false, false, false, false, false, false, false, false, false, false, false, false] rfl rfl (any_of HT_.out (by kernel_rfl)) (fun _ _ _ h => h) (Or.inr ⟨by rfl, rfl⟩) ?_ ?_
          rotate_left
          ·simp only [Act.put, List.setIfInBounds_toArray, List.set_cons_zero, List.set_cons_succ, i64_w, i32_w]
           rfl
          refine pure_ (i := 5) (N := some 46) (v := undef) (a' := ?_) #[true, true, true, true, true, true, false, false, false, false, false, false, false, false, false, false, false, false, false, false, false, false, false, false, false, false, false, false, false, false, false, false] rfl rfl (any_of HT_.out (by kernel_rfl)) (fun _ _ _ h => h) (Or.inr ⟨by rfl, rfl⟩) ?_ ?_
          rotate_left
          ·simp only [Act.put, List.setIfInBounds_toArray, List.set_cons_zero, List.set_cons_succ, i64_w, i32_w]
           rfl
          refine pure_ (i := 6) (N := some 47) (v := undef) (a' := ?_) #[true, true, true, true, true, true, true, false, false, false, false, false, false, false, false, false, false, false, false, false, false, false, false, false, false, false, false, false, false, false, false, false] rfl rfl (any_of HT_.out (by kernel_rfl)) (fun _ _ _ h => h) (Or.inr ⟨by rfl, rfl⟩) ?_ ?_
          rotate_left
          ·simp only [Act.put, List.setIfInBounds_toArray, List.set_cons_zero, List.set_cons_succ, i64_w, i32_w]
           rfl
          refine pure_ (i := 7) (N := some 48) (v := undef) (a' := ?_) #[true, true, true, true, true, true, true, true, false, false, false, false, false, false, false, false, false, false, false, false, false, false, false, false, false, false, false, false, false, false, false, false] rfl rfl (any_of HT_.out (by kernel_rfl)) (fun _ _ _ h => h) (Or.inr ⟨by rfl, rfl⟩) ?_ ?_
          rotate_left
          ·simp only [Act.put, List.setIfInBounds_toArray, List.set_cons_zero, List.set_cons_succ, i64_w, i32_w]
           rfl
          refine pure_ (i := 8) (N := some 49) (v := undef) (a' := ?_) #[true, true, true, true, true, true, true, true, true, false, false, false, false, false, false, false, false, false, false, false, false, false, false, false, false, false, false, false, false, false, false, false] rfl rfl (any_of HT_.out (by kernel_rfl)) (fun _ _ _ h => h) (Or.inr ⟨by rfl, rfl⟩) ?_ ?_
          rotate_left
          ·simp only [Act.put, List.setIfInBounds_toArray, List.set_cons_zero, List.set_cons_succ, i64_w, i32_w]
           rfl
          refine pure_ (i := 9) (N := some 50) (v := undef) (a' := ?_) #[true, true, true, true, true, true, true, true, true, true, false, false, false, false, false, false, false, false, false, false, false, false, false, false, false, false, false, false, false, false, false, false] rfl rfl (any_of HT_.out (by kernel_rfl)) (fun _ _ _ h => h) (Or.inr ⟨by rfl, rfl⟩) ?_ ?_
          rotate_left
          ·simp only [Act.put, List.setIfInBounds_toArray, List.set_cons_zero, List.set_cons_succ, i64_w, i32_w]
           rfl
          refine pure_ (i := 10) (N := some 51) (v := undef) (a' := ?_) #[true, true, true, true, true, true, true, true, true, true, true, false, false, false, false, false, false, false, false, false, false, false, false, false, false, false, false, false, false, false, false, false] rfl rfl (any_of HT_.out (by kernel_rfl)) (fun _ _ _ h => h) (Or.inr ⟨by rfl, rfl⟩) ?_ ?_
          rotate_left
          ·simp only [Act.put, List.setIfInBounds_toArray, List.set_cons_zero, List.set_cons_succ, i64_w, i32_w]
           rfl
          refine pure_ (i := 11) (N := some 52) (v := undef) (a' := ?_) #[true, true, true, true, true, true, true, true, true, true, true, true, false, false, false, false, false, false, false, false, false, false, false, false, false, false, false, false, false, false, false, false] rfl rfl (any_of HT_.out (by kernel_rfl)) (fun _ _ _ h => h) (Or.inr ⟨by rfl, rfl⟩) ?_ ?_
          rotate_left
          ·simp only [Act.put, List.setIfInBounds_toArray, List.set_cons_zero, List.set_cons_succ, i64_w, i32_w]
           rfl
          refine pure_ (i := 12) (N := some 53) (v := undef) (a' := ?_) #[true, true, true, true, true, true, true, true, true, true, true, true, true, false, false, false, false, false, false, false, false, false, false, false, false, false, false, false, false, false, false, false] rfl rfl (any_of HT_.out (by kernel_rfl)) (fun _ _ _ h => h) (Or.inr ⟨by rfl, rfl⟩) ?_ ?_
          rotate_left
          ·simp only [Act.put, List.setIfInBounds_toArray, List.set_cons_zero, List.set_cons_succ, i64_w, i32_w]
           rfl
          refine pure_ (i := 13) (N := some 54) (v := undef) (a' := ?_) #[true, true, true, true, true, true, true, true, true, true, true, true, true, true, false, false, false, false, false, false, false, false, false, false, false, false, false, false, false, false, false, false] rfl rfl (any_of HT_.out (by kernel_rfl)) (fun _ _ _ h => h) (Or.inr ⟨by rfl, rfl⟩) ?_ ?_
          rotate_left
          ·simp only [Act.put, List.setIfInBounds_toArray, List.set_cons_zero, List.set_cons_succ, i64_w, i32_w]
           rfl
          refine pure_ (i := 14) (N := some 55) (v := undef) (a' := ?_) #[true, true, true, true, true, true, true, true, true, true, true, true, true, true, true, false, false, false, false, false, false, false, false, false, false, false, false, false, false, false, false, false] rfl rfl (any_of HT_.out (by kernel_rfl)) (fun _ _ _ h => h) (Or.inr ⟨by rfl, rfl⟩) ?_ ?_
          rotate_left
          ·simp only [Act.put, List.setIfInBounds_toArray, List.set_cons_zero, List.set_cons_succ, i64_w, i32_w]
           rfl
          refine pure_ (i := 15) (N := some 56) (v := undef) (a' := ?_) #[true, true, true, true, true, true, true, true, true, true, true, true, true, true, true, true, false, false, false, false, false, false, false, false, false, false, false, false, false, false, false, false] rfl rfl (any_of HT_.out (by kernel_rfl)) (fun _ _ _ h => h) (Or.inr ⟨by rfl, rfl⟩) ?_ ?_
          rotate_left
          ·simp only [Act.put, List.setIfInBounds_toArray, List.set_cons_zero, List.set_cons_succ, i64_w, i32_w]
           rfl
          refine pure_ (i := 16) (N := some 57) (v := ?_) (a' := ?_) #[true, true, true, true, true, true, true, true, true, true, true, true, true, true, true, true, true, false, false, false, false, false, false, false, false, false, false, false, false, false, false, false] rfl rfl (any_of HT_.out (by kernel_rfl)) (fun _ _ _ h => h) (Or.inl ⟨by rfl, ?_⟩) ?_ ?_
          rotate_left
          ·intro w'
           go_simp
           with_reducible rfl
          rotate_left
          ·simp only [Act.put, List.setIfInBounds_toArray, List.set_cons_zero, List.set_cons_succ, i64_w, i32_w]
           rfl
          refine pure_ (i := 17) (N := some 58) (v := ?_) (a' := ?_) #[true, true, true, true, true, true, true, true, true, true, true, true, true, true, true, true, true, true, false, false, false, false, false, false, false, false, false, false, false, false, false, false] rfl rfl (any_of HT_.out (by kernel_rfl)) (fun _ _ _ h => h) (Or.inl ⟨by rfl, ?_⟩) ?_ ?_
          rotate_left
          ·intro w'
           go_simp
           with_reducible rfl
          rotate_left
          ·simp only [Act.put, List.setIfInBounds_toArray, List.set_cons_zero, List.set_cons_succ, i64_w, i32_w]
           rfl
          refine pure_ (i := 18) (N := some 59) (v := undef) (a' := ?_) #[true, true, true, true, true, true, true, true, true, true, true, true, true, true, true, true, true, true, true, false, false, false, false, false, false, false, false, false, false, false, false, false] rfl rfl (any_of HT_.out (by kernel_rfl)) (fun _ _ _ h => h) (Or.inr ⟨by rfl, rfl⟩) ?_ ?_
          rotate_left
          ·simp only [Act.put, List.setIfInBounds_toArray, List.set_cons_zero, List.set_cons_succ, i64_w, i32_w]
           rfl
          refine pure_ (i := 19) (N := some 60) (v := undef) (a' := ?_) #[true, true, true, true, true, true, true, true, true, true, true, true, true, true, true, true, true, true, true, true, false, false, false, false, false, false, false, false, false, false, false, false] rfl rfl (any_of HT_.out (by kernel_rfl)) (fun _ _ _ h => h) (Or.inr ⟨by rfl, rfl⟩) ?_ ?_
          rotate_left
          ·simp only [Act.put, List.setIfInBounds_toArray, List.set_cons_zero, List.set_cons_succ, i64_w, i32_w]
           rfl
          refine pure_ (i := 20) (N := some 61) (v := undef) (a' := ?_) #[true, true, true, true, true, true, true, true, true, true, true, true, true, true, true, true, true, true, true, true, true, false, false, false, false, false, false, false, false, false, false, false] rfl rfl (any_of HT_.out (by kernel_rfl)) (fun _ _ _ h => h) (Or.inr ⟨by rfl, rfl⟩) ?_ ?_
          rotate_left
          ·simp only [Act.put, List.setIfInBounds_toArray, List.set_cons_zero, List.set_cons_succ, i64_w, i32_w]
           rfl
          refine pure_ (i := 21) (N := some 62) (v := undef) (a' := ?_) #[true, true, true, true, true, true, true, true, true, true, true, true, true, true, true, true, true, true, true, true, true, true, false, false, false, false, false, false, false, false, false, false] rfl rfl (any_of HT_.out (by kernel_rfl)) (fun _ _ _ h => h) (Or.inr ⟨by rfl, rfl⟩) ?_ ?_
          rotate_left
          ·simp only [Act.put, List.setIfInBounds_toArray, List.set_cons_zero, List.set_cons_succ, i64_w, i32_w]
           rfl
          refine pure_ (i := 22) (N := some 63) (v := undef) (a' := ?_) #[true, true, true, true, true, true, true, true, true, true, true, true, true, true, true, true, true, true, true, true, true, true, true, false, false, false, false, false, false, false, false, false] rfl rfl (any_of HT_.out (by kernel_rfl)) (fun _ _ _ h => h) (Or.inr ⟨by rfl, rfl⟩) ?_ ?_
          rotate_left
          ·simp only [Act.put, List.setIfInBounds_toArray, List.set_cons_zero, List.set_cons_succ, i64_w, i32_w]
           rfl
          refine pure_ (i := 23) (N := some 64) (v := undef) (a' := ?_) #[true, true, true, true, true, true, true, true, true, true, true, true, true, true, true, true, true, true, true, true, true, true, true, true, false, false, false, false, false, false, false, false] rfl rfl (any_of HT_.out (by kernel_rfl)) (fun _ _ _ h => h) (Or.inr ⟨by rfl, rfl⟩) ?_ ?_
          rotate_left
          ·simp only [Act.put, List.setIfInBounds_toArray, List.set_cons_zero, List.set_cons_succ, i64_w, i32_w]
           rfl
          refine pure_ (i := 24) (N := some 65) (v := undef) (a' := ?_) #[true, true, true, true, true, true, true, true, true, true, true, true, true, true, true, true, true, true, true, true, true, true, true, true, true, false, false, false, false, false, false, false] rfl rfl (any_of HT_.out (by kernel_rfl)) (fun _ _ _ h => h) (Or.inr ⟨by rfl, rfl⟩) ?_ ?_
          rotate_left
          ·simp only [Act.put, List.setIfInBounds_toArray, List.set_cons_zero, List.set_cons_succ, i64_w, i32_w]
           rfl
          refine pure_ (i := 25) (N := some 66) (v := undef) (a' := ?_) #[true, true, true, true, true, true, true, true, true, true, true, true, true, true, true, true, true, true, true, true, true, true, true, true, true, true, false, false, false, false, false, false] rfl rfl (any_of HT_.out (by kernel_rfl)) (fun _ _ _ h => h) (Or.inr ⟨by rfl, rfl⟩) ?_ ?_
          rotate_left
          ·simp only [Act.put, List.setIfInBounds_toArray, List.set_cons_zero, List.set_cons_succ, i64_w, i32_w]
           rfl
          refine pure_ (i := 26) (N := some 67) (v := undef) (a' := ?_) #[true, true, true, true, true, true, true, true, true, true, true, true, true, true, true, true, true, true, true, true, true, true, true, true, true, true, true, false, false, false, false, false] rfl rfl (any_of HT_.out (by kernel_rfl)) (fun _ _ _ h => h) (Or.inr ⟨by rfl, rfl⟩) ?_ ?_
          rotate_left
          ·simp only [Act.put, List.setIfInBounds_toArray, List.set_cons_zero, List.set_cons_succ, i64_w, i32_w]
           rfl
          refine pure_ (i := 27) (N := some 68) (v := undef) (a' := ?_) #[true, true, true, true, true, true, true, true, true, true, true, true, true, true, true, true, true, true, true, true, true, true, true, true, true, true, true, true, false, false, false, false] rfl rfl (any_of HT_.out (by kernel_rfl)) (fun _ _ _ h => h) (Or.inr ⟨by rfl, rfl⟩) ?_ ?_
          rotate_left
          ·simp only [Act.put, List.setIfInBounds_toArray, List.set_cons_zero, List.set_cons_succ, i64_w, i32_w]
           rfl
          refine pure_ (i := 28) (N := some 69) (v := undef) (a' := ?_) #[true, true, true, true, true, true, true, true, true, true, true, true, true, true, true, true, true, true, true, true, true, true, true, true, true, true, true, true, true, false, false, false] rfl rfl (any_of HT_.out (by kernel_rfl)) (fun _ _ _ h => h) (Or.inr ⟨by rfl, rfl⟩) ?_ ?_
          rotate_left
          ·simp only [Act.put, List.setIfInBounds_toArray, List.set_cons_zero, List.set_cons_succ, i64_w, i32_w]
           rfl
          refine pure_ (i := 29) (N := some 70) (v := undef) (a' := ?_) #[true, true, true, true, true, true, true, true, true, true, true, true, true, true, true, true, true, true, true, true, true, true, true, true, true, true, true, true, true, true, false, false] rfl rfl (any_of HT_.out (by kernel_rfl)) (fun _ _ _ h => h) (Or.inr ⟨by rfl, rfl⟩) ?_ ?_
          rotate_left
          ·simp only [Act.put, List.setIfInBounds_toArray, List.set_cons_zero, List.set_cons_succ, i64_w, i32_w]
           rfl
          refine pure_ (i := 30) (N := some 71) (v := undef) (a' := ?_) #[true, true, true, true, true, true, true, true, true, true, true, true, true, true, true, true, true, true, true, true, true, true, true, true, true, true, true, true, true, true, true, false] rfl rfl (any_of HT_.out (by kernel_rfl)) (fun _ _ _ h => h) (Or.inr ⟨by rfl, rfl⟩) ?_ ?_
          rotate_left
          ·simp only [Act.put, List.setIfInBounds_toArray, List.set_cons_zero, List.set_cons_succ, i64_w, i32_w]
           rfl
          refine pure_ (i := 31) (N := some 72) (v := ?_) (a' := ?_) #[true, true, true, true, true, true, true, true, true, true, true, true, true, true, true, true, true, true, true, true, true, true, true, true, true, true, true, true, true, true, true, true] rfl rfl (any_of HT_.out (by kernel_rfl)) (fun _ _ _ h => h) (Or.inl ⟨by rfl, ?_⟩) ?_ ?_
          rotate_left
          ·intro w'
           go_simp
           with_reducible rfl
          rotate_left
          ·simp only [Act.put, List.setIfInBounds_toArray, List.set_cons_zero, List.set_cons_succ, i64_w, i32_w]
           rfl
          refine done_ (done_of HT_.out (by kernel_rfl)) ?_
          try go_wp2
          go_ret
          exact ⟨by first | rfl | (simp [errW_none, errW_some] <;> rfl) | (simp [*, errW_none, errW_some] <;> rfl), by repeat (first | (with_reducible first | exact HB.out | apply below_alloc | apply pw_below_drewN | apply below_drew1 | refine below_set ?_ GE153.out | refine below_set ?_ GE154.out) | exact HB.out)⟩
        ·rw [if_neg c16] at H
         exact absurd H (by simp)
       ·rw [if_neg c15] at H
        exact absurd H (by simp)
      ·rw [if_neg c14] at H
       have c14b0 : decide (x5_2 < (l0_0.length : Int)) = false := decide_eq_false c14
       clear c14
       obtain rfl := Option.some.inj H
       have hnb41 := NB153_154.out
       have hnc41 := NB154_153.out
       have hcz42_0 : wr.cell? ⟨gb153, 0, none⟩ = some (.slice A0_0 l0_0.length c0_0) := (blk_cell BK153.out 0).trans rfl
       have hcz42_1 : wr.cell? ⟨gb153, 1, none⟩ = some (.int .i64 a0_1) := (blk_cell BK153.out 1).trans rfl
       have hfz42_0 := blk_frozen BK153.out 0
       have hfz42_1 := blk_frozen BK153.out 1
       go_wp2
       go_ret
       exact ⟨by first | rfl | (simp [errW_none, errW_some] <;> rfl) | (simp [*, errW_none, errW_some] <;> rfl), by repeat (first | (with_reducible first | exact HB.out | apply below_alloc | apply pw_below_drewN | apply below_drew1 | refine below_set ?_ GE153.out | refine below_set ?_ GE154.out) | exact HB.out)⟩
end Go.Proofs.Yteiladccdenpbaa.P
end
section
namespace Go.Proofs.Yteiladccdenpbaa.P
open Go.RowKit Go.Proofs.YteiladccdenpbaaW.PrintWords Go.Proofs.YteiladccdenpbaaW.PrintLast Go.Proofs.YteiladccdenpbaaW.PrintMore
attribute [local go_sem] max2_int min2_int max_two min_two max_three min_three max_four min_four
set_option linter.unusedVariables false
set_option linter.unusedSimpArgs false
def heap_Free.l0 : Nat → Int → List (S55) → Int → Int → Option (Int)
 | 0, _, _, _, _ => none
 | k + 1, x3, x7, x8, x9 => if x9 < x8 then (if 0 ≤ x9 then (if x9 < (x7.length : Int) then ((heap_isFree.f ((rd_T55 x7 x9).f0) ((rd_T55 x7 x9).f1) ((rd_T55 x7 x9).f2.f0) ((rd_T55 x7 x9).f2.f1)).bind fun t124 => (if t124 = true then (heap_Free.l0 k (wrap64 (x3 + 1)) x7 x8 (wrap64 (x9 + 1))) else (heap_Free.l0 k x3 x7 x8 (wrap64 (x9 + 1))))) else (none)) else (none)) else (some x3)
def heap_Free.f (k : Nat) (l0_0 : List (S55)) (a0_1 : Int) : Option (Int) := heap_Free.l0 k 0 l0_0 (l0_0.length : Int) 0
set_option maxHeartbeats 8000000 in
set_option maxRecDepth 100000 in
theorem heap_Free.calls (k : Nat) (A0_0 : Option Addr) (c0_0 : Nat) (l0_0 : List (S55)) (a0_1 : Int) (r : Int) (w : World) (hr0_0 : Kd.C k55 w A0_0 l0_0.length l0_0) (hc0_0 : l0_0.length ≤ c0_0) (h : heap_Free.f k l0_0 a0_1 = some r) :
  Calls Try.prog 40 #[.agg #[.slice A0_0 l0_0.length c0_0, .int .i64 a0_1]] w fun e w' => e = .returned (.int .i64 r) ∧ Below w.heap.size w w' := by
 have hu24 := Try.underlying24
 have hu55 := Try.underlying55
 have HR0_0 := Aside0.mk hr0_0
 have HC0_0 := Aside0.mk hc0_0
 clear hr0_0 hc0_0
 have HB := Aside0.mk (Below.refl w.heap.size w)
 have H : (heap_Free.l0 k 0 l0_0 (l0_0.length : Int) 0) = some r := h
 clear h
 have H' := Aside0.mk H
 clear H
 go_enter Try.func40, Try.ntmps40
 go_wp2_with (first | ((with_reducible refine gate_dst (N := 1) rfl ?_); refine box_event ?hg (N := 1) ?hd (cs := #[.slice A0_0 l0_0.length c0_0, .int .i64 a0_1]) (t := 24) ?hr ?_; (case hd => rfl); (case hg => rfl); (case hr => first | (go_simp; done) | (go_simp; rfl)); intro gb121 hg w2 hbox hb; have n0_ := Aside0.mk (below_step (by repeat (first | (with_reducible first | exact HB.out | apply below_alloc | apply pw_below_drewN | apply below_drew1) | exact HB.out)) hb); have n1_ := Aside0.mk (hbox); have n2_ := Aside0.mk ((by rw [hg]; exact (below_size (by repeat (first | (with_reducible first | exact HB.out | apply below_alloc | apply pw_below_drewN | apply below_drew1) | exact HB.out))) : w.heap.size ≤ gb121)); have n3_ := Aside0.mk ((by rw [hg]; exact (below_size (by repeat (first | (with_reducible first | exact HB.out | apply below_alloc | apply pw_below_drewN | apply below_drew1) | exact HB.out))) : w.heap.size ≤ gb121)); clear HB; have HB := n0_; have BK121 := n1_; have GW121 := n2_; have GE121 := n3_; clear n0_ n1_ n2_ n3_; clear hb hbox hg; have hcz3_0 : w2.cell? ⟨gb121, 0, none⟩ = some (.slice A0_0 l0_0.length c0_0) := (blk_cell BK121.out 0).trans rfl; have hcz3_1 : w2.cell? ⟨gb121, 1, none⟩ = some (.int .i64 a0_1) := (blk_cell BK121.out 1).trans rfl; have hfz3_0 := blk_frozen BK121.out 0; have hfz3_1 := blk_frozen BK121.out 1))
 go_loopg [3, 9] k (fun kq v3 v9 w' => ∃ (x3_1 : Int) (x9_1 : Int), v3 = .int .i64 x3_1 ∧ v9 = .int .i64 x9_1 ∧ Aside0 (heap_Free.l0 kq x3_1 l0_0 (l0_0.length : Int) x9_1 = some r) ∧ Aside0 (kq ≤ k) ∧ Aside0 (w'.heap[gb121]? = some (.cells #[(.slice A0_0 l0_0.length c0_0), .int .i64 a0_1] 24 (0, 0))) ∧ Aside0 (Below w.heap.size w w'))
 case atStart => exact ⟨(0), (0), (by first | rfl | (simp; done) | (simp [*]; done)), (by first | rfl | (simp; done) | (simp [*]; done)), H', ⟨Nat.le_refl _⟩, ⟨by (with_reducible repeat (first | refine blk_drewN ?_ _ | refine blk_drew ?_ | refine blk_alloc ?_ _)); exact BK121.out⟩, ⟨by repeat (first | (with_reducible first | exact HB.out | apply below_alloc | apply pw_below_drewN | apply below_drew1 | refine below_set ?_ GE121.out) | exact HB.out)⟩⟩
 case round =>
  clear H'
  try clear p2
  try clear hcz3_0
  try clear hcz3_1
  try clear hfz3_0
  try clear hfz3_1
  obtain ⟨x3_1, x9_1, rfl, rfl, HA, HK1, BK121, HB⟩ := hrel
  cases gk with
  | zero => exact absurd HA.out (by simp [heap_Free.l0])
  | succ k1 =>
   have H := HA.out
   clear HA
   simp only [heap_Free.l0] at H
   by_cases c4 : x9_1 < (l0_0.length : Int)
   ·rw [if_pos c4] at H
    have c4b0 : decide (x9_1 < (l0_0.length : Int)) = true := decide_eq_true c4
    clear c4
    by_cases c5 : 0 ≤ x9_1
    ·rw [if_pos c5] at H
     have c5b0 : decide (0 ≤ x9_1) = true := decide_eq_true c5
     clear c5
     by_cases c6 : x9_1 < (l0_0.length : Int)
     ·rw [if_pos c6] at H
      have c6b0 : decide (x9_1 < (l0_0.length : Int)) = true := decide_eq_true c6
      clear c6
      replace H := Option.bind_eq_some_iff.mp H
      obtain ⟨t124, A70, H⟩ := H
      replace H : (if t124 = true then (heap_Free.l0 k1 (wrap64 (x3_1 + 1)) l0_0 (l0_0.length : Int) (wrap64 (x9_1 + 1))) else (heap_Free.l0 k1 x3_1 l0_0 (l0_0.length : Int) (wrap64 (x9_1 + 1)))) = some r := H
      have A7 := Aside0.mk A70
      clear A70
      by_cases c8 : t124 = true
      ·subst c8
       have H1 : (heap_Free.l0 k1 (wrap64 (x3_1 + 1)) l0_0 (l0_0.length : Int) (wrap64 (x9_1 + 1))) = some r := by rw [if_pos rfl] at H; exact H
       clear H
       have H := H1
       clear H1
       have H' := Aside0.mk H
       clear H
       have p122 : 0 ≤ (x9_1 : Int) := of_decide_eq_true (by first | (with_reducible assumption) | assumption)
       have q122 : x9_1 < (l0_0.length : Int) := of_decide_eq_true (by first | (with_reducible assumption) | assumption)
       obtain ⟨ad122, A122_3, c122_3, e122, hx122_0, hx122_1, hx122_2, hx122_3, hl122_3, hi122_3⟩ := at_T55 HR0_0.out x9_1 p122 q122
       cases e122
       replace hx122_0 := (HB.out.cell (World.block_lt_of_cell? w _ hx122_0)).trans hx122_0
       replace hx122_1 := (HB.out.cell (World.block_lt_of_cell? w _ hx122_1)).trans hx122_1
       replace hx122_2 := (HB.out.cell (World.block_lt_of_cell? w _ hx122_2)).trans hx122_2
       replace hx122_3 := (HB.out.cell (World.block_lt_of_cell? w _ hx122_3)).trans hx122_3
       have HR122_3 := Aside0.mk hi122_3
       have HC122_3 := Aside0.mk hl122_3
       clear hi122_3 hl122_3
       replace p122 := eq_true p122
       replace q122 := eq_true q122
       go_wp2_with (first | ((with_reducible refine gate_dst (N := 5) rfl ?_); refine box_event ?hg (N := 5) ?hd (cs := #[.int .i64 0, .bool false, .bool false, .slice none 0 0]) (t := 55) ?hr ?_; (case hd => rfl); (case hg => rfl); (case hr => first | (go_simp; done) | (go_simp; rfl)); intro gb123 hg w9 hbox hb; have n0_ := Aside0.mk (blk_below (g := gb121) (o := .cells #[.slice (some ad122) l0_0.length c0_0, .int .i64 a0_1] 24 (0, 0)) (by (with_reducible repeat (first | refine blk_drewN ?_ _ | refine blk_drew ?_ | refine blk_alloc ?_ _)); exact BK121.out) hb); have n1_ := Aside0.mk (below_step (by repeat (first | (with_reducible first | exact HB.out | apply below_alloc | apply pw_below_drewN | apply below_drew1 | refine below_set ?_ GE121.out) | exact HB.out)) hb); have n2_ := Aside0.mk (hbox); have n3_ := Aside0.mk ((by rw [hg]; exact (below_size (by repeat (first | (with_reducible first | exact HB.out | apply below_alloc | apply pw_below_drewN | apply below_drew1 | refine below_set ?_ GE121.out) | exact HB.out))) : w.heap.size ≤ gb123)); have n4_ := Aside0.mk ((by rw [hg]; exact (below_size (by repeat (first | (with_reducible first | exact HB.out | apply below_alloc | apply pw_below_drewN | apply below_drew1 | refine below_set ?_ GE121.out) | exact HB.out))) : w.heap.size ≤ gb123)); have n5_ := Aside0.mk ((by rw [hg]; exact Nat.ne_of_lt (blk_lt (g := gb121) (o := .cells #[.slice (some ad122) l0_0.length c0_0, .int .i64 a0_1] 24 (0, 0)) (by (with_reducible repeat (first | refine blk_drewN ?_ _ | refine blk_drew ?_ | refine blk_alloc ?_ _)); exact BK121.out)) : gb121 ≠ gb123)); have n6_ := Aside0.mk ((by rw [hg]; exact Nat.ne_of_gt (blk_lt (g := gb121) (o := .cells #[.slice (some ad122) l0_0.length c0_0, .int .i64 a0_1] 24 (0, 0)) (by (with_reducible repeat (first | refine blk_drewN ?_ _ | refine blk_drew ?_ | refine blk_alloc ?_ _)); exact BK121.out)) : gb123 ≠ gb121)); clear BK121; clear HB; have BK121 := n0_; have HB := n1_; have BK123 := n2_; have GW123 := n3_; have GE123 := n4_; have NB121_123 := n5_; have NB123_121 := n6_; clear n0_ n1_ n2_ n3_ n4_ n5_ n6_; clear hb hbox hg; have hnb10 := NB123_121.out; have hnc10 := NB121_123.out; have hcz11_0 : w9.cell? ⟨gb123, 0, none⟩ = some (.int .i64 0) := (blk_cell BK123.out 0).trans rfl; have hcz11_1 : w9.cell? ⟨gb123, 1, none⟩ = some (.bool false) := (blk_cell BK123.out 1).trans rfl; have hcz11_2 : w9.cell? ⟨gb123, 2, none⟩ = some (.bool false) := (blk_cell BK123.out 2).trans rfl; have hcz11_3 : w9.cell? ⟨gb123, 3, none⟩ = some (.slice none 0 0) := (blk_cell BK123.out 3).trans rfl; have hfz11_0 := blk_frozen BK123.out 0; have hfz11_1 := blk_frozen BK123.out 1; have hfz11_2 := blk_frozen BK123.out 2; have hfz11_3 := blk_frozen BK123.out 3) | ((with_reducible refine gate_callee (f := 70) rfl ?_); refine goesL_ (some 14) rfl rfl Try.func70 (by kernel_rfl) rfl #[.agg #[.int .i64 ((rd_T55 l0_0 x9_1).f0), .bool ((rd_T55 l0_0 x9_1).f1), .bool ((rd_T55 l0_0 x9_1).f2.f0), .slice A122_3 ((rd_T55 l0_0 x9_1).f2.f1).length c122_3]] rfl (by (try simp only [List.map_toArray, List.map_cons, List.map_nil]); first | done | rfl | (simp only [List.length_drop, List.length_take]; rfl)) ?_; (with_reducible refine (heap_isFree.calls ((rd_T55 l0_0 x9_1).f0) ((rd_T55 l0_0 x9_1).f1) ((rd_T55 l0_0 x9_1).f2.f0) _ _ ((rd_T55 l0_0 x9_1).f2.f1) true _ ?side1 ?side2 A7.out).mono ?_); (case side1 => exact Kd.C_below HR122_3.out (by repeat (first | (with_reducible first | exact HB.out | apply below_alloc | apply pw_below_drewN | apply below_drew1 | refine below_set ?_ GE121.out | refine below_set ?_ GE123.out) | exact HB.out))); (case side2 => exact HC122_3.out); rintro e w12 ⟨rfl, hb⟩; refine ⟨_, rfl, ?_⟩; have n0_ := Aside0.mk (blk_below (g := gb121) (o := .cells #[.slice (some ad122) l0_0.length c0_0, .int .i64 a0_1] 24 (0, 0)) (by (with_reducible repeat (first | refine blk_drewN ?_ _ | refine blk_drew ?_ | refine blk_alloc ?_ _)); refine blk_far ?_ NB121_123.out _; (with_reducible repeat (first | refine blk_drewN ?_ _ | refine blk_drew ?_ | refine blk_alloc ?_ _)); refine blk_far ?_ NB121_123.out _; (with_reducible repeat (first | refine blk_drewN ?_ _ | refine blk_drew ?_ | refine blk_alloc ?_ _)); refine blk_far ?_ NB121_123.out _; (with_reducible repeat (first | refine blk_drewN ?_ _ | refine blk_drew ?_ | refine blk_alloc ?_ _)); refine blk_far ?_ NB121_123.out _; (with_reducible repeat (first | refine blk_drewN ?_ _ | refine blk_drew ?_ | refine blk_alloc ?_ _)); exact BK121.out) hb); have n1_ := Aside0.mk (blk_below (g := gb123) (o := .cells #[.int .i64 ((rd_T55 l0_0 x9_1).f0), .bool ((rd_T55 l0_0 x9_1).f1), .bool ((rd_T55 l0_0 x9_1).f2.f0), .slice A122_3 ((rd_T55 l0_0 x9_1).f2.f1).length c122_3] 55 (0, 0)) (by (with_reducible repeat (first | refine blk_drewN ?_ _ | refine blk_drew ?_ | refine blk_alloc ?_ _)); refine blk_put (cs := #[.int .i64 ((rd_T55 l0_0 x9_1).f0), .bool ((rd_T55 l0_0 x9_1).f1), .bool ((rd_T55 l0_0 x9_1).f2.f0), .slice none 0 0]) ?_ 3 _ rfl; (with_reducible repeat (first | refine blk_drewN ?_ _ | refine blk_drew ?_ | refine blk_alloc ?_ _)); refine blk_put (cs := #[.int .i64 ((rd_T55 l0_0 x9_1).f0), .bool ((rd_T55 l0_0 x9_1).f1), .bool false, .slice none 0 0]) ?_ 2 _ rfl; (with_reducible repeat (first | refine blk_drewN ?_ _ | refine blk_drew ?_ | refine blk_alloc ?_ _)); refine blk_put (cs := #[.int .i64 ((rd_T55 l0_0 x9_1).f0), .bool false, .bool false, .slice none 0 0]) ?_ 1 _ rfl; (with_reducible repeat (first | refine blk_drewN ?_ _ | refine blk_drew ?_ | refine blk_alloc ?_ _)); refine blk_put (cs := #[.int .i64 0, .bool false, .bool false, .slice none 0 0]) ?_ 0 _ rfl; (with_reducible repeat (first | refine blk_drewN ?_ _ | refine blk_drew ?_ | refine blk_alloc ?_ _)); exact BK123.out) hb); have n2_ := Aside0.mk (below_step (by repeat (first | (with_reducible first | exact HB.out | apply below_alloc | apply pw_below_drewN | apply below_drew1 | refine below_set ?_ GE121.out | refine below_set ?_ GE123.out) | exact HB.out)) hb); clear BK121; clear BK123; clear HB; have BK121 := n0_; have BK123 := n1_; have HB := n2_; clear n0_ n1_ n2_; (try clear hb); (try clear hb2); (try clear hk); (try clear hi)))
       go_roundg k1
       case measure => have := HK1.out; omega
       case rel => exact ⟨(wrap64 (x3_1 + 1)), (wrap64 (x9_1 + 1)), (by first | rfl | (simp; done) | (simp [*]; done)), (by first | rfl | (simp; done) | (simp [*]; done)), H', ⟨by have := HK1.out; omega⟩, ⟨by (with_reducible repeat (first | refine blk_drewN ?_ _ | refine blk_drew ?_ | refine blk_alloc ?_ _)); exact BK121.out⟩, ⟨by repeat (first | (with_reducible first | exact HB.out | apply below_alloc | apply pw_below_drewN | apply below_drew1 | refine below_set ?_ GE121.out | refine below_set ?_ GE123.out) | exact HB.out)⟩⟩
      ·replace c8 := Bool.eq_false_iff.mpr c8
       subst c8
       have H1 : (heap_Free.l0 k1 x3_1 l0_0 (l0_0.length : Int) (wrap64 (x9_1 + 1))) = some r := by rw [if_neg (show ¬ (false = true) by decide)] at H; exact H
       clear H
       have H := H1
       clear H1
       have H' := Aside0.mk H
       clear H
       have p122 : 0 ≤ (x9_1 : Int) := of_decide_eq_true (by first | (with_reducible assumption) | assumption)
       have q122 : x9_1 < (l0_0.length : Int) := of_decide_eq_true (by first | (with_reducible assumption) | assumption)
       obtain ⟨ad122, A122_3, c122_3, e122, hx122_0, hx122_1, hx122_2, hx122_3, hl122_3, hi122_3⟩ := at_T55 HR0_0.out x9_1 p122 q122
       cases e122
       replace hx122_0 := (HB.out.cell (World.block_lt_of_cell? w _ hx122_0)).trans hx122_0
       replace hx122_1 := (HB.out.cell (World.block_lt_of_cell? w _ hx122_1)).trans hx122_1
       replace hx122_2 := (HB.out.cell (World.block_lt_of_cell? w _ hx122_2)).trans hx122_2
       replace hx122_3 := (HB.out.cell (World.block_lt_of_cell? w _ hx122_3)).trans hx122_3
       have HR122_3 := Aside0.mk hi122_3
       have HC122_3 := Aside0.mk hl122_3
       clear hi122_3 hl122_3
       replace p122 := eq_true p122
       replace q122 := eq_true q122
       go_wp2_with (first | ((with_reducible refine gate_dst (N := 5) rfl ?_); refine box_event ?hg (N := 5) ?hd (cs := #[.int .i64 0, .bool false, .bool false, .slice none 0 0]) (t := 55) ?hr ?_; (case hd => rfl); (case hg => rfl); (case hr => first | (go_simp; done) | (go_simp; rfl)); intro gb123 hg w13 hbox hb; have n0_ := Aside0.mk (blk_below (g := gb121) (o := .cells #[.slice (some ad122) l0_0.length c0_0, .int .i64 a0_1] 24 (0, 0)) (by (with_reducible repeat (first | refine blk_drewN ?_ _ | refine blk_drew ?_ | refine blk_alloc ?_ _)); exact BK121.out) hb); have n1_ := Aside0.mk (below_step (by repeat (first | (with_reducible first | exact HB.out | apply below_alloc | apply pw_below_drewN | apply below_drew1 | refine below_set ?_ GE121.out) | exact HB.out)) hb); have n2_ := Aside0.mk (hbox); have n3_ := Aside0.mk ((by rw [hg]; exact (below_size (by repeat (first | (with_reducible first | exact HB.out | apply below_alloc | apply pw_below_drewN | apply below_drew1 | refine below_set ?_ GE121.out) | exact HB.out))) : w.heap.size ≤ gb123)); have n4_ := Aside0.mk ((by rw [hg]; exact (below_size (by repeat (first | (with_reducible first | exact HB.out | apply below_alloc | apply pw_below_drewN | apply below_drew1 | refine below_set ?_ GE121.out) | exact HB.out))) : w.heap.size ≤ gb123)); have n5_ := Aside0.mk ((by rw [hg]; exact Nat.ne_of_lt (blk_lt (g := gb121) (o := .cells #[.slice (some ad122) l0_0.length c0_0, .int .i64 a0_1] 24 (0, 0)) (by (with_reducible repeat (first | refine blk_drewN ?_ _ | refine blk_drew ?_ | refine blk_alloc ?_ _)); exact BK121.out)) : gb121 ≠ gb123)); have n6_ := Aside0.mk ((by rw [hg]; exact Nat.ne_of_gt (blk_lt (g := gb121) (o := .cells #[.slice (some ad122) l0_0.length c0_0, .int .i64 a0_1] 24 (0, 0)) (by (with_reducible repeat (first | refine blk_drewN ?_ _ | refine blk_drew ?_ | refine blk_alloc ?_ _)); exact BK121.out)) : gb123 ≠ gb121)); clear BK121; clear HB; have BK121 := n0_; have HB := n1_; have BK123 := n2_; have GW123 := n3_; have GE123 := n4_; have NB121_123 := n5_; have NB123_121 := n6_; clear n0_ n1_ n2_ n3_ n4_ n5_ n6_; clear hb hbox hg; have hnb14 := NB123_121.out; have hnc14 := NB121_123.out; have hcz15_0 : w13.cell? ⟨gb123, 0, none⟩ = some (.int .i64 0) := (blk_cell BK123.out 0).trans rfl; have hcz15_1 : w13.cell? ⟨gb123, 1, none⟩ = some (.bool false) := (blk_cell BK123.out 1).trans rfl; have hcz15_2 : w13.cell? ⟨gb123, 2, none⟩ = some (.bool false) := (blk_cell BK123.out 2).trans rfl; have hcz15_3 : w13.cell? ⟨gb123, 3, none⟩ = some (.slice none 0 0) := (blk_cell BK123.out 3).trans rfl; have hfz15_0 := blk_frozen BK123.out 0; have hfz15_1 := blk_frozen BK123.out 1; have hfz15_2 := blk_frozen BK123.out 2; have hfz15_3 := blk_frozen BK123.out 3) | ((with_reducible refine gate_callee (f := 70) rfl ?_); refine goesL_ (some 14) rfl rfl Try.func70 (by kernel_rfl) rfl #[.agg #[.int .i64 ((rd_T55 l0_0 x9_1).f0), .bool ((rd_T55 l0_0 x9_1).f1), .bool ((rd_T55 l0_0 x9_1).f2.f0), .slice A122_3 ((rd_T55 l0_0 x9_1).f2.f1).length c122_3]] rfl (by (try simp only [List.map_toArray, List.map_cons, List.map_nil]); first | done | rfl | (simp only [List.length_drop, List.length_take]; rfl)) ?_; (with_reducible refine (heap_isFree.calls ((rd_T55 l0_0 x9_1).f0) ((rd_T55 l0_0 x9_1).f1) ((rd_T55 l0_0 x9_1).f2.f0) _ _ ((rd_T55 l0_0 x9_1).f2.f1) false _ ?side1 ?side2 A7.out).mono ?_); (case side1 => exact Kd.C_below HR122_3.out (by repeat (first | (with_reducible first | exact HB.out | apply below_alloc | apply pw_below_drewN | apply below_drew1 | refine below_set ?_ GE121.out | refine below_set ?_ GE123.out) | exact HB.out))); (case side2 => exact HC122_3.out); rintro e w16 ⟨rfl, hb⟩; refine ⟨_, rfl, ?_⟩; have n0_ := Aside0.mk (blk_below (g := gb121) (o := .cells #[.slice (some ad122) l0_0.length c0_0, .int .i64 a0_1] 24 (0, 0)) (by (with_reducible repeat (first | refine blk_drewN ?_ _ | refine blk_drew ?_ | refine blk_alloc ?_ _)); refine blk_far ?_ NB121_123.out _; (with_reducible repeat (first | refine blk_drewN ?_ _ | refine blk_drew ?_ | refine blk_alloc ?_ _)); refine blk_far ?_ NB121_123.out _; (with_reducible repeat (first | refine blk_drewN ?_ _ | refine blk_drew ?_ | refine blk_alloc ?_ _)); refine blk_far ?_ NB121_123.out _; (with_reducible repeat (first | refine blk_drewN ?_ _ | refine blk_drew ?_ | refine blk_alloc ?_ _)); refine blk_far ?_ NB121_123.out _; (with_reducible repeat (first | refine blk_drewN ?_ _ | refine blk_drew ?_ | refine blk_alloc ?_ _)); exact BK121.out) hb); have n1_ := Aside0.mk (blk_below (g := gb123) (o := .cells #[.int .i64 ((rd_T55 l0_0 x9_1).f0), .bool ((rd_T55 l0_0 x9_1).f1), .bool ((rd_T55 l0_0 x9_1).f2.f0), .slice A122_3 ((rd_T55 l0_0 x9_1).f2.f1).length c122_3] 55 (0, 0)) (by (with_reducible repeat (first | refine blk_drewN ?_ _ | refine blk_drew ?_ | refine blk_alloc ?_ _)); refine blk_put (cs := #[.int .i64 ((rd_T55 l0_0 x9_1).f0), .bool ((rd_T55 l0_0 x9_1).f1), .bool ((rd_T55 l0_0 x9_1).f2.f0), .slice none 0 0]) ?_ 3 _ rfl; (with_reducible repeat (first | refine blk_drewN ?_ _ | refine blk_drew ?_ | refine blk_alloc ?_ _)); refine blk_put (cs := #[.int .i64 ((rd_T55 l0_0 x9_1).f0), .bool ((rd_T55 l0_0 x9_1).f1), .bool false, .slice none 0 0]) ?_ 2 _ rfl; (with_reducible repeat (first | refine blk_drewN ?_ _ | refine blk_drew ?_ | refine blk_alloc ?_ _)); refine blk_put (cs := #[.int .i64 ((rd_T55 l0_0 x9_1).f0), .bool false, .bool false, .slice none 0 0]) ?_ 1 _ rfl; (with_reducible repeat (first | refine blk_drewN ?_ _ | refine blk_drew ?_ | refine blk_alloc ?_ _)); refine blk_put (cs := #[.int .i64 0, .bool false, .bool false, .slice none 0 0]) ?_ 0 _ rfl; (with_reducible repeat (first | refine blk_drewN ?_ _ | refine blk_drew ?_ | refine blk_alloc ?_ _)); exact BK123.out) hb); have n2_ := Aside0.mk (below_step (by repeat (first | (with_reducible first | exact HB.out | apply below_alloc | apply pw_below_drewN | apply below_drew1 | refine below_set ?_ GE121.out | refine below_set ?_ GE123.out) | exact HB.out)) hb); clear BK121; clear BK123; clear HB; have BK121 := n0_; have BK123 := n1_; have HB := n2_; clear n0_ n1_ n2_; (try clear hb); (try clear hb2); (try clear hk); (try clear hi)))
       go_roundg k1
       case measure => have := HK1.out; omega
       case rel => exact ⟨(x3_1), (wrap64 (x9_1 + 1)), (by first | rfl | (simp; done) | (simp [*]; done)), (by first | rfl | (simp; done) | (simp [*]; done)), H', ⟨by have := HK1.out; omega⟩, ⟨by (with_reducible repeat (first | refine blk_drewN ?_ _ | refine blk_drew ?_ | refine blk_alloc ?_ _)); exact BK121.out⟩, ⟨by repeat (first | (with_reducible first | exact HB.out | apply below_alloc | apply pw_below_drewN | apply below_drew1 | refine below_set ?_ GE121.out | refine below_set ?_ GE123.out) | exact HB.out)⟩⟩
     ·rw [if_neg c6] at H
      exact absurd H (by simp)
    ·rw [if_neg c5] at H
     exact absurd H (by simp)
   ·rw [if_neg c4] at H
    have c4b0 : decide (x9_1 < (l0_0.length : Int)) = false := decide_eq_false c4
    clear c4
    obtain rfl := Option.some.inj H
    go_wp2
    go_ret
    exact ⟨by first | rfl | (simp [errW_none, errW_some] <;> rfl) | (simp [*, errW_none, errW_some] <;> rfl), by repeat (first | (with_reducible first | exact HB.out | apply below_alloc | apply pw_below_drewN | apply below_drew1 | refine below_set ?_ GE121.out) | exact HB.out)⟩
end Go.Proofs.Yteiladccdenpbaa.P
end
section
namespace Go.Proofs.Yteiladccdenpbaa.P
open Go.RowKit Go.Proofs.YteiladccdenpbaaW.PrintWords Go.Proofs.YteiladccdenpbaaW.PrintLast Go.Proofs.YteiladccdenpbaaW.PrintMore
attribute [local go_sem] max2_int min2_int max_two min_two max_three min_three max_four min_four
set_option linter.unusedVariables false
set_option linter.unusedSimpArgs false
def heap_Fits.f (k : Nat) (l0_0 : List (S55)) (a0_1 : Int) (a1 : Int) (a2 : Bool) : Option (Bool) := (heap_Free.f k l0_0 a0_1).bind fun t126 => (if a2 = true then (some (decide (a1 ≤ t126))) else (some (decide (a1 ≤ (wrap64 (t126 - a0_1))))))
set_option maxHeartbeats 8000000 in
set_option maxRecDepth 100000 in
theorem heap_Fits.calls (k : Nat) (A0_0 : Option Addr) (c0_0 : Nat) (l0_0 : List (S55)) (a0_1 : Int) (a1 : Int) (a2 : Bool) (r : Bool) (w : World) (hr0_0 : Kd.C k55 w A0_0 l0_0.length l0_0) (hc0_0 : l0_0.length ≤ c0_0) (h : heap_Fits.f k l0_0 a0_1 a1 a2 = some r) :
  Calls Try.prog 42 #[.agg #[.slice A0_0 l0_0.length c0_0, .int .i64 a0_1], .int .i64 a1, .bool a2] w fun e w' => e = .returned (.bool r) ∧ Below w.heap.size w w' := by
 have hu24 := Try.underlying24
 have HR0_0 := Aside0.mk hr0_0
 have HC0_0 := Aside0.mk hc0_0
 clear hr0_0 hc0_0
 have HB := Aside0.mk (Below.refl w.heap.size w)
 have H : ((heap_Free.f k l0_0 a0_1).bind fun t126 => (if a2 = true then (some (decide (a1 ≤ t126))) else (some (decide (a1 ≤ (wrap64 (t126 - a0_1))))))) = some r := h
 clear h
 replace H := Option.bind_eq_some_iff.mp H
 obtain ⟨t126, A40, H⟩ := H
 replace H : (if a2 = true then (some (decide (a1 ≤ t126))) else (some (decide (a1 ≤ (wrap64 (t126 - a0_1)))))) = some r := H
 have A4 := Aside0.mk A40
 clear A40
 by_cases c5 : a2 = true
 ·subst c5
  have H1 : (some (decide (a1 ≤ t126))) = some r := by rw [if_pos rfl] at H; exact H
  clear H
  have H := H1
  clear H1
  obtain rfl := Option.some.inj H
  go_enter Try.func42, Try.ntmps42
  go_wp2_with (first | ((with_reducible refine gate_dst (N := 3) rfl ?_); refine box_event ?hg (N := 3) ?hd (cs := #[.slice A0_0 l0_0.length c0_0, .int .i64 a0_1]) (t := 24) ?hr ?_; (case hd => rfl); (case hg => rfl); (case hr => first | (go_simp; done) | (go_simp; rfl)); intro gb125 hg w6 hbox hb; have n0_ := Aside0.mk (below_step (by repeat (first | (with_reducible first | exact HB.out | apply below_alloc | apply pw_below_drewN | apply below_drew1) | exact HB.out)) hb); have n1_ := Aside0.mk (hbox); have n2_ := Aside0.mk ((by rw [hg]; exact (below_size (by repeat (first | (with_reducible first | exact HB.out | apply below_alloc | apply pw_below_drewN | apply below_drew1) | exact HB.out))) : w.heap.size ≤ gb125)); have n3_ := Aside0.mk ((by rw [hg]; exact (below_size (by repeat (first | (with_reducible first | exact HB.out | apply below_alloc | apply pw_below_drewN | apply below_drew1) | exact HB.out))) : w.heap.size ≤ gb125)); clear HB; have HB := n0_; have BK125 := n1_; have GW125 := n2_; have GE125 := n3_; clear n0_ n1_ n2_ n3_; clear hb hbox hg; have hcz7_0 : w6.cell? ⟨gb125, 0, none⟩ = some (.slice A0_0 l0_0.length c0_0) := (blk_cell BK125.out 0).trans rfl; have hcz7_1 : w6.cell? ⟨gb125, 1, none⟩ = some (.int .i64 a0_1) := (blk_cell BK125.out 1).trans rfl; have hfz7_0 := blk_frozen BK125.out 0; have hfz7_1 := blk_frozen BK125.out 1) | ((with_reducible refine gate_callee (f := 40) rfl ?_); refine goesL_ (some 9) rfl rfl Try.func40 (by kernel_rfl) rfl #[.agg #[.slice A0_0 l0_0.length c0_0, .int .i64 a0_1]] rfl (by (try simp only [List.map_toArray, List.map_cons, List.map_nil]); first | done | rfl | (simp only [List.length_drop, List.length_take]; rfl)) ?_; (with_reducible refine (heap_Free.calls k _ _ l0_0 a0_1 t126 _ ?side1 ?side2 A4.out).mono ?_); (case side1 => repeat (first | exact (Kd.C_below HR0_0.out HB.out) | (with_reducible refine Kd.C_alloc ?_ _) | (with_reducible refine Kd.C_drewN ?_ _) | (with_reducible refine Kd.C_drew ?_))); (case side2 => exact HC0_0.out); rintro e w8 ⟨rfl, hb⟩; refine ⟨_, rfl, ?_⟩; have n0_ := Aside0.mk (blk_below (g := gb125) (o := .cells #[.slice A0_0 l0_0.length c0_0, .int .i64 a0_1] 24 (0, 0)) (by (with_reducible repeat (first | refine blk_drewN ?_ _ | refine blk_drew ?_ | refine blk_alloc ?_ _)); exact BK125.out) hb); have n1_ := Aside0.mk (below_step (by repeat (first | (with_reducible first | exact HB.out | apply below_alloc | apply pw_below_drewN | apply below_drew1 | refine below_set ?_ GE125.out) | exact HB.out)) hb); clear BK125; clear HB; have BK125 := n0_; have HB := n1_; clear n0_ n1_; (try clear hb); (try clear hb2); (try clear hk); (try clear hi)))
  go_ret
  exact ⟨by first | rfl | (simp [errW_none, errW_some] <;> rfl) | (simp [*, errW_none, errW_some] <;> rfl), by repeat (first | (with_reducible first | exact HB.out | apply below_alloc | apply pw_below_drewN | apply below_drew1 | refine below_set ?_ GE125.out) | exact HB.out)⟩
 ·replace c5 := Bool.eq_false_iff.mpr c5
  subst c5
  have H1 : (some (decide (a1 ≤ (wrap64 (t126 - a0_1))))) = some r := by rw [if_neg (show ¬ (false = true) by decide)] at H; exact H
  clear H
  have H := H1
  clear H1
  obtain rfl := Option.some.inj H
  go_enter Try.func42, Try.ntmps42
  go_wp2_with (first | ((with_reducible refine gate_dst (N := 3) rfl ?_); refine box_event ?hg (N := 3) ?hd (cs := #[.slice A0_0 l0_0.length c0_0, .int .i64 a0_1]) (t := 24) ?hr ?_; (case hd => rfl); (case hg => rfl); (case hr => first | (go_simp; done) | (go_simp; rfl)); intro gb125 hg w9 hbox hb; have n0_ := Aside0.mk (below_step (by repeat (first | (with_reducible first | exact HB.out | apply below_alloc | apply pw_below_drewN | apply below_drew1) | exact HB.out)) hb); have n1_ := Aside0.mk (hbox); have n2_ := Aside0.mk ((by rw [hg]; exact (below_size (by repeat (first | (with_reducible first | exact HB.out | apply below_alloc | apply pw_below_drewN | apply below_drew1) | exact HB.out))) : w.heap.size ≤ gb125)); have n3_ := Aside0.mk ((by rw [hg]; exact (below_size (by repeat (first | (with_reducible first | exact HB.out | apply below_alloc | apply pw_below_drewN | apply below_drew1) | exact HB.out))) : w.heap.size ≤ gb125)); clear HB; have HB := n0_; have BK125 := n1_; have GW125 := n2_; have GE125 := n3_; clear n0_ n1_ n2_ n3_; clear hb hbox hg; have hcz10_0 : w9.cell? ⟨gb125, 0, none⟩ = some (.slice A0_0 l0_0.length c0_0) := (blk_cell BK125.out 0).trans rfl; have hcz10_1 : w9.cell? ⟨gb125, 1, none⟩ = some (.int .i64 a0_1) := (blk_cell BK125.out 1).trans rfl; have hfz10_0 := blk_frozen BK125.out 0; have hfz10_1 := blk_frozen BK125.out 1) | ((with_reducible refine gate_callee (f := 40) rfl ?_); refine goesL_ (some 9) rfl rfl Try.func40 (by kernel_rfl) rfl #[.agg #[.slice A0_0 l0_0.length c0_0, .int .i64 a0_1]] rfl (by (try simp only [List.map_toArray, List.map_cons, List.map_nil]); first | done | rfl | (simp only [List.length_drop, List.length_take]; rfl)) ?_; (with_reducible refine (heap_Free.calls k _ _ l0_0 a0_1 t126 _ ?side1 ?side2 A4.out).mono ?_); (case side1 => repeat (first | exact (Kd.C_below HR0_0.out HB.out) | (with_reducible refine Kd.C_alloc ?_ _) | (with_reducible refine Kd.C_drewN ?_ _) | (with_reducible refine Kd.C_drew ?_))); (case side2 => exact HC0_0.out); rintro e w11 ⟨rfl, hb⟩; refine ⟨_, rfl, ?_⟩; have n0_ := Aside0.mk (blk_below (g := gb125) (o := .cells #[.slice A0_0 l0_0.length c0_0, .int .i64 a0_1] 24 (0, 0)) (by (with_reducible repeat (first | refine blk_drewN ?_ _ | refine blk_drew ?_ | refine blk_alloc ?_ _)); exact BK125.out) hb); have n1_ := Aside0.mk (below_step (by repeat (first | (with_reducible first | exact HB.out | apply below_alloc | apply pw_below_drewN | apply below_drew1 | refine below_set ?_ GE125.out) | exact HB.out)) hb); clear BK125; clear HB; have BK125 := n0_; have HB := n1_; clear n0_ n1_; (try clear hb); (try clear hb2); (try clear hk); (try clear hi); have hcz12_0 : w11.cell? ⟨gb125, 0, none⟩ = some (.slice A0_0 l0_0.length c0_0) := (blk_cell BK125.out 0).trans rfl; have hcz12_1 : w11.cell? ⟨gb125, 1, none⟩ = some (.int .i64 a0_1) := (blk_cell BK125.out 1).trans rfl; have hfz12_0 := blk_frozen BK125.out 0; have hfz12_1 := blk_frozen BK125.out 1))
  go_ret
  exact ⟨by first | rfl | (simp [errW_none, errW_some] <;> rfl) | (simp [*, errW_none, errW_some] <;> rfl), by repeat (first | (with_reducible first | exact HB.out | apply below_alloc | apply pw_below_drewN | apply below_drew1 | refine below_set ?_ GE125.out) | exact HB.out)⟩
end Go.Proofs.Yteiladccdenpbaa.P
end
section
namespace Go.Proofs.Yteiladccdenpbaa.P
open Go.RowKit Go.Proofs.YteiladccdenpbaaW.PrintWords Go.Proofs.YteiladccdenpbaaW.PrintLast Go.Proofs.YteiladccdenpbaaW.PrintMore
attribute [local go_sem] max2_int min2_int max_two min_two max_three min_three max_four min_four
set_option linter.unusedVariables false
set_option linter.unusedSimpArgs false
def assartref05_Used.f (l0_0 : List (S55)) (a0_1 : Int) (a1 : Int) : Option (Bool) := if a1 ≥ 0 then (if a1 < (l0_0.length : Int) then (if 0 ≤ a1 then (some (decide (((rd_T55 l0_0 a1).f0) > 0))) else (none)) else (some false)) else (some false)
set_option maxHeartbeats 8000000 in
set_option maxRecDepth 100000 in
theorem assartref05_Used.calls (A0_0 : Option Addr) (c0_0 : Nat) (l0_0 : List (S55)) (a0_1 : Int) (a1 : Int) (r : Bool) (w : World) (hr0_0 : Kd.C k55 w A0_0 l0_0.length l0_0) (hc0_0 : l0_0.length ≤ c0_0) (h : assartref05_Used.f l0_0 a0_1 a1 = some r) :
  Calls Try.prog 52 #[.agg #[.slice A0_0 l0_0.length c0_0, .int .i64 a0_1], .int .i64 a1] w fun e w' => e = .returned (.bool r) ∧ Below w.heap.size w w' := by
 have hu24 := Try.underlying24
 have HR0_0 := Aside0.mk hr0_0
 have HC0_0 := Aside0.mk hc0_0
 clear hr0_0 hc0_0
 have HB := Aside0.mk (Below.refl w.heap.size w)
 have H : (if a1 ≥ 0 then (if a1 < (l0_0.length : Int) then (if 0 ≤ a1 then (some (decide (((rd_T55 l0_0 a1).f0) > 0))) else (none)) else (some false)) else (some false)) = some r := h
 clear h
 by_cases c3 : a1 ≥ 0
 ·rw [if_pos c3] at H
  have c3b0 : decide (0 ≤ a1) = true := decide_eq_true c3
  clear c3
  by_cases c4 : a1 < (l0_0.length : Int)
  ·rw [if_pos c4] at H
   have c4b0 : decide (a1 < (l0_0.length : Int)) = true := decide_eq_true c4
   clear c4
   by_cases c5 : 0 ≤ a1
   ·rw [if_pos c5] at H
    have c5b0 : decide (0 ≤ a1) = true := decide_eq_true c5
    clear c5
    obtain rfl := Option.some.inj H
    go_enter Try.func52, Try.ntmps52
    go_wp2_with (first | ((with_reducible refine gate_dst (N := 2) rfl ?_); (try (refine gate_guard (by rfl) ?_; dsimp only)); refine box_event ?hg (N := 2) ?hd (cs := #[.slice A0_0 l0_0.length c0_0, .int .i64 a0_1]) (t := 24) ?hr ?_; (case hd => rfl); (case hg => rfl); (case hr => first | (go_simp; done) | (go_simp; rfl)); intro gb187 hg w6 hbox hb; have n0_ := Aside0.mk (below_step (by repeat (first | (with_reducible first | exact HB.out | apply below_alloc | apply pw_below_drewN | apply below_drew1) | exact HB.out)) hb); have n1_ := Aside0.mk (hbox); have n2_ := Aside0.mk ((by rw [hg]; exact (below_size (by repeat (first | (with_reducible first | exact HB.out | apply below_alloc | apply pw_below_drewN | apply below_drew1) | exact HB.out))) : w.heap.size ≤ gb187)); have n3_ := Aside0.mk ((by rw [hg]; exact (below_size (by repeat (first | (with_reducible first | exact HB.out | apply below_alloc | apply pw_below_drewN | apply below_drew1) | exact HB.out))) : w.heap.size ≤ gb187)); clear HB; have HB := n0_; have BK187 := n1_; have GW187 := n2_; have GE187 := n3_; clear n0_ n1_ n2_ n3_; clear hb hbox hg; have hcz7_0 : w6.cell? ⟨gb187, 0, none⟩ = some (.slice A0_0 l0_0.length c0_0) := (blk_cell BK187.out 0).trans rfl; have hcz7_1 : w6.cell? ⟨gb187, 1, none⟩ = some (.int .i64 a0_1) := (blk_cell BK187.out 1).trans rfl; have hfz7_0 := blk_frozen BK187.out 0; have hfz7_1 := blk_frozen BK187.out 1; have p188 : 0 ≤ (a1 : Int) := of_decide_eq_true (by first | (with_reducible assumption) | assumption); have q188 : a1 < (l0_0.length : Int) := of_decide_eq_true (by first | (with_reducible assumption) | assumption); obtain ⟨ad188, A188_3, c188_3, e188, hx188_0, hx188_1, hx188_2, hx188_3, hl188_3, hi188_3⟩ := at_T55 HR0_0.out a1 p188 q188; cases e188; replace hx188_0 := (HB.out.cell (World.block_lt_of_cell? w _ hx188_0)).trans hx188_0; replace hx188_1 := (HB.out.cell (World.block_lt_of_cell? w _ hx188_1)).trans hx188_1; replace hx188_2 := (HB.out.cell (World.block_lt_of_cell? w _ hx188_2)).trans hx188_2; replace hx188_3 := (HB.out.cell (World.block_lt_of_cell? w _ hx188_3)).trans hx188_3; have HR188_3 := Aside0.mk hi188_3; have HC188_3 := Aside0.mk hl188_3; clear hi188_3 hl188_3; replace p188 := eq_true p188; replace q188 := eq_true q188))
    go_ret
    exact ⟨by first | rfl | (simp [errW_none, errW_some] <;> rfl) | (simp [*, errW_none, errW_some] <;> rfl), by repeat (first | (with_reducible first | exact HB.out | apply below_alloc | apply pw_below_drewN | apply below_drew1 | refine below_set ?_ GE187.out) | exact HB.out)⟩
   ·rw [if_neg c5] at H
    exact absurd H (by simp)
  ·rw [if_neg c4] at H
   have c4b0 : decide (a1 < (l0_0.length : Int)) = false := decide_eq_false c4
   clear c4
   obtain rfl := Option.some.inj H
   go_enter Try.func52, Try.ntmps52
   go_wp2_with (first | ((with_reducible refine gate_dst (N := 2) rfl ?_); (try (refine gate_guard (by rfl) ?_; dsimp only)); refine box_event ?hg (N := 2) ?hd (cs := #[.slice A0_0 l0_0.length c0_0, .int .i64 a0_1]) (t := 24) ?hr ?_; (case hd => rfl); (case hg => rfl); (case hr => first | (go_simp; done) | (go_simp; rfl)); intro gb187 hg w8 hbox hb; have n0_ := Aside0.mk (below_step (by repeat (first | (with_reducible first | exact HB.out | apply below_alloc | apply pw_below_drewN | apply below_drew1) | exact HB.out)) hb); have n1_ := Aside0.mk (hbox); have n2_ := Aside0.mk ((by rw [hg]; exact (below_size (by repeat (first | (with_reducible first | exact HB.out | apply below_alloc | apply pw_below_drewN | apply below_drew1) | exact HB.out))) : w.heap.size ≤ gb187)); have n3_ := Aside0.mk ((by rw [hg]; exact (below_size (by repeat (first | (with_reducible first | exact HB.out | apply below_alloc | apply pw_below_drewN | apply below_drew1) | exact HB.out))) : w.heap.size ≤ gb187)); clear HB; have HB := n0_; have BK187 := n1_; have GW187 := n2_; have GE187 := n3_; clear n0_ n1_ n2_ n3_; clear hb hbox hg; have hcz9_0 : w8.cell? ⟨gb187, 0, none⟩ = some (.slice A0_0 l0_0.length c0_0) := (blk_cell BK187.out 0).trans rfl; have hcz9_1 : w8.cell? ⟨gb187, 1, none⟩ = some (.int .i64 a0_1) := (blk_cell BK187.out 1).trans rfl; have hfz9_0 := blk_frozen BK187.out 0; have hfz9_1 := blk_frozen BK187.out 1))
   go_ret
   exact ⟨by first | rfl | (simp [errW_none, errW_some] <;> rfl) | (simp [*, errW_none, errW_some] <;> rfl), by repeat (first | (with_reducible first | exact HB.out | apply below_alloc | apply pw_below_drewN | apply below_drew1 | refine below_set ?_ GE187.out) | exact HB.out)⟩
 ·rw [if_neg c3] at H
  have c3b0 : decide (0 ≤ a1) = false := decide_eq_false c3
  clear c3
  obtain rfl := Option.some.inj H
  go_enter Try.func52, Try.ntmps52
  go_wp2_with (first | ((with_reducible refine gate_dst (N := 2) rfl ?_); (try (refine gate_guard (by rfl) ?_; dsimp only)); refine box_event ?hg (N := 2) ?hd (cs := #[.slice A0_0 l0_0.length c0_0, .int .i64 a0_1]) (t := 24) ?hr ?_; (case hd => rfl); (case hg => rfl); (case hr => first | (go_simp; done) | (go_simp; rfl)); intro gb187 hg w10 hbox hb; have n0_ := Aside0.mk (below_step (by repeat (first | (with_reducible first | exact HB.out | apply below_alloc | apply pw_below_drewN | apply below_drew1) | exact HB.out)) hb); have n1_ := Aside0.mk (hbox); have n2_ := Aside0.mk ((by rw [hg]; exact (below_size (by repeat (first | (with_reducible first | exact HB.out | apply below_alloc | apply pw_below_drewN | apply below_drew1) | exact HB.out))) : w.heap.size ≤ gb187)); have n3_ := Aside0.mk ((by rw [hg]; exact (below_size (by repeat (first | (with_reducible first | exact HB.out | apply below_alloc | apply pw_below_drewN | apply below_drew1) | exact HB.out))) : w.heap.size ≤ gb187)); clear HB; have HB := n0_; have BK187 := n1_; have GW187 := n2_; have GE187 := n3_; clear n0_ n1_ n2_ n3_; clear hb hbox hg))
  go_ret
  exact ⟨by first | rfl | (simp [errW_none, errW_some] <;> rfl) | (simp [*, errW_none, errW_some] <;> rfl), by repeat (first | (with_reducible first | exact HB.out | apply below_alloc | apply pw_below_drewN | apply below_drew1 | refine below_set ?_ GE187.out) | exact HB.out)⟩
end Go.Proofs.Yteiladccdenpbaa.P
end
section
namespace Go.Proofs.Yteiladccdenpbaa.P
open Go.RowKit Go.Proofs.YteiladccdenpbaaW.PrintWords Go.Proofs.YteiladccdenpbaaW.PrintLast Go.Proofs.YteiladccdenpbaaW.PrintMore
attribute [local go_sem] max2_int min2_int max_two min_two max_three min_three max_four min_four
set_option linter.unusedVariables false
set_option linter.unusedSimpArgs false
def assartref05_In.l0 : Nat → List Int → Int → Int → Option (Bool)
 | 0, _, _, _ => none
 | k + 1, x0, x1, x5 => if x5 < (x0.length : Int) then (if 0 ≤ x5 then (if (rd x0 x5) = x1 then (some true) else (assartref05_In.l0 k x0 x1 (wrap64 (x5 + 1)))) else (none)) else (some false)
def assartref05_In.f (k : Nat) (l0 : List Int) (a1 : Int) : Option (Bool) := assartref05_In.l0 k l0 a1 0
set_option maxHeartbeats 8000000 in
set_option maxRecDepth 100000 in
theorem assartref05_In.calls (k : Nat) (A0 : Option Addr) (c0 : Nat) (l0 : List Int) (a1 : Int) (r : Bool) (w : World) (hr0 : Kd.C (Kd.int .i64) w A0 l0.length l0) (hc0 : l0.length ≤ c0) (h : assartref05_In.f k l0 a1 = some r) :
  Calls Try.prog 55 #[.slice A0 l0.length c0, .int .i64 a1] w fun e w' => e = .returned (.bool r) ∧ Drawn0 w w' := by
 have HR0 := Aside0.mk hr0
 have HC0 := Aside0.mk hc0
 clear hr0 hc0
 have H : (assartref05_In.l0 k l0 a1 0) = some r := h
 clear h
 have H' := Aside0.mk H
 clear H
 go_enter Try.func55, Try.ntmps55
 go_wp2
 go_loopg [5] k (fun kq v5 w' => ∃ (x5_1 : Int), v5 = .int .i64 x5_1 ∧ Aside0 (assartref05_In.l0 kq l0 a1 x5_1 = some r) ∧ Aside0 (kq ≤ k) ∧ Drawn0 w w')
 case atStart => exact ⟨(0), (by first | rfl | (simp; done) | (simp [*]; done)), H', ⟨Nat.le_refl _⟩, by repeat (first | exact Drawn0.refl _ | apply Drawn0.step)⟩
 case round =>
  clear H'
  try clear p2
  obtain ⟨x5_1, rfl, HA, HK1, ⟨m1, rfl⟩⟩ := hrel
  cases gk with
  | zero => exact absurd HA.out (by simp [assartref05_In.l0])
  | succ k1 =>
   have H := HA.out
   clear HA
   simp only [assartref05_In.l0] at H
   by_cases c3 : x5_1 < (l0.length : Int)
   ·rw [if_pos c3] at H
    have c3b0 : decide (x5_1 < (l0.length : Int)) = true := decide_eq_true c3
    clear c3
    by_cases c4 : 0 ≤ x5_1
    ·rw [if_pos c4] at H
     have c4b0 : decide (0 ≤ x5_1) = true := decide_eq_true c4
     clear c4
     by_cases c5 : (rd l0 x5_1) = a1
     ·rw [if_pos c5] at H
      have c5b0 : ((rd l0 x5_1) == a1) = true := beq_iff_eq.mpr c5
      have c5b1 : ((rd l0 x5_1) != a1) = false := bne_eq_false_iff_eq.mpr c5
      clear c5
      obtain rfl := Option.some.inj H
      have p201 : 0 ≤ (x5_1 : Int) := of_decide_eq_true (by first | (with_reducible assumption) | assumption)
      have q201 : x5_1 < (l0.length : Int) := of_decide_eq_true (by first | (with_reducible assumption) | assumption)
      obtain ⟨ad201, e201, hx201_0⟩ := Kd.at_int HR0.out x5_1 p201 q201
      cases e201
      replace p201 := eq_true p201
      replace q201 := eq_true q201
      go_wp2
      go_ret
      exact ⟨by first | rfl | (simp; done) | (simp [*]; done), by repeat (first | exact Drawn0.refl _ | apply Drawn0.step)⟩
     ·rw [if_neg c5] at H
      have c5b0 : ((rd l0 x5_1) == a1) = false := beq_eq_false_iff_ne.mpr c5
      have c5b1 : ((rd l0 x5_1) != a1) = true := bne_iff_ne.mpr c5
      have H' := Aside0.mk H
      clear H
      have p201 : 0 ≤ (x5_1 : Int) := of_decide_eq_true (by first | (with_reducible assumption) | assumption)
      have q201 : x5_1 < (l0.length : Int) := of_decide_eq_true (by first | (with_reducible assumption) | assumption)
      obtain ⟨ad201, e201, hx201_0⟩ := Kd.at_int HR0.out x5_1 p201 q201
      cases e201
      replace p201 := eq_true p201
      replace q201 := eq_true q201
      go_wp2
      go_roundg k1
      case measure => have := HK1.out; omega
      case rel => exact ⟨(wrap64 (x5_1 + 1)), (by first | rfl | (simp; done) | (simp [*]; done)), H', ⟨by have := HK1.out; omega⟩, by repeat (first | exact Drawn0.refl _ | apply Drawn0.step)⟩
    ·rw [if_neg c4] at H
     exact absurd H (by simp)
   ·rw [if_neg c3] at H
    have c3b0 : decide (x5_1 < (l0.length : Int)) = false := decide_eq_false c3
    clear c3
    obtain rfl := Option.some.inj H
    go_wp2
    go_ret
    exact ⟨by first | rfl | (simp; done) | (simp [*]; done), by repeat (first | exact Drawn0.refl _ | apply Drawn0.step)⟩
end Go.Proofs.Yteiladccdenpbaa.P
end
section
namespace Go.Proofs.Yteiladccdenpbaa.P
open Go.RowKit Go.Proofs.YteiladccdenpbaaW.PrintWords Go.Proofs.YteiladccdenpbaaW.PrintLast Go.Proofs.YteiladccdenpbaaW.PrintMore
set_option linter.unusedVariables false
set_option linter.unusedSimpArgs false
instance decS53 : DecidableEq S53 := fun x y =>
  if h : x.f0 = y.f0 ∧ x.f1 = y.f1 then isTrue (by cases x; cases y; simp at h; simp [h]) else isFalse (fun e => h (by rw [e]; exact ⟨rfl, rfl⟩))
instance decS55 : DecidableEq S55 := fun x y =>
  if h : x.f0 = y.f0 ∧ x.f1 = y.f1 ∧ x.f2 = y.f2 then isTrue (by cases x; cases y; simp at h; simp [h]) else isFalse (fun e => h (by rw [e]; exact ⟨rfl, rfl, rfl⟩))
theorem s55_ext {x y : S55} (h0 : x.f0 = y.f0) (h1 : x.f1 = y.f1) (h2 : x.f2.f0 = y.f2.f0) (h3 : x.f2.f1 = y.f2.f1) : x = y := by
  obtain ⟨a, b, c, d⟩ := x
  obtain ⟨a', b', c', d'⟩ := y
  simp only at h0 h1 h2 h3
  subst h0; subst h1; subst h2; subst h3; rfl
theorem rd55_at {l : List S55} {j : Nat} (h : j < l.length) : rd_T55 l (j : Nat) = l[j] := by
  simp only [rd_T55, Int.toNat_natCast, List.getD_eq_getElem?_getD, List.getElem?_eq_getElem h, Option.getD_some]
theorem refSame_l0 (l m : List S55) (kp kp' : Int) (hl : l.length ≤ 100000) (hlm : l.length = m.length) (hi : ∀ x ∈ l, x.f2.f1.length ≤ 1000) : ∀ (d k j : Nat), j + d = l.length → 1001 + d < k → assartref05_Same.l0 k (j : Int) l kp m kp' = some (decide (l.drop j = m.drop j)) := by
  intro d
  induction d with
  | zero =>
    intro k j hj hk
    obtain ⟨k, rfl⟩ : ∃ m, k = m + 1 := ⟨k - 1, by omega⟩
    simp only [assartref05_Same.l0]
    rw [if_neg (by omega), List.drop_eq_nil_of_le (by omega), List.drop_eq_nil_of_le (by omega)]
    simp
  | succ d ih =>
    intro k j hj hk
    obtain ⟨k, rfl⟩ : ∃ m, k = m + 1 := ⟨k - 1, by omega⟩
    obtain ⟨hm, hd⟩ := rd55_mem (l := l) (j := j) (by omega)
    obtain ⟨-, hd'⟩ := rd55_mem (l := m) (j := j) (by omega)
    simp only [assartref05_Same.l0]
    rw [if_pos (by omega), if_pos (by omega), if_pos (by omega), refSame04_val' k _ _ _ _ (hi _ hm) (by omega), Option.bind_some, wsucc j (by omega), ih k (j + 1) (by omega) (by omega), hd, hd']
    generalize rd_T55 l (j : Nat) = x
    generalize rd_T55 m (j : Nat) = y
    by_cases h1 : ((x.f2.f0 == y.f2.f0) && decide (x.f2.f1 = y.f2.f1)) = true
    · rw [if_pos h1]
      rw [Bool.and_eq_true, beq_iff_eq, decide_eq_true_eq] at h1
      by_cases h2 : x.f0 = y.f0
      · rw [if_pos h2]
        by_cases h3 : x.f1 = y.f1
        · rw [if_neg (by rw [h3]; simp), s55_ext h2 h3 h1.1 h1.2]
          congr 1
          rw [decide_eq_decide]
          simp
        · rw [if_pos (by rw [bne_iff_ne]; exact h3), decide_eq_false (fun e => h3 (by rw [(List.cons.inj e).1]))]
      · rw [if_neg h2, decide_eq_false (fun e => h2 (by rw [(List.cons.inj e).1]))]
    · rw [if_neg h1, decide_eq_false (fun e => h1 (by rw [(List.cons.inj e).1]; simp))]
theorem refSame_val (l m : List S55) (kp kp' : Int) (hl : l.length ≤ 100000) (hi : ∀ x ∈ l, x.f2.f1.length ≤ 1000) {k : Nat} (hk : 1003 + l.length < k) : assartref05_Same.f k l kp m kp' = some (decide (kp = kp' ∧ l = m)) := by
  unfold assartref05_Same.f
  obtain ⟨k, rfl⟩ : ∃ m, k = m + 1 := ⟨k - 1, by omega⟩
  by_cases h1 : kp = kp'
  · rw [if_pos h1]
    simp only [assartref05_Same.j0]
    by_cases h2 : l.length = m.length
    · rw [if_neg (by rw [h2]; simp)]
      have := refSame_l0 l m kp kp' hl h2 hi l.length k 0 (by omega) (by omega)
      rw [show ((0 : Nat) : Int) = 0 from rfl, List.drop_zero, List.drop_zero] at this
      rw [this]
      congr 1
      rw [decide_eq_decide]
      exact ⟨fun h => ⟨h1, h⟩, fun h => h.2⟩
    · rw [if_pos (by rw [bne_iff_ne]; omega), decide_eq_false (fun h => h2 (by rw [h.2]))]
  · rw [if_neg h1]
    simp only [assartref05_Same.j0]
    rw [if_pos trivial, decide_eq_false (fun h => h1 h.1)]
theorem wadd (a b : Int) (h0 : 0 ≤ a) (h : a ≤ 1000000000) (h1 : -1000000000 ≤ b) (h2 : b ≤ 1000000000) : wrap64 (a + b) = a + b := by unfold wrap64; omega
theorem small_items {l : List S55} (h : smallF l 0) : ∀ x ∈ l, x.f2.f1.length ≤ 10 ∧ x.f0 ≤ 1000000 := fun x hx => by
  obtain ⟨i, hi, rfl⟩ := List.mem_iff_getElem.1 hx
  have := h i hi (Nat.zero_le _)
  simp only [It, Rf] at this
  rw [rd55_at hi] at this
  exact this
end Go.Proofs.Yteiladccdenpbaa.P
end
section
namespace Go.Proofs.Yteiladccdenpbaa.P
open Go.RowKit Go.Proofs.YteiladccdenpbaaW.PrintWords Go.Proofs.YteiladccdenpbaaW.PrintLast Go.Proofs.YteiladccdenpbaaW.PrintMore
set_option linter.unusedVariables false
set_option linter.unusedSimpArgs false
theorem idxN_first {p : S55 → Bool} : ∀ (l : List S55) (i a : Nat), idxN p l i = (a : Int) → ∃ q, a = i + q ∧ q < l.length ∧ p (rd_T55 l (q : Nat)) = true ∧ ∀ k < q, p (rd_T55 l (k : Nat)) = false
  | [], i, a, h => by unfold idxN at h; omega
  | x :: xs, i, a, h => by
    unfold idxN at h
    by_cases hp : p x = true
    · rw [if_pos hp] at h
      exact ⟨0, by omega, by simp, hp, fun k hk => absurd hk (by omega)⟩
    · rw [if_neg hp] at h
      obtain ⟨q, h1, h2, h3, h4⟩ := idxN_first xs (i + 1) a h
      have hs : ∀ k : Nat, rd_T55 (x :: xs) ((k + 1 : Nat) : Int) = rd_T55 xs (k : Nat) := fun k => by simp only [rd_T55, Int.toNat_natCast, List.getD_eq_getElem?_getD, List.getElem?_cons_succ]
      refine ⟨q + 1, by omega, by simp; omega, by rw [hs]; exact h3, fun k hk => ?_⟩
      cases k with
      | zero => rw [Bool.not_eq_true] at hp; exact hp
      | succ k => rw [hs]; exact h4 k (by omega)
end Go.Proofs.Yteiladccdenpbaa.P
end
section
namespace Go.Proofs.Yteiladccdenpbaa.P
open Go.RowKit Go.Proofs.YteiladccdenpbaaW.PrintWords Go.Proofs.YteiladccdenpbaaW.PrintLast Go.Proofs.YteiladccdenpbaaW.PrintMore
set_option linter.unusedVariables false
set_option linter.unusedSimpArgs false
theorem V_true {α : Type} {d : Kd α} (hd : Kd.Heap d) {e base c : Nat} {W : World} {A : Option Addr} {xs : List α} (hl : xs.length ≤ c) (h : d.C W A xs.length xs) : Kd.V d e W base (fun _ => True) (.slice A xs.length c) xs :=
  Kd.V_mk hl (fun W' hW => hd.C (fun k hk => hW k trivial hk) h)
theorem lit49 (W : World) (k v : Int) : Kd.C k49 (W.alloc (.cells #[.int .i64 k, .int .i64 v] 49)) (some ⟨W.heap.size, 0, none⟩) 1 [⟨k, v⟩] := by
  refine ⟨rfl, by omega, fun _ => ⟨_, rfl, fun j p hj => ?_⟩⟩
  match j, hj with
  | 0, hj =>
    simp at hj
    subst hj
    refine ⟨_, rfl, k49_mk _ _, fun i u hu => ?_⟩
    rw [add_g, blk_cell (alloc_new W _)]
    match i, hu with
    | 0, hu => simpa using hu
    | 1, hu => simpa using hu
    | i + 2, hu => simp at hu
  | j + 1, hj => simp at hj
def s5a : List S55 := [⟨1, false, ⟨true, [⟨1, 2⟩]⟩⟩, z55]
def s5b : List S55 := [⟨2, false, ⟨true, [⟨1, 2⟩]⟩⟩, ⟨1, false, ⟨false, [⟨1, 0⟩]⟩⟩]
def s5c : List S55 := [⟨1, false, ⟨true, [⟨1, 2⟩]⟩⟩, ⟨0, true, ⟨false, []⟩⟩]
def s5d : List S55 := [⟨2, false, ⟨true, [⟨1, 2⟩]⟩⟩, z55]
theorem s5_new : heap_New.f 2 1 = some ([z55, z55], 1, 0) := by kernel_rfl
theorem s5_a : heap_Alloc.f [z55, z55] 1 true [⟨1, 2⟩] [] = some (s5a, 1, 0, 0) := by kernel_rfl
theorem s5_b : heap_Alloc.f s5a 1 false [⟨1, 0⟩] [] = some (s5b, 1, 1, 0) := by kernel_rfl
theorem s5_c : heap_Loose.f s5b 1 1 = some (s5c, 1, 0) := by kernel_rfl
theorem s5_d : heap_Hold.f s5a 1 0 = some (s5d, 1, 0) := by kernel_rfl
theorem s5_f1 : heap_Fits.f 10 [z55, z55] 1 1 false = some true := by kernel_rfl
theorem s5_f2 : heap_Fits.f 10 [z55, z55] 1 2 false = some false := by kernel_rfl
theorem s5_f3 : heap_Fits.f 10 [z55, z55] 1 2 true = some true := by kernel_rfl
theorem s5_f4 : heap_Free.f 10 s5a 1 = some 1 := by kernel_rfl
theorem s5_s : heap_Settle.f s5c 1 = some (s5c.map fun x => ⟨x.f0, false, x.f2⟩, 1) := by kernel_rfl
theorem s5_f5 : heap_Free.f 10 (s5c.map fun x => ⟨x.f0, false, x.f2⟩) 1 = some 1 := by kernel_rfl
theorem s5_r : heap_Right.f s5b 1 = some true := by kernel_rfl
theorem s5_e : heap_Same.f s5a 1 s5d 1 = some false := by kernel_rfl
def assartlaw05_shown.f : Option Bool := some true
set_option maxHeartbeats 8000000 in
set_option maxRecDepth 100000 in
theorem assartlaw05_shown.calls (r : Bool) (w : World) (h : assartlaw05_shown.f = some r) : Calls Try.prog 33 #[] w fun e w' => e = .returned (.bool r) ∧ Below w.heap.size w w' := by
  obtain rfl := Option.some.inj h
  clear h
  have hu24 := Try.underlying24
  have hu43 := Try.underlying43
  have hu53 := Try.underlying53
  have hu55 := Try.underlying55
  go_enter Try.func33, Try.ntmps33
  go_wp2_with fail
  have hpre : Below w.heap.size w w := Below.refl w.heap.size w
  refine (heap_New.calls 2 1 _ _ _ w s5_new).mono ?_
  rintro e w1 ⟨v1, rfl, hv, hb⟩
  obtain ⟨A1, c1, ev⟩ := Kd.V_slice (Kd.S_V (base' := 0) hv)
  replace ev : v1 = .slice A1 2 c1 := ev
  subst ev
  have HB1 : Aside0 (Below w.heap.size w w1) := ⟨hpre.trans (hb.mono hpre.size)⟩
  have HVh : Aside0 (Kd.V k55 55 w1 0 (fun _ => True) (.slice A1 2 c1) [z55, z55]) := ⟨Kd.V_mono (Kd.S_V hv) (fun _ _ => trivial)⟩
  clear hpre hb hv
  go_wp2_with fail
  have hpre : Below w1.heap.size w1 ((w1.alloc (.cells #[.slice A1 2 c1, .int .i64 1] 24)).alloc (.cells #[.int .i64 1, .int .i64 2] 49)) := ((Below.refl w1.heap.size w1).alloc (Nat.le_refl _) _).alloc (by simp) _
  have KXh : Aside0 (((w1.alloc (.cells #[.slice A1 2 c1, .int .i64 1] 24)).alloc (.cells #[.int .i64 1, .int .i64 2] 49)).heap[w1.heap.size]? = some (.cells #[.slice A1 2 c1, .int .i64 1] 24 (0, 0))) := by
    have hn := alloc_new w1 (.cells #[.slice A1 2 c1, .int .i64 1] 24)
    (try simp only [World.size_alloc] at hn)
    exact ⟨blk_alloc (hn) _⟩
  refine (heap_Alloc.calls (fun _ => True) A1 c1 [z55, z55] 1 true (fun _ => True) (some ⟨w1.heap.size + 1, 0, none⟩) 1 [⟨1, 2⟩] none 0 [] s5a 1 _ 0 _ (Kd.V_below HVh.out hpre) (V_true k49_heap (Nat.le_refl _) (by have hl := lit49 (w1.alloc (.cells #[.slice A1 2 c1, .int .i64 1] 24)) 1 2; (try simp only [World.size_alloc] at hl); exact hl)) (Kd.C_nil _ _) (Nat.le_refl _) s5_a).mono ?_
  rintro e w2 ⟨v2, rfl, hv, hb⟩
  obtain ⟨A2, c2, ev⟩ := Kd.V_slice hv
  replace ev : v2 = .slice A2 2 c2 := ev
  subst ev
  have HB2 : Aside0 (Below w.heap.size w w2) := ⟨(HB1.out.trans (hpre.mono HB1.out.size)).trans (hb.mono (Nat.le_trans HB1.out.size hpre.size))⟩
  replace KXh := Aside0.mk (blk_below KXh.out hb)
  replace HVh := Aside0.mk (Kd.V_below (Kd.V_below HVh.out hpre) hb)
  have HVa : Aside0 (Kd.V k55 55 w2 0 (fun _ => True) (.slice A2 2 c2) s5a) := ⟨Kd.V_mono (hv) (fun _ _ => trivial)⟩
  clear hpre hb hv HB1
  go_wp2_with fail
  have hpre : Below w2.heap.size w2 ((w2.alloc (.cells #[.slice A2 2 c2, .int .i64 1] 24)).alloc (.cells #[.int .i64 1, .int .i64 0] 49)) := ((Below.refl w2.heap.size w2).alloc (Nat.le_refl _) _).alloc (by simp) _
  have KXa : Aside0 (((w2.alloc (.cells #[.slice A2 2 c2, .int .i64 1] 24)).alloc (.cells #[.int .i64 1, .int .i64 0] 49)).heap[w2.heap.size]? = some (.cells #[.slice A2 2 c2, .int .i64 1] 24 (0, 0))) := by
    have hn := alloc_new w2 (.cells #[.slice A2 2 c2, .int .i64 1] 24)
    (try simp only [World.size_alloc] at hn)
    exact ⟨blk_alloc (hn) _⟩
  refine (heap_Alloc.calls (fun _ => True) A2 c2 s5a 1 false (fun _ => True) (some ⟨w2.heap.size + 1, 0, none⟩) 1 [⟨1, 0⟩] none 0 [] s5b 1 _ 0 _ (Kd.V_below HVa.out hpre) (V_true k49_heap (Nat.le_refl _) (by have hl := lit49 (w2.alloc (.cells #[.slice A2 2 c2, .int .i64 1] 24)) 1 0; (try simp only [World.size_alloc] at hl); exact hl)) (Kd.C_nil _ _) (Nat.le_refl _) s5_b).mono ?_
  rintro e w3 ⟨v3, rfl, hv, hb⟩
  obtain ⟨A3, c3, ev⟩ := Kd.V_slice hv
  replace ev : v3 = .slice A3 2 c3 := ev
  subst ev
  have HB3 : Aside0 (Below w.heap.size w w3) := ⟨(HB2.out.trans (hpre.mono HB2.out.size)).trans (hb.mono (Nat.le_trans HB2.out.size hpre.size))⟩
  replace KXh := Aside0.mk (blk_below (blk_below KXh.out hpre) hb)
  replace KXa := Aside0.mk (blk_below KXa.out hb)
  replace HVh := Aside0.mk (Kd.V_below (Kd.V_below HVh.out hpre) hb)
  replace HVa := Aside0.mk (Kd.V_below (Kd.V_below HVa.out hpre) hb)
  have HVb : Aside0 (Kd.V k55 55 w3 0 (fun _ => True) (.slice A3 2 c3) s5b) := ⟨Kd.V_mono (hv) (fun _ _ => trivial)⟩
  clear hpre hb hv HB2
  go_wp2_with fail
  have hpre : Below w3.heap.size w3 (w3.alloc (.cells #[.slice A3 2 c3, .int .i64 1] 24)) := (Below.refl w3.heap.size w3).alloc (Nat.le_refl _) _
  have KXb : Aside0 ((w3.alloc (.cells #[.slice A3 2 c3, .int .i64 1] 24)).heap[w3.heap.size]? = some (.cells #[.slice A3 2 c3, .int .i64 1] 24 (0, 0))) := by
    have hn := alloc_new w3 (.cells #[.slice A3 2 c3, .int .i64 1] 24)
    (try simp only [World.size_alloc] at hn)
    exact ⟨hn⟩
  refine (heap_Loose.calls (fun _ => True) A3 c3 s5b 1 1 s5c 1 0 _ (Kd.V_below HVb.out hpre) s5_c).mono ?_
  rintro e w4 ⟨v4, rfl, hv, hb⟩
  obtain ⟨A4, c4, ev⟩ := Kd.V_slice hv
  replace ev : v4 = .slice A4 2 c4 := ev
  subst ev
  have HB4 : Aside0 (Below w.heap.size w w4) := ⟨(HB3.out.trans (hpre.mono HB3.out.size)).trans (hb.mono (Nat.le_trans HB3.out.size hpre.size))⟩
  replace KXh := Aside0.mk (blk_below (blk_below KXh.out hpre) hb)
  replace KXa := Aside0.mk (blk_below (blk_below KXa.out hpre) hb)
  replace KXb := Aside0.mk (blk_below KXb.out hb)
  replace HVh := Aside0.mk (Kd.V_below (Kd.V_below HVh.out hpre) hb)
  replace HVa := Aside0.mk (Kd.V_below (Kd.V_below HVa.out hpre) hb)
  replace HVb := Aside0.mk (Kd.V_below (Kd.V_below HVb.out hpre) hb)
  have HVc : Aside0 (Kd.V k55 55 w4 0 (fun _ => True) (.slice A4 2 c4) s5c) := ⟨Kd.V_mono (hv) (fun _ _ => trivial)⟩
  clear hpre hb hv HB3
  have xa_0 : w4.cell? ⟨w2.heap.size, 0, none⟩ = some (.slice A2 2 c2) := (blk_cell KXa.out 0).trans rfl
  have xa_1 : w4.cell? ⟨w2.heap.size, 1, none⟩ = some (.int .i64 1) := (blk_cell KXa.out 1).trans rfl
  have la : w2.heap.size < w4.heap.size := (Array.getElem?_eq_some_iff.1 KXa.out).1
  go_wp2_with fail
  clear xa_0 xa_1 la
  have hpre : Below w4.heap.size w4 (w4.alloc (.cells #[.slice A4 2 c4, .int .i64 1] 24)) := (Below.refl w4.heap.size w4).alloc (Nat.le_refl _) _
  have KXc : Aside0 ((w4.alloc (.cells #[.slice A4 2 c4, .int .i64 1] 24)).heap[w4.heap.size]? = some (.cells #[.slice A4 2 c4, .int .i64 1] 24 (0, 0))) := by
    have hn := alloc_new w4 (.cells #[.slice A4 2 c4, .int .i64 1] 24)
    (try simp only [World.size_alloc] at hn)
    exact ⟨hn⟩
  refine (heap_Hold.calls (fun _ => True) A2 c2 s5a 1 0 s5d 1 0 _ (Kd.V_below HVa.out hpre) s5_d).mono ?_
  rintro e w5 ⟨v5, rfl, hv, hb⟩
  obtain ⟨A5, c5, ev⟩ := Kd.V_slice hv
  replace ev : v5 = .slice A5 2 c5 := ev
  subst ev
  have HB5 : Aside0 (Below w.heap.size w w5) := ⟨(HB4.out.trans (hpre.mono HB4.out.size)).trans (hb.mono (Nat.le_trans HB4.out.size hpre.size))⟩
  replace KXh := Aside0.mk (blk_below (blk_below KXh.out hpre) hb)
  replace KXa := Aside0.mk (blk_below (blk_below KXa.out hpre) hb)
  replace KXb := Aside0.mk (blk_below (blk_below KXb.out hpre) hb)
  replace KXc := Aside0.mk (blk_below KXc.out hb)
  replace HVh := Aside0.mk (Kd.V_below (Kd.V_below HVh.out hpre) hb)
  replace HVa := Aside0.mk (Kd.V_below (Kd.V_below HVa.out hpre) hb)
  replace HVb := Aside0.mk (Kd.V_below (Kd.V_below HVb.out hpre) hb)
  replace HVc := Aside0.mk (Kd.V_below (Kd.V_below HVc.out hpre) hb)
  have HVd : Aside0 (Kd.V k55 55 w5 0 (fun _ => True) (.slice A5 2 c5) s5d) := ⟨Kd.V_mono (hv) (fun _ _ => trivial)⟩
  clear hpre hb hv HB4
  have xh_0 : w5.cell? ⟨w1.heap.size, 0, none⟩ = some (.slice A1 2 c1) := (blk_cell KXh.out 0).trans rfl
  have xh_1 : w5.cell? ⟨w1.heap.size, 1, none⟩ = some (.int .i64 1) := (blk_cell KXh.out 1).trans rfl
  have lh : w1.heap.size < w5.heap.size := (Array.getElem?_eq_some_iff.1 KXh.out).1
  go_wp2_with fail
  clear xh_0 xh_1 lh
  have hpre : Below w5.heap.size w5 (w5.alloc (.cells #[.slice A5 2 c5, .int .i64 1] 24)) := (Below.refl w5.heap.size w5).alloc (Nat.le_refl _) _
  have KXd : Aside0 ((w5.alloc (.cells #[.slice A5 2 c5, .int .i64 1] 24)).heap[w5.heap.size]? = some (.cells #[.slice A5 2 c5, .int .i64 1] 24 (0, 0))) := by
    have hn := alloc_new w5 (.cells #[.slice A5 2 c5, .int .i64 1] 24)
    (try simp only [World.size_alloc] at hn)
    exact ⟨hn⟩
  refine (heap_Fits.calls 10 A1 c1 [z55, z55] 1 1 false true _ (Kd.V_reads' (Kd.V_below HVh.out hpre)).2.2 (Kd.V_reads' HVh.out).2.1 s5_f1).mono ?_
  rintro e w6 ⟨rfl, hb⟩
  have HB6 : Aside0 (Below w.heap.size w w6) := ⟨(HB5.out.trans (hpre.mono HB5.out.size)).trans (hb.mono (Nat.le_trans HB5.out.size hpre.size))⟩
  replace KXh := Aside0.mk (blk_below (blk_below KXh.out hpre) hb)
  replace KXa := Aside0.mk (blk_below (blk_below KXa.out hpre) hb)
  replace KXb := Aside0.mk (blk_below (blk_below KXb.out hpre) hb)
  replace KXc := Aside0.mk (blk_below (blk_below KXc.out hpre) hb)
  replace KXd := Aside0.mk (blk_below KXd.out hb)
  replace HVh := Aside0.mk (Kd.V_below (Kd.V_below HVh.out hpre) hb)
  replace HVa := Aside0.mk (Kd.V_below (Kd.V_below HVa.out hpre) hb)
  replace HVb := Aside0.mk (Kd.V_below (Kd.V_below HVb.out hpre) hb)
  replace HVc := Aside0.mk (Kd.V_below (Kd.V_below HVc.out hpre) hb)
  replace HVd := Aside0.mk (Kd.V_below (Kd.V_below HVd.out hpre) hb)
  clear hpre hb HB5
  have xh_0 : w6.cell? ⟨w1.heap.size, 0, none⟩ = some (.slice A1 2 c1) := (blk_cell KXh.out 0).trans rfl
  have xh_1 : w6.cell? ⟨w1.heap.size, 1, none⟩ = some (.int .i64 1) := (blk_cell KXh.out 1).trans rfl
  have lh : w1.heap.size < w6.heap.size := (Array.getElem?_eq_some_iff.1 KXh.out).1
  go_wp2_with fail
  clear xh_0 xh_1 lh
  have hpre : Below w6.heap.size w6 w6 := Below.refl w6.heap.size w6
  refine (heap_Fits.calls 10 A1 c1 [z55, z55] 1 2 false false _ (Kd.V_reads' (Kd.V_below HVh.out hpre)).2.2 (Kd.V_reads' HVh.out).2.1 s5_f2).mono ?_
  rintro e w7 ⟨rfl, hb⟩
  have HB7 : Aside0 (Below w.heap.size w w7) := ⟨(HB6.out.trans (hpre.mono HB6.out.size)).trans (hb.mono (Nat.le_trans HB6.out.size hpre.size))⟩
  replace KXh := Aside0.mk (blk_below (blk_below KXh.out hpre) hb)
  replace KXa := Aside0.mk (blk_below (blk_below KXa.out hpre) hb)
  replace KXb := Aside0.mk (blk_below (blk_below KXb.out hpre) hb)
  replace KXc := Aside0.mk (blk_below (blk_below KXc.out hpre) hb)
  replace KXd := Aside0.mk (blk_below (blk_below KXd.out hpre) hb)
  replace HVh := Aside0.mk (Kd.V_below (Kd.V_below HVh.out hpre) hb)
  replace HVa := Aside0.mk (Kd.V_below (Kd.V_below HVa.out hpre) hb)
  replace HVb := Aside0.mk (Kd.V_below (Kd.V_below HVb.out hpre) hb)
  replace HVc := Aside0.mk (Kd.V_below (Kd.V_below HVc.out hpre) hb)
  replace HVd := Aside0.mk (Kd.V_below (Kd.V_below HVd.out hpre) hb)
  clear hpre hb HB6
  have xh_0 : w7.cell? ⟨w1.heap.size, 0, none⟩ = some (.slice A1 2 c1) := (blk_cell KXh.out 0).trans rfl
  have xh_1 : w7.cell? ⟨w1.heap.size, 1, none⟩ = some (.int .i64 1) := (blk_cell KXh.out 1).trans rfl
  have lh : w1.heap.size < w7.heap.size := (Array.getElem?_eq_some_iff.1 KXh.out).1
  go_wp2_with fail
  clear xh_0 xh_1 lh
  have hpre : Below w7.heap.size w7 w7 := Below.refl w7.heap.size w7
  refine (heap_Fits.calls 10 A1 c1 [z55, z55] 1 2 true true _ (Kd.V_reads' (Kd.V_below HVh.out hpre)).2.2 (Kd.V_reads' HVh.out).2.1 s5_f3).mono ?_
  rintro e w8 ⟨rfl, hb⟩
  have HB8 : Aside0 (Below w.heap.size w w8) := ⟨(HB7.out.trans (hpre.mono HB7.out.size)).trans (hb.mono (Nat.le_trans HB7.out.size hpre.size))⟩
  replace KXh := Aside0.mk (blk_below (blk_below KXh.out hpre) hb)
  replace KXa := Aside0.mk (blk_below (blk_below KXa.out hpre) hb)
  replace KXb := Aside0.mk (blk_below (blk_below KXb.out hpre) hb)
  replace KXc := Aside0.mk (blk_below (blk_below KXc.out hpre) hb)
  replace KXd := Aside0.mk (blk_below (blk_below KXd.out hpre) hb)
  replace HVh := Aside0.mk (Kd.V_below (Kd.V_below HVh.out hpre) hb)
  replace HVa := Aside0.mk (Kd.V_below (Kd.V_below HVa.out hpre) hb)
  replace HVb := Aside0.mk (Kd.V_below (Kd.V_below HVb.out hpre) hb)
  replace HVc := Aside0.mk (Kd.V_below (Kd.V_below HVc.out hpre) hb)
  replace HVd := Aside0.mk (Kd.V_below (Kd.V_below HVd.out hpre) hb)
  clear hpre hb HB7
  have xa_0 : w8.cell? ⟨w2.heap.size, 0, none⟩ = some (.slice A2 2 c2) := (blk_cell KXa.out 0).trans rfl
  have xa_1 : w8.cell? ⟨w2.heap.size, 1, none⟩ = some (.int .i64 1) := (blk_cell KXa.out 1).trans rfl
  have la : w2.heap.size < w8.heap.size := (Array.getElem?_eq_some_iff.1 KXa.out).1
  go_wp2_with fail
  clear xa_0 xa_1 la
  have hpre : Below w8.heap.size w8 w8 := Below.refl w8.heap.size w8
  refine (heap_Free.calls 10 A2 c2 s5a 1 1 _ (Kd.V_reads' (Kd.V_below HVa.out hpre)).2.2 (Kd.V_reads' HVa.out).2.1 s5_f4).mono ?_
  rintro e w9 ⟨rfl, hb⟩
  have HB9 : Aside0 (Below w.heap.size w w9) := ⟨(HB8.out.trans (hpre.mono HB8.out.size)).trans (hb.mono (Nat.le_trans HB8.out.size hpre.size))⟩
  replace KXh := Aside0.mk (blk_below (blk_below KXh.out hpre) hb)
  replace KXa := Aside0.mk (blk_below (blk_below KXa.out hpre) hb)
  replace KXb := Aside0.mk (blk_below (blk_below KXb.out hpre) hb)
  replace KXc := Aside0.mk (blk_below (blk_below KXc.out hpre) hb)
  replace KXd := Aside0.mk (blk_below (blk_below KXd.out hpre) hb)
  replace HVh := Aside0.mk (Kd.V_below (Kd.V_below HVh.out hpre) hb)
  replace HVa := Aside0.mk (Kd.V_below (Kd.V_below HVa.out hpre) hb)
  replace HVb := Aside0.mk (Kd.V_below (Kd.V_below HVb.out hpre) hb)
  replace HVc := Aside0.mk (Kd.V_below (Kd.V_below HVc.out hpre) hb)
  replace HVd := Aside0.mk (Kd.V_below (Kd.V_below HVd.out hpre) hb)
  clear hpre hb HB8
  obtain ⟨bd, bA, bc, rfl, b0, -⟩ := at_T55 (Kd.V_reads' HVb.out).2.2 0 (by decide) (by decide)
  obtain ⟨cd, cA, cc, rfl, c0, -⟩ := at_T55 (Kd.V_reads' HVc.out).2.2 0 (by decide) (by decide)
  obtain ⟨cd', cA', cc', e', c0', c1', -⟩ := at_T55 (Kd.V_reads' HVc.out).2.2 1 (by decide) (by decide)
  cases e'
  replace b0 : w9.cell? bd = some (.int .i64 2) := by rw [show (0 : Int).toNat * 4 = 0 from rfl, Addr.add_zero'] at b0; exact b0
  replace c0 : w9.cell? cd = some (.int .i64 1) := by rw [show (0 : Int).toNat * 4 = 0 from rfl, Addr.add_zero'] at c0; exact c0
  replace c1' : w9.cell? ⟨cd.block, cd.off + 4 + 1, none⟩ = some (.bool true) := c1'
  clear c0'
  have xb_0 : w9.cell? ⟨w3.heap.size, 0, none⟩ = some (.slice (some bd) 2 c3) := (blk_cell KXb.out 0).trans rfl
  have xb_1 : w9.cell? ⟨w3.heap.size, 1, none⟩ = some (.int .i64 1) := (blk_cell KXb.out 1).trans rfl
  have lb : w3.heap.size < w9.heap.size := (Array.getElem?_eq_some_iff.1 KXb.out).1
  have xc_0 : w9.cell? ⟨w4.heap.size, 0, none⟩ = some (.slice (some cd) 2 c4) := (blk_cell KXc.out 0).trans rfl
  have xc_1 : w9.cell? ⟨w4.heap.size, 1, none⟩ = some (.int .i64 1) := (blk_cell KXc.out 1).trans rfl
  have lc : w4.heap.size < w9.heap.size := (Array.getElem?_eq_some_iff.1 KXc.out).1
  go_wp2_with fail
  clear xb_0 xb_1 lb xc_0 xc_1 lc
  have hpre : Below w9.heap.size w9 w9 := Below.refl w9.heap.size w9
  refine (heap_Settle.calls (fun _ => True) (some cd) c4 s5c 1 _ 1 _ (Kd.V_below HVc.out hpre) s5_s).mono ?_
  rintro e w10 ⟨v10, rfl, hv, hb⟩
  obtain ⟨A10, c10, ev⟩ := Kd.V_slice hv
  replace ev : v10 = .slice A10 2 c10 := ev
  subst ev
  have HB10 : Aside0 (Below w.heap.size w w10) := ⟨(HB9.out.trans (hpre.mono HB9.out.size)).trans (hb.mono (Nat.le_trans HB9.out.size hpre.size))⟩
  replace KXh := Aside0.mk (blk_below (blk_below KXh.out hpre) hb)
  replace KXa := Aside0.mk (blk_below (blk_below KXa.out hpre) hb)
  replace KXb := Aside0.mk (blk_below (blk_below KXb.out hpre) hb)
  replace KXc := Aside0.mk (blk_below (blk_below KXc.out hpre) hb)
  replace KXd := Aside0.mk (blk_below (blk_below KXd.out hpre) hb)
  replace HVh := Aside0.mk (Kd.V_below (Kd.V_below HVh.out hpre) hb)
  replace HVa := Aside0.mk (Kd.V_below (Kd.V_below HVa.out hpre) hb)
  replace HVb := Aside0.mk (Kd.V_below (Kd.V_below HVb.out hpre) hb)
  replace HVc := Aside0.mk (Kd.V_below (Kd.V_below HVc.out hpre) hb)
  replace HVd := Aside0.mk (Kd.V_below (Kd.V_below HVd.out hpre) hb)
  have HVs : Aside0 (Kd.V k55 55 w10 0 (fun _ => True) (.slice A10 2 c10) (s5c.map fun x => (⟨x.f0, false, x.f2⟩ : S55))) := ⟨Kd.V_mono (hv) (fun _ _ => trivial)⟩
  clear hpre hb hv HB9
  go_wp2_with fail
  have hpre : Below w10.heap.size w10 w10 := Below.refl w10.heap.size w10
  refine (heap_Free.calls 10 A10 c10 (s5c.map fun x => (⟨x.f0, false, x.f2⟩ : S55)) 1 1 _ (Kd.V_reads' (Kd.V_below HVs.out hpre)).2.2 (Kd.V_reads' HVs.out).2.1 s5_f5).mono ?_
  rintro e w11 ⟨rfl, hb⟩
  have HB11 : Aside0 (Below w.heap.size w w11) := ⟨(HB10.out.trans (hpre.mono HB10.out.size)).trans (hb.mono (Nat.le_trans HB10.out.size hpre.size))⟩
  replace KXh := Aside0.mk (blk_below (blk_below KXh.out hpre) hb)
  replace KXa := Aside0.mk (blk_below (blk_below KXa.out hpre) hb)
  replace KXb := Aside0.mk (blk_below (blk_below KXb.out hpre) hb)
  replace KXc := Aside0.mk (blk_below (blk_below KXc.out hpre) hb)
  replace KXd := Aside0.mk (blk_below (blk_below KXd.out hpre) hb)
  replace HVh := Aside0.mk (Kd.V_below (Kd.V_below HVh.out hpre) hb)
  replace HVa := Aside0.mk (Kd.V_below (Kd.V_below HVa.out hpre) hb)
  replace HVb := Aside0.mk (Kd.V_below (Kd.V_below HVb.out hpre) hb)
  replace HVc := Aside0.mk (Kd.V_below (Kd.V_below HVc.out hpre) hb)
  replace HVd := Aside0.mk (Kd.V_below (Kd.V_below HVd.out hpre) hb)
  replace HVs := Aside0.mk (Kd.V_below (Kd.V_below HVs.out hpre) hb)
  clear hpre hb HB10
  have xb_0 : w11.cell? ⟨w3.heap.size, 0, none⟩ = some (.slice (some bd) 2 c3) := (blk_cell KXb.out 0).trans rfl
  have xb_1 : w11.cell? ⟨w3.heap.size, 1, none⟩ = some (.int .i64 1) := (blk_cell KXb.out 1).trans rfl
  have lb : w3.heap.size < w11.heap.size := (Array.getElem?_eq_some_iff.1 KXb.out).1
  go_wp2_with fail
  clear xb_0 xb_1 lb
  have hpre : Below w11.heap.size w11 w11 := Below.refl w11.heap.size w11
  refine (heap_Right.calls (some bd) c3 s5b 1 true _ (Kd.V_reads' (Kd.V_below HVb.out hpre)).2.2 (Kd.V_reads' HVb.out).2.1 s5_r).mono ?_
  rintro e w12 ⟨rfl, hb⟩
  have HB12 : Aside0 (Below w.heap.size w w12) := ⟨(HB11.out.trans (hpre.mono HB11.out.size)).trans (hb.mono (Nat.le_trans HB11.out.size hpre.size))⟩
  replace KXh := Aside0.mk (blk_below (blk_below KXh.out hpre) hb)
  replace KXa := Aside0.mk (blk_below (blk_below KXa.out hpre) hb)
  replace KXb := Aside0.mk (blk_below (blk_below KXb.out hpre) hb)
  replace KXc := Aside0.mk (blk_below (blk_below KXc.out hpre) hb)
  replace KXd := Aside0.mk (blk_below (blk_below KXd.out hpre) hb)
  replace HVh := Aside0.mk (Kd.V_below (Kd.V_below HVh.out hpre) hb)
  replace HVa := Aside0.mk (Kd.V_below (Kd.V_below HVa.out hpre) hb)
  replace HVb := Aside0.mk (Kd.V_below (Kd.V_below HVb.out hpre) hb)
  replace HVc := Aside0.mk (Kd.V_below (Kd.V_below HVc.out hpre) hb)
  replace HVd := Aside0.mk (Kd.V_below (Kd.V_below HVd.out hpre) hb)
  replace HVs := Aside0.mk (Kd.V_below (Kd.V_below HVs.out hpre) hb)
  clear hpre hb HB11
  have xa_0 : w12.cell? ⟨w2.heap.size, 0, none⟩ = some (.slice A2 2 c2) := (blk_cell KXa.out 0).trans rfl
  have xa_1 : w12.cell? ⟨w2.heap.size, 1, none⟩ = some (.int .i64 1) := (blk_cell KXa.out 1).trans rfl
  have la : w2.heap.size < w12.heap.size := (Array.getElem?_eq_some_iff.1 KXa.out).1
  have xd_0 : w12.cell? ⟨w5.heap.size, 0, none⟩ = some (.slice A5 2 c5) := (blk_cell KXd.out 0).trans rfl
  have xd_1 : w12.cell? ⟨w5.heap.size, 1, none⟩ = some (.int .i64 1) := (blk_cell KXd.out 1).trans rfl
  have ld : w5.heap.size < w12.heap.size := (Array.getElem?_eq_some_iff.1 KXd.out).1
  go_wp2_with fail
  clear xa_0 xa_1 la xd_0 xd_1 ld
  have hpre : Below w12.heap.size w12 w12 := Below.refl w12.heap.size w12
  refine (heap_Same.calls A2 c2 s5a 1 A5 c5 s5d 1 false _ (Kd.V_reads' (Kd.V_below HVa.out hpre)).2.2 (Kd.V_reads' HVa.out).2.1 (Kd.V_reads' (Kd.V_below HVd.out hpre)).2.2 (Kd.V_reads' HVd.out).2.1 s5_e).mono ?_
  rintro e w13 ⟨rfl, hb⟩
  have HB13 : Aside0 (Below w.heap.size w w13) := ⟨(HB12.out.trans (hpre.mono HB12.out.size)).trans (hb.mono (Nat.le_trans HB12.out.size hpre.size))⟩
  replace KXh := Aside0.mk (blk_below (blk_below KXh.out hpre) hb)
  replace KXa := Aside0.mk (blk_below (blk_below KXa.out hpre) hb)
  replace KXb := Aside0.mk (blk_below (blk_below KXb.out hpre) hb)
  replace KXc := Aside0.mk (blk_below (blk_below KXc.out hpre) hb)
  replace KXd := Aside0.mk (blk_below (blk_below KXd.out hpre) hb)
  replace HVh := Aside0.mk (Kd.V_below (Kd.V_below HVh.out hpre) hb)
  replace HVa := Aside0.mk (Kd.V_below (Kd.V_below HVa.out hpre) hb)
  replace HVb := Aside0.mk (Kd.V_below (Kd.V_below HVb.out hpre) hb)
  replace HVc := Aside0.mk (Kd.V_below (Kd.V_below HVc.out hpre) hb)
  replace HVd := Aside0.mk (Kd.V_below (Kd.V_below HVd.out hpre) hb)
  replace HVs := Aside0.mk (Kd.V_below (Kd.V_below HVs.out hpre) hb)
  clear hpre hb HB12
  go_wp2
  go_ret
  exact ⟨rfl, HB13.out⟩
end Go.Proofs.Yteiladccdenpbaa.P
end
section
namespace Go.Proofs.Yteiladccdenpbaa.P
open Go.RowKit Go.Proofs.YteiladccdenpbaaW.PrintWords Go.Proofs.YteiladccdenpbaaW.PrintLast Go.Proofs.YteiladccdenpbaaW.PrintMore
set_option linter.unusedVariables false
set_option linter.unusedSimpArgs false
theorem used_val (l : List S55) (kp p : Int) : assartref05_Used.f l kp p = some (usedB l p) := by
  unfold assartref05_Used.f usedB
  by_cases h0 : p ≥ 0
  · rw [if_pos h0]
    by_cases h1 : p < (l.length : Int)
    · rw [if_pos h1, if_pos h0]
      congr 1
      rw [decide_eq_decide]
      omega
    · rw [if_neg h1, decide_eq_false (by omega)]
  · rw [if_neg h0, decide_eq_false (by omega)]
def heldN (l : List S55) (q i : Nat) : List S55 := l.set q ⟨(rd_T55 l q).f0 + i, (rd_T55 l q).f1, (rd_T55 l q).f2⟩
theorem V_base {α : Type} {d : Kd α} {e base base' : Nat} {W : World} {ok : Nat → Prop} {v : Value} {xs : List α} (h : Kd.V d e W base ok v xs) : Kd.V d e W base' ok v xs := h
theorem usedB_nat {l : List S55} {p : Int} (h : usedB l p = true) : ∃ q : Nat, p = q ∧ q < l.length ∧ 0 < (rd_T55 l (q : Nat)).f0 := by
  unfold usedB at h
  rw [decide_eq_true_eq] at h
  refine ⟨p.toNat, by omega, by omega, ?_⟩
  rw [Int.toNat_of_nonneg h.1]
  exact h.2.2
theorem heldN_len (l : List S55) (q i : Nat) : (heldN l q i).length = l.length := by unfold heldN; exact List.length_set
theorem rd55_same {l : List S55} {a i : Nat} (x : S55) (h : a < l.length) : rd_T55 (l.set a x) (i : Nat) = if a = i then x else rd_T55 l (i : Nat) := by
  simp only [rd_T55, Int.toNat_natCast, List.getD_eq_getElem?_getD]
  rw [List.getElem?_set]
  by_cases e : a = i
  · subst e
    rw [if_pos rfl, if_pos rfl, if_pos h]
    rfl
  · rw [if_neg e, if_neg e]
end Go.Proofs.Yteiladccdenpbaa.P
end
