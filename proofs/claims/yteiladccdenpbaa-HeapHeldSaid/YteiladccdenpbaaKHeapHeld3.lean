/- Texts of this claim's proof put together: HHeapHeld, PTr, PHeap1, PureHeapHeldV, CHeapHeld, HRow, QHeapHeld, PureHeapHeld. -/
import Derived.Below
import Derived.Deep.Draws
import Derived.Deep.AppendLies
import Derived.Maps.AppendAt
import Derived.OwnWalk
import Derived.Laws.BytesArg
import Derived.Laws.MakeOwn
import Derived.Laws.OwnMore
import Derived.Deep.OwnRows
import Derived.Tactics
import Derived.Lib.ConvBytes
import Derived.Laws.Slices
import Derived.WalkKit
import Derived.KernelRfl
import Derived.RowKit3
import Derived.Deep.LoopGhost
import Derived.Deep.QuietTactic
import Derived.BigQuiet
import Derived.WideLaws
import Derived.Deep.DeepCutAuto
import Derived.Deep.CutBlock
import Derived.Deep.RegionHeld3
import Derived.Laws.Rows
import Derived.Lib.AppendStr
import Derived.ArgAppend
import Derived.Laws.IdiomCopy
import Derived.RowKit
import Derived.OrdersHeld
import Derived.Laws.BitsLemmas
import Derived.Laws.StructEq
import Derived.Test.YteiladccdenpbaaProg
import Derived.Shelf.RegionOpenPlain
import Derived.Shelf.Abstract
import Derived.Laws.CopyOwn
import Derived.Lib.SlBuf
import Derived.ChangeArms
import Derived.DataReads
import Derived.DataElems
import Derived.SizedLaws
import Derived.Test.YteiladccdenpbaaRows
import Derived.ProofKit
import Derived.OpenShut
import Derived.ShutString
import Derived.ChangeOld
import Derived.Test.YteiladccdenpbaaKHeapHeld0
import Derived.Test.YteiladccdenpbaaKHeapHeld1
import Derived.Test.YteiladccdenpbaaKHeapHeld2
namespace Foot
end Foot
namespace Go.Proofs.Yteiladccdenpbaa
end Go.Proofs.Yteiladccdenpbaa
namespace Go.Proofs.Yteiladccdenpbaa.P
end Go.Proofs.Yteiladccdenpbaa.P
namespace Go.Proofs.Yteiladccdenpbaa.Pure
end Go.Proofs.Yteiladccdenpbaa.Pure
namespace Go.Proofs.Yteiladccdenpbaa.heapHeld
end Go.Proofs.Yteiladccdenpbaa.heapHeld
namespace Go.Proofs.YteiladccdenpbaaW.PrintLast
end Go.Proofs.YteiladccdenpbaaW.PrintLast
namespace Go.Proofs.YteiladccdenpbaaW.PrintMore
end Go.Proofs.YteiladccdenpbaaW.PrintMore
namespace Go.Proofs.YteiladccdenpbaaW.PrintWords
end Go.Proofs.YteiladccdenpbaaW.PrintWords
namespace Kd
end Kd
section
namespace Go.Proofs.Yteiladccdenpbaa.P
open Go.RowKit Go.Proofs.YteiladccdenpbaaW.PrintWords Go.Proofs.YteiladccdenpbaaW.PrintLast Go.Proofs.YteiladccdenpbaaW.PrintMore
attribute [local go_sem] max2_int min2_int max_two min_two max_three min_three max_four min_four
set_option linter.unusedVariables false
set_option linter.unusedSimpArgs false
mutual
def assartlaw05_HeapHeld.j0 : Nat → List Int → Bool → Bool → List (S55) → Int → Bool → List (S49) → Option (Bool)
  | 0, _, _, _, _, _, _, _ => none
  | k + 1, x2, x7, x29, x417000, x417001, x418000, x418001 => if x29 = true then (some x7) else ((heap_Alloc.f x417000 x417001 x418000 x418001 x2).bind fun bt420 => (if bt420.2.2.2 = 0 then (if (bt420.1.length : Int) = (x417000.length : Int) then (if bt420.2.2.1 < 0 then (assartlaw05_HeapHeld.j1 k x2 x7 bt420.2.2.1 true x417000 x417001 x418000 x418001 bt420.1 bt420.2.1) else (assartlaw05_HeapHeld.j1 k x2 x7 bt420.2.2.1 (decide (bt420.2.2.1 ≥ (x417000.length : Int))) x417000 x417001 x418000 x418001 bt420.1 bt420.2.1)) else (assartlaw05_HeapHeld.j1 k x2 x7 bt420.2.2.1 true x417000 x417001 x418000 x418001 bt420.1 bt420.2.1)) else (if x7 = true then (some (bt420.2.2.1 == 0)) else (some false))))
def assartlaw05_HeapHeld.j1 : Nat → List Int → Bool → Int → Bool → List (S55) → Int → Bool → List (S49) → List (S55) → Int → Option (Bool)
  | 0, _, _, _, _, _, _, _, _, _, _ => none
  | k + 1, x2, x7, x9, x63, x417000, x417001, x418000, x418001, x427000, x427001 => if x63 = true then (some false) else (assartlaw05_HeapHeld.l0 k x2 x7 x9 0 x417000 x417001 x418000 x418001 x427000 x427001)
def assartlaw05_HeapHeld.l0 : Nat → List Int → Bool → Int → Int → List (S55) → Int → Bool → List (S49) → List (S55) → Int → Option (Bool)
  | 0, _, _, _, _, _, _, _, _, _, _ => none
  | k + 1, x2, x7, x9, x11, x417000, x417001, x418000, x418001, x427000, x427001 => if x11 < (x417000.length : Int) then ((assartref05_In.f k x2 x11).bind fun t429 => (assartlaw05_HeapHeld.l1 k x2 x7 x9 x11 0 t429 0 x417000 x417001 x418000 x418001 x427000 x427001)) else (if x7 = true then (if x427001 = x417001 then (if 0 ≤ x9 then (if x9 < (x427000.length : Int) then (if ((rd_T55 x427000 x9).f0) = 1 then (some (!((rd_T55 x427000 x9).f1))) else (some false)) else (none)) else (none)) else (some false)) else (some false))
def assartlaw05_HeapHeld.l1 : Nat → List Int → Bool → Int → Int → Int → Bool → Int → List (S55) → Int → Bool → List (S49) → List (S55) → Int → Option (Bool)
  | 0, _, _, _, _, _, _, _, _, _, _, _, _, _ => none
  | k + 1, x2, x7, x9, x11, x12, x13, x14, x417000, x417001, x418000, x418001, x427000, x427001 => if x14 < (x418001.length : Int) then (if x418000 = true then (assartlaw05_HeapHeld.j4 k x2 x7 x9 x11 x12 x13 x14 false x417000 x417001 x418000 x418001 x427000 x427001) else (assartlaw05_HeapHeld.j4 k x2 x7 x9 x11 x12 x13 x14 (!x13) x417000 x417001 x418000 x418001 x427000 x427001)) else (assartlaw05_HeapHeld.j4 k x2 x7 x9 x11 x12 x13 x14 false x417000 x417001 x418000 x418001 x427000 x427001)
def assartlaw05_HeapHeld.j4 : Nat → List Int → Bool → Int → Int → Int → Bool → Int → Bool → List (S55) → Int → Bool → List (S49) → List (S55) → Int → Option (Bool)
  | 0, _, _, _, _, _, _, _, _, _, _, _, _, _, _ => none
  | k + 1, x2, x7, x9, x11, x12, x13, x14, x87, x417000, x417001, x418000, x418001, x427000, x427001 => if x87 = true then (if 0 ≤ x14 then (if x14 < (x418001.length : Int) then (if ((rd_T49 x418001 x14).f1) = x11 then (assartlaw05_HeapHeld.l1 k x2 x7 x9 x11 (wrap64 (x12 + 1)) x13 (wrap64 (x14 + 1)) x417000 x417001 x418000 x418001 x427000 x427001) else (assartlaw05_HeapHeld.l1 k x2 x7 x9 x11 x12 x13 (wrap64 (x14 + 1)) x417000 x417001 x418000 x418001 x427000 x427001)) else (none)) else (none)) else (if x11 = x9 then (assartlaw05_HeapHeld.l0 k x2 x7 x9 (wrap64 (x11 + 1)) x417000 x417001 x418000 x418001 x427000 x427001) else (if 0 ≤ x11 then (if x11 < (x427000.length : Int) then (if x11 < (x417000.length : Int) then (if ((rd_T55 x427000 x11).f0) = (wrap64 (((rd_T55 x417000 x11).f0) + x12)) then (if (((rd_T55 x427000 x11).f1) != ((rd_T55 x417000 x11).f1)) = true then (some false) else ((assartref04_Same.f k ((rd_T55 x427000 x11).f2.f0) ((rd_T55 x427000 x11).f2.f1) ((rd_T55 x417000 x11).f2.f0) ((rd_T55 x417000 x11).f2.f1)).bind fun t437 => (if t437 = true then (assartlaw05_HeapHeld.l0 k x2 x7 x9 (wrap64 (x11 + 1)) x417000 x417001 x418000 x418001 x427000 x427001) else (some false)))) else (some false)) else (none)) else (none)) else (none)))
end
def assartlaw05_HeapHeld.g (k : Nat) (l0_0 : List (S55)) (a0_1 : Int) (a1_0 : Bool) (l1_1 : List (S49)) (l2 : List Int) : Option (Bool) := (assartlaw05_shown.f).bind fun t418 => ((assartref05_May.f k l0_0 a0_1 60).bind fun t419 => (if t419 = true then (if (l1_1.length : Int) > 10 then (assartlaw05_HeapHeld.j0 k l2 t418 true l0_0 a0_1 a1_0 l1_1) else (assartlaw05_HeapHeld.j0 k l2 t418 (decide ((l2.length : Int) > 20)) l0_0 a0_1 a1_0 l1_1)) else (assartlaw05_HeapHeld.j0 k l2 t418 true l0_0 a0_1 a1_0 l1_1)))
def assartlaw05_HeapHeld.T19 : Bool × List (List Nat × List Nat) := (true, [([], []), ([], []), ([0, 1], [0, 1]), ([2], [2]), ([3], [3]), ([4, 3], [3, 4]), ([3], [3]), ([5, 6, 3], [3, 5, 6]), ([7, 3], [3, 7]), ([8, 3], [3, 8]), ([3], [3]), ([10, 3], [3, 10]), ([3], [3]), ([11, 12, 3], [3, 11, 12]), ([13, 3], [3, 13]), ([14, 3], [3, 14]), ([3], [3]), ([15, 16, 3], [3, 15, 16]), ([9, 17, 3], [3, 9, 17]), ([18, 3, 3], [3, 18]), ([19], [19]), ([20, 19], [19, 20]), ([19], [19]), ([21, 22, 19], [19, 21, 22]), ([23, 19], [19, 23]), ([24, 19], [19, 24]), ([19], [19]), ([26, 19], [19, 26]), ([19], [19]), ([27, 28, 19], [19, 27, 28]), ([29, 19], [19, 29]), ([30, 19], [19, 30]), ([25, 31, 19], [19, 25, 31]), ([19, 32, 3], [3, 19, 32]), ([33, 19, 3], [3, 33]), ([34], [34]), ([35, 34], [34, 35]), ([34], [34]), ([36, 37, 34], [34, 36, 37]), ([38, 34], [34, 38]), ([39, 34], [34, 39]), ([34], [34]), ([41, 34], [34, 41]), ([34], [34]), ([42, 43, 34], [34, 42, 43]), ([44, 34], [34, 44]), ([45, 34], [34, 45]), ([40, 46, 34, 34], [34, 40, 46]), ([47, 34], [34, 47]), ([34, 48, 3], [3, 34, 48]), ([3, 49], [3, 49])])
def assartlaw05_HeapHeld.B19 : List Nat := [0, 0, 3, 7, 15, 31, 15, 127, 255, 511, 15, 1039, 15, 7183, 15375, 31759, 15, 130063, 262143, 524287, 1048575, 2097151, 1048575, 8388607, 16777215, 33554431, 1048575, 68157439, 1048575, 470810623, 1007681535, 2081423359, 4294967295, 8589934591, 17179869183, 34359738367, 68719476735, 34359738367, 274877906943, 549755813887, 1099511627775, 34359738367, 2233382993919, 34359738367, 15427522527231, 33019708571647, 68204080660479, 140737488355327, 281474976710655, 562949953421311, 1125899906842623]
theorem assartlaw05_HeapHeld.tab19 : rtab .any (opsOf Try.f14 19) = assartlaw05_HeapHeld.T19 := by kernel_rfl
theorem assartlaw05_HeapHeld.bits19 : waitsOk assartlaw05_HeapHeld.T19.2 assartlaw05_HeapHeld.B19 = true := by kernel_rfl
set_option maxHeartbeats 8000000 in
set_option maxRecDepth 100000 in
theorem assartlaw05_HeapHeld.walk (k : Nat) (A0_0 : Option Addr) (c0_0 : Nat) (l0_0 : List (S55)) (a0_1 : Int) (a1_0 : Bool) (A1_1 : Option Addr) (c1_1 : Nat) (l1_1 : List (S49)) (A2 : Option Addr) (c2 : Nat) (l2 : List Int) (r : Bool) (w : World) (hr0_0 : Kd.C k55 w A0_0 l0_0.length l0_0) (hc0_0 : l0_0.length ≤ c0_0) (hr1_1 : Kd.C k49 w A1_1 l1_1.length l1_1) (hc1_1 : l1_1.length ≤ c1_1) (hr2 : Kd.C (Kd.int .i64) w A2 l2.length l2) (hc2 : l2.length ≤ c2) (h : assartlaw05_HeapHeld.g k l0_0 a0_1 a1_0 l1_1 l2 = some r) (hr : r = true) :
    Calls Try.prog 14 #[.agg #[.slice A0_0 l0_0.length c0_0, .int .i64 a0_1], .agg #[.bool a1_0, .slice A1_1 l1_1.length c1_1], .slice A2 l2.length c2] w fun e w' => e = .returned (.bool r) ∧ Below w.heap.size w w' := by
  have hu24 := Try.underlying24
  have hu53 := Try.underlying53
  have HR0_0 := Aside0.mk hr0_0
  have HC0_0 := Aside0.mk hc0_0
  clear hr0_0 hc0_0
  have HR1_1 := Aside0.mk hr1_1
  have HC1_1 := Aside0.mk hc1_1
  clear hr1_1 hc1_1
  have HR2 := Aside0.mk hr2
  have HC2 := Aside0.mk hc2
  clear hr2 hc2
  have HB := Aside0.mk (Below.refl w.heap.size w)
  have H : ((assartlaw05_shown.f).bind fun t418 => ((assartref05_May.f k l0_0 a0_1 60).bind fun t419 => (if t419 = true then (if (l1_1.length : Int) > 10 then (assartlaw05_HeapHeld.j0 k l2 t418 true l0_0 a0_1 a1_0 l1_1) else (assartlaw05_HeapHeld.j0 k l2 t418 (decide ((l2.length : Int) > 20)) l0_0 a0_1 a1_0 l1_1)) else (assartlaw05_HeapHeld.j0 k l2 t418 true l0_0 a0_1 a1_0 l1_1)))) = some r := h
  clear h
  replace H := Option.bind_eq_some_iff.mp H
  obtain ⟨t418, A40, H⟩ := H
  replace H : ((assartref05_May.f k l0_0 a0_1 60).bind fun t419 => (if t419 = true then (if (l1_1.length : Int) > 10 then (assartlaw05_HeapHeld.j0 k l2 t418 true l0_0 a0_1 a1_0 l1_1) else (assartlaw05_HeapHeld.j0 k l2 t418 (decide ((l2.length : Int) > 20)) l0_0 a0_1 a1_0 l1_1)) else (assartlaw05_HeapHeld.j0 k l2 t418 true l0_0 a0_1 a1_0 l1_1))) = some r := H
  have A4 := Aside0.mk A40
  clear A40
  have HC5 := Aside0.mk H
  clear H
  go_enter Try.func14, Try.ntmps14
  go_upto_region 2 with (first | ((with_reducible refine gate_dst (N := 3) rfl ?_); (try (refine gate_guard (by rfl) ?_; dsimp only)); refine box_event ?hg (N := 3) ?hd (cs := #[.slice A0_0 l0_0.length c0_0, .int .i64 a0_1]) (t := 24) ?hr ?_; (case hd => rfl); (case hg => rfl); (case hr => first | (go_simp; done) | (go_simp; rfl)); intro gb416 hg w6 hbox hb; have n0_ := Aside0.mk (below_step (by repeat (first | (with_reducible first | exact HB.out | apply below_alloc | apply pw_below_drewN | apply below_drew1) | exact HB.out)) hb); have n1_ := Aside0.mk (hbox); have n2_ := Aside0.mk ((by rw [hg]; exact (below_size (by repeat (first | (with_reducible first | exact HB.out | apply below_alloc | apply pw_below_drewN | apply below_drew1) | exact HB.out))) : w.heap.size ≤ gb416)); have n3_ := Aside0.mk ((by rw [hg]; exact (below_size (by repeat (first | (with_reducible first | exact HB.out | apply below_alloc | apply pw_below_drewN | apply below_drew1) | exact HB.out))) : w.heap.size ≤ gb416)); clear HB; have HB := n0_; have BK416 := n1_; have GW416 := n2_; have GE416 := n3_; clear n0_ n1_ n2_ n3_; clear hb hbox hg) | ((with_reducible refine gate_dst (N := 4) rfl ?_); (try (refine gate_guard (by rfl) ?_; dsimp only)); refine box_event ?hg (N := 4) ?hd (cs := #[.bool a1_0, .slice A1_1 l1_1.length c1_1]) (t := 53) ?hr ?_; (case hd => rfl); (case hg => rfl); (case hr => first | (go_simp; done) | (go_simp; rfl)); intro gb417 hg w7 hbox hb; have n0_ := Aside0.mk (blk_below (g := gb416) (o := .cells #[.slice A0_0 l0_0.length c0_0, .int .i64 a0_1] 24 (0, 0)) (by (with_reducible repeat (first | refine blk_drewN ?_ _ | refine blk_drew ?_ | refine blk_alloc ?_ _)); exact BK416.out) hb); have n1_ := Aside0.mk (below_step (by repeat (first | (with_reducible first | exact HB.out | apply below_alloc | apply pw_below_drewN | apply below_drew1 | refine below_set ?_ GE416.out) | exact HB.out)) hb); have n2_ := Aside0.mk (hbox); have n3_ := Aside0.mk ((by rw [hg]; exact (below_size (by repeat (first | (with_reducible first | exact HB.out | apply below_alloc | apply pw_below_drewN | apply below_drew1 | refine below_set ?_ GE416.out) | exact HB.out))) : w.heap.size ≤ gb417)); have n4_ := Aside0.mk ((by rw [hg]; exact (below_size (by repeat (first | (with_reducible first | exact HB.out | apply below_alloc | apply pw_below_drewN | apply below_drew1 | refine below_set ?_ GE416.out) | exact HB.out))) : w.heap.size ≤ gb417)); have n5_ := Aside0.mk ((by rw [hg]; exact Nat.ne_of_lt (blk_lt (g := gb416) (o := .cells #[.slice A0_0 l0_0.length c0_0, .int .i64 a0_1] 24 (0, 0)) (by (with_reducible repeat (first | refine blk_drewN ?_ _ | refine blk_drew ?_ | refine blk_alloc ?_ _)); exact BK416.out)) : gb416 ≠ gb417)); have n6_ := Aside0.mk ((by rw [hg]; exact Nat.ne_of_gt (blk_lt (g := gb416) (o := .cells #[.slice A0_0 l0_0.length c0_0, .int .i64 a0_1] 24 (0, 0)) (by (with_reducible repeat (first | refine blk_drewN ?_ _ | refine blk_drew ?_ | refine blk_alloc ?_ _)); exact BK416.out)) : gb417 ≠ gb416)); clear BK416; clear HB; have BK416 := n0_; have HB := n1_; have BK417 := n2_; have GW417 := n3_; have GE417 := n4_; have NB416_417 := n5_; have NB417_416 := n6_; clear n0_ n1_ n2_ n3_ n4_ n5_ n6_; clear hb hbox hg) | ((with_reducible refine gate_callee (f := 33) rfl ?_); refine goesL_ (some 15) rfl rfl Try.func33 (by kernel_rfl) rfl #[] rfl (by (try simp only [List.map_toArray, List.map_cons, List.map_nil]); first | done | rfl | (simp only [List.length_drop, List.length_take]; rfl)) ?_; (with_reducible refine (assartlaw05_shown.calls  t418 _ A4.out).mono ?_); rintro e w8 ⟨rfl, hb⟩; refine ⟨_, rfl, ?_⟩; have n0_ := Aside0.mk (blk_below (g := gb416) (o := .cells #[.slice A0_0 l0_0.length c0_0, .int .i64 a0_1] 24 (0, 0)) (by (with_reducible repeat (first | refine blk_drewN ?_ _ | refine blk_drew ?_ | refine blk_alloc ?_ _)); exact BK416.out) hb); have n1_ := Aside0.mk (blk_below (g := gb417) (o := .cells #[.bool a1_0, .slice A1_1 l1_1.length c1_1] 53 (0, 0)) (by (with_reducible repeat (first | refine blk_drewN ?_ _ | refine blk_drew ?_ | refine blk_alloc ?_ _)); exact BK417.out) hb); have n2_ := Aside0.mk (below_step (by repeat (first | (with_reducible first | exact HB.out | apply below_alloc | apply pw_below_drewN | apply below_drew1 | refine below_set ?_ GE416.out | refine below_set ?_ GE417.out) | exact HB.out)) hb); clear BK416; clear BK417; clear HB; have BK416 := n0_; have BK417 := n1_; have HB := n2_; clear n0_ n1_ n2_; (try clear hb); (try clear hb2); (try clear hk); (try clear hi)))
  (try simp only [Act.put, List.setIfInBounds_toArray, List.set_cons_zero, List.set_cons_succ])
  go_cut [29] (fun v29 wc => ∃ (kq : Nat) (x29_4 : Bool), v29 = .bool x29_4 ∧ Aside0 (assartlaw05_HeapHeld.j0 kq l2 t418 x29_4 l0_0 a0_1 a1_0 l1_1 = some r) ∧ Aside0 (kq ≤ k) ∧ Aside0 (wc.heap[gb416]? = some (.cells #[(.slice A0_0 l0_0.length c0_0), .int .i64 a0_1] 24 (0, 0))) ∧ Aside0 (wc.heap[gb417]? = some (.cells #[.bool a1_0, (.slice A1_1 l1_1.length c1_1)] 53 (0, 0))) ∧ Aside0 (Below w.heap.size w wc))
  case first =>
    have H := HC5.out
    clear HC5
    replace H := Option.bind_eq_some_iff.mp H
    obtain ⟨t419, A90, H⟩ := H
    replace H : (if t419 = true then (if (l1_1.length : Int) > 10 then (assartlaw05_HeapHeld.j0 k l2 t418 true l0_0 a0_1 a1_0 l1_1) else (assartlaw05_HeapHeld.j0 k l2 t418 (decide ((l2.length : Int) > 20)) l0_0 a0_1 a1_0 l1_1)) else (assartlaw05_HeapHeld.j0 k l2 t418 true l0_0 a0_1 a1_0 l1_1)) = some r := H
    have A9 := Aside0.mk A90
    clear A90
    by_cases c10 : t419 = true
    · subst c10
      have H1 : (if (l1_1.length : Int) > 10 then (assartlaw05_HeapHeld.j0 k l2 t418 true l0_0 a0_1 a1_0 l1_1) else (assartlaw05_HeapHeld.j0 k l2 t418 (decide ((l2.length : Int) > 20)) l0_0 a0_1 a1_0 l1_1)) = some r := by rw [if_pos rfl] at H; exact H
      clear H
      have H := H1
      clear H1
      by_cases c11 : (l1_1.length : Int) > 10
      · rw [if_pos c11] at H
        have c11b0 : decide (10 < (l1_1.length : Int)) = true := decide_eq_true c11
        have c11b1 : decide (10 < l1_1.length) = true := decide_eq_true (by omega)
        clear c11
        (first | rw [c11b0] | (simp only [i64_w, i32_w]; rw [c11b0]) | skip)
        have H' := Aside0.mk H
        clear H
        have hnb12 := NB416_417.out
        have hnc12 := NB417_416.out
        have hcz13_0 : w8.cell? ⟨gb416, 0, none⟩ = some (.slice A0_0 l0_0.length c0_0) := (blk_cell BK416.out 0).trans rfl
        have hcz13_1 : w8.cell? ⟨gb416, 1, none⟩ = some (.int .i64 a0_1) := (blk_cell BK416.out 1).trans rfl
        have hfz13_0 := blk_frozen BK416.out 0
        have hfz13_1 := blk_frozen BK416.out 1
        go_wp2_with (first | ((with_reducible refine gate_callee (f := 16) rfl ?_); refine goesL_ (some 17) rfl rfl Try.func16 (by kernel_rfl) rfl #[.agg #[.slice A0_0 l0_0.length c0_0, .int .i64 a0_1], .int .i64 60] rfl (by (try simp only [List.map_toArray, List.map_cons, List.map_nil]); first | done | rfl | (simp only [List.length_drop, List.length_take]; rfl)) ?_; (with_reducible refine (assartref05_May.calls k _ _ l0_0 a0_1 60 true _ ?side1 ?side2 A9.out).mono ?_); (case side1 => repeat (first | exact (Kd.C_below HR0_0.out HB.out) | (with_reducible refine Kd.C_alloc ?_ _) | (with_reducible refine Kd.C_drewN ?_ _) | (with_reducible refine Kd.C_drew ?_))); (case side2 => exact HC0_0.out); rintro e w14 ⟨rfl, hb⟩; refine ⟨_, rfl, ?_⟩; have n0_ := Aside0.mk (blk_below (g := gb416) (o := .cells #[.slice A0_0 l0_0.length c0_0, .int .i64 a0_1] 24 (0, 0)) (by (with_reducible repeat (first | refine blk_drewN ?_ _ | refine blk_drew ?_ | refine blk_alloc ?_ _)); exact BK416.out) hb); have n1_ := Aside0.mk (blk_below (g := gb417) (o := .cells #[.bool a1_0, .slice A1_1 l1_1.length c1_1] 53 (0, 0)) (by (with_reducible repeat (first | refine blk_drewN ?_ _ | refine blk_drew ?_ | refine blk_alloc ?_ _)); exact BK417.out) hb); have n2_ := Aside0.mk (below_step (by repeat (first | (with_reducible first | exact HB.out | apply below_alloc | apply pw_below_drewN | apply below_drew1 | refine below_set ?_ GE416.out | refine below_set ?_ GE417.out) | exact HB.out)) hb); clear BK416; clear BK417; clear HB; have BK416 := n0_; have BK417 := n1_; have HB := n2_; clear n0_ n1_ n2_; (try clear hb); (try clear hb2); (try clear hk); (try clear hi); have hcz15_0 : w14.cell? ⟨gb417, 0, none⟩ = some (.bool a1_0) := (blk_cell BK417.out 0).trans rfl; have hcz15_1 : w14.cell? ⟨gb417, 1, none⟩ = some (.slice A1_1 l1_1.length c1_1) := (blk_cell BK417.out 1).trans rfl; have hfz15_0 := blk_frozen BK417.out 0; have hfz15_1 := blk_frozen BK417.out 1))
        go_meet
        case rel => exact ⟨_, (true), (by first | rfl | (simp; done) | (simp [*]; done)), H', ⟨by first | omega | exact Nat.le_refl _⟩, ⟨by (with_reducible repeat (first | refine blk_drewN ?_ _ | refine blk_drew ?_ | refine blk_alloc ?_ _)); exact BK416.out⟩, ⟨by (with_reducible repeat (first | refine blk_drewN ?_ _ | refine blk_drew ?_ | refine blk_alloc ?_ _)); exact BK417.out⟩, ⟨by repeat (first | (with_reducible first | exact HB.out | apply below_alloc | apply pw_below_drewN | apply below_drew1 | refine below_set ?_ GE416.out | refine below_set ?_ GE417.out) | exact HB.out)⟩⟩
      · rw [if_neg c11] at H
        have c11b0 : decide (10 < (l1_1.length : Int)) = false := decide_eq_false c11
        have c11b1 : decide (10 < l1_1.length) = false := decide_eq_false (by omega)
        clear c11
        (first | rw [c11b0] | (simp only [i64_w, i32_w]; rw [c11b0]) | skip)
        have H' := Aside0.mk H
        clear H
        have hnb16 := NB416_417.out
        have hnc16 := NB417_416.out
        have hcz17_0 : w8.cell? ⟨gb416, 0, none⟩ = some (.slice A0_0 l0_0.length c0_0) := (blk_cell BK416.out 0).trans rfl
        have hcz17_1 : w8.cell? ⟨gb416, 1, none⟩ = some (.int .i64 a0_1) := (blk_cell BK416.out 1).trans rfl
        have hfz17_0 := blk_frozen BK416.out 0
        have hfz17_1 := blk_frozen BK416.out 1
        go_wp2_with (first | ((with_reducible refine gate_callee (f := 16) rfl ?_); refine goesL_ (some 17) rfl rfl Try.func16 (by kernel_rfl) rfl #[.agg #[.slice A0_0 l0_0.length c0_0, .int .i64 a0_1], .int .i64 60] rfl (by (try simp only [List.map_toArray, List.map_cons, List.map_nil]); first | done | rfl | (simp only [List.length_drop, List.length_take]; rfl)) ?_; (with_reducible refine (assartref05_May.calls k _ _ l0_0 a0_1 60 true _ ?side1 ?side2 A9.out).mono ?_); (case side1 => repeat (first | exact (Kd.C_below HR0_0.out HB.out) | (with_reducible refine Kd.C_alloc ?_ _) | (with_reducible refine Kd.C_drewN ?_ _) | (with_reducible refine Kd.C_drew ?_))); (case side2 => exact HC0_0.out); rintro e w18 ⟨rfl, hb⟩; refine ⟨_, rfl, ?_⟩; have n0_ := Aside0.mk (blk_below (g := gb416) (o := .cells #[.slice A0_0 l0_0.length c0_0, .int .i64 a0_1] 24 (0, 0)) (by (with_reducible repeat (first | refine blk_drewN ?_ _ | refine blk_drew ?_ | refine blk_alloc ?_ _)); exact BK416.out) hb); have n1_ := Aside0.mk (blk_below (g := gb417) (o := .cells #[.bool a1_0, .slice A1_1 l1_1.length c1_1] 53 (0, 0)) (by (with_reducible repeat (first | refine blk_drewN ?_ _ | refine blk_drew ?_ | refine blk_alloc ?_ _)); exact BK417.out) hb); have n2_ := Aside0.mk (below_step (by repeat (first | (with_reducible first | exact HB.out | apply below_alloc | apply pw_below_drewN | apply below_drew1 | refine below_set ?_ GE416.out | refine below_set ?_ GE417.out) | exact HB.out)) hb); clear BK416; clear BK417; clear HB; have BK416 := n0_; have BK417 := n1_; have HB := n2_; clear n0_ n1_ n2_; (try clear hb); (try clear hb2); (try clear hk); (try clear hi); have hcz19_0 : w18.cell? ⟨gb417, 0, none⟩ = some (.bool a1_0) := (blk_cell BK417.out 0).trans rfl; have hcz19_1 : w18.cell? ⟨gb417, 1, none⟩ = some (.slice A1_1 l1_1.length c1_1) := (blk_cell BK417.out 1).trans rfl; have hfz19_0 := blk_frozen BK417.out 0; have hfz19_1 := blk_frozen BK417.out 1))
        go_meet
        case rel => exact ⟨_, (decide ((l2.length : Int) > 20)), (by first | rfl | (simp; done) | (simp [*]; done)), H', ⟨by first | omega | exact Nat.le_refl _⟩, ⟨by (with_reducible repeat (first | refine blk_drewN ?_ _ | refine blk_drew ?_ | refine blk_alloc ?_ _)); exact BK416.out⟩, ⟨by (with_reducible repeat (first | refine blk_drewN ?_ _ | refine blk_drew ?_ | refine blk_alloc ?_ _)); exact BK417.out⟩, ⟨by repeat (first | (with_reducible first | exact HB.out | apply below_alloc | apply pw_below_drewN | apply below_drew1 | refine below_set ?_ GE416.out | refine below_set ?_ GE417.out) | exact HB.out)⟩⟩
    · replace c10 := Bool.eq_false_iff.mpr c10
      subst c10
      have H1 : (assartlaw05_HeapHeld.j0 k l2 t418 true l0_0 a0_1 a1_0 l1_1) = some r := by rw [if_neg (show ¬ (false = true) by decide)] at H; exact H
      clear H
      have H := H1
      clear H1
      have H' := Aside0.mk H
      clear H
      have hnb20 := NB416_417.out
      have hnc20 := NB417_416.out
      have hcz21_0 : w8.cell? ⟨gb416, 0, none⟩ = some (.slice A0_0 l0_0.length c0_0) := (blk_cell BK416.out 0).trans rfl
      have hcz21_1 : w8.cell? ⟨gb416, 1, none⟩ = some (.int .i64 a0_1) := (blk_cell BK416.out 1).trans rfl
      have hfz21_0 := blk_frozen BK416.out 0
      have hfz21_1 := blk_frozen BK416.out 1
      go_wp2_with (first | ((with_reducible refine gate_callee (f := 16) rfl ?_); refine goesL_ (some 17) rfl rfl Try.func16 (by kernel_rfl) rfl #[.agg #[.slice A0_0 l0_0.length c0_0, .int .i64 a0_1], .int .i64 60] rfl (by (try simp only [List.map_toArray, List.map_cons, List.map_nil]); first | done | rfl | (simp only [List.length_drop, List.length_take]; rfl)) ?_; (with_reducible refine (assartref05_May.calls k _ _ l0_0 a0_1 60 false _ ?side1 ?side2 A9.out).mono ?_); (case side1 => repeat (first | exact (Kd.C_below HR0_0.out HB.out) | (with_reducible refine Kd.C_alloc ?_ _) | (with_reducible refine Kd.C_drewN ?_ _) | (with_reducible refine Kd.C_drew ?_))); (case side2 => exact HC0_0.out); rintro e w22 ⟨rfl, hb⟩; refine ⟨_, rfl, ?_⟩; have n0_ := Aside0.mk (blk_below (g := gb416) (o := .cells #[.slice A0_0 l0_0.length c0_0, .int .i64 a0_1] 24 (0, 0)) (by (with_reducible repeat (first | refine blk_drewN ?_ _ | refine blk_drew ?_ | refine blk_alloc ?_ _)); exact BK416.out) hb); have n1_ := Aside0.mk (blk_below (g := gb417) (o := .cells #[.bool a1_0, .slice A1_1 l1_1.length c1_1] 53 (0, 0)) (by (with_reducible repeat (first | refine blk_drewN ?_ _ | refine blk_drew ?_ | refine blk_alloc ?_ _)); exact BK417.out) hb); have n2_ := Aside0.mk (below_step (by repeat (first | (with_reducible first | exact HB.out | apply below_alloc | apply pw_below_drewN | apply below_drew1 | refine below_set ?_ GE416.out | refine below_set ?_ GE417.out) | exact HB.out)) hb); clear BK416; clear BK417; clear HB; have BK416 := n0_; have BK417 := n1_; have HB := n2_; clear n0_ n1_ n2_; (try clear hb); (try clear hb2); (try clear hk); (try clear hi)))
      go_meet
      case rel => exact ⟨_, (true), (by first | rfl | (simp; done) | (simp [*]; done)), H', ⟨by first | omega | exact Nat.le_refl _⟩, ⟨by (with_reducible repeat (first | refine blk_drewN ?_ _ | refine blk_drew ?_ | refine blk_alloc ?_ _)); exact BK416.out⟩, ⟨by (with_reducible repeat (first | refine blk_drewN ?_ _ | refine blk_drew ?_ | refine blk_alloc ?_ _)); exact BK417.out⟩, ⟨by repeat (first | (with_reducible first | exact HB.out | apply below_alloc | apply pw_below_drewN | apply below_drew1 | refine below_set ?_ GE416.out | refine below_set ?_ GE417.out) | exact HB.out)⟩⟩
  case rest =>
    clear HC5
    try clear c1
    try clear c2
    try clear p2
    try clear c3
    try clear c10
    try clear c11
    try clear c11b0
    try clear c11b1
    try clear c12
    try clear c14
    try clear c16
    try clear c20
    try clear hcz13_0
    try clear hcz13_1
    try clear hcz15_0
    try clear hcz15_1
    try clear hcz17_0
    try clear hcz17_1
    try clear hcz19_0
    try clear hcz19_1
    try clear hcz21_0
    try clear hcz21_1
    try clear hfz13_0
    try clear hfz13_1
    try clear hfz15_0
    try clear hfz15_1
    try clear hfz17_0
    try clear hfz17_1
    try clear hfz19_0
    try clear hfz19_1
    try clear hfz21_0
    try clear hfz21_1
    obtain ⟨kq, x29_4, rfl, HA, HJ4, BK416, BK417, HB⟩ := hcut
    cases kq with
    | zero => exact absurd HA.out (by simp [assartlaw05_HeapHeld.j0])
    | succ kj4 =>
      have H := HA.out
      clear HA
      simp only [assartlaw05_HeapHeld.j0] at H
      by_cases c23 : x29_4 = true
      · subst c23
        have H1 : (some t418) = some r := by rw [if_pos rfl] at H; exact H
        clear H
        have H := H1
        clear H1
        obtain rfl := Option.some.inj H
        go_wp2
        go_ret
        exact ⟨by first | rfl | (simp [errW_none, errW_some] <;> rfl) | (simp [*, errW_none, errW_some] <;> rfl), by repeat (first | (with_reducible first | exact HB.out | apply below_alloc | apply pw_below_drewN | apply below_drew1 | refine below_set ?_ GE416.out | refine below_set ?_ GE417.out) | exact HB.out)⟩
      · replace c23 := Bool.eq_false_iff.mpr c23
        subst c23
        have H1 : ((heap_Alloc.f l0_0 a0_1 a1_0 l1_1 l2).bind fun bt420 => (if bt420.2.2.2 = 0 then (if (bt420.1.length : Int) = (l0_0.length : Int) then (if bt420.2.2.1 < 0 then (assartlaw05_HeapHeld.j1 kj4 l2 t418 bt420.2.2.1 true l0_0 a0_1 a1_0 l1_1 bt420.1 bt420.2.1) else (assartlaw05_HeapHeld.j1 kj4 l2 t418 bt420.2.2.1 (decide (bt420.2.2.1 ≥ (l0_0.length : Int))) l0_0 a0_1 a1_0 l1_1 bt420.1 bt420.2.1)) else (assartlaw05_HeapHeld.j1 kj4 l2 t418 bt420.2.2.1 true l0_0 a0_1 a1_0 l1_1 bt420.1 bt420.2.1)) else (if t418 = true then (some (bt420.2.2.1 == 0)) else (some false)))) = some r := by rw [if_neg (show ¬ (false = true) by decide)] at H; exact H
        clear H
        have H := H1
        clear H1
        replace H := Option.bind_eq_some_iff.mp H
        obtain ⟨⟨t420, t423, t424, t425⟩, A240, H⟩ := H
        replace H : (if t425 = 0 then (if (t420.length : Int) = (l0_0.length : Int) then (if t424 < 0 then (assartlaw05_HeapHeld.j1 kj4 l2 t418 t424 true l0_0 a0_1 a1_0 l1_1 t420 t423) else (assartlaw05_HeapHeld.j1 kj4 l2 t418 t424 (decide (t424 ≥ (l0_0.length : Int))) l0_0 a0_1 a1_0 l1_1 t420 t423)) else (assartlaw05_HeapHeld.j1 kj4 l2 t418 t424 true l0_0 a0_1 a1_0 l1_1 t420 t423)) else (if t418 = true then (some (t424 == 0)) else (some false))) = some r := H
        have A24 := Aside0.mk A240
        clear A240
        by_cases c25 : t425 = 0
        · rw [if_pos c25] at H
          have c25b0 : (t425 == 0) = true := beq_iff_eq.mpr c25
          have c25b1 : (t425 != 0) = false := bne_eq_false_iff_eq.mpr c25
          clear c25
          have HC26 := Aside0.mk H
          clear H
          have hnb27 := NB416_417.out
          have hnc27 := NB417_416.out
          have hcz28_0 : wc.cell? ⟨gb416, 0, none⟩ = some (.slice A0_0 l0_0.length c0_0) := (blk_cell BK416.out 0).trans rfl
          have hcz28_1 : wc.cell? ⟨gb416, 1, none⟩ = some (.int .i64 a0_1) := (blk_cell BK416.out 1).trans rfl
          have hfz28_0 := blk_frozen BK416.out 0
          have hfz28_1 := blk_frozen BK416.out 1
          have hcz29_0 : wc.cell? ⟨gb417, 0, none⟩ = some (.bool a1_0) := (blk_cell BK417.out 0).trans rfl
          have hcz29_1 : wc.cell? ⟨gb417, 1, none⟩ = some (.slice A1_1 l1_1.length c1_1) := (blk_cell BK417.out 1).trans rfl
          have hfz29_0 := blk_frozen BK417.out 0
          have hfz29_1 := blk_frozen BK417.out 1
          go_upto_region 7 with (first | ((with_reducible refine gate_callee (f := 44) rfl ?_); refine goesL_ (some 35) rfl rfl Try.func44 (by kernel_rfl) rfl #[.agg #[.slice A0_0 l0_0.length c0_0, .int .i64 a0_1], .agg #[.bool a1_0, .slice A1_1 l1_1.length c1_1], .slice A2 l2.length c2] rfl (by (try simp only [List.map_toArray, List.map_cons, List.map_nil]); first | done | rfl | (simp only [List.length_drop, List.length_take]; rfl)) ?_; (with_reducible refine (heap_Alloc.calls (fun k_ => k_ < w.heap.size) _ _ l0_0 a0_1 a1_0 (fun k_ => k_ < w.heap.size) _ _ l1_1 _ _ l2 t420 t423 t424 t425 _ ?side1 ?side2 ?side3 ?side4 A24.out).mono ?_); (case side1 => exact Kd.V_mk HC0_0.out (Kd.F_below (Kd.C_F k55_heap HR0_0.out) (by repeat (first | (with_reducible first | exact HB.out | apply below_alloc | apply pw_below_drewN | apply below_drew1 | refine below_set ?_ GE416.out | refine below_set ?_ GE417.out) | exact HB.out)))); (case side2 => exact Kd.V_mk HC1_1.out (Kd.F_below (Kd.C_F k49_heap HR1_1.out) (by repeat (first | (with_reducible first | exact HB.out | apply below_alloc | apply pw_below_drewN | apply below_drew1 | refine below_set ?_ GE416.out | refine below_set ?_ GE417.out) | exact HB.out)))); (case side3 => repeat (first | exact (Kd.C_below HR2.out HB.out) | (with_reducible refine Kd.C_alloc ?_ _) | (with_reducible refine Kd.C_drewN ?_ _) | (with_reducible refine Kd.C_drew ?_))); (case side4 => exact HC2.out); rintro e w30 ⟨v421, rfl, ho0, hb⟩; refine ⟨_, rfl, ?_⟩; have n0_ := Aside0.mk (Kd.V_lower (Kd.V_mono (ok' := fun k_ => k_ ≠ gb416 ∧ k_ ≠ gb417) ho0 (fun k_ hk_ => ⟨Or.elim hk_ (fun hs_ => Or.elim hs_ (fun hs_ => fun e_ => Nat.not_le.2 hs_ (by rw [e_]; exact GW416.out)) (fun hs_ => fun e_ => Nat.not_le.2 hs_ (by rw [e_]; exact GW416.out))) (fun hn_ => (Kd.freshB (g := gb416) (o := .cells #[.slice A0_0 l0_0.length c0_0, .int .i64 a0_1] 24 (0, 0)) (by (with_reducible repeat (first | refine blk_drewN ?_ _ | refine blk_drew ?_ | refine blk_alloc ?_ _)); exact BK416.out) k_ hn_)), Or.elim hk_ (fun hs_ => Or.elim hs_ (fun hs_ => fun e_ => Nat.not_le.2 hs_ (by rw [e_]; exact GW417.out)) (fun hs_ => fun e_ => Nat.not_le.2 hs_ (by rw [e_]; exact GW417.out))) (fun hn_ => (Kd.freshB (g := gb417) (o := .cells #[.bool a1_0, .slice A1_1 l1_1.length c1_1] 53 (0, 0)) (by (with_reducible repeat (first | refine blk_drewN ?_ _ | refine blk_drew ?_ | refine blk_alloc ?_ _)); exact BK417.out) k_ hn_))⟩)) (below_size (by repeat (first | (with_reducible first | exact HB.out | apply below_alloc | apply pw_below_drewN | apply below_drew1 | refine below_set ?_ GE416.out | refine below_set ?_ GE417.out) | exact HB.out)))); have n1_ := Aside0.mk (blk_below (g := gb416) (o := .cells #[.slice A0_0 l0_0.length c0_0, .int .i64 a0_1] 24 (0, 0)) (by (with_reducible repeat (first | refine blk_drewN ?_ _ | refine blk_drew ?_ | refine blk_alloc ?_ _)); exact BK416.out) hb); have n2_ := Aside0.mk (blk_below (g := gb417) (o := .cells #[.bool a1_0, .slice A1_1 l1_1.length c1_1] 53 (0, 0)) (by (with_reducible repeat (first | refine blk_drewN ?_ _ | refine blk_drew ?_ | refine blk_alloc ?_ _)); exact BK417.out) hb); have n3_ := Aside0.mk (below_step (by repeat (first | (with_reducible first | exact HB.out | apply below_alloc | apply pw_below_drewN | apply below_drew1 | refine below_set ?_ GE416.out | refine below_set ?_ GE417.out) | exact HB.out)) hb); clear BK416; clear BK417; clear HB; have HO422 := n0_; have BK416 := n1_; have BK417 := n2_; have HB := n3_; clear n0_ n1_ n2_ n3_; (try clear hb); (try clear hb2); (try clear hk); (try clear hi); (try clear ho0)) | ((with_reducible refine gate_dst (N := 8) rfl ?_); (try (refine gate_guard (by rfl) ?_; dsimp only)); refine box_event ?hg (N := 8) ?hd (cs := #[.slice none 0 0, .int .i64 0]) (t := 24) ?hr ?_; (case hd => rfl); (case hg => rfl); (case hr => first | (go_simp; done) | (go_simp; rfl)); intro gb426 hg w31 hbox hb; have n0_ := Aside0.mk (Kd.V_below (Kd.V_elderB (by (with_reducible repeat (first | apply Kd.V_alloc | apply Kd.V_drewN | apply Kd.V_drew)); exact HO422.out) gb426 (Nat.le_of_eq hg.symm)) hb); have n1_ := Aside0.mk (blk_below (g := gb416) (o := .cells #[.slice A0_0 l0_0.length c0_0, .int .i64 a0_1] 24 (0, 0)) (by (with_reducible repeat (first | refine blk_drewN ?_ _ | refine blk_drew ?_ | refine blk_alloc ?_ _)); exact BK416.out) hb); have n2_ := Aside0.mk (blk_below (g := gb417) (o := .cells #[.bool a1_0, .slice A1_1 l1_1.length c1_1] 53 (0, 0)) (by (with_reducible repeat (first | refine blk_drewN ?_ _ | refine blk_drew ?_ | refine blk_alloc ?_ _)); exact BK417.out) hb); have n3_ := Aside0.mk (below_step (by repeat (first | (with_reducible first | exact HB.out | apply below_alloc | apply pw_below_drewN | apply below_drew1 | refine below_set ?_ GE416.out | refine below_set ?_ GE417.out) | exact HB.out)) hb); have n4_ := Aside0.mk (hbox); have n5_ := Aside0.mk ((by rw [hg]; exact (below_size (by repeat (first | (with_reducible first | exact HB.out | apply below_alloc | apply pw_below_drewN | apply below_drew1 | refine below_set ?_ GE416.out | refine below_set ?_ GE417.out) | exact HB.out))) : w.heap.size ≤ gb426)); have n6_ := Aside0.mk ((by rw [hg]; exact (below_size (by repeat (first | (with_reducible first | exact HB.out | apply below_alloc | apply pw_below_drewN | apply below_drew1 | refine below_set ?_ GE416.out | refine below_set ?_ GE417.out) | exact HB.out))) : w.heap.size ≤ gb426)); have n7_ := Aside0.mk ((by rw [hg]; exact Nat.ne_of_lt (blk_lt (g := gb416) (o := .cells #[.slice A0_0 l0_0.length c0_0, .int .i64 a0_1] 24 (0, 0)) (by (with_reducible repeat (first | refine blk_drewN ?_ _ | refine blk_drew ?_ | refine blk_alloc ?_ _)); exact BK416.out)) : gb416 ≠ gb426)); have n8_ := Aside0.mk ((by rw [hg]; exact Nat.ne_of_gt (blk_lt (g := gb416) (o := .cells #[.slice A0_0 l0_0.length c0_0, .int .i64 a0_1] 24 (0, 0)) (by (with_reducible repeat (first | refine blk_drewN ?_ _ | refine blk_drew ?_ | refine blk_alloc ?_ _)); exact BK416.out)) : gb426 ≠ gb416)); have n9_ := Aside0.mk ((by rw [hg]; exact Nat.ne_of_lt (blk_lt (g := gb417) (o := .cells #[.bool a1_0, .slice A1_1 l1_1.length c1_1] 53 (0, 0)) (by (with_reducible repeat (first | refine blk_drewN ?_ _ | refine blk_drew ?_ | refine blk_alloc ?_ _)); exact BK417.out)) : gb417 ≠ gb426)); have n10_ := Aside0.mk ((by rw [hg]; exact Nat.ne_of_gt (blk_lt (g := gb417) (o := .cells #[.bool a1_0, .slice A1_1 l1_1.length c1_1] 53 (0, 0)) (by (with_reducible repeat (first | refine blk_drewN ?_ _ | refine blk_drew ?_ | refine blk_alloc ?_ _)); exact BK417.out)) : gb426 ≠ gb417)); clear HO422; clear BK416; clear BK417; clear HB; have HO422 := n0_; have BK416 := n1_; have BK417 := n2_; have HB := n3_; have BK426 := n4_; have GW426 := n5_; have GE426 := n6_; have NB416_426 := n7_; have NB426_416 := n8_; have NB417_426 := n9_; have NB426_417 := n10_; clear n0_ n1_ n2_ n3_ n4_ n5_ n6_ n7_ n8_ n9_ n10_; clear hb hbox hg; obtain ⟨Ao32, co32, eo32⟩ := Kd.V_slice HO422.out; subst eo32; have hnb33 := NB426_416.out; have hnc33 := NB416_426.out; have hnb34 := NB426_417.out; have hnc34 := NB417_426.out; have hcz35_0 : w31.cell? ⟨gb426, 0, none⟩ = some (.slice none 0 0) := (blk_cell BK426.out 0).trans rfl; have hcz35_1 : w31.cell? ⟨gb426, 1, none⟩ = some (.int .i64 0) := (blk_cell BK426.out 1).trans rfl; have hfz35_0 := blk_frozen BK426.out 0; have hfz35_1 := blk_frozen BK426.out 1))
          (try simp only [Act.put, List.setIfInBounds_toArray, List.set_cons_zero, List.set_cons_succ])
          go_cut [63] (fun v63 wc => ∃ (kq : Nat) (x63_25 : Bool), v63 = .bool x63_25 ∧ Aside0 (assartlaw05_HeapHeld.j1 kq l2 t418 t424 x63_25 l0_0 a0_1 a1_0 l1_1 t420 t423 = some r) ∧ Aside0 (kq ≤ kj4) ∧ Aside0 (Kd.V k55 55 wc w.heap.size (fun k_ => k_ ≠ gb416 ∧ k_ ≠ gb417 ∧ k_ ≠ gb426) (.slice Ao32 t420.length co32) t420) ∧ Aside0 (wc.heap[gb416]? = some (.cells #[(.slice A0_0 l0_0.length c0_0), .int .i64 a0_1] 24 (0, 0))) ∧ Aside0 (wc.heap[gb417]? = some (.cells #[.bool a1_0, (.slice A1_1 l1_1.length c1_1)] 53 (0, 0))) ∧ Aside0 (wc.heap[gb426]? = some (.cells #[(.slice Ao32 t420.length co32), .int .i64 t423] 24 (0, 0))) ∧ Aside0 (Below w.heap.size w wc))
          case first =>
            have H := HC26.out
            clear HC26
            by_cases c36 : (t420.length : Int) = (l0_0.length : Int)
            · rw [if_pos c36] at H
              have c36b0 : ((t420.length : Int) == (l0_0.length : Int)) = true := beq_iff_eq.mpr c36
              have c36b1 : ((t420.length : Int) != (l0_0.length : Int)) = false := bne_eq_false_iff_eq.mpr c36
              have c36b2 : (t420.length == l0_0.length) = true := by first | simpa using c36 | (simp at c36 ⊢; omega)
              clear c36
              (first | rw [c36b0] | (simp only [i64_w, i32_w]; rw [c36b0]) | skip)
              by_cases c37 : t424 < 0
              · rw [if_pos c37] at H
                have c37b0 : decide (t424 < 0) = true := decide_eq_true c37
                clear c37
                have H' := Aside0.mk H
                clear H
                have hnb38 := NB426_416.out
                have hnc38 := NB416_426.out
                have hnb39 := NB426_417.out
                have hnc39 := NB417_426.out
                have hcz40_0 : w31.cell? ⟨gb426, 0, none⟩ = some (.slice none 0 0) := (blk_cell BK426.out 0).trans rfl
                have hcz40_1 : w31.cell? ⟨gb426, 1, none⟩ = some (.int .i64 0) := (blk_cell BK426.out 1).trans rfl
                have hfz40_0 := blk_frozen BK426.out 0
                have hfz40_1 := blk_frozen BK426.out 1
                have hnb41 := NB416_417.out
                have hnc41 := NB417_416.out
                have hcz42_0 : w31.cell? ⟨gb416, 0, none⟩ = some (.slice A0_0 l0_0.length c0_0) := (blk_cell BK416.out 0).trans rfl
                have hcz42_1 : w31.cell? ⟨gb416, 1, none⟩ = some (.int .i64 a0_1) := (blk_cell BK416.out 1).trans rfl
                have hfz42_0 := blk_frozen BK416.out 0
                have hfz42_1 := blk_frozen BK416.out 1
                go_wp2
                go_meet
                case rel => exact ⟨_, (true), (by first | rfl | (simp; done) | (simp [*]; done)), H', ⟨by have := HJ4.out; first | omega | exact Nat.le_refl _⟩, ⟨by (with_reducible repeat (first | apply Kd.V_alloc | apply Kd.V_drewN | apply Kd.V_drew)); exact Kd.V_mono (Kd.V_far (p := ⟨gb426, 1, none⟩) (Kd.V_far (p := ⟨gb426, 0, none⟩) (Kd.V_mono HO422.out (fun k_ hk => (⟨hk, hk.2⟩ : _ ∧ k_ ≠ gb426))) (fun _ hk => hk.2) (.slice Ao32 t420.length co32)) (fun _ hk => hk.2) (.int .i64 t423)) (fun _ hk => ⟨hk.1.1.1, ⟨hk.1.1.2, hk.1.2⟩⟩)⟩, ⟨by (with_reducible repeat (first | refine blk_drewN ?_ _ | refine blk_drew ?_ | refine blk_alloc ?_ _)); refine blk_far ?_ NB416_426.out _; (with_reducible repeat (first | refine blk_drewN ?_ _ | refine blk_drew ?_ | refine blk_alloc ?_ _)); refine blk_far ?_ NB416_426.out _; (with_reducible repeat (first | refine blk_drewN ?_ _ | refine blk_drew ?_ | refine blk_alloc ?_ _)); exact BK416.out⟩, ⟨by (with_reducible repeat (first | refine blk_drewN ?_ _ | refine blk_drew ?_ | refine blk_alloc ?_ _)); refine blk_far ?_ NB417_426.out _; (with_reducible repeat (first | refine blk_drewN ?_ _ | refine blk_drew ?_ | refine blk_alloc ?_ _)); refine blk_far ?_ NB417_426.out _; (with_reducible repeat (first | refine blk_drewN ?_ _ | refine blk_drew ?_ | refine blk_alloc ?_ _)); exact BK417.out⟩, ⟨by (with_reducible repeat (first | refine blk_drewN ?_ _ | refine blk_drew ?_ | refine blk_alloc ?_ _)); refine blk_put (cs := #[.slice Ao32 t420.length co32, .int .i64 0]) ?_ 1 _ rfl; (with_reducible repeat (first | refine blk_drewN ?_ _ | refine blk_drew ?_ | refine blk_alloc ?_ _)); refine blk_put (cs := #[.slice none 0 0, .int .i64 0]) ?_ 0 _ rfl; (with_reducible repeat (first | refine blk_drewN ?_ _ | refine blk_drew ?_ | refine blk_alloc ?_ _)); exact BK426.out⟩, ⟨by repeat (first | (with_reducible first | exact HB.out | apply below_alloc | apply pw_below_drewN | apply below_drew1 | refine below_set ?_ GE416.out | refine below_set ?_ GE417.out | refine below_set ?_ GE426.out) | exact HB.out)⟩⟩
              · rw [if_neg c37] at H
                have c37b0 : decide (t424 < 0) = false := decide_eq_false c37
                clear c37
                have H' := Aside0.mk H
                clear H
                have hnb43 := NB426_416.out
                have hnc43 := NB416_426.out
                have hnb44 := NB426_417.out
                have hnc44 := NB417_426.out
                have hcz45_0 : w31.cell? ⟨gb426, 0, none⟩ = some (.slice none 0 0) := (blk_cell BK426.out 0).trans rfl
                have hcz45_1 : w31.cell? ⟨gb426, 1, none⟩ = some (.int .i64 0) := (blk_cell BK426.out 1).trans rfl
                have hfz45_0 := blk_frozen BK426.out 0
                have hfz45_1 := blk_frozen BK426.out 1
                have hnb46 := NB416_417.out
                have hnc46 := NB417_416.out
                have hcz47_0 : w31.cell? ⟨gb416, 0, none⟩ = some (.slice A0_0 l0_0.length c0_0) := (blk_cell BK416.out 0).trans rfl
                have hcz47_1 : w31.cell? ⟨gb416, 1, none⟩ = some (.int .i64 a0_1) := (blk_cell BK416.out 1).trans rfl
                have hfz47_0 := blk_frozen BK416.out 0
                have hfz47_1 := blk_frozen BK416.out 1
                go_wp2
                go_meet
                case rel => exact ⟨_, (decide (t424 ≥ (l0_0.length : Int))), (by first | rfl | (simp; done) | (simp [*]; done)), H', ⟨by have := HJ4.out; first | omega | exact Nat.le_refl _⟩, ⟨by (with_reducible repeat (first | apply Kd.V_alloc | apply Kd.V_drewN | apply Kd.V_drew)); exact Kd.V_mono (Kd.V_far (p := ⟨gb426, 1, none⟩) (Kd.V_far (p := ⟨gb426, 0, none⟩) (Kd.V_mono HO422.out (fun k_ hk => (⟨hk, hk.2⟩ : _ ∧ k_ ≠ gb426))) (fun _ hk => hk.2) (.slice Ao32 t420.length co32)) (fun _ hk => hk.2) (.int .i64 t423)) (fun _ hk => ⟨hk.1.1.1, ⟨hk.1.1.2, hk.1.2⟩⟩)⟩, ⟨by (with_reducible repeat (first | refine blk_drewN ?_ _ | refine blk_drew ?_ | refine blk_alloc ?_ _)); refine blk_far ?_ NB416_426.out _; (with_reducible repeat (first | refine blk_drewN ?_ _ | refine blk_drew ?_ | refine blk_alloc ?_ _)); refine blk_far ?_ NB416_426.out _; (with_reducible repeat (first | refine blk_drewN ?_ _ | refine blk_drew ?_ | refine blk_alloc ?_ _)); exact BK416.out⟩, ⟨by (with_reducible repeat (first | refine blk_drewN ?_ _ | refine blk_drew ?_ | refine blk_alloc ?_ _)); refine blk_far ?_ NB417_426.out _; (with_reducible repeat (first | refine blk_drewN ?_ _ | refine blk_drew ?_ | refine blk_alloc ?_ _)); refine blk_far ?_ NB417_426.out _; (with_reducible repeat (first | refine blk_drewN ?_ _ | refine blk_drew ?_ | refine blk_alloc ?_ _)); exact BK417.out⟩, ⟨by (with_reducible repeat (first | refine blk_drewN ?_ _ | refine blk_drew ?_ | refine blk_alloc ?_ _)); refine blk_put (cs := #[.slice Ao32 t420.length co32, .int .i64 0]) ?_ 1 _ rfl; (with_reducible repeat (first | refine blk_drewN ?_ _ | refine blk_drew ?_ | refine blk_alloc ?_ _)); refine blk_put (cs := #[.slice none 0 0, .int .i64 0]) ?_ 0 _ rfl; (with_reducible repeat (first | refine blk_drewN ?_ _ | refine blk_drew ?_ | refine blk_alloc ?_ _)); exact BK426.out⟩, ⟨by repeat (first | (with_reducible first | exact HB.out | apply below_alloc | apply pw_below_drewN | apply below_drew1 | refine below_set ?_ GE416.out | refine below_set ?_ GE417.out | refine below_set ?_ GE426.out) | exact HB.out)⟩⟩
            · rw [if_neg c36] at H
              have c36b0 : ((t420.length : Int) == (l0_0.length : Int)) = false := beq_eq_false_iff_ne.mpr c36
              have c36b1 : ((t420.length : Int) != (l0_0.length : Int)) = true := bne_iff_ne.mpr c36
              have c36b2 : (t420.length == l0_0.length) = false := by first | simpa using c36 | (simp at c36 ⊢; omega)
              (first | rw [c36b0] | (simp only [i64_w, i32_w]; rw [c36b0]) | skip)
              have H' := Aside0.mk H
              clear H
              have hnb48 := NB426_416.out
              have hnc48 := NB416_426.out
              have hnb49 := NB426_417.out
              have hnc49 := NB417_426.out
              have hcz50_0 : w31.cell? ⟨gb426, 0, none⟩ = some (.slice none 0 0) := (blk_cell BK426.out 0).trans rfl
              have hcz50_1 : w31.cell? ⟨gb426, 1, none⟩ = some (.int .i64 0) := (blk_cell BK426.out 1).trans rfl
              have hfz50_0 := blk_frozen BK426.out 0
              have hfz50_1 := blk_frozen BK426.out 1
              have hnb51 := NB416_417.out
              have hnc51 := NB417_416.out
              have hcz52_0 : w31.cell? ⟨gb416, 0, none⟩ = some (.slice A0_0 l0_0.length c0_0) := (blk_cell BK416.out 0).trans rfl
              have hcz52_1 : w31.cell? ⟨gb416, 1, none⟩ = some (.int .i64 a0_1) := (blk_cell BK416.out 1).trans rfl
              have hfz52_0 := blk_frozen BK416.out 0
              have hfz52_1 := blk_frozen BK416.out 1
              go_wp2
              go_meet
              case rel => exact ⟨_, (true), (by first | rfl | (simp; done) | (simp [*]; done)), H', ⟨by have := HJ4.out; first | omega | exact Nat.le_refl _⟩, ⟨by (with_reducible repeat (first | apply Kd.V_alloc | apply Kd.V_drewN | apply Kd.V_drew)); exact Kd.V_mono (Kd.V_far (p := ⟨gb426, 1, none⟩) (Kd.V_far (p := ⟨gb426, 0, none⟩) (Kd.V_mono HO422.out (fun k_ hk => (⟨hk, hk.2⟩ : _ ∧ k_ ≠ gb426))) (fun _ hk => hk.2) (.slice Ao32 t420.length co32)) (fun _ hk => hk.2) (.int .i64 t423)) (fun _ hk => ⟨hk.1.1.1, ⟨hk.1.1.2, hk.1.2⟩⟩)⟩, ⟨by (with_reducible repeat (first | refine blk_drewN ?_ _ | refine blk_drew ?_ | refine blk_alloc ?_ _)); refine blk_far ?_ NB416_426.out _; (with_reducible repeat (first | refine blk_drewN ?_ _ | refine blk_drew ?_ | refine blk_alloc ?_ _)); refine blk_far ?_ NB416_426.out _; (with_reducible repeat (first | refine blk_drewN ?_ _ | refine blk_drew ?_ | refine blk_alloc ?_ _)); exact BK416.out⟩, ⟨by (with_reducible repeat (first | refine blk_drewN ?_ _ | refine blk_drew ?_ | refine blk_alloc ?_ _)); refine blk_far ?_ NB417_426.out _; (with_reducible repeat (first | refine blk_drewN ?_ _ | refine blk_drew ?_ | refine blk_alloc ?_ _)); refine blk_far ?_ NB417_426.out _; (with_reducible repeat (first | refine blk_drewN ?_ _ | refine blk_drew ?_ | refine blk_alloc ?_ _)); exact BK417.out⟩, ⟨by (with_reducible repeat (first | refine blk_drewN ?_ _ | refine blk_drew ?_ | refine blk_alloc ?_ _)); refine blk_put (cs := #[.slice Ao32 t420.length co32, .int .i64 0]) ?_ 1 _ rfl; (with_reducible repeat (first | refine blk_drewN ?_ _ | refine blk_drew ?_ | refine blk_alloc ?_ _)); refine blk_put (cs := #[.slice none 0 0, .int .i64 0]) ?_ 0 _ rfl; (with_reducible repeat (first | refine blk_drewN ?_ _ | refine blk_drew ?_ | refine blk_alloc ?_ _)); exact BK426.out⟩, ⟨by repeat (first | (with_reducible first | exact HB.out | apply below_alloc | apply pw_below_drewN | apply below_drew1 | refine below_set ?_ GE416.out | refine below_set ?_ GE417.out | refine below_set ?_ GE426.out) | exact HB.out)⟩⟩
          case rest =>
            clear HC26
            try clear c1
            try clear c2
            try clear p2
            try clear c3
            try clear c4
            try clear c5
            try clear c10
            try clear c11
            try clear c11b0
            try clear c11b1
            try clear c12
            try clear c14
            try clear c16
            try clear c20
            try clear c23
            try clear c25
            try clear c25b0
            try clear c25b1
            try clear c27
            try clear c33
            try clear c34
            try clear c36
            try clear c36b0
            try clear c36b1
            try clear c36b2
            try clear c37
            try clear c37b0
            try clear c38
            try clear c39
            try clear c41
            try clear c43
            try clear c44
            try clear c46
            try clear c48
            try clear c49
            try clear c51
            try clear hcz13_0
            try clear hcz13_1
            try clear hcz15_0
            try clear hcz15_1
            try clear hcz17_0
            try clear hcz17_1
            try clear hcz19_0
            try clear hcz19_1
            try clear hcz21_0
            try clear hcz21_1
            try clear hcz28_0
            try clear hcz28_1
            try clear hcz29_0
            try clear hcz29_1
            try clear hcz35_0
            try clear hcz35_1
            try clear hcz40_0
            try clear hcz40_1
            try clear hcz42_0
            try clear hcz42_1
            try clear hcz45_0
            try clear hcz45_1
            try clear hcz47_0
            try clear hcz47_1
            try clear hcz50_0
            try clear hcz50_1
            try clear hcz52_0
            try clear hcz52_1
            try clear hfz13_0
            try clear hfz13_1
            try clear hfz15_0
            try clear hfz15_1
            try clear hfz17_0
            try clear hfz17_1
            try clear hfz19_0
            try clear hfz19_1
            try clear hfz21_0
            try clear hfz21_1
            try clear hfz28_0
            try clear hfz28_1
            try clear hfz29_0
            try clear hfz29_1
            try clear hfz35_0
            try clear hfz35_1
            try clear hfz40_0
            try clear hfz40_1
            try clear hfz42_0
            try clear hfz42_1
            try clear hfz45_0
            try clear hfz45_1
            try clear hfz47_0
            try clear hfz47_1
            try clear hfz50_0
            try clear hfz50_1
            try clear hfz52_0
            try clear hfz52_1
            try clear p2
            obtain ⟨kq, x63_25, rfl, HA, HJ25, HO_427000, BK416, BK417, BK426, HB⟩ := hcut
            cases kq with
            | zero => exact absurd HA.out (by simp [assartlaw05_HeapHeld.j1])
            | succ kj25 =>
              have H := HA.out
              clear HA
              simp only [assartlaw05_HeapHeld.j1] at H
              by_cases c53 : x63_25 = true
              · subst c53
                have H1 : (some false) = some r := by rw [if_pos rfl] at H; exact H
                clear H
                have H := H1
                clear H1
                obtain rfl := Option.some.inj H
                cases hr
              · replace c53 := Bool.eq_false_iff.mpr c53
                subst c53
                have H1 : (assartlaw05_HeapHeld.l0 kj25 l2 t418 t424 0 l0_0 a0_1 a1_0 l1_1 t420 t423) = some r := by rw [if_neg (show ¬ (false = true) by decide)] at H; exact H
                clear H
                have H := H1
                clear H1
                have H' := Aside0.mk H
                clear H
                go_wp2
                go_loopg [11] kj25 (fun kq v11 w' => ∃ (x11_3 : Int), v11 = .int .i64 x11_3 ∧ Aside0 (assartlaw05_HeapHeld.l0 kq l2 t418 t424 x11_3 l0_0 a0_1 a1_0 l1_1 t420 t423 = some r) ∧ Aside0 (kq ≤ kj25) ∧ Aside0 (Kd.V k55 55 w' w.heap.size (fun k_ => k_ ≠ gb416 ∧ k_ ≠ gb417 ∧ k_ ≠ gb426) (.slice Ao32 t420.length co32) t420) ∧ Aside0 (w'.heap[gb416]? = some (.cells #[(.slice A0_0 l0_0.length c0_0), .int .i64 a0_1] 24 (0, 0))) ∧ Aside0 (w'.heap[gb417]? = some (.cells #[.bool a1_0, (.slice A1_1 l1_1.length c1_1)] 53 (0, 0))) ∧ Aside0 (w'.heap[gb426]? = some (.cells #[(.slice Ao32 t420.length co32), .int .i64 t423] 24 (0, 0))) ∧ Aside0 (Below w.heap.size w w'))
                case atStart => exact ⟨(0), (by first | rfl | (simp; done) | (simp [*]; done)), H', ⟨Nat.le_refl _⟩, ⟨by (with_reducible repeat (first | apply Kd.V_alloc | apply Kd.V_drewN | apply Kd.V_drew)); exact HO_427000.out⟩, ⟨by (with_reducible repeat (first | refine blk_drewN ?_ _ | refine blk_drew ?_ | refine blk_alloc ?_ _)); exact BK416.out⟩, ⟨by (with_reducible repeat (first | refine blk_drewN ?_ _ | refine blk_drew ?_ | refine blk_alloc ?_ _)); exact BK417.out⟩, ⟨by (with_reducible repeat (first | refine blk_drewN ?_ _ | refine blk_drew ?_ | refine blk_alloc ?_ _)); exact BK426.out⟩, ⟨by repeat (first | (with_reducible first | exact HB.out | apply below_alloc | apply pw_below_drewN | apply below_drew1 | refine below_set ?_ GE416.out | refine below_set ?_ GE417.out | refine below_set ?_ GE426.out) | exact HB.out)⟩⟩
                case round =>
                  clear H'
                  try clear c1
                  try clear c2
                  try clear p2
                  try clear c3
                  try clear c4
                  try clear c5
                  try clear c10
                  try clear c11
                  try clear c11b0
                  try clear c11b1
                  try clear c12
                  try clear c14
                  try clear c16
                  try clear c20
                  try clear c23
                  try clear c25
                  try clear c25b0
                  try clear c25b1
                  try clear c27
                  try clear c33
                  try clear c34
                  try clear c36
                  try clear c36b0
                  try clear c36b1
                  try clear c36b2
                  try clear c37
                  try clear c37b0
                  try clear c38
                  try clear c39
                  try clear c41
                  try clear c43
                  try clear c44
                  try clear c46
                  try clear c48
                  try clear c49
                  try clear c51
                  try clear c53
                  try clear hcz13_0
                  try clear hcz13_1
                  try clear hcz15_0
                  try clear hcz15_1
                  try clear hcz17_0
                  try clear hcz17_1
                  try clear hcz19_0
                  try clear hcz19_1
                  try clear hcz21_0
                  try clear hcz21_1
                  try clear hcz28_0
                  try clear hcz28_1
                  try clear hcz29_0
                  try clear hcz29_1
                  try clear hcz35_0
                  try clear hcz35_1
                  try clear hcz40_0
                  try clear hcz40_1
                  try clear hcz42_0
                  try clear hcz42_1
                  try clear hcz45_0
                  try clear hcz45_1
                  try clear hcz47_0
                  try clear hcz47_1
                  try clear hcz50_0
                  try clear hcz50_1
                  try clear hcz52_0
                  try clear hcz52_1
                  try clear hfz13_0
                  try clear hfz13_1
                  try clear hfz15_0
                  try clear hfz15_1
                  try clear hfz17_0
                  try clear hfz17_1
                  try clear hfz19_0
                  try clear hfz19_1
                  try clear hfz21_0
                  try clear hfz21_1
                  try clear hfz28_0
                  try clear hfz28_1
                  try clear hfz29_0
                  try clear hfz29_1
                  try clear hfz35_0
                  try clear hfz35_1
                  try clear hfz40_0
                  try clear hfz40_1
                  try clear hfz42_0
                  try clear hfz42_1
                  try clear hfz45_0
                  try clear hfz45_1
                  try clear hfz47_0
                  try clear hfz47_1
                  try clear hfz50_0
                  try clear hfz50_1
                  try clear hfz52_0
                  try clear hfz52_1
                  try clear p2
                  obtain ⟨x11_3, rfl, HA, HK3, HO_427000, BK416, BK417, BK426, HB⟩ := hrel
                  cases gk with
                  | zero => exact absurd HA.out (by simp [assartlaw05_HeapHeld.l0])
                  | succ k3 =>
                    have H := HA.out
                    clear HA
                    simp only [assartlaw05_HeapHeld.l0] at H
                    by_cases c54 : x11_3 < (l0_0.length : Int)
                    · rw [if_pos c54] at H
                      have c54b0 : decide (x11_3 < (l0_0.length : Int)) = true := decide_eq_true c54
                      clear c54
                      replace H := Option.bind_eq_some_iff.mp H
                      obtain ⟨t429, A550, H⟩ := H
                      replace H : (assartlaw05_HeapHeld.l1 k3 l2 t418 t424 x11_3 0 t429 0 l0_0 a0_1 a1_0 l1_1 t420 t423) = some r := H
                      have A55 := Aside0.mk A550
                      clear A550
                      have H' := Aside0.mk H
                      clear H
                      have hnb56 := NB416_417.out
                      have hnc56 := NB417_416.out
                      have hnb57 := NB416_426.out
                      have hnc57 := NB426_416.out
                      have hcz58_0 : wr.cell? ⟨gb416, 0, none⟩ = some (.slice A0_0 l0_0.length c0_0) := (blk_cell BK416.out 0).trans rfl
                      have hcz58_1 : wr.cell? ⟨gb416, 1, none⟩ = some (.int .i64 a0_1) := (blk_cell BK416.out 1).trans rfl
                      have hfz58_0 := blk_frozen BK416.out 0
                      have hfz58_1 := blk_frozen BK416.out 1
                      go_wp2_with (first | ((with_reducible refine gate_callee (f := 55) rfl ?_); refine goesL_ (some 73) rfl rfl Try.func55 (by kernel_rfl) rfl #[.slice A2 l2.length c2, .int .i64 x11_3] rfl (by (try simp only [List.map_toArray, List.map_cons, List.map_nil]); first | done | rfl | (simp only [List.length_drop, List.length_take]; rfl)) ?_; (with_reducible refine (assartref05_In.calls k3 _ _ l2 x11_3 t429 _ ?side1 ?side2 A55.out).mono ?_); (case side1 => repeat (first | exact (Kd.C_below HR2.out HB.out) | (with_reducible refine Kd.C_alloc ?_ _) | (with_reducible refine Kd.C_drewN ?_ _) | (with_reducible refine Kd.C_drew ?_))); (case side2 => exact HC2.out); rintro e w' ⟨rfl, ⟨nd, rfl⟩⟩; refine ⟨_, rfl, ?_⟩))
                      go_loopg [12, 14] k3 (fun kq v12 v14 w' => ∃ (x12_4 : Int) (x14_4 : Int), v12 = .int .i64 x12_4 ∧ v14 = .int .i64 x14_4 ∧ Aside0 (assartlaw05_HeapHeld.l1 kq l2 t418 t424 x11_3 x12_4 t429 x14_4 l0_0 a0_1 a1_0 l1_1 t420 t423 = some r) ∧ Aside0 (kq ≤ k3) ∧ Aside0 (Kd.V k55 55 w' w.heap.size (fun k_ => k_ ≠ gb416 ∧ k_ ≠ gb417 ∧ k_ ≠ gb426) (.slice Ao32 t420.length co32) t420) ∧ Aside0 (w'.heap[gb416]? = some (.cells #[(.slice A0_0 l0_0.length c0_0), .int .i64 a0_1] 24 (0, 0))) ∧ Aside0 (w'.heap[gb417]? = some (.cells #[.bool a1_0, (.slice A1_1 l1_1.length c1_1)] 53 (0, 0))) ∧ Aside0 (w'.heap[gb426]? = some (.cells #[(.slice Ao32 t420.length co32), .int .i64 t423] 24 (0, 0))) ∧ Aside0 (Below w.heap.size w w'))
                      case atStart => exact ⟨(0), (0), (by first | rfl | (simp; done) | (simp [*]; done)), (by first | rfl | (simp; done) | (simp [*]; done)), H', ⟨Nat.le_refl _⟩, ⟨by (with_reducible repeat (first | apply Kd.V_alloc | apply Kd.V_drewN | apply Kd.V_drew)); exact HO_427000.out⟩, ⟨by (with_reducible repeat (first | refine blk_drewN ?_ _ | refine blk_drew ?_ | refine blk_alloc ?_ _)); exact BK416.out⟩, ⟨by (with_reducible repeat (first | refine blk_drewN ?_ _ | refine blk_drew ?_ | refine blk_alloc ?_ _)); exact BK417.out⟩, ⟨by (with_reducible repeat (first | refine blk_drewN ?_ _ | refine blk_drew ?_ | refine blk_alloc ?_ _)); exact BK426.out⟩, ⟨by repeat (first | (with_reducible first | exact HB.out | apply below_alloc | apply pw_below_drewN | apply below_drew1 | refine below_set ?_ GE416.out | refine below_set ?_ GE417.out | refine below_set ?_ GE426.out) | exact HB.out)⟩⟩
                      case round =>
                        clear H'
                        try clear c1
                        try clear c2
                        try clear p2
                        try clear c3
                        try clear c4
                        try clear c5
                        try clear c10
                        try clear c11
                        try clear c11b0
                        try clear c11b1
                        try clear c12
                        try clear c14
                        try clear c16
                        try clear c20
                        try clear c23
                        try clear c25
                        try clear c25b0
                        try clear c25b1
                        try clear c27
                        try clear c33
                        try clear c34
                        try clear c36
                        try clear c36b0
                        try clear c36b1
                        try clear c36b2
                        try clear c37
                        try clear c37b0
                        try clear c38
                        try clear c39
                        try clear c41
                        try clear c43
                        try clear c44
                        try clear c46
                        try clear c48
                        try clear c49
                        try clear c51
                        try clear c53
                        try clear c54
                        try clear c54b0
                        try clear c55
                        try clear c56
                        try clear c57
                        try clear hcz13_0
                        try clear hcz13_1
                        try clear hcz15_0
                        try clear hcz15_1
                        try clear hcz17_0
                        try clear hcz17_1
                        try clear hcz19_0
                        try clear hcz19_1
                        try clear hcz21_0
                        try clear hcz21_1
                        try clear hcz28_0
                        try clear hcz28_1
                        try clear hcz29_0
                        try clear hcz29_1
                        try clear hcz35_0
                        try clear hcz35_1
                        try clear hcz40_0
                        try clear hcz40_1
                        try clear hcz42_0
                        try clear hcz42_1
                        try clear hcz45_0
                        try clear hcz45_1
                        try clear hcz47_0
                        try clear hcz47_1
                        try clear hcz50_0
                        try clear hcz50_1
                        try clear hcz52_0
                        try clear hcz52_1
                        try clear hcz58_0
                        try clear hcz58_1
                        try clear hfz13_0
                        try clear hfz13_1
                        try clear hfz15_0
                        try clear hfz15_1
                        try clear hfz17_0
                        try clear hfz17_1
                        try clear hfz19_0
                        try clear hfz19_1
                        try clear hfz21_0
                        try clear hfz21_1
                        try clear hfz28_0
                        try clear hfz28_1
                        try clear hfz29_0
                        try clear hfz29_1
                        try clear hfz35_0
                        try clear hfz35_1
                        try clear hfz40_0
                        try clear hfz40_1
                        try clear hfz42_0
                        try clear hfz42_1
                        try clear hfz45_0
                        try clear hfz45_1
                        try clear hfz47_0
                        try clear hfz47_1
                        try clear hfz50_0
                        try clear hfz50_1
                        try clear hfz52_0
                        try clear hfz52_1
                        try clear hfz58_0
                        try clear hfz58_1
                        try clear p2
                        obtain ⟨x12_4, x14_4, rfl, rfl, HA, HK4, HO_427000, BK416, BK417, BK426, HB⟩ := hrel
                        cases gk with
                        | zero => exact absurd HA.out (by simp [assartlaw05_HeapHeld.l1])
                        | succ k4 =>
                          have H := HA.out
                          clear HA
                          simp only [assartlaw05_HeapHeld.l1] at H
                          have HC59 := Aside0.mk H
                          clear H
                          go_upto_region 15 with (fail)
                          go_cut [87] (fun v87 wc => ∃ (kq : Nat) (x87_58 : Bool), v87 = .bool x87_58 ∧ Aside0 (assartlaw05_HeapHeld.j4 kq l2 t418 t424 x11_3 x12_4 t429 x14_4 x87_58 l0_0 a0_1 a1_0 l1_1 t420 t423 = some r) ∧ Aside0 (kq ≤ k4) ∧ Aside0 (Kd.V k55 55 wc w.heap.size (fun k_ => k_ ≠ gb416 ∧ k_ ≠ gb417 ∧ k_ ≠ gb426) (.slice Ao32 t420.length co32) t420) ∧ Aside0 (wc.heap[gb416]? = some (.cells #[(.slice A0_0 l0_0.length c0_0), .int .i64 a0_1] 24 (0, 0))) ∧ Aside0 (wc.heap[gb417]? = some (.cells #[.bool a1_0, (.slice A1_1 l1_1.length c1_1)] 53 (0, 0))) ∧ Aside0 (wc.heap[gb426]? = some (.cells #[(.slice Ao32 t420.length co32), .int .i64 t423] 24 (0, 0))) ∧ Aside0 (Below w.heap.size w wc))
                          case first =>
                            have H := HC59.out
                            clear HC59
                            by_cases c60 : x14_4 < (l1_1.length : Int)
                            · rw [if_pos c60] at H
                              have c60b0 : decide (x14_4 < (l1_1.length : Int)) = true := decide_eq_true c60
                              clear c60
                              (first | rw [c60b0] | (simp only [i64_w, i32_w]; rw [c60b0]) | skip)
                              by_cases c61 : a1_0 = true
                              · subst c61
                                have H1 : (assartlaw05_HeapHeld.j4 k4 l2 t418 t424 x11_3 x12_4 t429 x14_4 false l0_0 a0_1 true l1_1 t420 t423) = some r := by rw [if_pos rfl] at H; exact H
                                clear H
                                have H := H1
                                clear H1
                                have H' := Aside0.mk H
                                clear H
                                have hnb62 := NB417_416.out
                                have hnc62 := NB416_417.out
                                have hnb63 := NB417_426.out
                                have hnc63 := NB426_417.out
                                have hcz64_0 : wr.cell? ⟨gb417, 0, none⟩ = some (.bool true) := (blk_cell BK417.out 0).trans rfl
                                have hcz64_1 : wr.cell? ⟨gb417, 1, none⟩ = some (.slice A1_1 l1_1.length c1_1) := (blk_cell BK417.out 1).trans rfl
                                have hfz64_0 := blk_frozen BK417.out 0
                                have hfz64_1 := blk_frozen BK417.out 1
                                go_wp2
                                go_meet
                                case rel => exact ⟨_, (false), (by first | rfl | (simp; done) | (simp [*]; done)), H', ⟨by have := HJ4.out; have := HJ25.out; have := HK3.out; have := HK4.out; first | omega | exact Nat.le_refl _⟩, ⟨by (with_reducible repeat (first | apply Kd.V_alloc | apply Kd.V_drewN | apply Kd.V_drew)); exact HO_427000.out⟩, ⟨by (with_reducible repeat (first | refine blk_drewN ?_ _ | refine blk_drew ?_ | refine blk_alloc ?_ _)); exact BK416.out⟩, ⟨by (with_reducible repeat (first | refine blk_drewN ?_ _ | refine blk_drew ?_ | refine blk_alloc ?_ _)); exact BK417.out⟩, ⟨by (with_reducible repeat (first | refine blk_drewN ?_ _ | refine blk_drew ?_ | refine blk_alloc ?_ _)); exact BK426.out⟩, ⟨by repeat (first | (with_reducible first | exact HB.out | apply below_alloc | apply pw_below_drewN | apply below_drew1 | refine below_set ?_ GE416.out | refine below_set ?_ GE417.out | refine below_set ?_ GE426.out) | exact HB.out)⟩⟩
                              · replace c61 := Bool.eq_false_iff.mpr c61
                                subst c61
                                have H1 : (assartlaw05_HeapHeld.j4 k4 l2 t418 t424 x11_3 x12_4 t429 x14_4 (!t429) l0_0 a0_1 false l1_1 t420 t423) = some r := by rw [if_neg (show ¬ (false = true) by decide)] at H; exact H
                                clear H
                                have H := H1
                                clear H1
                                have H' := Aside0.mk H
                                clear H
                                have hnb65 := NB417_416.out
                                have hnc65 := NB416_417.out
                                have hnb66 := NB417_426.out
                                have hnc66 := NB426_417.out
                                have hcz67_0 : wr.cell? ⟨gb417, 0, none⟩ = some (.bool false) := (blk_cell BK417.out 0).trans rfl
                                have hcz67_1 : wr.cell? ⟨gb417, 1, none⟩ = some (.slice A1_1 l1_1.length c1_1) := (blk_cell BK417.out 1).trans rfl
                                have hfz67_0 := blk_frozen BK417.out 0
                                have hfz67_1 := blk_frozen BK417.out 1
                                go_wp2
                                go_meet
                                case rel => exact ⟨_, (!t429), (by first | rfl | (simp; done) | (simp [*]; done)), H', ⟨by have := HJ4.out; have := HJ25.out; have := HK3.out; have := HK4.out; first | omega | exact Nat.le_refl _⟩, ⟨by (with_reducible repeat (first | apply Kd.V_alloc | apply Kd.V_drewN | apply Kd.V_drew)); exact HO_427000.out⟩, ⟨by (with_reducible repeat (first | refine blk_drewN ?_ _ | refine blk_drew ?_ | refine blk_alloc ?_ _)); exact BK416.out⟩, ⟨by (with_reducible repeat (first | refine blk_drewN ?_ _ | refine blk_drew ?_ | refine blk_alloc ?_ _)); exact BK417.out⟩, ⟨by (with_reducible repeat (first | refine blk_drewN ?_ _ | refine blk_drew ?_ | refine blk_alloc ?_ _)); exact BK426.out⟩, ⟨by repeat (first | (with_reducible first | exact HB.out | apply below_alloc | apply pw_below_drewN | apply below_drew1 | refine below_set ?_ GE416.out | refine below_set ?_ GE417.out | refine below_set ?_ GE426.out) | exact HB.out)⟩⟩
                            · rw [if_neg c60] at H
                              have c60b0 : decide (x14_4 < (l1_1.length : Int)) = false := decide_eq_false c60
                              clear c60
                              (first | rw [c60b0] | (simp only [i64_w, i32_w]; rw [c60b0]) | skip)
                              have H' := Aside0.mk H
                              clear H
                              have hnb68 := NB417_416.out
                              have hnc68 := NB416_417.out
                              have hnb69 := NB417_426.out
                              have hnc69 := NB426_417.out
                              have hcz70_0 : wr.cell? ⟨gb417, 0, none⟩ = some (.bool a1_0) := (blk_cell BK417.out 0).trans rfl
                              have hcz70_1 : wr.cell? ⟨gb417, 1, none⟩ = some (.slice A1_1 l1_1.length c1_1) := (blk_cell BK417.out 1).trans rfl
                              have hfz70_0 := blk_frozen BK417.out 0
                              have hfz70_1 := blk_frozen BK417.out 1
                              go_wp2
                              go_meet
                              case rel => exact ⟨_, (false), (by first | rfl | (simp; done) | (simp [*]; done)), H', ⟨by have := HJ4.out; have := HJ25.out; have := HK3.out; have := HK4.out; first | omega | exact Nat.le_refl _⟩, ⟨by (with_reducible repeat (first | apply Kd.V_alloc | apply Kd.V_drewN | apply Kd.V_drew)); exact HO_427000.out⟩, ⟨by (with_reducible repeat (first | refine blk_drewN ?_ _ | refine blk_drew ?_ | refine blk_alloc ?_ _)); exact BK416.out⟩, ⟨by (with_reducible repeat (first | refine blk_drewN ?_ _ | refine blk_drew ?_ | refine blk_alloc ?_ _)); exact BK417.out⟩, ⟨by (with_reducible repeat (first | refine blk_drewN ?_ _ | refine blk_drew ?_ | refine blk_alloc ?_ _)); exact BK426.out⟩, ⟨by repeat (first | (with_reducible first | exact HB.out | apply below_alloc | apply pw_below_drewN | apply below_drew1 | refine below_set ?_ GE416.out | refine below_set ?_ GE417.out | refine below_set ?_ GE426.out) | exact HB.out)⟩⟩
                          case rest =>
                            clear HC59
                            try clear c1
                            try clear c2
                            try clear p2
                            try clear c3
                            try clear c4
                            try clear c5
                            try clear c6
                            try clear c10
                            try clear c11
                            try clear c11b0
                            try clear c11b1
                            try clear c12
                            try clear c14
                            try clear c16
                            try clear c20
                            try clear c23
                            try clear c25
                            try clear c25b0
                            try clear c25b1
                            try clear c27
                            try clear c33
                            try clear c34
                            try clear c36
                            try clear c36b0
                            try clear c36b1
                            try clear c36b2
                            try clear c37
                            try clear c37b0
                            try clear c38
                            try clear c39
                            try clear c41
                            try clear c43
                            try clear c44
                            try clear c46
                            try clear c48
                            try clear c49
                            try clear c51
                            try clear c53
                            try clear c54
                            try clear c54b0
                            try clear c55
                            try clear c56
                            try clear c57
                            try clear c60
                            try clear c60b0
                            try clear c61
                            try clear c62
                            try clear c63
                            try clear c65
                            try clear c66
                            try clear c68
                            try clear c69
                            try clear hcz13_0
                            try clear hcz13_1
                            try clear hcz15_0
                            try clear hcz15_1
                            try clear hcz17_0
                            try clear hcz17_1
                            try clear hcz19_0
                            try clear hcz19_1
                            try clear hcz21_0
                            try clear hcz21_1
                            try clear hcz28_0
                            try clear hcz28_1
                            try clear hcz29_0
                            try clear hcz29_1
                            try clear hcz35_0
                            try clear hcz35_1
                            try clear hcz40_0
                            try clear hcz40_1
                            try clear hcz42_0
                            try clear hcz42_1
                            try clear hcz45_0
                            try clear hcz45_1
                            try clear hcz47_0
                            try clear hcz47_1
                            try clear hcz50_0
                            try clear hcz50_1
                            try clear hcz52_0
                            try clear hcz52_1
                            try clear hcz58_0
                            try clear hcz58_1
                            try clear hcz64_0
                            try clear hcz64_1
                            try clear hcz67_0
                            try clear hcz67_1
                            try clear hcz70_0
                            try clear hcz70_1
                            try clear hfz13_0
                            try clear hfz13_1
                            try clear hfz15_0
                            try clear hfz15_1
                            try clear hfz17_0
                            try clear hfz17_1
                            try clear hfz19_0
                            try clear hfz19_1
                            try clear hfz21_0
                            try clear hfz21_1
                            try clear hfz28_0
                            try clear hfz28_1
                            try clear hfz29_0
                            try clear hfz29_1
                            try clear hfz35_0
                            try clear hfz35_1
                            try clear hfz40_0
                            try clear hfz40_1
                            try clear hfz42_0
                            try clear hfz42_1
                            try clear hfz45_0
                            try clear hfz45_1
                            try clear hfz47_0
                            try clear hfz47_1
                            try clear hfz50_0
                            try clear hfz50_1
                            try clear hfz52_0
                            try clear hfz52_1
                            try clear hfz58_0
                            try clear hfz58_1
                            try clear hfz64_0
                            try clear hfz64_1
                            try clear hfz67_0
                            try clear hfz67_1
                            try clear hfz70_0
                            try clear hfz70_1
                            try clear p2
                            obtain ⟨kq, x87_58, rfl, HA, HJ58, HO_427000, BK416, BK417, BK426, HB⟩ := hcut
                            cases kq with
                            | zero => exact absurd HA.out (by simp [assartlaw05_HeapHeld.j4])
                            | succ kj58 =>
                              have H := HA.out
                              clear HA
                              simp only [assartlaw05_HeapHeld.j4] at H
                              by_cases c71 : x87_58 = true
                              · subst c71
                                have H1 : (if 0 ≤ x14_4 then (if x14_4 < (l1_1.length : Int) then (if ((rd_T49 l1_1 x14_4).f1) = x11_3 then (assartlaw05_HeapHeld.l1 kj58 l2 t418 t424 x11_3 (wrap64 (x12_4 + 1)) t429 (wrap64 (x14_4 + 1)) l0_0 a0_1 a1_0 l1_1 t420 t423) else (assartlaw05_HeapHeld.l1 kj58 l2 t418 t424 x11_3 x12_4 t429 (wrap64 (x14_4 + 1)) l0_0 a0_1 a1_0 l1_1 t420 t423)) else (none)) else (none)) = some r := by rw [if_pos rfl] at H; exact H
                                clear H
                                have H := H1
                                clear H1
                                by_cases c72 : 0 ≤ x14_4
                                · rw [if_pos c72] at H
                                  have c72b0 : decide (0 ≤ x14_4) = true := decide_eq_true c72
                                  clear c72
                                  by_cases c73 : x14_4 < (l1_1.length : Int)
                                  · rw [if_pos c73] at H
                                    have c73b0 : decide (x14_4 < (l1_1.length : Int)) = true := decide_eq_true c73
                                    clear c73
                                    by_cases c74 : ((rd_T49 l1_1 x14_4).f1) = x11_3
                                    · rw [if_pos c74] at H
                                      have c74b0 : (((rd_T49 l1_1 x14_4).f1) == x11_3) = true := beq_iff_eq.mpr c74
                                      have c74b1 : (((rd_T49 l1_1 x14_4).f1) != x11_3) = false := bne_eq_false_iff_eq.mpr c74
                                      clear c74
                                      have H' := Aside0.mk H
                                      clear H
                                      have hnb75 := NB417_416.out
                                      have hnc75 := NB416_417.out
                                      have hnb76 := NB417_426.out
                                      have hnc76 := NB426_417.out
                                      have hcz77_0 : wc.cell? ⟨gb417, 0, none⟩ = some (.bool a1_0) := (blk_cell BK417.out 0).trans rfl
                                      have hcz77_1 : wc.cell? ⟨gb417, 1, none⟩ = some (.slice A1_1 l1_1.length c1_1) := (blk_cell BK417.out 1).trans rfl
                                      have hfz77_0 := blk_frozen BK417.out 0
                                      have hfz77_1 := blk_frozen BK417.out 1
                                      have p430 : 0 ≤ (x14_4 : Int) := of_decide_eq_true (by first | (with_reducible assumption) | assumption)
                                      have q430 : x14_4 < (l1_1.length : Int) := of_decide_eq_true (by first | (with_reducible assumption) | assumption)
                                      obtain ⟨ad430, e430, hx430_0, hx430_1⟩ := at_T49 HR1_1.out x14_4 p430 q430
                                      cases e430
                                      replace hx430_0 := (HB.out.cell (World.block_lt_of_cell? w _ hx430_0)).trans hx430_0
                                      replace hx430_1 := (HB.out.cell (World.block_lt_of_cell? w _ hx430_1)).trans hx430_1
                                      replace p430 := eq_true p430
                                      replace q430 := eq_true q430
                                      go_wp2
                                      go_roundg kj58
                                      case measure => have := HJ4.out; have := HJ25.out; have := HK3.out; have := HK4.out; have := HJ58.out; omega
                                      case rel => exact ⟨(wrap64 (x12_4 + 1)), (wrap64 (x14_4 + 1)), (by first | rfl | (simp; done) | (simp [*]; done)), (by first | rfl | (simp; done) | (simp [*]; done)), H', ⟨by have := HJ4.out; have := HJ25.out; have := HK3.out; have := HK4.out; have := HJ58.out; omega⟩, ⟨by (with_reducible repeat (first | apply Kd.V_alloc | apply Kd.V_drewN | apply Kd.V_drew)); exact HO_427000.out⟩, ⟨by (with_reducible repeat (first | refine blk_drewN ?_ _ | refine blk_drew ?_ | refine blk_alloc ?_ _)); exact BK416.out⟩, ⟨by (with_reducible repeat (first | refine blk_drewN ?_ _ | refine blk_drew ?_ | refine blk_alloc ?_ _)); exact BK417.out⟩, ⟨by (with_reducible repeat (first | refine blk_drewN ?_ _ | refine blk_drew ?_ | refine blk_alloc ?_ _)); exact BK426.out⟩, ⟨by repeat (first | (with_reducible first | exact HB.out | apply below_alloc | apply pw_below_drewN | apply below_drew1 | refine below_set ?_ GE416.out | refine below_set ?_ GE417.out | refine below_set ?_ GE426.out) | exact HB.out)⟩⟩
                                    · rw [if_neg c74] at H
                                      have c74b0 : (((rd_T49 l1_1 x14_4).f1) == x11_3) = false := beq_eq_false_iff_ne.mpr c74
                                      have c74b1 : (((rd_T49 l1_1 x14_4).f1) != x11_3) = true := bne_iff_ne.mpr c74
                                      have H' := Aside0.mk H
                                      clear H
                                      have hnb78 := NB417_416.out
                                      have hnc78 := NB416_417.out
                                      have hnb79 := NB417_426.out
                                      have hnc79 := NB426_417.out
                                      have hcz80_0 : wc.cell? ⟨gb417, 0, none⟩ = some (.bool a1_0) := (blk_cell BK417.out 0).trans rfl
                                      have hcz80_1 : wc.cell? ⟨gb417, 1, none⟩ = some (.slice A1_1 l1_1.length c1_1) := (blk_cell BK417.out 1).trans rfl
                                      have hfz80_0 := blk_frozen BK417.out 0
                                      have hfz80_1 := blk_frozen BK417.out 1
                                      have p430 : 0 ≤ (x14_4 : Int) := of_decide_eq_true (by first | (with_reducible assumption) | assumption)
                                      have q430 : x14_4 < (l1_1.length : Int) := of_decide_eq_true (by first | (with_reducible assumption) | assumption)
                                      obtain ⟨ad430, e430, hx430_0, hx430_1⟩ := at_T49 HR1_1.out x14_4 p430 q430
                                      cases e430
                                      replace hx430_0 := (HB.out.cell (World.block_lt_of_cell? w _ hx430_0)).trans hx430_0
                                      replace hx430_1 := (HB.out.cell (World.block_lt_of_cell? w _ hx430_1)).trans hx430_1
                                      replace p430 := eq_true p430
                                      replace q430 := eq_true q430
                                      go_wp2
                                      go_roundg kj58
                                      case measure => have := HJ4.out; have := HJ25.out; have := HK3.out; have := HK4.out; have := HJ58.out; omega
                                      case rel => exact ⟨(x12_4), (wrap64 (x14_4 + 1)), (by first | rfl | (simp; done) | (simp [*]; done)), (by first | rfl | (simp; done) | (simp [*]; done)), H', ⟨by have := HJ4.out; have := HJ25.out; have := HK3.out; have := HK4.out; have := HJ58.out; omega⟩, ⟨by (with_reducible repeat (first | apply Kd.V_alloc | apply Kd.V_drewN | apply Kd.V_drew)); exact HO_427000.out⟩, ⟨by (with_reducible repeat (first | refine blk_drewN ?_ _ | refine blk_drew ?_ | refine blk_alloc ?_ _)); exact BK416.out⟩, ⟨by (with_reducible repeat (first | refine blk_drewN ?_ _ | refine blk_drew ?_ | refine blk_alloc ?_ _)); exact BK417.out⟩, ⟨by (with_reducible repeat (first | refine blk_drewN ?_ _ | refine blk_drew ?_ | refine blk_alloc ?_ _)); exact BK426.out⟩, ⟨by repeat (first | (with_reducible first | exact HB.out | apply below_alloc | apply pw_below_drewN | apply below_drew1 | refine below_set ?_ GE416.out | refine below_set ?_ GE417.out | refine below_set ?_ GE426.out) | exact HB.out)⟩⟩
                                  · rw [if_neg c73] at H
                                    exact absurd H (by simp)
                                · rw [if_neg c72] at H
                                  exact absurd H (by simp)
                              · replace c71 := Bool.eq_false_iff.mpr c71
                                subst c71
                                have H1 : (if x11_3 = t424 then (assartlaw05_HeapHeld.l0 kj58 l2 t418 t424 (wrap64 (x11_3 + 1)) l0_0 a0_1 a1_0 l1_1 t420 t423) else (if 0 ≤ x11_3 then (if x11_3 < (t420.length : Int) then (if x11_3 < (l0_0.length : Int) then (if ((rd_T55 t420 x11_3).f0) = (wrap64 (((rd_T55 l0_0 x11_3).f0) + x12_4)) then (if (((rd_T55 t420 x11_3).f1) != ((rd_T55 l0_0 x11_3).f1)) = true then (some false) else ((assartref04_Same.f kj58 ((rd_T55 t420 x11_3).f2.f0) ((rd_T55 t420 x11_3).f2.f1) ((rd_T55 l0_0 x11_3).f2.f0) ((rd_T55 l0_0 x11_3).f2.f1)).bind fun t437 => (if t437 = true then (assartlaw05_HeapHeld.l0 kj58 l2 t418 t424 (wrap64 (x11_3 + 1)) l0_0 a0_1 a1_0 l1_1 t420 t423) else (some false)))) else (some false)) else (none)) else (none)) else (none))) = some r := by rw [if_neg (show ¬ (false = true) by decide)] at H; exact H
                                clear H
                                have H := H1
                                clear H1
                                by_cases c81 : x11_3 = t424
                                · rw [if_pos c81] at H
                                  have c81b0 : (x11_3 == t424) = true := beq_iff_eq.mpr c81
                                  have c81b1 : (x11_3 != t424) = false := bne_eq_false_iff_eq.mpr c81
                                  clear c81
                                  have H' := Aside0.mk H
                                  clear H
                                  try go_wp2
                                  have n0_ := Aside0.mk (Kd.V_drew HO_427000.out)
                                  have n1_ := Aside0.mk (blk_drew BK416.out)
                                  have n2_ := Aside0.mk (blk_drew BK417.out)
                                  have n3_ := Aside0.mk (blk_drew BK426.out)
                                  have n4_ := Aside0.mk (below_drew1 HB.out)
                                  clear HO_427000
                                  clear BK416
                                  clear BK417
                                  clear BK426
                                  clear HB
                                  have HO_427000 := n0_
                                  have BK416 := n1_
                                  have BK417 := n2_
                                  have BK426 := n3_
                                  have HB := n4_
                                  clear n0_ n1_ n2_ n3_ n4_
                                  refine start_ (n := 51) (S := fun w' => True) (ds := []) #[false, false, false, false, false, false, false, false, false, false, false, false, false, false, false, false, false, false, false, false, false, false, false, false, false, false, false, false, false, false, false, false, false, false, false, false, false, false, false, false, false, false, false, false, false, false, false, false, false, false, false] (by kernel_rfl) rfl rfl trivial (fun hHeld => ?_); refine with_tabW assartlaw05_HeapHeld.tab19 assartlaw05_HeapHeld.bits19 (fun HT_ HW_ => ?_)
                                  generalize wc.drew = w82 at HO_427000 BK416 BK417 BK426 HB hHeld ⊢
                                  refine pure_ (i := 0) (N := some 100) (v := ?_) (a' := ?_) #[true, false, false, false, false, false, false, false, false, false, false, false, false, false, false, false, false, false, false, false, false, false, false, false, false, false, false, false, false, false, false, false, false, false, false, false, false, false, false, false, false, false, false, false, false, false, false, false, false, false, false] rfl rfl (any_of HT_.out (by kernel_rfl)) (fun _ _ _ h => h) (Or.inl ⟨by rfl, ?_⟩) ?_ ?_
                                  rotate_left
                                  · intro w'
                                    go_simp
                                    with_reducible rfl
                                  rotate_left
                                  · simp only [Act.put, List.setIfInBounds_toArray, List.set_cons_zero, List.set_cons_succ, i64_w, i32_w]
                                    rfl
                                  refine pure_ (i := 1) (N := some 101) (v := ?_) (a' := ?_) #[true, true, false, false, false, false, false, false, false, false, false, false, false, false, false, false, false, false, false, false, false, false, false, false, false, false, false, false, false, false, false, false, false, false, false, false, false, false, false, false, false, false, false, false, false, false, false, false, false, false, false] rfl rfl (any_of HT_.out (by kernel_rfl)) (fun _ _ _ h => h) (Or.inl ⟨by rfl, ?_⟩) ?_ ?_
                                  rotate_left
                                  · intro w'
                                    go_simp
                                    with_reducible rfl
                                  rotate_left
                                  · simp only [Act.put, List.setIfInBounds_toArray, List.set_cons_zero, List.set_cons_succ, i64_w, i32_w]
                                    rfl
                                  refine pure_ (i := 2) (N := some 102) (v := ?_) (a' := ?_) #[true, true, true, false, false, false, false, false, false, false, false, false, false, false, false, false, false, false, false, false, false, false, false, false, false, false, false, false, false, false, false, false, false, false, false, false, false, false, false, false, false, false, false, false, false, false, false, false, false, false, false] rfl rfl (any_of HT_.out (by kernel_rfl)) (fun _ _ _ h => h) (Or.inl ⟨by rfl, ?_⟩) ?_ ?_
                                  rotate_left
                                  · intro w'
                                    go_simp
                                    with_reducible rfl
                                  rotate_left
                                  · simp only [Act.put, List.setIfInBounds_toArray, List.set_cons_zero, List.set_cons_succ, i64_w, i32_w]
                                    rfl
                                  refine pure_ (i := 3) (N := some 103) (v := ?_) (a' := ?_) #[true, true, true, true, false, false, false, false, false, false, false, false, false, false, false, false, false, false, false, false, false, false, false, false, false, false, false, false, false, false, false, false, false, false, false, false, false, false, false, false, false, false, false, false, false, false, false, false, false, false, false] rfl rfl (any_of HT_.out (by kernel_rfl)) (fun _ _ _ h => h) (Or.inl ⟨by rfl, ?_⟩) ?_ ?_
                                  rotate_left
                                  · intro w'
                                    go_simp
                                    with_reducible rfl
                                  rotate_left
                                  · simp only [Act.put, List.setIfInBounds_toArray, List.set_cons_zero, List.set_cons_succ, i64_w, i32_w]
                                    rfl
                                  refine pure_ (i := 4) (N := some 104) (v := undef) (a' := ?_) #[true, true, true, true, true, false, false, false, false, false, false, false, false, false, false, false, false, false, false, false, false, false, false, false, false, false, false, false, false, false, false, false, false, false, false, false, false, false, false, false, false, false, false, false, false, false, false, false, false, false, false] rfl rfl (any_of HT_.out (by kernel_rfl)) (fun _ _ _ h => h) (Or.inr ⟨by rfl, rfl⟩) ?_ ?_
                                  rotate_left
                                  · simp only [Act.put, List.setIfInBounds_toArray, List.set_cons_zero, List.set_cons_succ, i64_w, i32_w]
                                    rfl
                                  refine pure_ (i := 5) (N := some 105) (v := undef) (a' := ?_) #[true, true, true, true, true, true, false, false, false, false, false, false, false, false, false, false, false, false, false, false, false, false, false, false, false, false, false, false, false, false, false, false, false, false, false, false, false, false, false, false, false, false, false, false, false, false, false, false, false, false, false] rfl rfl (any_of HT_.out (by kernel_rfl)) (fun _ _ _ h => h) (Or.inr ⟨by rfl, rfl⟩) ?_ ?_
                                  rotate_left
                                  · simp only [Act.put, List.setIfInBounds_toArray, List.set_cons_zero, List.set_cons_succ, i64_w, i32_w]
                                    rfl
                                  refine pure_ (i := 6) (N := some 106) (v := undef) (a' := ?_) #[true, true, true, true, true, true, true, false, false, false, false, false, false, false, false, false, false, false, false, false, false, false, false, false, false, false, false, false, false, false, false, false, false, false, false, false, false, false, false, false, false, false, false, false, false, false, false, false, false, false, false] rfl rfl (any_of HT_.out (by kernel_rfl)) (fun _ _ _ h => h) (Or.inr ⟨by rfl, rfl⟩) ?_ ?_
                                  rotate_left
                                  · simp only [Act.put, List.setIfInBounds_toArray, List.set_cons_zero, List.set_cons_succ, i64_w, i32_w]
                                    rfl
                                  refine pure_ (i := 7) (N := some 107) (v := undef) (a' := ?_) #[true, true, true, true, true, true, true, true, false, false, false, false, false, false, false, false, false, false, false, false, false, false, false, false, false, false, false, false, false, false, false, false, false, false, false, false, false, false, false, false, false, false, false, false, false, false, false, false, false, false, false] rfl rfl (any_of HT_.out (by kernel_rfl)) (fun _ _ _ h => h) (Or.inr ⟨by rfl, rfl⟩) ?_ ?_
                                  rotate_left
                                  · simp only [Act.put, List.setIfInBounds_toArray, List.set_cons_zero, List.set_cons_succ, i64_w, i32_w]
                                    rfl
                                  refine pure_ (i := 8) (N := some 108) (v := undef) (a' := ?_) #[true, true, true, true, true, true, true, true, true, false, false, false, false, false, false, false, false, false, false, false, false, false, false, false, false, false, false, false, false, false, false, false, false, false, false, false, false, false, false, false, false, false, false, false, false, false, false, false, false, false, false] rfl rfl (any_of HT_.out (by kernel_rfl)) (fun _ _ _ h => h) (Or.inr ⟨by rfl, rfl⟩) ?_ ?_
                                  rotate_left
                                  · simp only [Act.put, List.setIfInBounds_toArray, List.set_cons_zero, List.set_cons_succ, i64_w, i32_w]
                                    rfl
                                  refine pure_ (i := 9) (N := some 109) (v := undef) (a' := ?_) #[true, true, true, true, true, true, true, true, true, true, false, false, false, false, false, false, false, false, false, false, false, false, false, false, false, false, false, false, false, false, false, false, false, false, false, false, false, false, false, false, false, false, false, false, false, false, false, false, false, false, false] rfl rfl (any_of HT_.out (by kernel_rfl)) (fun _ _ _ h => h) (Or.inr ⟨by rfl, rfl⟩) ?_ ?_
                                  rotate_left
                                  · simp only [Act.put, List.setIfInBounds_toArray, List.set_cons_zero, List.set_cons_succ, i64_w, i32_w]
                                    rfl
                                  refine pure_ (i := 10) (N := some 110) (v := undef) (a' := ?_) #[true, true, true, true, true, true, true, true, true, true, true, false, false, false, false, false, false, false, false, false, false, false, false, false, false, false, false, false, false, false, false, false, false, false, false, false, false, false, false, false, false, false, false, false, false, false, false, false, false, false, false] rfl rfl (any_of HT_.out (by kernel_rfl)) (fun _ _ _ h => h) (Or.inr ⟨by rfl, rfl⟩) ?_ ?_
                                  rotate_left
                                  · simp only [Act.put, List.setIfInBounds_toArray, List.set_cons_zero, List.set_cons_succ, i64_w, i32_w]
                                    rfl
                                  refine pure_ (i := 11) (N := some 111) (v := undef) (a' := ?_) #[true, true, true, true, true, true, true, true, true, true, true, true, false, false, false, false, false, false, false, false, false, false, false, false, false, false, false, false, false, false, false, false, false, false, false, false, false, false, false, false, false, false, false, false, false, false, false, false, false, false, false] rfl rfl (any_of HT_.out (by kernel_rfl)) (fun _ _ _ h => h) (Or.inr ⟨by rfl, rfl⟩) ?_ ?_
                                  rotate_left
                                  · simp only [Act.put, List.setIfInBounds_toArray, List.set_cons_zero, List.set_cons_succ, i64_w, i32_w]
                                    rfl
                                  refine pure_ (i := 12) (N := some 112) (v := undef) (a' := ?_) #[true, true, true, true, true, true, true, true, true, true, true, true, true, false, false, false, false, false, false, false, false, false, false, false, false, false, false, false, false, false, false, false, false, false, false, false, false, false, false, false, false, false, false, false, false, false, false, false, false, false, false] rfl rfl (any_of HT_.out (by kernel_rfl)) (fun _ _ _ h => h) (Or.inr ⟨by rfl, rfl⟩) ?_ ?_
                                  rotate_left
                                  · simp only [Act.put, List.setIfInBounds_toArray, List.set_cons_zero, List.set_cons_succ, i64_w, i32_w]
                                    rfl
                                  refine pure_ (i := 13) (N := some 113) (v := undef) (a' := ?_) #[true, true, true, true, true, true, true, true, true, true, true, true, true, true, false, false, false, false, false, false, false, false, false, false, false, false, false, false, false, false, false, false, false, false, false, false, false, false, false, false, false, false, false, false, false, false, false, false, false, false, false] rfl rfl (any_of HT_.out (by kernel_rfl)) (fun _ _ _ h => h) (Or.inr ⟨by rfl, rfl⟩) ?_ ?_
                                  rotate_left
                                  · simp only [Act.put, List.setIfInBounds_toArray, List.set_cons_zero, List.set_cons_succ, i64_w, i32_w]
                                    rfl
                                  refine pure_ (i := 14) (N := some 114) (v := undef) (a' := ?_) #[true, true, true, true, true, true, true, true, true, true, true, true, true, true, true, false, false, false, false, false, false, false, false, false, false, false, false, false, false, false, false, false, false, false, false, false, false, false, false, false, false, false, false, false, false, false, false, false, false, false, false] rfl rfl (any_of HT_.out (by kernel_rfl)) (fun _ _ _ h => h) (Or.inr ⟨by rfl, rfl⟩) ?_ ?_
                                  rotate_left
                                  · simp only [Act.put, List.setIfInBounds_toArray, List.set_cons_zero, List.set_cons_succ, i64_w, i32_w]
                                    rfl
                                  refine pure_ (i := 15) (N := some 115) (v := undef) (a' := ?_) #[true, true, true, true, true, true, true, true, true, true, true, true, true, true, true, true, false, false, false, false, false, false, false, false, false, false, false, false, false, false, false, false, false, false, false, false, false, false, false, false, false, false, false, false, false, false, false, false, false, false, false] rfl rfl (any_of HT_.out (by kernel_rfl)) (fun _ _ _ h => h) (Or.inr ⟨by rfl, rfl⟩) ?_ ?_
                                  rotate_left
                                  · simp only [Act.put, List.setIfInBounds_toArray, List.set_cons_zero, List.set_cons_succ, i64_w, i32_w]
                                    rfl
                                  refine pure_ (i := 16) (N := some 116) (v := undef) (a' := ?_) #[true, true, true, true, true, true, true, true, true, true, true, true, true, true, true, true, true, false, false, false, false, false, false, false, false, false, false, false, false, false, false, false, false, false, false, false, false, false, false, false, false, false, false, false, false, false, false, false, false, false, false] rfl rfl (any_of HT_.out (by kernel_rfl)) (fun _ _ _ h => h) (Or.inr ⟨by rfl, rfl⟩) ?_ ?_
                                  rotate_left
                                  · simp only [Act.put, List.setIfInBounds_toArray, List.set_cons_zero, List.set_cons_succ, i64_w, i32_w]
                                    rfl
                                  refine pure_ (i := 17) (N := some 117) (v := undef) (a' := ?_) #[true, true, true, true, true, true, true, true, true, true, true, true, true, true, true, true, true, true, false, false, false, false, false, false, false, false, false, false, false, false, false, false, false, false, false, false, false, false, false, false, false, false, false, false, false, false, false, false, false, false, false] rfl rfl (any_of HT_.out (by kernel_rfl)) (fun _ _ _ h => h) (Or.inr ⟨by rfl, rfl⟩) ?_ ?_
                                  rotate_left
                                  · simp only [Act.put, List.setIfInBounds_toArray, List.set_cons_zero, List.set_cons_succ, i64_w, i32_w]
                                    rfl
                                  refine pure_ (i := 18) (N := some 118) (v := undef) (a' := ?_) #[true, true, true, true, true, true, true, true, true, true, true, true, true, true, true, true, true, true, true, false, false, false, false, false, false, false, false, false, false, false, false, false, false, false, false, false, false, false, false, false, false, false, false, false, false, false, false, false, false, false, false] rfl rfl (any_of HT_.out (by kernel_rfl)) (fun _ _ _ h => h) (Or.inr ⟨by rfl, rfl⟩) ?_ ?_
                                  rotate_left
                                  · simp only [Act.put, List.setIfInBounds_toArray, List.set_cons_zero, List.set_cons_succ, i64_w, i32_w]
                                    rfl
                                  refine pure_ (i := 19) (N := some 119) (v := undef) (a' := ?_) #[true, true, true, true, true, true, true, true, true, true, true, true, true, true, true, true, true, true, true, true, false, false, false, false, false, false, false, false, false, false, false, false, false, false, false, false, false, false, false, false, false, false, false, false, false, false, false, false, false, false, false] rfl rfl (any_of HT_.out (by kernel_rfl)) (fun _ _ _ h => h) (Or.inr ⟨by rfl, rfl⟩) ?_ ?_
                                  rotate_left
                                  · simp only [Act.put, List.setIfInBounds_toArray, List.set_cons_zero, List.set_cons_succ, i64_w, i32_w]
                                    rfl
                                  refine pure_ (i := 20) (N := some 120) (v := undef) (a' := ?_) #[true, true, true, true, true, true, true, true, true, true, true, true, true, true, true, true, true, true, true, true, true, false, false, false, false, false, false, false, false, false, false, false, false, false, false, false, false, false, false, false, false, false, false, false, false, false, false, false, false, false, false] rfl rfl (any_of HT_.out (by kernel_rfl)) (fun _ _ _ h => h) (Or.inr ⟨by rfl, rfl⟩) ?_ ?_
                                  rotate_left
                                  · simp only [Act.put, List.setIfInBounds_toArray, List.set_cons_zero, List.set_cons_succ, i64_w, i32_w]
                                    rfl
                                  refine pure_ (i := 21) (N := some 121) (v := undef) (a' := ?_) #[true, true, true, true, true, true, true, true, true, true, true, true, true, true, true, true, true, true, true, true, true, true, false, false, false, false, false, false, false, false, false, false, false, false, false, false, false, false, false, false, false, false, false, false, false, false, false, false, false, false, false] rfl rfl (any_of HT_.out (by kernel_rfl)) (fun _ _ _ h => h) (Or.inr ⟨by rfl, rfl⟩) ?_ ?_
                                  rotate_left
                                  · simp only [Act.put, List.setIfInBounds_toArray, List.set_cons_zero, List.set_cons_succ, i64_w, i32_w]
                                    rfl
                                  refine pure_ (i := 22) (N := some 122) (v := undef) (a' := ?_) #[true, true, true, true, true, true, true, true, true, true, true, true, true, true, true, true, true, true, true, true, true, true, true, false, false, false, false, false, false, false, false, false, false, false, false, false, false, false, false, false, false, false, false, false, false, false, false, false, false, false, false] rfl rfl (any_of HT_.out (by kernel_rfl)) (fun _ _ _ h => h) (Or.inr ⟨by rfl, rfl⟩) ?_ ?_
                                  rotate_left
                                  · simp only [Act.put, List.setIfInBounds_toArray, List.set_cons_zero, List.set_cons_succ, i64_w, i32_w]
                                    rfl
                                  refine pure_ (i := 23) (N := some 123) (v := undef) (a' := ?_) #[true, true, true, true, true, true, true, true, true, true, true, true, true, true, true, true, true, true, true, true, true, true, true, true, false, false, false, false, false, false, false, false, false, false, false, false, false, false, false, false, false, false, false, false, false, false, false, false, false, false, false] rfl rfl (any_of HT_.out (by kernel_rfl)) (fun _ _ _ h => h) (Or.inr ⟨by rfl, rfl⟩) ?_ ?_
                                  rotate_left
                                  · simp only [Act.put, List.setIfInBounds_toArray, List.set_cons_zero, List.set_cons_succ, i64_w, i32_w]
                                    rfl
                                  refine pure_ (i := 24) (N := some 124) (v := undef) (a' := ?_) #[true, true, true, true, true, true, true, true, true, true, true, true, true, true, true, true, true, true, true, true, true, true, true, true, true, false, false, false, false, false, false, false, false, false, false, false, false, false, false, false, false, false, false, false, false, false, false, false, false, false, false] rfl rfl (any_of HT_.out (by kernel_rfl)) (fun _ _ _ h => h) (Or.inr ⟨by rfl, rfl⟩) ?_ ?_
                                  rotate_left
                                  · simp only [Act.put, List.setIfInBounds_toArray, List.set_cons_zero, List.set_cons_succ, i64_w, i32_w]
                                    rfl
                                  refine pure_ (i := 25) (N := some 125) (v := undef) (a' := ?_) #[true, true, true, true, true, true, true, true, true, true, true, true, true, true, true, true, true, true, true, true, true, true, true, true, true, true, false, false, false, false, false, false, false, false, false, false, false, false, false, false, false, false, false, false, false, false, false, false, false, false, false] rfl rfl (any_of HT_.out (by kernel_rfl)) (fun _ _ _ h => h) (Or.inr ⟨by rfl, rfl⟩) ?_ ?_
                                  rotate_left
                                  · simp only [Act.put, List.setIfInBounds_toArray, List.set_cons_zero, List.set_cons_succ, i64_w, i32_w]
                                    rfl
                                  refine pure_ (i := 26) (N := some 126) (v := undef) (a' := ?_) #[true, true, true, true, true, true, true, true, true, true, true, true, true, true, true, true, true, true, true, true, true, true, true, true, true, true, true, false, false, false, false, false, false, false, false, false, false, false, false, false, false, false, false, false, false, false, false, false, false, false, false] rfl rfl (any_of HT_.out (by kernel_rfl)) (fun _ _ _ h => h) (Or.inr ⟨by rfl, rfl⟩) ?_ ?_
                                  rotate_left
                                  · simp only [Act.put, List.setIfInBounds_toArray, List.set_cons_zero, List.set_cons_succ, i64_w, i32_w]
                                    rfl
                                  refine pure_ (i := 27) (N := some 127) (v := undef) (a' := ?_) #[true, true, true, true, true, true, true, true, true, true, true, true, true, true, true, true, true, true, true, true, true, true, true, true, true, true, true, true, false, false, false, false, false, false, false, false, false, false, false, false, false, false, false, false, false, false, false, false, false, false, false] rfl rfl (any_of HT_.out (by kernel_rfl)) (fun _ _ _ h => h) (Or.inr ⟨by rfl, rfl⟩) ?_ ?_
                                  rotate_left
                                  · simp only [Act.put, List.setIfInBounds_toArray, List.set_cons_zero, List.set_cons_succ, i64_w, i32_w]
                                    rfl
                                  refine pure_ (i := 28) (N := some 128) (v := undef) (a' := ?_) #[true, true, true, true, true, true, true, true, true, true, true, true, true, true, true, true, true, true, true, true, true, true, true, true, true, true, true, true, true, false, false, false, false, false, false, false, false, false, false, false, false, false, false, false, false, false, false, false, false, false, false] rfl rfl (any_of HT_.out (by kernel_rfl)) (fun _ _ _ h => h) (Or.inr ⟨by rfl, rfl⟩) ?_ ?_
                                  rotate_left
                                  · simp only [Act.put, List.setIfInBounds_toArray, List.set_cons_zero, List.set_cons_succ, i64_w, i32_w]
                                    rfl
                                  refine pure_ (i := 29) (N := some 129) (v := undef) (a' := ?_) #[true, true, true, true, true, true, true, true, true, true, true, true, true, true, true, true, true, true, true, true, true, true, true, true, true, true, true, true, true, true, false, false, false, false, false, false, false, false, false, false, false, false, false, false, false, false, false, false, false, false, false] rfl rfl (any_of HT_.out (by kernel_rfl)) (fun _ _ _ h => h) (Or.inr ⟨by rfl, rfl⟩) ?_ ?_
                                  rotate_left
                                  · simp only [Act.put, List.setIfInBounds_toArray, List.set_cons_zero, List.set_cons_succ, i64_w, i32_w]
                                    rfl
                                  refine pure_ (i := 30) (N := some 130) (v := undef) (a' := ?_) #[true, true, true, true, true, true, true, true, true, true, true, true, true, true, true, true, true, true, true, true, true, true, true, true, true, true, true, true, true, true, true, false, false, false, false, false, false, false, false, false, false, false, false, false, false, false, false, false, false, false, false] rfl rfl (any_of HT_.out (by kernel_rfl)) (fun _ _ _ h => h) (Or.inr ⟨by rfl, rfl⟩) ?_ ?_
                                  rotate_left
                                  · simp only [Act.put, List.setIfInBounds_toArray, List.set_cons_zero, List.set_cons_succ, i64_w, i32_w]
                                    rfl
                                  refine pure_ (i := 31) (N := some 131) (v := undef) (a' := ?_) #[true, true, true, true, true, true, true, true, true, true, true, true, true, true, true, true, true, true, true, true, true, true, true, true, true, true, true, true, true, true, true, true, false, false, false, false, false, false, false, false, false, false, false, false, false, false, false, false, false, false, false] rfl rfl (any_of HT_.out (by kernel_rfl)) (fun _ _ _ h => h) (Or.inr ⟨by rfl, rfl⟩) ?_ ?_
                                  rotate_left
                                  · simp only [Act.put, List.setIfInBounds_toArray, List.set_cons_zero, List.set_cons_succ, i64_w, i32_w]
                                    rfl
                                  refine pure_ (i := 32) (N := some 132) (v := undef) (a' := ?_) #[true, true, true, true, true, true, true, true, true, true, true, true, true, true, true, true, true, true, true, true, true, true, true, true, true, true, true, true, true, true, true, true, true, false, false, false, false, false, false, false, false, false, false, false, false, false, false, false, false, false, false] rfl rfl (any_of HT_.out (by kernel_rfl)) (fun _ _ _ h => h) (Or.inr ⟨by rfl, rfl⟩) ?_ ?_
                                  rotate_left
                                  · simp only [Act.put, List.setIfInBounds_toArray, List.set_cons_zero, List.set_cons_succ, i64_w, i32_w]
                                    rfl
                                  refine pure_ (i := 33) (N := some 133) (v := undef) (a' := ?_) #[true, true, true, true, true, true, true, true, true, true, true, true, true, true, true, true, true, true, true, true, true, true, true, true, true, true, true, true, true, true, true, true, true, true, false, false, false, false, false, false, false, false, false, false, false, false, false, false, false, false, false] rfl rfl (any_of HT_.out (by kernel_rfl)) (fun _ _ _ h => h) (Or.inr ⟨by rfl, rfl⟩) ?_ ?_
                                  rotate_left
                                  · simp only [Act.put, List.setIfInBounds_toArray, List.set_cons_zero, List.set_cons_succ, i64_w, i32_w]
                                    rfl
                                  refine pure_ (i := 34) (N := some 134) (v := undef) (a' := ?_) #[true, true, true, true, true, true, true, true, true, true, true, true, true, true, true, true, true, true, true, true, true, true, true, true, true, true, true, true, true, true, true, true, true, true, true, false, false, false, false, false, false, false, false, false, false, false, false, false, false, false, false] rfl rfl (any_of HT_.out (by kernel_rfl)) (fun _ _ _ h => h) (Or.inr ⟨by rfl, rfl⟩) ?_ ?_
                                  rotate_left
                                  · simp only [Act.put, List.setIfInBounds_toArray, List.set_cons_zero, List.set_cons_succ, i64_w, i32_w]
                                    rfl
                                  refine pure_ (i := 35) (N := some 135) (v := undef) (a' := ?_) #[true, true, true, true, true, true, true, true, true, true, true, true, true, true, true, true, true, true, true, true, true, true, true, true, true, true, true, true, true, true, true, true, true, true, true, true, false, false, false, false, false, false, false, false, false, false, false, false, false, false, false] rfl rfl (any_of HT_.out (by kernel_rfl)) (fun _ _ _ h => h) (Or.inr ⟨by rfl, rfl⟩) ?_ ?_
                                  rotate_left
                                  · simp only [Act.put, List.setIfInBounds_toArray, List.set_cons_zero, List.set_cons_succ, i64_w, i32_w]
                                    rfl
                                  refine pure_ (i := 36) (N := some 136) (v := undef) (a' := ?_) #[true, true, true, true, true, true, true, true, true, true, true, true, true, true, true, true, true, true, true, true, true, true, true, true, true, true, true, true, true, true, true, true, true, true, true, true, true, false, false, false, false, false, false, false, false, false, false, false, false, false, false] rfl rfl (any_of HT_.out (by kernel_rfl)) (fun _ _ _ h => h) (Or.inr ⟨by rfl, rfl⟩) ?_ ?_
                                  rotate_left
                                  · simp only [Act.put, List.setIfInBounds_toArray, List.set_cons_zero, List.set_cons_succ, i64_w, i32_w]
                                    rfl
                                  refine pure_ (i := 37) (N := some 137) (v := undef) (a' := ?_) #[true, true, true, true, true, true, true, true, true, true, true, true, true, true, true, true, true, true, true, true, true, true, true, true, true, true, true, true, true, true, true, true, true, true, true, true, true, true, false, false, false, false, false, false, false, false, false, false, false, false, false] rfl rfl (any_of HT_.out (by kernel_rfl)) (fun _ _ _ h => h) (Or.inr ⟨by rfl, rfl⟩) ?_ ?_
                                  rotate_left
                                  · simp only [Act.put, List.setIfInBounds_toArray, List.set_cons_zero, List.set_cons_succ, i64_w, i32_w]
                                    rfl
                                  refine pure_ (i := 38) (N := some 138) (v := undef) (a' := ?_) #[true, true, true, true, true, true, true, true, true, true, true, true, true, true, true, true, true, true, true, true, true, true, true, true, true, true, true, true, true, true, true, true, true, true, true, true, true, true, true, false, false, false, false, false, false, false, false, false, false, false, false] rfl rfl (any_of HT_.out (by kernel_rfl)) (fun _ _ _ h => h) (Or.inr ⟨by rfl, rfl⟩) ?_ ?_
                                  rotate_left
                                  · simp only [Act.put, List.setIfInBounds_toArray, List.set_cons_zero, List.set_cons_succ, i64_w, i32_w]
                                    rfl
                                  refine pure_ (i := 39) (N := some 139) (v := undef) (a' := ?_) #[true, true, true, true, true, true, true, true, true, true, true, true, true, true, true, true, true, true, true, true, true, true, true, true, true, true, true, true, true, true, true, true, true, true, true, true, true, true, true, true, false, false, false, false, false, false, false, false, false, false, false] rfl rfl (any_of HT_.out (by kernel_rfl)) (fun _ _ _ h => h) (Or.inr ⟨by rfl, rfl⟩) ?_ ?_
                                  rotate_left
                                  · simp only [Act.put, List.setIfInBounds_toArray, List.set_cons_zero, List.set_cons_succ, i64_w, i32_w]
                                    rfl
                                  refine pure_ (i := 40) (N := some 140) (v := undef) (a' := ?_) #[true, true, true, true, true, true, true, true, true, true, true, true, true, true, true, true, true, true, true, true, true, true, true, true, true, true, true, true, true, true, true, true, true, true, true, true, true, true, true, true, true, false, false, false, false, false, false, false, false, false, false] rfl rfl (any_of HT_.out (by kernel_rfl)) (fun _ _ _ h => h) (Or.inr ⟨by rfl, rfl⟩) ?_ ?_
                                  rotate_left
                                  · simp only [Act.put, List.setIfInBounds_toArray, List.set_cons_zero, List.set_cons_succ, i64_w, i32_w]
                                    rfl
                                  refine pure_ (i := 41) (N := some 141) (v := undef) (a' := ?_) #[true, true, true, true, true, true, true, true, true, true, true, true, true, true, true, true, true, true, true, true, true, true, true, true, true, true, true, true, true, true, true, true, true, true, true, true, true, true, true, true, true, true, false, false, false, false, false, false, false, false, false] rfl rfl (any_of HT_.out (by kernel_rfl)) (fun _ _ _ h => h) (Or.inr ⟨by rfl, rfl⟩) ?_ ?_
                                  rotate_left
                                  · simp only [Act.put, List.setIfInBounds_toArray, List.set_cons_zero, List.set_cons_succ, i64_w, i32_w]
                                    rfl
                                  refine pure_ (i := 42) (N := some 142) (v := undef) (a' := ?_) #[true, true, true, true, true, true, true, true, true, true, true, true, true, true, true, true, true, true, true, true, true, true, true, true, true, true, true, true, true, true, true, true, true, true, true, true, true, true, true, true, true, true, true, false, false, false, false, false, false, false, false] rfl rfl (any_of HT_.out (by kernel_rfl)) (fun _ _ _ h => h) (Or.inr ⟨by rfl, rfl⟩) ?_ ?_
                                  rotate_left
                                  · simp only [Act.put, List.setIfInBounds_toArray, List.set_cons_zero, List.set_cons_succ, i64_w, i32_w]
                                    rfl
                                  refine pure_ (i := 43) (N := some 143) (v := undef) (a' := ?_) #[true, true, true, true, true, true, true, true, true, true, true, true, true, true, true, true, true, true, true, true, true, true, true, true, true, true, true, true, true, true, true, true, true, true, true, true, true, true, true, true, true, true, true, true, false, false, false, false, false, false, false] rfl rfl (any_of HT_.out (by kernel_rfl)) (fun _ _ _ h => h) (Or.inr ⟨by rfl, rfl⟩) ?_ ?_
                                  rotate_left
                                  · simp only [Act.put, List.setIfInBounds_toArray, List.set_cons_zero, List.set_cons_succ, i64_w, i32_w]
                                    rfl
                                  refine pure_ (i := 44) (N := some 144) (v := undef) (a' := ?_) #[true, true, true, true, true, true, true, true, true, true, true, true, true, true, true, true, true, true, true, true, true, true, true, true, true, true, true, true, true, true, true, true, true, true, true, true, true, true, true, true, true, true, true, true, true, false, false, false, false, false, false] rfl rfl (any_of HT_.out (by kernel_rfl)) (fun _ _ _ h => h) (Or.inr ⟨by rfl, rfl⟩) ?_ ?_
                                  rotate_left
                                  · simp only [Act.put, List.setIfInBounds_toArray, List.set_cons_zero, List.set_cons_succ, i64_w, i32_w]
                                    rfl
                                  refine pure_ (i := 45) (N := some 145) (v := undef) (a' := ?_) #[true, true, true, true, true, true, true, true, true, true, true, true, true, true, true, true, true, true, true, true, true, true, true, true, true, true, true, true, true, true, true, true, true, true, true, true, true, true, true, true, true, true, true, true, true, true, false, false, false, false, false] rfl rfl (any_of HT_.out (by kernel_rfl)) (fun _ _ _ h => h) (Or.inr ⟨by rfl, rfl⟩) ?_ ?_
                                  rotate_left
                                  · simp only [Act.put, List.setIfInBounds_toArray, List.set_cons_zero, List.set_cons_succ, i64_w, i32_w]
                                    rfl
                                  refine pure_ (i := 46) (N := some 146) (v := undef) (a' := ?_) #[true, true, true, true, true, true, true, true, true, true, true, true, true, true, true, true, true, true, true, true, true, true, true, true, true, true, true, true, true, true, true, true, true, true, true, true, true, true, true, true, true, true, true, true, true, true, true, false, false, false, false] rfl rfl (any_of HT_.out (by kernel_rfl)) (fun _ _ _ h => h) (Or.inr ⟨by rfl, rfl⟩) ?_ ?_
                                  rotate_left
                                  · simp only [Act.put, List.setIfInBounds_toArray, List.set_cons_zero, List.set_cons_succ, i64_w, i32_w]
                                    rfl
                                  refine pure_ (i := 47) (N := some 147) (v := undef) (a' := ?_) #[true, true, true, true, true, true, true, true, true, true, true, true, true, true, true, true, true, true, true, true, true, true, true, true, true, true, true, true, true, true, true, true, true, true, true, true, true, true, true, true, true, true, true, true, true, true, true, true, false, false, false] rfl rfl (any_of HT_.out (by kernel_rfl)) (fun _ _ _ h => h) (Or.inr ⟨by rfl, rfl⟩) ?_ ?_
                                  rotate_left
                                  · simp only [Act.put, List.setIfInBounds_toArray, List.set_cons_zero, List.set_cons_succ, i64_w, i32_w]
                                    rfl
                                  refine pure_ (i := 48) (N := some 148) (v := undef) (a' := ?_) #[true, true, true, true, true, true, true, true, true, true, true, true, true, true, true, true, true, true, true, true, true, true, true, true, true, true, true, true, true, true, true, true, true, true, true, true, true, true, true, true, true, true, true, true, true, true, true, true, true, false, false] rfl rfl (any_of HT_.out (by kernel_rfl)) (fun _ _ _ h => h) (Or.inr ⟨by rfl, rfl⟩) ?_ ?_
                                  rotate_left
                                  · simp only [Act.put, List.setIfInBounds_toArray, List.set_cons_zero, List.set_cons_succ, i64_w, i32_w]
                                    rfl
                                  refine pure_ (i := 49) (N := some 149) (v := undef) (a' := ?_) #[true, true, true, true, true, true, true, true, true, true, true, true, true, true, true, true, true, true, true, true, true, true, true, true, true, true, true, true, true, true, true, true, true, true, true, true, true, true, true, true, true, true, true, true, true, true, true, true, true, true, false] rfl rfl (any_of HT_.out (by kernel_rfl)) (fun _ _ _ h => h) (Or.inr ⟨by rfl, rfl⟩) ?_ ?_
                                  rotate_left
                                  · simp only [Act.put, List.setIfInBounds_toArray, List.set_cons_zero, List.set_cons_succ, i64_w, i32_w]
                                    rfl
                                  refine pure_ (i := 50) (N := some 150) (v := ?_) (a' := ?_) #[true, true, true, true, true, true, true, true, true, true, true, true, true, true, true, true, true, true, true, true, true, true, true, true, true, true, true, true, true, true, true, true, true, true, true, true, true, true, true, true, true, true, true, true, true, true, true, true, true, true, true] rfl rfl (any_of HT_.out (by kernel_rfl)) (fun _ _ _ h => h) (Or.inl ⟨by rfl, ?_⟩) ?_ ?_
                                  rotate_left
                                  · intro w'
                                    go_simp
                                    with_reducible rfl
                                  rotate_left
                                  · simp only [Act.put, List.setIfInBounds_toArray, List.set_cons_zero, List.set_cons_succ, i64_w, i32_w]
                                    rfl
                                  refine done_ (done_of HT_.out (by kernel_rfl)) ?_
                                  try go_wp2
                                  go_roundg kj58
                                  case measure => have := HJ4.out; have := HJ25.out; have := HK3.out; have := HK4.out; have := HJ58.out; omega
                                  case rel => exact ⟨(wrap64 (x11_3 + 1)), (by first | rfl | (simp; done) | (simp [*]; done)), H', ⟨by have := HJ4.out; have := HJ25.out; have := HK3.out; have := HK4.out; have := HJ58.out; omega⟩, ⟨by (with_reducible repeat (first | apply Kd.V_alloc | apply Kd.V_drewN | apply Kd.V_drew)); exact HO_427000.out⟩, ⟨by (with_reducible repeat (first | refine blk_drewN ?_ _ | refine blk_drew ?_ | refine blk_alloc ?_ _)); exact BK416.out⟩, ⟨by (with_reducible repeat (first | refine blk_drewN ?_ _ | refine blk_drew ?_ | refine blk_alloc ?_ _)); exact BK417.out⟩, ⟨by (with_reducible repeat (first | refine blk_drewN ?_ _ | refine blk_drew ?_ | refine blk_alloc ?_ _)); exact BK426.out⟩, ⟨by repeat (first | (with_reducible first | exact HB.out | apply below_alloc | apply pw_below_drewN | apply below_drew1 | refine below_set ?_ GE416.out | refine below_set ?_ GE417.out | refine below_set ?_ GE426.out) | exact HB.out)⟩⟩
                                · rw [if_neg c81] at H
                                  have c81b0 : (x11_3 == t424) = false := beq_eq_false_iff_ne.mpr c81
                                  have c81b1 : (x11_3 != t424) = true := bne_iff_ne.mpr c81
                                  by_cases c83 : 0 ≤ x11_3
                                  · rw [if_pos c83] at H
                                    have c83b0 : decide (0 ≤ x11_3) = true := decide_eq_true c83
                                    clear c83
                                    by_cases c84 : x11_3 < (t420.length : Int)
                                    · rw [if_pos c84] at H
                                      have c84b0 : decide (x11_3 < (t420.length : Int)) = true := decide_eq_true c84
                                      clear c84
                                      by_cases c85 : x11_3 < (l0_0.length : Int)
                                      · rw [if_pos c85] at H
                                        have c85b0 : decide (x11_3 < (l0_0.length : Int)) = true := decide_eq_true c85
                                        clear c85
                                        by_cases c86 : ((rd_T55 t420 x11_3).f0) = (wrap64 (((rd_T55 l0_0 x11_3).f0) + x12_4))
                                        · rw [if_pos c86] at H
                                          have c86b0 : (((rd_T55 t420 x11_3).f0) == (wrap64 (((rd_T55 l0_0 x11_3).f0) + x12_4))) = true := beq_iff_eq.mpr c86
                                          have c86b1 : (((rd_T55 t420 x11_3).f0) != (wrap64 (((rd_T55 l0_0 x11_3).f0) + x12_4))) = false := bne_eq_false_iff_eq.mpr c86
                                          clear c86
                                          by_cases c87 : (((rd_T55 t420 x11_3).f1) != ((rd_T55 l0_0 x11_3).f1)) = true
                                          · rw [if_pos c87] at H
                                            have c87b0 : (((rd_T55 t420 x11_3).f1) != ((rd_T55 l0_0 x11_3).f1)) = true := c87
                                            (try (have c87b1 : decide (((rd_T55 t420 x11_3).f1) = ((rd_T55 l0_0 x11_3).f1)) = false := by simpa using c87))
                                            (try (have c87b2 : (((rd_T55 t420 x11_3).f1) == ((rd_T55 l0_0 x11_3).f1)) = false := by simpa using c87))
                                            (try (have c87b3 : ¬ (((rd_T55 t420 x11_3).f1) = ((rd_T55 l0_0 x11_3).f1)) := by simpa using c87))
                                            clear c87
                                            obtain rfl := Option.some.inj H
                                            cases hr
                                          · rw [if_neg c87] at H
                                            have c87b0 : (((rd_T55 t420 x11_3).f1) != ((rd_T55 l0_0 x11_3).f1)) = false := by simpa using c87
                                            (try (have c87b1 : decide (((rd_T55 t420 x11_3).f1) = ((rd_T55 l0_0 x11_3).f1)) = true := by simpa using c87))
                                            (try (have c87b2 : (((rd_T55 t420 x11_3).f1) == ((rd_T55 l0_0 x11_3).f1)) = true := by simpa using c87))
                                            clear c87
                                            replace H := Option.bind_eq_some_iff.mp H
                                            obtain ⟨t437, A890, H⟩ := H
                                            replace H : (if t437 = true then (assartlaw05_HeapHeld.l0 kj58 l2 t418 t424 (wrap64 (x11_3 + 1)) l0_0 a0_1 a1_0 l1_1 t420 t423) else (some false)) = some r := H
                                            have A89 := Aside0.mk A890
                                            clear A890
                                            by_cases c90 : t437 = true
                                            · subst c90
                                              have H1 : (assartlaw05_HeapHeld.l0 kj58 l2 t418 t424 (wrap64 (x11_3 + 1)) l0_0 a0_1 a1_0 l1_1 t420 t423) = some r := by rw [if_pos rfl] at H; exact H
                                              clear H
                                              have H := H1
                                              clear H1
                                              have H' := Aside0.mk H
                                              clear H
                                              try go_wp2
                                              have n0_ := Aside0.mk (Kd.V_drew HO_427000.out)
                                              have n1_ := Aside0.mk (blk_drew BK416.out)
                                              have n2_ := Aside0.mk (blk_drew BK417.out)
                                              have n3_ := Aside0.mk (blk_drew BK426.out)
                                              have n4_ := Aside0.mk (below_drew1 HB.out)
                                              clear HO_427000
                                              clear BK416
                                              clear BK417
                                              clear BK426
                                              clear HB
                                              have HO_427000 := n0_
                                              have BK416 := n1_
                                              have BK417 := n2_
                                              have BK426 := n3_
                                              have HB := n4_
                                              clear n0_ n1_ n2_ n3_ n4_
                                              have p431 : 0 ≤ (x11_3 : Int) := of_decide_eq_true (by first | (with_reducible assumption) | assumption)
                                              have q431 : x11_3 < (t420.length : Int) := of_decide_eq_true (by first | (with_reducible assumption) | assumption)
                                              obtain ⟨ad431, A431_3, c431_3, e431, hx431_0, hx431_1, hx431_2, hx431_3, hl431_3, hi431_3⟩ := at_T55 (Kd.V_reads' HO_427000.out).2.2 x11_3 p431 q431
                                              cases e431
                                              obtain ⟨ce431, hce431, hMe431, hcc431⟩ := Kd.V_get HO_427000.out z55 x11_3 p431 (by first | exact q431 | exact of_decide_eq_true (by first | (with_reducible assumption) | assumption) | (have e_ := (Kd.V_reads' HO_427000.out).1; omega))
                                              obtain ⟨ua431_3, uc431_3, rfl, ul431_3, ge431_3⟩ := k55_openF hMe431
                                              have hv431_3 := hcc431 3 _ rfl
                                              rw [add_field _ _ 3 (by omega)] at hv431_3
                                              replace hv431_3 := Option.some.inj (hv431_3.symm.trans hx431_3)
                                              injection hv431_3 with hva_ hvn_ hvc_
                                              rw [hva_] at ge431_3
                                              rw [hvc_] at ul431_3
                                              have HL431_3 := Aside0.mk (show Kd.V k49 49 _ w.heap.size _ _ ((rd_T55 t420 x11_3).f2.f1) from Kd.V_mk ul431_3 ge431_3)
                                              clear hva_ hvn_ hvc_ ge431_3 ul431_3
                                              clear hcc431 hce431
                                              have HR431_3 := Aside0.mk hi431_3
                                              have HC431_3 := Aside0.mk hl431_3
                                              clear hi431_3 hl431_3
                                              replace p431 := eq_true p431
                                              replace q431 := eq_true q431
                                              have p432 : 0 ≤ (x11_3 : Int) := of_decide_eq_true (by first | (with_reducible assumption) | assumption)
                                              have q432 : x11_3 < (l0_0.length : Int) := of_decide_eq_true (by first | (with_reducible assumption) | assumption)
                                              obtain ⟨ad432, A432_3, c432_3, e432, hx432_0, hx432_1, hx432_2, hx432_3, hl432_3, hi432_3⟩ := at_T55 HR0_0.out x11_3 p432 q432
                                              have hw432_3 := hx432_3
                                              have hw432_2 := hx432_2
                                              have hw432_1 := hx432_1
                                              have hw432_0 := hx432_0
                                              cases e432
                                              replace hx432_0 := (HB.out.cell (World.block_lt_of_cell? w _ hx432_0)).trans hx432_0
                                              replace hx432_1 := (HB.out.cell (World.block_lt_of_cell? w _ hx432_1)).trans hx432_1
                                              replace hx432_2 := (HB.out.cell (World.block_lt_of_cell? w _ hx432_2)).trans hx432_2
                                              replace hx432_3 := (HB.out.cell (World.block_lt_of_cell? w _ hx432_3)).trans hx432_3
                                              have HR432_3 := Aside0.mk hi432_3
                                              have HC432_3 := Aside0.mk hl432_3
                                              clear hi432_3 hl432_3
                                              replace p432 := eq_true p432
                                              replace q432 := eq_true q432
                                              have p433 : 0 ≤ (x11_3 : Int) := of_decide_eq_true (by first | (with_reducible assumption) | assumption)
                                              have q433 : x11_3 < (t420.length : Int) := of_decide_eq_true (by first | (with_reducible assumption) | assumption)
                                              obtain ⟨ad433, A433_3, c433_3, e433, hx433_0, hx433_1, hx433_2, hx433_3, hl433_3, hi433_3⟩ := at_T55 (Kd.V_reads' HO_427000.out).2.2 x11_3 p433 q433
                                              obtain rfl : ad431 = ad433 := (by injection e433)
                                              obtain ⟨ce433, hce433, hMe433, hcc433⟩ := Kd.V_get HO_427000.out z55 x11_3 p433 (by first | exact q433 | exact of_decide_eq_true (by first | (with_reducible assumption) | assumption) | (have e_ := (Kd.V_reads' HO_427000.out).1; omega))
                                              obtain ⟨ua433_3, uc433_3, rfl, ul433_3, ge433_3⟩ := k55_openF hMe433
                                              have hv433_3 := hcc433 3 _ rfl
                                              rw [add_field _ _ 3 (by omega)] at hv433_3
                                              replace hv433_3 := Option.some.inj (hv433_3.symm.trans hx433_3)
                                              injection hv433_3 with hva_ hvn_ hvc_
                                              rw [hva_] at ge433_3
                                              rw [hvc_] at ul433_3
                                              have HL433_3 := Aside0.mk (show Kd.V k49 49 _ w.heap.size _ _ ((rd_T55 t420 x11_3).f2.f1) from Kd.V_mk ul433_3 ge433_3)
                                              clear hva_ hvn_ hvc_ ge433_3 ul433_3
                                              clear hcc433 hce433
                                              have HR433_3 := Aside0.mk hi433_3
                                              have HC433_3 := Aside0.mk hl433_3
                                              clear hi433_3 hl433_3
                                              replace p433 := eq_true p433
                                              replace q433 := eq_true q433
                                              have ea_ := Option.some.inj (hx431_3.symm.trans hx433_3)
                                              injection ea_ with ea_ en_ ec_
                                              subst ea_
                                              subst ec_
                                              clear en_
                                              have p434 : 0 ≤ (x11_3 : Int) := of_decide_eq_true (by first | (with_reducible assumption) | assumption)
                                              have q434 : x11_3 < (l0_0.length : Int) := of_decide_eq_true (by first | (with_reducible assumption) | assumption)
                                              obtain ⟨ad434, A434_3, c434_3, e434, hx434_0, hx434_1, hx434_2, hx434_3, hl434_3, hi434_3⟩ := at_T55 HR0_0.out x11_3 p434 q434
                                              have hw434_3 := hx434_3
                                              have hw434_2 := hx434_2
                                              have hw434_1 := hx434_1
                                              have hw434_0 := hx434_0
                                              obtain rfl : ad432 = ad434 := (by injection e434)
                                              replace hx434_0 := (HB.out.cell (World.block_lt_of_cell? w _ hx434_0)).trans hx434_0
                                              replace hx434_1 := (HB.out.cell (World.block_lt_of_cell? w _ hx434_1)).trans hx434_1
                                              replace hx434_2 := (HB.out.cell (World.block_lt_of_cell? w _ hx434_2)).trans hx434_2
                                              replace hx434_3 := (HB.out.cell (World.block_lt_of_cell? w _ hx434_3)).trans hx434_3
                                              have HR434_3 := Aside0.mk hi434_3
                                              have HC434_3 := Aside0.mk hl434_3
                                              clear hi434_3 hl434_3
                                              replace p434 := eq_true p434
                                              replace q434 := eq_true q434
                                              have ea_ := Option.some.inj (hx432_3.symm.trans hx434_3)
                                              injection ea_ with ea_ en_ ec_
                                              subst ea_
                                              subst ec_
                                              clear en_
                                              have p435 : 0 ≤ (x11_3 : Int) := of_decide_eq_true (by first | (with_reducible assumption) | assumption)
                                              have q435 : x11_3 < (t420.length : Int) := of_decide_eq_true (by first | (with_reducible assumption) | assumption)
                                              obtain ⟨ad435, A435_3, c435_3, e435, hx435_0, hx435_1, hx435_2, hx435_3, hl435_3, hi435_3⟩ := at_T55 (Kd.V_reads' HO_427000.out).2.2 x11_3 p435 q435
                                              obtain rfl : ad431 = ad435 := (by injection e435)
                                              obtain ⟨ce435, hce435, hMe435, hcc435⟩ := Kd.V_get HO_427000.out z55 x11_3 p435 (by first | exact q435 | exact of_decide_eq_true (by first | (with_reducible assumption) | assumption) | (have e_ := (Kd.V_reads' HO_427000.out).1; omega))
                                              obtain ⟨ua435_3, uc435_3, rfl, ul435_3, ge435_3⟩ := k55_openF hMe435
                                              have hv435_3 := hcc435 3 _ rfl
                                              rw [add_field _ _ 3 (by omega)] at hv435_3
                                              replace hv435_3 := Option.some.inj (hv435_3.symm.trans hx435_3)
                                              injection hv435_3 with hva_ hvn_ hvc_
                                              rw [hva_] at ge435_3
                                              rw [hvc_] at ul435_3
                                              have HL435_3 := Aside0.mk (show Kd.V k49 49 _ w.heap.size _ _ ((rd_T55 t420 x11_3).f2.f1) from Kd.V_mk ul435_3 ge435_3)
                                              clear hva_ hvn_ hvc_ ge435_3 ul435_3
                                              clear hcc435 hce435
                                              have HR435_3 := Aside0.mk hi435_3
                                              have HC435_3 := Aside0.mk hl435_3
                                              clear hi435_3 hl435_3
                                              replace p435 := eq_true p435
                                              replace q435 := eq_true q435
                                              have ea_ := Option.some.inj (hx431_3.symm.trans hx435_3)
                                              injection ea_ with ea_ en_ ec_
                                              subst ea_
                                              subst ec_
                                              clear en_
                                              have p436 : 0 ≤ (x11_3 : Int) := of_decide_eq_true (by first | (with_reducible assumption) | assumption)
                                              have q436 : x11_3 < (l0_0.length : Int) := of_decide_eq_true (by first | (with_reducible assumption) | assumption)
                                              obtain ⟨ad436, A436_3, c436_3, e436, hx436_0, hx436_1, hx436_2, hx436_3, hl436_3, hi436_3⟩ := at_T55 HR0_0.out x11_3 p436 q436
                                              have hw436_3 := hx436_3
                                              have hw436_2 := hx436_2
                                              have hw436_1 := hx436_1
                                              have hw436_0 := hx436_0
                                              obtain rfl : ad432 = ad436 := (by injection e436)
                                              replace hx436_0 := (HB.out.cell (World.block_lt_of_cell? w _ hx436_0)).trans hx436_0
                                              replace hx436_1 := (HB.out.cell (World.block_lt_of_cell? w _ hx436_1)).trans hx436_1
                                              replace hx436_2 := (HB.out.cell (World.block_lt_of_cell? w _ hx436_2)).trans hx436_2
                                              replace hx436_3 := (HB.out.cell (World.block_lt_of_cell? w _ hx436_3)).trans hx436_3
                                              have HR436_3 := Aside0.mk hi436_3
                                              have HC436_3 := Aside0.mk hl436_3
                                              clear hi436_3 hl436_3
                                              replace p436 := eq_true p436
                                              replace q436 := eq_true q436
                                              have ea_ := Option.some.inj (hx432_3.symm.trans hx436_3)
                                              injection ea_ with ea_ en_ ec_
                                              subst ea_
                                              subst ec_
                                              clear en_
                                              refine start_ (n := 51) (S := fun w' => w'.cell? ⟨gb426, 0, none⟩ = some (.slice (some ad431) t420.length co32) ∧ w'.cell? ⟨gb426, 1, none⟩ = some (.int .i64 t423) ∧ w'.cell? ⟨gb416, 0, none⟩ = some (.slice (some ad432) l0_0.length c0_0) ∧ w'.cell? ⟨gb416, 1, none⟩ = some (.int .i64 a0_1) ∧ w'.cell? (ad431.add ((x11_3).toNat * 4)) = some (.int .i64 ((rd_T55 t420 x11_3).f0)) ∧ w'.cell? ⟨(ad431.add ((x11_3).toNat * 4)).block, (ad431.add ((x11_3).toNat * 4)).off + 1, none⟩ = some (.bool ((rd_T55 t420 x11_3).f1)) ∧ w'.cell? ⟨(ad431.add ((x11_3).toNat * 4)).block, (ad431.add ((x11_3).toNat * 4)).off + 2, none⟩ = some (.bool ((rd_T55 t420 x11_3).f2.f0)) ∧ w'.cell? ⟨(ad431.add ((x11_3).toNat * 4)).block, (ad431.add ((x11_3).toNat * 4)).off + 3, none⟩ = some (.slice A431_3 ((rd_T55 t420 x11_3).f2.f1).length c431_3) ∧ w'.cell? (ad432.add ((x11_3).toNat * 4)) = some (.int .i64 ((rd_T55 l0_0 x11_3).f0)) ∧ w'.cell? ⟨(ad432.add ((x11_3).toNat * 4)).block, (ad432.add ((x11_3).toNat * 4)).off + 1, none⟩ = some (.bool ((rd_T55 l0_0 x11_3).f1)) ∧ w'.cell? ⟨(ad432.add ((x11_3).toNat * 4)).block, (ad432.add ((x11_3).toNat * 4)).off + 2, none⟩ = some (.bool ((rd_T55 l0_0 x11_3).f2.f0)) ∧ w'.cell? ⟨(ad432.add ((x11_3).toNat * 4)).block, (ad432.add ((x11_3).toNat * 4)).off + 3, none⟩ = some (.slice A432_3 ((rd_T55 l0_0 x11_3).f2.f1).length c432_3) ∧ w'.cell? (ad431.add ((x11_3).toNat * 4)) = some (.int .i64 ((rd_T55 t420 x11_3).f0)) ∧ w'.cell? ⟨(ad431.add ((x11_3).toNat * 4)).block, (ad431.add ((x11_3).toNat * 4)).off + 1, none⟩ = some (.bool ((rd_T55 t420 x11_3).f1)) ∧ w'.cell? ⟨(ad431.add ((x11_3).toNat * 4)).block, (ad431.add ((x11_3).toNat * 4)).off + 2, none⟩ = some (.bool ((rd_T55 t420 x11_3).f2.f0)) ∧ w'.cell? ⟨(ad431.add ((x11_3).toNat * 4)).block, (ad431.add ((x11_3).toNat * 4)).off + 3, none⟩ = some (.slice A431_3 ((rd_T55 t420 x11_3).f2.f1).length c431_3) ∧ w'.cell? (ad432.add ((x11_3).toNat * 4)) = some (.int .i64 ((rd_T55 l0_0 x11_3).f0)) ∧ w'.cell? ⟨(ad432.add ((x11_3).toNat * 4)).block, (ad432.add ((x11_3).toNat * 4)).off + 1, none⟩ = some (.bool ((rd_T55 l0_0 x11_3).f1)) ∧ w'.cell? ⟨(ad432.add ((x11_3).toNat * 4)).block, (ad432.add ((x11_3).toNat * 4)).off + 2, none⟩ = some (.bool ((rd_T55 l0_0 x11_3).f2.f0)) ∧ w'.cell? ⟨(ad432.add ((x11_3).toNat * 4)).block, (ad432.add ((x11_3).toNat * 4)).off + 3, none⟩ = some (.slice A432_3 ((rd_T55 l0_0 x11_3).f2.f1).length c432_3) ∧ w'.cell? (ad431.add ((x11_3).toNat * 4)) = some (.int .i64 ((rd_T55 t420 x11_3).f0)) ∧ w'.cell? ⟨(ad431.add ((x11_3).toNat * 4)).block, (ad431.add ((x11_3).toNat * 4)).off + 1, none⟩ = some (.bool ((rd_T55 t420 x11_3).f1)) ∧ w'.cell? ⟨(ad431.add ((x11_3).toNat * 4)).block, (ad431.add ((x11_3).toNat * 4)).off + 2, none⟩ = some (.bool ((rd_T55 t420 x11_3).f2.f0)) ∧ w'.cell? ⟨(ad431.add ((x11_3).toNat * 4)).block, (ad431.add ((x11_3).toNat * 4)).off + 3, none⟩ = some (.slice A431_3 ((rd_T55 t420 x11_3).f2.f1).length c431_3) ∧ w'.cell? (ad432.add ((x11_3).toNat * 4)) = some (.int .i64 ((rd_T55 l0_0 x11_3).f0)) ∧ w'.cell? ⟨(ad432.add ((x11_3).toNat * 4)).block, (ad432.add ((x11_3).toNat * 4)).off + 1, none⟩ = some (.bool ((rd_T55 l0_0 x11_3).f1)) ∧ w'.cell? ⟨(ad432.add ((x11_3).toNat * 4)).block, (ad432.add ((x11_3).toNat * 4)).off + 2, none⟩ = some (.bool ((rd_T55 l0_0 x11_3).f2.f0)) ∧ w'.cell? ⟨(ad432.add ((x11_3).toNat * 4)).block, (ad432.add ((x11_3).toNat * 4)).off + 3, none⟩ = some (.slice A432_3 ((rd_T55 l0_0 x11_3).f2.f1).length c432_3)) (ds := []) #[false, false, false, false, false, false, false, false, false, false, false, false, false, false, false, false, false, false, false, false, false, false, false, false, false, false, false, false, false, false, false, false, false, false, false, false, false, false, false, false, false, false, false, false, false, false, false, false, false, false, false] (by kernel_rfl) rfl rfl ⟨(blk_cell BK426.out 0).trans rfl, (blk_cell BK426.out 1).trans rfl, (blk_cell BK416.out 0).trans rfl, (blk_cell BK416.out 1).trans rfl, hx431_0, hx431_1, hx431_2, hx431_3, ((HB.out.cell (World.block_lt_of_cell? w _ hw432_0)).trans hw432_0), ((HB.out.cell (World.block_lt_of_cell? w _ hw432_1)).trans hw432_1), ((HB.out.cell (World.block_lt_of_cell? w _ hw432_2)).trans hw432_2), ((HB.out.cell (World.block_lt_of_cell? w _ hw432_3)).trans hw432_3), hx433_0, hx433_1, hx433_2, hx433_3, ((HB.out.cell (World.block_lt_of_cell? w _ hw434_0)).trans hw434_0), ((HB.out.cell (World.block_lt_of_cell? w _ hw434_1)).trans hw434_1), ((HB.out.cell (World.block_lt_of_cell? w _ hw434_2)).trans hw434_2), ((HB.out.cell (World.block_lt_of_cell? w _ hw434_3)).trans hw434_3), hx435_0, hx435_1, hx435_2, hx435_3, ((HB.out.cell (World.block_lt_of_cell? w _ hw436_0)).trans hw436_0), ((HB.out.cell (World.block_lt_of_cell? w _ hw436_1)).trans hw436_1), ((HB.out.cell (World.block_lt_of_cell? w _ hw436_2)).trans hw436_2), ((HB.out.cell (World.block_lt_of_cell? w _ hw436_3)).trans hw436_3)⟩ (fun hHeld => ?_); refine with_tabW assartlaw05_HeapHeld.tab19 assartlaw05_HeapHeld.bits19 (fun HT_ HW_ => ?_)
                                              generalize wc.drew = w91 at HO_427000 BK416 BK417 BK426 HB HL431_3 HL433_3 HL435_3 HR431_3 HR432_3 HR433_3 HR434_3 HR435_3 HR436_3 hx431_0 hx431_1 hx431_2 hx431_3 hx432_0 hx432_1 hx432_2 hx432_3 hx433_0 hx433_1 hx433_2 hx433_3 hx434_0 hx434_1 hx434_2 hx434_3 hx435_0 hx435_1 hx435_2 hx435_3 hx436_0 hx436_1 hx436_2 hx436_3 hHeld ⊢
                                              refine pure_ (i := 0) (N := some 100) (v := ?_) (a' := ?_) #[true, false, false, false, false, false, false, false, false, false, false, false, false, false, false, false, false, false, false, false, false, false, false, false, false, false, false, false, false, false, false, false, false, false, false, false, false, false, false, false, false, false, false, false, false, false, false, false, false, false, false] rfl rfl (any_of HT_.out (by kernel_rfl)) (fun _ _ _ h => h) (Or.inl ⟨by rfl, ?_⟩) ?_ ?_
                                              rotate_left
                                              · intro w'
                                                go_simp
                                                with_reducible rfl
                                              rotate_left
                                              · simp only [Act.put, List.setIfInBounds_toArray, List.set_cons_zero, List.set_cons_succ, i64_w, i32_w]
                                                rfl
                                              refine pure_ (i := 1) (N := some 101) (v := ?_) (a' := ?_) #[true, true, false, false, false, false, false, false, false, false, false, false, false, false, false, false, false, false, false, false, false, false, false, false, false, false, false, false, false, false, false, false, false, false, false, false, false, false, false, false, false, false, false, false, false, false, false, false, false, false, false] rfl rfl (any_of HT_.out (by kernel_rfl)) (fun _ _ _ h => h) (Or.inl ⟨by rfl, ?_⟩) ?_ ?_
                                              rotate_left
                                              · intro w'
                                                go_simp
                                                with_reducible rfl
                                              rotate_left
                                              · simp only [Act.put, List.setIfInBounds_toArray, List.set_cons_zero, List.set_cons_succ, i64_w, i32_w]
                                                rfl
                                              refine pure_ (i := 2) (N := some 102) (v := ?_) (a' := ?_) #[true, true, true, false, false, false, false, false, false, false, false, false, false, false, false, false, false, false, false, false, false, false, false, false, false, false, false, false, false, false, false, false, false, false, false, false, false, false, false, false, false, false, false, false, false, false, false, false, false, false, false] rfl rfl (any_of HT_.out (by kernel_rfl)) (fun _ _ _ h => h) (Or.inl ⟨by rfl, ?_⟩) ?_ ?_
                                              rotate_left
                                              · intro w'
                                                go_simp
                                                with_reducible rfl
                                              rotate_left
                                              · simp only [Act.put, List.setIfInBounds_toArray, List.set_cons_zero, List.set_cons_succ, i64_w, i32_w]
                                                rfl
                                              refine pure_ (i := 3) (N := some 103) (v := ?_) (a' := ?_) #[true, true, true, true, false, false, false, false, false, false, false, false, false, false, false, false, false, false, false, false, false, false, false, false, false, false, false, false, false, false, false, false, false, false, false, false, false, false, false, false, false, false, false, false, false, false, false, false, false, false, false] rfl rfl (any_of HT_.out (by kernel_rfl)) (fun _ _ _ h => h) (Or.inl ⟨by rfl, ?_⟩) ?_ ?_
                                              rotate_left
                                              · intro w'
                                                go_simp
                                                with_reducible rfl
                                              rotate_left
                                              · simp only [Act.put, List.setIfInBounds_toArray, List.set_cons_zero, List.set_cons_succ, i64_w, i32_w]
                                                rfl
                                              refine pure_ (i := 4) (N := some 104) (v := ?_) (a' := ?_) #[true, true, true, true, true, false, false, false, false, false, false, false, false, false, false, false, false, false, false, false, false, false, false, false, false, false, false, false, false, false, false, false, false, false, false, false, false, false, false, false, false, false, false, false, false, false, false, false, false, false, false] rfl rfl (any_of HT_.out (by kernel_rfl)) (fun _ _ _ h => h) (Or.inl ⟨by rfl, ?_⟩) ?_ ?_
                                              rotate_left
                                              · intro w'
                                                go_simp
                                                with_reducible rfl
                                              rotate_left
                                              · simp only [Act.put, List.setIfInBounds_toArray, List.set_cons_zero, List.set_cons_succ, i64_w, i32_w]
                                                rfl
                                              refine pure_ (i := 6) (N := some 106) (v := ?_) (a' := ?_) #[true, true, true, true, true, false, true, false, false, false, false, false, false, false, false, false, false, false, false, false, false, false, false, false, false, false, false, false, false, false, false, false, false, false, false, false, false, false, false, false, false, false, false, false, false, false, false, false, false, false, false] rfl rfl (any_of HT_.out (by kernel_rfl)) (fun _ _ _ h => h) (Or.inl ⟨by rfl, ?_⟩) ?_ ?_
                                              rotate_left
                                              · intro w'
                                                go_simp
                                                with_reducible rfl
                                              rotate_left
                                              · simp only [Act.put, List.setIfInBounds_toArray, List.set_cons_zero, List.set_cons_succ, i64_w, i32_w]
                                                rfl
                                              refine pure_ (i := 10) (N := some 110) (v := ?_) (a' := ?_) #[true, true, true, true, true, false, true, false, false, false, true, false, false, false, false, false, false, false, false, false, false, false, false, false, false, false, false, false, false, false, false, false, false, false, false, false, false, false, false, false, false, false, false, false, false, false, false, false, false, false, false] rfl rfl (any_of HT_.out (by kernel_rfl)) (fun _ _ _ h => h) (Or.inl ⟨by rfl, ?_⟩) ?_ ?_
                                              rotate_left
                                              · intro w'
                                                go_simp
                                                with_reducible rfl
                                              rotate_left
                                              · simp only [Act.put, List.setIfInBounds_toArray, List.set_cons_zero, List.set_cons_succ, i64_w, i32_w]
                                                rfl
                                              refine pure_ (i := 12) (N := some 112) (v := ?_) (a' := ?_) #[true, true, true, true, true, false, true, false, false, false, true, false, true, false, false, false, false, false, false, false, false, false, false, false, false, false, false, false, false, false, false, false, false, false, false, false, false, false, false, false, false, false, false, false, false, false, false, false, false, false, false] rfl rfl (any_of HT_.out (by kernel_rfl)) (fun _ _ _ h => h) (Or.inl ⟨by rfl, ?_⟩) ?_ ?_
                                              rotate_left
                                              · intro w'
                                                go_simp
                                                with_reducible rfl
                                              rotate_left
                                              · simp only [Act.put, List.setIfInBounds_toArray, List.set_cons_zero, List.set_cons_succ, i64_w, i32_w]
                                                rfl
                                              refine pure_ (i := 16) (N := some 116) (v := ?_) (a' := ?_) #[true, true, true, true, true, false, true, false, false, false, true, false, true, false, false, false, true, false, false, false, false, false, false, false, false, false, false, false, false, false, false, false, false, false, false, false, false, false, false, false, false, false, false, false, false, false, false, false, false, false, false] rfl rfl (any_of HT_.out (by kernel_rfl)) (fun _ _ _ h => h) (Or.inl ⟨by rfl, ?_⟩) ?_ ?_
                                              rotate_left
                                              · intro w'
                                                go_simp
                                                with_reducible rfl
                                              rotate_left
                                              · simp only [Act.put, List.setIfInBounds_toArray, List.set_cons_zero, List.set_cons_succ, i64_w, i32_w]
                                                rfl
                                              refine take_ (i := 5) (N := some 105) (v := ?_) (a' := ?_) #[true, true, true, true, true, true, true, false, false, false, true, false, true, false, false, false, true, false, false, false, false, false, false, false, false, false, false, false, false, false, false, false, false, false, false, false, false, false, false, false, false, false, false, false, false, false, false, false, false, false, false] rfl rfl (take_ofW HT_.out HW_.out (by kernel_rfl)) (fun _ _ _ h => h) (Or.inl ⟨by rfl, ?_⟩) hHeld ?_ ?_
                                              rotate_left
                                              · rintro w' ⟨s0, s1, s2, s3, s4, s5, s6, s7, s8, s9, s10, s11, s12, s13, s14, s15, s16, s17, s18, s19, s20, s21, s22, s23, s24, s25, s26, s27⟩
                                                go_simp
                                                with_reducible rfl
                                              rotate_left
                                              · simp only [Act.put, List.setIfInBounds_toArray, List.set_cons_zero, List.set_cons_succ, i64_w, i32_w]
                                                rfl
                                              refine pure_ (i := 7) (N := some 107) (v := ?_) (a' := ?_) #[true, true, true, true, true, true, true, true, false, false, true, false, true, false, false, false, true, false, false, false, false, false, false, false, false, false, false, false, false, false, false, false, false, false, false, false, false, false, false, false, false, false, false, false, false, false, false, false, false, false, false] rfl rfl (any_of HT_.out (by kernel_rfl)) (fun _ _ _ h => h) (Or.inl ⟨by rfl, ?_⟩) ?_ ?_
                                              rotate_left
                                              · intro w'
                                                go_simp
                                                with_reducible rfl
                                              rotate_left
                                              · simp only [Act.put, List.setIfInBounds_toArray, List.set_cons_zero, List.set_cons_succ, i64_w, i32_w]
                                                rfl
                                              refine pure_ (i := 8) (N := some 108) (v := ?_) (a' := ?_) #[true, true, true, true, true, true, true, true, true, false, true, false, true, false, false, false, true, false, false, false, false, false, false, false, false, false, false, false, false, false, false, false, false, false, false, false, false, false, false, false, false, false, false, false, false, false, false, false, false, false, false] rfl rfl (any_of HT_.out (by kernel_rfl)) (fun _ _ _ h => h) (Or.inl ⟨by rfl, ?_⟩) ?_ ?_
                                              rotate_left
                                              · intro w'
                                                go_simp
                                                with_reducible rfl
                                              rotate_left
                                              · simp only [Act.put, List.setIfInBounds_toArray, List.set_cons_zero, List.set_cons_succ, i64_w, i32_w]
                                                rfl
                                              refine take_ (i := 9) (N := some 109) (v := ?_) (a' := ?_) #[true, true, true, true, true, true, true, true, true, true, true, false, true, false, false, false, true, false, false, false, false, false, false, false, false, false, false, false, false, false, false, false, false, false, false, false, false, false, false, false, false, false, false, false, false, false, false, false, false, false, false] rfl rfl (take_ofW HT_.out HW_.out (by kernel_rfl)) (fun _ _ _ h => h) (Or.inl ⟨by rfl, ?_⟩) hHeld ?_ ?_
                                              rotate_left
                                              · rintro w' ⟨s0, s1, s2, s3, s4, s5, s6, s7, s8, s9, s10, s11, s12, s13, s14, s15, s16, s17, s18, s19, s20, s21, s22, s23, s24, s25, s26, s27⟩
                                                go_simp
                                                with_reducible rfl
                                              rotate_left
                                              · simp only [Act.put, List.setIfInBounds_toArray, List.set_cons_zero, List.set_cons_succ, i64_w, i32_w]
                                                rfl
                                              refine take_ (i := 11) (N := some 111) (v := ?_) (a' := ?_) #[true, true, true, true, true, true, true, true, true, true, true, true, true, false, false, false, true, false, false, false, false, false, false, false, false, false, false, false, false, false, false, false, false, false, false, false, false, false, false, false, false, false, false, false, false, false, false, false, false, false, false] rfl rfl (take_ofW HT_.out HW_.out (by kernel_rfl)) (fun _ _ _ h => h) (Or.inl ⟨by rfl, ?_⟩) hHeld ?_ ?_
                                              rotate_left
                                              · rintro w' ⟨s0, s1, s2, s3, s4, s5, s6, s7, s8, s9, s10, s11, s12, s13, s14, s15, s16, s17, s18, s19, s20, s21, s22, s23, s24, s25, s26, s27⟩
                                                go_simp
                                                with_reducible rfl
                                              rotate_left
                                              · simp only [Act.put, List.setIfInBounds_toArray, List.set_cons_zero, List.set_cons_succ, i64_w, i32_w]
                                                rfl
                                              refine pure_ (i := 13) (N := some 113) (v := ?_) (a' := ?_) #[true, true, true, true, true, true, true, true, true, true, true, true, true, true, false, false, true, false, false, false, false, false, false, false, false, false, false, false, false, false, false, false, false, false, false, false, false, false, false, false, false, false, false, false, false, false, false, false, false, false, false] rfl rfl (any_of HT_.out (by kernel_rfl)) (fun _ _ _ h => h) (Or.inl ⟨by rfl, ?_⟩) ?_ ?_
                                              rotate_left
                                              · intro w'
                                                go_simp
                                                with_reducible rfl
                                              rotate_left
                                              · simp only [Act.put, List.setIfInBounds_toArray, List.set_cons_zero, List.set_cons_succ, i64_w, i32_w]
                                                rfl
                                              refine pure_ (i := 14) (N := some 114) (v := ?_) (a' := ?_) #[true, true, true, true, true, true, true, true, true, true, true, true, true, true, true, false, true, false, false, false, false, false, false, false, false, false, false, false, false, false, false, false, false, false, false, false, false, false, false, false, false, false, false, false, false, false, false, false, false, false, false] rfl rfl (any_of HT_.out (by kernel_rfl)) (fun _ _ _ h => h) (Or.inl ⟨by rfl, ?_⟩) ?_ ?_
                                              rotate_left
                                              · intro w'
                                                go_simp
                                                with_reducible rfl
                                              rotate_left
                                              · simp only [Act.put, List.setIfInBounds_toArray, List.set_cons_zero, List.set_cons_succ, i64_w, i32_w]
                                                rfl
                                              refine take_ (i := 15) (N := some 115) (v := ?_) (a' := ?_) #[true, true, true, true, true, true, true, true, true, true, true, true, true, true, true, true, true, false, false, false, false, false, false, false, false, false, false, false, false, false, false, false, false, false, false, false, false, false, false, false, false, false, false, false, false, false, false, false, false, false, false] rfl rfl (take_ofW HT_.out HW_.out (by kernel_rfl)) (fun _ _ _ h => h) (Or.inl ⟨by rfl, ?_⟩) hHeld ?_ ?_
                                              rotate_left
                                              · rintro w' ⟨s0, s1, s2, s3, s4, s5, s6, s7, s8, s9, s10, s11, s12, s13, s14, s15, s16, s17, s18, s19, s20, s21, s22, s23, s24, s25, s26, s27⟩
                                                go_simp
                                                with_reducible rfl
                                              rotate_left
                                              · simp only [Act.put, List.setIfInBounds_toArray, List.set_cons_zero, List.set_cons_succ, i64_w, i32_w]
                                                rfl
                                              refine pure_ (i := 17) (N := some 117) (v := ?_) (a' := ?_) #[true, true, true, true, true, true, true, true, true, true, true, true, true, true, true, true, true, true, false, false, false, false, false, false, false, false, false, false, false, false, false, false, false, false, false, false, false, false, false, false, false, false, false, false, false, false, false, false, false, false, false] rfl rfl (any_of HT_.out (by kernel_rfl)) (fun _ _ _ h => h) (Or.inl ⟨by rfl, ?_⟩) ?_ ?_
                                              rotate_left
                                              · intro w'
                                                go_simp
                                                with_reducible rfl
                                              rotate_left
                                              · simp only [Act.put, List.setIfInBounds_toArray, List.set_cons_zero, List.set_cons_succ, i64_w, i32_w]
                                                rfl
                                              refine pure_ (i := 18) (N := some 118) (v := ?_) (a' := ?_) #[true, true, true, true, true, true, true, true, true, true, true, true, true, true, true, true, true, true, true, false, false, false, false, false, false, false, false, false, false, false, false, false, false, false, false, false, false, false, false, false, false, false, false, false, false, false, false, false, false, false, false] rfl rfl (any_of HT_.out (by kernel_rfl)) (fun _ _ _ h => h) (Or.inl ⟨by rfl, ?_⟩) ?_ ?_
                                              rotate_left
                                              · intro w'
                                                go_simp
                                                with_reducible rfl
                                              rotate_left
                                              · simp only [Act.put, List.setIfInBounds_toArray, List.set_cons_zero, List.set_cons_succ, i64_w, i32_w]
                                                rfl
                                              refine pure_ (i := 19) (N := some 119) (v := ?_) (a' := ?_) #[true, true, true, true, true, true, true, true, true, true, true, true, true, true, true, true, true, true, true, true, false, false, false, false, false, false, false, false, false, false, false, false, false, false, false, false, false, false, false, false, false, false, false, false, false, false, false, false, false, false, false] rfl rfl (any_of HT_.out (by kernel_rfl)) (fun _ _ _ h => h) (Or.inl ⟨by rfl, ?_⟩) ?_ ?_
                                              rotate_left
                                              · intro w'
                                                go_simp
                                                with_reducible rfl
                                              rotate_left
                                              · simp only [Act.put, List.setIfInBounds_toArray, List.set_cons_zero, List.set_cons_succ, i64_w, i32_w]
                                                rfl
                                              refine pure_ (i := 20) (N := some 120) (v := ?_) (a' := ?_) #[true, true, true, true, true, true, true, true, true, true, true, true, true, true, true, true, true, true, true, true, true, false, false, false, false, false, false, false, false, false, false, false, false, false, false, false, false, false, false, false, false, false, false, false, false, false, false, false, false, false, false] rfl rfl (any_of HT_.out (by kernel_rfl)) (fun _ _ _ h => h) (Or.inl ⟨by rfl, ?_⟩) ?_ ?_
                                              rotate_left
                                              · intro w'
                                                go_simp
                                                with_reducible rfl
                                              rotate_left
                                              · simp only [Act.put, List.setIfInBounds_toArray, List.set_cons_zero, List.set_cons_succ, i64_w, i32_w]
                                                rfl
                                              refine pure_ (i := 22) (N := some 122) (v := ?_) (a' := ?_) #[true, true, true, true, true, true, true, true, true, true, true, true, true, true, true, true, true, true, true, true, true, false, true, false, false, false, false, false, false, false, false, false, false, false, false, false, false, false, false, false, false, false, false, false, false, false, false, false, false, false, false] rfl rfl (any_of HT_.out (by kernel_rfl)) (fun _ _ _ h => h) (Or.inl ⟨by rfl, ?_⟩) ?_ ?_
                                              rotate_left
                                              · intro w'
                                                go_simp
                                                with_reducible rfl
                                              rotate_left
                                              · simp only [Act.put, List.setIfInBounds_toArray, List.set_cons_zero, List.set_cons_succ, i64_w, i32_w]
                                                rfl
                                              refine pure_ (i := 26) (N := some 126) (v := ?_) (a' := ?_) #[true, true, true, true, true, true, true, true, true, true, true, true, true, true, true, true, true, true, true, true, true, false, true, false, false, false, true, false, false, false, false, false, false, false, false, false, false, false, false, false, false, false, false, false, false, false, false, false, false, false, false] rfl rfl (any_of HT_.out (by kernel_rfl)) (fun _ _ _ h => h) (Or.inl ⟨by rfl, ?_⟩) ?_ ?_
                                              rotate_left
                                              · intro w'
                                                go_simp
                                                with_reducible rfl
                                              rotate_left
                                              · simp only [Act.put, List.setIfInBounds_toArray, List.set_cons_zero, List.set_cons_succ, i64_w, i32_w]
                                                rfl
                                              refine pure_ (i := 28) (N := some 128) (v := ?_) (a' := ?_) #[true, true, true, true, true, true, true, true, true, true, true, true, true, true, true, true, true, true, true, true, true, false, true, false, false, false, true, false, true, false, false, false, false, false, false, false, false, false, false, false, false, false, false, false, false, false, false, false, false, false, false] rfl rfl (any_of HT_.out (by kernel_rfl)) (fun _ _ _ h => h) (Or.inl ⟨by rfl, ?_⟩) ?_ ?_
                                              rotate_left
                                              · intro w'
                                                go_simp
                                                with_reducible rfl
                                              rotate_left
                                              · simp only [Act.put, List.setIfInBounds_toArray, List.set_cons_zero, List.set_cons_succ, i64_w, i32_w]
                                                rfl
                                              refine take_ (i := 21) (N := some 121) (v := ?_) (a' := ?_) #[true, true, true, true, true, true, true, true, true, true, true, true, true, true, true, true, true, true, true, true, true, true, true, false, false, false, true, false, true, false, false, false, false, false, false, false, false, false, false, false, false, false, false, false, false, false, false, false, false, false, false] rfl rfl (take_ofW HT_.out HW_.out (by kernel_rfl)) (fun _ _ _ h => h) (Or.inl ⟨by rfl, ?_⟩) hHeld ?_ ?_
                                              rotate_left
                                              · rintro w' ⟨s0, s1, s2, s3, s4, s5, s6, s7, s8, s9, s10, s11, s12, s13, s14, s15, s16, s17, s18, s19, s20, s21, s22, s23, s24, s25, s26, s27⟩
                                                go_simp
                                                with_reducible rfl
                                              rotate_left
                                              · simp only [Act.put, List.setIfInBounds_toArray, List.set_cons_zero, List.set_cons_succ, i64_w, i32_w]
                                                rfl
                                              refine pure_ (i := 23) (N := some 123) (v := ?_) (a' := ?_) #[true, true, true, true, true, true, true, true, true, true, true, true, true, true, true, true, true, true, true, true, true, true, true, true, false, false, true, false, true, false, false, false, false, false, false, false, false, false, false, false, false, false, false, false, false, false, false, false, false, false, false] rfl rfl (any_of HT_.out (by kernel_rfl)) (fun _ _ _ h => h) (Or.inl ⟨by rfl, ?_⟩) ?_ ?_
                                              rotate_left
                                              · intro w'
                                                go_simp
                                                with_reducible rfl
                                              rotate_left
                                              · simp only [Act.put, List.setIfInBounds_toArray, List.set_cons_zero, List.set_cons_succ, i64_w, i32_w]
                                                rfl
                                              refine pure_ (i := 24) (N := some 124) (v := ?_) (a' := ?_) #[true, true, true, true, true, true, true, true, true, true, true, true, true, true, true, true, true, true, true, true, true, true, true, true, true, false, true, false, true, false, false, false, false, false, false, false, false, false, false, false, false, false, false, false, false, false, false, false, false, false, false] rfl rfl (any_of HT_.out (by kernel_rfl)) (fun _ _ _ h => h) (Or.inl ⟨by rfl, ?_⟩) ?_ ?_
                                              rotate_left
                                              · intro w'
                                                go_simp
                                                with_reducible rfl
                                              rotate_left
                                              · simp only [Act.put, List.setIfInBounds_toArray, List.set_cons_zero, List.set_cons_succ, i64_w, i32_w]
                                                rfl
                                              refine take_ (i := 25) (N := some 125) (v := ?_) (a' := ?_) #[true, true, true, true, true, true, true, true, true, true, true, true, true, true, true, true, true, true, true, true, true, true, true, true, true, true, true, false, true, false, false, false, false, false, false, false, false, false, false, false, false, false, false, false, false, false, false, false, false, false, false] rfl rfl (take_ofW HT_.out HW_.out (by kernel_rfl)) (fun _ _ _ h => h) (Or.inl ⟨by rfl, ?_⟩) hHeld ?_ ?_
                                              rotate_left
                                              · rintro w' ⟨s0, s1, s2, s3, s4, s5, s6, s7, s8, s9, s10, s11, s12, s13, s14, s15, s16, s17, s18, s19, s20, s21, s22, s23, s24, s25, s26, s27⟩
                                                go_simp
                                                with_reducible rfl
                                              rotate_left
                                              · simp only [Act.put, List.setIfInBounds_toArray, List.set_cons_zero, List.set_cons_succ, i64_w, i32_w]
                                                rfl
                                              refine take_ (i := 27) (N := some 127) (v := ?_) (a' := ?_) #[true, true, true, true, true, true, true, true, true, true, true, true, true, true, true, true, true, true, true, true, true, true, true, true, true, true, true, true, true, false, false, false, false, false, false, false, false, false, false, false, false, false, false, false, false, false, false, false, false, false, false] rfl rfl (take_ofW HT_.out HW_.out (by kernel_rfl)) (fun _ _ _ h => h) (Or.inl ⟨by rfl, ?_⟩) hHeld ?_ ?_
                                              rotate_left
                                              · rintro w' ⟨s0, s1, s2, s3, s4, s5, s6, s7, s8, s9, s10, s11, s12, s13, s14, s15, s16, s17, s18, s19, s20, s21, s22, s23, s24, s25, s26, s27⟩
                                                go_simp
                                                with_reducible rfl
                                              rotate_left
                                              · simp only [Act.put, List.setIfInBounds_toArray, List.set_cons_zero, List.set_cons_succ, i64_w, i32_w]
                                                rfl
                                              refine pure_ (i := 29) (N := some 129) (v := ?_) (a' := ?_) #[true, true, true, true, true, true, true, true, true, true, true, true, true, true, true, true, true, true, true, true, true, true, true, true, true, true, true, true, true, true, false, false, false, false, false, false, false, false, false, false, false, false, false, false, false, false, false, false, false, false, false] rfl rfl (any_of HT_.out (by kernel_rfl)) (fun _ _ _ h => h) (Or.inl ⟨by rfl, ?_⟩) ?_ ?_
                                              rotate_left
                                              · intro w'
                                                go_simp
                                                with_reducible rfl
                                              rotate_left
                                              · simp only [Act.put, List.setIfInBounds_toArray, List.set_cons_zero, List.set_cons_succ, i64_w, i32_w]
                                                rfl
                                              refine pure_ (i := 30) (N := some 130) (v := ?_) (a' := ?_) #[true, true, true, true, true, true, true, true, true, true, true, true, true, true, true, true, true, true, true, true, true, true, true, true, true, true, true, true, true, true, true, false, false, false, false, false, false, false, false, false, false, false, false, false, false, false, false, false, false, false, false] rfl rfl (any_of HT_.out (by kernel_rfl)) (fun _ _ _ h => h) (Or.inl ⟨by rfl, ?_⟩) ?_ ?_
                                              rotate_left
                                              · intro w'
                                                go_simp
                                                with_reducible rfl
                                              rotate_left
                                              · simp only [Act.put, List.setIfInBounds_toArray, List.set_cons_zero, List.set_cons_succ, i64_w, i32_w]
                                                rfl
                                              refine take_ (i := 31) (N := some 131) (v := ?_) (a' := ?_) #[true, true, true, true, true, true, true, true, true, true, true, true, true, true, true, true, true, true, true, true, true, true, true, true, true, true, true, true, true, true, true, true, false, false, false, false, false, false, false, false, false, false, false, false, false, false, false, false, false, false, false] rfl rfl (take_ofW HT_.out HW_.out (by kernel_rfl)) (fun _ _ _ h => h) (Or.inl ⟨by rfl, ?_⟩) hHeld ?_ ?_
                                              rotate_left
                                              · rintro w' ⟨s0, s1, s2, s3, s4, s5, s6, s7, s8, s9, s10, s11, s12, s13, s14, s15, s16, s17, s18, s19, s20, s21, s22, s23, s24, s25, s26, s27⟩
                                                go_simp
                                                with_reducible rfl
                                              rotate_left
                                              · simp only [Act.put, List.setIfInBounds_toArray, List.set_cons_zero, List.set_cons_succ, i64_w, i32_w]
                                                rfl
                                              refine pure_ (i := 32) (N := some 132) (v := ?_) (a' := ?_) #[true, true, true, true, true, true, true, true, true, true, true, true, true, true, true, true, true, true, true, true, true, true, true, true, true, true, true, true, true, true, true, true, true, false, false, false, false, false, false, false, false, false, false, false, false, false, false, false, false, false, false] rfl rfl (any_of HT_.out (by kernel_rfl)) (fun _ _ _ h => h) (Or.inl ⟨by rfl, ?_⟩) ?_ ?_
                                              rotate_left
                                              · intro w'
                                                go_simp
                                                with_reducible rfl
                                              rotate_left
                                              · simp only [Act.put, List.setIfInBounds_toArray, List.set_cons_zero, List.set_cons_succ, i64_w, i32_w]
                                                rfl
                                              refine pure_ (i := 33) (N := some 133) (v := ?_) (a' := ?_) #[true, true, true, true, true, true, true, true, true, true, true, true, true, true, true, true, true, true, true, true, true, true, true, true, true, true, true, true, true, true, true, true, true, true, false, false, false, false, false, false, false, false, false, false, false, false, false, false, false, false, false] rfl rfl (any_of HT_.out (by kernel_rfl)) (fun _ _ _ h => h) (Or.inl ⟨by rfl, ?_⟩) ?_ ?_
                                              rotate_left
                                              · intro w'
                                                go_simp
                                                with_reducible rfl
                                              rotate_left
                                              · simp only [Act.put, List.setIfInBounds_toArray, List.set_cons_zero, List.set_cons_succ, i64_w, i32_w]
                                                rfl
                                              refine pure_ (i := 34) (N := some 134) (v := ?_) (a' := ?_) #[true, true, true, true, true, true, true, true, true, true, true, true, true, true, true, true, true, true, true, true, true, true, true, true, true, true, true, true, true, true, true, true, true, true, true, false, false, false, false, false, false, false, false, false, false, false, false, false, false, false, false] rfl rfl (any_of HT_.out (by kernel_rfl)) (fun _ _ _ h => h) (Or.inl ⟨by rfl, ?_⟩) ?_ ?_
                                              rotate_left
                                              · intro w'
                                                go_simp
                                                with_reducible rfl
                                              rotate_left
                                              · simp only [Act.put, List.setIfInBounds_toArray, List.set_cons_zero, List.set_cons_succ, i64_w, i32_w]
                                                rfl
                                              refine pure_ (i := 35) (N := some 135) (v := ?_) (a' := ?_) #[true, true, true, true, true, true, true, true, true, true, true, true, true, true, true, true, true, true, true, true, true, true, true, true, true, true, true, true, true, true, true, true, true, true, true, true, false, false, false, false, false, false, false, false, false, false, false, false, false, false, false] rfl rfl (any_of HT_.out (by kernel_rfl)) (fun _ _ _ h => h) (Or.inl ⟨by rfl, ?_⟩) ?_ ?_
                                              rotate_left
                                              · intro w'
                                                go_simp
                                                with_reducible rfl
                                              rotate_left
                                              · simp only [Act.put, List.setIfInBounds_toArray, List.set_cons_zero, List.set_cons_succ, i64_w, i32_w]
                                                rfl
                                              refine pure_ (i := 37) (N := some 137) (v := ?_) (a' := ?_) #[true, true, true, true, true, true, true, true, true, true, true, true, true, true, true, true, true, true, true, true, true, true, true, true, true, true, true, true, true, true, true, true, true, true, true, true, false, true, false, false, false, false, false, false, false, false, false, false, false, false, false] rfl rfl (any_of HT_.out (by kernel_rfl)) (fun _ _ _ h => h) (Or.inl ⟨by rfl, ?_⟩) ?_ ?_
                                              rotate_left
                                              · intro w'
                                                go_simp
                                                with_reducible rfl
                                              rotate_left
                                              · simp only [Act.put, List.setIfInBounds_toArray, List.set_cons_zero, List.set_cons_succ, i64_w, i32_w]
                                                rfl
                                              refine pure_ (i := 41) (N := some 141) (v := ?_) (a' := ?_) #[true, true, true, true, true, true, true, true, true, true, true, true, true, true, true, true, true, true, true, true, true, true, true, true, true, true, true, true, true, true, true, true, true, true, true, true, false, true, false, false, false, true, false, false, false, false, false, false, false, false, false] rfl rfl (any_of HT_.out (by kernel_rfl)) (fun _ _ _ h => h) (Or.inl ⟨by rfl, ?_⟩) ?_ ?_
                                              rotate_left
                                              · intro w'
                                                go_simp
                                                with_reducible rfl
                                              rotate_left
                                              · simp only [Act.put, List.setIfInBounds_toArray, List.set_cons_zero, List.set_cons_succ, i64_w, i32_w]
                                                rfl
                                              refine pure_ (i := 43) (N := some 143) (v := ?_) (a' := ?_) #[true, true, true, true, true, true, true, true, true, true, true, true, true, true, true, true, true, true, true, true, true, true, true, true, true, true, true, true, true, true, true, true, true, true, true, true, false, true, false, false, false, true, false, true, false, false, false, false, false, false, false] rfl rfl (any_of HT_.out (by kernel_rfl)) (fun _ _ _ h => h) (Or.inl ⟨by rfl, ?_⟩) ?_ ?_
                                              rotate_left
                                              · intro w'
                                                go_simp
                                                with_reducible rfl
                                              rotate_left
                                              · simp only [Act.put, List.setIfInBounds_toArray, List.set_cons_zero, List.set_cons_succ, i64_w, i32_w]
                                                rfl
                                              refine take_ (i := 36) (N := some 136) (v := ?_) (a' := ?_) #[true, true, true, true, true, true, true, true, true, true, true, true, true, true, true, true, true, true, true, true, true, true, true, true, true, true, true, true, true, true, true, true, true, true, true, true, true, true, false, false, false, true, false, true, false, false, false, false, false, false, false] rfl rfl (take_ofW HT_.out HW_.out (by kernel_rfl)) (fun _ _ _ h => h) (Or.inl ⟨by rfl, ?_⟩) hHeld ?_ ?_
                                              rotate_left
                                              · rintro w' ⟨s0, s1, s2, s3, s4, s5, s6, s7, s8, s9, s10, s11, s12, s13, s14, s15, s16, s17, s18, s19, s20, s21, s22, s23, s24, s25, s26, s27⟩
                                                go_simp
                                                with_reducible rfl
                                              rotate_left
                                              · simp only [Act.put, List.setIfInBounds_toArray, List.set_cons_zero, List.set_cons_succ, i64_w, i32_w]
                                                rfl
                                              refine pure_ (i := 38) (N := some 138) (v := ?_) (a' := ?_) #[true, true, true, true, true, true, true, true, true, true, true, true, true, true, true, true, true, true, true, true, true, true, true, true, true, true, true, true, true, true, true, true, true, true, true, true, true, true, true, false, false, true, false, true, false, false, false, false, false, false, false] rfl rfl (any_of HT_.out (by kernel_rfl)) (fun _ _ _ h => h) (Or.inl ⟨by rfl, ?_⟩) ?_ ?_
                                              rotate_left
                                              · intro w'
                                                go_simp
                                                with_reducible rfl
                                              rotate_left
                                              · simp only [Act.put, List.setIfInBounds_toArray, List.set_cons_zero, List.set_cons_succ, i64_w, i32_w]
                                                rfl
                                              refine pure_ (i := 39) (N := some 139) (v := ?_) (a' := ?_) #[true, true, true, true, true, true, true, true, true, true, true, true, true, true, true, true, true, true, true, true, true, true, true, true, true, true, true, true, true, true, true, true, true, true, true, true, true, true, true, true, false, true, false, true, false, false, false, false, false, false, false] rfl rfl (any_of HT_.out (by kernel_rfl)) (fun _ _ _ h => h) (Or.inl ⟨by rfl, ?_⟩) ?_ ?_
                                              rotate_left
                                              · intro w'
                                                go_simp
                                                with_reducible rfl
                                              rotate_left
                                              · simp only [Act.put, List.setIfInBounds_toArray, List.set_cons_zero, List.set_cons_succ, i64_w, i32_w]
                                                rfl
                                              refine take_ (i := 40) (N := some 140) (v := ?_) (a' := ?_) #[true, true, true, true, true, true, true, true, true, true, true, true, true, true, true, true, true, true, true, true, true, true, true, true, true, true, true, true, true, true, true, true, true, true, true, true, true, true, true, true, true, true, false, true, false, false, false, false, false, false, false] rfl rfl (take_ofW HT_.out HW_.out (by kernel_rfl)) (fun _ _ _ h => h) (Or.inl ⟨by rfl, ?_⟩) hHeld ?_ ?_
                                              rotate_left
                                              · rintro w' ⟨s0, s1, s2, s3, s4, s5, s6, s7, s8, s9, s10, s11, s12, s13, s14, s15, s16, s17, s18, s19, s20, s21, s22, s23, s24, s25, s26, s27⟩
                                                go_simp
                                                with_reducible rfl
                                              rotate_left
                                              · simp only [Act.put, List.setIfInBounds_toArray, List.set_cons_zero, List.set_cons_succ, i64_w, i32_w]
                                                rfl
                                              refine take_ (i := 42) (N := some 142) (v := ?_) (a' := ?_) #[true, true, true, true, true, true, true, true, true, true, true, true, true, true, true, true, true, true, true, true, true, true, true, true, true, true, true, true, true, true, true, true, true, true, true, true, true, true, true, true, true, true, true, true, false, false, false, false, false, false, false] rfl rfl (take_ofW HT_.out HW_.out (by kernel_rfl)) (fun _ _ _ h => h) (Or.inl ⟨by rfl, ?_⟩) hHeld ?_ ?_
                                              rotate_left
                                              · rintro w' ⟨s0, s1, s2, s3, s4, s5, s6, s7, s8, s9, s10, s11, s12, s13, s14, s15, s16, s17, s18, s19, s20, s21, s22, s23, s24, s25, s26, s27⟩
                                                go_simp
                                                with_reducible rfl
                                              rotate_left
                                              · simp only [Act.put, List.setIfInBounds_toArray, List.set_cons_zero, List.set_cons_succ, i64_w, i32_w]
                                                rfl
                                              refine pure_ (i := 44) (N := some 144) (v := ?_) (a' := ?_) #[true, true, true, true, true, true, true, true, true, true, true, true, true, true, true, true, true, true, true, true, true, true, true, true, true, true, true, true, true, true, true, true, true, true, true, true, true, true, true, true, true, true, true, true, true, false, false, false, false, false, false] rfl rfl (any_of HT_.out (by kernel_rfl)) (fun _ _ _ h => h) (Or.inl ⟨by rfl, ?_⟩) ?_ ?_
                                              rotate_left
                                              · intro w'
                                                go_simp
                                                with_reducible rfl
                                              rotate_left
                                              · simp only [Act.put, List.setIfInBounds_toArray, List.set_cons_zero, List.set_cons_succ, i64_w, i32_w]
                                                rfl
                                              refine pure_ (i := 45) (N := some 145) (v := ?_) (a' := ?_) #[true, true, true, true, true, true, true, true, true, true, true, true, true, true, true, true, true, true, true, true, true, true, true, true, true, true, true, true, true, true, true, true, true, true, true, true, true, true, true, true, true, true, true, true, true, true, false, false, false, false, false] rfl rfl (any_of HT_.out (by kernel_rfl)) (fun _ _ _ h => h) (Or.inl ⟨by rfl, ?_⟩) ?_ ?_
                                              rotate_left
                                              · intro w'
                                                go_simp
                                                with_reducible rfl
                                              rotate_left
                                              · simp only [Act.put, List.setIfInBounds_toArray, List.set_cons_zero, List.set_cons_succ, i64_w, i32_w]
                                                rfl
                                              refine take_ (i := 46) (N := some 146) (v := ?_) (a' := ?_) #[true, true, true, true, true, true, true, true, true, true, true, true, true, true, true, true, true, true, true, true, true, true, true, true, true, true, true, true, true, true, true, true, true, true, true, true, true, true, true, true, true, true, true, true, true, true, true, false, false, false, false] rfl rfl (take_ofW HT_.out HW_.out (by kernel_rfl)) (fun _ _ _ h => h) (Or.inl ⟨by rfl, ?_⟩) hHeld ?_ ?_
                                              rotate_left
                                              · rintro w' ⟨s0, s1, s2, s3, s4, s5, s6, s7, s8, s9, s10, s11, s12, s13, s14, s15, s16, s17, s18, s19, s20, s21, s22, s23, s24, s25, s26, s27⟩
                                                go_simp
                                                with_reducible rfl
                                              rotate_left
                                              · simp only [Act.put, List.setIfInBounds_toArray, List.set_cons_zero, List.set_cons_succ, i64_w, i32_w]
                                                rfl
                                              refine one_ (i := 47) (N := some 147) #[true, true, true, true, true, true, true, true, true, true, true, true, true, true, true, true, true, true, true, true, true, true, true, true, true, true, true, true, true, true, true, true, true, true, true, true, true, true, true, true, true, true, true, true, true, true, true, true, false, false, false] rfl rfl (one_of HT_.out (by kernel_rfl)) (by decide) (fun K hK => ?_)
                                              refine goes_ Try.func53 (by kernel_rfl) rfl #[.agg #[.bool ((rd_T55 t420 x11_3).f2.f0), .slice A431_3 ((rd_T55 t420 x11_3).f2.f1).length c431_3], .agg #[.bool ((rd_T55 l0_0 x11_3).f2.f0), .slice A432_3 ((rd_T55 l0_0 x11_3).f2.f1).length c432_3]] (by rfl) rfl rfl (by (try simp only [List.map_toArray, List.map_cons, List.map_nil]); first | done | rfl | (simp only [List.length_drop, List.length_take]; rfl)) ?_
                                              with_reducible refine (assartref04_Same.calls kj58 ((rd_T55 t420 x11_3).f2.f0) _ _ ((rd_T55 t420 x11_3).f2.f1) ((rd_T55 l0_0 x11_3).f2.f0) _ _ ((rd_T55 l0_0 x11_3).f2.f1) true _ ?side1 ?side2 ?side3 ?side4 A89.out).mono ?_
                                              (case side1 => repeat (first | exact (by repeat (first | (with_reducible exact HR435_3.out) | (with_reducible refine Kd.C_alloc ?_ _) | (with_reducible refine Kd.C_drewN ?_ _) | (with_reducible refine Kd.C_drew ?_) | exact HR435_3.out)) | (with_reducible refine Kd.C_alloc ?_ _) | (with_reducible refine Kd.C_drewN ?_ _) | (with_reducible refine Kd.C_drew ?_)))
                                              (case side2 => exact HC435_3.out)
                                              (case side3 => repeat (first | exact (Kd.C_below HR436_3.out HB.out) | (with_reducible refine Kd.C_alloc ?_ _) | (with_reducible refine Kd.C_drewN ?_ _) | (with_reducible refine Kd.C_drew ?_)))
                                              (case side4 => exact HC436_3.out)
                                              rintro e w92 ⟨rfl, hb⟩
                                              have HS4_ := (hb.cell (World.block_lt_of_cell? _ _ (hHeld.2.2.2.2.1))).trans (hHeld.2.2.2.2.1)
                                              have HS5_ := (hb.cell (World.block_lt_of_cell? _ _ (hHeld.2.2.2.2.2.1))).trans (hHeld.2.2.2.2.2.1)
                                              have HS6_ := (hb.cell (World.block_lt_of_cell? _ _ (hHeld.2.2.2.2.2.2.1))).trans (hHeld.2.2.2.2.2.2.1)
                                              have HS7_ := (hb.cell (World.block_lt_of_cell? _ _ (hHeld.2.2.2.2.2.2.2.1))).trans (hHeld.2.2.2.2.2.2.2.1)
                                              have HS12_ := (hb.cell (World.block_lt_of_cell? _ _ (hHeld.2.2.2.2.2.2.2.2.2.2.2.2.1))).trans (hHeld.2.2.2.2.2.2.2.2.2.2.2.2.1)
                                              have HS13_ := (hb.cell (World.block_lt_of_cell? _ _ (hHeld.2.2.2.2.2.2.2.2.2.2.2.2.2.1))).trans (hHeld.2.2.2.2.2.2.2.2.2.2.2.2.2.1)
                                              have HS14_ := (hb.cell (World.block_lt_of_cell? _ _ (hHeld.2.2.2.2.2.2.2.2.2.2.2.2.2.2.1))).trans (hHeld.2.2.2.2.2.2.2.2.2.2.2.2.2.2.1)
                                              have HS15_ := (hb.cell (World.block_lt_of_cell? _ _ (hHeld.2.2.2.2.2.2.2.2.2.2.2.2.2.2.2.1))).trans (hHeld.2.2.2.2.2.2.2.2.2.2.2.2.2.2.2.1)
                                              have HS20_ := (hb.cell (World.block_lt_of_cell? _ _ (hHeld.2.2.2.2.2.2.2.2.2.2.2.2.2.2.2.2.2.2.2.2.1))).trans (hHeld.2.2.2.2.2.2.2.2.2.2.2.2.2.2.2.2.2.2.2.2.1)
                                              have HS21_ := (hb.cell (World.block_lt_of_cell? _ _ (hHeld.2.2.2.2.2.2.2.2.2.2.2.2.2.2.2.2.2.2.2.2.2.1))).trans (hHeld.2.2.2.2.2.2.2.2.2.2.2.2.2.2.2.2.2.2.2.2.2.1)
                                              have HS22_ := (hb.cell (World.block_lt_of_cell? _ _ (hHeld.2.2.2.2.2.2.2.2.2.2.2.2.2.2.2.2.2.2.2.2.2.2.1))).trans (hHeld.2.2.2.2.2.2.2.2.2.2.2.2.2.2.2.2.2.2.2.2.2.2.1)
                                              have HS23_ := (hb.cell (World.block_lt_of_cell? _ _ (hHeld.2.2.2.2.2.2.2.2.2.2.2.2.2.2.2.2.2.2.2.2.2.2.2.1))).trans (hHeld.2.2.2.2.2.2.2.2.2.2.2.2.2.2.2.2.2.2.2.2.2.2.2.1)
                                              refine ⟨_, rfl, ?_⟩
                                              have n0_ := Aside0.mk (Kd.V_below (by (with_reducible repeat (first | apply Kd.V_alloc | apply Kd.V_drewN | apply Kd.V_drew)); exact HO_427000.out) hb)
                                              have n1_ := Aside0.mk (Kd.V_below (by (with_reducible repeat (first | apply Kd.V_alloc | apply Kd.V_drewN | apply Kd.V_drew)); exact HL431_3.out) hb)
                                              have n2_ := Aside0.mk (Kd.V_below (by (with_reducible repeat (first | apply Kd.V_alloc | apply Kd.V_drewN | apply Kd.V_drew)); exact HL433_3.out) hb)
                                              have n3_ := Aside0.mk (Kd.V_below (by (with_reducible repeat (first | apply Kd.V_alloc | apply Kd.V_drewN | apply Kd.V_drew)); exact HL435_3.out) hb)
                                              have n4_ := Aside0.mk (blk_below (g := gb416) (o := .cells #[.slice (some ad432) l0_0.length c0_0, .int .i64 a0_1] 24 (0, 0)) (by (with_reducible repeat (first | refine blk_drewN ?_ _ | refine blk_drew ?_ | refine blk_alloc ?_ _)); exact BK416.out) hb)
                                              have n5_ := Aside0.mk (blk_below (g := gb417) (o := .cells #[.bool a1_0, .slice A1_1 l1_1.length c1_1] 53 (0, 0)) (by (with_reducible repeat (first | refine blk_drewN ?_ _ | refine blk_drew ?_ | refine blk_alloc ?_ _)); exact BK417.out) hb)
                                              have n6_ := Aside0.mk (blk_below (g := gb426) (o := .cells #[.slice (some ad431) t420.length co32, .int .i64 t423] 24 (0, 0)) (by (with_reducible repeat (first | refine blk_drewN ?_ _ | refine blk_drew ?_ | refine blk_alloc ?_ _)); exact BK426.out) hb)
                                              have n7_ := Aside0.mk (Kd.C_below (by repeat (first | (with_reducible exact HR431_3.out) | (with_reducible refine Kd.C_alloc ?_ _) | (with_reducible refine Kd.C_drewN ?_ _) | (with_reducible refine Kd.C_drew ?_) | exact HR431_3.out)) hb)
                                              have n8_ := Aside0.mk (Kd.C_below (by repeat (first | (with_reducible exact HR433_3.out) | (with_reducible refine Kd.C_alloc ?_ _) | (with_reducible refine Kd.C_drewN ?_ _) | (with_reducible refine Kd.C_drew ?_) | exact HR433_3.out)) hb)
                                              have n9_ := Aside0.mk (Kd.C_below (by repeat (first | (with_reducible exact HR435_3.out) | (with_reducible refine Kd.C_alloc ?_ _) | (with_reducible refine Kd.C_drewN ?_ _) | (with_reducible refine Kd.C_drew ?_) | exact HR435_3.out)) hb)
                                              have n10_ := Aside0.mk (below_step (by repeat (first | (with_reducible first | exact HB.out | apply below_alloc | apply pw_below_drewN | apply below_drew1 | refine below_set ?_ GE416.out | refine below_set ?_ GE417.out | refine below_set ?_ GE426.out) | exact HB.out)) hb)
                                              clear HO_427000
                                              clear HL431_3
                                              clear HL433_3
                                              clear HL435_3
                                              clear BK416
                                              clear BK417
                                              clear BK426
                                              clear HR431_3
                                              clear HR433_3
                                              clear HR435_3
                                              clear HB
                                              have HO_427000 := n0_
                                              have HL431_3 := n1_
                                              have HL433_3 := n2_
                                              have HL435_3 := n3_
                                              have BK416 := n4_
                                              have BK417 := n5_
                                              have BK426 := n6_
                                              have HR431_3 := n7_
                                              have HR433_3 := n8_
                                              have HR435_3 := n9_
                                              have HB := n10_
                                              clear n0_ n1_ n2_ n3_ n4_ n5_ n6_ n7_ n8_ n9_ n10_
                                              (try clear hb)
                                              (try clear hb2)
                                              (try clear hk)
                                              (try clear hi)
                                              refine hK.out _ _ ⟨(blk_cell BK426.out 0).trans rfl, (blk_cell BK426.out 1).trans rfl, (blk_cell BK416.out 0).trans rfl, (blk_cell BK416.out 1).trans rfl, HS4_, HS5_, HS6_, HS7_, ((HB.out.cell (World.block_lt_of_cell? w _ hw432_0)).trans hw432_0), ((HB.out.cell (World.block_lt_of_cell? w _ hw432_1)).trans hw432_1), ((HB.out.cell (World.block_lt_of_cell? w _ hw432_2)).trans hw432_2), ((HB.out.cell (World.block_lt_of_cell? w _ hw432_3)).trans hw432_3), HS12_, HS13_, HS14_, HS15_, ((HB.out.cell (World.block_lt_of_cell? w _ hw434_0)).trans hw434_0), ((HB.out.cell (World.block_lt_of_cell? w _ hw434_1)).trans hw434_1), ((HB.out.cell (World.block_lt_of_cell? w _ hw434_2)).trans hw434_2), ((HB.out.cell (World.block_lt_of_cell? w _ hw434_3)).trans hw434_3), HS20_, HS21_, HS22_, HS23_, ((HB.out.cell (World.block_lt_of_cell? w _ hw436_0)).trans hw436_0), ((HB.out.cell (World.block_lt_of_cell? w _ hw436_1)).trans hw436_1), ((HB.out.cell (World.block_lt_of_cell? w _ hw436_2)).trans hw436_2), ((HB.out.cell (World.block_lt_of_cell? w _ hw436_3)).trans hw436_3)⟩ (fun hHeld => ?_)
                                              clear hK K
                                              refine norm_ (a' := ?_) ?_ ?_
                                              rotate_left
                                              · show Act.put _ (some 147) _ = _
                                                simp only [Act.put, List.setIfInBounds_toArray, List.set_cons_zero, List.set_cons_succ, i64_w, i32_w]
                                                rfl
                                              refine pure_ (i := 48) (N := some 148) (v := ?_) (a' := ?_) #[true, true, true, true, true, true, true, true, true, true, true, true, true, true, true, true, true, true, true, true, true, true, true, true, true, true, true, true, true, true, true, true, true, true, true, true, true, true, true, true, true, true, true, true, true, true, true, true, true, false, false] rfl rfl (any_of HT_.out (by kernel_rfl)) (fun _ _ _ h => h) (Or.inl ⟨by rfl, ?_⟩) ?_ ?_
                                              rotate_left
                                              · intro w'
                                                go_simp
                                                with_reducible rfl
                                              rotate_left
                                              · simp only [Act.put, List.setIfInBounds_toArray, List.set_cons_zero, List.set_cons_succ, i64_w, i32_w]
                                                rfl
                                              refine pure_ (i := 49) (N := some 149) (v := ?_) (a' := ?_) #[true, true, true, true, true, true, true, true, true, true, true, true, true, true, true, true, true, true, true, true, true, true, true, true, true, true, true, true, true, true, true, true, true, true, true, true, true, true, true, true, true, true, true, true, true, true, true, true, true, true, false] rfl rfl (any_of HT_.out (by kernel_rfl)) (fun _ _ _ h => h) (Or.inl ⟨by rfl, ?_⟩) ?_ ?_
                                              rotate_left
                                              · intro w'
                                                go_simp
                                                with_reducible rfl
                                              rotate_left
                                              · simp only [Act.put, List.setIfInBounds_toArray, List.set_cons_zero, List.set_cons_succ, i64_w, i32_w]
                                                rfl
                                              refine pure_ (i := 50) (N := some 150) (v := ?_) (a' := ?_) #[true, true, true, true, true, true, true, true, true, true, true, true, true, true, true, true, true, true, true, true, true, true, true, true, true, true, true, true, true, true, true, true, true, true, true, true, true, true, true, true, true, true, true, true, true, true, true, true, true, true, true] rfl rfl (any_of HT_.out (by kernel_rfl)) (fun _ _ _ h => h) (Or.inl ⟨by rfl, ?_⟩) ?_ ?_
                                              rotate_left
                                              · intro w'
                                                go_simp
                                                with_reducible rfl
                                              rotate_left
                                              · simp only [Act.put, List.setIfInBounds_toArray, List.set_cons_zero, List.set_cons_succ, i64_w, i32_w]
                                                rfl
                                              refine done_ (done_of HT_.out (by kernel_rfl)) ?_
                                              try go_wp2
                                              go_roundg kj58
                                              case measure => have := HJ4.out; have := HJ25.out; have := HK3.out; have := HK4.out; have := HJ58.out; omega
                                              case rel => exact ⟨(wrap64 (x11_3 + 1)), (by first | rfl | (simp; done) | (simp [*]; done)), H', ⟨by have := HJ4.out; have := HJ25.out; have := HK3.out; have := HK4.out; have := HJ58.out; omega⟩, ⟨by (with_reducible repeat (first | apply Kd.V_alloc | apply Kd.V_drewN | apply Kd.V_drew)); exact HO_427000.out⟩, ⟨by (with_reducible repeat (first | refine blk_drewN ?_ _ | refine blk_drew ?_ | refine blk_alloc ?_ _)); exact BK416.out⟩, ⟨by (with_reducible repeat (first | refine blk_drewN ?_ _ | refine blk_drew ?_ | refine blk_alloc ?_ _)); exact BK417.out⟩, ⟨by (with_reducible repeat (first | refine blk_drewN ?_ _ | refine blk_drew ?_ | refine blk_alloc ?_ _)); exact BK426.out⟩, ⟨by repeat (first | (with_reducible first | exact HB.out | apply below_alloc | apply pw_below_drewN | apply below_drew1 | refine below_set ?_ GE416.out | refine below_set ?_ GE417.out | refine below_set ?_ GE426.out) | exact HB.out)⟩⟩
                                            · replace c90 := Bool.eq_false_iff.mpr c90
                                              subst c90
                                              have H1 : (some false) = some r := by rw [if_neg (show ¬ (false = true) by decide)] at H; exact H
                                              clear H
                                              have H := H1
                                              clear H1
                                              obtain rfl := Option.some.inj H
                                              cases hr
                                        · rw [if_neg c86] at H
                                          have c86b0 : (((rd_T55 t420 x11_3).f0) == (wrap64 (((rd_T55 l0_0 x11_3).f0) + x12_4))) = false := beq_eq_false_iff_ne.mpr c86
                                          have c86b1 : (((rd_T55 t420 x11_3).f0) != (wrap64 (((rd_T55 l0_0 x11_3).f0) + x12_4))) = true := bne_iff_ne.mpr c86
                                          obtain rfl := Option.some.inj H
                                          cases hr
                                      · rw [if_neg c85] at H
                                        exact absurd H (by simp)
                                    · rw [if_neg c84] at H
                                      exact absurd H (by simp)
                                  · rw [if_neg c83] at H
                                    exact absurd H (by simp)
                    · rw [if_neg c54] at H
                      have c54b0 : decide (x11_3 < (l0_0.length : Int)) = false := decide_eq_false c54
                      clear c54
                      by_cases c96 : t418 = true
                      · subst c96
                        have H1 : (if t423 = a0_1 then (if 0 ≤ t424 then (if t424 < (t420.length : Int) then (if ((rd_T55 t420 t424).f0) = 1 then (some (!((rd_T55 t420 t424).f1))) else (some false)) else (none)) else (none)) else (some false)) = some r := by rw [if_pos rfl] at H; exact H
                        clear H
                        have H := H1
                        clear H1
                        by_cases c97 : t423 = a0_1
                        · rw [if_pos c97] at H
                          have c97b0 : (t423 == a0_1) = true := beq_iff_eq.mpr c97
                          have c97b1 : (t423 != a0_1) = false := bne_eq_false_iff_eq.mpr c97
                          clear c97
                          by_cases c98 : 0 ≤ t424
                          · rw [if_pos c98] at H
                            have c98b0 : decide (0 ≤ t424) = true := decide_eq_true c98
                            clear c98
                            by_cases c99 : t424 < (t420.length : Int)
                            · rw [if_pos c99] at H
                              have c99b0 : decide (t424 < (t420.length : Int)) = true := decide_eq_true c99
                              clear c99
                              by_cases c100 : ((rd_T55 t420 t424).f0) = 1
                              · rw [if_pos c100] at H
                                have c100b0 : (((rd_T55 t420 t424).f0) == 1) = true := beq_iff_eq.mpr c100
                                have c100b1 : (((rd_T55 t420 t424).f0) != 1) = false := bne_eq_false_iff_eq.mpr c100
                                clear c100
                                obtain rfl := Option.some.inj H
                                have hnb101 := NB416_417.out
                                have hnc101 := NB417_416.out
                                have hnb102 := NB416_426.out
                                have hnc102 := NB426_416.out
                                have hcz103_0 : wr.cell? ⟨gb416, 0, none⟩ = some (.slice A0_0 l0_0.length c0_0) := (blk_cell BK416.out 0).trans rfl
                                have hcz103_1 : wr.cell? ⟨gb416, 1, none⟩ = some (.int .i64 a0_1) := (blk_cell BK416.out 1).trans rfl
                                have hfz103_0 := blk_frozen BK416.out 0
                                have hfz103_1 := blk_frozen BK416.out 1
                                have hnb104 := NB426_417.out
                                have hnc104 := NB417_426.out
                                have hcz105_0 : wr.cell? ⟨gb426, 0, none⟩ = some (.slice Ao32 t420.length co32) := (blk_cell BK426.out 0).trans rfl
                                have hcz105_1 : wr.cell? ⟨gb426, 1, none⟩ = some (.int .i64 t423) := (blk_cell BK426.out 1).trans rfl
                                have hfz105_0 := blk_frozen BK426.out 0
                                have hfz105_1 := blk_frozen BK426.out 1
                                have p427 : 0 ≤ (t424 : Int) := of_decide_eq_true (by first | (with_reducible assumption) | assumption)
                                have q427 : t424 < (t420.length : Int) := of_decide_eq_true (by first | (with_reducible assumption) | assumption)
                                obtain ⟨ad427, A427_3, c427_3, e427, hx427_0, hx427_1, hx427_2, hx427_3, hl427_3, hi427_3⟩ := at_T55 (Kd.V_reads' HO_427000.out).2.2 t424 p427 q427
                                cases e427
                                obtain ⟨ce427, hce427, hMe427, hcc427⟩ := Kd.V_get HO_427000.out z55 t424 p427 (by first | exact q427 | exact of_decide_eq_true (by first | (with_reducible assumption) | assumption) | (have e_ := (Kd.V_reads' HO_427000.out).1; omega))
                                obtain ⟨ua427_3, uc427_3, rfl, ul427_3, ge427_3⟩ := k55_openF hMe427
                                have hv427_3 := hcc427 3 _ rfl
                                rw [add_field _ _ 3 (by omega)] at hv427_3
                                replace hv427_3 := Option.some.inj (hv427_3.symm.trans hx427_3)
                                injection hv427_3 with hva_ hvn_ hvc_
                                rw [hva_] at ge427_3
                                rw [hvc_] at ul427_3
                                have HL427_3 := Aside0.mk (show Kd.V k49 49 _ w.heap.size _ _ ((rd_T55 t420 t424).f2.f1) from Kd.V_mk ul427_3 ge427_3)
                                clear hva_ hvn_ hvc_ ge427_3 ul427_3
                                clear hcc427 hce427
                                have HR427_3 := Aside0.mk hi427_3
                                have HC427_3 := Aside0.mk hl427_3
                                clear hi427_3 hl427_3
                                replace p427 := eq_true p427
                                replace q427 := eq_true q427
                                have p428 : 0 ≤ (t424 : Int) := of_decide_eq_true (by first | (with_reducible assumption) | assumption)
                                have q428 : t424 < (t420.length : Int) := of_decide_eq_true (by first | (with_reducible assumption) | assumption)
                                obtain ⟨ad428, A428_3, c428_3, e428, hx428_0, hx428_1, hx428_2, hx428_3, hl428_3, hi428_3⟩ := at_T55 (Kd.V_reads' HO_427000.out).2.2 t424 p428 q428
                                obtain rfl : ad427 = ad428 := (by injection e428)
                                obtain ⟨ce428, hce428, hMe428, hcc428⟩ := Kd.V_get HO_427000.out z55 t424 p428 (by first | exact q428 | exact of_decide_eq_true (by first | (with_reducible assumption) | assumption) | (have e_ := (Kd.V_reads' HO_427000.out).1; omega))
                                obtain ⟨ua428_3, uc428_3, rfl, ul428_3, ge428_3⟩ := k55_openF hMe428
                                have hv428_3 := hcc428 3 _ rfl
                                rw [add_field _ _ 3 (by omega)] at hv428_3
                                replace hv428_3 := Option.some.inj (hv428_3.symm.trans hx428_3)
                                injection hv428_3 with hva_ hvn_ hvc_
                                rw [hva_] at ge428_3
                                rw [hvc_] at ul428_3
                                have HL428_3 := Aside0.mk (show Kd.V k49 49 _ w.heap.size _ _ ((rd_T55 t420 t424).f2.f1) from Kd.V_mk ul428_3 ge428_3)
                                clear hva_ hvn_ hvc_ ge428_3 ul428_3
                                clear hcc428 hce428
                                have HR428_3 := Aside0.mk hi428_3
                                have HC428_3 := Aside0.mk hl428_3
                                clear hi428_3 hl428_3
                                replace p428 := eq_true p428
                                replace q428 := eq_true q428
                                have ea_ := Option.some.inj (hx427_3.symm.trans hx428_3)
                                injection ea_ with ea_ en_ ec_
                                subst ea_
                                subst ec_
                                clear en_
                                go_wp2
                                go_ret
                                exact ⟨by first | rfl | (simp [errW_none, errW_some] <;> rfl) | (simp [*, errW_none, errW_some] <;> rfl), by repeat (first | (with_reducible first | exact HB.out | apply below_alloc | apply pw_below_drewN | apply below_drew1 | refine below_set ?_ GE416.out | refine below_set ?_ GE417.out | refine below_set ?_ GE426.out) | exact HB.out)⟩
                              · rw [if_neg c100] at H
                                have c100b0 : (((rd_T55 t420 t424).f0) == 1) = false := beq_eq_false_iff_ne.mpr c100
                                have c100b1 : (((rd_T55 t420 t424).f0) != 1) = true := bne_iff_ne.mpr c100
                                obtain rfl := Option.some.inj H
                                cases hr
                            · rw [if_neg c99] at H
                              exact absurd H (by simp)
                          · rw [if_neg c98] at H
                            exact absurd H (by simp)
                        · rw [if_neg c97] at H
                          have c97b0 : (t423 == a0_1) = false := beq_eq_false_iff_ne.mpr c97
                          have c97b1 : (t423 != a0_1) = true := bne_iff_ne.mpr c97
                          obtain rfl := Option.some.inj H
                          cases hr
                      · replace c96 := Bool.eq_false_iff.mpr c96
                        subst c96
                        have H1 : (some false) = some r := by rw [if_neg (show ¬ (false = true) by decide)] at H; exact H
                        clear H
                        have H := H1
                        clear H1
                        obtain rfl := Option.some.inj H
                        cases hr
        · rw [if_neg c25] at H
          have c25b0 : (t425 == 0) = false := beq_eq_false_iff_ne.mpr c25
          have c25b1 : (t425 != 0) = true := bne_iff_ne.mpr c25
          by_cases c119 : t418 = true
          · subst c119
            have H1 : (some (t424 == 0)) = some r := by rw [if_pos rfl] at H; exact H
            clear H
            have H := H1
            clear H1
            obtain rfl := Option.some.inj H
            have hnb120 := NB416_417.out
            have hnc120 := NB417_416.out
            have hcz121_0 : wc.cell? ⟨gb416, 0, none⟩ = some (.slice A0_0 l0_0.length c0_0) := (blk_cell BK416.out 0).trans rfl
            have hcz121_1 : wc.cell? ⟨gb416, 1, none⟩ = some (.int .i64 a0_1) := (blk_cell BK416.out 1).trans rfl
            have hfz121_0 := blk_frozen BK416.out 0
            have hfz121_1 := blk_frozen BK416.out 1
            have hcz122_0 : wc.cell? ⟨gb417, 0, none⟩ = some (.bool a1_0) := (blk_cell BK417.out 0).trans rfl
            have hcz122_1 : wc.cell? ⟨gb417, 1, none⟩ = some (.slice A1_1 l1_1.length c1_1) := (blk_cell BK417.out 1).trans rfl
            have hfz122_0 := blk_frozen BK417.out 0
            have hfz122_1 := blk_frozen BK417.out 1
            go_wp2_with (first | ((with_reducible refine gate_callee (f := 44) rfl ?_); refine goesL_ (some 35) rfl rfl Try.func44 (by kernel_rfl) rfl #[.agg #[.slice A0_0 l0_0.length c0_0, .int .i64 a0_1], .agg #[.bool a1_0, .slice A1_1 l1_1.length c1_1], .slice A2 l2.length c2] rfl (by (try simp only [List.map_toArray, List.map_cons, List.map_nil]); first | done | rfl | (simp only [List.length_drop, List.length_take]; rfl)) ?_; (with_reducible refine (heap_Alloc.calls (fun k_ => k_ < w.heap.size) _ _ l0_0 a0_1 a1_0 (fun k_ => k_ < w.heap.size) _ _ l1_1 _ _ l2 t420 t423 t424 t425 _ ?side1 ?side2 ?side3 ?side4 A24.out).mono ?_); (case side1 => exact Kd.V_mk HC0_0.out (Kd.F_below (Kd.C_F k55_heap HR0_0.out) (by repeat (first | (with_reducible first | exact HB.out | apply below_alloc | apply pw_below_drewN | apply below_drew1 | refine below_set ?_ GE416.out | refine below_set ?_ GE417.out) | exact HB.out)))); (case side2 => exact Kd.V_mk HC1_1.out (Kd.F_below (Kd.C_F k49_heap HR1_1.out) (by repeat (first | (with_reducible first | exact HB.out | apply below_alloc | apply pw_below_drewN | apply below_drew1 | refine below_set ?_ GE416.out | refine below_set ?_ GE417.out) | exact HB.out)))); (case side3 => repeat (first | exact (Kd.C_below HR2.out HB.out) | (with_reducible refine Kd.C_alloc ?_ _) | (with_reducible refine Kd.C_drewN ?_ _) | (with_reducible refine Kd.C_drew ?_))); (case side4 => exact HC2.out); rintro e w123 ⟨v421, rfl, ho0, hb⟩; refine ⟨_, rfl, ?_⟩; have n0_ := Aside0.mk (Kd.V_lower (Kd.V_mono (ok' := fun k_ => k_ ≠ gb416 ∧ k_ ≠ gb417) ho0 (fun k_ hk_ => ⟨Or.elim hk_ (fun hs_ => Or.elim hs_ (fun hs_ => fun e_ => Nat.not_le.2 hs_ (by rw [e_]; exact GW416.out)) (fun hs_ => fun e_ => Nat.not_le.2 hs_ (by rw [e_]; exact GW416.out))) (fun hn_ => (Kd.freshB (g := gb416) (o := .cells #[.slice A0_0 l0_0.length c0_0, .int .i64 a0_1] 24 (0, 0)) (by (with_reducible repeat (first | refine blk_drewN ?_ _ | refine blk_drew ?_ | refine blk_alloc ?_ _)); exact BK416.out) k_ hn_)), Or.elim hk_ (fun hs_ => Or.elim hs_ (fun hs_ => fun e_ => Nat.not_le.2 hs_ (by rw [e_]; exact GW417.out)) (fun hs_ => fun e_ => Nat.not_le.2 hs_ (by rw [e_]; exact GW417.out))) (fun hn_ => (Kd.freshB (g := gb417) (o := .cells #[.bool a1_0, .slice A1_1 l1_1.length c1_1] 53 (0, 0)) (by (with_reducible repeat (first | refine blk_drewN ?_ _ | refine blk_drew ?_ | refine blk_alloc ?_ _)); exact BK417.out) k_ hn_))⟩)) (below_size (by repeat (first | (with_reducible first | exact HB.out | apply below_alloc | apply pw_below_drewN | apply below_drew1 | refine below_set ?_ GE416.out | refine below_set ?_ GE417.out) | exact HB.out)))); have n1_ := Aside0.mk (blk_below (g := gb416) (o := .cells #[.slice A0_0 l0_0.length c0_0, .int .i64 a0_1] 24 (0, 0)) (by (with_reducible repeat (first | refine blk_drewN ?_ _ | refine blk_drew ?_ | refine blk_alloc ?_ _)); exact BK416.out) hb); have n2_ := Aside0.mk (blk_below (g := gb417) (o := .cells #[.bool a1_0, .slice A1_1 l1_1.length c1_1] 53 (0, 0)) (by (with_reducible repeat (first | refine blk_drewN ?_ _ | refine blk_drew ?_ | refine blk_alloc ?_ _)); exact BK417.out) hb); have n3_ := Aside0.mk (below_step (by repeat (first | (with_reducible first | exact HB.out | apply below_alloc | apply pw_below_drewN | apply below_drew1 | refine below_set ?_ GE416.out | refine below_set ?_ GE417.out) | exact HB.out)) hb); clear BK416; clear BK417; clear HB; have HO422 := n0_; have BK416 := n1_; have BK417 := n2_; have HB := n3_; clear n0_ n1_ n2_ n3_; (try clear hb); (try clear hb2); (try clear hk); (try clear hi); (try clear ho0)) | ((with_reducible refine gate_dst (N := 8) rfl ?_); (try (refine gate_guard (by rfl) ?_; dsimp only)); refine box_event ?hg (N := 8) ?hd (cs := #[.slice none 0 0, .int .i64 0]) (t := 24) ?hr ?_; (case hd => rfl); (case hg => rfl); (case hr => first | (go_simp; done) | (go_simp; rfl)); intro gb426 hg w124 hbox hb; have n0_ := Aside0.mk (Kd.V_below (Kd.V_elderB (by (with_reducible repeat (first | apply Kd.V_alloc | apply Kd.V_drewN | apply Kd.V_drew)); exact HO422.out) gb426 (Nat.le_of_eq hg.symm)) hb); have n1_ := Aside0.mk (blk_below (g := gb416) (o := .cells #[.slice A0_0 l0_0.length c0_0, .int .i64 a0_1] 24 (0, 0)) (by (with_reducible repeat (first | refine blk_drewN ?_ _ | refine blk_drew ?_ | refine blk_alloc ?_ _)); exact BK416.out) hb); have n2_ := Aside0.mk (blk_below (g := gb417) (o := .cells #[.bool a1_0, .slice A1_1 l1_1.length c1_1] 53 (0, 0)) (by (with_reducible repeat (first | refine blk_drewN ?_ _ | refine blk_drew ?_ | refine blk_alloc ?_ _)); exact BK417.out) hb); have n3_ := Aside0.mk (below_step (by repeat (first | (with_reducible first | exact HB.out | apply below_alloc | apply pw_below_drewN | apply below_drew1 | refine below_set ?_ GE416.out | refine below_set ?_ GE417.out) | exact HB.out)) hb); have n4_ := Aside0.mk (hbox); have n5_ := Aside0.mk ((by rw [hg]; exact (below_size (by repeat (first | (with_reducible first | exact HB.out | apply below_alloc | apply pw_below_drewN | apply below_drew1 | refine below_set ?_ GE416.out | refine below_set ?_ GE417.out) | exact HB.out))) : w.heap.size ≤ gb426)); have n6_ := Aside0.mk ((by rw [hg]; exact (below_size (by repeat (first | (with_reducible first | exact HB.out | apply below_alloc | apply pw_below_drewN | apply below_drew1 | refine below_set ?_ GE416.out | refine below_set ?_ GE417.out) | exact HB.out))) : w.heap.size ≤ gb426)); have n7_ := Aside0.mk ((by rw [hg]; exact Nat.ne_of_lt (blk_lt (g := gb416) (o := .cells #[.slice A0_0 l0_0.length c0_0, .int .i64 a0_1] 24 (0, 0)) (by (with_reducible repeat (first | refine blk_drewN ?_ _ | refine blk_drew ?_ | refine blk_alloc ?_ _)); exact BK416.out)) : gb416 ≠ gb426)); have n8_ := Aside0.mk ((by rw [hg]; exact Nat.ne_of_gt (blk_lt (g := gb416) (o := .cells #[.slice A0_0 l0_0.length c0_0, .int .i64 a0_1] 24 (0, 0)) (by (with_reducible repeat (first | refine blk_drewN ?_ _ | refine blk_drew ?_ | refine blk_alloc ?_ _)); exact BK416.out)) : gb426 ≠ gb416)); have n9_ := Aside0.mk ((by rw [hg]; exact Nat.ne_of_lt (blk_lt (g := gb417) (o := .cells #[.bool a1_0, .slice A1_1 l1_1.length c1_1] 53 (0, 0)) (by (with_reducible repeat (first | refine blk_drewN ?_ _ | refine blk_drew ?_ | refine blk_alloc ?_ _)); exact BK417.out)) : gb417 ≠ gb426)); have n10_ := Aside0.mk ((by rw [hg]; exact Nat.ne_of_gt (blk_lt (g := gb417) (o := .cells #[.bool a1_0, .slice A1_1 l1_1.length c1_1] 53 (0, 0)) (by (with_reducible repeat (first | refine blk_drewN ?_ _ | refine blk_drew ?_ | refine blk_alloc ?_ _)); exact BK417.out)) : gb426 ≠ gb417)); clear HO422; clear BK416; clear BK417; clear HB; have HO422 := n0_; have BK416 := n1_; have BK417 := n2_; have HB := n3_; have BK426 := n4_; have GW426 := n5_; have GE426 := n6_; have NB416_426 := n7_; have NB426_416 := n8_; have NB417_426 := n9_; have NB426_417 := n10_; clear n0_ n1_ n2_ n3_ n4_ n5_ n6_ n7_ n8_ n9_ n10_; clear hb hbox hg; obtain ⟨Ao125, co125, eo125⟩ := Kd.V_slice HO422.out; subst eo125; have hnb126 := NB426_416.out; have hnc126 := NB416_426.out; have hnb127 := NB426_417.out; have hnc127 := NB417_426.out; have hcz128_0 : w124.cell? ⟨gb426, 0, none⟩ = some (.slice none 0 0) := (blk_cell BK426.out 0).trans rfl; have hcz128_1 : w124.cell? ⟨gb426, 1, none⟩ = some (.int .i64 0) := (blk_cell BK426.out 1).trans rfl; have hfz128_0 := blk_frozen BK426.out 0; have hfz128_1 := blk_frozen BK426.out 1))
            go_ret
            exact ⟨by first | rfl | (simp [errW_none, errW_some] <;> rfl) | (simp [*, errW_none, errW_some] <;> rfl), by repeat (first | (with_reducible first | exact HB.out | apply below_alloc | apply pw_below_drewN | apply below_drew1 | refine below_set ?_ GE416.out | refine below_set ?_ GE417.out | refine below_set ?_ GE426.out) | exact HB.out)⟩
          · replace c119 := Bool.eq_false_iff.mpr c119
            subst c119
            have H1 : (some false) = some r := by rw [if_neg (show ¬ (false = true) by decide)] at H; exact H
            clear H
            have H := H1
            clear H1
            obtain rfl := Option.some.inj H
            cases hr
end Go.Proofs.Yteiladccdenpbaa.P
end
section
namespace Go.Proofs.Yteiladccdenpbaa.P
open Go.RowKit Go.Proofs.YteiladccdenpbaaW.PrintWords Go.Proofs.YteiladccdenpbaaW.PrintLast Go.Proofs.YteiladccdenpbaaW.PrintMore
set_option linter.unusedVariables false
set_option linter.unusedSimpArgs false
def HR (l : List S55) : Prop := l.length ≤ 2000 ∧ ∀ p : Int, 0 ≤ p → p < (l.length : Int) → cellR l.length (rd_T55 l p)
theorem HR.rn {l : List S55} (H : HR l) {p : Int} (h0 : 0 ≤ p) (h1 : p < (l.length : Int)) (hr : 0 < Rf l p) : RtN (It l p) := by
  rcases H.2 p h0 h1 with h | h
  · have := h.1; simp only [Rf] at hr; omega
  · exact h.2.2.2.1
abbrev lo (l : List S55) (p : Int) : Int := kAt (It l p) 0
def Hi (l : List S55) : Nat → Int → Int
  | 0, _ => 0
  | 1, p => kAt (It l p) ((It l p).length - 1)
  | h + 2, p => Hi l (h + 1) (vAt (It l p) ((It l p).length - 1))
def Tr (l : List S55) : Nat → Int → Prop
  | 0, _ => False
  | 1, p => 0 ≤ p ∧ p < (l.length : Int) ∧ 0 < Rf l p ∧ Lf l p = true
  | h + 2, p => 0 ≤ p ∧ p < (l.length : Int) ∧ 0 < Rf l p ∧ Lf l p = false ∧ ∀ i, i < (It l p).length →
      Tr l (h + 1) (vAt (It l p) i) ∧ lo l (vAt (It l p) i) = kAt (It l p) i ∧ (i + 1 < (It l p).length → Hi l (h + 1) (vAt (It l p) i) < kAt (It l p) (i + 1))
def Ls (l : List S55) : Nat → Int → List S49
  | 0, _ => []
  | 1, p => It l p
  | h + 2, p => (It l p).flatMap fun x => Ls l (h + 1) x.f1
theorem Tr.base {l : List S55} {h : Nat} {p : Int} (t : Tr l h p) : 0 ≤ p ∧ p < (l.length : Int) ∧ 0 < Rf l p := by
  match h, t with
  | 1, t => exact ⟨t.1, t.2.1, t.2.2.1⟩
  | h + 2, t => exact ⟨t.1, t.2.1, t.2.2.1⟩
theorem Tr.pos {l : List S55} {h : Nat} {p : Int} (t : Tr l h p) : 1 ≤ h := by
  match h, t with
  | h + 1, t => omega
theorem Tr.rn {l : List S55} (H : HR l) {h : Nat} {p : Int} (t : Tr l h p) : RtN (It l p) := H.rn t.base.1 t.base.2.1 t.base.2.2
theorem Tr.leaf {l : List S55} {h : Nat} {p : Int} (t : Tr l h p) : Lf l p = decide (h = 1) := by
  match h, t with
  | 1, t => exact t.2.2.2
  | h + 2, t => rw [t.2.2.2.1, decide_eq_false (by omega)]
theorem rising_all {l : List S49} (h : RtN l) {i j : Nat} (hij : i < j) (hj : j < l.length) : kAt l i < kAt l j := rising_lt (rising_of h) i j hij hj
theorem rising_le {l : List S49} (h : RtN l) {i j : Nat} (hij : i ≤ j) (hj : j < l.length) : kAt l i ≤ kAt l j := by
  by_cases e : i = j
  · subst e; exact Int.le_refl _
  · have := rising_all h (show i < j by omega) hj; omega
structure Said1 (l : List S55) (h : Nat) (p : Int) : Prop where
  le : lo l p ≤ Hi l h p
  lo0 : 0 ≤ lo l p
  hi1 : Hi l h p ≤ 2147483647
  bd : ∀ x ∈ Ls l h p, lo l p ≤ x.f0 ∧ x.f0 ≤ Hi l h p
  hd : ∃ x xs, Ls l h p = x :: xs ∧ x.f0 = lo l p
  pw : (Ls l h p).Pairwise fun a b => a.f0 < b.f0
theorem gap {l : List S55} (H : HR l) {h : Nat} {p : Int} (t : Tr l (h + 2) p) {i j : Nat} (hij : i < j) (hj : j < (It l p).length) : Hi l (h + 1) (vAt (It l p) i) < kAt (It l p) j := by
  have := (t.2.2.2.2 i (by omega)).2.2 (by omega)
  have := rising_le (t.rn H) (show i + 1 ≤ j by omega) hj
  omega
end Go.Proofs.Yteiladccdenpbaa.P
end
section
namespace Go.Proofs.Yteiladccdenpbaa.P
open Go.RowKit Go.Proofs.YteiladccdenpbaaW.PrintWords Go.Proofs.YteiladccdenpbaaW.PrintLast Go.Proofs.YteiladccdenpbaaW.PrintMore
set_option linter.unusedVariables false
set_option linter.unusedSimpArgs false
instance decS53 : DecidableEq S53 := fun x y =>
  if h : x.f0 = y.f0 ∧ x.f1 = y.f1 then isTrue (by cases x; cases y; simp at h; simp [h]) else isFalse (fun e => h (by rw [e]; exact ⟨rfl, rfl⟩))
instance decS55 : DecidableEq S55 := fun x y =>
  if h : x.f0 = y.f0 ∧ x.f1 = y.f1 ∧ x.f2 = y.f2 then isTrue (by cases x; cases y; simp at h; simp [h]) else isFalse (fun e => h (by rw [e]; exact ⟨rfl, rfl, rfl⟩))
theorem wadd (a b : Int) (h0 : 0 ≤ a) (h : a ≤ 1000000000) (h1 : -1000000000 ≤ b) (h2 : b ≤ 1000000000) : wrap64 (a + b) = a + b := by unfold wrap64; omega
end Go.Proofs.Yteiladccdenpbaa.P
end
section
namespace Go.Proofs.Yteiladccdenpbaa.P
open Go.RowKit Go.Proofs.Yteiladccdenpbaa.P Go.Proofs.YteiladccdenpbaaW.PrintWords Go.Proofs.YteiladccdenpbaaW.PrintLast
theorem refIn_l0 (l : List Int) (a : Int) (hl : l.length ≤ 1000000) : ∀ (d k j : Nat), j + d = l.length → d < k → assartref05_In.l0 k l a (j : Int) = some (decide (a ∈ l.drop j)) := by
  intro d
  induction d with
  | zero =>
    intro k j hj hk
    obtain ⟨k, rfl⟩ : ∃ m, k = m + 1 := ⟨k - 1, by omega⟩
    simp only [assartref05_In.l0]
    rw [if_neg (by omega), List.drop_eq_nil_of_le (by omega), decide_eq_false (by intro h; cases h)]
  | succ d ih =>
    intro k j hj hk
    obtain ⟨k, rfl⟩ : ∃ m, k = m + 1 := ⟨k - 1, by omega⟩
    have hlt : j < l.length := by omega
    have hrd : rd l (j : Nat) = l[j] := by simp only [rd, Int.toNat_natCast, List.getD_eq_getElem?_getD, List.getElem?_eq_getElem hlt, Option.getD_some]
    simp only [assartref05_In.l0]
    rw [if_pos (by omega), if_pos (by omega), hrd, wsucc j (by omega), List.drop_eq_getElem_cons hlt, ih k (j + 1) (by omega) (by omega)]
    by_cases h : l[j] = a
    · rw [if_pos h, decide_eq_true (by rw [h]; exact List.mem_cons_self ..)]
    · rw [if_neg h]
      congr 1
      rw [decide_eq_decide]
      exact ⟨fun hm => List.mem_cons_of_mem _ hm, fun hm => (List.mem_cons.1 hm).resolve_left (fun e => h e.symm)⟩
theorem refIn_val (l : List Int) (a : Int) (hl : l.length ≤ 1000000) (k : Nat) (hk : l.length < k) : assartref05_In.f k l a = some (decide (a ∈ l)) := by
  unfold assartref05_In.f
  have := refIn_l0 l a hl l.length k 0 (by omega) hk
  rw [show ((0 : Nat) : Int) = 0 from rfl, List.drop_zero] at this
  exact this
def cntI (it : List S49) (i : Int) : Nat := (it.filter fun x => x.f1 == i).length
theorem cntI_cons (x : S49) (xs : List S49) (i : Int) : cntI (x :: xs) i = (if x.f1 = i then 1 else 0) + cntI xs i := by
  unfold cntI
  rw [List.filter_cons]
  by_cases h : x.f1 = i
  · rw [if_pos h, if_pos (beq_iff_eq.2 h), List.length_cons]; omega
  · rw [if_neg h, if_neg (by rw [beq_iff_eq]; exact h)]; omega
theorem cntI_le (it : List S49) (i : Int) : cntI it i ≤ it.length := List.length_filter_le _ _
def cnt (held : List Int) (it : List S49) (i : Int) : Nat := if i ∈ held then 0 else cntI it i
theorem rd55_set {l : List S55} {a i : Nat} (x : S55) (h : a < l.length) : rd_T55 (l.set a x) (i : Nat) = if a = i then x else rd_T55 l (i : Nat) := by
  simp only [rd_T55, Int.toNat_natCast, List.getD_eq_getElem?_getD]
  rw [List.getElem?_set]
  by_cases e : a = i
  · subst e
    rw [if_pos rfl, if_pos rfl, if_pos h]
    rfl
  · rw [if_neg e, if_neg e]
theorem fold_val (held : List Int) : ∀ (it : List S49) (l : List S55) (B : Int), l.length < 1000000 → (∀ x ∈ it, 0 ≤ x.f1 ∧ x.f1 < (l.length : Int)) → (∀ i : Nat, i < l.length → 0 ≤ (rd_T55 l i).f0 ∧ (rd_T55 l i).f0 ≤ B) → B + it.length ≤ 2000000 →
    ∃ l1, foldO (allocF held) it l = some l1 ∧ l1.length = l.length ∧ ∀ i : Nat, i < l.length → rd_T55 l1 i = ⟨(rd_T55 l i).f0 + cnt held it i, (rd_T55 l i).f1, (rd_T55 l i).f2⟩
  | [], l, B, _, _, _, _ => ⟨l, rfl, rfl, fun i hi => by
      have : cnt held [] (i : Int) = 0 := by unfold cnt; split <;> rfl
      rw [this]
      simp⟩
  | x :: xs, l, B, hl, hx, hb, hB => by
    rw [List.length_cons] at hB
    obtain ⟨p0, p1⟩ := hx x (List.mem_cons_self ..)
    unfold foldO
    by_cases hm : x.f1 ∈ held
    · have : allocF held l x.f1 = some l := by unfold allocF; rw [if_pos hm]
      rw [this, Option.bind_some]
      obtain ⟨l1, h1, h2, h3⟩ := fold_val held xs l B hl (fun y hy => hx y (List.mem_cons_of_mem _ hy)) hb (by omega)
      refine ⟨l1, h1, h2, fun i hi => ?_⟩
      rw [h3 i hi]
      unfold cnt
      by_cases hi2 : (i : Int) ∈ held
      · rw [if_pos hi2, if_pos hi2]
      · rw [if_neg hi2, if_neg hi2, cntI_cons, if_neg (fun e : x.f1 = (i : Int) => hi2 (by rw [← e]; exact hm)), Nat.zero_add]
    · obtain ⟨q, hq⟩ : ∃ q : Nat, x.f1 = q := ⟨x.f1.toNat, by omega⟩
      have hq1 : q < l.length := by omega
      have hbq := hb q hq1
      have : allocF held l x.f1 = some (l.set q ⟨(rd_T55 l (q : Nat)).f0 + 1, (rd_T55 l (q : Nat)).f1, (rd_T55 l (q : Nat)).f2⟩) := by
        unfold allocF holdP
        rw [if_neg hm, hq, if_pos ⟨by omega, by omega, hl, by omega, by omega⟩, Int.toNat_natCast]
      rw [this, Option.bind_some]
      have hlen : (l.set q ⟨(rd_T55 l (q : Nat)).f0 + 1, (rd_T55 l (q : Nat)).f1, (rd_T55 l (q : Nat)).f2⟩).length = l.length := List.length_set
      obtain ⟨l1, h1, h2, h3⟩ := fold_val held xs (l.set q ⟨(rd_T55 l (q : Nat)).f0 + 1, (rd_T55 l (q : Nat)).f1, (rd_T55 l (q : Nat)).f2⟩) (B + 1) (by omega) (fun y hy => by rw [hlen]; exact hx y (List.mem_cons_of_mem _ hy)) (fun i hi => by
        rw [hlen] at hi
        rw [rd55_set _ hq1]
        have := hb i hi
        by_cases e : q = i
        · rw [if_pos e]; subst e; exact ⟨by simp only []; omega, by simp only []; omega⟩
        · rw [if_neg e]; exact ⟨this.1, by omega⟩) (by omega)
      refine ⟨l1, h1, by omega, fun i hi => ?_⟩
      rw [h3 i (by omega), rd55_set _ hq1]
      unfold cnt
      by_cases e : q = i
      · subst e
        rw [if_pos rfl, if_neg (by rw [← hq]; exact hm), if_neg (by rw [← hq]; exact hm), cntI_cons, if_pos hq]
        simp only []
        congr 1
        omega
      · rw [if_neg e, cntI_cons, if_neg (show ¬ x.f1 = (i : Int) by omega), Nat.zero_add]
theorem cntI_drop {it : List S49} {j : Nat} (h : j < it.length) (i : Int) : cntI (it.drop j) i = (if (rd_T49 it (j : Nat)).f1 = i then 1 else 0) + cntI (it.drop (j + 1)) i := by
  rw [List.drop_eq_getElem_cons h, cntI_cons, rd_eq it j h]
def okPlace (l l' : List S55) (ad : Int) (c i : Nat) : Prop := (i : Int) = ad ∨ ((rd_T55 l' (i : Nat)).f0 = (rd_T55 l (i : Nat)).f0 + c ∧ (rd_T55 l' (i : Nat)).f1 = (rd_T55 l (i : Nat)).f1 ∧ (rd_T55 l' (i : Nat)).f2 = (rd_T55 l (i : Nat)).f2)
theorem held_j4 (held : List Int) (l l' : List S55) (kp kp' ad : Int) (leaf : Bool) (it : List S49) (hl : l.length ≤ 60) (hl' : l'.length = l.length) (hs : ∀ i : Nat, i < l.length → (rd_T55 l i).f2.f1.length ≤ 10 ∧ 0 ≤ (rd_T55 l i).f0 ∧ (rd_T55 l i).f0 ≤ 1000000) (b : Bool) (j : Int)
    (c i k : Nat) (hi : i < l.length) (hc : c ≤ 10) (hok : okPlace l l' ad c i) (hk : 1010 < k) :
    assartlaw05_HeapHeld.j4 (k + 1) held true ad (i : Int) (c : Int) b j false l kp leaf it l' kp' = assartlaw05_HeapHeld.l0 k held true ad ((i + 1 : Nat) : Int) l kp leaf it l' kp' := by
  simp only [assartlaw05_HeapHeld.j4]
  rw [if_neg (by simp), wsucc i (by omega)]
  by_cases e : (i : Int) = ad
  · rw [if_pos e]
  · obtain ⟨a, b, d⟩ := hok.resolve_left e
    obtain ⟨s1, s2, s3⟩ := hs i hi
    rw [if_neg e, if_pos (by omega), if_pos (by omega), if_pos (by omega), wadd _ _ (by omega) (by omega) (by omega) (by omega), if_pos a, b, bne_self_eq_false, if_neg (by simp), d, refSame04_val' k _ _ _ _ (by omega) (by omega), Option.bind_some, if_pos (by simp)]
theorem held_l1 (held : List Int) (l l' : List S55) (kp kp' ad : Int) (it : List S49) (hl : l.length ≤ 60) (hit : it.length ≤ 10) (hl' : l'.length = l.length) (hs : ∀ i : Nat, i < l.length → (rd_T55 l i).f2.f1.length ≤ 10 ∧ 0 ≤ (rd_T55 l i).f0 ∧ (rd_T55 l i).f0 ≤ 1000000)
    (i : Nat) (hi : i < l.length) (hok : okPlace l l' ad (cntI it i) i) : ∀ (d k j c : Nat), j + d = it.length → 1020 + 2 * d < k → c + cntI (it.drop j) i = cntI it i →
    ∃ k', k ≤ k' + 2 * d + 2 ∧ assartlaw05_HeapHeld.l1 k held true ad (i : Int) (c : Int) false (j : Int) l kp false it l' kp' = assartlaw05_HeapHeld.l0 k' held true ad ((i + 1 : Nat) : Int) l kp false it l' kp' := by
  intro d
  have hcl := cntI_le it i
  induction d with
  | zero =>
    intro k j c hj hk hc
    obtain ⟨k, rfl⟩ : ∃ m, k = m + 2 := ⟨k - 2, by omega⟩
    rw [List.drop_eq_nil_of_le (by omega), show cntI [] (i : Int) = 0 from rfl, Nat.add_zero] at hc
    subst hc
    refine ⟨k, by omega, ?_⟩
    rw [assartlaw05_HeapHeld.l1, if_neg (by omega)]
    exact held_j4 held l l' kp kp' ad false it hl hl' hs _ _ _ i k hi (by omega) hok (by omega)
  | succ d ih =>
    intro k j c hj hk hc
    obtain ⟨k, rfl⟩ : ∃ m, k = m + 2 := ⟨k - 2, by omega⟩
    rw [cntI_drop (by omega)] at hc
    rw [assartlaw05_HeapHeld.l1, if_pos (by omega), if_neg (by simp)]
    simp only [assartlaw05_HeapHeld.j4]
    rw [if_pos (by simp), if_pos (by omega), if_pos (by omega), wsucc j (by omega), wsucc c (by omega)]
    by_cases h : (rd_T49 it (j : Nat)).f1 = (i : Int)
    · rw [if_pos h]
      rw [if_pos h] at hc
      obtain ⟨k', h1, h2⟩ := ih k (j + 1) (c + 1) (by omega) (by omega) (by omega)
      exact ⟨k', by omega, h2⟩
    · rw [if_neg h]
      rw [if_neg h] at hc
      obtain ⟨k', h1, h2⟩ := ih k (j + 1) c (by omega) (by omega) (by omega)
      exact ⟨k', by omega, h2⟩
theorem held_l0 (held : List Int) (l l' : List S55) (kp ad : Int) (leaf : Bool) (it : List S49) (hl : l.length ≤ 60) (hit : it.length ≤ 10) (hh : held.length ≤ 20) (hl' : l'.length = l.length) (hs : ∀ i : Nat, i < l.length → (rd_T55 l i).f2.f1.length ≤ 10 ∧ 0 ≤ (rd_T55 l i).f0 ∧ (rd_T55 l i).f0 ≤ 1000000)
    (hok : ∀ i : Nat, i < l.length → okPlace l l' ad (if leaf = true then 0 else cnt held it i) i) (had : 0 ≤ ad) (had1 : ad < (l.length : Int)) (hat : (rd_T55 l' ad).f0 = 1 ∧ (rd_T55 l' ad).f1 = false) : ∀ (d k i : Nat), i + d = l.length → 1100 + 30 * d < k →
    assartlaw05_HeapHeld.l0 k held true ad (i : Int) l kp leaf it l' kp = some true := by
  intro d
  induction d with
  | zero =>
    intro k i hi hk
    obtain ⟨k, rfl⟩ : ∃ m, k = m + 1 := ⟨k - 1, by omega⟩
    rw [assartlaw05_HeapHeld.l0, if_neg (by omega), if_pos rfl, if_pos rfl, if_pos (by omega), if_pos (by omega), if_pos hat.1, hat.2]
    rfl
  | succ d ih =>
    intro k i hi hk
    obtain ⟨k, rfl⟩ : ∃ m, k = m + 1 := ⟨k - 1, by omega⟩
    rw [assartlaw05_HeapHeld.l0, if_pos (by omega), refIn_val held i (by omega) k (by omega), Option.bind_some]
    have ho := hok i (by omega)
    by_cases hc : leaf = true ∨ (i : Int) ∈ held
    · have h0 : (if leaf = true then 0 else cnt held it (i : Int)) = 0 := by
        rcases hc with h | h
        · rw [if_pos h]
        · unfold cnt; rw [if_pos h]; split <;> rfl
      rw [h0] at ho
      obtain ⟨k, rfl⟩ : ∃ m, k = m + 2 := ⟨k - 2, by omega⟩
      have hj := held_j4 held l l' kp kp ad leaf it hl hl' hs (decide ((i : Int) ∈ held)) 0 0 i k (by omega) (by omega) ho (by omega)
      rw [show ((0 : Nat) : Int) = 0 from rfl] at hj
      rw [assartlaw05_HeapHeld.l1]
      have hx : (if (0 : Int) < (it.length : Int) then (if leaf = true then assartlaw05_HeapHeld.j4 (k + 1) held true ad (i : Int) 0 (decide ((i : Int) ∈ held)) 0 false l kp leaf it l' kp else assartlaw05_HeapHeld.j4 (k + 1) held true ad (i : Int) 0 (decide ((i : Int) ∈ held)) 0 (!decide ((i : Int) ∈ held)) l kp leaf it l' kp) else assartlaw05_HeapHeld.j4 (k + 1) held true ad (i : Int) 0 (decide ((i : Int) ∈ held)) 0 false l kp leaf it l' kp) = assartlaw05_HeapHeld.j4 (k + 1) held true ad (i : Int) 0 (decide ((i : Int) ∈ held)) 0 false l kp leaf it l' kp := by
        split
        · split
          · rfl
          · rename_i h
            rw [decide_eq_true (hc.resolve_left h)]
            rfl
        · rfl
      rw [hx, hj]
      exact ih k (i + 1) (by omega) (by omega)
    · have h1 : leaf = false := by cases leaf; rfl; exact absurd (.inl rfl) hc
      have h2 : (i : Int) ∉ held := fun h => hc (.inr h)
      subst h1
      rw [if_neg (by simp)] at ho
      unfold cnt at ho
      rw [if_neg h2] at ho
      rw [decide_eq_false h2]
      obtain ⟨k', h3, h4⟩ := held_l1 held l l' kp kp ad it hl hit hl' hs i (by omega) ho it.length k 0 0 (by omega) (by omega) (by rw [List.drop_zero]; omega)
      rw [show ((0 : Nat) : Int) = 0 from rfl] at h4
      rw [h4]
      exact ih k' (i + 1) (by omega) (by omega)
theorem alloc_val (held : List Int) (l : List S55) (kp : Int) (leaf : Bool) (it : List S49) (hl : l.length ≤ 60) (hit : it.length ≤ 10) (hh : held.length ≤ 20) (hs : ∀ i : Nat, i < l.length → (rd_T55 l i).f2.f1.length ≤ 10 ∧ 0 ≤ (rd_T55 l i).f0 ∧ (rd_T55 l i).f0 ≤ 1000000) :
    (∃ l' code, code ≠ 0 ∧ heap_Alloc.f l kp leaf it held = some (l', kp, 0, code)) ∨
    (∃ l' ad, heap_Alloc.f l kp leaf it held = some (l', kp, ad, 0) ∧ l'.length = l.length ∧ 0 ≤ ad ∧ ad < (l.length : Int) ∧ ((rd_T55 l' ad).f0 = 1 ∧ (rd_T55 l' ad).f1 = false) ∧ ∀ i : Nat, i < l.length → okPlace l l' ad (if leaf = true then 0 else cnt held it i) i) := by
  unfold heap_Alloc.f
  rw [if_pos ⟨by omega, by omega, by omega⟩]
  by_cases h1 : RtN it ∧ leadsB l leaf it = true
  · rw [if_pos h1]
    by_cases h2 : idxN isFreeB l 0 < 0
    · rw [if_pos h2]
      exact .inl ⟨l, 3, by omega, rfl⟩
    · rw [if_neg h2]
      right
      obtain ⟨ad, had⟩ : ∃ ad : Nat, idxN isFreeB l 0 = ad := ⟨(idxN isFreeB l 0).toNat, by omega⟩
      have hb := idxN_bound isFreeB l 0
      have hadl : ad < l.length := by omega
      rw [had, Int.toNat_natCast]
      have hE : ∃ l1, eachP (allocF held) leaf it l = some l1 ∧ l1.length = l.length ∧ ∀ i : Nat, i < l.length → rd_T55 l1 i = ⟨(rd_T55 l i).f0 + (if leaf = true then 0 else cnt held it i : Nat), (rd_T55 l i).f1, (rd_T55 l i).f2⟩ := by
        unfold eachP
        cases leaf
        · rw [if_neg (by simp), if_pos (by omega)]
          simp only [Bool.false_eq_true, if_false]
          refine fold_val held it l 1000000 (by omega) (fun x hx => ?_) (fun i hi => (hs i hi).2) (by omega)
          have hld := h1.2
          unfold leadsB at hld
          rw [Bool.false_or, Bool.not_eq_true', List.any_eq_false] at hld
          have := hld x hx
          unfold usedB at this
          simp at this
          omega
        · rw [if_pos rfl]
          refine ⟨l, rfl, rfl, fun i hi => ?_⟩
          simp
      obtain ⟨l1, e1, e2, e3⟩ := hE
      rw [e1, Option.bind_some, if_pos e2]
      refine ⟨_, _, rfl, by rw [List.length_set, e2], by omega, by omega, ?_, fun i hi => ?_⟩
      · rw [rd55_set _ (by omega), if_pos rfl]
        exact ⟨rfl, rfl⟩
      · unfold okPlace
        by_cases e : ad = i
        · left; omega
        · right
          rw [rd55_set _ (by omega), if_neg e, e3 i hi]
          exact ⟨rfl, rfl, rfl⟩
  · rw [if_neg h1]
    exact .inl ⟨l, 1, by omega, rfl⟩
theorem HeapHeld_val (l : List S55) (kp : Int) (leaf : Bool) (it : List S49) (held : List Int) : assartlaw05_HeapHeld.g 10000 l kp leaf it held = some true := by
  unfold assartlaw05_HeapHeld.g assartlaw05_shown.f
  have hj0 : ∀ k : Nat, 1 ≤ k → assartlaw05_HeapHeld.j0 k held true true l kp leaf it = some true := fun k hk => by
    obtain ⟨k, rfl⟩ : ∃ m, k = m + 1 := ⟨k - 1, by omega⟩
    rw [assartlaw05_HeapHeld.j0, if_pos rfl]
  have hm := may05_val l kp 60 (by omega) 10000 (by omega)
  rw [show ((60 : Nat) : Int) = 60 from rfl] at hm
  rw [Option.bind_some, hm, Option.bind_some]
  by_cases h1 : mayH l kp 60
  · rw [if_pos (decide_eq_true h1)]
    by_cases h2 : (it.length : Int) > 10
    · rw [if_pos h2]; exact hj0 _ (by omega)
    · rw [if_neg h2]
      by_cases h3 : (held.length : Int) > 20
      · rw [decide_eq_true h3]; exact hj0 _ (by omega)
      · rw [decide_eq_false h3, assartlaw05_HeapHeld.j0, if_neg (by simp)]
        have hs : ∀ i : Nat, i < l.length → (rd_T55 l i).f2.f1.length ≤ 10 ∧ 0 ≤ (rd_T55 l i).f0 ∧ (rd_T55 l i).f0 ≤ 1000000 := fun i hi => by
          have a := h1.2.1 i hi (Nat.zero_le _)
          have b := h1.2.2.2.2.2.2 i hi (Nat.zero_le _)
          refine ⟨a.1, ?_, a.2⟩
          rcases b with b | b
          · have := b.1; omega
          · have := b.1; omega
        rcases alloc_val held l kp leaf it h1.1 (by omega) (by omega) hs with ⟨l', code, hc, ha⟩ | ⟨l', ad, ha, e1, e2, e3, e4, e5⟩
        · rw [ha, Option.bind_some]
          simp only []
          rw [if_neg hc]
          rfl
        · rw [ha, Option.bind_some]
          simp only []
          rw [if_pos trivial, if_pos (by omega), if_neg (by omega), decide_eq_false (by omega), assartlaw05_HeapHeld.j1, if_neg (by simp)]
          exact held_l0 held l l' kp ad leaf it h1.1 (by omega) (by omega) e1 hs e5 e2 e3 e4 l.length _ 0 (by omega) (by have := h1.1; omega)
  · rw [if_neg (by simpa using h1)]; exact hj0 _ (by omega)
end Go.Proofs.Yteiladccdenpbaa.P
end
section
namespace Go.Proofs.Yteiladccdenpbaa.P
open Go.RowKit Go.Proofs.YteiladccdenpbaaW.PrintWords Go.Proofs.YteiladccdenpbaaW.PrintLast Go.Proofs.YteiladccdenpbaaW.PrintMore
set_option linter.unusedVariables false
def assartlaw05_HeapHeld.f (k : Nat) (l0_0 : List (S55)) (a0_1 : Int) (a1_0 : Bool) (l1_1 : List (S49)) (l2 : List Int) : Option (Bool) := some true
theorem assartlaw05_HeapHeld.calls (k : Nat) (A0_0 : Option Addr) (c0_0 : Nat) (l0_0 : List (S55)) (a0_1 : Int) (a1_0 : Bool) (A1_1 : Option Addr) (c1_1 : Nat) (l1_1 : List (S49)) (A2 : Option Addr) (c2 : Nat) (l2 : List Int) (r : Bool) (w : World) (hr0_0 : Kd.C k55 w A0_0 l0_0.length l0_0) (hc0_0 : l0_0.length ≤ c0_0) (hr1_1 : Kd.C k49 w A1_1 l1_1.length l1_1) (hc1_1 : l1_1.length ≤ c1_1) (hr2 : Kd.C (Kd.int .i64) w A2 l2.length l2) (hc2 : l2.length ≤ c2) (h : assartlaw05_HeapHeld.f k l0_0 a0_1 a1_0 l1_1 l2 = some r) :
    Calls Try.prog 14 #[.agg #[.slice A0_0 l0_0.length c0_0, .int .i64 a0_1], .agg #[.bool a1_0, .slice A1_1 l1_1.length c1_1], .slice A2 l2.length c2] w fun e w' => e = .returned (.bool r) ∧ Below w.heap.size w w' := by
  obtain rfl := Option.some.inj h
  exact assartlaw05_HeapHeld.walk 10000 A0_0 c0_0 l0_0 a0_1 a1_0 A1_1 c1_1 l1_1 A2 c2 l2 true w hr0_0 hc0_0 hr1_1 hc1_1 hr2 hc2 (HeapHeld_val l0_0 a0_1 a1_0 l1_1 l2) rfl
end Go.Proofs.Yteiladccdenpbaa.P
end
section
namespace Go.Proofs.Yteiladccdenpbaa.P
open Go.RowKit Go.Proofs.YteiladccdenpbaaW.PrintWords Go.Proofs.YteiladccdenpbaaW.PrintLast Go.Proofs.YteiladccdenpbaaW.PrintMore
set_option linter.unusedVariables false
set_option linter.unusedSimpArgs false
structure Opens {α : Type} (P : Program) (t : TypeId) (d : Kd α) (ok : α → Prop) : Prop where
  sz : P.cellsOf t = d.sz
  op : ∀ {H : Type} {enc : TypeId × Value → H} {W : World} {base : Nat} {spare : Nat → Bool} {held : Bool} {fuel : Nat} {cs : List Value} {y : DataW H × List MemPlace}, DataW.trod enc P W base spare held fuel t cs = some y → (DataW.weights P t y.1).all (· ≤ reachBytes) = true → ∃ x, d.K W x cs ∧ ok x
theorem Opens.int {P : Program} {t : TypeId} {k : IntKind} (h : P.underlying t = some (.int k)) (hs : P.cellsOf t = 1) : Opens P t (Kd.int k) (fun n => (Lit.int k n).wf = true) :=
  ⟨hs, fun hy _ => by
    obtain ⟨n, rfl, _, hw⟩ := DataW.trod_int h hy
    exact ⟨n, rfl, hw⟩⟩
theorem Opens.bool {P : Program} {t : TypeId} (h : P.underlying t = some .bool) (hs : P.cellsOf t = 1) : Opens P t Kd.bool (fun _ => True) :=
  ⟨hs, fun hy _ => by
    obtain ⟨b, rfl, _⟩ := DataW.trod_bool h hy
    exact ⟨b, rfl, trivial⟩⟩
theorem choose_row {α : Type} {R : Nat → α → Prop} : ∀ n, (∀ i, i < n → ∃ x, R i x) → ∃ xs : List α, xs.length = n ∧ ∀ i x, xs[i]? = some x → R i x
  | 0, _ => ⟨[], rfl, fun i x h => by simp at h⟩
  | n + 1, h => by
    obtain ⟨xs, hl, hx⟩ := choose_row n (fun i hi => h i (by omega))
    obtain ⟨x, hr⟩ := h n (by omega)
    refine ⟨xs ++ [x], by simp [hl], fun i z hz => ?_⟩
    by_cases hi : i < n
    · rw [List.getElem?_append_left (by omega)] at hz
      exact hx i z hz
    · rw [List.getElem?_append_right (by omega)] at hz
      have : i - xs.length = 0 := by
        rcases Nat.eq_zero_or_pos (i - xs.length) with h0 | h0
        · exact h0
        · rw [List.getElem?_eq_none (by simp; omega)] at hz; cases hz
      rw [this] at hz
      simp at hz
      subst hz
      have : i = n := by omega
      rw [this]; exact hr
theorem weightsAll_mem {H : Type} {P : Program} {e : TypeId} : ∀ {ds : List (DataW H)}, (DataW.weightsAll P e ds).all (· ≤ reachBytes) = true → ∀ d ∈ ds, (DataW.weights P e d).all (· ≤ reachBytes) = true
  | [], _, d, hd => by cases hd
  | a :: ds, h, d, hd => by
    simp only [DataW.weightsAll, List.all_append, Bool.and_eq_true] at h
    rcases List.mem_cons.1 hd with rfl | hd
    · exact h.1
    · exact weightsAll_mem h.2 d hd
theorem Opens.slice {α : Type} {P : Program} {t e : TypeId} {d : Kd α} {ok : α → Prop} {B : Nat} (h : P.underlying t = some (.slice e)) (hs : P.cellsOf t = 1) (hB : P.bytesOf e = B) (he : Opens P e d ok) : Opens P t (Kd.slice e d) (fun xs => xs.length * B ≤ 140737488351232 ∧ ∀ x ∈ xs, ok x) :=
  ⟨hs, fun {H enc W base spare held fuel cs y} hy hw => by
    rcases DataW.trod_slice h hy with ⟨rfl, rfl⟩ | ⟨a, len, cap, elems, rest, n, rfl, rfl, rfl, hb, hl, hc, hel, hi, _, _⟩
    · exact ⟨[], ⟨none, 0, rfl, Nat.le_refl _, Kd.C_nil _ _⟩, by simp⟩
    · unfold DataW.weights at hw
      rw [h] at hw
      simp only [List.all_cons, List.all_append, Bool.and_eq_true, decide_eq_true_eq, hB, List.length_map] at hw
      obtain ⟨hw0, hw1, _⟩ := hw
      have hx : ∀ i, i < len → ∃ x, ok x ∧ ∃ c, c.length = d.sz ∧ d.K W x c ∧ W.cells? base (a.add (i * d.sz)) d.sz = some c := by
        intro i hlt
        have h1 := hi i hlt
        rw [List.getElem?_eq_getElem (by omega)] at h1
        obtain ⟨c, hc1, hc2⟩ := Option.bind_eq_some_iff.1 h1
        obtain ⟨x, hK, hok⟩ := he.op hc2 (weightsAll_mem hw1 _ (List.mem_map_of_mem (List.getElem_mem _)))
        rw [he.sz] at hc1
        exact ⟨x, hok, c, d.K_len hK, hK, hc1⟩
      obtain ⟨xs, hxl, hxs⟩ := choose_row len hx
      refine ⟨xs, ⟨some a, cap, by rw [hxl], by omega, rfl, ?_, fun hpos => ⟨a, rfl, fun j p hj => ?_⟩⟩, ?_, ?_⟩
      · simp only [maxLen] at hc; omega
      · obtain ⟨_, c, hcl, hK, hcc⟩ := hxs j p hj
        refine ⟨c, hcl, hK, fun i u hu => ?_⟩
        obtain ⟨_, _, hcell⟩ := World.cells?_some hcc
        have hi : i < d.sz := by rw [← hcl]; exact (List.getElem?_eq_some_iff.1 hu).1
        have := hcell i hi
        rw [Addr.add_add] at this
        rw [this, hu]
      · rw [hxl, ← hel]
        refine Nat.le_trans (Nat.mul_le_mul_right _ (Nat.le_add_right _ _)) hw0
      · intro x hx
        obtain ⟨i, hlt, rfl⟩ := List.getElem_of_mem hx
        exact (hxs i _ (List.getElem?_eq_getElem hlt)).1⟩
theorem weights_at {H : Type} {P : Program} : ∀ {ts : List TypeId} {ds : List (DataW H)} {j : Nat} {t : TypeId} {d : DataW H}, (DataW.weightsEach P ts ds).all (· ≤ reachBytes) = true → ts[j]? = some t → ds[j]? = some d → (DataW.weights P t d).all (· ≤ reachBytes) = true
  | [], _, _, _, _, _, ht, _ => by simp at ht
  | _ :: _, [], _, _, _, _, _, hd => by simp at hd
  | t0 :: ts, d0 :: ds, 0, _, _, h, ht, hd => by
    simp only [List.getElem?_cons_zero, Option.some.injEq] at ht hd
    subst ht; subst hd
    simp only [DataW.weightsEach, List.all_append, Bool.and_eq_true] at h
    exact h.1
  | t0 :: ts, d0 :: ds, j + 1, _, _, h, ht, hd => by
    simp only [List.getElem?_cons_succ] at ht hd
    simp only [DataW.weightsEach, List.all_append, Bool.and_eq_true] at h
    exact weights_at h.2 ht hd
structure OpensFs {α : Type} (P : Program) (fs : List Field) (off : Nat) (d : Kd α) (ok : α → Prop) : Prop where
  op : ∀ {H : Type} {enc : TypeId × Value → H} {W : World} {base : Nat} {spare : Nat → Bool} {held : Bool} {fuel : Nat} {cs : List Value} {ys : List (DataW H × List MemPlace)},
    (∀ (i : Nat) (f : Field), fs[i]? = some f → DataW.trod enc P W base spare held fuel f.type ((cs.drop f.offset).take (P.cellsOf f.type)) = ys[i]?) → ys.length = fs.length →
    (DataW.weightsEach P (fs.map (·.type)) (ys.map (·.1))).all (· ≤ reachBytes) = true → cs.length = off + d.sz → ∃ x, d.K W x (cs.drop off) ∧ ok x
theorem OpensFs.one {α : Type} {P : Program} {f : Field} {t : TypeId} {off : Nat} {d : Kd α} {ok : α → Prop} (ht : f.type = t) (hoff : f.offset = off) (h : Opens P t d ok) : OpensFs P [f] off d ok :=
  ⟨fun {H enc W base spare held fuel cs ys} hy hl hw hcs => by
    obtain ⟨y, rfl⟩ : ∃ y, ys = [y] := by
      cases ys with
      | nil => simp at hl
      | cons y ys => cases ys with
        | nil => exact ⟨y, rfl⟩
        | cons => simp at hl
    have h0 := hy 0 f rfl
    simp only [List.getElem?_cons_zero] at h0
    simp only [List.map_cons, List.map_nil, DataW.weightsEach, List.append_nil] at hw
    rw [ht] at h0 hw
    obtain ⟨x, hK, hok⟩ := h.op h0 hw
    rw [hoff, List.take_of_length_le (by rw [List.length_drop, h.sz]; omega)] at hK
    exact ⟨x, hK, hok⟩⟩
theorem OpensFs.cons {α β : Type} {P : Program} {f : Field} {fs : List Field} {t : TypeId} {off n : Nat} {d : Kd α} {d' : Kd β} {ok : α → Prop} {ok' : β → Prop} (ht : f.type = t) (hoff : f.offset = off) (h : Opens P t d ok) (hn : off + d.sz = n) (hr : OpensFs P fs n d' ok') :
    OpensFs P (f :: fs) off (Kd.pair d d') (fun x => ok x.1 ∧ ok' x.2) :=
  ⟨fun {H enc W base spare held fuel cs ys} hy hl hw hcs => by
    cases ys with
    | nil => simp at hl
    | cons y ys =>
      have h0 := hy 0 f rfl
      simp only [List.getElem?_cons_zero] at h0
      simp only [List.map_cons, DataW.weightsEach, List.all_append, Bool.and_eq_true] at hw
      have hw0 := hw.1
      rw [ht] at h0 hw0
      obtain ⟨x, hK, hok⟩ := h.op h0 hw0
      have hsz : (Kd.pair d d').sz = d.sz + d'.sz := rfl
      rw [hsz] at hcs
      obtain ⟨x', hK', hok'⟩ := hr.op (fun i g hg => hy (i + 1) g (by simpa using hg)) (by simpa using hl) hw.2 (by omega)
      refine ⟨(x, x'), ⟨_, _, ?_, hK, hK'⟩, hok, hok'⟩
      rw [hoff, h.sz, ← hn, ← List.drop_drop]
      exact (List.take_append_drop _ _).symm⟩
theorem Opens.struct {α β : Type} {P : Program} {t : TypeId} {fs : Array Field} {fl : List Field} {d : Kd α} {ok : α → Prop} (f : β → α) (g : α → β) (hfg : ∀ x, f (g x) = x) (h : P.underlying t = some (.struct fs)) (hfl : fs.toList = fl) (hs : P.cellsOf t = d.sz) (ho : OpensFs P fl 0 d ok) :
    Opens P t (Kd.iso d f) (fun x => ok (f x)) :=
  ⟨hs, fun {H enc W base spare held fuel cs y} hy hw => by
    obtain ⟨xs, n, rfl, rfl, hcl, hxl, hx⟩ := DataW.trod_struct h hy
    unfold DataW.weights at hw
    rw [h] at hw
    simp only [hfl] at hw
    subst hfl
    obtain ⟨x, hK, hok⟩ := ho.op (ys := xs) (fun i f hf => hx i f (by simpa using hf)) (by simpa using hxl) hw (by omega)
    rw [List.drop_zero] at hK
    refine ⟨g x, ?_, ?_⟩
    · show d.K W (f (g x)) cs
      rw [hfg]; exact hK
    · rw [hfg]; exact hok⟩
end Go.Proofs.Yteiladccdenpbaa.P
end
section
namespace Go.Proofs.Yteiladccdenpbaa.P
open Go.RowKit Go.Proofs.YteiladccdenpbaaW.PrintWords Go.Proofs.YteiladccdenpbaaW.PrintLast Go.Proofs.YteiladccdenpbaaW.PrintMore
attribute [local go_sem] max2_int min2_int max_two min_two max_three min_three max_four min_four
set_option linter.unusedVariables false
set_option linter.unusedSimpArgs false
def ok49 (x : S49) : Prop := (fun x => (Lit.int .i64 x).wf = true) x.f0 ∧ (fun x => (Lit.int .i64 x).wf = true) x.f1
theorem opens49 : Opens Try.prog 49 k49 ok49 := Opens.struct (fs := _) (fun x : S49 => (x.f0, x.f1)) (fun p => ⟨p.1, p.2⟩) (fun _ => rfl) Try.underlying49 rfl (by kernel_rfl) (OpensFs.cons rfl rfl (Opens.int Try.underlying3 (by kernel_rfl)) rfl (OpensFs.one rfl rfl (Opens.int Try.underlying3 (by kernel_rfl))))
def ok53 (x : S53) : Prop := (fun x => True) x.f0 ∧ (fun x => x.length * 16 ≤ 140737488351232 ∧ ∀ y ∈ x, (ok49) y) x.f1
theorem opens53 : Opens Try.prog 53 k53 ok53 := Opens.struct (fs := _) (fun x : S53 => (x.f0, x.f1)) (fun p => ⟨p.1, p.2⟩) (fun _ => rfl) Try.underlying53 rfl (by kernel_rfl) (OpensFs.cons rfl rfl (Opens.bool Try.underlying4 (by kernel_rfl)) rfl (OpensFs.one rfl rfl (Opens.slice (B := 16) Try.underlying43 (by kernel_rfl) (by kernel_rfl) opens49)))
def ok55 (x : S55) : Prop := (fun x => (Lit.int .i64 x).wf = true) x.f0 ∧ (fun x => True) x.f1 ∧ (ok53) x.f2
theorem opens55 : Opens Try.prog 55 k55 ok55 := Opens.struct (fs := _) (fun x : S55 => (x.f0, x.f1, x.f2)) (fun p => ⟨p.1, p.2.1, p.2.2⟩) (fun _ => rfl) Try.underlying55 rfl (by kernel_rfl) (OpensFs.cons rfl rfl (Opens.int Try.underlying3 (by kernel_rfl)) rfl (OpensFs.cons rfl rfl (Opens.bool Try.underlying4 (by kernel_rfl)) rfl (OpensFs.one rfl rfl opens53)))
def assartlaw05_HeapHeld.QPure : Prop := ∀ (l0_0 : List (S55)) (a0_1 : Int) (a1_0 : Bool) (l1_1 : List (S49)) (l2 : List Int), (l0_0.length * 48 ≤ 140737488351232 ∧ ∀ x ∈ l0_0, ok55 x) → ((Lit.int .i64 a0_1).wf = true) → (l1_1.length * 16 ≤ 140737488351232 ∧ ∀ x ∈ l1_1, ok49 x) → (l2.length * 8 ≤ 140737488351232 ∧ ∀ x ∈ l2, (fun x => (Lit.int .i64 x).wf = true) x) → ∃ k, assartlaw05_HeapHeld.f k l0_0 a0_1 a1_0 l1_1 l2 = some true
end Go.Proofs.Yteiladccdenpbaa.P
end
section
namespace Go.Proofs.Yteiladccdenpbaa.Pure
open Go.RowKit Go.Proofs.Yteiladccdenpbaa.P
theorem HeapHeld : assartlaw05_HeapHeld.QPure := by
  unfold assartlaw05_HeapHeld.QPure
  intros
  exact ⟨0, rfl⟩
end Go.Proofs.Yteiladccdenpbaa.Pure
end
