/- Texts of this claim's proof put together: F62, F32, F34, F16, HAt, PTree0, PTr, F21, F23, F24, F27, HBelow, HItems. -/
import Derived.Below
import Derived.Deep.Draws
import Derived.Deep.AppendLies
import Derived.Maps.AppendAt
import Derived.OwnWalk
import Derived.Laws.BytesArg
import Derived.Laws.MakeOwn
import Derived.Laws.OwnMore
import Derived.Deep.OwnRows
import Derived.Tactics
import Derived.Lib.ConvBytes
import Derived.Laws.Slices
import Derived.WalkKit
import Derived.KernelRfl
import Derived.RowKit3
import Derived.Deep.LoopGhost
import Derived.Deep.QuietTactic
import Derived.BigQuiet
import Derived.WideLaws
import Derived.Deep.DeepCutAuto
import Derived.Deep.CutBlock
import Derived.Deep.RegionHeld3
import Derived.Laws.Rows
import Derived.Lib.AppendStr
import Derived.ArgAppend
import Derived.Laws.IdiomCopy
import Derived.RowKit
import Derived.OrdersHeld
import Derived.Laws.BitsLemmas
import Derived.Laws.StructEq
import Derived.Test.YteiladccdenpbaaProg
import Derived.Shelf.RegionOpenPlain
import Derived.Shelf.Abstract
import Derived.RangeFuncNested
import Derived.RangeFuncBound
import Derived.RangeFuncCalls
import Derived.RangeFuncLeaves
import Derived.Shelf.RegionOpen
import Derived.OwnWalkIn
import Derived.TacticsInMore
import Derived.LoopNIn
import Derived.LoopIn
import Derived.Laws.EntriesVeiled
import Derived.RangeFuncBox
import Derived.Laws.CopyOwn
import Derived.Lib.SlBuf
import Derived.ChangeArms
import Derived.DataReads
import Derived.DataElems
import Derived.SizedLaws
import Derived.Test.YteiladccdenpbaaRows
import Derived.ProofKit
import Derived.OpenShut
import Derived.ShutString
import Derived.ChangeOld
import Derived.Test.YteiladccdenpbaaKTreeStays0
namespace Foot
end Foot
namespace Go.Proofs.Yteiladccdenpbaa
end Go.Proofs.Yteiladccdenpbaa
namespace Go.Proofs.Yteiladccdenpbaa.P
end Go.Proofs.Yteiladccdenpbaa.P
namespace Go.Proofs.Yteiladccdenpbaa.treeStays
end Go.Proofs.Yteiladccdenpbaa.treeStays
namespace Go.Proofs.YteiladccdenpbaaW.PrintLast
end Go.Proofs.YteiladccdenpbaaW.PrintLast
namespace Go.Proofs.YteiladccdenpbaaW.PrintMore
end Go.Proofs.YteiladccdenpbaaW.PrintMore
namespace Go.Proofs.YteiladccdenpbaaW.PrintWords
end Go.Proofs.YteiladccdenpbaaW.PrintWords
namespace Kd
end Kd
section
namespace Go.Proofs.Yteiladccdenpbaa.P
open Go.RowKit Go.Proofs.YteiladccdenpbaaW.PrintWords Go.Proofs.YteiladccdenpbaaW.PrintLast Go.Proofs.YteiladccdenpbaaW.PrintMore
attribute [local go_sem] max2_int min2_int max_two min_two max_three min_three max_four min_four
set_option linter.unusedVariables false
set_option linter.unusedSimpArgs false
def assartref05_cell.f (k : Nat) (l0_0 : List (S55)) (a0_1 : Int) (a1_0 : Int) (a1_1 : Bool) (a1_2 : Bool) (l1_3 : List (S49)) : Option (Bool) := if a1_0 = 0 then (if a1_2 = true then (some false) else (some ((l1_3.length : Int) == 0))) else ((assartref04_Right.f k a1_2 l1_3).bind fun t176 => (if a1_0 > 0 then (if a1_0 ≤ 2147483647 then (if a1_1 = true then (some false) else (if t176 = true then ((assartref05_places.f k l0_0 a0_1 a1_2 l1_3).bind fun t177 => (some t177)) else (some false))) else (some false)) else (some false)))
set_option maxHeartbeats 8000000 in
set_option maxRecDepth 100000 in
theorem assartref05_cell.calls (k : Nat) (A0_0 : Option Addr) (c0_0 : Nat) (l0_0 : List (S55)) (a0_1 : Int) (a1_0 : Int) (a1_1 : Bool) (a1_2 : Bool) (A1_3 : Option Addr) (c1_3 : Nat) (l1_3 : List (S49)) (r : Bool) (w : World) (hr0_0 : Kd.C k55 w A0_0 l0_0.length l0_0) (hc0_0 : l0_0.length ≤ c0_0) (hr1_3 : Kd.C k49 w A1_3 l1_3.length l1_3) (hc1_3 : l1_3.length ≤ c1_3) (h : assartref05_cell.f k l0_0 a0_1 a1_0 a1_1 a1_2 l1_3 = some r) :
  Calls Try.prog 62 #[.agg #[.slice A0_0 l0_0.length c0_0, .int .i64 a0_1], .agg #[.int .i64 a1_0, .bool a1_1, .bool a1_2, .slice A1_3 l1_3.length c1_3]] w fun e w' => e = .returned (.bool r) ∧ Below w.heap.size w w' := by
 have hu24 := Try.underlying24
 have hu55 := Try.underlying55
 have hu53 := Try.underlying53
 have HR0_0 := Aside0.mk hr0_0
 have HC0_0 := Aside0.mk hc0_0
 clear hr0_0 hc0_0
 have HR1_3 := Aside0.mk hr1_3
 have HC1_3 := Aside0.mk hc1_3
 clear hr1_3 hc1_3
 have HB := Aside0.mk (Below.refl w.heap.size w)
 have H : (if a1_0 = 0 then (if a1_2 = true then (some false) else (some ((l1_3.length : Int) == 0))) else ((assartref04_Right.f k a1_2 l1_3).bind fun t176 => (if a1_0 > 0 then (if a1_0 ≤ 2147483647 then (if a1_1 = true then (some false) else (if t176 = true then ((assartref05_places.f k l0_0 a0_1 a1_2 l1_3).bind fun t177 => (some t177)) else (some false))) else (some false)) else (some false)))) = some r := h
 clear h
 by_cases c3 : a1_0 = 0
 ·rw [if_pos c3] at H
  have c3b0 : (a1_0 == 0) = true := beq_iff_eq.mpr c3
  have c3b1 : (a1_0 != 0) = false := bne_eq_false_iff_eq.mpr c3
  clear c3
  by_cases c4 : a1_2 = true
  ·subst c4
   have H1 : (some false) = some r := by rw [if_pos rfl] at H; exact H
   clear H
   have H := H1
   clear H1
   obtain rfl := Option.some.inj H
   go_enter Try.func62, Try.ntmps62
   go_wp2_with (first | ((with_reducible refine gate_dst (N := 2) rfl ?_); (try (refine gate_guard (by rfl) ?_; dsimp only)); refine box_event ?hg (N := 2) ?hd (cs := #[.slice A0_0 l0_0.length c0_0, .int .i64 a0_1]) (t := 24) ?hr ?_; (case hd => rfl); (case hg => rfl); (case hr => first | (go_simp; done) | (go_simp; rfl)); intro gb174 hg w5 hbox hb; have n0_ := Aside0.mk (below_step (by repeat (first | (with_reducible first | exact HB.out | apply below_alloc | apply pw_below_drewN | apply below_drew1) | exact HB.out)) hb); have n1_ := Aside0.mk (hbox); have n2_ := Aside0.mk ((by rw [hg]; exact (below_size (by repeat (first | (with_reducible first | exact HB.out | apply below_alloc | apply pw_below_drewN | apply below_drew1) | exact HB.out))) : w.heap.size ≤ gb174)); have n3_ := Aside0.mk ((by rw [hg]; exact (below_size (by repeat (first | (with_reducible first | exact HB.out | apply below_alloc | apply pw_below_drewN | apply below_drew1) | exact HB.out))) : w.heap.size ≤ gb174)); clear HB; have HB := n0_; have BK174 := n1_; have GW174 := n2_; have GE174 := n3_; clear n0_ n1_ n2_ n3_; clear hb hbox hg) | ((with_reducible refine gate_dst (N := 3) rfl ?_); (try (refine gate_guard (by rfl) ?_; dsimp only)); refine box_event ?hg (N := 3) ?hd (cs := #[.int .i64 a1_0, .bool a1_1, .bool true, .slice A1_3 l1_3.length c1_3]) (t := 55) ?hr ?_; (case hd => rfl); (case hg => rfl); (case hr => first | (go_simp; done) | (go_simp; rfl)); intro gb175 hg w6 hbox hb; have n0_ := Aside0.mk (blk_below (g := gb174) (o := .cells #[.slice A0_0 l0_0.length c0_0, .int .i64 a0_1] 24 (0, 0)) (by (with_reducible repeat (first | refine blk_drewN ?_ _ | refine blk_drew ?_ | refine blk_alloc ?_ _)); exact BK174.out) hb); have n1_ := Aside0.mk (below_step (by repeat (first | (with_reducible first | exact HB.out | apply below_alloc | apply pw_below_drewN | apply below_drew1 | refine below_set ?_ GE174.out) | exact HB.out)) hb); have n2_ := Aside0.mk (hbox); have n3_ := Aside0.mk ((by rw [hg]; exact (below_size (by repeat (first | (with_reducible first | exact HB.out | apply below_alloc | apply pw_below_drewN | apply below_drew1 | refine below_set ?_ GE174.out) | exact HB.out))) : w.heap.size ≤ gb175)); have n4_ := Aside0.mk ((by rw [hg]; exact (below_size (by repeat (first | (with_reducible first | exact HB.out | apply below_alloc | apply pw_below_drewN | apply below_drew1 | refine below_set ?_ GE174.out) | exact HB.out))) : w.heap.size ≤ gb175)); have n5_ := Aside0.mk ((by rw [hg]; exact Nat.ne_of_lt (blk_lt (g := gb174) (o := .cells #[.slice A0_0 l0_0.length c0_0, .int .i64 a0_1] 24 (0, 0)) (by (with_reducible repeat (first | refine blk_drewN ?_ _ | refine blk_drew ?_ | refine blk_alloc ?_ _)); exact BK174.out)) : gb174 ≠ gb175)); have n6_ := Aside0.mk ((by rw [hg]; exact Nat.ne_of_gt (blk_lt (g := gb174) (o := .cells #[.slice A0_0 l0_0.length c0_0, .int .i64 a0_1] 24 (0, 0)) (by (with_reducible repeat (first | refine blk_drewN ?_ _ | refine blk_drew ?_ | refine blk_alloc ?_ _)); exact BK174.out)) : gb175 ≠ gb174)); clear BK174; clear HB; have BK174 := n0_; have HB := n1_; have BK175 := n2_; have GW175 := n3_; have GE175 := n4_; have NB174_175 := n5_; have NB175_174 := n6_; clear n0_ n1_ n2_ n3_ n4_ n5_ n6_; clear hb hbox hg; have hnb7 := NB175_174.out; have hnc7 := NB174_175.out; have hcz8_0 : w6.cell? ⟨gb175, 0, none⟩ = some (.int .i64 a1_0) := (blk_cell BK175.out 0).trans rfl; have hcz8_1 : w6.cell? ⟨gb175, 1, none⟩ = some (.bool a1_1) := (blk_cell BK175.out 1).trans rfl; have hcz8_2 : w6.cell? ⟨gb175, 2, none⟩ = some (.bool true) := (blk_cell BK175.out 2).trans rfl; have hcz8_3 : w6.cell? ⟨gb175, 3, none⟩ = some (.slice A1_3 l1_3.length c1_3) := (blk_cell BK175.out 3).trans rfl; have hfz8_0 := blk_frozen BK175.out 0; have hfz8_1 := blk_frozen BK175.out 1; have hfz8_2 := blk_frozen BK175.out 2; have hfz8_3 := blk_frozen BK175.out 3))
   go_ret
   exact ⟨by first | rfl | (simp [errW_none, errW_some] <;> rfl) | (simp [*, errW_none, errW_some] <;> rfl), by repeat (first | (with_reducible first | exact HB.out | apply below_alloc | apply pw_below_drewN | apply below_drew1 | refine below_set ?_ GE174.out | refine below_set ?_ GE175.out) | exact HB.out)⟩
  ·replace c4 := Bool.eq_false_iff.mpr c4
   subst c4
   have H1 : (some ((l1_3.length : Int) == 0)) = some r := by rw [if_neg (show ¬ (false = true) by decide)] at H; exact H
   clear H
   have H := H1
   clear H1
   obtain rfl := Option.some.inj H
   go_enter Try.func62, Try.ntmps62
   go_wp2_with (first | ((with_reducible refine gate_dst (N := 2) rfl ?_); (try (refine gate_guard (by rfl) ?_; dsimp only)); refine box_event ?hg (N := 2) ?hd (cs := #[.slice A0_0 l0_0.length c0_0, .int .i64 a0_1]) (t := 24) ?hr ?_; (case hd => rfl); (case hg => rfl); (case hr => first | (go_simp; done) | (go_simp; rfl)); intro gb174 hg w9 hbox hb; have n0_ := Aside0.mk (below_step (by repeat (first | (with_reducible first | exact HB.out | apply below_alloc | apply pw_below_drewN | apply below_drew1) | exact HB.out)) hb); have n1_ := Aside0.mk (hbox); have n2_ := Aside0.mk ((by rw [hg]; exact (below_size (by repeat (first | (with_reducible first | exact HB.out | apply below_alloc | apply pw_below_drewN | apply below_drew1) | exact HB.out))) : w.heap.size ≤ gb174)); have n3_ := Aside0.mk ((by rw [hg]; exact (below_size (by repeat (first | (with_reducible first | exact HB.out | apply below_alloc | apply pw_below_drewN | apply below_drew1) | exact HB.out))) : w.heap.size ≤ gb174)); clear HB; have HB := n0_; have BK174 := n1_; have GW174 := n2_; have GE174 := n3_; clear n0_ n1_ n2_ n3_; clear hb hbox hg) | ((with_reducible refine gate_dst (N := 3) rfl ?_); (try (refine gate_guard (by rfl) ?_; dsimp only)); refine box_event ?hg (N := 3) ?hd (cs := #[.int .i64 a1_0, .bool a1_1, .bool false, .slice A1_3 l1_3.length c1_3]) (t := 55) ?hr ?_; (case hd => rfl); (case hg => rfl); (case hr => first | (go_simp; done) | (go_simp; rfl)); intro gb175 hg w10 hbox hb; have n0_ := Aside0.mk (blk_below (g := gb174) (o := .cells #[.slice A0_0 l0_0.length c0_0, .int .i64 a0_1] 24 (0, 0)) (by (with_reducible repeat (first | refine blk_drewN ?_ _ | refine blk_drew ?_ | refine blk_alloc ?_ _)); exact BK174.out) hb); have n1_ := Aside0.mk (below_step (by repeat (first | (with_reducible first | exact HB.out | apply below_alloc | apply pw_below_drewN | apply below_drew1 | refine below_set ?_ GE174.out) | exact HB.out)) hb); have n2_ := Aside0.mk (hbox); have n3_ := Aside0.mk ((by rw [hg]; exact (below_size (by repeat (first | (with_reducible first | exact HB.out | apply below_alloc | apply pw_below_drewN | apply below_drew1 | refine below_set ?_ GE174.out) | exact HB.out))) : w.heap.size ≤ gb175)); have n4_ := Aside0.mk ((by rw [hg]; exact (below_size (by repeat (first | (with_reducible first | exact HB.out | apply below_alloc | apply pw_below_drewN | apply below_drew1 | refine below_set ?_ GE174.out) | exact HB.out))) : w.heap.size ≤ gb175)); have n5_ := Aside0.mk ((by rw [hg]; exact Nat.ne_of_lt (blk_lt (g := gb174) (o := .cells #[.slice A0_0 l0_0.length c0_0, .int .i64 a0_1] 24 (0, 0)) (by (with_reducible repeat (first | refine blk_drewN ?_ _ | refine blk_drew ?_ | refine blk_alloc ?_ _)); exact BK174.out)) : gb174 ≠ gb175)); have n6_ := Aside0.mk ((by rw [hg]; exact Nat.ne_of_gt (blk_lt (g := gb174) (o := .cells #[.slice A0_0 l0_0.length c0_0, .int .i64 a0_1] 24 (0, 0)) (by (with_reducible repeat (first | refine blk_drewN ?_ _ | refine blk_drew ?_ | refine blk_alloc ?_ _)); exact BK174.out)) : gb175 ≠ gb174)); clear BK174; clear HB; have BK174 := n0_; have HB := n1_; have BK175 := n2_; have GW175 := n3_; have GE175 := n4_; have NB174_175 := n5_; have NB175_174 := n6_; clear n0_ n1_ n2_ n3_ n4_ n5_ n6_; clear hb hbox hg; have hnb11 := NB175_174.out; have hnc11 := NB174_175.out; have hcz12_0 : w10.cell? ⟨gb175, 0, none⟩ = some (.int .i64 a1_0) := (blk_cell BK175.out 0).trans rfl; have hcz12_1 : w10.cell? ⟨gb175, 1, none⟩ = some (.bool a1_1) := (blk_cell BK175.out 1).trans rfl; have hcz12_2 : w10.cell? ⟨gb175, 2, none⟩ = some (.bool false) := (blk_cell BK175.out 2).trans rfl; have hcz12_3 : w10.cell? ⟨gb175, 3, none⟩ = some (.slice A1_3 l1_3.length c1_3) := (blk_cell BK175.out 3).trans rfl; have hfz12_0 := blk_frozen BK175.out 0; have hfz12_1 := blk_frozen BK175.out 1; have hfz12_2 := blk_frozen BK175.out 2; have hfz12_3 := blk_frozen BK175.out 3))
   go_ret
   exact ⟨by first | rfl | (simp [errW_none, errW_some] <;> rfl) | (simp [*, errW_none, errW_some] <;> rfl), by repeat (first | (with_reducible first | exact HB.out | apply below_alloc | apply pw_below_drewN | apply below_drew1 | refine below_set ?_ GE174.out | refine below_set ?_ GE175.out) | exact HB.out)⟩
 ·rw [if_neg c3] at H
  have c3b0 : (a1_0 == 0) = false := beq_eq_false_iff_ne.mpr c3
  have c3b1 : (a1_0 != 0) = true := bne_iff_ne.mpr c3
  replace H := Option.bind_eq_some_iff.mp H
  obtain ⟨t176, A130, H⟩ := H
  replace H : (if a1_0 > 0 then (if a1_0 ≤ 2147483647 then (if a1_1 = true then (some false) else (if t176 = true then ((assartref05_places.f k l0_0 a0_1 a1_2 l1_3).bind fun t177 => (some t177)) else (some false))) else (some false)) else (some false)) = some r := H
  have A13 := Aside0.mk A130
  clear A130
  by_cases c14 : a1_0 > 0
  ·rw [if_pos c14] at H
   have c14b0 : decide (0 < a1_0) = true := decide_eq_true c14
   clear c14
   by_cases c15 : a1_0 ≤ 2147483647
   ·rw [if_pos c15] at H
    have c15b0 : decide (a1_0 ≤ 2147483647) = true := decide_eq_true c15
    clear c15
    by_cases c16 : a1_1 = true
    ·subst c16
     have H1 : (some false) = some r := by rw [if_pos rfl] at H; exact H
     clear H
     have H := H1
     clear H1
     obtain rfl := Option.some.inj H
     go_enter Try.func62, Try.ntmps62
     go_wp2_with (first | ((with_reducible refine gate_dst (N := 2) rfl ?_); (try (refine gate_guard (by rfl) ?_; dsimp only)); refine box_event ?hg (N := 2) ?hd (cs := #[.slice A0_0 l0_0.length c0_0, .int .i64 a0_1]) (t := 24) ?hr ?_; (case hd => rfl); (case hg => rfl); (case hr => first | (go_simp; done) | (go_simp; rfl)); intro gb174 hg w17 hbox hb; have n0_ := Aside0.mk (below_step (by repeat (first | (with_reducible first | exact HB.out | apply below_alloc | apply pw_below_drewN | apply below_drew1) | exact HB.out)) hb); have n1_ := Aside0.mk (hbox); have n2_ := Aside0.mk ((by rw [hg]; exact (below_size (by repeat (first | (with_reducible first | exact HB.out | apply below_alloc | apply pw_below_drewN | apply below_drew1) | exact HB.out))) : w.heap.size ≤ gb174)); have n3_ := Aside0.mk ((by rw [hg]; exact (below_size (by repeat (first | (with_reducible first | exact HB.out | apply below_alloc | apply pw_below_drewN | apply below_drew1) | exact HB.out))) : w.heap.size ≤ gb174)); clear HB; have HB := n0_; have BK174 := n1_; have GW174 := n2_; have GE174 := n3_; clear n0_ n1_ n2_ n3_; clear hb hbox hg) | ((with_reducible refine gate_dst (N := 3) rfl ?_); (try (refine gate_guard (by rfl) ?_; dsimp only)); refine box_event ?hg (N := 3) ?hd (cs := #[.int .i64 a1_0, .bool true, .bool a1_2, .slice A1_3 l1_3.length c1_3]) (t := 55) ?hr ?_; (case hd => rfl); (case hg => rfl); (case hr => first | (go_simp; done) | (go_simp; rfl)); intro gb175 hg w18 hbox hb; have n0_ := Aside0.mk (blk_below (g := gb174) (o := .cells #[.slice A0_0 l0_0.length c0_0, .int .i64 a0_1] 24 (0, 0)) (by (with_reducible repeat (first | refine blk_drewN ?_ _ | refine blk_drew ?_ | refine blk_alloc ?_ _)); exact BK174.out) hb); have n1_ := Aside0.mk (below_step (by repeat (first | (with_reducible first | exact HB.out | apply below_alloc | apply pw_below_drewN | apply below_drew1 | refine below_set ?_ GE174.out) | exact HB.out)) hb); have n2_ := Aside0.mk (hbox); have n3_ := Aside0.mk ((by rw [hg]; exact (below_size (by repeat (first | (with_reducible first | exact HB.out | apply below_alloc | apply pw_below_drewN | apply below_drew1 | refine below_set ?_ GE174.out) | exact HB.out))) : w.heap.size ≤ gb175)); have n4_ := Aside0.mk ((by rw [hg]; exact (below_size (by repeat (first | (with_reducible first | exact HB.out | apply below_alloc | apply pw_below_drewN | apply below_drew1 | refine below_set ?_ GE174.out) | exact HB.out))) : w.heap.size ≤ gb175)); have n5_ := Aside0.mk ((by rw [hg]; exact Nat.ne_of_lt (blk_lt (g := gb174) (o := .cells #[.slice A0_0 l0_0.length c0_0, .int .i64 a0_1] 24 (0, 0)) (by (with_reducible repeat (first | refine blk_drewN ?_ _ | refine blk_drew ?_ | refine blk_alloc ?_ _)); exact BK174.out)) : gb174 ≠ gb175)); have n6_ := Aside0.mk ((by rw [hg]; exact Nat.ne_of_gt (blk_lt (g := gb174) (o := .cells #[.slice A0_0 l0_0.length c0_0, .int .i64 a0_1] 24 (0, 0)) (by (with_reducible repeat (first | refine blk_drewN ?_ _ | refine blk_drew ?_ | refine blk_alloc ?_ _)); exact BK174.out)) : gb175 ≠ gb174)); clear BK174; clear HB; have BK174 := n0_; have HB := n1_; have BK175 := n2_; have GW175 := n3_; have GE175 := n4_; have NB174_175 := n5_; have NB175_174 := n6_; clear n0_ n1_ n2_ n3_ n4_ n5_ n6_; clear hb hbox hg; have hnb19 := NB175_174.out; have hnc19 := NB174_175.out; have hcz20_0 : w18.cell? ⟨gb175, 0, none⟩ = some (.int .i64 a1_0) := (blk_cell BK175.out 0).trans rfl; have hcz20_1 : w18.cell? ⟨gb175, 1, none⟩ = some (.bool true) := (blk_cell BK175.out 1).trans rfl; have hcz20_2 : w18.cell? ⟨gb175, 2, none⟩ = some (.bool a1_2) := (blk_cell BK175.out 2).trans rfl; have hcz20_3 : w18.cell? ⟨gb175, 3, none⟩ = some (.slice A1_3 l1_3.length c1_3) := (blk_cell BK175.out 3).trans rfl; have hfz20_0 := blk_frozen BK175.out 0; have hfz20_1 := blk_frozen BK175.out 1; have hfz20_2 := blk_frozen BK175.out 2; have hfz20_3 := blk_frozen BK175.out 3) | ((with_reducible refine gate_callee (f := 54) rfl ?_); refine goesL_ (some 22) rfl rfl Try.func54 (by kernel_rfl) rfl #[.agg #[.bool a1_2, .slice A1_3 l1_3.length c1_3]] rfl (by (try simp only [List.map_toArray, List.map_cons, List.map_nil]); first | done | rfl | (simp only [List.length_drop, List.length_take]; rfl)) ?_; (with_reducible refine (assartref04_Right.calls k a1_2 _ _ l1_3 t176 _ ?side1 ?side2 A13.out).mono ?_); (case side1 => repeat (first | exact (Kd.C_below HR1_3.out HB.out) | (with_reducible refine Kd.C_alloc ?_ _) | (with_reducible refine Kd.C_drewN ?_ _) | (with_reducible refine Kd.C_drew ?_))); (case side2 => exact HC1_3.out); rintro e w21 ⟨rfl, hb⟩; refine ⟨_, rfl, ?_⟩; have n0_ := Aside0.mk (blk_below (g := gb174) (o := .cells #[.slice A0_0 l0_0.length c0_0, .int .i64 a0_1] 24 (0, 0)) (by (with_reducible repeat (first | refine blk_drewN ?_ _ | refine blk_drew ?_ | refine blk_alloc ?_ _)); exact BK174.out) hb); have n1_ := Aside0.mk (blk_below (g := gb175) (o := .cells #[.int .i64 a1_0, .bool true, .bool a1_2, .slice A1_3 l1_3.length c1_3] 55 (0, 0)) (by (with_reducible repeat (first | refine blk_drewN ?_ _ | refine blk_drew ?_ | refine blk_alloc ?_ _)); exact BK175.out) hb); have n2_ := Aside0.mk (below_step (by repeat (first | (with_reducible first | exact HB.out | apply below_alloc | apply pw_below_drewN | apply below_drew1 | refine below_set ?_ GE174.out | refine below_set ?_ GE175.out) | exact HB.out)) hb); clear BK174; clear BK175; clear HB; have BK174 := n0_; have BK175 := n1_; have HB := n2_; clear n0_ n1_ n2_; (try clear hb); (try clear hb2); (try clear hk); (try clear hi); have hcz22_0 : w21.cell? ⟨gb175, 0, none⟩ = some (.int .i64 a1_0) := (blk_cell BK175.out 0).trans rfl; have hcz22_1 : w21.cell? ⟨gb175, 1, none⟩ = some (.bool true) := (blk_cell BK175.out 1).trans rfl; have hcz22_2 : w21.cell? ⟨gb175, 2, none⟩ = some (.bool a1_2) := (blk_cell BK175.out 2).trans rfl; have hcz22_3 : w21.cell? ⟨gb175, 3, none⟩ = some (.slice A1_3 l1_3.length c1_3) := (blk_cell BK175.out 3).trans rfl; have hfz22_0 := blk_frozen BK175.out 0; have hfz22_1 := blk_frozen BK175.out 1; have hfz22_2 := blk_frozen BK175.out 2; have hfz22_3 := blk_frozen BK175.out 3))
     go_ret
     exact ⟨by first | rfl | (simp [errW_none, errW_some] <;> rfl) | (simp [*, errW_none, errW_some] <;> rfl), by repeat (first | (with_reducible first | exact HB.out | apply below_alloc | apply pw_below_drewN | apply below_drew1 | refine below_set ?_ GE174.out | refine below_set ?_ GE175.out) | exact HB.out)⟩
    ·replace c16 := Bool.eq_false_iff.mpr c16
     subst c16
     have H1 : (if t176 = true then ((assartref05_places.f k l0_0 a0_1 a1_2 l1_3).bind fun t177 => (some t177)) else (some false)) = some r := by rw [if_neg (show ¬ (false = true) by decide)] at H; exact H
     clear H
     have H := H1
     clear H1
     by_cases c23 : t176 = true
     ·subst c23
      have H1 : ((assartref05_places.f k l0_0 a0_1 a1_2 l1_3).bind fun t177 => (some t177)) = some r := by rw [if_pos rfl] at H; exact H
      clear H
      have H := H1
      clear H1
      replace H := Option.bind_eq_some_iff.mp H
      obtain ⟨t177, A240, H⟩ := H
      replace H : (some t177) = some r := H
      have A24 := Aside0.mk A240
      clear A240
      obtain rfl := Option.some.inj H
      go_enter Try.func62, Try.ntmps62
      go_wp2_with (first | ((with_reducible refine gate_dst (N := 2) rfl ?_); (try (refine gate_guard (by rfl) ?_; dsimp only)); refine box_event ?hg (N := 2) ?hd (cs := #[.slice A0_0 l0_0.length c0_0, .int .i64 a0_1]) (t := 24) ?hr ?_; (case hd => rfl); (case hg => rfl); (case hr => first | (go_simp; done) | (go_simp; rfl)); intro gb174 hg w25 hbox hb; have n0_ := Aside0.mk (below_step (by repeat (first | (with_reducible first | exact HB.out | apply below_alloc | apply pw_below_drewN | apply below_drew1) | exact HB.out)) hb); have n1_ := Aside0.mk (hbox); have n2_ := Aside0.mk ((by rw [hg]; exact (below_size (by repeat (first | (with_reducible first | exact HB.out | apply below_alloc | apply pw_below_drewN | apply below_drew1) | exact HB.out))) : w.heap.size ≤ gb174)); have n3_ := Aside0.mk ((by rw [hg]; exact (below_size (by repeat (first | (with_reducible first | exact HB.out | apply below_alloc | apply pw_below_drewN | apply below_drew1) | exact HB.out))) : w.heap.size ≤ gb174)); clear HB; have HB := n0_; have BK174 := n1_; have GW174 := n2_; have GE174 := n3_; clear n0_ n1_ n2_ n3_; clear hb hbox hg) | ((with_reducible refine gate_dst (N := 3) rfl ?_); (try (refine gate_guard (by rfl) ?_; dsimp only)); refine box_event ?hg (N := 3) ?hd (cs := #[.int .i64 a1_0, .bool false, .bool a1_2, .slice A1_3 l1_3.length c1_3]) (t := 55) ?hr ?_; (case hd => rfl); (case hg => rfl); (case hr => first | (go_simp; done) | (go_simp; rfl)); intro gb175 hg w26 hbox hb; have n0_ := Aside0.mk (blk_below (g := gb174) (o := .cells #[.slice A0_0 l0_0.length c0_0, .int .i64 a0_1] 24 (0, 0)) (by (with_reducible repeat (first | refine blk_drewN ?_ _ | refine blk_drew ?_ | refine blk_alloc ?_ _)); exact BK174.out) hb); have n1_ := Aside0.mk (below_step (by repeat (first | (with_reducible first | exact HB.out | apply below_alloc | apply pw_below_drewN | apply below_drew1 | refine below_set ?_ GE174.out) | exact HB.out)) hb); have n2_ := Aside0.mk (hbox); have n3_ := Aside0.mk ((by rw [hg]; exact (below_size (by repeat (first | (with_reducible first | exact HB.out | apply below_alloc | apply pw_below_drewN | apply below_drew1 | refine below_set ?_ GE174.out) | exact HB.out))) : w.heap.size ≤ gb175)); have n4_ := Aside0.mk ((by rw [hg]; exact (below_size (by repeat (first | (with_reducible first | exact HB.out | apply below_alloc | apply pw_below_drewN | apply below_drew1 | refine below_set ?_ GE174.out) | exact HB.out))) : w.heap.size ≤ gb175)); have n5_ := Aside0.mk ((by rw [hg]; exact Nat.ne_of_lt (blk_lt (g := gb174) (o := .cells #[.slice A0_0 l0_0.length c0_0, .int .i64 a0_1] 24 (0, 0)) (by (with_reducible repeat (first | refine blk_drewN ?_ _ | refine blk_drew ?_ | refine blk_alloc ?_ _)); exact BK174.out)) : gb174 ≠ gb175)); have n6_ := Aside0.mk ((by rw [hg]; exact Nat.ne_of_gt (blk_lt (g := gb174) (o := .cells #[.slice A0_0 l0_0.length c0_0, .int .i64 a0_1] 24 (0, 0)) (by (with_reducible repeat (first | refine blk_drewN ?_ _ | refine blk_drew ?_ | refine blk_alloc ?_ _)); exact BK174.out)) : gb175 ≠ gb174)); clear BK174; clear HB; have BK174 := n0_; have HB := n1_; have BK175 := n2_; have GW175 := n3_; have GE175 := n4_; have NB174_175 := n5_; have NB175_174 := n6_; clear n0_ n1_ n2_ n3_ n4_ n5_ n6_; clear hb hbox hg; have hnb27 := NB175_174.out; have hnc27 := NB174_175.out; have hcz28_0 : w26.cell? ⟨gb175, 0, none⟩ = some (.int .i64 a1_0) := (blk_cell BK175.out 0).trans rfl; have hcz28_1 : w26.cell? ⟨gb175, 1, none⟩ = some (.bool false) := (blk_cell BK175.out 1).trans rfl; have hcz28_2 : w26.cell? ⟨gb175, 2, none⟩ = some (.bool a1_2) := (blk_cell BK175.out 2).trans rfl; have hcz28_3 : w26.cell? ⟨gb175, 3, none⟩ = some (.slice A1_3 l1_3.length c1_3) := (blk_cell BK175.out 3).trans rfl; have hfz28_0 := blk_frozen BK175.out 0; have hfz28_1 := blk_frozen BK175.out 1; have hfz28_2 := blk_frozen BK175.out 2; have hfz28_3 := blk_frozen BK175.out 3) | ((with_reducible refine gate_callee (f := 54) rfl ?_); refine goesL_ (some 22) rfl rfl Try.func54 (by kernel_rfl) rfl #[.agg #[.bool a1_2, .slice A1_3 l1_3.length c1_3]] rfl (by (try simp only [List.map_toArray, List.map_cons, List.map_nil]); first | done | rfl | (simp only [List.length_drop, List.length_take]; rfl)) ?_; (with_reducible refine (assartref04_Right.calls k a1_2 _ _ l1_3 true _ ?side1 ?side2 A13.out).mono ?_); (case side1 => repeat (first | exact (Kd.C_below HR1_3.out HB.out) | (with_reducible refine Kd.C_alloc ?_ _) | (with_reducible refine Kd.C_drewN ?_ _) | (with_reducible refine Kd.C_drew ?_))); (case side2 => exact HC1_3.out); rintro e w29 ⟨rfl, hb⟩; refine ⟨_, rfl, ?_⟩; have n0_ := Aside0.mk (blk_below (g := gb174) (o := .cells #[.slice A0_0 l0_0.length c0_0, .int .i64 a0_1] 24 (0, 0)) (by (with_reducible repeat (first | refine blk_drewN ?_ _ | refine blk_drew ?_ | refine blk_alloc ?_ _)); exact BK174.out) hb); have n1_ := Aside0.mk (blk_below (g := gb175) (o := .cells #[.int .i64 a1_0, .bool false, .bool a1_2, .slice A1_3 l1_3.length c1_3] 55 (0, 0)) (by (with_reducible repeat (first | refine blk_drewN ?_ _ | refine blk_drew ?_ | refine blk_alloc ?_ _)); exact BK175.out) hb); have n2_ := Aside0.mk (below_step (by repeat (first | (with_reducible first | exact HB.out | apply below_alloc | apply pw_below_drewN | apply below_drew1 | refine below_set ?_ GE174.out | refine below_set ?_ GE175.out) | exact HB.out)) hb); clear BK174; clear BK175; clear HB; have BK174 := n0_; have BK175 := n1_; have HB := n2_; clear n0_ n1_ n2_; (try clear hb); (try clear hb2); (try clear hk); (try clear hi); have hcz30_0 : w29.cell? ⟨gb175, 0, none⟩ = some (.int .i64 a1_0) := (blk_cell BK175.out 0).trans rfl; have hcz30_1 : w29.cell? ⟨gb175, 1, none⟩ = some (.bool false) := (blk_cell BK175.out 1).trans rfl; have hcz30_2 : w29.cell? ⟨gb175, 2, none⟩ = some (.bool a1_2) := (blk_cell BK175.out 2).trans rfl; have hcz30_3 : w29.cell? ⟨gb175, 3, none⟩ = some (.slice A1_3 l1_3.length c1_3) := (blk_cell BK175.out 3).trans rfl; have hfz30_0 := blk_frozen BK175.out 0; have hfz30_1 := blk_frozen BK175.out 1; have hfz30_2 := blk_frozen BK175.out 2; have hfz30_3 := blk_frozen BK175.out 3; have hcz31_0 : w29.cell? ⟨gb174, 0, none⟩ = some (.slice A0_0 l0_0.length c0_0) := (blk_cell BK174.out 0).trans rfl; have hcz31_1 : w29.cell? ⟨gb174, 1, none⟩ = some (.int .i64 a0_1) := (blk_cell BK174.out 1).trans rfl; have hfz31_0 := blk_frozen BK174.out 0; have hfz31_1 := blk_frozen BK174.out 1) | (go_at_call 87; (with_reducible refine (assartref05_places.calls k _ _ l0_0 a0_1 a1_2 _ _ l1_3 t177 _ ?side1 ?side2 ?side3 ?side4 A24.out).mono ?_); (case side1 => repeat (first | exact (Kd.C_below HR0_0.out HB.out) | (with_reducible refine Kd.C_alloc ?_ _) | (with_reducible refine Kd.C_drewN ?_ _) | (with_reducible refine Kd.C_drew ?_))); (case side2 => exact HC0_0.out); (case side3 => repeat (first | exact (Kd.C_below HR1_3.out HB.out) | (with_reducible refine Kd.C_alloc ?_ _) | (with_reducible refine Kd.C_drewN ?_ _) | (with_reducible refine Kd.C_drew ?_))); (case side4 => exact HC1_3.out); rintro e w32 ⟨rfl, hb⟩; have n0_ := Aside0.mk (blk_below (g := gb174) (o := .cells #[.slice A0_0 l0_0.length c0_0, .int .i64 a0_1] 24 (0, 0)) (by (with_reducible repeat (first | refine blk_drewN ?_ _ | refine blk_drew ?_ | refine blk_alloc ?_ _)); exact BK174.out) hb); have n1_ := Aside0.mk (blk_below (g := gb175) (o := .cells #[.int .i64 a1_0, .bool false, .bool a1_2, .slice A1_3 l1_3.length c1_3] 55 (0, 0)) (by (with_reducible repeat (first | refine blk_drewN ?_ _ | refine blk_drew ?_ | refine blk_alloc ?_ _)); exact BK175.out) hb); have n2_ := Aside0.mk (below_step (by repeat (first | (with_reducible first | exact HB.out | apply below_alloc | apply pw_below_drewN | apply below_drew1 | refine below_set ?_ GE174.out | refine below_set ?_ GE175.out) | exact HB.out)) hb); clear BK174; clear BK175; clear HB; have BK174 := n0_; have BK175 := n1_; have HB := n2_; clear n0_ n1_ n2_; (try clear hb); (try clear hb2); (try clear hk); (try clear hi)))
      go_ret
      exact ⟨by first | rfl | (simp [errW_none, errW_some] <;> rfl) | (simp [*, errW_none, errW_some] <;> rfl), by repeat (first | (with_reducible first | exact HB.out | apply below_alloc | apply pw_below_drewN | apply below_drew1 | refine below_set ?_ GE174.out | refine below_set ?_ GE175.out) | exact HB.out)⟩
     ·replace c23 := Bool.eq_false_iff.mpr c23
      subst c23
      have H1 : (some false) = some r := by rw [if_neg (show ¬ (false = true) by decide)] at H; exact H
      clear H
      have H := H1
      clear H1
      obtain rfl := Option.some.inj H
      go_enter Try.func62, Try.ntmps62
      go_wp2_with (first | ((with_reducible refine gate_dst (N := 2) rfl ?_); (try (refine gate_guard (by rfl) ?_; dsimp only)); refine box_event ?hg (N := 2) ?hd (cs := #[.slice A0_0 l0_0.length c0_0, .int .i64 a0_1]) (t := 24) ?hr ?_; (case hd => rfl); (case hg => rfl); (case hr => first | (go_simp; done) | (go_simp; rfl)); intro gb174 hg w33 hbox hb; have n0_ := Aside0.mk (below_step (by repeat (first | (with_reducible first | exact HB.out | apply below_alloc | apply pw_below_drewN | apply below_drew1) | exact HB.out)) hb); have n1_ := Aside0.mk (hbox); have n2_ := Aside0.mk ((by rw [hg]; exact (below_size (by repeat (first | (with_reducible first | exact HB.out | apply below_alloc | apply pw_below_drewN | apply below_drew1) | exact HB.out))) : w.heap.size ≤ gb174)); have n3_ := Aside0.mk ((by rw [hg]; exact (below_size (by repeat (first | (with_reducible first | exact HB.out | apply below_alloc | apply pw_below_drewN | apply below_drew1) | exact HB.out))) : w.heap.size ≤ gb174)); clear HB; have HB := n0_; have BK174 := n1_; have GW174 := n2_; have GE174 := n3_; clear n0_ n1_ n2_ n3_; clear hb hbox hg) | ((with_reducible refine gate_dst (N := 3) rfl ?_); (try (refine gate_guard (by rfl) ?_; dsimp only)); refine box_event ?hg (N := 3) ?hd (cs := #[.int .i64 a1_0, .bool false, .bool a1_2, .slice A1_3 l1_3.length c1_3]) (t := 55) ?hr ?_; (case hd => rfl); (case hg => rfl); (case hr => first | (go_simp; done) | (go_simp; rfl)); intro gb175 hg w34 hbox hb; have n0_ := Aside0.mk (blk_below (g := gb174) (o := .cells #[.slice A0_0 l0_0.length c0_0, .int .i64 a0_1] 24 (0, 0)) (by (with_reducible repeat (first | refine blk_drewN ?_ _ | refine blk_drew ?_ | refine blk_alloc ?_ _)); exact BK174.out) hb); have n1_ := Aside0.mk (below_step (by repeat (first | (with_reducible first | exact HB.out | apply below_alloc | apply pw_below_drewN | apply below_drew1 | refine below_set ?_ GE174.out) | exact HB.out)) hb); have n2_ := Aside0.mk (hbox); have n3_ := Aside0.mk ((by rw [hg]; exact (below_size (by repeat (first | (with_reducible first | exact HB.out | apply below_alloc | apply pw_below_drewN | apply below_drew1 | refine below_set ?_ GE174.out) | exact HB.out))) : w.heap.size ≤ gb175)); have n4_ := Aside0.mk ((by rw [hg]; exact (below_size (by repeat (first | (with_reducible first | exact HB.out | apply below_alloc | apply pw_below_drewN | apply below_drew1 | refine below_set ?_ GE174.out) | exact HB.out))) : w.heap.size ≤ gb175)); have n5_ := Aside0.mk ((by rw [hg]; exact Nat.ne_of_lt (blk_lt (g := gb174) (o := .cells #[.slice A0_0 l0_0.length c0_0, .int .i64 a0_1] 24 (0, 0)) (by (with_reducible repeat (first | refine blk_drewN ?_ _ | refine blk_drew ?_ | refine blk_alloc ?_ _)); exact BK174.out)) : gb174 ≠ gb175)); have n6_ := Aside0.mk ((by rw [hg]; exact Nat.ne_of_gt (blk_lt (g := gb174) (o := .cells #[.slice A0_0 l0_0.length c0_0, .int .i64 a0_1] 24 (0, 0)) (by (with_reducible repeat (first | refine blk_drewN ?_ _ | refine blk_drew ?_ | refine blk_alloc ?_ _)); exact BK174.out)) : gb175 ≠ gb174)); clear BK174; clear HB; have BK174 := n0_; have HB := n1_; have BK175 := n2_; have GW175 := n3_; have GE175 := n4_; have NB174_175 := n5_; have NB175_174 := n6_; clear n0_ n1_ n2_ n3_ n4_ n5_ n6_; clear hb hbox hg; have hnb35 := NB175_174.out; have hnc35 := NB174_175.out; have hcz36_0 : w34.cell? ⟨gb175, 0, none⟩ = some (.int .i64 a1_0) := (blk_cell BK175.out 0).trans rfl; have hcz36_1 : w34.cell? ⟨gb175, 1, none⟩ = some (.bool false) := (blk_cell BK175.out 1).trans rfl; have hcz36_2 : w34.cell? ⟨gb175, 2, none⟩ = some (.bool a1_2) := (blk_cell BK175.out 2).trans rfl; have hcz36_3 : w34.cell? ⟨gb175, 3, none⟩ = some (.slice A1_3 l1_3.length c1_3) := (blk_cell BK175.out 3).trans rfl; have hfz36_0 := blk_frozen BK175.out 0; have hfz36_1 := blk_frozen BK175.out 1; have hfz36_2 := blk_frozen BK175.out 2; have hfz36_3 := blk_frozen BK175.out 3) | ((with_reducible refine gate_callee (f := 54) rfl ?_); refine goesL_ (some 22) rfl rfl Try.func54 (by kernel_rfl) rfl #[.agg #[.bool a1_2, .slice A1_3 l1_3.length c1_3]] rfl (by (try simp only [List.map_toArray, List.map_cons, List.map_nil]); first | done | rfl | (simp only [List.length_drop, List.length_take]; rfl)) ?_; (with_reducible refine (assartref04_Right.calls k a1_2 _ _ l1_3 false _ ?side1 ?side2 A13.out).mono ?_); (case side1 => repeat (first | exact (Kd.C_below HR1_3.out HB.out) | (with_reducible refine Kd.C_alloc ?_ _) | (with_reducible refine Kd.C_drewN ?_ _) | (with_reducible refine Kd.C_drew ?_))); (case side2 => exact HC1_3.out); rintro e w37 ⟨rfl, hb⟩; refine ⟨_, rfl, ?_⟩; have n0_ := Aside0.mk (blk_below (g := gb174) (o := .cells #[.slice A0_0 l0_0.length c0_0, .int .i64 a0_1] 24 (0, 0)) (by (with_reducible repeat (first | refine blk_drewN ?_ _ | refine blk_drew ?_ | refine blk_alloc ?_ _)); exact BK174.out) hb); have n1_ := Aside0.mk (blk_below (g := gb175) (o := .cells #[.int .i64 a1_0, .bool false, .bool a1_2, .slice A1_3 l1_3.length c1_3] 55 (0, 0)) (by (with_reducible repeat (first | refine blk_drewN ?_ _ | refine blk_drew ?_ | refine blk_alloc ?_ _)); exact BK175.out) hb); have n2_ := Aside0.mk (below_step (by repeat (first | (with_reducible first | exact HB.out | apply below_alloc | apply pw_below_drewN | apply below_drew1 | refine below_set ?_ GE174.out | refine below_set ?_ GE175.out) | exact HB.out)) hb); clear BK174; clear BK175; clear HB; have BK174 := n0_; have BK175 := n1_; have HB := n2_; clear n0_ n1_ n2_; (try clear hb); (try clear hb2); (try clear hk); (try clear hi); have hcz38_0 : w37.cell? ⟨gb175, 0, none⟩ = some (.int .i64 a1_0) := (blk_cell BK175.out 0).trans rfl; have hcz38_1 : w37.cell? ⟨gb175, 1, none⟩ = some (.bool false) := (blk_cell BK175.out 1).trans rfl; have hcz38_2 : w37.cell? ⟨gb175, 2, none⟩ = some (.bool a1_2) := (blk_cell BK175.out 2).trans rfl; have hcz38_3 : w37.cell? ⟨gb175, 3, none⟩ = some (.slice A1_3 l1_3.length c1_3) := (blk_cell BK175.out 3).trans rfl; have hfz38_0 := blk_frozen BK175.out 0; have hfz38_1 := blk_frozen BK175.out 1; have hfz38_2 := blk_frozen BK175.out 2; have hfz38_3 := blk_frozen BK175.out 3))
      go_ret
      exact ⟨by first | rfl | (simp [errW_none, errW_some] <;> rfl) | (simp [*, errW_none, errW_some] <;> rfl), by repeat (first | (with_reducible first | exact HB.out | apply below_alloc | apply pw_below_drewN | apply below_drew1 | refine below_set ?_ GE174.out | refine below_set ?_ GE175.out) | exact HB.out)⟩
   ·rw [if_neg c15] at H
    have c15b0 : decide (a1_0 ≤ 2147483647) = false := decide_eq_false c15
    clear c15
    obtain rfl := Option.some.inj H
    go_enter Try.func62, Try.ntmps62
    go_wp2_with (first | ((with_reducible refine gate_dst (N := 2) rfl ?_); (try (refine gate_guard (by rfl) ?_; dsimp only)); refine box_event ?hg (N := 2) ?hd (cs := #[.slice A0_0 l0_0.length c0_0, .int .i64 a0_1]) (t := 24) ?hr ?_; (case hd => rfl); (case hg => rfl); (case hr => first | (go_simp; done) | (go_simp; rfl)); intro gb174 hg w39 hbox hb; have n0_ := Aside0.mk (below_step (by repeat (first | (with_reducible first | exact HB.out | apply below_alloc | apply pw_below_drewN | apply below_drew1) | exact HB.out)) hb); have n1_ := Aside0.mk (hbox); have n2_ := Aside0.mk ((by rw [hg]; exact (below_size (by repeat (first | (with_reducible first | exact HB.out | apply below_alloc | apply pw_below_drewN | apply below_drew1) | exact HB.out))) : w.heap.size ≤ gb174)); have n3_ := Aside0.mk ((by rw [hg]; exact (below_size (by repeat (first | (with_reducible first | exact HB.out | apply below_alloc | apply pw_below_drewN | apply below_drew1) | exact HB.out))) : w.heap.size ≤ gb174)); clear HB; have HB := n0_; have BK174 := n1_; have GW174 := n2_; have GE174 := n3_; clear n0_ n1_ n2_ n3_; clear hb hbox hg) | ((with_reducible refine gate_dst (N := 3) rfl ?_); (try (refine gate_guard (by rfl) ?_; dsimp only)); refine box_event ?hg (N := 3) ?hd (cs := #[.int .i64 a1_0, .bool a1_1, .bool a1_2, .slice A1_3 l1_3.length c1_3]) (t := 55) ?hr ?_; (case hd => rfl); (case hg => rfl); (case hr => first | (go_simp; done) | (go_simp; rfl)); intro gb175 hg w40 hbox hb; have n0_ := Aside0.mk (blk_below (g := gb174) (o := .cells #[.slice A0_0 l0_0.length c0_0, .int .i64 a0_1] 24 (0, 0)) (by (with_reducible repeat (first | refine blk_drewN ?_ _ | refine blk_drew ?_ | refine blk_alloc ?_ _)); exact BK174.out) hb); have n1_ := Aside0.mk (below_step (by repeat (first | (with_reducible first | exact HB.out | apply below_alloc | apply pw_below_drewN | apply below_drew1 | refine below_set ?_ GE174.out) | exact HB.out)) hb); have n2_ := Aside0.mk (hbox); have n3_ := Aside0.mk ((by rw [hg]; exact (below_size (by repeat (first | (with_reducible first | exact HB.out | apply below_alloc | apply pw_below_drewN | apply below_drew1 | refine below_set ?_ GE174.out) | exact HB.out))) : w.heap.size ≤ gb175)); have n4_ := Aside0.mk ((by rw [hg]; exact (below_size (by repeat (first | (with_reducible first | exact HB.out | apply below_alloc | apply pw_below_drewN | apply below_drew1 | refine below_set ?_ GE174.out) | exact HB.out))) : w.heap.size ≤ gb175)); have n5_ := Aside0.mk ((by rw [hg]; exact Nat.ne_of_lt (blk_lt (g := gb174) (o := .cells #[.slice A0_0 l0_0.length c0_0, .int .i64 a0_1] 24 (0, 0)) (by (with_reducible repeat (first | refine blk_drewN ?_ _ | refine blk_drew ?_ | refine blk_alloc ?_ _)); exact BK174.out)) : gb174 ≠ gb175)); have n6_ := Aside0.mk ((by rw [hg]; exact Nat.ne_of_gt (blk_lt (g := gb174) (o := .cells #[.slice A0_0 l0_0.length c0_0, .int .i64 a0_1] 24 (0, 0)) (by (with_reducible repeat (first | refine blk_drewN ?_ _ | refine blk_drew ?_ | refine blk_alloc ?_ _)); exact BK174.out)) : gb175 ≠ gb174)); clear BK174; clear HB; have BK174 := n0_; have HB := n1_; have BK175 := n2_; have GW175 := n3_; have GE175 := n4_; have NB174_175 := n5_; have NB175_174 := n6_; clear n0_ n1_ n2_ n3_ n4_ n5_ n6_; clear hb hbox hg; have hnb41 := NB175_174.out; have hnc41 := NB174_175.out; have hcz42_0 : w40.cell? ⟨gb175, 0, none⟩ = some (.int .i64 a1_0) := (blk_cell BK175.out 0).trans rfl; have hcz42_1 : w40.cell? ⟨gb175, 1, none⟩ = some (.bool a1_1) := (blk_cell BK175.out 1).trans rfl; have hcz42_2 : w40.cell? ⟨gb175, 2, none⟩ = some (.bool a1_2) := (blk_cell BK175.out 2).trans rfl; have hcz42_3 : w40.cell? ⟨gb175, 3, none⟩ = some (.slice A1_3 l1_3.length c1_3) := (blk_cell BK175.out 3).trans rfl; have hfz42_0 := blk_frozen BK175.out 0; have hfz42_1 := blk_frozen BK175.out 1; have hfz42_2 := blk_frozen BK175.out 2; have hfz42_3 := blk_frozen BK175.out 3) | ((with_reducible refine gate_callee (f := 54) rfl ?_); refine goesL_ (some 22) rfl rfl Try.func54 (by kernel_rfl) rfl #[.agg #[.bool a1_2, .slice A1_3 l1_3.length c1_3]] rfl (by (try simp only [List.map_toArray, List.map_cons, List.map_nil]); first | done | rfl | (simp only [List.length_drop, List.length_take]; rfl)) ?_; (with_reducible refine (assartref04_Right.calls k a1_2 _ _ l1_3 t176 _ ?side1 ?side2 A13.out).mono ?_); (case side1 => repeat (first | exact (Kd.C_below HR1_3.out HB.out) | (with_reducible refine Kd.C_alloc ?_ _) | (with_reducible refine Kd.C_drewN ?_ _) | (with_reducible refine Kd.C_drew ?_))); (case side2 => exact HC1_3.out); rintro e w43 ⟨rfl, hb⟩; refine ⟨_, rfl, ?_⟩; have n0_ := Aside0.mk (blk_below (g := gb174) (o := .cells #[.slice A0_0 l0_0.length c0_0, .int .i64 a0_1] 24 (0, 0)) (by (with_reducible repeat (first | refine blk_drewN ?_ _ | refine blk_drew ?_ | refine blk_alloc ?_ _)); exact BK174.out) hb); have n1_ := Aside0.mk (blk_below (g := gb175) (o := .cells #[.int .i64 a1_0, .bool a1_1, .bool a1_2, .slice A1_3 l1_3.length c1_3] 55 (0, 0)) (by (with_reducible repeat (first | refine blk_drewN ?_ _ | refine blk_drew ?_ | refine blk_alloc ?_ _)); exact BK175.out) hb); have n2_ := Aside0.mk (below_step (by repeat (first | (with_reducible first | exact HB.out | apply below_alloc | apply pw_below_drewN | apply below_drew1 | refine below_set ?_ GE174.out | refine below_set ?_ GE175.out) | exact HB.out)) hb); clear BK174; clear BK175; clear HB; have BK174 := n0_; have BK175 := n1_; have HB := n2_; clear n0_ n1_ n2_; (try clear hb); (try clear hb2); (try clear hk); (try clear hi); have hcz44_0 : w43.cell? ⟨gb175, 0, none⟩ = some (.int .i64 a1_0) := (blk_cell BK175.out 0).trans rfl; have hcz44_1 : w43.cell? ⟨gb175, 1, none⟩ = some (.bool a1_1) := (blk_cell BK175.out 1).trans rfl; have hcz44_2 : w43.cell? ⟨gb175, 2, none⟩ = some (.bool a1_2) := (blk_cell BK175.out 2).trans rfl; have hcz44_3 : w43.cell? ⟨gb175, 3, none⟩ = some (.slice A1_3 l1_3.length c1_3) := (blk_cell BK175.out 3).trans rfl; have hfz44_0 := blk_frozen BK175.out 0; have hfz44_1 := blk_frozen BK175.out 1; have hfz44_2 := blk_frozen BK175.out 2; have hfz44_3 := blk_frozen BK175.out 3))
    go_ret
    exact ⟨by first | rfl | (simp [errW_none, errW_some] <;> rfl) | (simp [*, errW_none, errW_some] <;> rfl), by repeat (first | (with_reducible first | exact HB.out | apply below_alloc | apply pw_below_drewN | apply below_drew1 | refine below_set ?_ GE174.out | refine below_set ?_ GE175.out) | exact HB.out)⟩
  ·rw [if_neg c14] at H
   have c14b0 : decide (0 < a1_0) = false := decide_eq_false c14
   clear c14
   obtain rfl := Option.some.inj H
   go_enter Try.func62, Try.ntmps62
   go_wp2_with (first | ((with_reducible refine gate_dst (N := 2) rfl ?_); (try (refine gate_guard (by rfl) ?_; dsimp only)); refine box_event ?hg (N := 2) ?hd (cs := #[.slice A0_0 l0_0.length c0_0, .int .i64 a0_1]) (t := 24) ?hr ?_; (case hd => rfl); (case hg => rfl); (case hr => first | (go_simp; done) | (go_simp; rfl)); intro gb174 hg w45 hbox hb; have n0_ := Aside0.mk (below_step (by repeat (first | (with_reducible first | exact HB.out | apply below_alloc | apply pw_below_drewN | apply below_drew1) | exact HB.out)) hb); have n1_ := Aside0.mk (hbox); have n2_ := Aside0.mk ((by rw [hg]; exact (below_size (by repeat (first | (with_reducible first | exact HB.out | apply below_alloc | apply pw_below_drewN | apply below_drew1) | exact HB.out))) : w.heap.size ≤ gb174)); have n3_ := Aside0.mk ((by rw [hg]; exact (below_size (by repeat (first | (with_reducible first | exact HB.out | apply below_alloc | apply pw_below_drewN | apply below_drew1) | exact HB.out))) : w.heap.size ≤ gb174)); clear HB; have HB := n0_; have BK174 := n1_; have GW174 := n2_; have GE174 := n3_; clear n0_ n1_ n2_ n3_; clear hb hbox hg) | ((with_reducible refine gate_dst (N := 3) rfl ?_); (try (refine gate_guard (by rfl) ?_; dsimp only)); refine box_event ?hg (N := 3) ?hd (cs := #[.int .i64 a1_0, .bool a1_1, .bool a1_2, .slice A1_3 l1_3.length c1_3]) (t := 55) ?hr ?_; (case hd => rfl); (case hg => rfl); (case hr => first | (go_simp; done) | (go_simp; rfl)); intro gb175 hg w46 hbox hb; have n0_ := Aside0.mk (blk_below (g := gb174) (o := .cells #[.slice A0_0 l0_0.length c0_0, .int .i64 a0_1] 24 (0, 0)) (by (with_reducible repeat (first | refine blk_drewN ?_ _ | refine blk_drew ?_ | refine blk_alloc ?_ _)); exact BK174.out) hb); have n1_ := Aside0.mk (below_step (by repeat (first | (with_reducible first | exact HB.out | apply below_alloc | apply pw_below_drewN | apply below_drew1 | refine below_set ?_ GE174.out) | exact HB.out)) hb); have n2_ := Aside0.mk (hbox); have n3_ := Aside0.mk ((by rw [hg]; exact (below_size (by repeat (first | (with_reducible first | exact HB.out | apply below_alloc | apply pw_below_drewN | apply below_drew1 | refine below_set ?_ GE174.out) | exact HB.out))) : w.heap.size ≤ gb175)); have n4_ := Aside0.mk ((by rw [hg]; exact (below_size (by repeat (first | (with_reducible first | exact HB.out | apply below_alloc | apply pw_below_drewN | apply below_drew1 | refine below_set ?_ GE174.out) | exact HB.out))) : w.heap.size ≤ gb175)); have n5_ := Aside0.mk ((by rw [hg]; exact Nat.ne_of_lt (blk_lt (g := gb174) (o := .cells #[.slice A0_0 l0_0.length c0_0, .int .i64 a0_1] 24 (0, 0)) (by (with_reducible repeat (first | refine blk_drewN ?_ _ | refine blk_drew ?_ | refine blk_alloc ?_ _)); exact BK174.out)) : gb174 ≠ gb175)); have n6_ := Aside0.mk ((by rw [hg]; exact Nat.ne_of_gt (blk_lt (g := gb174) (o := .cells #[.slice A0_0 l0_0.length c0_0, .int .i64 a0_1] 24 (0, 0)) (by (with_reducible repeat (first | refine blk_drewN ?_ _ | refine blk_drew ?_ | refine blk_alloc ?_ _)); exact BK174.out)) : gb175 ≠ gb174)); clear BK174; clear HB; have BK174 := n0_; have HB := n1_; have BK175 := n2_; have GW175 := n3_; have GE175 := n4_; have NB174_175 := n5_; have NB175_174 := n6_; clear n0_ n1_ n2_ n3_ n4_ n5_ n6_; clear hb hbox hg; have hnb47 := NB175_174.out; have hnc47 := NB174_175.out; have hcz48_0 : w46.cell? ⟨gb175, 0, none⟩ = some (.int .i64 a1_0) := (blk_cell BK175.out 0).trans rfl; have hcz48_1 : w46.cell? ⟨gb175, 1, none⟩ = some (.bool a1_1) := (blk_cell BK175.out 1).trans rfl; have hcz48_2 : w46.cell? ⟨gb175, 2, none⟩ = some (.bool a1_2) := (blk_cell BK175.out 2).trans rfl; have hcz48_3 : w46.cell? ⟨gb175, 3, none⟩ = some (.slice A1_3 l1_3.length c1_3) := (blk_cell BK175.out 3).trans rfl; have hfz48_0 := blk_frozen BK175.out 0; have hfz48_1 := blk_frozen BK175.out 1; have hfz48_2 := blk_frozen BK175.out 2; have hfz48_3 := blk_frozen BK175.out 3) | ((with_reducible refine gate_callee (f := 54) rfl ?_); refine goesL_ (some 22) rfl rfl Try.func54 (by kernel_rfl) rfl #[.agg #[.bool a1_2, .slice A1_3 l1_3.length c1_3]] rfl (by (try simp only [List.map_toArray, List.map_cons, List.map_nil]); first | done | rfl | (simp only [List.length_drop, List.length_take]; rfl)) ?_; (with_reducible refine (assartref04_Right.calls k a1_2 _ _ l1_3 t176 _ ?side1 ?side2 A13.out).mono ?_); (case side1 => repeat (first | exact (Kd.C_below HR1_3.out HB.out) | (with_reducible refine Kd.C_alloc ?_ _) | (with_reducible refine Kd.C_drewN ?_ _) | (with_reducible refine Kd.C_drew ?_))); (case side2 => exact HC1_3.out); rintro e w49 ⟨rfl, hb⟩; refine ⟨_, rfl, ?_⟩; have n0_ := Aside0.mk (blk_below (g := gb174) (o := .cells #[.slice A0_0 l0_0.length c0_0, .int .i64 a0_1] 24 (0, 0)) (by (with_reducible repeat (first | refine blk_drewN ?_ _ | refine blk_drew ?_ | refine blk_alloc ?_ _)); exact BK174.out) hb); have n1_ := Aside0.mk (blk_below (g := gb175) (o := .cells #[.int .i64 a1_0, .bool a1_1, .bool a1_2, .slice A1_3 l1_3.length c1_3] 55 (0, 0)) (by (with_reducible repeat (first | refine blk_drewN ?_ _ | refine blk_drew ?_ | refine blk_alloc ?_ _)); exact BK175.out) hb); have n2_ := Aside0.mk (below_step (by repeat (first | (with_reducible first | exact HB.out | apply below_alloc | apply pw_below_drewN | apply below_drew1 | refine below_set ?_ GE174.out | refine below_set ?_ GE175.out) | exact HB.out)) hb); clear BK174; clear BK175; clear HB; have BK174 := n0_; have BK175 := n1_; have HB := n2_; clear n0_ n1_ n2_; (try clear hb); (try clear hb2); (try clear hk); (try clear hi); have hcz50_0 : w49.cell? ⟨gb175, 0, none⟩ = some (.int .i64 a1_0) := (blk_cell BK175.out 0).trans rfl; have hcz50_1 : w49.cell? ⟨gb175, 1, none⟩ = some (.bool a1_1) := (blk_cell BK175.out 1).trans rfl; have hcz50_2 : w49.cell? ⟨gb175, 2, none⟩ = some (.bool a1_2) := (blk_cell BK175.out 2).trans rfl; have hcz50_3 : w49.cell? ⟨gb175, 3, none⟩ = some (.slice A1_3 l1_3.length c1_3) := (blk_cell BK175.out 3).trans rfl; have hfz50_0 := blk_frozen BK175.out 0; have hfz50_1 := blk_frozen BK175.out 1; have hfz50_2 := blk_frozen BK175.out 2; have hfz50_3 := blk_frozen BK175.out 3))
   go_ret
   exact ⟨by first | rfl | (simp [errW_none, errW_some] <;> rfl) | (simp [*, errW_none, errW_some] <;> rfl), by repeat (first | (with_reducible first | exact HB.out | apply below_alloc | apply pw_below_drewN | apply below_drew1 | refine below_set ?_ GE174.out | refine below_set ?_ GE175.out) | exact HB.out)⟩
end Go.Proofs.Yteiladccdenpbaa.P
end
section
namespace Go.Proofs.Yteiladccdenpbaa.P
open Go.RowKit Go.Proofs.YteiladccdenpbaaW.PrintWords Go.Proofs.YteiladccdenpbaaW.PrintLast Go.Proofs.YteiladccdenpbaaW.PrintMore
attribute [local go_sem] max2_int min2_int max_two min_two max_three min_three max_four min_four
set_option linter.unusedVariables false
set_option linter.unusedSimpArgs false
mutual
def assartref05_Right.j0 : Nat → Bool → List (S55) → Int → Option (Bool)
 | 0, _, _, _ => none
 | k + 1, x27, x179000, x179001 => if x27 = true then (some false) else (assartref05_Right.l0 k 0 x179000 x179001)
def assartref05_Right.l0 : Nat → Int → List (S55) → Int → Option (Bool)
 | 0, _, _, _ => none
 | k + 1, x3, x179000, x179001 => if x3 < (x179000.length : Int) then (if 0 ≤ x3 then ((assartref05_cell.f k x179000 x179001 ((rd_T55 x179000 x3).f0) ((rd_T55 x179000 x3).f1) ((rd_T55 x179000 x3).f2.f0) ((rd_T55 x179000 x3).f2.f1)).bind fun t180 => (if t180 = true then (assartref05_Right.l0 k (wrap64 (x3 + 1)) x179000 x179001) else (some false))) else (none)) else (some true)
end
def assartref05_Right.f (k : Nat) (l0_0 : List (S55)) (a0_1 : Int) : Option (Bool) := if (l0_0.length : Int) < 1 then (assartref05_Right.j0 k true l0_0 a0_1) else (if (l0_0.length : Int) > 2000 then (assartref05_Right.j0 k true l0_0 a0_1) else (if a0_1 < 0 then (assartref05_Right.j0 k true l0_0 a0_1) else (assartref05_Right.j0 k (decide (a0_1 > (l0_0.length : Int))) l0_0 a0_1)))
def assartref05_Right.T6 : Bool × List (List Nat × List Nat) := (true, [([], []), ([], []), ([1], [1]), ([], []), ([2, 3], [2, 3]), ([4], [4]), ([0, 5], [0, 5]), ([6, 6, 0, 1, 2, 3, 4, 5, 6], [6])])
def assartref05_Right.B6 : List Nat := [0, 0, 2, 0, 14, 30, 63, 127]
theorem assartref05_Right.tab6 : rtab .any (opsOf Try.f32 6) = assartref05_Right.T6 := by kernel_rfl
theorem assartref05_Right.bits6 : waitsOk assartref05_Right.T6.2 assartref05_Right.B6 = true := by kernel_rfl
set_option maxHeartbeats 8000000 in
set_option maxRecDepth 100000 in
theorem assartref05_Right.calls (k : Nat) (A0_0 : Option Addr) (c0_0 : Nat) (l0_0 : List (S55)) (a0_1 : Int) (r : Bool) (w : World) (hr0_0 : Kd.C k55 w A0_0 l0_0.length l0_0) (hc0_0 : l0_0.length ≤ c0_0) (h : assartref05_Right.f k l0_0 a0_1 = some r) :
  Calls Try.prog 32 #[.agg #[.slice A0_0 l0_0.length c0_0, .int .i64 a0_1]] w fun e w' => e = .returned (.bool r) ∧ Below w.heap.size w w' := by
 have hu24 := Try.underlying24
 have hu55 := Try.underlying55
 have HR0_0 := Aside0.mk hr0_0
 have HC0_0 := Aside0.mk hc0_0
 clear hr0_0 hc0_0
 have HB := Aside0.mk (Below.refl w.heap.size w)
 have H : (if (l0_0.length : Int) < 1 then (assartref05_Right.j0 k true l0_0 a0_1) else (if (l0_0.length : Int) > 2000 then (assartref05_Right.j0 k true l0_0 a0_1) else (if a0_1 < 0 then (assartref05_Right.j0 k true l0_0 a0_1) else (assartref05_Right.j0 k (decide (a0_1 > (l0_0.length : Int))) l0_0 a0_1)))) = some r := h
 clear h
 have HC2 := Aside0.mk H
 clear H
 go_enter Try.func32, Try.ntmps32
 go_upto_region 1 with (first | ((with_reducible refine gate_dst (N := 1) rfl ?_); (try (refine gate_guard (by rfl) ?_; dsimp only)); refine box_event ?hg (N := 1) ?hd (cs := #[.slice A0_0 l0_0.length c0_0, .int .i64 a0_1]) (t := 24) ?hr ?_; (case hd => rfl); (case hg => rfl); (case hr => first | (go_simp; done) | (go_simp; rfl)); intro gb178 hg w3 hbox hb; have n0_ := Aside0.mk (below_step (by repeat (first | (with_reducible first | exact HB.out | apply below_alloc | apply pw_below_drewN | apply below_drew1) | exact HB.out)) hb); have n1_ := Aside0.mk (hbox); have n2_ := Aside0.mk ((by rw [hg]; exact (below_size (by repeat (first | (with_reducible first | exact HB.out | apply below_alloc | apply pw_below_drewN | apply below_drew1) | exact HB.out))) : w.heap.size ≤ gb178)); have n3_ := Aside0.mk ((by rw [hg]; exact (below_size (by repeat (first | (with_reducible first | exact HB.out | apply below_alloc | apply pw_below_drewN | apply below_drew1) | exact HB.out))) : w.heap.size ≤ gb178)); clear HB; have HB := n0_; have BK178 := n1_; have GW178 := n2_; have GE178 := n3_; clear n0_ n1_ n2_ n3_; clear hb hbox hg))
 (try simp only [Act.put, List.setIfInBounds_toArray, List.set_cons_zero, List.set_cons_succ])
 go_cut [27] (fun v27 wc => ∃ (kq : Nat) (x27_1 : Bool), v27 = .bool x27_1 ∧ Aside0 (assartref05_Right.j0 kq x27_1 l0_0 a0_1 = some r) ∧ Aside0 (kq ≤ k) ∧ Aside0 (wc.heap[gb178]? = some (.cells #[(.slice A0_0 l0_0.length c0_0), .int .i64 a0_1] 24 (0, 0))) ∧ Aside0 (Below w.heap.size w wc))
 case first =>
  have H := HC2.out
  clear HC2
  by_cases c4 : (l0_0.length : Int) < 1
  ·rw [if_pos c4] at H
   have c4b0 : decide ((l0_0.length : Int) < 1) = true := decide_eq_true c4
   have c4b1 : decide (l0_0.length < 1) = true := decide_eq_true (by omega)
   clear c4
   (first | rw [c4b0] | (simp only [i64_w, i32_w]; rw [c4b0]) | skip)
   have H' := Aside0.mk H
   clear H
   have hcz5_0 : w3.cell? ⟨gb178, 0, none⟩ = some (.slice A0_0 l0_0.length c0_0) := (blk_cell BK178.out 0).trans rfl
   have hcz5_1 : w3.cell? ⟨gb178, 1, none⟩ = some (.int .i64 a0_1) := (blk_cell BK178.out 1).trans rfl
   have hfz5_0 := blk_frozen BK178.out 0
   have hfz5_1 := blk_frozen BK178.out 1
   go_wp2
   go_meet
   case rel => exact ⟨_, (true), (by first | rfl | (simp; done) | (simp [*]; done)), H', ⟨by first | omega | exact Nat.le_refl _⟩, ⟨by (with_reducible repeat (first | refine blk_drewN ?_ _ | refine blk_drew ?_ | refine blk_alloc ?_ _)); exact BK178.out⟩, ⟨by repeat (first | (with_reducible first | exact HB.out | apply below_alloc | apply pw_below_drewN | apply below_drew1 | refine below_set ?_ GE178.out) | exact HB.out)⟩⟩
  ·rw [if_neg c4] at H
   have c4b0 : decide ((l0_0.length : Int) < 1) = false := decide_eq_false c4
   have c4b1 : decide (l0_0.length < 1) = false := decide_eq_false (by omega)
   clear c4
   (first | rw [c4b0] | (simp only [i64_w, i32_w]; rw [c4b0]) | skip)
   by_cases c6 : (l0_0.length : Int) > 2000
   ·rw [if_pos c6] at H
    have c6b0 : decide (2000 < (l0_0.length : Int)) = true := decide_eq_true c6
    have c6b1 : decide (2000 < l0_0.length) = true := decide_eq_true (by omega)
    clear c6
    have H' := Aside0.mk H
    clear H
    have hcz7_0 : w3.cell? ⟨gb178, 0, none⟩ = some (.slice A0_0 l0_0.length c0_0) := (blk_cell BK178.out 0).trans rfl
    have hcz7_1 : w3.cell? ⟨gb178, 1, none⟩ = some (.int .i64 a0_1) := (blk_cell BK178.out 1).trans rfl
    have hfz7_0 := blk_frozen BK178.out 0
    have hfz7_1 := blk_frozen BK178.out 1
    go_wp2
    go_meet
    case rel => exact ⟨_, (true), (by first | rfl | (simp; done) | (simp [*]; done)), H', ⟨by first | omega | exact Nat.le_refl _⟩, ⟨by (with_reducible repeat (first | refine blk_drewN ?_ _ | refine blk_drew ?_ | refine blk_alloc ?_ _)); exact BK178.out⟩, ⟨by repeat (first | (with_reducible first | exact HB.out | apply below_alloc | apply pw_below_drewN | apply below_drew1 | refine below_set ?_ GE178.out) | exact HB.out)⟩⟩
   ·rw [if_neg c6] at H
    have c6b0 : decide (2000 < (l0_0.length : Int)) = false := decide_eq_false c6
    have c6b1 : decide (2000 < l0_0.length) = false := decide_eq_false (by omega)
    clear c6
    by_cases c8 : a0_1 < 0
    ·rw [if_pos c8] at H
     have c8b0 : decide (a0_1 < 0) = true := decide_eq_true c8
     clear c8
     have H' := Aside0.mk H
     clear H
     have hcz9_0 : w3.cell? ⟨gb178, 0, none⟩ = some (.slice A0_0 l0_0.length c0_0) := (blk_cell BK178.out 0).trans rfl
     have hcz9_1 : w3.cell? ⟨gb178, 1, none⟩ = some (.int .i64 a0_1) := (blk_cell BK178.out 1).trans rfl
     have hfz9_0 := blk_frozen BK178.out 0
     have hfz9_1 := blk_frozen BK178.out 1
     go_wp2
     go_meet
     case rel => exact ⟨_, (true), (by first | rfl | (simp; done) | (simp [*]; done)), H', ⟨by first | omega | exact Nat.le_refl _⟩, ⟨by (with_reducible repeat (first | refine blk_drewN ?_ _ | refine blk_drew ?_ | refine blk_alloc ?_ _)); exact BK178.out⟩, ⟨by repeat (first | (with_reducible first | exact HB.out | apply below_alloc | apply pw_below_drewN | apply below_drew1 | refine below_set ?_ GE178.out) | exact HB.out)⟩⟩
    ·rw [if_neg c8] at H
     have c8b0 : decide (a0_1 < 0) = false := decide_eq_false c8
     clear c8
     have H' := Aside0.mk H
     clear H
     have hcz10_0 : w3.cell? ⟨gb178, 0, none⟩ = some (.slice A0_0 l0_0.length c0_0) := (blk_cell BK178.out 0).trans rfl
     have hcz10_1 : w3.cell? ⟨gb178, 1, none⟩ = some (.int .i64 a0_1) := (blk_cell BK178.out 1).trans rfl
     have hfz10_0 := blk_frozen BK178.out 0
     have hfz10_1 := blk_frozen BK178.out 1
     go_wp2
     go_meet
     case rel => exact ⟨_, (decide (a0_1 > (l0_0.length : Int))), (by first | rfl | (simp; done) | (simp [*]; done)), H', ⟨by first | omega | exact Nat.le_refl _⟩, ⟨by (with_reducible repeat (first | refine blk_drewN ?_ _ | refine blk_drew ?_ | refine blk_alloc ?_ _)); exact BK178.out⟩, ⟨by repeat (first | (with_reducible first | exact HB.out | apply below_alloc | apply pw_below_drewN | apply below_drew1 | refine below_set ?_ GE178.out) | exact HB.out)⟩⟩
 case rest =>
  clear HC2
  try clear p2
  try clear c3
  try clear c4
  try clear c4b0
  try clear c4b1
  try clear c6
  try clear c6b0
  try clear c6b1
  try clear c8
  try clear c8b0
  try clear hcz10_0
  try clear hcz10_1
  try clear hcz5_0
  try clear hcz5_1
  try clear hcz7_0
  try clear hcz7_1
  try clear hcz9_0
  try clear hcz9_1
  try clear hfz10_0
  try clear hfz10_1
  try clear hfz5_0
  try clear hfz5_1
  try clear hfz7_0
  try clear hfz7_1
  try clear hfz9_0
  try clear hfz9_1
  obtain ⟨kq, x27_1, rfl, HA, HJ1, BK178, HB⟩ := hcut
  cases kq with
  | zero => exact absurd HA.out (by simp [assartref05_Right.j0])
  | succ kj1 =>
   have H := HA.out
   clear HA
   simp only [assartref05_Right.j0] at H
   by_cases c11 : x27_1 = true
   ·subst c11
    have H1 : (some false) = some r := by rw [if_pos rfl] at H; exact H
    clear H
    have H := H1
    clear H1
    obtain rfl := Option.some.inj H
    go_wp2
    go_ret
    exact ⟨by first | rfl | (simp [errW_none, errW_some] <;> rfl) | (simp [*, errW_none, errW_some] <;> rfl), by repeat (first | (with_reducible first | exact HB.out | apply below_alloc | apply pw_below_drewN | apply below_drew1 | refine below_set ?_ GE178.out) | exact HB.out)⟩
   ·replace c11 := Bool.eq_false_iff.mpr c11
    subst c11
    have H1 : (assartref05_Right.l0 kj1 0 l0_0 a0_1) = some r := by rw [if_neg (show ¬ (false = true) by decide)] at H; exact H
    clear H
    have H := H1
    clear H1
    have H' := Aside0.mk H
    clear H
    go_wp2
    go_loopg [3] kj1 (fun kq v3 w' => ∃ (x3_2 : Int), v3 = .int .i64 x3_2 ∧ Aside0 (assartref05_Right.l0 kq x3_2 l0_0 a0_1 = some r) ∧ Aside0 (kq ≤ kj1) ∧ Aside0 (w'.heap[gb178]? = some (.cells #[(.slice A0_0 l0_0.length c0_0), .int .i64 a0_1] 24 (0, 0))) ∧ Aside0 (Below w.heap.size w w'))
    case atStart => exact ⟨(0), (by first | rfl | (simp; done) | (simp [*]; done)), H', ⟨Nat.le_refl _⟩, ⟨by (with_reducible repeat (first | refine blk_drewN ?_ _ | refine blk_drew ?_ | refine blk_alloc ?_ _)); exact BK178.out⟩, ⟨by repeat (first | (with_reducible first | exact HB.out | apply below_alloc | apply pw_below_drewN | apply below_drew1 | refine below_set ?_ GE178.out) | exact HB.out)⟩⟩
    case round =>
     clear H'
     try clear c1
     try clear p2
     try clear c3
     try clear c4
     try clear c4b0
     try clear c4b1
     try clear c6
     try clear c6b0
     try clear c6b1
     try clear c8
     try clear c8b0
     try clear c11
     try clear hcz10_0
     try clear hcz10_1
     try clear hcz5_0
     try clear hcz5_1
     try clear hcz7_0
     try clear hcz7_1
     try clear hcz9_0
     try clear hcz9_1
     try clear hfz10_0
     try clear hfz10_1
     try clear hfz5_0
     try clear hfz5_1
     try clear hfz7_0
     try clear hfz7_1
     try clear hfz9_0
     try clear hfz9_1
     try clear p2
     obtain ⟨x3_2, rfl, HA, HK2, BK178, HB⟩ := hrel
     cases gk with
     | zero => exact absurd HA.out (by simp [assartref05_Right.l0])
     | succ k2 =>
      have H := HA.out
      clear HA
      simp only [assartref05_Right.l0] at H
      by_cases c12 : x3_2 < (l0_0.length : Int)
      ·rw [if_pos c12] at H
       have c12b0 : decide (x3_2 < (l0_0.length : Int)) = true := decide_eq_true c12
       clear c12
       by_cases c13 : 0 ≤ x3_2
       ·rw [if_pos c13] at H
        have c13b0 : decide (0 ≤ x3_2) = true := decide_eq_true c13
        clear c13
        replace H := Option.bind_eq_some_iff.mp H
        obtain ⟨t180, A140, H⟩ := H
        replace H : (if t180 = true then (assartref05_Right.l0 k2 (wrap64 (x3_2 + 1)) l0_0 a0_1) else (some false)) = some r := H
        have A14 := Aside0.mk A140
        clear A140
        by_cases c15 : t180 = true
        ·subst c15
         have H1 : (assartref05_Right.l0 k2 (wrap64 (x3_2 + 1)) l0_0 a0_1) = some r := by rw [if_pos rfl] at H; exact H
         clear H
         have H := H1
         clear H1
         have H' := Aside0.mk H
         clear H
         have hcz16_0 : wr.cell? ⟨gb178, 0, none⟩ = some (.slice A0_0 l0_0.length c0_0) := (blk_cell BK178.out 0).trans rfl
         have hcz16_1 : wr.cell? ⟨gb178, 1, none⟩ = some (.int .i64 a0_1) := (blk_cell BK178.out 1).trans rfl
         have hfz16_0 := blk_frozen BK178.out 0
         have hfz16_1 := blk_frozen BK178.out 1
         try go_wp2
         have n0_ := Aside0.mk (blk_drew BK178.out)
         have n1_ := Aside0.mk (below_drew1 HB.out)
         clear BK178
         clear HB
         have BK178 := n0_
         have HB := n1_
         clear n0_ n1_
         have p179 : 0 ≤ (x3_2 : Int) := of_decide_eq_true (by first | (with_reducible assumption) | assumption)
         have q179 : x3_2 < (l0_0.length : Int) := of_decide_eq_true (by first | (with_reducible assumption) | assumption)
         obtain ⟨ad179, A179_3, c179_3, e179, hx179_0, hx179_1, hx179_2, hx179_3, hl179_3, hi179_3⟩ := at_T55 HR0_0.out x3_2 p179 q179
         have hw179_3 := hx179_3
         have hw179_2 := hx179_2
         have hw179_1 := hx179_1
         have hw179_0 := hx179_0
         cases e179
         replace hx179_0 := (HB.out.cell (World.block_lt_of_cell? w _ hx179_0)).trans hx179_0
         replace hx179_1 := (HB.out.cell (World.block_lt_of_cell? w _ hx179_1)).trans hx179_1
         replace hx179_2 := (HB.out.cell (World.block_lt_of_cell? w _ hx179_2)).trans hx179_2
         replace hx179_3 := (HB.out.cell (World.block_lt_of_cell? w _ hx179_3)).trans hx179_3
         have HR179_3 := Aside0.mk hi179_3
         have HC179_3 := Aside0.mk hl179_3
         clear hi179_3 hl179_3
         replace p179 := eq_true p179
         replace q179 := eq_true q179
         refine start_ (n := 8) (S := fun w' => w'.cell? ⟨gb178, 0, none⟩ = some (.slice (some ad179) l0_0.length c0_0) ∧ w'.cell? ⟨gb178, 1, none⟩ = some (.int .i64 a0_1) ∧ w'.cell? (ad179.add ((x3_2).toNat * 4)) = some (.int .i64 ((rd_T55 l0_0 x3_2).f0)) ∧ w'.cell? ⟨(ad179.add ((x3_2).toNat * 4)).block, (ad179.add ((x3_2).toNat * 4)).off + 1, none⟩ = some (.bool ((rd_T55 l0_0 x3_2).f1)) ∧ w'.cell? ⟨(ad179.add ((x3_2).toNat * 4)).block, (ad179.add ((x3_2).toNat * 4)).off + 2, none⟩ = some (.bool ((rd_T55 l0_0 x3_2).f2.f0)) ∧ w'.cell? ⟨(ad179.add ((x3_2).toNat * 4)).block, (ad179.add ((x3_2).toNat * 4)).off + 3, none⟩ = some (.slice A179_3 ((rd_T55 l0_0 x3_2).f2.f1).length c179_3)) (ds := []) #[false, false, false, false, false, false, false, false] (by kernel_rfl) rfl rfl ⟨(blk_cell BK178.out 0).trans rfl, (blk_cell BK178.out 1).trans rfl, ((HB.out.cell (World.block_lt_of_cell? w _ hw179_0)).trans hw179_0), ((HB.out.cell (World.block_lt_of_cell? w _ hw179_1)).trans hw179_1), ((HB.out.cell (World.block_lt_of_cell? w _ hw179_2)).trans hw179_2), ((HB.out.cell (World.block_lt_of_cell? w _ hw179_3)).trans hw179_3)⟩ (fun hHeld => ?_); refine with_tabW assartref05_Right.tab6 assartref05_Right.bits6 (fun HT_ HW_ => ?_)
         generalize wr.drew = w17 at BK178 HB HR179_3 hx179_0 hx179_1 hx179_2 hx179_3 hHeld ⊢
         refine pure_ (i := 1) (N := some 36) (v := ?_) (a' := ?_) #[false, true, false, false, false, false, false, false] rfl rfl (any_of HT_.out (by kernel_rfl)) (fun _ _ _ h => h) (Or.inl ⟨by rfl, ?_⟩) ?_ ?_
         rotate_left
         ·intro w'
          go_simp
          with_reducible rfl
         rotate_left
         ·simp only [Act.put, List.setIfInBounds_toArray, List.set_cons_zero, List.set_cons_succ, i64_w, i32_w]
          rfl
         refine pure_ (i := 3) (N := some 38) (v := ?_) (a' := ?_) #[false, true, false, true, false, false, false, false] rfl rfl (any_of HT_.out (by kernel_rfl)) (fun _ _ _ h => h) (Or.inl ⟨by rfl, ?_⟩) ?_ ?_
         rotate_left
         ·intro w'
          go_simp
          with_reducible rfl
         rotate_left
         ·simp only [Act.put, List.setIfInBounds_toArray, List.set_cons_zero, List.set_cons_succ, i64_w, i32_w]
          rfl
         refine take_ (i := 0) (N := some 35) (v := ?_) (a' := ?_) #[true, true, false, true, false, false, false, false] rfl rfl (take_ofW HT_.out HW_.out (by kernel_rfl)) (fun _ _ _ h => h) (Or.inl ⟨by rfl, ?_⟩) hHeld ?_ ?_
         rotate_left
         ·rintro w' ⟨s0, s1, s2, s3, s4, s5⟩
          go_simp
          with_reducible rfl
         rotate_left
         ·simp only [Act.put, List.setIfInBounds_toArray, List.set_cons_zero, List.set_cons_succ, i64_w, i32_w]
          rfl
         refine take_ (i := 2) (N := some 37) (v := ?_) (a' := ?_) #[true, true, true, true, false, false, false, false] rfl rfl (take_ofW HT_.out HW_.out (by kernel_rfl)) (fun _ _ _ h => h) (Or.inl ⟨by rfl, ?_⟩) hHeld ?_ ?_
         rotate_left
         ·rintro w' ⟨s0, s1, s2, s3, s4, s5⟩
          go_simp
          with_reducible rfl
         rotate_left
         ·simp only [Act.put, List.setIfInBounds_toArray, List.set_cons_zero, List.set_cons_succ, i64_w, i32_w]
          rfl
         refine pure_ (i := 4) (N := some 39) (v := ?_) (a' := ?_) #[true, true, true, true, true, false, false, false] rfl rfl (any_of HT_.out (by kernel_rfl)) (fun _ _ _ h => h) (Or.inl ⟨by rfl, ?_⟩) ?_ ?_
         rotate_left
         ·intro w'
          go_simp
          with_reducible rfl
         rotate_left
         ·simp only [Act.put, List.setIfInBounds_toArray, List.set_cons_zero, List.set_cons_succ, i64_w, i32_w]
          rfl
         refine take_ (i := 5) (N := some 40) (v := ?_) (a' := ?_) #[true, true, true, true, true, true, false, false] rfl rfl (take_ofW HT_.out HW_.out (by kernel_rfl)) (fun _ _ _ h => h) (Or.inl ⟨by rfl, ?_⟩) hHeld ?_ ?_
         rotate_left
         ·rintro w' ⟨s0, s1, s2, s3, s4, s5⟩
          go_simp
          with_reducible rfl
         rotate_left
         ·simp only [Act.put, List.setIfInBounds_toArray, List.set_cons_zero, List.set_cons_succ, i64_w, i32_w]
          rfl
         refine one_ (i := 6) (N := some 41) #[true, true, true, true, true, true, true, false] rfl rfl (one_of HT_.out (by kernel_rfl)) (by decide) (fun K hK => ?_)
         refine goes_ Try.func62 (by kernel_rfl) rfl #[.agg #[.slice (some ad179) l0_0.length c0_0, .int .i64 a0_1], .agg #[.int .i64 ((rd_T55 l0_0 x3_2).f0), .bool ((rd_T55 l0_0 x3_2).f1), .bool ((rd_T55 l0_0 x3_2).f2.f0), .slice A179_3 ((rd_T55 l0_0 x3_2).f2.f1).length c179_3]] (by rfl) rfl rfl (by (try simp only [List.map_toArray, List.map_cons, List.map_nil]); first | done | rfl | (simp only [List.length_drop, List.length_take]; rfl)) ?_
         with_reducible refine (assartref05_cell.calls k2 _ _ l0_0 a0_1 ((rd_T55 l0_0 x3_2).f0) ((rd_T55 l0_0 x3_2).f1) ((rd_T55 l0_0 x3_2).f2.f0) _ _ ((rd_T55 l0_0 x3_2).f2.f1) true _ ?side1 ?side2 ?side3 ?side4 A14.out).mono ?_
         (case side1 => repeat (first | exact (Kd.C_below HR0_0.out HB.out) | (with_reducible refine Kd.C_alloc ?_ _) | (with_reducible refine Kd.C_drewN ?_ _) | (with_reducible refine Kd.C_drew ?_)))
         (case side2 => exact HC0_0.out)
         (case side3 => repeat (first | exact (Kd.C_below HR179_3.out HB.out) | (with_reducible refine Kd.C_alloc ?_ _) | (with_reducible refine Kd.C_drewN ?_ _) | (with_reducible refine Kd.C_drew ?_)))
         (case side4 => exact HC179_3.out)
         rintro e w18 ⟨rfl, hb⟩
         refine ⟨_, rfl, ?_⟩
         have n0_ := Aside0.mk (blk_below (g := gb178) (o := .cells #[.slice (some ad179) l0_0.length c0_0, .int .i64 a0_1] 24 (0, 0)) (by (with_reducible repeat (first | refine blk_drewN ?_ _ | refine blk_drew ?_ | refine blk_alloc ?_ _)); exact BK178.out) hb)
         have n1_ := Aside0.mk (below_step (by repeat (first | (with_reducible first | exact HB.out | apply below_alloc | apply pw_below_drewN | apply below_drew1 | refine below_set ?_ GE178.out) | exact HB.out)) hb)
         clear BK178
         clear HB
         have BK178 := n0_
         have HB := n1_
         clear n0_ n1_
         (try clear hb)
         (try clear hb2)
         (try clear hk)
         (try clear hi)
         refine hK.out _ _ ⟨(blk_cell BK178.out 0).trans rfl, (blk_cell BK178.out 1).trans rfl, ((HB.out.cell (World.block_lt_of_cell? w _ hw179_0)).trans hw179_0), ((HB.out.cell (World.block_lt_of_cell? w _ hw179_1)).trans hw179_1), ((HB.out.cell (World.block_lt_of_cell? w _ hw179_2)).trans hw179_2), ((HB.out.cell (World.block_lt_of_cell? w _ hw179_3)).trans hw179_3)⟩ (fun hHeld => ?_)
         clear hK K
         refine norm_ (a' := ?_) ?_ ?_
         rotate_left
         ·show Act.put _ (some 41) _ = _
          simp only [Act.put, List.setIfInBounds_toArray, List.set_cons_zero, List.set_cons_succ, i64_w, i32_w]
          rfl
         refine pure_ (i := 7) (N := some 4) (v := ?_) (a' := ?_) #[true, true, true, true, true, true, true, true] rfl rfl (any_of HT_.out (by kernel_rfl)) (fun _ _ _ h => h) (Or.inl ⟨by rfl, ?_⟩) ?_ ?_
         rotate_left
         ·intro w'
          go_simp
          with_reducible rfl
         rotate_left
         ·simp only [Act.put, List.setIfInBounds_toArray, List.set_cons_zero, List.set_cons_succ, i64_w, i32_w]
          rfl
         refine done_ (done_of HT_.out (by kernel_rfl)) ?_
         try go_wp2
         go_roundg k2
         case measure => have := HJ1.out; have := HK2.out; omega
         case rel => exact ⟨(wrap64 (x3_2 + 1)), (by first | rfl | (simp; done) | (simp [*]; done)), H', ⟨by have := HJ1.out; have := HK2.out; omega⟩, ⟨by (with_reducible repeat (first | refine blk_drewN ?_ _ | refine blk_drew ?_ | refine blk_alloc ?_ _)); exact BK178.out⟩, ⟨by repeat (first | (with_reducible first | exact HB.out | apply below_alloc | apply pw_below_drewN | apply below_drew1 | refine below_set ?_ GE178.out) | exact HB.out)⟩⟩
        ·replace c15 := Bool.eq_false_iff.mpr c15
         subst c15
         have H1 : (some false) = some r := by rw [if_neg (show ¬ (false = true) by decide)] at H; exact H
         clear H
         have H := H1
         clear H1
         obtain rfl := Option.some.inj H
         have hcz19_0 : wr.cell? ⟨gb178, 0, none⟩ = some (.slice A0_0 l0_0.length c0_0) := (blk_cell BK178.out 0).trans rfl
         have hcz19_1 : wr.cell? ⟨gb178, 1, none⟩ = some (.int .i64 a0_1) := (blk_cell BK178.out 1).trans rfl
         have hfz19_0 := blk_frozen BK178.out 0
         have hfz19_1 := blk_frozen BK178.out 1
         try go_wp2
         have n0_ := Aside0.mk (blk_drew BK178.out)
         have n1_ := Aside0.mk (below_drew1 HB.out)
         clear BK178
         clear HB
         have BK178 := n0_
         have HB := n1_
         clear n0_ n1_
         have p179 : 0 ≤ (x3_2 : Int) := of_decide_eq_true (by first | (with_reducible assumption) | assumption)
         have q179 : x3_2 < (l0_0.length : Int) := of_decide_eq_true (by first | (with_reducible assumption) | assumption)
         obtain ⟨ad179, A179_3, c179_3, e179, hx179_0, hx179_1, hx179_2, hx179_3, hl179_3, hi179_3⟩ := at_T55 HR0_0.out x3_2 p179 q179
         have hw179_3 := hx179_3
         have hw179_2 := hx179_2
         have hw179_1 := hx179_1
         have hw179_0 := hx179_0
         cases e179
         replace hx179_0 := (HB.out.cell (World.block_lt_of_cell? w _ hx179_0)).trans hx179_0
         replace hx179_1 := (HB.out.cell (World.block_lt_of_cell? w _ hx179_1)).trans hx179_1
         replace hx179_2 := (HB.out.cell (World.block_lt_of_cell? w _ hx179_2)).trans hx179_2
         replace hx179_3 := (HB.out.cell (World.block_lt_of_cell? w _ hx179_3)).trans hx179_3
         have HR179_3 := Aside0.mk hi179_3
         have HC179_3 := Aside0.mk hl179_3
         clear hi179_3 hl179_3
         replace p179 := eq_true p179
         replace q179 := eq_true q179
         refine start_ (n := 8) (S := fun w' => w'.cell? ⟨gb178, 0, none⟩ = some (.slice (some ad179) l0_0.length c0_0) ∧ w'.cell? ⟨gb178, 1, none⟩ = some (.int .i64 a0_1) ∧ w'.cell? (ad179.add ((x3_2).toNat * 4)) = some (.int .i64 ((rd_T55 l0_0 x3_2).f0)) ∧ w'.cell? ⟨(ad179.add ((x3_2).toNat * 4)).block, (ad179.add ((x3_2).toNat * 4)).off + 1, none⟩ = some (.bool ((rd_T55 l0_0 x3_2).f1)) ∧ w'.cell? ⟨(ad179.add ((x3_2).toNat * 4)).block, (ad179.add ((x3_2).toNat * 4)).off + 2, none⟩ = some (.bool ((rd_T55 l0_0 x3_2).f2.f0)) ∧ w'.cell? ⟨(ad179.add ((x3_2).toNat * 4)).block, (ad179.add ((x3_2).toNat * 4)).off + 3, none⟩ = some (.slice A179_3 ((rd_T55 l0_0 x3_2).f2.f1).length c179_3)) (ds := []) #[false, false, false, false, false, false, false, false] (by kernel_rfl) rfl rfl ⟨(blk_cell BK178.out 0).trans rfl, (blk_cell BK178.out 1).trans rfl, ((HB.out.cell (World.block_lt_of_cell? w _ hw179_0)).trans hw179_0), ((HB.out.cell (World.block_lt_of_cell? w _ hw179_1)).trans hw179_1), ((HB.out.cell (World.block_lt_of_cell? w _ hw179_2)).trans hw179_2), ((HB.out.cell (World.block_lt_of_cell? w _ hw179_3)).trans hw179_3)⟩ (fun hHeld => ?_); refine with_tabW assartref05_Right.tab6 assartref05_Right.bits6 (fun HT_ HW_ => ?_)
         generalize wr.drew = w20 at BK178 HB HR179_3 hx179_0 hx179_1 hx179_2 hx179_3 hHeld ⊢
         refine pure_ (i := 1) (N := some 36) (v := ?_) (a' := ?_) #[false, true, false, false, false, false, false, false] rfl rfl (any_of HT_.out (by kernel_rfl)) (fun _ _ _ h => h) (Or.inl ⟨by rfl, ?_⟩) ?_ ?_
         rotate_left
         ·intro w'
          go_simp
          with_reducible rfl
         rotate_left
         ·simp only [Act.put, List.setIfInBounds_toArray, List.set_cons_zero, List.set_cons_succ, i64_w, i32_w]
          rfl
         refine pure_ (i := 3) (N := some 38) (v := ?_) (a' := ?_) #[false, true, false, true, false, false, false, false] rfl rfl (any_of HT_.out (by kernel_rfl)) (fun _ _ _ h => h) (Or.inl ⟨by rfl, ?_⟩) ?_ ?_
         rotate_left
         ·intro w'
          go_simp
          with_reducible rfl
         rotate_left
         ·simp only [Act.put, List.setIfInBounds_toArray, List.set_cons_zero, List.set_cons_succ, i64_w, i32_w]
          rfl
         refine take_ (i := 0) (N := some 35) (v := ?_) (a' := ?_) #[true, true, false, true, false, false, false, false] rfl rfl (take_ofW HT_.out HW_.out (by kernel_rfl)) (fun _ _ _ h => h) (Or.inl ⟨by rfl, ?_⟩) hHeld ?_ ?_
         rotate_left
         ·rintro w' ⟨s0, s1, s2, s3, s4, s5⟩
          go_simp
          with_reducible rfl
         rotate_left
         ·simp only [Act.put, List.setIfInBounds_toArray, List.set_cons_zero, List.set_cons_succ, i64_w, i32_w]
          rfl
         refine take_ (i := 2) (N := some 37) (v := ?_) (a' := ?_) #[true, true, true, true, false, false, false, false] rfl rfl (take_ofW HT_.out HW_.out (by kernel_rfl)) (fun _ _ _ h => h) (Or.inl ⟨by rfl, ?_⟩) hHeld ?_ ?_
         rotate_left
         ·rintro w' ⟨s0, s1, s2, s3, s4, s5⟩
          go_simp
          with_reducible rfl
         rotate_left
         ·simp only [Act.put, List.setIfInBounds_toArray, List.set_cons_zero, List.set_cons_succ, i64_w, i32_w]
          rfl
         refine pure_ (i := 4) (N := some 39) (v := ?_) (a' := ?_) #[true, true, true, true, true, false, false, false] rfl rfl (any_of HT_.out (by kernel_rfl)) (fun _ _ _ h => h) (Or.inl ⟨by rfl, ?_⟩) ?_ ?_
         rotate_left
         ·intro w'
          go_simp
          with_reducible rfl
         rotate_left
         ·simp only [Act.put, List.setIfInBounds_toArray, List.set_cons_zero, List.set_cons_succ, i64_w, i32_w]
          rfl
         refine take_ (i := 5) (N := some 40) (v := ?_) (a' := ?_) #[true, true, true, true, true, true, false, false] rfl rfl (take_ofW HT_.out HW_.out (by kernel_rfl)) (fun _ _ _ h => h) (Or.inl ⟨by rfl, ?_⟩) hHeld ?_ ?_
         rotate_left
         ·rintro w' ⟨s0, s1, s2, s3, s4, s5⟩
          go_simp
          with_reducible rfl
         rotate_left
         ·simp only [Act.put, List.setIfInBounds_toArray, List.set_cons_zero, List.set_cons_succ, i64_w, i32_w]
          rfl
         refine one_ (i := 6) (N := some 41) #[true, true, true, true, true, true, true, false] rfl rfl (one_of HT_.out (by kernel_rfl)) (by decide) (fun K hK => ?_)
         refine goes_ Try.func62 (by kernel_rfl) rfl #[.agg #[.slice (some ad179) l0_0.length c0_0, .int .i64 a0_1], .agg #[.int .i64 ((rd_T55 l0_0 x3_2).f0), .bool ((rd_T55 l0_0 x3_2).f1), .bool ((rd_T55 l0_0 x3_2).f2.f0), .slice A179_3 ((rd_T55 l0_0 x3_2).f2.f1).length c179_3]] (by rfl) rfl rfl (by (try simp only [List.map_toArray, List.map_cons, List.map_nil]); first | done | rfl | (simp only [List.length_drop, List.length_take]; rfl)) ?_
         with_reducible refine (assartref05_cell.calls k2 _ _ l0_0 a0_1 ((rd_T55 l0_0 x3_2).f0) ((rd_T55 l0_0 x3_2).f1) ((rd_T55 l0_0 x3_2).f2.f0) _ _ ((rd_T55 l0_0 x3_2).f2.f1) false _ ?side1 ?side2 ?side3 ?side4 A14.out).mono ?_
         (case side1 => repeat (first | exact (Kd.C_below HR0_0.out HB.out) | (with_reducible refine Kd.C_alloc ?_ _) | (with_reducible refine Kd.C_drewN ?_ _) | (with_reducible refine Kd.C_drew ?_)))
         (case side2 => exact HC0_0.out)
         (case side3 => repeat (first | exact (Kd.C_below HR179_3.out HB.out) | (with_reducible refine Kd.C_alloc ?_ _) | (with_reducible refine Kd.C_drewN ?_ _) | (with_reducible refine Kd.C_drew ?_)))
         (case side4 => exact HC179_3.out)
         rintro e w21 ⟨rfl, hb⟩
         refine ⟨_, rfl, ?_⟩
         have n0_ := Aside0.mk (blk_below (g := gb178) (o := .cells #[.slice (some ad179) l0_0.length c0_0, .int .i64 a0_1] 24 (0, 0)) (by (with_reducible repeat (first | refine blk_drewN ?_ _ | refine blk_drew ?_ | refine blk_alloc ?_ _)); exact BK178.out) hb)
         have n1_ := Aside0.mk (below_step (by repeat (first | (with_reducible first | exact HB.out | apply below_alloc | apply pw_below_drewN | apply below_drew1 | refine below_set ?_ GE178.out) | exact HB.out)) hb)
         clear BK178
         clear HB
         have BK178 := n0_
         have HB := n1_
         clear n0_ n1_
         (try clear hb)
         (try clear hb2)
         (try clear hk)
         (try clear hi)
         refine hK.out _ _ ⟨(blk_cell BK178.out 0).trans rfl, (blk_cell BK178.out 1).trans rfl, ((HB.out.cell (World.block_lt_of_cell? w _ hw179_0)).trans hw179_0), ((HB.out.cell (World.block_lt_of_cell? w _ hw179_1)).trans hw179_1), ((HB.out.cell (World.block_lt_of_cell? w _ hw179_2)).trans hw179_2), ((HB.out.cell (World.block_lt_of_cell? w _ hw179_3)).trans hw179_3)⟩ (fun hHeld => ?_)
         clear hK K
         refine norm_ (a' := ?_) ?_ ?_
         rotate_left
         ·show Act.put _ (some 41) _ = _
          simp only [Act.put, List.setIfInBounds_toArray, List.set_cons_zero, List.set_cons_succ, i64_w, i32_w]
          rfl
         refine pure_ (i := 7) (N := some 4) (v := ?_) (a' := ?_) #[true, true, true, true, true, true, true, true] rfl rfl (any_of HT_.out (by kernel_rfl)) (fun _ _ _ h => h) (Or.inl ⟨by rfl, ?_⟩) ?_ ?_
         rotate_left
         ·intro w'
          go_simp
          with_reducible rfl
         rotate_left
         ·simp only [Act.put, List.setIfInBounds_toArray, List.set_cons_zero, List.set_cons_succ, i64_w, i32_w]
          rfl
         refine done_ (done_of HT_.out (by kernel_rfl)) ?_
         try go_wp2
         go_ret
         exact ⟨by first | rfl | (simp [errW_none, errW_some] <;> rfl) | (simp [*, errW_none, errW_some] <;> rfl), by repeat (first | (with_reducible first | exact HB.out | apply below_alloc | apply pw_below_drewN | apply below_drew1 | refine below_set ?_ GE178.out) | exact HB.out)⟩
       ·rw [if_neg c13] at H
        exact absurd H (by simp)
      ·rw [if_neg c12] at H
       have c12b0 : decide (x3_2 < (l0_0.length : Int)) = false := decide_eq_false c12
       clear c12
       obtain rfl := Option.some.inj H
       have hcz22_0 : wr.cell? ⟨gb178, 0, none⟩ = some (.slice A0_0 l0_0.length c0_0) := (blk_cell BK178.out 0).trans rfl
       have hcz22_1 : wr.cell? ⟨gb178, 1, none⟩ = some (.int .i64 a0_1) := (blk_cell BK178.out 1).trans rfl
       have hfz22_0 := blk_frozen BK178.out 0
       have hfz22_1 := blk_frozen BK178.out 1
       go_wp2
       go_ret
       exact ⟨by first | rfl | (simp [errW_none, errW_some] <;> rfl) | (simp [*, errW_none, errW_some] <;> rfl), by repeat (first | (with_reducible first | exact HB.out | apply below_alloc | apply pw_below_drewN | apply below_drew1 | refine below_set ?_ GE178.out) | exact HB.out)⟩
end Go.Proofs.Yteiladccdenpbaa.P
end
section
namespace Go.Proofs.Yteiladccdenpbaa.P
open Go.RowKit Go.Proofs.YteiladccdenpbaaW.PrintWords Go.Proofs.YteiladccdenpbaaW.PrintLast Go.Proofs.YteiladccdenpbaaW.PrintMore
attribute [local go_sem] max2_int min2_int max_two min_two max_three min_three max_four min_four
set_option linter.unusedVariables false
set_option linter.unusedSimpArgs false
def assartref05_Small.l0 : Nat → Int → List (S55) → Int → Option (Bool)
 | 0, _, _, _ => none
 | k + 1, x5, x182000, x182001 => if x5 < (x182000.length : Int) then (if 0 ≤ x5 then (if (((rd_T55 x182000 x5).f2.f1).length : Int) > 10 then (some false) else (if ((rd_T55 x182000 x5).f0) > 1000000 then (some false) else (assartref05_Small.l0 k (wrap64 (x5 + 1)) x182000 x182001))) else (none)) else (some true)
def assartref05_Small.f (k : Nat) (l0_0 : List (S55)) (a0_1 : Int) (a1 : Int) : Option (Bool) := if (l0_0.length : Int) > a1 then (some false) else (assartref05_Small.l0 k 0 l0_0 a0_1)
set_option maxHeartbeats 8000000 in
set_option maxRecDepth 100000 in
theorem assartref05_Small.calls (k : Nat) (A0_0 : Option Addr) (c0_0 : Nat) (l0_0 : List (S55)) (a0_1 : Int) (a1 : Int) (r : Bool) (w : World) (hr0_0 : Kd.C k55 w A0_0 l0_0.length l0_0) (hc0_0 : l0_0.length ≤ c0_0) (h : assartref05_Small.f k l0_0 a0_1 a1 = some r) :
  Calls Try.prog 34 #[.agg #[.slice A0_0 l0_0.length c0_0, .int .i64 a0_1], .int .i64 a1] w fun e w' => e = .returned (.bool r) ∧ Below w.heap.size w w' := by
 have hu24 := Try.underlying24
 have HR0_0 := Aside0.mk hr0_0
 have HC0_0 := Aside0.mk hc0_0
 clear hr0_0 hc0_0
 have HB := Aside0.mk (Below.refl w.heap.size w)
 have H : (if (l0_0.length : Int) > a1 then (some false) else (assartref05_Small.l0 k 0 l0_0 a0_1)) = some r := h
 clear h
 by_cases c3 : (l0_0.length : Int) > a1
 ·rw [if_pos c3] at H
  have c3b0 : decide (a1 < (l0_0.length : Int)) = true := decide_eq_true c3
  clear c3
  obtain rfl := Option.some.inj H
  go_enter Try.func34, Try.ntmps34
  go_wp2_with (first | ((with_reducible refine gate_dst (N := 2) rfl ?_); refine box_event ?hg (N := 2) ?hd (cs := #[.slice A0_0 l0_0.length c0_0, .int .i64 a0_1]) (t := 24) ?hr ?_; (case hd => rfl); (case hg => rfl); (case hr => first | (go_simp; done) | (go_simp; rfl)); intro gb181 hg w4 hbox hb; have n0_ := Aside0.mk (below_step (by repeat (first | (with_reducible first | exact HB.out | apply below_alloc | apply pw_below_drewN | apply below_drew1) | exact HB.out)) hb); have n1_ := Aside0.mk (hbox); have n2_ := Aside0.mk ((by rw [hg]; exact (below_size (by repeat (first | (with_reducible first | exact HB.out | apply below_alloc | apply pw_below_drewN | apply below_drew1) | exact HB.out))) : w.heap.size ≤ gb181)); have n3_ := Aside0.mk ((by rw [hg]; exact (below_size (by repeat (first | (with_reducible first | exact HB.out | apply below_alloc | apply pw_below_drewN | apply below_drew1) | exact HB.out))) : w.heap.size ≤ gb181)); clear HB; have HB := n0_; have BK181 := n1_; have GW181 := n2_; have GE181 := n3_; clear n0_ n1_ n2_ n3_; clear hb hbox hg; have hcz5_0 : w4.cell? ⟨gb181, 0, none⟩ = some (.slice A0_0 l0_0.length c0_0) := (blk_cell BK181.out 0).trans rfl; have hcz5_1 : w4.cell? ⟨gb181, 1, none⟩ = some (.int .i64 a0_1) := (blk_cell BK181.out 1).trans rfl; have hfz5_0 := blk_frozen BK181.out 0; have hfz5_1 := blk_frozen BK181.out 1))
  go_ret
  exact ⟨by first | rfl | (simp [errW_none, errW_some] <;> rfl) | (simp [*, errW_none, errW_some] <;> rfl), by repeat (first | (with_reducible first | exact HB.out | apply below_alloc | apply pw_below_drewN | apply below_drew1 | refine below_set ?_ GE181.out) | exact HB.out)⟩
 ·rw [if_neg c3] at H
  have c3b0 : decide (a1 < (l0_0.length : Int)) = false := decide_eq_false c3
  clear c3
  have H' := Aside0.mk H
  clear H
  go_enter Try.func34, Try.ntmps34
  go_wp2_with (first | ((with_reducible refine gate_dst (N := 2) rfl ?_); refine box_event ?hg (N := 2) ?hd (cs := #[.slice A0_0 l0_0.length c0_0, .int .i64 a0_1]) (t := 24) ?hr ?_; (case hd => rfl); (case hg => rfl); (case hr => first | (go_simp; done) | (go_simp; rfl)); intro gb181 hg w6 hbox hb; have n0_ := Aside0.mk (below_step (by repeat (first | (with_reducible first | exact HB.out | apply below_alloc | apply pw_below_drewN | apply below_drew1) | exact HB.out)) hb); have n1_ := Aside0.mk (hbox); have n2_ := Aside0.mk ((by rw [hg]; exact (below_size (by repeat (first | (with_reducible first | exact HB.out | apply below_alloc | apply pw_below_drewN | apply below_drew1) | exact HB.out))) : w.heap.size ≤ gb181)); have n3_ := Aside0.mk ((by rw [hg]; exact (below_size (by repeat (first | (with_reducible first | exact HB.out | apply below_alloc | apply pw_below_drewN | apply below_drew1) | exact HB.out))) : w.heap.size ≤ gb181)); clear HB; have HB := n0_; have BK181 := n1_; have GW181 := n2_; have GE181 := n3_; clear n0_ n1_ n2_ n3_; clear hb hbox hg; have hcz7_0 : w6.cell? ⟨gb181, 0, none⟩ = some (.slice A0_0 l0_0.length c0_0) := (blk_cell BK181.out 0).trans rfl; have hcz7_1 : w6.cell? ⟨gb181, 1, none⟩ = some (.int .i64 a0_1) := (blk_cell BK181.out 1).trans rfl; have hfz7_0 := blk_frozen BK181.out 0; have hfz7_1 := blk_frozen BK181.out 1))
  go_loopg [5] k (fun kq v5 w' => ∃ (x5_1 : Int), v5 = .int .i64 x5_1 ∧ Aside0 (assartref05_Small.l0 kq x5_1 l0_0 a0_1 = some r) ∧ Aside0 (kq ≤ k) ∧ Aside0 (w'.heap[gb181]? = some (.cells #[(.slice A0_0 l0_0.length c0_0), .int .i64 a0_1] 24 (0, 0))) ∧ Aside0 (Below w.heap.size w w'))
  case atStart => exact ⟨(0), (by first | rfl | (simp; done) | (simp [*]; done)), H', ⟨Nat.le_refl _⟩, ⟨by (with_reducible repeat (first | refine blk_drewN ?_ _ | refine blk_drew ?_ | refine blk_alloc ?_ _)); exact BK181.out⟩, ⟨by repeat (first | (with_reducible first | exact HB.out | apply below_alloc | apply pw_below_drewN | apply below_drew1 | refine below_set ?_ GE181.out) | exact HB.out)⟩⟩
  case round =>
   clear H'
   try clear p2
   try clear c3
   try clear c3b0
   try clear hcz5_0
   try clear hcz5_1
   try clear hcz7_0
   try clear hcz7_1
   try clear hfz5_0
   try clear hfz5_1
   try clear hfz7_0
   try clear hfz7_1
   obtain ⟨x5_1, rfl, HA, HK1, BK181, HB⟩ := hrel
   cases gk with
   | zero => exact absurd HA.out (by simp [assartref05_Small.l0])
   | succ k1 =>
    have H := HA.out
    clear HA
    simp only [assartref05_Small.l0] at H
    by_cases c8 : x5_1 < (l0_0.length : Int)
    ·rw [if_pos c8] at H
     have c8b0 : decide (x5_1 < (l0_0.length : Int)) = true := decide_eq_true c8
     clear c8
     by_cases c9 : 0 ≤ x5_1
     ·rw [if_pos c9] at H
      have c9b0 : decide (0 ≤ x5_1) = true := decide_eq_true c9
      clear c9
      by_cases c10 : (((rd_T55 l0_0 x5_1).f2.f1).length : Int) > 10
      ·rw [if_pos c10] at H
       have c10b0 : decide (10 < (((rd_T55 l0_0 x5_1).f2.f1).length : Int)) = true := decide_eq_true c10
       have c10b1 : decide (10 < ((rd_T55 l0_0 x5_1).f2.f1).length) = true := decide_eq_true (by omega)
       clear c10
       obtain rfl := Option.some.inj H
       have hcz11_0 : wr.cell? ⟨gb181, 0, none⟩ = some (.slice A0_0 l0_0.length c0_0) := (blk_cell BK181.out 0).trans rfl
       have hcz11_1 : wr.cell? ⟨gb181, 1, none⟩ = some (.int .i64 a0_1) := (blk_cell BK181.out 1).trans rfl
       have hfz11_0 := blk_frozen BK181.out 0
       have hfz11_1 := blk_frozen BK181.out 1
       have p182 : 0 ≤ (x5_1 : Int) := of_decide_eq_true (by first | (with_reducible assumption) | assumption)
       have q182 : x5_1 < (l0_0.length : Int) := of_decide_eq_true (by first | (with_reducible assumption) | assumption)
       obtain ⟨ad182, A182_3, c182_3, e182, hx182_0, hx182_1, hx182_2, hx182_3, hl182_3, hi182_3⟩ := at_T55 HR0_0.out x5_1 p182 q182
       cases e182
       replace hx182_0 := (HB.out.cell (World.block_lt_of_cell? w _ hx182_0)).trans hx182_0
       replace hx182_1 := (HB.out.cell (World.block_lt_of_cell? w _ hx182_1)).trans hx182_1
       replace hx182_2 := (HB.out.cell (World.block_lt_of_cell? w _ hx182_2)).trans hx182_2
       replace hx182_3 := (HB.out.cell (World.block_lt_of_cell? w _ hx182_3)).trans hx182_3
       have HR182_3 := Aside0.mk hi182_3
       have HC182_3 := Aside0.mk hl182_3
       clear hi182_3 hl182_3
       replace p182 := eq_true p182
       replace q182 := eq_true q182
       go_wp2
       go_ret
       exact ⟨by first | rfl | (simp [errW_none, errW_some] <;> rfl) | (simp [*, errW_none, errW_some] <;> rfl), by repeat (first | (with_reducible first | exact HB.out | apply below_alloc | apply pw_below_drewN | apply below_drew1 | refine below_set ?_ GE181.out) | exact HB.out)⟩
      ·rw [if_neg c10] at H
       have c10b0 : decide (10 < (((rd_T55 l0_0 x5_1).f2.f1).length : Int)) = false := decide_eq_false c10
       have c10b1 : decide (10 < ((rd_T55 l0_0 x5_1).f2.f1).length) = false := decide_eq_false (by omega)
       clear c10
       by_cases c12 : ((rd_T55 l0_0 x5_1).f0) > 1000000
       ·rw [if_pos c12] at H
        have c12b0 : decide (1000000 < ((rd_T55 l0_0 x5_1).f0)) = true := decide_eq_true c12
        clear c12
        obtain rfl := Option.some.inj H
        have hcz13_0 : wr.cell? ⟨gb181, 0, none⟩ = some (.slice A0_0 l0_0.length c0_0) := (blk_cell BK181.out 0).trans rfl
        have hcz13_1 : wr.cell? ⟨gb181, 1, none⟩ = some (.int .i64 a0_1) := (blk_cell BK181.out 1).trans rfl
        have hfz13_0 := blk_frozen BK181.out 0
        have hfz13_1 := blk_frozen BK181.out 1
        have p182 : 0 ≤ (x5_1 : Int) := of_decide_eq_true (by first | (with_reducible assumption) | assumption)
        have q182 : x5_1 < (l0_0.length : Int) := of_decide_eq_true (by first | (with_reducible assumption) | assumption)
        obtain ⟨ad182, A182_3, c182_3, e182, hx182_0, hx182_1, hx182_2, hx182_3, hl182_3, hi182_3⟩ := at_T55 HR0_0.out x5_1 p182 q182
        cases e182
        replace hx182_0 := (HB.out.cell (World.block_lt_of_cell? w _ hx182_0)).trans hx182_0
        replace hx182_1 := (HB.out.cell (World.block_lt_of_cell? w _ hx182_1)).trans hx182_1
        replace hx182_2 := (HB.out.cell (World.block_lt_of_cell? w _ hx182_2)).trans hx182_2
        replace hx182_3 := (HB.out.cell (World.block_lt_of_cell? w _ hx182_3)).trans hx182_3
        have HR182_3 := Aside0.mk hi182_3
        have HC182_3 := Aside0.mk hl182_3
        clear hi182_3 hl182_3
        replace p182 := eq_true p182
        replace q182 := eq_true q182
        have p183 : 0 ≤ (x5_1 : Int) := of_decide_eq_true (by first | (with_reducible assumption) | assumption)
        have q183 : x5_1 < (l0_0.length : Int) := of_decide_eq_true (by first | (with_reducible assumption) | assumption)
        obtain ⟨ad183, A183_3, c183_3, e183, hx183_0, hx183_1, hx183_2, hx183_3, hl183_3, hi183_3⟩ := at_T55 HR0_0.out x5_1 p183 q183
        obtain rfl : ad182 = ad183 := (by injection e183)
        replace hx183_0 := (HB.out.cell (World.block_lt_of_cell? w _ hx183_0)).trans hx183_0
        replace hx183_1 := (HB.out.cell (World.block_lt_of_cell? w _ hx183_1)).trans hx183_1
        replace hx183_2 := (HB.out.cell (World.block_lt_of_cell? w _ hx183_2)).trans hx183_2
        replace hx183_3 := (HB.out.cell (World.block_lt_of_cell? w _ hx183_3)).trans hx183_3
        have HR183_3 := Aside0.mk hi183_3
        have HC183_3 := Aside0.mk hl183_3
        clear hi183_3 hl183_3
        replace p183 := eq_true p183
        replace q183 := eq_true q183
        have ea_ := Option.some.inj (hx182_3.symm.trans hx183_3)
        injection ea_ with ea_ en_ ec_
        subst ea_
        subst ec_
        clear en_
        go_wp2
        go_ret
        exact ⟨by first | rfl | (simp [errW_none, errW_some] <;> rfl) | (simp [*, errW_none, errW_some] <;> rfl), by repeat (first | (with_reducible first | exact HB.out | apply below_alloc | apply pw_below_drewN | apply below_drew1 | refine below_set ?_ GE181.out) | exact HB.out)⟩
       ·rw [if_neg c12] at H
        have c12b0 : decide (1000000 < ((rd_T55 l0_0 x5_1).f0)) = false := decide_eq_false c12
        clear c12
        have H' := Aside0.mk H
        clear H
        have hcz14_0 : wr.cell? ⟨gb181, 0, none⟩ = some (.slice A0_0 l0_0.length c0_0) := (blk_cell BK181.out 0).trans rfl
        have hcz14_1 : wr.cell? ⟨gb181, 1, none⟩ = some (.int .i64 a0_1) := (blk_cell BK181.out 1).trans rfl
        have hfz14_0 := blk_frozen BK181.out 0
        have hfz14_1 := blk_frozen BK181.out 1
        have p182 : 0 ≤ (x5_1 : Int) := of_decide_eq_true (by first | (with_reducible assumption) | assumption)
        have q182 : x5_1 < (l0_0.length : Int) := of_decide_eq_true (by first | (with_reducible assumption) | assumption)
        obtain ⟨ad182, A182_3, c182_3, e182, hx182_0, hx182_1, hx182_2, hx182_3, hl182_3, hi182_3⟩ := at_T55 HR0_0.out x5_1 p182 q182
        cases e182
        replace hx182_0 := (HB.out.cell (World.block_lt_of_cell? w _ hx182_0)).trans hx182_0
        replace hx182_1 := (HB.out.cell (World.block_lt_of_cell? w _ hx182_1)).trans hx182_1
        replace hx182_2 := (HB.out.cell (World.block_lt_of_cell? w _ hx182_2)).trans hx182_2
        replace hx182_3 := (HB.out.cell (World.block_lt_of_cell? w _ hx182_3)).trans hx182_3
        have HR182_3 := Aside0.mk hi182_3
        have HC182_3 := Aside0.mk hl182_3
        clear hi182_3 hl182_3
        replace p182 := eq_true p182
        replace q182 := eq_true q182
        have p183 : 0 ≤ (x5_1 : Int) := of_decide_eq_true (by first | (with_reducible assumption) | assumption)
        have q183 : x5_1 < (l0_0.length : Int) := of_decide_eq_true (by first | (with_reducible assumption) | assumption)
        obtain ⟨ad183, A183_3, c183_3, e183, hx183_0, hx183_1, hx183_2, hx183_3, hl183_3, hi183_3⟩ := at_T55 HR0_0.out x5_1 p183 q183
        obtain rfl : ad182 = ad183 := (by injection e183)
        replace hx183_0 := (HB.out.cell (World.block_lt_of_cell? w _ hx183_0)).trans hx183_0
        replace hx183_1 := (HB.out.cell (World.block_lt_of_cell? w _ hx183_1)).trans hx183_1
        replace hx183_2 := (HB.out.cell (World.block_lt_of_cell? w _ hx183_2)).trans hx183_2
        replace hx183_3 := (HB.out.cell (World.block_lt_of_cell? w _ hx183_3)).trans hx183_3
        have HR183_3 := Aside0.mk hi183_3
        have HC183_3 := Aside0.mk hl183_3
        clear hi183_3 hl183_3
        replace p183 := eq_true p183
        replace q183 := eq_true q183
        have ea_ := Option.some.inj (hx182_3.symm.trans hx183_3)
        injection ea_ with ea_ en_ ec_
        subst ea_
        subst ec_
        clear en_
        go_wp2
        go_roundg k1
        case measure => have := HK1.out; omega
        case rel => exact ⟨(wrap64 (x5_1 + 1)), (by first | rfl | (simp; done) | (simp [*]; done)), H', ⟨by have := HK1.out; omega⟩, ⟨by (with_reducible repeat (first | refine blk_drewN ?_ _ | refine blk_drew ?_ | refine blk_alloc ?_ _)); exact BK181.out⟩, ⟨by repeat (first | (with_reducible first | exact HB.out | apply below_alloc | apply pw_below_drewN | apply below_drew1 | refine below_set ?_ GE181.out) | exact HB.out)⟩⟩
     ·rw [if_neg c9] at H
      exact absurd H (by simp)
    ·rw [if_neg c8] at H
     have c8b0 : decide (x5_1 < (l0_0.length : Int)) = false := decide_eq_false c8
     clear c8
     obtain rfl := Option.some.inj H
     have hcz15_0 : wr.cell? ⟨gb181, 0, none⟩ = some (.slice A0_0 l0_0.length c0_0) := (blk_cell BK181.out 0).trans rfl
     have hcz15_1 : wr.cell? ⟨gb181, 1, none⟩ = some (.int .i64 a0_1) := (blk_cell BK181.out 1).trans rfl
     have hfz15_0 := blk_frozen BK181.out 0
     have hfz15_1 := blk_frozen BK181.out 1
     go_wp2
     go_ret
     exact ⟨by first | rfl | (simp [errW_none, errW_some] <;> rfl) | (simp [*, errW_none, errW_some] <;> rfl), by repeat (first | (with_reducible first | exact HB.out | apply below_alloc | apply pw_below_drewN | apply below_drew1 | refine below_set ?_ GE181.out) | exact HB.out)⟩
end Go.Proofs.Yteiladccdenpbaa.P
end
section
namespace Go.Proofs.Yteiladccdenpbaa.P
open Go.RowKit Go.Proofs.YteiladccdenpbaaW.PrintWords Go.Proofs.YteiladccdenpbaaW.PrintLast Go.Proofs.YteiladccdenpbaaW.PrintMore
attribute [local go_sem] max2_int min2_int max_two min_two max_three min_three max_four min_four
set_option linter.unusedVariables false
set_option linter.unusedSimpArgs false
def assartref05_May.f (k : Nat) (l0_0 : List (S55)) (a0_1 : Int) (a1 : Int) : Option (Bool) := (assartref05_Small.f k l0_0 a0_1 a1).bind fun t185 => (if t185 = true then ((assartref05_Right.f k l0_0 a0_1).bind fun t186 => (some t186)) else (some false))
set_option maxHeartbeats 8000000 in
set_option maxRecDepth 100000 in
theorem assartref05_May.calls (k : Nat) (A0_0 : Option Addr) (c0_0 : Nat) (l0_0 : List (S55)) (a0_1 : Int) (a1 : Int) (r : Bool) (w : World) (hr0_0 : Kd.C k55 w A0_0 l0_0.length l0_0) (hc0_0 : l0_0.length ≤ c0_0) (h : assartref05_May.f k l0_0 a0_1 a1 = some r) :
  Calls Try.prog 16 #[.agg #[.slice A0_0 l0_0.length c0_0, .int .i64 a0_1], .int .i64 a1] w fun e w' => e = .returned (.bool r) ∧ Below w.heap.size w w' := by
 have hu24 := Try.underlying24
 have HR0_0 := Aside0.mk hr0_0
 have HC0_0 := Aside0.mk hc0_0
 clear hr0_0 hc0_0
 have HB := Aside0.mk (Below.refl w.heap.size w)
 have H : ((assartref05_Small.f k l0_0 a0_1 a1).bind fun t185 => (if t185 = true then ((assartref05_Right.f k l0_0 a0_1).bind fun t186 => (some t186)) else (some false))) = some r := h
 clear h
 replace H := Option.bind_eq_some_iff.mp H
 obtain ⟨t185, A30, H⟩ := H
 replace H : (if t185 = true then ((assartref05_Right.f k l0_0 a0_1).bind fun t186 => (some t186)) else (some false)) = some r := H
 have A3 := Aside0.mk A30
 clear A30
 by_cases c4 : t185 = true
 ·subst c4
  have H1 : ((assartref05_Right.f k l0_0 a0_1).bind fun t186 => (some t186)) = some r := by rw [if_pos rfl] at H; exact H
  clear H
  have H := H1
  clear H1
  replace H := Option.bind_eq_some_iff.mp H
  obtain ⟨t186, A50, H⟩ := H
  replace H : (some t186) = some r := H
  have A5 := Aside0.mk A50
  clear A50
  obtain rfl := Option.some.inj H
  go_enter Try.func16, Try.ntmps16
  go_wp2_with (first | ((with_reducible refine gate_dst (N := 2) rfl ?_); refine box_event ?hg (N := 2) ?hd (cs := #[.slice A0_0 l0_0.length c0_0, .int .i64 a0_1]) (t := 24) ?hr ?_; (case hd => rfl); (case hg => rfl); (case hr => first | (go_simp; done) | (go_simp; rfl)); intro gb184 hg w6 hbox hb; have n0_ := Aside0.mk (below_step (by repeat (first | (with_reducible first | exact HB.out | apply below_alloc | apply pw_below_drewN | apply below_drew1) | exact HB.out)) hb); have n1_ := Aside0.mk (hbox); have n2_ := Aside0.mk ((by rw [hg]; exact (below_size (by repeat (first | (with_reducible first | exact HB.out | apply below_alloc | apply pw_below_drewN | apply below_drew1) | exact HB.out))) : w.heap.size ≤ gb184)); have n3_ := Aside0.mk ((by rw [hg]; exact (below_size (by repeat (first | (with_reducible first | exact HB.out | apply below_alloc | apply pw_below_drewN | apply below_drew1) | exact HB.out))) : w.heap.size ≤ gb184)); clear HB; have HB := n0_; have BK184 := n1_; have GW184 := n2_; have GE184 := n3_; clear n0_ n1_ n2_ n3_; clear hb hbox hg; have hcz7_0 : w6.cell? ⟨gb184, 0, none⟩ = some (.slice A0_0 l0_0.length c0_0) := (blk_cell BK184.out 0).trans rfl; have hcz7_1 : w6.cell? ⟨gb184, 1, none⟩ = some (.int .i64 a0_1) := (blk_cell BK184.out 1).trans rfl; have hfz7_0 := blk_frozen BK184.out 0; have hfz7_1 := blk_frozen BK184.out 1) | ((with_reducible refine gate_callee (f := 34) rfl ?_); refine goesL_ (some 7) rfl rfl Try.func34 (by kernel_rfl) rfl #[.agg #[.slice A0_0 l0_0.length c0_0, .int .i64 a0_1], .int .i64 a1] rfl (by (try simp only [List.map_toArray, List.map_cons, List.map_nil]); first | done | rfl | (simp only [List.length_drop, List.length_take]; rfl)) ?_; (with_reducible refine (assartref05_Small.calls k _ _ l0_0 a0_1 a1 true _ ?side1 ?side2 A3.out).mono ?_); (case side1 => repeat (first | exact (Kd.C_below HR0_0.out HB.out) | (with_reducible refine Kd.C_alloc ?_ _) | (with_reducible refine Kd.C_drewN ?_ _) | (with_reducible refine Kd.C_drew ?_))); (case side2 => exact HC0_0.out); rintro e w8 ⟨rfl, hb⟩; refine ⟨_, rfl, ?_⟩; have n0_ := Aside0.mk (blk_below (g := gb184) (o := .cells #[.slice A0_0 l0_0.length c0_0, .int .i64 a0_1] 24 (0, 0)) (by (with_reducible repeat (first | refine blk_drewN ?_ _ | refine blk_drew ?_ | refine blk_alloc ?_ _)); exact BK184.out) hb); have n1_ := Aside0.mk (below_step (by repeat (first | (with_reducible first | exact HB.out | apply below_alloc | apply pw_below_drewN | apply below_drew1 | refine below_set ?_ GE184.out) | exact HB.out)) hb); clear BK184; clear HB; have BK184 := n0_; have HB := n1_; clear n0_ n1_; (try clear hb); (try clear hb2); (try clear hk); (try clear hi); have hcz9_0 : w8.cell? ⟨gb184, 0, none⟩ = some (.slice A0_0 l0_0.length c0_0) := (blk_cell BK184.out 0).trans rfl; have hcz9_1 : w8.cell? ⟨gb184, 1, none⟩ = some (.int .i64 a0_1) := (blk_cell BK184.out 1).trans rfl; have hfz9_0 := blk_frozen BK184.out 0; have hfz9_1 := blk_frozen BK184.out 1) | (go_at_call 32; (with_reducible refine (assartref05_Right.calls k _ _ l0_0 a0_1 t186 _ ?side1 ?side2 A5.out).mono ?_); (case side1 => repeat (first | exact (Kd.C_below HR0_0.out HB.out) | (with_reducible refine Kd.C_alloc ?_ _) | (with_reducible refine Kd.C_drewN ?_ _) | (with_reducible refine Kd.C_drew ?_))); (case side2 => exact HC0_0.out); rintro e w10 ⟨rfl, hb⟩; have n0_ := Aside0.mk (blk_below (g := gb184) (o := .cells #[.slice A0_0 l0_0.length c0_0, .int .i64 a0_1] 24 (0, 0)) (by (with_reducible repeat (first | refine blk_drewN ?_ _ | refine blk_drew ?_ | refine blk_alloc ?_ _)); exact BK184.out) hb); have n1_ := Aside0.mk (below_step (by repeat (first | (with_reducible first | exact HB.out | apply below_alloc | apply pw_below_drewN | apply below_drew1 | refine below_set ?_ GE184.out) | exact HB.out)) hb); clear BK184; clear HB; have BK184 := n0_; have HB := n1_; clear n0_ n1_; (try clear hb); (try clear hb2); (try clear hk); (try clear hi)))
  go_ret
  exact ⟨by first | rfl | (simp [errW_none, errW_some] <;> rfl) | (simp [*, errW_none, errW_some] <;> rfl), by repeat (first | (with_reducible first | exact HB.out | apply below_alloc | apply pw_below_drewN | apply below_drew1 | refine below_set ?_ GE184.out) | exact HB.out)⟩
 ·replace c4 := Bool.eq_false_iff.mpr c4
  subst c4
  have H1 : (some false) = some r := by rw [if_neg (show ¬ (false = true) by decide)] at H; exact H
  clear H
  have H := H1
  clear H1
  obtain rfl := Option.some.inj H
  go_enter Try.func16, Try.ntmps16
  go_wp2_with (first | ((with_reducible refine gate_dst (N := 2) rfl ?_); refine box_event ?hg (N := 2) ?hd (cs := #[.slice A0_0 l0_0.length c0_0, .int .i64 a0_1]) (t := 24) ?hr ?_; (case hd => rfl); (case hg => rfl); (case hr => first | (go_simp; done) | (go_simp; rfl)); intro gb184 hg w11 hbox hb; have n0_ := Aside0.mk (below_step (by repeat (first | (with_reducible first | exact HB.out | apply below_alloc | apply pw_below_drewN | apply below_drew1) | exact HB.out)) hb); have n1_ := Aside0.mk (hbox); have n2_ := Aside0.mk ((by rw [hg]; exact (below_size (by repeat (first | (with_reducible first | exact HB.out | apply below_alloc | apply pw_below_drewN | apply below_drew1) | exact HB.out))) : w.heap.size ≤ gb184)); have n3_ := Aside0.mk ((by rw [hg]; exact (below_size (by repeat (first | (with_reducible first | exact HB.out | apply below_alloc | apply pw_below_drewN | apply below_drew1) | exact HB.out))) : w.heap.size ≤ gb184)); clear HB; have HB := n0_; have BK184 := n1_; have GW184 := n2_; have GE184 := n3_; clear n0_ n1_ n2_ n3_; clear hb hbox hg; have hcz12_0 : w11.cell? ⟨gb184, 0, none⟩ = some (.slice A0_0 l0_0.length c0_0) := (blk_cell BK184.out 0).trans rfl; have hcz12_1 : w11.cell? ⟨gb184, 1, none⟩ = some (.int .i64 a0_1) := (blk_cell BK184.out 1).trans rfl; have hfz12_0 := blk_frozen BK184.out 0; have hfz12_1 := blk_frozen BK184.out 1) | ((with_reducible refine gate_callee (f := 34) rfl ?_); refine goesL_ (some 7) rfl rfl Try.func34 (by kernel_rfl) rfl #[.agg #[.slice A0_0 l0_0.length c0_0, .int .i64 a0_1], .int .i64 a1] rfl (by (try simp only [List.map_toArray, List.map_cons, List.map_nil]); first | done | rfl | (simp only [List.length_drop, List.length_take]; rfl)) ?_; (with_reducible refine (assartref05_Small.calls k _ _ l0_0 a0_1 a1 false _ ?side1 ?side2 A3.out).mono ?_); (case side1 => repeat (first | exact (Kd.C_below HR0_0.out HB.out) | (with_reducible refine Kd.C_alloc ?_ _) | (with_reducible refine Kd.C_drewN ?_ _) | (with_reducible refine Kd.C_drew ?_))); (case side2 => exact HC0_0.out); rintro e w13 ⟨rfl, hb⟩; refine ⟨_, rfl, ?_⟩; have n0_ := Aside0.mk (blk_below (g := gb184) (o := .cells #[.slice A0_0 l0_0.length c0_0, .int .i64 a0_1] 24 (0, 0)) (by (with_reducible repeat (first | refine blk_drewN ?_ _ | refine blk_drew ?_ | refine blk_alloc ?_ _)); exact BK184.out) hb); have n1_ := Aside0.mk (below_step (by repeat (first | (with_reducible first | exact HB.out | apply below_alloc | apply pw_below_drewN | apply below_drew1 | refine below_set ?_ GE184.out) | exact HB.out)) hb); clear BK184; clear HB; have BK184 := n0_; have HB := n1_; clear n0_ n1_; (try clear hb); (try clear hb2); (try clear hk); (try clear hi)))
  go_ret
  exact ⟨by first | rfl | (simp [errW_none, errW_some] <;> rfl) | (simp [*, errW_none, errW_some] <;> rfl), by repeat (first | (with_reducible first | exact HB.out | apply below_alloc | apply pw_below_drewN | apply below_drew1 | refine below_set ?_ GE184.out) | exact HB.out)⟩
end Go.Proofs.Yteiladccdenpbaa.P
end
section
namespace Go.Proofs.Yteiladccdenpbaa.P
open Go.RowKit Go.Proofs.YteiladccdenpbaaW.PrintWords Go.Proofs.YteiladccdenpbaaW.PrintLast Go.Proofs.YteiladccdenpbaaW.PrintMore
set_option linter.unusedVariables false
set_option linter.unusedSimpArgs false
set_option maxHeartbeats 4000000 in
set_option maxRecDepth 100000 in
theorem at_closure (g2 g3 : Nat) (ad : Addr) (c : Nat) (n : Nat) (key y : Int) (i : Nat) (W : World) (hi : i < n)
    (h1 : W.cell? ⟨g2, 1, none⟩ = some (.slice (some ad) n c)) (h2 : W.cell? ⟨g3, 0, none⟩ = some (.int .i64 key)) (h3 : W.cell? (ad.add (i * 2)) = some (.int .i64 y)) :
    Calls Try.prog 84 #[.int .i64 i, .pointer (some ⟨g2, 0, none⟩), .pointer (some ⟨g3, 0, none⟩)] W fun e w' => e = .returned (.bool (decide (key ≤ y))) ∧ ∃ q, w' = W.drewN q := by
  have hu53 := Try.underlying53
  have hu49 := Try.underlying49
  have hiz : (i : Int) < (n : Int) := by omega
  have mixed : Try.prog.follows .mixedOrders = true := by kernel_rfl
  go_enter Try.func84, Try.ntmps84
  go_wp2
  go_region_o
  all_goals go_wp2
  all_goals go_ret
  all_goals exact ⟨by first | rfl | simp, 1, rfl⟩
theorem cut_at {n : Nat} {p : Nat → Bool} (i : Nat) (hi : i ≤ n) (h0 : ∀ t, t < i → p t = false) (h1 : ∀ t, i ≤ t → t < n → p t = true) : (List.range n).countP (fun t => !p t) = i := by
  have e : List.range n = List.range i ++ (List.range (n - i)).map (i + ·) := by
    apply List.ext_getElem
    · simp
      omega
    · intro j h1 h2
      rw [List.getElem_append]
      split
      · simp
      · rename_i h3
        rw [List.length_range] at h3
        simp
        omega
  rw [e, List.countP_append]
  have a : (List.range i).countP (fun t => !p t) = i := by
    have : (List.range i).countP (fun t => !p t) = (List.range i).length := List.countP_eq_length.2 fun t ht => by simp [h0 t (List.mem_range.1 ht)]
    rw [this, List.length_range]
  have b : ((List.range (n - i)).map (i + ·)).countP (fun t => !p t) = 0 := List.countP_eq_zero.2 fun t ht => by
    obtain ⟨u, hu, rfl⟩ := List.mem_map.1 ht
    have := List.mem_range.1 hu
    simp [h1 (i + u) (by omega) (by omega)]
  omega
set_option maxHeartbeats 4000000 in
set_option maxRecDepth 100000 in
theorem search_walk (cb : Array Value) (n : Nat) (p : Nat → Bool) (w : World) (hsz : n < 1000000)
    (hf : ∀ (m i : Nat), i < n → Calls Try.prog 84 (#[.int .i64 i] ++ cb) (w.drewN m) fun e w' => e = .returned (.bool (p i)) ∧ ∃ q, w' = (w.drewN m).drewN q)
    (hmono : ∀ a b, a ≤ b → b < n → p a = true → p b = true) :
    Calls Try.prog 83 #[.int .i64 n, .func (.func 84) #[] cb] w fun e w' => e = .returned (.int .i64 ((List.range n).countP (fun i => !p i) : Nat)) ∧ ∃ q, w' = w.drewN q := by
  have HF := Aside0.mk hf
  have M := Aside0.mk hmono
  have mixed : Try.prog.follows .mixedOrders = true := by kernel_rfl
  clear hf hmono
  generalize hcnt : (List.range n).countP (fun i => !p i) = cnt
  have CN := Aside0.mk hcnt
  clear hcnt
  go_enter Try.func83, Try.ntmps83
  go_wp2
  go_loopg [5, 6] n (fun kx s5 s6 wr => ∃ (lo hi q : Nat), s5 = .int .i64 lo ∧ s6 = .int .i64 hi ∧ lo ≤ hi ∧ hi ≤ n ∧ hi - lo ≤ kx ∧ wr = w.drewN q ∧
    Aside0 ((∀ t, t < lo → p t = false) ∧ (∀ t, hi ≤ t → t < n → p t = true)))
  case atStart => exact ⟨0, n, 0, rfl, rfl, Nat.zero_le _, Nat.le_refl _, by omega, rfl, ⟨fun t ht => absurd ht (Nat.not_lt_zero _), fun t h1 h2 => by omega⟩⟩
  case round =>
    obtain ⟨lo, hi, q, rfl, rfl, hlh, hin, hg, rfl, I⟩ := hrel
    by_cases hlt : lo < hi
    · have hc := HF.out q ((lo + hi) / 2) (by omega)
      rw [show (((lo + hi) / 2 : Nat) : Int) = ((lo : Int) + (hi : Int)) / 2 by omega] at hc
      cases hp : p ((lo + hi) / 2) <;> rw [hp] at hc
      · have HP := Aside0.mk hp
        clear hp
        go_wp2_with fail
        refine hc.mono ?_
        rintro e w' ⟨rfl, nq, rfl⟩
        go_wp2
        go_roundg (hi - ((lo + hi) / 2 + 1))
        case measure => omega
        case rel =>
          have I2 : Aside0 ((∀ t, t < (lo + hi) / 2 + 1 → p t = false) ∧ (∀ t, hi ≤ t → t < n → p t = true)) := ⟨fun t ht => (by
            cases h : p t with
            | false => rfl
            | true => have := M.out t ((lo + hi) / 2) (by omega) (by omega) h; rw [HP.out] at this; cases this), I.out.2⟩
          exact ⟨(lo + hi) / 2 + 1, hi, q + nq, by rw [show ((lo : Int) + (hi : Int)) / 2 + 1 = (((lo + hi) / 2 + 1 : Nat) : Int) by omega], rfl, by omega, hin, Nat.le_refl _, rfl, I2⟩
      · have HP := Aside0.mk hp
        clear hp
        go_wp2_with fail
        refine hc.mono ?_
        rintro e w' ⟨rfl, nq, rfl⟩
        go_wp2
        go_roundg ((lo + hi) / 2 - lo)
        case measure => omega
        case rel =>
          have I2 : Aside0 ((∀ t, t < lo → p t = false) ∧ (∀ t, (lo + hi) / 2 ≤ t → t < n → p t = true)) := ⟨I.out.1, fun t ht htn => M.out ((lo + hi) / 2) t ht htn HP.out⟩
          exact ⟨lo, (lo + hi) / 2, q + nq, rfl, by rw [show ((lo : Int) + (hi : Int)) / 2 = (((lo + hi) / 2 : Nat) : Int) by omega], by omega, by omega, Nat.le_refl _, rfl, I2⟩
    · obtain rfl : hi = lo := by omega
      have ecnt : cnt = hi := by rw [← CN.out]; exact cut_at hi hin I.out.1 I.out.2
      subst ecnt
      go_wp2
      go_ret
      exact ⟨rfl, q, rfl⟩
def rising (l : List S49) : Bool := (List.range l.length).all fun b => (List.range b).all fun a => decide ((rd_T49 l (a : Nat)).f0 < (rd_T49 l (b : Nat)).f0)
theorem rising_lt {l : List S49} (h : rising l = true) (a b : Nat) (hab : a < b) (hb : b < l.length) : (rd_T49 l (a : Nat)).f0 < (rd_T49 l (b : Nat)).f0 :=
  of_decide_eq_true (List.all_eq_true.1 (List.all_eq_true.1 h b (List.mem_range.2 hb)) a (List.mem_range.2 hab))
def atN (l : List S49) (key : Int) : Nat := (List.range l.length).countP fun i => !decide (key ≤ (rd_T49 l (i : Nat)).f0)
def atIs (l : List S49) (key : Int) : Bool := decide (atN l key < l.length) && ((rd_T49 l (atN l key : Nat)).f0 == key)
def node_At.f (a0_0 : Bool) (l0_1 : List S49) (a1 : Int) : Option (Int × Bool) :=
  if rising l0_1 = true ∧ l0_1.length < 1000000 then
    some (if a0_0 = false ∧ atIs l0_1 a1 = false then (if ((atN l0_1 a1 : Nat) : Int) - 1 < 0 then 0 else ((atN l0_1 a1 : Nat) : Int) - 1) else ((atN l0_1 a1 : Nat) : Int), atIs l0_1 a1)
  else none
theorem atN_le (l : List S49) (key : Int) : atN l key ≤ l.length := by
  have := List.countP_le_length (p := fun i : Nat => !decide (key ≤ (rd_T49 l (i : Nat)).f0)) (l := List.range l.length)
  rwa [List.length_range] at this
set_option maxHeartbeats 4000000 in
set_option maxRecDepth 100000 in
theorem node_At.calls (a0_0 : Bool) (A0_1 : Option Addr) (c0_1 : Nat) (l0_1 : List S49) (a1 : Int) (r1 : Int) (r2 : Bool) (w : World) (hr0_1 : Kd.C k49 w A0_1 l0_1.length l0_1) (hc0_1 : l0_1.length ≤ c0_1) (h : node_At.f a0_0 l0_1 a1 = some (r1, r2)) :
    Calls Try.prog 59 #[.agg #[.bool a0_0, .slice A0_1 l0_1.length c0_1], .int .i64 a1] w fun e w' => e = .returned (.tuple #[.int .i64 r1, .bool r2]) ∧ Below w.heap.size w w' := by
  have hu53 := Try.underlying53
  have hu49 := Try.underlying49
  have mixed : Try.prog.follows .mixedOrders = true := by kernel_rfl
  unfold node_At.f at h
  have hcond : rising l0_1 = true ∧ l0_1.length < 1000000 := by
    by_cases hc : rising l0_1 = true ∧ l0_1.length < 1000000
    · exact hc
    · rw [if_neg hc] at h
      cases h
  rw [if_pos hcond] at h
  obtain ⟨hris, hlen⟩ := hcond
  simp only [Option.some.injEq, Prod.mk.injEq] at h
  obtain ⟨h1, h2⟩ := h
  have H1 := Aside0.mk h1
  have H2 := Aside0.mk h2
  have HRIS := Aside0.mk hris
  have HLEN := Aside0.mk hlen
  have HR := Aside0.mk hr0_1
  clear h1 h2 hris hr0_1 hc0_1
  go_enter Try.func59, Try.ntmps59
  go_wp2_with (first | ((with_reducible refine gate_dst (N := 2) rfl ?_); refine box_event ?hg (N := 2) ?hd (cs := #[.bool a0_0, .slice A0_1 l0_1.length c0_1]) (t := 53) ?hr ?_; (case hd => rfl); (case hg => rfl); (case hr => first | (go_simp; done) | (go_simp; rfl)); intro g2 hg w2 hbox hb; have HB2 := Aside0.mk hb; have HK2 := Aside0.mk hbox; clear hb hbox hg) | ((with_reducible refine gate_dst (N := 3) rfl ?_); refine box_event ?hg (N := 3) ?hd (cs := #[.int .i64 a1]) (t := 3) ?hr ?_; (case hd => rfl); (case hg => rfl); (case hr => first | (go_simp; done) | (go_simp; rfl)); intro g3 hg w3 hbox hb; have HB3 := Aside0.mk (HB2.out.trans (hb.mono HB2.out.size)); have HK3 := Aside0.mk hbox; have HK23 := Aside0.mk (blk_below HK2.out hb); have k0 : w3.cell? ⟨g2, 0, none⟩ = some (.bool a0_0) := (blk_cell HK23.out 0).trans rfl; have k1 : w3.cell? ⟨g2, 1, none⟩ = some (.slice A0_1 l0_1.length c0_1) := (blk_cell HK23.out 1).trans rfl; have k3 : w3.cell? ⟨g3, 0, none⟩ = some (.int .i64 a1) := (blk_cell hbox 0).trans rfl; clear hb hbox hg HB2) | fail)
  have hS : Calls Try.prog 83 #[.int .i64 l0_1.length, .func (.func 84) #[] #[.pointer (some ⟨g2, 0, none⟩), .pointer (some ⟨g3, 0, none⟩)]] w3 fun e w' => e = .returned (.int .i64 (atN l0_1 a1 : Nat)) ∧ ∃ q, w' = w3.drewN q := by
    refine search_walk #[.pointer (some ⟨g2, 0, none⟩), .pointer (some ⟨g3, 0, none⟩)] l0_1.length (fun i => decide (a1 ≤ (rd_T49 l0_1 (i : Nat)).f0)) w3 hlen ?hf ?hm
    case hf =>
      intro m i hi
      obtain ⟨ad, hA, hc, _⟩ := at_T49 (Kd.C_below HR.out HB3.out) (i : Int) (by omega) (by omega)
      subst hA
      rw [Int.toNat_natCast] at hc
      exact at_closure g2 g3 ad c0_1 l0_1.length a1 _ i (w3.drewN m) hi k1 k3 hc
    case hm =>
      intro a b hab hb hp
      have hp := of_decide_eq_true hp
      by_cases he : a = b
      · subst he
        exact decide_eq_true hp
      · have := rising_lt HRIS.out a b (by omega) hb
        exact decide_eq_true (by omega)
  refine hS.mono ?_
  rintro e wd ⟨rfl, q, rfl⟩
  have HB4 := Aside0.mk (pw_below_drewN HB3.out q)
  have j0 : (w3.drewN q).cell? ⟨g2, 0, none⟩ = some (.bool a0_0) := k0
  have j1 : (w3.drewN q).cell? ⟨g2, 1, none⟩ = some (.slice A0_1 l0_1.length c0_1) := k1
  have j3 : (w3.drewN q).cell? ⟨g3, 0, none⟩ = some (.int .i64 a1) := k3
  have HR4 := Aside0.mk (Kd.C_below HR.out HB4.out)
  generalize w3.drewN q = w4 at HB4 j0 j1 j3 HR4 ⊢
  clear hS k0 k1 k3 HK2 HK3 HK23 HB3 HR
  have hle := atN_le l0_1 a1
  have HIS := Aside0.mk (show atIs l0_1 a1 = (decide (atN l0_1 a1 < l0_1.length) && ((rd_T49 l0_1 (atN l0_1 a1 : Nat)).f0 == a1)) from rfl)
  generalize atIs l0_1 a1 = is' at H1 H2 HIS
  generalize atN l0_1 a1 = c at H1 HIS hle ⊢
  by_cases hcl : c < l0_1.length
  · have d1 : decide ((c : Int) < (l0_1.length : Int)) = true := decide_eq_true (by omega)
    have p1 : (0 : Int) ≤ c := by omega
    have q1 : (c : Int) < l0_1.length := by omega
    obtain ⟨ad, hA, hc, _⟩ := at_T49 HR4.out (c : Int) p1 q1
    subst hA
    rw [Int.toNat_natCast] at hc
    obtain ⟨x, hx⟩ : ∃ x, (rd_T49 l0_1 (c : Nat)).f0 = x := ⟨_, rfl⟩
    rw [hx] at hc HIS
    rw [decide_eq_true hcl, Bool.true_and] at HIS
    obtain ⟨b, hb⟩ : ∃ b, (x == a1) = b := ⟨_, rfl⟩
    rw [hb] at HIS
    have hib := HIS.out
    subst hib
    have h2 := H2.out
    subst h2
    clear HIS H2 HRIS HLEN HR4 hx
    cases is' <;> cases a0_0
    all_goals (go_wp2; go_region_o)
    all_goals go_wp2
    all_goals go_ret2
    all_goals refine ⟨?_, below_drew1 HB4.out⟩
    all_goals have h1 := H1.out
    all_goals subst h1
    all_goals first | rfl | (simp; done) | (simp; omega)
  · have d1 : decide ((c : Int) < (l0_1.length : Int)) = false := decide_eq_false (by omega)
    have hib := HIS.out
    rw [decide_eq_false hcl, Bool.false_and] at hib
    subst hib
    have h2 := H2.out
    subst h2
    clear HIS H2 HRIS HLEN HR4
    cases a0_0
    all_goals (go_wp2; go_region_o)
    all_goals go_wp2
    all_goals go_ret2
    all_goals refine ⟨?_, below_drew1 HB4.out⟩
    all_goals have h1 := H1.out
    all_goals subst h1
    all_goals first | rfl | (simp; done) | (simp; omega)
end Go.Proofs.Yteiladccdenpbaa.P
end
section
namespace Go.Proofs.Yteiladccdenpbaa.P
open Go.RowKit Go.Proofs.YteiladccdenpbaaW.PrintWords Go.Proofs.YteiladccdenpbaaW.PrintLast Go.Proofs.YteiladccdenpbaaW.PrintMore
set_option linter.unusedVariables false
set_option linter.unusedSimpArgs false
instance decS49 : DecidableEq S49 := fun x y =>
  if h : x.f0 = y.f0 ∧ x.f1 = y.f1 then isTrue (by cases x; cases y; simp at h; simp [h]) else isFalse (fun e => h (by rw [e]; exact ⟨rfl, rfl⟩))
abbrev kAt (l : List S49) (i : Nat) : Int := (rd_T49 l (i : Nat)).f0
abbrev vAt (l : List S49) (i : Nat) : Int := (rd_T49 l (i : Nat)).f1
theorem rd_eq (l : List S49) (i : Nat) (h : i < l.length) : rd_T49 l (i : Nat) = l[i] := by simp [rd_T49, h]
theorem wsucc (j : Nat) (h : j < 2000000) : wrap64 ((j : Int) + 1) = ((j + 1 : Nat) : Int) := by unfold wrap64; omega
theorem wpred (j : Nat) (h0 : 0 < j) (h : j < 2000000) : wrap64 ((j : Int) - 1) = ((j - 1 : Nat) : Int) := by unfold wrap64; omega
def okAt (l : List S49) (i : Nat) : Prop := 0 ≤ kAt l i ∧ kAt l i ≤ 2147483647 ∧ 0 ≤ vAt l i ∧ vAt l i ≤ 2147483647 ∧ (0 < i → kAt l (i - 1) < kAt l i)
instance (l : List S49) (i : Nat) : Decidable (okAt l i) := by unfold okAt; infer_instance
def okFrom (l : List S49) (j : Nat) : Prop := ∀ i, i < l.length → j ≤ i → okAt l i
instance (l : List S49) (j : Nat) : Decidable (okFrom l j) := by unfold okFrom; infer_instance
theorem okFrom_end (l : List S49) : okFrom l l.length := fun i h1 h2 => by omega
theorem okFrom_step {l : List S49} {j : Nat} (h : j < l.length) : okFrom l j ↔ okAt l j ∧ okFrom l (j + 1) :=
  ⟨fun hh => ⟨hh j h (Nat.le_refl _), fun i h1 h2 => hh i h1 (by omega)⟩, fun ⟨h1, h2⟩ i hi hj => by
    by_cases e : i = j
    · subst e; exact h1
    · exact h2 i hi (by omega)⟩
theorem okFrom_dec {l : List S49} {j : Nat} (h : j < l.length) : decide (okFrom l j) = (decide (okAt l j) && decide (okFrom l (j + 1))) := by
  rw [← Bool.decide_and, decide_eq_decide]
  exact okFrom_step h
def RtN (l : List S49) : Prop := 1 ≤ l.length ∧ l.length ≤ 4 ∧ okFrom l 0
instance (l : List S49) : Decidable (RtN l) := by unfold RtN; infer_instance
theorem refRight04_l0 (leaf : Bool) (l : List S49) (hl : l.length ≤ 1000) : ∀ (d k j : Nat), j + d = l.length → d < k → assartref04_Right.l0 k (j : Int) leaf l = some (decide (okFrom l j)) := by
  intro d
  induction d with
  | zero =>
    intro k j hj hk
    obtain ⟨k, rfl⟩ : ∃ m, k = m + 1 := ⟨k - 1, by omega⟩
    obtain rfl : j = l.length := by omega
    simp only [assartref04_Right.l0]
    rw [if_neg (by omega), decide_eq_true (okFrom_end l)]
  | succ d ih =>
    intro k j hj hk
    obtain ⟨k, rfl⟩ : ∃ m, k = m + 1 := ⟨k - 1, by omega⟩
    have hlt : j < l.length := by omega
    have ih' := ih k (j + 1) (by omega) (by omega)
    simp only [assartref04_Right.l0]
    rw [okFrom_dec hlt, if_pos (by omega), if_pos (by omega), wsucc j (by omega), ih']
    by_cases h1 : kAt l j < 0
    · rw [if_pos h1, decide_eq_false (fun h : okAt l j => by have := h.1; omega), Bool.false_and]
    by_cases h2 : kAt l j > 2147483647
    · rw [if_neg h1, if_pos h2, decide_eq_false (fun h : okAt l j => by have := h.2.1; omega), Bool.false_and]
    by_cases h3 : vAt l j < 0
    · rw [if_neg h1, if_neg h2, if_pos h3, decide_eq_false (fun h : okAt l j => by have := h.2.2.1; omega), Bool.false_and]
    by_cases h4 : vAt l j > 2147483647
    · rw [if_neg h1, if_neg h2, if_neg h3, if_pos h4, decide_eq_false (fun h : okAt l j => by have := h.2.2.2.1; omega), Bool.false_and]
    rw [if_neg h1, if_neg h2, if_neg h3, if_neg h4]
    by_cases h5 : j = 0
    · subst h5
      rw [if_neg (by simp), decide_eq_true (show okAt l 0 from ⟨by omega, by omega, by omega, by omega, fun h => absurd h (by omega)⟩), Bool.true_and]
    · rw [if_pos (by omega), wpred j (by omega) (by omega), if_pos (by omega), if_pos (by omega)]
      by_cases h6 : kAt l (j - 1) ≥ kAt l j
      · rw [if_pos h6, decide_eq_false (fun h : okAt l j => by have := h.2.2.2.2 (by omega); omega), Bool.false_and]
      · rw [if_neg h6, decide_eq_true (show okAt l j from ⟨by omega, by omega, by omega, by omega, fun _ => by omega⟩), Bool.true_and]
theorem refRight04_val (leaf : Bool) (l : List S49) (k : Nat) (hk : 2 + l.length ≤ k ∨ 6 ≤ k) : assartref04_Right.f k leaf l = some (decide (RtN l)) := by
  unfold assartref04_Right.f
  obtain ⟨k, rfl⟩ : ∃ m, k = m + 1 := ⟨k - 1, by omega⟩
  by_cases h1 : l.length < 1
  · rw [if_pos (by omega)]
    simp only [assartref04_Right.j0]
    rw [if_pos trivial, decide_eq_false (fun h : RtN l => by have := h.1; omega)]
  · rw [if_neg (by omega)]
    simp only [assartref04_Right.j0]
    by_cases h4 : l.length ≤ 4
    · rw [decide_eq_false (show ¬ (l.length : Int) > 4 by omega), if_neg (by simp)]
      have := refRight04_l0 leaf l (by omega) l.length k 0 (by omega) (by omega)
      rw [show ((0 : Nat) : Int) = 0 from rfl] at this
      rw [this]
      congr 1
      rw [decide_eq_decide]
      exact ⟨fun h => ⟨by omega, h4, h⟩, fun h => h.2.2⟩
    · rw [decide_eq_true (show (l.length : Int) > 4 by omega), if_pos rfl, decide_eq_false (fun h : RtN l => h4 h.2.1)]
theorem items_l0 (a b : List S49) (hl : a.length ≤ 1000000) (hab : a.length = b.length) : ∀ (d k j : Nat), j + d = a.length → d < k → assartref04_Items.l0 k a b (j : Int) = some (decide (a.drop j = b.drop j)) := by
  intro d
  induction d with
  | zero =>
    intro k j hj hk
    obtain ⟨k, rfl⟩ : ∃ m, k = m + 1 := ⟨k - 1, by omega⟩
    obtain rfl : j = a.length := by omega
    simp only [assartref04_Items.l0]
    rw [if_neg (by omega), decide_eq_true (by rw [List.drop_of_length_le (Nat.le_refl _), List.drop_of_length_le (by omega)])]
  | succ d ih =>
    intro k j hj hk
    obtain ⟨k, rfl⟩ : ∃ m, k = m + 1 := ⟨k - 1, by omega⟩
    have hlt : j < a.length := by omega
    have hlt2 : j < b.length := by omega
    simp only [assartref04_Items.l0]
    rw [if_pos (by omega), if_pos (by omega), if_pos (by omega), wsucc j (by omega), ih k (j + 1) (by omega) (by omega), rd_eq a j hlt, rd_eq b j hlt2, List.drop_eq_getElem_cons hlt, List.drop_eq_getElem_cons hlt2]
    by_cases h : a[j] = b[j]
    · rw [h, if_neg (by simp)]
      congr 1
      rw [decide_eq_decide]
      exact ⟨fun hh => by rw [hh], fun hh => (List.cons.inj hh).2⟩
    · rw [if_pos]
      · rw [decide_eq_false]
        intro hh
        exact h (List.cons.inj hh).1
      · have : ¬ (a[j].f0 = b[j].f0 ∧ a[j].f1 = b[j].f1) := fun ⟨h1, h2⟩ => h (by
          generalize a[j] = x at h1 h2; generalize b[j] = y at h1 h2
          cases x; cases y; simp at h1 h2; simp [h1, h2])
        by_cases e : a[j].f0 = b[j].f0
        · have : ¬ a[j].f1 = b[j].f1 := fun h2 => this ⟨e, h2⟩
          simp [e, this]
        · simp [e]
theorem items_val (a b : List S49) (hl : a.length ≤ 1000000) (k : Nat) (hk : a.length < k) : assartref04_Items.f k a b = some (decide (a = b)) := by
  unfold assartref04_Items.f
  by_cases h : a.length = b.length
  · rw [if_pos (by omega)]
    have := items_l0 a b hl h a.length k 0 (by omega) hk
    rw [show ((0 : Nat) : Int) = 0 from rfl] at this
    rw [this, List.drop_zero, List.drop_zero]
  · rw [if_neg (by omega), decide_eq_false (fun e => h (by rw [e]))]
theorem rising_of {l : List S49} (h : RtN l) : rising l = true := by
  have step : ∀ i, i + 1 < l.length → kAt l i < kAt l (i + 1) := fun i hi => (h.2.2 (i + 1) hi (by omega)).2.2.2.2 (by omega)
  have all : ∀ d a, a + d + 1 < l.length → kAt l a < kAt l (a + d + 1) := by
    intro d
    induction d with
    | zero => intro a ha; exact step a ha
    | succ d ih => intro a ha; have h1 := ih a (by omega); have h2 := step (a + d + 1) (by omega); rw [show a + (d + 1) + 1 = a + d + 1 + 1 by omega]; omega
  unfold rising
  rw [List.all_eq_true]
  intro b hb
  rw [List.all_eq_true]
  intro a ha
  have hb := List.mem_range.1 hb
  have ha := List.mem_range.1 ha
  have := all (b - a - 1) a (by omega)
  rw [show a + (b - a - 1) + 1 = b by omega] at this
  exact decide_eq_true this
theorem atN_split {l : List S49} (key : Int) (hris : rising l = true) : (∀ i, i < atN l key → kAt l i < key) ∧ (∀ i, atN l key ≤ i → i < l.length → key ≤ kAt l i) := by
  have ex : ∃ c, c ≤ l.length ∧ (∀ i, i < c → kAt l i < key) ∧ (∀ i, c ≤ i → i < l.length → key ≤ kAt l i) := by
    have gen : ∀ d j, j + d = l.length → (∀ i, i < j → kAt l i < key) → ∃ c, c ≤ l.length ∧ (∀ i, i < c → kAt l i < key) ∧ (∀ i, c ≤ i → i < l.length → key ≤ kAt l i) := by
      intro d
      induction d with
      | zero => intro j hj h; exact ⟨j, by omega, h, fun i h1 h2 => by omega⟩
      | succ d ih =>
        intro j hj h
        by_cases hx : kAt l j < key
        · exact ih (j + 1) (by omega) (fun i hi => by
            by_cases e : i = j
            · subst e; exact hx
            · exact h i (by omega))
        · refine ⟨j, by omega, h, fun i h1 h2 => ?_⟩
          by_cases e : i = j
          · subst e; omega
          · have : kAt l j < kAt l i := rising_lt hris j i (by omega) h2
            omega
    exact gen l.length 0 (by omega) (fun i hi => by omega)
  obtain ⟨c, hc, h0, h1⟩ := ex
  have hn : atN l key = c := cut_at (p := fun i => decide (key ≤ kAt l i)) c hc (fun t ht => decide_eq_false (by have := h0 t ht; omega)) (fun t ht htn => decide_eq_true (h1 t ht htn))
  rw [hn]
  exact ⟨h0, h1⟩
abbrev It (l : List S55) (p : Int) : List S49 := (rd_T55 l p).f2.f1
abbrev Lf (l : List S55) (p : Int) : Bool := (rd_T55 l p).f2.f0
abbrev Rf (l : List S55) (p : Int) : Int := (rd_T55 l p).f0
def plR (n : Nat) (it : List S49) : Prop := ∀ i, i < it.length → 0 ≤ vAt it i ∧ vAt it i < n
instance (n : Nat) (it : List S49) : Decidable (plR n it) := by unfold plR; infer_instance
def plF (n : Nat) (it : List S49) (j : Nat) : Prop := ∀ i, i < it.length → j ≤ i → 0 ≤ vAt it i ∧ vAt it i < n
instance (n : Nat) (it : List S49) (j : Nat) : Decidable (plF n it j) := by unfold plF; infer_instance
theorem plF_step {n : Nat} {it : List S49} {j : Nat} (h : j < it.length) : plF n it j ↔ (0 ≤ vAt it j ∧ vAt it j < n) ∧ plF n it (j + 1) :=
  ⟨fun hh => ⟨hh j h (Nat.le_refl _), fun i h1 h2 => hh i h1 (by omega)⟩, fun ⟨h1, h2⟩ i hi hj => by
    by_cases e : i = j
    · subst e; exact h1
    · exact h2 i hi (by omega)⟩
theorem places_l0 (l : List S55) (kp : Int) (it : List S49) (hl : it.length ≤ 1000) : ∀ (d k j : Nat), j + d = it.length → 2 * d + 2 ≤ k → assartref05_places.l0 k (j : Int) l kp false it = some (decide (plF l.length it j)) := by
  intro d
  induction d with
  | zero =>
    intro k j hj hk
    obtain ⟨k, rfl⟩ : ∃ m, k = m + 2 := ⟨k - 2, by omega⟩
    simp only [assartref05_places.l0]
    rw [if_neg (by omega)]
    simp only [assartref05_places.j1]
    rw [if_neg (by simp), decide_eq_true (show plF l.length it j from fun i h1 h2 => by omega)]
  | succ d ih =>
    intro k j hj hk
    obtain ⟨k, rfl⟩ : ∃ m, k = m + 2 := ⟨k - 2, by omega⟩
    simp only [assartref05_places.l0]
    rw [if_pos (by omega)]
    simp only [assartref05_places.j1]
    rw [if_pos (show (!false) = true from rfl), if_pos (by omega), if_pos (by omega), wsucc j (by omega), ih k (j + 1) (by omega) (by omega)]
    by_cases h1 : vAt it j < 0
    · rw [if_pos h1, decide_eq_false (fun h => by have := (h j (by omega) (Nat.le_refl _)).1; omega)]
    · rw [if_neg h1]
      by_cases h2 : vAt it j ≥ (l.length : Int)
      · rw [if_pos h2, decide_eq_false (fun h => by have := (h j (by omega) (Nat.le_refl _)).2; omega)]
      · rw [if_neg h2]
        congr 1
        rw [decide_eq_decide, plF_step (j := j) (by omega)]
        exact ⟨fun h => ⟨⟨by omega, by omega⟩, h⟩, fun h => h.2⟩
theorem places_val (l : List S55) (kp : Int) (leaf : Bool) (it : List S49) (hl : it.length ≤ 1000) (k : Nat) (hk : 2 * it.length + 2 ≤ k) : assartref05_places.f k l kp leaf it = some (decide (leaf = true ∨ plR l.length it)) := by
  unfold assartref05_places.f
  cases leaf with
  | true =>
    obtain ⟨k, rfl⟩ : ∃ m, k = m + 2 := ⟨k - 2, by omega⟩
    simp only [assartref05_places.l0]
    by_cases h : 0 < (it.length : Int)
    · rw [if_pos h]
      simp only [assartref05_places.j1]
      rw [if_neg (by simp), decide_eq_true (.inl trivial)]
    · rw [if_neg h]
      simp only [assartref05_places.j1]
      rw [if_neg (by simp), decide_eq_true (.inl trivial)]
  | false =>
    have := places_l0 l kp it hl it.length k 0 (by omega) (by omega)
    rw [show ((0 : Nat) : Int) = 0 from rfl] at this
    rw [this]
    congr 1
    rw [decide_eq_decide]
    exact ⟨fun h => .inr fun i hi => h i hi (Nat.zero_le _), fun h i hi _ => (h.resolve_left (by simp)) i hi⟩
def cellR (n : Nat) (c : S55) : Prop := (c.f0 = 0 ∧ c.f2.f0 = false ∧ c.f2.f1.length = 0) ∨ (0 < c.f0 ∧ c.f0 ≤ 2147483647 ∧ c.f1 = false ∧ RtN c.f2.f1 ∧ (c.f2.f0 = true ∨ plR n c.f2.f1))
instance (n : Nat) (c : S55) : Decidable (cellR n c) := by unfold cellR; infer_instance
theorem cell_val (l : List S55) (kp : Int) (c : S55) (k : Nat) (hk : 12 ≤ k) : assartref05_cell.f k l kp c.f0 c.f1 c.f2.f0 c.f2.f1 = some (decide (cellR l.length c)) := by
  unfold assartref05_cell.f
  by_cases h0 : c.f0 = 0
  · rw [if_pos h0]
    by_cases hl : c.f2.f0 = true
    · rw [if_pos hl, decide_eq_false]
      rintro (h | h)
      · rw [hl] at h; exact absurd h.2.1 (by simp)
      · omega
    · rw [if_neg hl]
      have e : ((c.f2.f1.length : Int) == 0) = decide (cellR l.length c) := by
        by_cases hz : c.f2.f1.length = 0
        · rw [decide_eq_true (.inl ⟨h0, by simpa using hl, hz⟩)]
          simp [hz]
        · rw [decide_eq_false]
          · simp [hz]
          · rintro (h | h)
            · exact hz h.2.2
            · omega
      rw [e]
  · rw [if_neg h0, refRight04_val _ _ _ (.inr (by omega)), Option.bind_some]
    by_cases h1 : c.f0 > 0
    · rw [if_pos h1]
      by_cases h2 : c.f0 ≤ 2147483647
      · rw [if_pos h2]
        by_cases h3 : c.f1 = true
        · rw [if_pos h3, decide_eq_false]
          rintro (h | h)
          · exact h0 h.1
          · rw [h3] at h; exact absurd h.2.2.1 (by simp)
        · rw [if_neg h3]
          by_cases h4 : RtN c.f2.f1
          · rw [if_pos (decide_eq_true h4), places_val l kp _ _ (by have := h4.2.1; omega) k (by have := h4.2.1; omega), Option.bind_some]
            congr 1
            rw [decide_eq_decide]
            exact ⟨fun h => .inr ⟨h1, h2, by simpa using h3, h4, h⟩, fun h => by
              rcases h with h | h
              · exact absurd h.1 h0
              · exact h.2.2.2.2⟩
          · rw [if_neg (by simpa using h4), decide_eq_false]
            rintro (h | h)
            · exact h0 h.1
            · exact h4 h.2.2.2.1
      · rw [if_neg h2, decide_eq_false]
        rintro (h | h)
        · exact h0 h.1
        · omega
    · rw [if_neg h1, decide_eq_false]
      rintro (h | h)
      · exact h0 h.1
      · omega
def cellsR (l : List S55) (j : Nat) : Prop := ∀ i, i < l.length → j ≤ i → cellR l.length (rd_T55 l (i : Nat))
instance (l : List S55) (j : Nat) : Decidable (cellsR l j) := by unfold cellsR; infer_instance
theorem cellsR_step {l : List S55} {j : Nat} (h : j < l.length) : cellsR l j ↔ cellR l.length (rd_T55 l (j : Nat)) ∧ cellsR l (j + 1) :=
  ⟨fun hh => ⟨hh j h (Nat.le_refl _), fun i h1 h2 => hh i h1 (by omega)⟩, fun ⟨h1, h2⟩ i hi hj => by
    by_cases e : i = j
    · subst e; exact h1
    · exact h2 i hi (by omega)⟩
theorem right05_l0 (l : List S55) (kp : Int) (hl : l.length ≤ 2000) : ∀ (d k j : Nat), j + d = l.length → d + 13 ≤ k → assartref05_Right.l0 k (j : Int) l kp = some (decide (cellsR l j)) := by
  intro d
  induction d with
  | zero =>
    intro k j hj hk
    obtain ⟨k, rfl⟩ : ∃ m, k = m + 1 := ⟨k - 1, by omega⟩
    simp only [assartref05_Right.l0]
    rw [if_neg (by omega), decide_eq_true (show cellsR l j from fun i h1 h2 => by omega)]
  | succ d ih =>
    intro k j hj hk
    obtain ⟨k, rfl⟩ : ∃ m, k = m + 1 := ⟨k - 1, by omega⟩
    simp only [assartref05_Right.l0]
    rw [if_pos (by omega), if_pos (by omega), cell_val l kp (rd_T55 l (j : Nat)) k (by omega), Option.bind_some, wsucc j (by omega), ih k (j + 1) (by omega) (by omega)]
    by_cases h : cellR l.length (rd_T55 l (j : Nat))
    · rw [if_pos (decide_eq_true h)]
      congr 1
      rw [decide_eq_decide, cellsR_step (j := j) (by omega)]
      exact ⟨fun hh => ⟨h, hh⟩, fun hh => hh.2⟩
    · rw [if_neg (by simpa using h), decide_eq_false]
      exact fun hh => h (hh j (by omega) (Nat.le_refl _))
def heapR (l : List S55) (kp : Int) : Prop := 1 ≤ l.length ∧ l.length ≤ 2000 ∧ 0 ≤ kp ∧ kp ≤ l.length ∧ cellsR l 0
instance (l : List S55) (kp : Int) : Decidable (heapR l kp) := by unfold heapR; infer_instance
theorem right05_val (l : List S55) (kp : Int) (k : Nat) (hk : 2020 ≤ k ∨ l.length + 20 ≤ k) : assartref05_Right.f k l kp = some (decide (heapR l kp)) := by
  unfold assartref05_Right.f
  obtain ⟨k, rfl⟩ : ∃ m, k = m + 1 := ⟨k - 1, by omega⟩
  by_cases h1 : (l.length : Int) < 1
  · rw [if_pos h1]
    simp only [assartref05_Right.j0]
    rw [if_pos trivial, decide_eq_false (fun h => by have := h.1; omega)]
  · rw [if_neg h1]
    by_cases h2 : (l.length : Int) > 2000
    · rw [if_pos h2]
      simp only [assartref05_Right.j0]
      rw [if_pos trivial, decide_eq_false (fun h => by have := h.2.1; omega)]
    · rw [if_neg h2]
      by_cases h3 : kp < 0
      · rw [if_pos h3]
        simp only [assartref05_Right.j0]
        rw [if_pos trivial, decide_eq_false (fun h => by have := h.2.2.1; omega)]
      · rw [if_neg h3]
        simp only [assartref05_Right.j0]
        by_cases h4 : kp > (l.length : Int)
        · rw [if_pos (decide_eq_true h4), decide_eq_false (fun h => by have := h.2.2.2.1; omega)]
        · rw [if_neg (by simpa using h4)]
          have := right05_l0 l kp (by omega) l.length k 0 (by omega) (by omega)
          rw [show ((0 : Nat) : Int) = 0 from rfl] at this
          rw [this]
          congr 1
          rw [decide_eq_decide]
          exact ⟨fun h => ⟨by omega, by omega, by omega, by omega, h⟩, fun h => h.2.2.2.2⟩
def smallF (l : List S55) (j : Nat) : Prop := ∀ i, i < l.length → j ≤ i → (It l (i : Nat)).length ≤ 10 ∧ Rf l (i : Nat) ≤ 1000000
instance (l : List S55) (j : Nat) : Decidable (smallF l j) := by unfold smallF; infer_instance
theorem smallF_step {l : List S55} {j : Nat} (h : j < l.length) : smallF l j ↔ ((It l (j : Nat)).length ≤ 10 ∧ Rf l (j : Nat) ≤ 1000000) ∧ smallF l (j + 1) :=
  ⟨fun hh => ⟨hh j h (Nat.le_refl _), fun i h1 h2 => hh i h1 (by omega)⟩, fun ⟨h1, h2⟩ i hi hj => by
    by_cases e : i = j
    · subst e; exact h1
    · exact h2 i hi (by omega)⟩
theorem small_l0 (l : List S55) (kp : Int) (hl : l.length ≤ 2000) : ∀ (d k j : Nat), j + d = l.length → d + 1 ≤ k → assartref05_Small.l0 k (j : Int) l kp = some (decide (smallF l j)) := by
  intro d
  induction d with
  | zero =>
    intro k j hj hk
    obtain ⟨k, rfl⟩ : ∃ m, k = m + 1 := ⟨k - 1, by omega⟩
    simp only [assartref05_Small.l0]
    rw [if_neg (by omega), decide_eq_true (show smallF l j from fun i h1 h2 => by omega)]
  | succ d ih =>
    intro k j hj hk
    obtain ⟨k, rfl⟩ : ∃ m, k = m + 1 := ⟨k - 1, by omega⟩
    simp only [assartref05_Small.l0]
    rw [if_pos (by omega), if_pos (by omega), wsucc j (by omega), ih k (j + 1) (by omega) (by omega)]
    by_cases h1 : ((It l (j : Nat)).length : Int) > 10
    · rw [if_pos h1, decide_eq_false (fun h => by have := (h j (by omega) (Nat.le_refl _)).1; omega)]
    · rw [if_neg h1]
      by_cases h2 : Rf l (j : Nat) > 1000000
      · rw [if_pos h2, decide_eq_false (fun h => by have := (h j (by omega) (Nat.le_refl _)).2; omega)]
      · rw [if_neg h2]
        congr 1
        rw [decide_eq_decide, smallF_step (j := j) (by omega)]
        exact ⟨fun h => ⟨⟨by omega, by omega⟩, h⟩, fun h => h.2⟩
def mayH (l : List S55) (kp : Int) (m : Nat) : Prop := l.length ≤ m ∧ smallF l 0 ∧ heapR l kp
instance (l : List S55) (kp : Int) (m : Nat) : Decidable (mayH l kp m) := by unfold mayH; infer_instance
theorem may05_val (l : List S55) (kp : Int) (m : Nat) (hm : m ≤ 2000) (k : Nat) (hk : 2020 ≤ k) : assartref05_May.f k l kp m = some (decide (mayH l kp m)) := by
  unfold assartref05_May.f assartref05_Small.f
  by_cases h1 : (l.length : Int) > m
  · rw [if_pos h1, Option.bind_some, if_neg (by simp), decide_eq_false (fun h => by have := h.1; omega)]
  · rw [if_neg h1]
    have := small_l0 l kp (by omega) l.length k 0 (by omega) (by omega)
    rw [show ((0 : Nat) : Int) = 0 from rfl] at this
    rw [this, Option.bind_some]
    by_cases h2 : smallF l 0
    · rw [if_pos (decide_eq_true h2), right05_val l kp k (.inl hk), Option.bind_some]
      congr 1
      rw [decide_eq_decide]
      exact ⟨fun h => ⟨by omega, h2, h⟩, fun h => h.2.2⟩
    · rw [if_neg (by simpa using h2), decide_eq_false (fun h => h2 h.2.1)]
end Go.Proofs.Yteiladccdenpbaa.P
end
section
namespace Go.Proofs.Yteiladccdenpbaa.P
open Go.RowKit Go.Proofs.YteiladccdenpbaaW.PrintWords Go.Proofs.YteiladccdenpbaaW.PrintLast Go.Proofs.YteiladccdenpbaaW.PrintMore
set_option linter.unusedVariables false
set_option linter.unusedSimpArgs false
def HR (l : List S55) : Prop := l.length ≤ 2000 ∧ ∀ p : Int, 0 ≤ p → p < (l.length : Int) → cellR l.length (rd_T55 l p)
theorem HR.of {l : List S55} {kp : Int} (h : heapR l kp) : HR l := ⟨h.2.1, fun p h0 h1 => by
  have := h.2.2.2.2 p.toNat (by omega) (Nat.zero_le _)
  rwa [Int.toNat_of_nonneg h0] at this⟩
theorem HR.rn {l : List S55} (H : HR l) {p : Int} (h0 : 0 ≤ p) (h1 : p < (l.length : Int)) (hr : 0 < Rf l p) : RtN (It l p) := by
  rcases H.2 p h0 h1 with h | h
  · have := h.1; simp only [Rf] at hr; omega
  · exact h.2.2.2.1
theorem HR.ch {l : List S55} (H : HR l) {p : Int} (h0 : 0 ≤ p) (h1 : p < (l.length : Int)) (hr : 0 < Rf l p) (hf : Lf l p = false) {i : Nat} (hi : i < (It l p).length) : 0 ≤ vAt (It l p) i ∧ vAt (It l p) i < (l.length : Int) := by
  rcases H.2 p h0 h1 with h | h
  · have := h.1; simp only [Rf] at hr; omega
  · rcases h.2.2.2.2 with hh | hh
    · simp only [Lf] at hf; rw [hf] at hh; cases hh
    · exact hh i hi
theorem HR.rf {l : List S55} (H : HR l) {p : Int} (h0 : 0 ≤ p) (h1 : p < (l.length : Int)) : 0 ≤ Rf l p ∧ Rf l p ≤ 2147483647 := by
  rcases H.2 p h0 h1 with h | h
  · have := h.1; simp only [Rf]; omega
  · have := h.1; have := h.2.1; simp only [Rf]; omega
abbrev lo (l : List S55) (p : Int) : Int := kAt (It l p) 0
def Hi (l : List S55) : Nat → Int → Int
  | 0, _ => 0
  | 1, p => kAt (It l p) ((It l p).length - 1)
  | h + 2, p => Hi l (h + 1) (vAt (It l p) ((It l p).length - 1))
def Tr (l : List S55) : Nat → Int → Prop
  | 0, _ => False
  | 1, p => 0 ≤ p ∧ p < (l.length : Int) ∧ 0 < Rf l p ∧ Lf l p = true
  | h + 2, p => 0 ≤ p ∧ p < (l.length : Int) ∧ 0 < Rf l p ∧ Lf l p = false ∧ ∀ i, i < (It l p).length →
      Tr l (h + 1) (vAt (It l p) i) ∧ lo l (vAt (It l p) i) = kAt (It l p) i ∧ (i + 1 < (It l p).length → Hi l (h + 1) (vAt (It l p) i) < kAt (It l p) (i + 1))
def Ls (l : List S55) : Nat → Int → List S49
  | 0, _ => []
  | 1, p => It l p
  | h + 2, p => (It l p).flatMap fun x => Ls l (h + 1) x.f1
def Ns (l : List S55) : Nat → Int → List Int
  | 0, _ => []
  | 1, p => [p]
  | h + 2, p => p :: (It l p).flatMap fun x => Ns l (h + 1) x.f1
theorem Tr.base {l : List S55} {h : Nat} {p : Int} (t : Tr l h p) : 0 ≤ p ∧ p < (l.length : Int) ∧ 0 < Rf l p := by
  match h, t with
  | 1, t => exact ⟨t.1, t.2.1, t.2.2.1⟩
  | h + 2, t => exact ⟨t.1, t.2.1, t.2.2.1⟩
theorem Tr.pos {l : List S55} {h : Nat} {p : Int} (t : Tr l h p) : 1 ≤ h := by
  match h, t with
  | h + 1, t => omega
theorem Tr.rn {l : List S55} (H : HR l) {h : Nat} {p : Int} (t : Tr l h p) : RtN (It l p) := H.rn t.base.1 t.base.2.1 t.base.2.2
theorem Tr.leaf {l : List S55} {h : Nat} {p : Int} (t : Tr l h p) : Lf l p = decide (h = 1) := by
  match h, t with
  | 1, t => exact t.2.2.2
  | h + 2, t => rw [t.2.2.2.1, decide_eq_false (by omega)]
theorem mem_at {l : List S49} {x : S49} (h : x ∈ l) : ∃ i, i < l.length ∧ x.f0 = kAt l i ∧ x.f1 = vAt l i := by
  obtain ⟨i, hi, rfl⟩ := List.mem_iff_getElem.1 h
  exact ⟨i, hi, by simp only [kAt, rd_eq l i hi], by simp only [vAt, rd_eq l i hi]⟩
theorem rising_all {l : List S49} (h : RtN l) {i j : Nat} (hij : i < j) (hj : j < l.length) : kAt l i < kAt l j := rising_lt (rising_of h) i j hij hj
theorem rising_le {l : List S49} (h : RtN l) {i j : Nat} (hij : i ≤ j) (hj : j < l.length) : kAt l i ≤ kAt l j := by
  by_cases e : i = j
  · subst e; exact Int.le_refl _
  · have := rising_all h (show i < j by omega) hj; omega
theorem key_bd {l : List S49} (h : RtN l) {i : Nat} (hi : i < l.length) : 0 ≤ kAt l i ∧ kAt l i ≤ 2147483647 := ⟨(h.2.2 i hi (by omega)).1, (h.2.2 i hi (by omega)).2.1⟩
theorem tr_uniq0 {l : List S55} (H : HR l) : ∀ (h h' : Nat) (p : Int), Tr l h p → Tr l h' p → h = h' := by
  intro h
  induction h with
  | zero => intro h' p t; exact t.elim
  | succ h ih =>
    intro h' p t t'
    have a := t.leaf
    have b := t'.leaf
    rw [a] at b
    have c : (h + 1 = 1) ↔ (h' = 1) := by rw [← decide_eq_decide]; exact b
    match h, h', t, t', ih with
    | 0, h', t, t', ih => exact (c.1 rfl).symm
    | h + 1, 0, t, t', ih => exact t'.elim
    | h + 1, 1, t, t', ih => exact c.2 rfl
    | h + 1, h' + 2, t, t', ih =>
      have hl := (t.rn H).1
      have := ih (h' + 1) _ (t.2.2.2.2 0 (by omega)).1 (t'.2.2.2.2 0 (by omega)).1
      omega
theorem tr_uniq {l : List S55} (H : HR l) {h h' : Nat} {p : Int} (t : Tr l h p) (t' : Tr l h' p) : h = h' := tr_uniq0 H h h' p t t'
structure Said1 (l : List S55) (h : Nat) (p : Int) : Prop where
  le : lo l p ≤ Hi l h p
  lo0 : 0 ≤ lo l p
  hi1 : Hi l h p ≤ 2147483647
  bd : ∀ x ∈ Ls l h p, lo l p ≤ x.f0 ∧ x.f0 ≤ Hi l h p
  hd : ∃ x xs, Ls l h p = x :: xs ∧ x.f0 = lo l p
  pw : (Ls l h p).Pairwise fun a b => a.f0 < b.f0
theorem gap {l : List S55} (H : HR l) {h : Nat} {p : Int} (t : Tr l (h + 2) p) {i j : Nat} (hij : i < j) (hj : j < (It l p).length) : Hi l (h + 1) (vAt (It l p) i) < kAt (It l p) j := by
  have := (t.2.2.2.2 i (by omega)).2.2 (by omega)
  have := rising_le (t.rn H) (show i + 1 ≤ j by omega) hj
  omega
theorem getE {l : List S49} {i : Nat} (hi : i < l.length) : (l[i]).f0 = kAt l i ∧ (l[i]).f1 = vAt l i := by simp only [kAt, vAt, rd_eq l i hi, and_self]
theorem said1 {l : List S55} (H : HR l) : ∀ (h : Nat) (p : Int), Tr l h p → Said1 l h p := by
  intro h
  induction h with
  | zero => intro p t; exact t.elim
  | succ h ih =>
    intro p t
    have hn := t.rn H
    have hl := hn.1
    match h, t, ih with
    | 0, t, ih =>
      refine ⟨rising_le hn (Nat.zero_le _) (by omega), (key_bd hn (by omega)).1, (key_bd hn (show (It l p).length - 1 < _ by omega)).2, ?_, ?_, ?_⟩
      · intro x hx
        have hx : x ∈ It l p := hx
        obtain ⟨i, hi, hk, _⟩ := mem_at hx
        rw [hk]
        exact ⟨rising_le hn (Nat.zero_le _) hi, rising_le hn (by omega) (by omega)⟩
      · cases hc : It l p with
        | nil => rw [hc] at hl; simp at hl
        | cons x xs => exact ⟨x, xs, hc, by simp only [lo, hc, kAt, rd_T49]; rfl⟩
      · show (It l p).Pairwise _
        rw [List.pairwise_iff_getElem]
        intro i j hi hj hij
        rw [(getE hi).1, (getE hj).1]
        exact rising_all hn hij hj
    | h + 1, t, ih =>
      have tc := t.2.2.2.2
      have hlast := tc ((It l p).length - 1) (by omega)
      have s1 := ih _ hlast.1
      refine ⟨?_, (key_bd hn (by omega)).1, s1.hi1, ?_, ?_, ?_⟩
      · show lo l p ≤ Hi l (h + 1) (vAt (It l p) ((It l p).length - 1))
        have := s1.le
        rw [hlast.2.1] at this
        have := rising_le hn (Nat.zero_le ((It l p).length - 1)) (by omega)
        simp only [lo]; omega
      · intro x hx
        obtain ⟨y, hy, hx⟩ := List.mem_flatMap.1 hx
        obtain ⟨i, hi, hk, hv⟩ := mem_at hy
        rw [hv] at hx
        have si := ih _ (tc i hi).1
        have := si.bd x hx
        rw [(tc i hi).2.1] at this
        have h0 := rising_le hn (Nat.zero_le i) hi
        refine ⟨by simp only [lo]; omega, ?_⟩
        show _ ≤ Hi l (h + 1) (vAt (It l p) ((It l p).length - 1))
        by_cases e : i = (It l p).length - 1
        · subst e; exact this.2
        · have g := gap H t (show i < (It l p).length - 1 by omega) (by omega)
          have := s1.le
          rw [hlast.2.1] at this
          omega
      · cases hc : It l p with
        | nil => rw [hc] at hl; simp at hl
        | cons x xs =>
          have t0 := tc 0 (by omega)
          obtain ⟨y, ys, hy, hk⟩ := (ih _ t0.1).hd
          refine ⟨y, ys ++ xs.flatMap fun x => Ls l (h + 1) x.f1, ?_, ?_⟩
          · show (It l p).flatMap _ = _
            have e : x.f1 = vAt (It l p) 0 := by rw [hc]; simp only [vAt, rd_T49]; rfl
            rw [hc, List.flatMap_cons, e, hy]
            rfl
          · rw [hk]; exact t0.2.1
      · show ((It l p).flatMap _).Pairwise _
        rw [List.pairwise_flatMap]
        refine ⟨fun x hx => ?_, ?_⟩
        · obtain ⟨i, hi, hk, hv⟩ := mem_at hx
          rw [hv]
          exact (ih _ (tc i hi).1).pw
        · rw [List.pairwise_iff_getElem]
          intro i j hi hj hij x hx y hy
          rw [(getE hi).2] at hx
          rw [(getE hj).2] at hy
          have a := ((ih _ (tc i hi).1).bd x hx).2
          have b := ((ih _ (tc j hj).1).bd y hy).1
          rw [(tc j hj).2.1] at b
          have := gap H t hij hj
          omega
theorem ns_mem {l : List S55} (H : HR l) : ∀ (h : Nat) (p : Int), Tr l h p → ∀ q ∈ Ns l h p, ∃ h', h' ≤ h ∧ Tr l h' q ∧ lo l p ≤ lo l q ∧ lo l q ≤ Hi l h p := by
  intro h
  induction h with
  | zero => intro p t; exact t.elim
  | succ h ih =>
    intro p t q hq
    have hn := t.rn H
    have hl := hn.1
    match h, t, ih, hq with
    | 0, t, ih, hq =>
      obtain rfl : q = p := by simpa [Ns] using hq
      exact ⟨1, Nat.le_refl _, t, Int.le_refl _, (said1 H _ _ t).le⟩
    | h + 1, t, ih, hq =>
      rcases List.mem_cons.1 hq with rfl | hq
      · exact ⟨_, Nat.le_refl _, t, Int.le_refl _, (said1 H _ _ t).le⟩
      · obtain ⟨y, hy, hq⟩ := List.mem_flatMap.1 hq
        obtain ⟨i, hi, hk, hv⟩ := mem_at hy
        rw [hv] at hq
        have tc := t.2.2.2.2
        obtain ⟨h', hh, t', a, b⟩ := ih _ (tc i hi).1 q hq
        rw [(tc i hi).2.1] at a
        have h0 := rising_le hn (Nat.zero_le i) hi
        refine ⟨h', by omega, t', by simp only [lo] at a ⊢; omega, ?_⟩
        show _ ≤ Hi l (h + 1) (vAt (It l p) ((It l p).length - 1))
        by_cases e : i = (It l p).length - 1
        · subst e; exact b
        · have g := gap H t (show i < (It l p).length - 1 by omega) (by omega)
          have hlast := tc ((It l p).length - 1) (by omega)
          have := (said1 H _ _ hlast.1).le
          rw [hlast.2.1] at this
          omega
theorem ns_nodup {l : List S55} (H : HR l) : ∀ (h : Nat) (p : Int), Tr l h p → (Ns l h p).Nodup := by
  intro h
  induction h with
  | zero => intro p t; exact t.elim
  | succ h ih =>
    intro p t
    match h, t, ih with
    | 0, t, ih => simp [Ns]
    | h + 1, t, ih =>
      have tc := t.2.2.2.2
      show (p :: _).Nodup
      rw [List.nodup_cons]
      refine ⟨fun hq => ?_, ?_⟩
      · obtain ⟨y, hy, hq⟩ := List.mem_flatMap.1 hq
        obtain ⟨i, hi, hk, hv⟩ := mem_at hy
        rw [hv] at hq
        obtain ⟨h', hh, t', _⟩ := ns_mem H _ _ (tc i hi).1 p hq
        have := tr_uniq H t t'
        omega
      · show List.Pairwise _ _
        rw [List.pairwise_flatMap]
        refine ⟨fun x hx => ?_, ?_⟩
        · obtain ⟨i, hi, hk, hv⟩ := mem_at hx
          rw [hv]
          exact ih _ (tc i hi).1
        · rw [List.pairwise_iff_getElem]
          intro i j hi hj hij x hx y hy e
          subst e
          rw [(getE hi).2] at hx
          rw [(getE hj).2] at hy
          obtain ⟨_, _, _, _, a⟩ := ns_mem H _ _ (tc i hi).1 x hx
          obtain ⟨_, _, _, b, _⟩ := ns_mem H _ _ (tc j hj).1 x hy
          rw [(tc j hj).2.1] at b
          have := gap H t hij hj
          omega
theorem pigeon : ∀ (n : Nat) (L : List Int), L.Nodup → (∀ x ∈ L, 0 ≤ x ∧ x < (n : Int)) → L.length ≤ n := by
  intro n
  induction n with
  | zero =>
    intro L _ h
    cases L with
    | nil => exact Nat.le_refl _
    | cons x xs => have := h x (List.mem_cons_self ..); omega
  | succ n ih =>
    intro L hn h
    by_cases hm : (n : Int) ∈ L
    · have := ih (L.erase (n : Int)) (hn.erase _) (fun x hx => by
        have := (hn.mem_erase_iff).1 hx
        have := h x this.2
        omega)
      rw [List.length_erase_of_mem hm] at this
      omega
    · have := ih L hn (fun x hx => by
        have a := h x hx
        have : x ≠ (n : Int) := fun e => hm (e ▸ hx)
        omega)
      omega
theorem ns_len {l : List S55} (H : HR l) {h : Nat} {p : Int} (t : Tr l h p) : (Ns l h p).length ≤ l.length :=
  pigeon _ _ (ns_nodup H h p t) fun x hx => by
    obtain ⟨_, _, t', _⟩ := ns_mem H _ _ t x hx
    exact ⟨t'.base.1, t'.base.2.1⟩
theorem flat_le {α β γ : Type} (xs : List α) (f : α → List β) (g : α → List γ) (h : ∀ x ∈ xs, (f x).length ≤ 4 * (g x).length) : (xs.flatMap f).length ≤ 4 * (xs.flatMap g).length := by
  induction xs with
  | nil => simp
  | cons x xs ih =>
    simp only [List.flatMap_cons, List.length_append]
    have := h x (List.mem_cons_self ..)
    have := ih fun y hy => h y (List.mem_cons_of_mem _ hy)
    omega
theorem ls_le {l : List S55} (H : HR l) : ∀ (h : Nat) (p : Int), Tr l h p → (Ls l h p).length ≤ 4 * (Ns l h p).length := by
  intro h
  induction h with
  | zero => intro p t; exact t.elim
  | succ h ih =>
    intro p t
    have hn := t.rn H
    match h, t, ih with
    | 0, t, ih => have := hn.2.1; simp [Ls, Ns]; omega
    | h + 1, t, ih =>
      have := flat_le (It l p) (fun x => Ls l (h + 1) x.f1) (fun x => Ns l (h + 1) x.f1) (fun x hx => by
        obtain ⟨i, hi, hk, hv⟩ := mem_at hx
        rw [hv]
        exact ih _ (t.2.2.2.2 i hi).1)
      simp only [Ls, Ns, List.length_cons]
      omega
theorem ls_len {l : List S55} (H : HR l) {h : Nat} {p : Int} (t : Tr l h p) : (Ls l h p).length ≤ 8000 := by
  have := ls_le H h p t
  have := ns_len H t
  have := H.1
  omega
end Go.Proofs.Yteiladccdenpbaa.P
end
section
namespace Go.Proofs.Yteiladccdenpbaa.P
open Go.RowKit Go.Proofs.YteiladccdenpbaaW.PrintWords Go.Proofs.YteiladccdenpbaaW.PrintLast Go.Proofs.YteiladccdenpbaaW.PrintMore
attribute [local go_sem] max2_int min2_int max_two min_two max_three min_three max_four min_four
set_option linter.unusedVariables false
set_option linter.unusedSimpArgs false
def tree_High.l0 : Nat → Int → Int → List (S55) → Int → Option (Int)
 | 0, _, _, _, _ => none
 | k + 1, x5, x6, x127000, x127001 => if x6 ≥ 0 then (if 0 ≤ x6 then (if x6 < (x127000.length : Int) then (if (rd_T55 x127000 x6).f2.f0 = true then (some (wrap64 (x5 + 1))) else (if 0 < (((rd_T55 x127000 x6).f2.f1).length : Int) then (tree_High.l0 k (wrap64 (x5 + 1)) ((rd_T49 ((rd_T55 x127000 x6).f2.f1) 0).f1) x127000 x127001) else (none))) else (none)) else (none)) else (some x5)
def tree_High.f (k : Nat) (l0_0 : List (S55)) (a0_1 : Int) (a1 : Int) : Option (Int) := tree_High.l0 k 0 a1 l0_0 a0_1
set_option maxHeartbeats 8000000 in
set_option maxRecDepth 100000 in
theorem tree_High.calls (k : Nat) (A0_0 : Option Addr) (c0_0 : Nat) (l0_0 : List (S55)) (a0_1 : Int) (a1 : Int) (r : Int) (w : World) (hr0_0 : Kd.C k55 w A0_0 l0_0.length l0_0) (hc0_0 : l0_0.length ≤ c0_0) (h : tree_High.f k l0_0 a0_1 a1 = some r) :
  Calls Try.prog 21 #[.agg #[.slice A0_0 l0_0.length c0_0, .int .i64 a0_1], .int .i64 a1] w fun e w' => e = .returned (.int .i64 r) ∧ Below w.heap.size w w' := by
 have hu24 := Try.underlying24
 have hu53 := Try.underlying53
 have HR0_0 := Aside0.mk hr0_0
 have HC0_0 := Aside0.mk hc0_0
 clear hr0_0 hc0_0
 have HB := Aside0.mk (Below.refl w.heap.size w)
 have H : (tree_High.l0 k 0 a1 l0_0 a0_1) = some r := h
 clear h
 have H' := Aside0.mk H
 clear H
 go_enter Try.func21, Try.ntmps21
 go_wp2_with (first | ((with_reducible refine gate_dst (N := 2) rfl ?_); refine box_event ?hg (N := 2) ?hd (cs := #[.slice A0_0 l0_0.length c0_0, .int .i64 a0_1]) (t := 24) ?hr ?_; (case hd => rfl); (case hg => rfl); (case hr => first | (go_simp; done) | (go_simp; rfl)); intro gb126 hg w3 hbox hb; have n0_ := Aside0.mk (below_step (by repeat (first | (with_reducible first | exact HB.out | apply below_alloc | apply pw_below_drewN | apply below_drew1) | exact HB.out)) hb); have n1_ := Aside0.mk (hbox); have n2_ := Aside0.mk ((by rw [hg]; exact (below_size (by repeat (first | (with_reducible first | exact HB.out | apply below_alloc | apply pw_below_drewN | apply below_drew1) | exact HB.out))) : w.heap.size ≤ gb126)); have n3_ := Aside0.mk ((by rw [hg]; exact (below_size (by repeat (first | (with_reducible first | exact HB.out | apply below_alloc | apply pw_below_drewN | apply below_drew1) | exact HB.out))) : w.heap.size ≤ gb126)); clear HB; have HB := n0_; have BK126 := n1_; have GW126 := n2_; have GE126 := n3_; clear n0_ n1_ n2_ n3_; clear hb hbox hg))
 go_loopg [5, 6] k (fun kq v5 v6 w' => ∃ (x5_1 : Int) (x6_1 : Int), v5 = .int .i64 x5_1 ∧ v6 = .int .i64 x6_1 ∧ Aside0 (tree_High.l0 kq x5_1 x6_1 l0_0 a0_1 = some r) ∧ Aside0 (kq ≤ k) ∧ Aside0 (w'.heap[gb126]? = some (.cells #[(.slice A0_0 l0_0.length c0_0), .int .i64 a0_1] 24 (0, 0))) ∧ Aside0 (Below w.heap.size w w'))
 case atStart => exact ⟨(0), (a1), (by first | rfl | (simp; done) | (simp [*]; done)), (by first | rfl | (simp; done) | (simp [*]; done)), H', ⟨Nat.le_refl _⟩, ⟨by (with_reducible repeat (first | refine blk_drewN ?_ _ | refine blk_drew ?_ | refine blk_alloc ?_ _)); exact BK126.out⟩, ⟨by repeat (first | (with_reducible first | exact HB.out | apply below_alloc | apply pw_below_drewN | apply below_drew1 | refine below_set ?_ GE126.out) | exact HB.out)⟩⟩
 case round =>
  clear H'
  try clear c2
  try clear p2
  obtain ⟨x5_1, x6_1, rfl, rfl, HA, HK1, BK126, HB⟩ := hrel
  cases gk with
  | zero => exact absurd HA.out (by simp [tree_High.l0])
  | succ k1 =>
   have H := HA.out
   clear HA
   simp only [tree_High.l0] at H
   by_cases c4 : x6_1 ≥ 0
   ·rw [if_pos c4] at H
    have c4b0 : decide (0 ≤ x6_1) = true := decide_eq_true c4
    clear c4
    by_cases c5 : 0 ≤ x6_1
    ·rw [if_pos c5] at H
     have c5b0 : decide (0 ≤ x6_1) = true := decide_eq_true c5
     clear c5
     by_cases c6 : x6_1 < (l0_0.length : Int)
     ·rw [if_pos c6] at H
      have c6b0 : decide (x6_1 < (l0_0.length : Int)) = true := decide_eq_true c6
      clear c6
      obtain ⟨bq7, hbq7⟩ : ∃ b_ : Bool, b_ = ((rd_T55 l0_0 x6_1).f2.f0) := ⟨_, rfl⟩
      replace H : (if bq7 = true then (some (wrap64 (x5_1 + 1))) else (if 0 < (((rd_T55 l0_0 x6_1).f2.f1).length : Int) then (tree_High.l0 k1 (wrap64 (x5_1 + 1)) ((rd_T49 ((rd_T55 l0_0 x6_1).f2.f1) 0).f1) l0_0 a0_1) else (none))) = some r := by rw [← hbq7] at H; exact H
      have Nbq7 := Aside0.mk hbq7
      clear hbq7
      by_cases c8 : bq7 = true
      ·subst c8
       have H1 : (some (wrap64 (x5_1 + 1))) = some r := by rw [if_pos rfl] at H; exact H
       clear H
       have H := H1
       clear H1
       obtain rfl := Option.some.inj H
       have hcz9_0 : wr.cell? ⟨gb126, 0, none⟩ = some (.slice A0_0 l0_0.length c0_0) := (blk_cell BK126.out 0).trans rfl
       have hcz9_1 : wr.cell? ⟨gb126, 1, none⟩ = some (.int .i64 a0_1) := (blk_cell BK126.out 1).trans rfl
       have hfz9_0 := blk_frozen BK126.out 0
       have hfz9_1 := blk_frozen BK126.out 1
       have p127 : 0 ≤ (x6_1 : Int) := of_decide_eq_true (by first | (with_reducible assumption) | assumption)
       have q127 : x6_1 < (l0_0.length : Int) := of_decide_eq_true (by first | (with_reducible assumption) | assumption)
       obtain ⟨ad127, A127_3, c127_3, e127, hx127_0, hx127_1, hx127_2, hx127_3, hl127_3, hi127_3⟩ := at_T55 HR0_0.out x6_1 p127 q127
       (try rw [← Nbq7.out] at hx127_1)
       (try rw [← Nbq7.out] at hx127_2)
       cases e127
       replace hx127_0 := (HB.out.cell (World.block_lt_of_cell? w _ hx127_0)).trans hx127_0
       replace hx127_1 := (HB.out.cell (World.block_lt_of_cell? w _ hx127_1)).trans hx127_1
       replace hx127_2 := (HB.out.cell (World.block_lt_of_cell? w _ hx127_2)).trans hx127_2
       replace hx127_3 := (HB.out.cell (World.block_lt_of_cell? w _ hx127_3)).trans hx127_3
       have HR127_3 := Aside0.mk hi127_3
       have HC127_3 := Aside0.mk hl127_3
       clear hi127_3 hl127_3
       replace p127 := eq_true p127
       replace q127 := eq_true q127
       go_wp2_with (first | ((with_reducible refine gate_dst (N := 7) rfl ?_); refine box_event ?hg (N := 7) ?hd (cs := #[.bool false, .slice none 0 0]) (t := 53) ?hr ?_; (case hd => rfl); (case hg => rfl); (case hr => first | (go_simp; done) | (go_simp; rfl)); intro gb128 hg w10 hbox hb; have n0_ := Aside0.mk (blk_below (g := gb126) (o := .cells #[.slice (some ad127) l0_0.length c0_0, .int .i64 a0_1] 24 (0, 0)) (by (with_reducible repeat (first | refine blk_drewN ?_ _ | refine blk_drew ?_ | refine blk_alloc ?_ _)); exact BK126.out) hb); have n1_ := Aside0.mk (below_step (by repeat (first | (with_reducible first | exact HB.out | apply below_alloc | apply pw_below_drewN | apply below_drew1 | refine below_set ?_ GE126.out) | exact HB.out)) hb); have n2_ := Aside0.mk (hbox); have n3_ := Aside0.mk ((by rw [hg]; exact (below_size (by repeat (first | (with_reducible first | exact HB.out | apply below_alloc | apply pw_below_drewN | apply below_drew1 | refine below_set ?_ GE126.out) | exact HB.out))) : w.heap.size ≤ gb128)); have n4_ := Aside0.mk ((by rw [hg]; exact (below_size (by repeat (first | (with_reducible first | exact HB.out | apply below_alloc | apply pw_below_drewN | apply below_drew1 | refine below_set ?_ GE126.out) | exact HB.out))) : w.heap.size ≤ gb128)); have n5_ := Aside0.mk ((by rw [hg]; exact Nat.ne_of_lt (blk_lt (g := gb126) (o := .cells #[.slice (some ad127) l0_0.length c0_0, .int .i64 a0_1] 24 (0, 0)) (by (with_reducible repeat (first | refine blk_drewN ?_ _ | refine blk_drew ?_ | refine blk_alloc ?_ _)); exact BK126.out)) : gb126 ≠ gb128)); have n6_ := Aside0.mk ((by rw [hg]; exact Nat.ne_of_gt (blk_lt (g := gb126) (o := .cells #[.slice (some ad127) l0_0.length c0_0, .int .i64 a0_1] 24 (0, 0)) (by (with_reducible repeat (first | refine blk_drewN ?_ _ | refine blk_drew ?_ | refine blk_alloc ?_ _)); exact BK126.out)) : gb128 ≠ gb126)); clear BK126; clear HB; have BK126 := n0_; have HB := n1_; have BK128 := n2_; have GW128 := n3_; have GE128 := n4_; have NB126_128 := n5_; have NB128_126 := n6_; clear n0_ n1_ n2_ n3_ n4_ n5_ n6_; clear hb hbox hg; have hnb11 := NB128_126.out; have hnc11 := NB126_128.out; have hcz12_0 : w10.cell? ⟨gb128, 0, none⟩ = some (.bool false) := (blk_cell BK128.out 0).trans rfl; have hcz12_1 : w10.cell? ⟨gb128, 1, none⟩ = some (.slice none 0 0) := (blk_cell BK128.out 1).trans rfl; have hfz12_0 := blk_frozen BK128.out 0; have hfz12_1 := blk_frozen BK128.out 1))
       go_ret
       exact ⟨by first | rfl | (simp [errW_none, errW_some] <;> rfl) | (simp [*, errW_none, errW_some] <;> rfl), by repeat (first | (with_reducible first | exact HB.out | apply below_alloc | apply pw_below_drewN | apply below_drew1 | refine below_set ?_ GE126.out | refine below_set ?_ GE128.out) | exact HB.out)⟩
      ·replace c8 := Bool.eq_false_iff.mpr c8
       subst c8
       have H1 : (if 0 < (((rd_T55 l0_0 x6_1).f2.f1).length : Int) then (tree_High.l0 k1 (wrap64 (x5_1 + 1)) ((rd_T49 ((rd_T55 l0_0 x6_1).f2.f1) 0).f1) l0_0 a0_1) else (none)) = some r := by rw [if_neg (show ¬ (false = true) by decide)] at H; exact H
       clear H
       have H := H1
       clear H1
       by_cases c13 : 0 < (((rd_T55 l0_0 x6_1).f2.f1).length : Int)
       ·rw [if_pos c13] at H
        have c13b0 : decide (0 < (((rd_T55 l0_0 x6_1).f2.f1).length : Int)) = true := decide_eq_true c13
        have c13b1 : decide (0 < ((rd_T55 l0_0 x6_1).f2.f1).length) = true := decide_eq_true (by omega)
        clear c13
        have H' := Aside0.mk H
        clear H
        have hcz14_0 : wr.cell? ⟨gb126, 0, none⟩ = some (.slice A0_0 l0_0.length c0_0) := (blk_cell BK126.out 0).trans rfl
        have hcz14_1 : wr.cell? ⟨gb126, 1, none⟩ = some (.int .i64 a0_1) := (blk_cell BK126.out 1).trans rfl
        have hfz14_0 := blk_frozen BK126.out 0
        have hfz14_1 := blk_frozen BK126.out 1
        have p127 : 0 ≤ (x6_1 : Int) := of_decide_eq_true (by first | (with_reducible assumption) | assumption)
        have q127 : x6_1 < (l0_0.length : Int) := of_decide_eq_true (by first | (with_reducible assumption) | assumption)
        obtain ⟨ad127, A127_3, c127_3, e127, hx127_0, hx127_1, hx127_2, hx127_3, hl127_3, hi127_3⟩ := at_T55 HR0_0.out x6_1 p127 q127
        (try rw [← Nbq7.out] at hx127_1)
        (try rw [← Nbq7.out] at hx127_2)
        cases e127
        replace hx127_0 := (HB.out.cell (World.block_lt_of_cell? w _ hx127_0)).trans hx127_0
        replace hx127_1 := (HB.out.cell (World.block_lt_of_cell? w _ hx127_1)).trans hx127_1
        replace hx127_2 := (HB.out.cell (World.block_lt_of_cell? w _ hx127_2)).trans hx127_2
        replace hx127_3 := (HB.out.cell (World.block_lt_of_cell? w _ hx127_3)).trans hx127_3
        have HR127_3 := Aside0.mk hi127_3
        have HC127_3 := Aside0.mk hl127_3
        clear hi127_3 hl127_3
        replace p127 := eq_true p127
        replace q127 := eq_true q127
        go_wp2_with (first | ((with_reducible refine gate_dst (N := 7) rfl ?_); refine box_event ?hg (N := 7) ?hd (cs := #[.bool false, .slice none 0 0]) (t := 53) ?hr ?_; (case hd => rfl); (case hg => rfl); (case hr => first | (go_simp; done) | (go_simp; rfl)); intro gb128 hg w15 hbox hb; have n0_ := Aside0.mk (blk_below (g := gb126) (o := .cells #[.slice (some ad127) l0_0.length c0_0, .int .i64 a0_1] 24 (0, 0)) (by (with_reducible repeat (first | refine blk_drewN ?_ _ | refine blk_drew ?_ | refine blk_alloc ?_ _)); exact BK126.out) hb); have n1_ := Aside0.mk (below_step (by repeat (first | (with_reducible first | exact HB.out | apply below_alloc | apply pw_below_drewN | apply below_drew1 | refine below_set ?_ GE126.out) | exact HB.out)) hb); have n2_ := Aside0.mk (hbox); have n3_ := Aside0.mk ((by rw [hg]; exact (below_size (by repeat (first | (with_reducible first | exact HB.out | apply below_alloc | apply pw_below_drewN | apply below_drew1 | refine below_set ?_ GE126.out) | exact HB.out))) : w.heap.size ≤ gb128)); have n4_ := Aside0.mk ((by rw [hg]; exact (below_size (by repeat (first | (with_reducible first | exact HB.out | apply below_alloc | apply pw_below_drewN | apply below_drew1 | refine below_set ?_ GE126.out) | exact HB.out))) : w.heap.size ≤ gb128)); have n5_ := Aside0.mk ((by rw [hg]; exact Nat.ne_of_lt (blk_lt (g := gb126) (o := .cells #[.slice (some ad127) l0_0.length c0_0, .int .i64 a0_1] 24 (0, 0)) (by (with_reducible repeat (first | refine blk_drewN ?_ _ | refine blk_drew ?_ | refine blk_alloc ?_ _)); exact BK126.out)) : gb126 ≠ gb128)); have n6_ := Aside0.mk ((by rw [hg]; exact Nat.ne_of_gt (blk_lt (g := gb126) (o := .cells #[.slice (some ad127) l0_0.length c0_0, .int .i64 a0_1] 24 (0, 0)) (by (with_reducible repeat (first | refine blk_drewN ?_ _ | refine blk_drew ?_ | refine blk_alloc ?_ _)); exact BK126.out)) : gb128 ≠ gb126)); clear BK126; clear HB; have BK126 := n0_; have HB := n1_; have BK128 := n2_; have GW128 := n3_; have GE128 := n4_; have NB126_128 := n5_; have NB128_126 := n6_; clear n0_ n1_ n2_ n3_ n4_ n5_ n6_; clear hb hbox hg; have hnb16 := NB128_126.out; have hnc16 := NB126_128.out; have hcz17_0 : w15.cell? ⟨gb128, 0, none⟩ = some (.bool false) := (blk_cell BK128.out 0).trans rfl; have hcz17_1 : w15.cell? ⟨gb128, 1, none⟩ = some (.slice none 0 0) := (blk_cell BK128.out 1).trans rfl; have hfz17_0 := blk_frozen BK128.out 0; have hfz17_1 := blk_frozen BK128.out 1; have p129 : 0 ≤ (0 : Int) := (by omega); have q129 : 0 < (((rd_T55 l0_0 x6_1).f2.f1).length : Int) := of_decide_eq_true (by first | (with_reducible assumption) | assumption); obtain ⟨ad129, e129, hx129_0, hx129_1⟩ := at_T49 HR127_3.out 0 p129 q129; cases e129; have qi129 : (0 < ((rd_T55 l0_0 x6_1).f2.f1).length) = True := eq_true (by omega); (try rw [show ((0 : Int)).toNat = 0 from rfl] at hx129_0); (try rw [show 0 * 2 = 0 from rfl] at hx129_0); (try rw [Addr.add_zero'] at hx129_0); (try rw [show ((0 : Int)).toNat = 0 from rfl] at hx129_1); (try rw [show 0 * 2 = 0 from rfl] at hx129_1); (try rw [Addr.add_zero'] at hx129_1); have hn129_0 : ad129.block ≠ gb128 := Nat.ne_of_lt (Nat.lt_of_lt_of_le (by have := World.block_lt_of_cell? _ _ hx129_0; first | rwa [add_block] at this | exact this) GW128.out); have hn129_1 : ad129.block ≠ gb128 := Nat.ne_of_lt (Nat.lt_of_lt_of_le (by have := World.block_lt_of_cell? _ _ hx129_0; first | rwa [add_block] at this | exact this) GW128.out); replace hx129_0 := (HB.out.cell (World.block_lt_of_cell? w _ hx129_0)).trans hx129_0; replace hx129_1 := (HB.out.cell (World.block_lt_of_cell? w _ hx129_1)).trans hx129_1; replace hx129_0 := (cell_far (p := ⟨gb128, 0, none⟩) (by first | (rw [add_block]; exact hn129_0) | (show (Addr.add _ _).block ≠ _; rw [add_block]; exact hn129_0) | exact hn129_0) (.bool false)).trans hx129_0; replace hx129_1 := (cell_far (p := ⟨gb128, 0, none⟩) (by first | (rw [add_block]; exact hn129_0) | (show (Addr.add _ _).block ≠ _; rw [add_block]; exact hn129_0) | exact hn129_0) (.bool false)).trans hx129_1; replace hx129_0 := (cell_far (p := ⟨gb128, 1, none⟩) (by first | (rw [add_block]; exact hn129_1) | (show (Addr.add _ _).block ≠ _; rw [add_block]; exact hn129_1) | exact hn129_1) (.slice (some ad129) ((rd_T55 l0_0 x6_1).f2.f1).length c127_3)).trans hx129_0; replace hx129_1 := (cell_far (p := ⟨gb128, 1, none⟩) (by first | (rw [add_block]; exact hn129_1) | (show (Addr.add _ _).block ≠ _; rw [add_block]; exact hn129_1) | exact hn129_1) (.slice (some ad129) ((rd_T55 l0_0 x6_1).f2.f1).length c127_3)).trans hx129_1; clear hn129_0; clear hn129_1; replace p129 := eq_true p129; replace q129 := eq_true q129))
        go_roundg k1
        case measure => have := HK1.out; omega
        case rel => exact ⟨(wrap64 (x5_1 + 1)), ((rd_T49 ((rd_T55 l0_0 x6_1).f2.f1) 0).f1), (by first | rfl | (simp; done) | (simp [*]; done)), (by first | rfl | (simp; done) | (simp [*]; done)), H', ⟨by have := HK1.out; omega⟩, ⟨by (with_reducible repeat (first | refine blk_drewN ?_ _ | refine blk_drew ?_ | refine blk_alloc ?_ _)); refine blk_far ?_ NB126_128.out _; (with_reducible repeat (first | refine blk_drewN ?_ _ | refine blk_drew ?_ | refine blk_alloc ?_ _)); refine blk_far ?_ NB126_128.out _; (with_reducible repeat (first | refine blk_drewN ?_ _ | refine blk_drew ?_ | refine blk_alloc ?_ _)); exact BK126.out⟩, ⟨by repeat (first | (with_reducible first | exact HB.out | apply below_alloc | apply pw_below_drewN | apply below_drew1 | refine below_set ?_ GE126.out | refine below_set ?_ GE128.out) | exact HB.out)⟩⟩
       ·rw [if_neg c13] at H
        exact absurd H (by simp)
     ·rw [if_neg c6] at H
      exact absurd H (by simp)
    ·rw [if_neg c5] at H
     exact absurd H (by simp)
   ·rw [if_neg c4] at H
    have c4b0 : decide (0 ≤ x6_1) = false := decide_eq_false c4
    clear c4
    obtain rfl := Option.some.inj H
    go_wp2
    go_ret
    exact ⟨by first | rfl | (simp [errW_none, errW_some] <;> rfl) | (simp [*, errW_none, errW_some] <;> rfl), by repeat (first | (with_reducible first | exact HB.out | apply below_alloc | apply pw_below_drewN | apply below_drew1 | refine below_set ?_ GE126.out) | exact HB.out)⟩
end Go.Proofs.Yteiladccdenpbaa.P
end
section
namespace Go.Proofs.Yteiladccdenpbaa.P
open Go.RowKit Go.Proofs.YteiladccdenpbaaW.PrintWords Go.Proofs.YteiladccdenpbaaW.PrintLast Go.Proofs.YteiladccdenpbaaW.PrintMore
attribute [local go_sem] max2_int min2_int max_two min_two max_three min_three max_four min_four
set_option linter.unusedVariables false
set_option linter.unusedSimpArgs false
def assartref07_Ints.l0 : Nat → List Int → List Int → Int → Option (Bool)
 | 0, _, _, _ => none
 | k + 1, x0, x1, x5 => if x5 < (x0.length : Int) then (if 0 ≤ x5 then (if x5 < (x1.length : Int) then (if (rd x0 x5) = (rd x1 x5) then (assartref07_Ints.l0 k x0 x1 (wrap64 (x5 + 1))) else (some false)) else (none)) else (none)) else (some true)
def assartref07_Ints.f (k : Nat) (l0 : List Int) (l1 : List Int) : Option (Bool) := if (l0.length : Int) = (l1.length : Int) then (assartref07_Ints.l0 k l0 l1 0) else (some false)
set_option maxHeartbeats 8000000 in
set_option maxRecDepth 100000 in
theorem assartref07_Ints.calls (k : Nat) (A0 : Option Addr) (c0 : Nat) (l0 : List Int) (A1 : Option Addr) (c1 : Nat) (l1 : List Int) (r : Bool) (w : World) (hr0 : Kd.C (Kd.int .i64) w A0 l0.length l0) (hc0 : l0.length ≤ c0) (hr1 : Kd.C (Kd.int .i64) w A1 l1.length l1) (hc1 : l1.length ≤ c1) (h : assartref07_Ints.f k l0 l1 = some r) :
  Calls Try.prog 23 #[.slice A0 l0.length c0, .slice A1 l1.length c1] w fun e w' => e = .returned (.bool r) ∧ Drawn0 w w' := by
 have HR0 := Aside0.mk hr0
 have HC0 := Aside0.mk hc0
 clear hr0 hc0
 have HR1 := Aside0.mk hr1
 have HC1 := Aside0.mk hc1
 clear hr1 hc1
 have H : (if (l0.length : Int) = (l1.length : Int) then (assartref07_Ints.l0 k l0 l1 0) else (some false)) = some r := h
 clear h
 by_cases c3 : (l0.length : Int) = (l1.length : Int)
 ·rw [if_pos c3] at H
  have c3b0 : ((l0.length : Int) == (l1.length : Int)) = true := beq_iff_eq.mpr c3
  have c3b1 : ((l0.length : Int) != (l1.length : Int)) = false := bne_eq_false_iff_eq.mpr c3
  have c3b2 : (l0.length == l1.length) = true := by first | simpa using c3 | (simp at c3 ⊢; omega)
  clear c3
  have H' := Aside0.mk H
  clear H
  go_enter Try.func23, Try.ntmps23
  go_wp2
  repeat (go_quiet (fail); try go_wp2)
  go_loopg [5] k (fun kq v5 w' => ∃ (x5_1 : Int), v5 = .int .i64 x5_1 ∧ Aside0 (assartref07_Ints.l0 kq l0 l1 x5_1 = some r) ∧ Aside0 (kq ≤ k) ∧ Drawn0 w w')
  case atStart => exact ⟨(0), (by first | rfl | (simp; done) | (simp [*]; done)), H', ⟨Nat.le_refl _⟩, by repeat (first | exact Drawn0.refl _ | apply Drawn0.step)⟩
  case round =>
   clear H'
   try clear c1
   try clear c2
   try clear p2
   try clear c3
   try clear c3b0
   try clear c3b1
   try clear c3b2
   obtain ⟨x5_1, rfl, HA, HK1, ⟨m1, rfl⟩⟩ := hrel
   cases gk with
   | zero => exact absurd HA.out (by simp [assartref07_Ints.l0])
   | succ k1 =>
    have H := HA.out
    clear HA
    simp only [assartref07_Ints.l0] at H
    by_cases c4 : x5_1 < (l0.length : Int)
    ·rw [if_pos c4] at H
     have c4b0 : decide (x5_1 < (l0.length : Int)) = true := decide_eq_true c4
     clear c4
     by_cases c5 : 0 ≤ x5_1
     ·rw [if_pos c5] at H
      have c5b0 : decide (0 ≤ x5_1) = true := decide_eq_true c5
      clear c5
      by_cases c6 : x5_1 < (l1.length : Int)
      ·rw [if_pos c6] at H
       have c6b0 : decide (x5_1 < (l1.length : Int)) = true := decide_eq_true c6
       clear c6
       by_cases c7 : (rd l0 x5_1) = (rd l1 x5_1)
       ·rw [if_pos c7] at H
        have c7b0 : ((rd l0 x5_1) == (rd l1 x5_1)) = true := beq_iff_eq.mpr c7
        have c7b1 : ((rd l0 x5_1) != (rd l1 x5_1)) = false := bne_eq_false_iff_eq.mpr c7
        clear c7
        have H' := Aside0.mk H
        clear H
        have p130 : 0 ≤ (x5_1 : Int) := of_decide_eq_true (by first | (with_reducible assumption) | assumption)
        have q130 : x5_1 < (l0.length : Int) := of_decide_eq_true (by first | (with_reducible assumption) | assumption)
        obtain ⟨ad130, e130, hx130_0⟩ := Kd.at_int HR0.out x5_1 p130 q130
        cases e130
        replace p130 := eq_true p130
        replace q130 := eq_true q130
        have p131 : 0 ≤ (x5_1 : Int) := of_decide_eq_true (by first | (with_reducible assumption) | assumption)
        have q131 : x5_1 < (l1.length : Int) := of_decide_eq_true (by first | (with_reducible assumption) | assumption)
        obtain ⟨ad131, e131, hx131_0⟩ := Kd.at_int HR1.out x5_1 p131 q131
        cases e131
        replace p131 := eq_true p131
        replace q131 := eq_true q131
        go_wp2
        repeat (go_quiet (fail); try go_wp2)
        go_roundg k1
        case measure => have := HK1.out; omega
        case rel => exact ⟨(wrap64 (x5_1 + 1)), (by first | rfl | (simp; done) | (simp [*]; done)), H', ⟨by have := HK1.out; omega⟩, by repeat (first | exact Drawn0.refl _ | apply Drawn0.step)⟩
       ·rw [if_neg c7] at H
        have c7b0 : ((rd l0 x5_1) == (rd l1 x5_1)) = false := beq_eq_false_iff_ne.mpr c7
        have c7b1 : ((rd l0 x5_1) != (rd l1 x5_1)) = true := bne_iff_ne.mpr c7
        obtain rfl := Option.some.inj H
        have p130 : 0 ≤ (x5_1 : Int) := of_decide_eq_true (by first | (with_reducible assumption) | assumption)
        have q130 : x5_1 < (l0.length : Int) := of_decide_eq_true (by first | (with_reducible assumption) | assumption)
        obtain ⟨ad130, e130, hx130_0⟩ := Kd.at_int HR0.out x5_1 p130 q130
        cases e130
        replace p130 := eq_true p130
        replace q130 := eq_true q130
        have p131 : 0 ≤ (x5_1 : Int) := of_decide_eq_true (by first | (with_reducible assumption) | assumption)
        have q131 : x5_1 < (l1.length : Int) := of_decide_eq_true (by first | (with_reducible assumption) | assumption)
        obtain ⟨ad131, e131, hx131_0⟩ := Kd.at_int HR1.out x5_1 p131 q131
        cases e131
        replace p131 := eq_true p131
        replace q131 := eq_true q131
        go_wp2
        repeat (go_quiet (fail); try go_wp2)
        go_ret
        exact ⟨by first | rfl | (simp; done) | (simp [*]; done), by repeat (first | exact Drawn0.refl _ | apply Drawn0.step)⟩
      ·rw [if_neg c6] at H
       exact absurd H (by simp)
     ·rw [if_neg c5] at H
      exact absurd H (by simp)
    ·rw [if_neg c4] at H
     have c4b0 : decide (x5_1 < (l0.length : Int)) = false := decide_eq_false c4
     clear c4
     obtain rfl := Option.some.inj H
     go_wp2
     repeat (go_quiet (fail); try go_wp2)
     go_ret
     exact ⟨by first | rfl | (simp; done) | (simp [*]; done), by repeat (first | exact Drawn0.refl _ | apply Drawn0.step)⟩
 ·rw [if_neg c3] at H
  have c3b0 : ((l0.length : Int) == (l1.length : Int)) = false := beq_eq_false_iff_ne.mpr c3
  have c3b1 : ((l0.length : Int) != (l1.length : Int)) = true := bne_iff_ne.mpr c3
  have c3b2 : (l0.length == l1.length) = false := by first | simpa using c3 | (simp at c3 ⊢; omega)
  obtain rfl := Option.some.inj H
  go_enter Try.func23, Try.ntmps23
  go_wp2
  repeat (go_quiet (fail); try go_wp2)
  go_ret
  exact ⟨by first | rfl | (simp; done) | (simp [*]; done), by repeat (first | exact Drawn0.refl _ | apply Drawn0.step)⟩
end Go.Proofs.Yteiladccdenpbaa.P
end
section
namespace Go.Proofs.Yteiladccdenpbaa.P
open Go.RowKit Go.Proofs.YteiladccdenpbaaW.PrintWords Go.Proofs.YteiladccdenpbaaW.PrintLast Go.Proofs.YteiladccdenpbaaW.PrintMore
attribute [local go_sem] max2_int min2_int max_two min_two max_three min_three max_four min_four
set_option linter.unusedVariables false
set_option linter.unusedSimpArgs false
mutual
def tree_Nodes.l0 : Nat → List Int → List (S49) → Int → Int → List (S55) → Int → Bool → List (S49) → Option (List Int)
 | 0, _, _, _, _, _, _, _, _ => none
 | k + 1, x5, x20, x21, x22, x133000, x133001, x138000, x138001 => if x22 < x21 then (if 0 ≤ x22 then (if x22 < (x20.length : Int) then (if x138000 = true then (tree_Nodes.l0 k x5 x20 x21 (wrap64 (x22 + 1)) x133000 x133001 x138000 x138001) else ((tree_Nodes.f k x133000 x133001 ((rd_T49 x20 x22).f1)).bind fun t140 => (if x5.length + t140.length < 17592186044416 then (tree_Nodes.l0 k (x5 ++ t140) x20 x21 (wrap64 (x22 + 1)) x133000 x133001 x138000 x138001) else (none)))) else (none)) else (none)) else (some x5)
def tree_Nodes.f : Nat → List (S55) → Int → Int → Option (List Int)
 | 0, _, _, _ => none
 | k + 1, l0_0, a0_1, a1 => if a1 < 0 then (some ([] : List Int)) else (if 0 ≤ a1 then (if a1 < (l0_0.length : Int) then (tree_Nodes.l0 k (([a1] : List Int)) ((rd_T55 l0_0 a1).f2.f1) (((rd_T55 l0_0 a1).f2.f1).length : Int) 0 l0_0 a0_1 ((rd_T55 l0_0 a1).f2.f0) ((rd_T55 l0_0 a1).f2.f1)) else (none)) else (none))
end
set_option maxHeartbeats 8000000 in
set_option maxRecDepth 100000 in
theorem tree_Nodes.calls (k : Nat) : ∀ (A0_0 : Option Addr) (c0_0 : Nat) (l0_0 : List (S55)) (a0_1 : Int) (a1 : Int) (r : List Int) (w : World) (hr0_0 : Kd.C k55 w A0_0 l0_0.length l0_0) (hc0_0 : l0_0.length ≤ c0_0) (h : tree_Nodes.f k l0_0 a0_1 a1 = some r),
  Calls Try.prog 24 #[.agg #[.slice A0_0 l0_0.length c0_0, .int .i64 a0_1], .int .i64 a1] w fun e w' => ∃ v0_ : Value, e = .returned (v0_) ∧ Kd.R (Kd.int .i64) 3 w' w.heap.size (fun _ => True) v0_ r ∧ Below w.heap.size w w' := by
 induction k using Nat.strongRecOn with
 | _ k ih =>
 intro A0_0 c0_0 l0_0 a0_1 a1 r w hr0_0 hc0_0 h
 cases k with
 | zero => exact absurd h (by simp [tree_Nodes.f])
 | succ k =>
 simp only [tree_Nodes.f] at h
 have hu24 := Try.underlying24
 have hu53 := Try.underlying53
 have hu49 := Try.underlying49
 have HR0_0 := Aside0.mk hr0_0
 have HC0_0 := Aside0.mk hc0_0
 clear hr0_0 hc0_0
 have HB := Aside0.mk (Below.refl w.heap.size w)
 have H : (if a1 < 0 then (some ([] : List Int)) else (if 0 ≤ a1 then (if a1 < (l0_0.length : Int) then (tree_Nodes.l0 k (([a1] : List Int)) ((rd_T55 l0_0 a1).f2.f1) (((rd_T55 l0_0 a1).f2.f1).length : Int) 0 l0_0 a0_1 ((rd_T55 l0_0 a1).f2.f0) ((rd_T55 l0_0 a1).f2.f1)) else (none)) else (none))) = some r := h
 clear h
 by_cases c3 : a1 < 0
 ·rw [if_pos c3] at H
  have c3b0 : decide (a1 < 0) = true := decide_eq_true c3
  clear c3
  obtain rfl := Option.some.inj H
  go_enter Try.func24, Try.ntmps24
  go_wp2_with (first | ((with_reducible refine gate_dst (N := 2) rfl ?_); refine box_event ?hg (N := 2) ?hd (cs := #[.slice A0_0 l0_0.length c0_0, .int .i64 a0_1]) (t := 24) ?hr ?_; (case hd => rfl); (case hg => rfl); (case hr => first | (go_simp; done) | (go_simp; rfl)); intro gb132 hg w4 hbox hb; have n0_ := Aside0.mk (below_step (by repeat (first | (with_reducible first | exact HB.out | apply below_alloc | apply pw_below_drewN | apply below_drew1) | exact HB.out)) hb); have n1_ := Aside0.mk (hbox); have n2_ := Aside0.mk ((by rw [hg]; exact (below_size (by repeat (first | (with_reducible first | exact HB.out | apply below_alloc | apply pw_below_drewN | apply below_drew1) | exact HB.out))) : w.heap.size ≤ gb132)); have n3_ := Aside0.mk ((by rw [hg]; exact (below_size (by repeat (first | (with_reducible first | exact HB.out | apply below_alloc | apply pw_below_drewN | apply below_drew1) | exact HB.out))) : w.heap.size ≤ gb132)); clear HB; have HB := n0_; have BK132 := n1_; have GW132 := n2_; have GE132 := n3_; clear n0_ n1_ n2_ n3_; clear hb hbox hg))
  go_ret
  exact ⟨_, by first | rfl | (simp [errW_none, errW_some] <;> rfl) | (simp [*, errW_none, errW_some] <;> rfl), by first | exact Kd.R_nil _ _ _ _ _ | exact Kd.N_nil _ _ _ _ _ | exact Kd.V_nil _ _ _ _ _ | exact Kd.Q_nil _ _ _ _ _ | exact Kd.S_nil _ _ _ _ _, by repeat (first | (with_reducible first | exact HB.out | apply below_alloc | apply pw_below_drewN | apply below_drew1 | refine below_set ?_ GE132.out) | exact HB.out)⟩
 ·rw [if_neg c3] at H
  have c3b0 : decide (a1 < 0) = false := decide_eq_false c3
  clear c3
  obtain ⟨y133, hy133⟩ : ∃ y_ : List Int, y_ = (([a1] : List Int)) := ⟨_, rfl⟩
  replace H : (if 0 ≤ a1 then (if a1 < (l0_0.length : Int) then (tree_Nodes.l0 k y133 ((rd_T55 l0_0 a1).f2.f1) (((rd_T55 l0_0 a1).f2.f1).length : Int) 0 l0_0 a0_1 ((rd_T55 l0_0 a1).f2.f0) ((rd_T55 l0_0 a1).f2.f1)) else (none)) else (none)) = some r := by first | (rw [hy133]; with_reducible exact H) | (have H2_ := (Option.bind_some _ _).symm.trans H; rw [hy133]; with_reducible exact H2_) | (have H2_ := (Option.bind_some _ _).symm.trans H; with_reducible exact H2_) | with_reducible exact H | (rw [hy133]; exact H) | exact H
  have Ny133 := Aside0.mk hy133
  clear hy133
  by_cases c5 : 0 ≤ a1
  ·rw [if_pos c5] at H
   have c5b0 : decide (0 ≤ a1) = true := decide_eq_true c5
   clear c5
   by_cases c6 : a1 < (l0_0.length : Int)
   ·rw [if_pos c6] at H
    have c6b0 : decide (a1 < (l0_0.length : Int)) = true := decide_eq_true c6
    clear c6
    have H' := Aside0.mk H
    clear H
    go_enter Try.func24, Try.ntmps24
    go_wp2_with (first | ((with_reducible refine gate_dst (N := 2) rfl ?_); refine box_event ?hg (N := 2) ?hd (cs := #[.slice A0_0 l0_0.length c0_0, .int .i64 a0_1]) (t := 24) ?hr ?_; (case hd => rfl); (case hg => rfl); (case hr => first | (go_simp; done) | (go_simp; rfl)); intro gb132 hg w7 hbox hb; have n0_ := Aside0.mk (below_step (by repeat (first | (with_reducible first | exact HB.out | apply below_alloc | apply pw_below_drewN | apply below_drew1) | exact HB.out)) hb); have n1_ := Aside0.mk (hbox); have n2_ := Aside0.mk ((by rw [hg]; exact (below_size (by repeat (first | (with_reducible first | exact HB.out | apply below_alloc | apply pw_below_drewN | apply below_drew1) | exact HB.out))) : w.heap.size ≤ gb132)); have n3_ := Aside0.mk ((by rw [hg]; exact (below_size (by repeat (first | (with_reducible first | exact HB.out | apply below_alloc | apply pw_below_drewN | apply below_drew1) | exact HB.out))) : w.heap.size ≤ gb132)); clear HB; have HB := n0_; have BK132 := n1_; have GW132 := n2_; have GE132 := n3_; clear n0_ n1_ n2_ n3_; clear hb hbox hg) | ((with_reducible refine gate_dst (N := 12) rfl ?_); refine Kd.R_lit (Kd.int .i64) _ 3 ?hg (N := 12) ?hd (xs := ([a1] : List Int)) (inner := [.int .i64 a1]) (ok := fun _ => True) (okp := fun _ => True) ?hr ?hp (fun _ hk => hk) trivial (Below.refl _ _) (Nat.le_refl _) (by simp) ?_; (case hd => rfl); (case hg => rfl); (case hr => first | (go_simp; done) | (go_simp; rfl)); (case hp => exact (Reps.one (show Kd.M (Kd.int .i64) _ _ _ a1 [.int .i64 a1] from rfl) (Reps.none _ _))); intro v134 w8 ho9 hb hg_ hnew_; clear hg_ hnew_; (first | rw [← Ny133.out] at ho9 | (simp only [Int.reduceToNat] at ho9; rw [← Ny133.out] at ho9)); have n0_ := Aside0.mk (Kd.R_lower ho9 (below_size (by repeat (first | (with_reducible first | exact HB.out | apply below_alloc | apply pw_below_drewN | apply below_drew1 | refine below_set ?_ GE132.out) | exact HB.out)))); have n1_ := Aside0.mk (blk_below (g := gb132) (o := .cells #[.slice A0_0 l0_0.length c0_0, .int .i64 a0_1] 24 (0, 0)) (by (with_reducible repeat (first | refine blk_drewN ?_ _ | refine blk_drew ?_ | refine blk_alloc ?_ _)); exact BK132.out) hb); have n2_ := Aside0.mk (below_step (by repeat (first | (with_reducible first | exact HB.out | apply below_alloc | apply pw_below_drewN | apply below_drew1 | refine below_set ?_ GE132.out) | exact HB.out)) hb); clear BK132; clear HB; have HO135 := n0_; have BK132 := n1_; have HB := n2_; clear n0_ n1_ n2_; clear hb ho9; have hcz10_0 : w8.cell? ⟨gb132, 0, none⟩ = some (.slice A0_0 l0_0.length c0_0) := (blk_cell BK132.out 0).trans rfl; have hcz10_1 : w8.cell? ⟨gb132, 1, none⟩ = some (.int .i64 a0_1) := (blk_cell BK132.out 1).trans rfl; have hfz10_0 := blk_frozen BK132.out 0; have hfz10_1 := blk_frozen BK132.out 1; have p136 : 0 ≤ (a1 : Int) := of_decide_eq_true (by first | (with_reducible assumption) | assumption); have q136 : a1 < (l0_0.length : Int) := of_decide_eq_true (by first | (with_reducible assumption) | assumption); obtain ⟨ad136, A136_3, c136_3, e136, hx136_0, hx136_1, hx136_2, hx136_3, hl136_3, hi136_3⟩ := at_T55 HR0_0.out a1 p136 q136; cases e136; replace hx136_0 := (HB.out.cell (World.block_lt_of_cell? w _ hx136_0)).trans hx136_0; replace hx136_1 := (HB.out.cell (World.block_lt_of_cell? w _ hx136_1)).trans hx136_1; replace hx136_2 := (HB.out.cell (World.block_lt_of_cell? w _ hx136_2)).trans hx136_2; replace hx136_3 := (HB.out.cell (World.block_lt_of_cell? w _ hx136_3)).trans hx136_3; have HR136_3 := Aside0.mk hi136_3; have HC136_3 := Aside0.mk hl136_3; clear hi136_3 hl136_3; replace p136 := eq_true p136; replace q136 := eq_true q136) | ((with_reducible refine gate_dst (N := 6) rfl ?_); refine box_event ?hg (N := 6) ?hd (cs := #[.bool false, .slice none 0 0]) (t := 53) ?hr ?_; (case hd => rfl); (case hg => rfl); (case hr => first | (go_simp; done) | (go_simp; rfl)); intro gb137 hg w11 hbox hb; have n0_ := Aside0.mk (Kd.R_below (by (with_reducible repeat (first | apply Kd.R_alloc | apply Kd.R_drewN | apply Kd.R_drew)); exact HO135.out) hb); have n1_ := Aside0.mk (blk_below (g := gb132) (o := .cells #[.slice (some ad136) l0_0.length c0_0, .int .i64 a0_1] 24 (0, 0)) (by (with_reducible repeat (first | refine blk_drewN ?_ _ | refine blk_drew ?_ | refine blk_alloc ?_ _)); exact BK132.out) hb); have n2_ := Aside0.mk (below_step (by repeat (first | (with_reducible first | exact HB.out | apply below_alloc | apply pw_below_drewN | apply below_drew1 | refine below_set ?_ GE132.out) | exact HB.out)) hb); have n3_ := Aside0.mk (hbox); have n4_ := Aside0.mk ((by rw [hg]; exact (below_size (by repeat (first | (with_reducible first | exact HB.out | apply below_alloc | apply pw_below_drewN | apply below_drew1 | refine below_set ?_ GE132.out) | exact HB.out))) : w.heap.size ≤ gb137)); have n5_ := Aside0.mk ((by rw [hg]; exact (below_size (by repeat (first | (with_reducible first | exact HB.out | apply below_alloc | apply pw_below_drewN | apply below_drew1 | refine below_set ?_ GE132.out) | exact HB.out))) : w.heap.size ≤ gb137)); have n6_ := Aside0.mk ((by rw [hg]; exact Nat.ne_of_lt (blk_lt (g := gb132) (o := .cells #[.slice (some ad136) l0_0.length c0_0, .int .i64 a0_1] 24 (0, 0)) (by (with_reducible repeat (first | refine blk_drewN ?_ _ | refine blk_drew ?_ | refine blk_alloc ?_ _)); exact BK132.out)) : gb132 ≠ gb137)); have n7_ := Aside0.mk ((by rw [hg]; exact Nat.ne_of_gt (blk_lt (g := gb132) (o := .cells #[.slice (some ad136) l0_0.length c0_0, .int .i64 a0_1] 24 (0, 0)) (by (with_reducible repeat (first | refine blk_drewN ?_ _ | refine blk_drew ?_ | refine blk_alloc ?_ _)); exact BK132.out)) : gb137 ≠ gb132)); clear HO135; clear BK132; clear HB; have HO135 := n0_; have BK132 := n1_; have HB := n2_; have BK137 := n3_; have GW137 := n4_; have GE137 := n5_; have NB132_137 := n6_; have NB137_132 := n7_; clear n0_ n1_ n2_ n3_ n4_ n5_ n6_ n7_; clear hb hbox hg; have hnb12 := NB137_132.out; have hnc12 := NB132_137.out; have hcz13_0 : w11.cell? ⟨gb137, 0, none⟩ = some (.bool false) := (blk_cell BK137.out 0).trans rfl; have hcz13_1 : w11.cell? ⟨gb137, 1, none⟩ = some (.slice none 0 0) := (blk_cell BK137.out 1).trans rfl; have hfz13_0 := blk_frozen BK137.out 0; have hfz13_1 := blk_frozen BK137.out 1))
    go_loopg [5, 22] k (fun kq v5 v22 w' => ∃ (x5_1 : List Int) (x22_1 : Int), v22 = .int .i64 x22_1 ∧ Aside0 (tree_Nodes.l0 kq x5_1 ((rd_T55 l0_0 a1).f2.f1) (((rd_T55 l0_0 a1).f2.f1).length : Int) x22_1 l0_0 a0_1 ((rd_T55 l0_0 a1).f2.f0) ((rd_T55 l0_0 a1).f2.f1) = some r) ∧ Aside0 (kq ≤ k) ∧ Aside0 (Kd.R (Kd.int .i64) 3 w' w.heap.size (fun _ => True) v5 x5_1) ∧ Aside0 (w'.heap[gb132]? = some (.cells #[(.slice (some ad136) l0_0.length c0_0), .int .i64 a0_1] 24 (0, 0))) ∧ Aside0 (w'.heap[gb137]? = some (.cells #[.bool ((rd_T55 l0_0 a1).f2.f0), (.slice A136_3 ((rd_T55 l0_0 a1).f2.f1).length c136_3)] 53 (0, 0))) ∧ Aside0 (Below w.heap.size w w'))
    case atStart => exact ⟨(y133), (0), (by first | rfl | (simp; done) | (simp [*]; done)), H', ⟨Nat.le_refl _⟩, ⟨by (with_reducible repeat (first | apply Kd.R_alloc | apply Kd.R_drewN | apply Kd.R_drew)); exact Kd.R_mono (Kd.R_far (p := ⟨gb137, 1, none⟩) (Kd.R_far (p := ⟨gb137, 0, none⟩) (Kd.R_types HO135.out BK137.out (by decide)) (fun _ hk => hk.2) (.bool ((rd_T55 l0_0 a1).f2.f0))) (fun _ hk => hk.2) (.slice A136_3 ((rd_T55 l0_0 a1).f2.f1).length c136_3)) (fun _ hk => trivial)⟩, ⟨by (with_reducible repeat (first | refine blk_drewN ?_ _ | refine blk_drew ?_ | refine blk_alloc ?_ _)); refine blk_far ?_ NB132_137.out _; (with_reducible repeat (first | refine blk_drewN ?_ _ | refine blk_drew ?_ | refine blk_alloc ?_ _)); refine blk_far ?_ NB132_137.out _; (with_reducible repeat (first | refine blk_drewN ?_ _ | refine blk_drew ?_ | refine blk_alloc ?_ _)); exact BK132.out⟩, ⟨by (with_reducible repeat (first | refine blk_drewN ?_ _ | refine blk_drew ?_ | refine blk_alloc ?_ _)); refine blk_put (cs := #[.bool ((rd_T55 l0_0 a1).f2.f0), .slice none 0 0]) ?_ 1 _ rfl; (with_reducible repeat (first | refine blk_drewN ?_ _ | refine blk_drew ?_ | refine blk_alloc ?_ _)); refine blk_put (cs := #[.bool false, .slice none 0 0]) ?_ 0 _ rfl; (with_reducible repeat (first | refine blk_drewN ?_ _ | refine blk_drew ?_ | refine blk_alloc ?_ _)); exact BK137.out⟩, ⟨by repeat (first | (with_reducible first | exact HB.out | apply below_alloc | apply pw_below_drewN | apply below_drew1 | refine below_set ?_ GE132.out | refine below_set ?_ GE137.out) | exact HB.out)⟩⟩
    case round =>
     clear H'
     try clear c1
     try clear p1
     try clear q1
     try clear hx1
     try clear c2
     try clear p2
     try clear c3
     try clear c3b0
     try clear c5
     try clear c5b0
     try clear c6
     try clear c6b0
     try clear c12
     try clear c13
     try clear p13
     try clear q13
     try clear hx13
     try clear hcz10_0
     try clear hcz10_1
     try clear hcz13_0
     try clear hcz13_1
     try clear hfz10_0
     try clear hfz10_1
     try clear hfz13_0
     try clear hfz13_1
     try clear hx136_0
     try clear hx136_1
     try clear hx136_2
     try clear hx136_3
     try clear p136
     try clear q136
     obtain ⟨x5_1, x22_1, rfl, HA, HK1, HO_5, BK132, BK137, HB⟩ := hrel
     cases gk with
     | zero => exact absurd HA.out (by simp [tree_Nodes.l0])
     | succ k1 =>
      have H := HA.out
      clear HA
      simp only [tree_Nodes.l0] at H
      by_cases c14 : x22_1 < (((rd_T55 l0_0 a1).f2.f1).length : Int)
      ·rw [if_pos c14] at H
       have c14b0 : decide (x22_1 < (((rd_T55 l0_0 a1).f2.f1).length : Int)) = true := decide_eq_true c14
       clear c14
       by_cases c15 : 0 ≤ x22_1
       ·rw [if_pos c15] at H
        have c15b0 : decide (0 ≤ x22_1) = true := decide_eq_true c15
        clear c15
        by_cases c16 : x22_1 < (((rd_T55 l0_0 a1).f2.f1).length : Int)
        ·rw [if_pos c16] at H
         have c16b0 : decide (x22_1 < (((rd_T55 l0_0 a1).f2.f1).length : Int)) = true := decide_eq_true c16
         clear c16
         by_cases c17 : ((rd_T55 l0_0 a1).f2.f0) = true
         ·rw [if_pos c17] at H
          have c17b0 : ((rd_T55 l0_0 a1).f2.f0) = true := c17
          clear c17
          have H' := Aside0.mk H
          clear H
          have p138 : 0 ≤ (x22_1 : Int) := of_decide_eq_true (by first | (with_reducible assumption) | assumption)
          have q138 : x22_1 < (((rd_T55 l0_0 a1).f2.f1).length : Int) := of_decide_eq_true (by first | (with_reducible assumption) | assumption)
          obtain ⟨ad138, e138, hx138_0, hx138_1⟩ := at_T49 HR136_3.out x22_1 p138 q138
          cases e138
          replace hx138_0 := (HB.out.cell (World.block_lt_of_cell? w _ hx138_0)).trans hx138_0
          replace hx138_1 := (HB.out.cell (World.block_lt_of_cell? w _ hx138_1)).trans hx138_1
          replace p138 := eq_true p138
          replace q138 := eq_true q138
          go_wp2_with (first | ((with_reducible refine gate_dst (N := 8) rfl ?_); refine box_event ?hg (N := 8) ?hd (cs := #[.int .i64 0, .int .i64 0]) (t := 49) ?hr ?_; (case hd => rfl); (case hg => rfl); (case hr => first | (go_simp; done) | (go_simp; rfl)); intro gb139 hg w18 hbox hb; have n0_ := Aside0.mk (Kd.R_below (by (with_reducible repeat (first | apply Kd.R_alloc | apply Kd.R_drewN | apply Kd.R_drew)); exact HO_5.out) hb); have n1_ := Aside0.mk (blk_below (g := gb132) (o := .cells #[.slice (some ad136) l0_0.length c0_0, .int .i64 a0_1] 24 (0, 0)) (by (with_reducible repeat (first | refine blk_drewN ?_ _ | refine blk_drew ?_ | refine blk_alloc ?_ _)); exact BK132.out) hb); have n2_ := Aside0.mk (blk_below (g := gb137) (o := .cells #[.bool ((rd_T55 l0_0 a1).f2.f0), .slice (some ad138) ((rd_T55 l0_0 a1).f2.f1).length c136_3] 53 (0, 0)) (by (with_reducible repeat (first | refine blk_drewN ?_ _ | refine blk_drew ?_ | refine blk_alloc ?_ _)); exact BK137.out) hb); have n3_ := Aside0.mk (below_step (by repeat (first | (with_reducible first | exact HB.out | apply below_alloc | apply pw_below_drewN | apply below_drew1 | refine below_set ?_ GE132.out | refine below_set ?_ GE137.out) | exact HB.out)) hb); have n4_ := Aside0.mk (hbox); have n5_ := Aside0.mk ((by rw [hg]; exact (below_size (by repeat (first | (with_reducible first | exact HB.out | apply below_alloc | apply pw_below_drewN | apply below_drew1 | refine below_set ?_ GE132.out | refine below_set ?_ GE137.out) | exact HB.out))) : w.heap.size ≤ gb139)); have n6_ := Aside0.mk ((by rw [hg]; exact (below_size (by repeat (first | (with_reducible first | exact HB.out | apply below_alloc | apply pw_below_drewN | apply below_drew1 | refine below_set ?_ GE132.out | refine below_set ?_ GE137.out) | exact HB.out))) : w.heap.size ≤ gb139)); have n7_ := Aside0.mk ((by rw [hg]; exact Nat.ne_of_lt (blk_lt (g := gb132) (o := .cells #[.slice (some ad136) l0_0.length c0_0, .int .i64 a0_1] 24 (0, 0)) (by (with_reducible repeat (first | refine blk_drewN ?_ _ | refine blk_drew ?_ | refine blk_alloc ?_ _)); exact BK132.out)) : gb132 ≠ gb139)); have n8_ := Aside0.mk ((by rw [hg]; exact Nat.ne_of_gt (blk_lt (g := gb132) (o := .cells #[.slice (some ad136) l0_0.length c0_0, .int .i64 a0_1] 24 (0, 0)) (by (with_reducible repeat (first | refine blk_drewN ?_ _ | refine blk_drew ?_ | refine blk_alloc ?_ _)); exact BK132.out)) : gb139 ≠ gb132)); have n9_ := Aside0.mk ((by rw [hg]; exact Nat.ne_of_lt (blk_lt (g := gb137) (o := .cells #[.bool ((rd_T55 l0_0 a1).f2.f0), .slice (some ad138) ((rd_T55 l0_0 a1).f2.f1).length c136_3] 53 (0, 0)) (by (with_reducible repeat (first | refine blk_drewN ?_ _ | refine blk_drew ?_ | refine blk_alloc ?_ _)); exact BK137.out)) : gb137 ≠ gb139)); have n10_ := Aside0.mk ((by rw [hg]; exact Nat.ne_of_gt (blk_lt (g := gb137) (o := .cells #[.bool ((rd_T55 l0_0 a1).f2.f0), .slice (some ad138) ((rd_T55 l0_0 a1).f2.f1).length c136_3] 53 (0, 0)) (by (with_reducible repeat (first | refine blk_drewN ?_ _ | refine blk_drew ?_ | refine blk_alloc ?_ _)); exact BK137.out)) : gb139 ≠ gb137)); clear HO_5; clear BK132; clear BK137; clear HB; have HO_5 := n0_; have BK132 := n1_; have BK137 := n2_; have HB := n3_; have BK139 := n4_; have GW139 := n5_; have GE139 := n6_; have NB132_139 := n7_; have NB139_132 := n8_; have NB137_139 := n9_; have NB139_137 := n10_; clear n0_ n1_ n2_ n3_ n4_ n5_ n6_ n7_ n8_ n9_ n10_; clear hb hbox hg; have hnb19 := NB139_132.out; have hnc19 := NB132_139.out; have hnb20 := NB139_137.out; have hnc20 := NB137_139.out; have hcz21_0 : w18.cell? ⟨gb139, 0, none⟩ = some (.int .i64 0) := (blk_cell BK139.out 0).trans rfl; have hcz21_1 : w18.cell? ⟨gb139, 1, none⟩ = some (.int .i64 0) := (blk_cell BK139.out 1).trans rfl; have hfz21_0 := blk_frozen BK139.out 0; have hfz21_1 := blk_frozen BK139.out 1; have hnb22 := NB137_132.out; have hnc22 := NB132_137.out; have hcz23_0 : w18.cell? ⟨gb137, 0, none⟩ = some (.bool ((rd_T55 l0_0 a1).f2.f0)) := (blk_cell BK137.out 0).trans rfl; have hcz23_1 : w18.cell? ⟨gb137, 1, none⟩ = some (.slice (some ad138) ((rd_T55 l0_0 a1).f2.f1).length c136_3) := (blk_cell BK137.out 1).trans rfl; have hfz23_0 := blk_frozen BK137.out 0; have hfz23_1 := blk_frozen BK137.out 1))
          rw [show (Value.agg #[Value.bool true, Value.slice (some ad138) ((rd_T55 l0_0 a1).f2.f1).length c136_3]) = Value.agg #[Value.bool ((rd_T55 l0_0 a1).f2.f0), Value.slice (some ad138) ((rd_T55 l0_0 a1).f2.f1).length c136_3] by rw [c17b0]]
          go_roundg k1
          case measure => have := HK1.out; omega
          case rel => exact ⟨(x5_1), (wrap64 (x22_1 + 1)), (by first | rfl | (simp; done) | (simp [*]; done)), H', ⟨by have := HK1.out; omega⟩, ⟨by (with_reducible repeat (first | apply Kd.R_alloc | apply Kd.R_drewN | apply Kd.R_drew)); exact Kd.R_mono (Kd.R_far (p := ⟨gb139, 1, none⟩) (Kd.R_far (p := ⟨gb139, 0, none⟩) (Kd.R_types HO_5.out BK139.out (by decide)) (fun _ hk => hk.2) (.int .i64 ((rd_T49 ((rd_T55 l0_0 a1).f2.f1) x22_1).f0))) (fun _ hk => hk.2) (.int .i64 ((rd_T49 ((rd_T55 l0_0 a1).f2.f1) x22_1).f1))) (fun _ hk => trivial)⟩, ⟨by (with_reducible repeat (first | refine blk_drewN ?_ _ | refine blk_drew ?_ | refine blk_alloc ?_ _)); refine blk_far ?_ NB132_139.out _; (with_reducible repeat (first | refine blk_drewN ?_ _ | refine blk_drew ?_ | refine blk_alloc ?_ _)); refine blk_far ?_ NB132_139.out _; (with_reducible repeat (first | refine blk_drewN ?_ _ | refine blk_drew ?_ | refine blk_alloc ?_ _)); exact BK132.out⟩, ⟨by (with_reducible repeat (first | refine blk_drewN ?_ _ | refine blk_drew ?_ | refine blk_alloc ?_ _)); refine blk_far ?_ NB137_139.out _; (with_reducible repeat (first | refine blk_drewN ?_ _ | refine blk_drew ?_ | refine blk_alloc ?_ _)); refine blk_far ?_ NB137_139.out _; (with_reducible repeat (first | refine blk_drewN ?_ _ | refine blk_drew ?_ | refine blk_alloc ?_ _)); exact BK137.out⟩, ⟨by repeat (first | (with_reducible first | exact HB.out | apply below_alloc | apply pw_below_drewN | apply below_drew1 | refine below_set ?_ GE132.out | refine below_set ?_ GE137.out | refine below_set ?_ GE139.out) | exact HB.out)⟩⟩
         ·rw [if_neg c17] at H
          have c17b0 : ((rd_T55 l0_0 a1).f2.f0) = false := by simpa using c17
          clear c17
          replace H := Option.bind_eq_some_iff.mp H
          obtain ⟨t140, A240, H⟩ := H
          replace H : (if x5_1.length + t140.length < 17592186044416 then (tree_Nodes.l0 k1 (x5_1 ++ t140) ((rd_T55 l0_0 a1).f2.f1) (((rd_T55 l0_0 a1).f2.f1).length : Int) (wrap64 (x22_1 + 1)) l0_0 a0_1 ((rd_T55 l0_0 a1).f2.f0) ((rd_T55 l0_0 a1).f2.f1)) else (none)) = some r := H
          have A24 := Aside0.mk A240
          clear A240
          by_cases c25 : x5_1.length + t140.length < 17592186044416
          ·rw [if_pos c25] at H
           have LMc25 := Aside0.mk c25
           clear c25
           obtain ⟨y143, hy143⟩ : ∃ y_ : List Int, y_ = (x5_1 ++ t140) := ⟨_, rfl⟩
           replace H : (tree_Nodes.l0 k1 y143 ((rd_T55 l0_0 a1).f2.f1) (((rd_T55 l0_0 a1).f2.f1).length : Int) (wrap64 (x22_1 + 1)) l0_0 a0_1 ((rd_T55 l0_0 a1).f2.f0) ((rd_T55 l0_0 a1).f2.f1)) = some r := by first | (rw [hy143]; with_reducible exact H) | (have H2_ := (Option.bind_some _ _).symm.trans H; rw [hy143]; with_reducible exact H2_) | (have H2_ := (Option.bind_some _ _).symm.trans H; with_reducible exact H2_) | with_reducible exact H | (rw [hy143]; exact H) | exact H
           have Ny143 := Aside0.mk hy143
           clear hy143
           have H' := Aside0.mk H
           clear H
           have p138 : 0 ≤ (x22_1 : Int) := of_decide_eq_true (by first | (with_reducible assumption) | assumption)
           have q138 : x22_1 < (((rd_T55 l0_0 a1).f2.f1).length : Int) := of_decide_eq_true (by first | (with_reducible assumption) | assumption)
           obtain ⟨ad138, e138, hx138_0, hx138_1⟩ := at_T49 HR136_3.out x22_1 p138 q138
           cases e138
           replace hx138_0 := (HB.out.cell (World.block_lt_of_cell? w _ hx138_0)).trans hx138_0
           replace hx138_1 := (HB.out.cell (World.block_lt_of_cell? w _ hx138_1)).trans hx138_1
           replace p138 := eq_true p138
           replace q138 := eq_true q138
           go_wp2_with (first | ((with_reducible refine gate_dst (N := 8) rfl ?_); refine box_event ?hg (N := 8) ?hd (cs := #[.int .i64 0, .int .i64 0]) (t := 49) ?hr ?_; (case hd => rfl); (case hg => rfl); (case hr => first | (go_simp; done) | (go_simp; rfl)); intro gb139 hg w26 hbox hb; have n0_ := Aside0.mk (Kd.R_below (by (with_reducible repeat (first | apply Kd.R_alloc | apply Kd.R_drewN | apply Kd.R_drew)); exact HO_5.out) hb); have n1_ := Aside0.mk (blk_below (g := gb132) (o := .cells #[.slice (some ad136) l0_0.length c0_0, .int .i64 a0_1] 24 (0, 0)) (by (with_reducible repeat (first | refine blk_drewN ?_ _ | refine blk_drew ?_ | refine blk_alloc ?_ _)); exact BK132.out) hb); have n2_ := Aside0.mk (blk_below (g := gb137) (o := .cells #[.bool ((rd_T55 l0_0 a1).f2.f0), .slice (some ad138) ((rd_T55 l0_0 a1).f2.f1).length c136_3] 53 (0, 0)) (by (with_reducible repeat (first | refine blk_drewN ?_ _ | refine blk_drew ?_ | refine blk_alloc ?_ _)); exact BK137.out) hb); have n3_ := Aside0.mk (below_step (by repeat (first | (with_reducible first | exact HB.out | apply below_alloc | apply pw_below_drewN | apply below_drew1 | refine below_set ?_ GE132.out | refine below_set ?_ GE137.out) | exact HB.out)) hb); have n4_ := Aside0.mk (hbox); have n5_ := Aside0.mk ((by rw [hg]; exact (below_size (by repeat (first | (with_reducible first | exact HB.out | apply below_alloc | apply pw_below_drewN | apply below_drew1 | refine below_set ?_ GE132.out | refine below_set ?_ GE137.out) | exact HB.out))) : w.heap.size ≤ gb139)); have n6_ := Aside0.mk ((by rw [hg]; exact (below_size (by repeat (first | (with_reducible first | exact HB.out | apply below_alloc | apply pw_below_drewN | apply below_drew1 | refine below_set ?_ GE132.out | refine below_set ?_ GE137.out) | exact HB.out))) : w.heap.size ≤ gb139)); have n7_ := Aside0.mk ((by rw [hg]; exact Nat.ne_of_lt (blk_lt (g := gb132) (o := .cells #[.slice (some ad136) l0_0.length c0_0, .int .i64 a0_1] 24 (0, 0)) (by (with_reducible repeat (first | refine blk_drewN ?_ _ | refine blk_drew ?_ | refine blk_alloc ?_ _)); exact BK132.out)) : gb132 ≠ gb139)); have n8_ := Aside0.mk ((by rw [hg]; exact Nat.ne_of_gt (blk_lt (g := gb132) (o := .cells #[.slice (some ad136) l0_0.length c0_0, .int .i64 a0_1] 24 (0, 0)) (by (with_reducible repeat (first | refine blk_drewN ?_ _ | refine blk_drew ?_ | refine blk_alloc ?_ _)); exact BK132.out)) : gb139 ≠ gb132)); have n9_ := Aside0.mk ((by rw [hg]; exact Nat.ne_of_lt (blk_lt (g := gb137) (o := .cells #[.bool ((rd_T55 l0_0 a1).f2.f0), .slice (some ad138) ((rd_T55 l0_0 a1).f2.f1).length c136_3] 53 (0, 0)) (by (with_reducible repeat (first | refine blk_drewN ?_ _ | refine blk_drew ?_ | refine blk_alloc ?_ _)); exact BK137.out)) : gb137 ≠ gb139)); have n10_ := Aside0.mk ((by rw [hg]; exact Nat.ne_of_gt (blk_lt (g := gb137) (o := .cells #[.bool ((rd_T55 l0_0 a1).f2.f0), .slice (some ad138) ((rd_T55 l0_0 a1).f2.f1).length c136_3] 53 (0, 0)) (by (with_reducible repeat (first | refine blk_drewN ?_ _ | refine blk_drew ?_ | refine blk_alloc ?_ _)); exact BK137.out)) : gb139 ≠ gb137)); clear HO_5; clear BK132; clear BK137; clear HB; have HO_5 := n0_; have BK132 := n1_; have BK137 := n2_; have HB := n3_; have BK139 := n4_; have GW139 := n5_; have GE139 := n6_; have NB132_139 := n7_; have NB139_132 := n8_; have NB137_139 := n9_; have NB139_137 := n10_; clear n0_ n1_ n2_ n3_ n4_ n5_ n6_ n7_ n8_ n9_ n10_; clear hb hbox hg; have hnb27 := NB139_132.out; have hnc27 := NB132_139.out; have hnb28 := NB139_137.out; have hnc28 := NB137_139.out; have hcz29_0 : w26.cell? ⟨gb139, 0, none⟩ = some (.int .i64 0) := (blk_cell BK139.out 0).trans rfl; have hcz29_1 : w26.cell? ⟨gb139, 1, none⟩ = some (.int .i64 0) := (blk_cell BK139.out 1).trans rfl; have hfz29_0 := blk_frozen BK139.out 0; have hfz29_1 := blk_frozen BK139.out 1; have hnb30 := NB137_132.out; have hnc30 := NB132_137.out; have hcz31_0 : w26.cell? ⟨gb137, 0, none⟩ = some (.bool ((rd_T55 l0_0 a1).f2.f0)) := (blk_cell BK137.out 0).trans rfl; have hcz31_1 : w26.cell? ⟨gb137, 1, none⟩ = some (.slice (some ad138) ((rd_T55 l0_0 a1).f2.f1).length c136_3) := (blk_cell BK137.out 1).trans rfl; have hfz31_0 := blk_frozen BK137.out 0; have hfz31_1 := blk_frozen BK137.out 1; have hcz32_0 : w26.cell? ⟨gb132, 0, none⟩ = some (.slice (some ad136) l0_0.length c0_0) := (blk_cell BK132.out 0).trans rfl; have hcz32_1 : w26.cell? ⟨gb132, 1, none⟩ = some (.int .i64 a0_1) := (blk_cell BK132.out 1).trans rfl; have hfz32_0 := blk_frozen BK132.out 0; have hfz32_1 := blk_frozen BK132.out 1) | ((with_reducible refine gate_callee (f := 24) rfl ?_); refine goesL_ (some 33) rfl rfl Try.func24 (by kernel_rfl) rfl #[.agg #[.slice (some ad136) l0_0.length c0_0, .int .i64 a0_1], .int .i64 ((rd_T49 ((rd_T55 l0_0 a1).f2.f1) x22_1).f1)] rfl (by (try simp only [List.map_toArray, List.map_cons, List.map_nil]); first | done | rfl | (simp only [List.length_drop, List.length_take]; rfl)) ?_; (with_reducible refine (ih k1 (by have := HK1.out; omega) _ _ l0_0 a0_1 ((rd_T49 ((rd_T55 l0_0 a1).f2.f1) x22_1).f1) t140 _ ?side1 ?side2 A24.out).mono ?_); (case side1 => exact Kd.C_below HR0_0.out (by repeat (first | (with_reducible first | exact HB.out | apply below_alloc | apply pw_below_drewN | apply below_drew1 | refine below_set ?_ GE132.out | refine below_set ?_ GE137.out | refine below_set ?_ GE139.out) | exact HB.out))); (case side2 => exact HC0_0.out); rintro e w33 ⟨v141, rfl, ho0, hb⟩; refine ⟨_, rfl, ?_⟩; have n0_ := Aside0.mk (Kd.R_elder' (by (with_reducible repeat (first | apply Kd.R_alloc | apply Kd.R_drewN | apply Kd.R_drew)); exact (Kd.R_mono (Kd.R_far (p := ⟨gb139, 1, none⟩) (Kd.R_far (p := ⟨gb139, 0, none⟩) (Kd.R_types HO_5.out BK139.out (by decide)) (fun _ hk => hk.2) (.int .i64 ((rd_T49 ((rd_T55 l0_0 a1).f2.f1) x22_1).f0))) (fun _ hk => hk.2) (.int .i64 ((rd_T49 ((rd_T55 l0_0 a1).f2.f1) x22_1).f1))) (fun _ h_ => h_.1))) (Kd.R_base ho0) hb); have n1_ := Aside0.mk (Kd.R_lower (Kd.R_new' ho0 (Kd.R_lt (by (with_reducible repeat (first | apply Kd.R_alloc | apply Kd.R_drewN | apply Kd.R_drew)); exact (Kd.R_mono (Kd.R_far (p := ⟨gb139, 1, none⟩) (Kd.R_far (p := ⟨gb139, 0, none⟩) (Kd.R_types HO_5.out BK139.out (by decide)) (fun _ hk => hk.2) (.int .i64 ((rd_T49 ((rd_T55 l0_0 a1).f2.f1) x22_1).f0))) (fun _ hk => hk.2) (.int .i64 ((rd_T49 ((rd_T55 l0_0 a1).f2.f1) x22_1).f1))) (fun _ h_ => h_.1))))) (below_size (by repeat (first | (with_reducible first | exact HB.out | apply below_alloc | apply pw_below_drewN | apply below_drew1 | refine below_set ?_ GE132.out | refine below_set ?_ GE137.out | refine below_set ?_ GE139.out) | exact HB.out)))); have n2_ := Aside0.mk (blk_below (g := gb132) (o := .cells #[.slice (some ad136) l0_0.length c0_0, .int .i64 a0_1] 24 (0, 0)) (by (with_reducible repeat (first | refine blk_drewN ?_ _ | refine blk_drew ?_ | refine blk_alloc ?_ _)); refine blk_far ?_ NB132_139.out _; (with_reducible repeat (first | refine blk_drewN ?_ _ | refine blk_drew ?_ | refine blk_alloc ?_ _)); refine blk_far ?_ NB132_139.out _; (with_reducible repeat (first | refine blk_drewN ?_ _ | refine blk_drew ?_ | refine blk_alloc ?_ _)); exact BK132.out) hb); have n3_ := Aside0.mk (blk_below (g := gb137) (o := .cells #[.bool ((rd_T55 l0_0 a1).f2.f0), .slice (some ad138) ((rd_T55 l0_0 a1).f2.f1).length c136_3] 53 (0, 0)) (by (with_reducible repeat (first | refine blk_drewN ?_ _ | refine blk_drew ?_ | refine blk_alloc ?_ _)); refine blk_far ?_ NB137_139.out _; (with_reducible repeat (first | refine blk_drewN ?_ _ | refine blk_drew ?_ | refine blk_alloc ?_ _)); refine blk_far ?_ NB137_139.out _; (with_reducible repeat (first | refine blk_drewN ?_ _ | refine blk_drew ?_ | refine blk_alloc ?_ _)); exact BK137.out) hb); have n4_ := Aside0.mk (blk_below (g := gb139) (o := .cells #[.int .i64 ((rd_T49 ((rd_T55 l0_0 a1).f2.f1) x22_1).f0), .int .i64 ((rd_T49 ((rd_T55 l0_0 a1).f2.f1) x22_1).f1)] 49 (0, 0)) (by (with_reducible repeat (first | refine blk_drewN ?_ _ | refine blk_drew ?_ | refine blk_alloc ?_ _)); refine blk_put (cs := #[.int .i64 ((rd_T49 ((rd_T55 l0_0 a1).f2.f1) x22_1).f0), .int .i64 0]) ?_ 1 _ rfl; (with_reducible repeat (first | refine blk_drewN ?_ _ | refine blk_drew ?_ | refine blk_alloc ?_ _)); refine blk_put (cs := #[.int .i64 0, .int .i64 0]) ?_ 0 _ rfl; (with_reducible repeat (first | refine blk_drewN ?_ _ | refine blk_drew ?_ | refine blk_alloc ?_ _)); exact BK139.out) hb); have n5_ := Aside0.mk (below_step (by repeat (first | (with_reducible first | exact HB.out | apply below_alloc | apply pw_below_drewN | apply below_drew1 | refine below_set ?_ GE132.out | refine below_set ?_ GE137.out | refine below_set ?_ GE139.out) | exact HB.out)) hb); clear HO_5; clear BK132; clear BK137; clear BK139; clear HB; have HO_5 := n0_; have HO142 := n1_; have BK132 := n2_; have BK137 := n3_; have BK139 := n4_; have HB := n5_; clear n0_ n1_ n2_ n3_ n4_ n5_; (try clear hb); (try clear hb2); (try clear hk); (try clear hi); (try clear ho0); obtain ⟨Ao35, co35, eo35⟩ := Kd.R_slice HO142.out; subst eo35) | ((with_reducible refine gate_builtin (b := .append) (xs := #[.tmp 29, .tmp 33]) rfl ?_); at_builtin; refine Kd.R_append_rows (Kd.int .i64) (w0 := w) w.heap.size rfl (.tmp 29) (.tmp 33) 31 3 (.int .i64 0) 8 rfl Try.underlying31 info3 rfl (by decide) (by omega) u5 x5_1 t140 _ _ _ (fun k_ => some k_ ≠ (.slice Ao35 t140.length co35 : Value).ownBlock) (fun _ => False) rfl rfl ?aO ?aR (fun _ _ h => h) (fun _ h => h.elim) ?aF ?aB ?aS ?aL ?_; (case aR => repeat (first | exact (Kd.R_reads' HO142.out).2.2 | (with_reducible refine Kd.C_alloc ?_ _) | (with_reducible refine Kd.C_drewN ?_ _) | (with_reducible refine Kd.C_drew ?_))); (case aB => exact (by repeat (first | (with_reducible first | exact HB.out | apply below_alloc | apply pw_below_drewN | apply below_drew1 | refine below_set ?_ GE132.out | refine below_set ?_ GE137.out | refine below_set ?_ GE139.out) | exact HB.out))); (case aF => exact (fun k_ hk => Kd.fresh' (Kd.R_lt (by (with_reducible repeat (first | apply Kd.R_alloc | apply Kd.R_drewN | apply Kd.R_drew)); exact HO142.out)) k_ hk)); (case aO => exact (by (with_reducible repeat (first | apply Kd.R_alloc | apply Kd.R_drewN | apply Kd.R_drew)); exact Kd.R_mono HO_5.out (fun _ hk => hk.2))); (case aS => exact (below_size (by repeat (first | (with_reducible first | exact HB.out | apply below_alloc | apply pw_below_drewN | apply below_drew1 | refine below_set ?_ GE132.out | refine below_set ?_ GE137.out | refine below_set ?_ GE139.out) | exact HB.out)))); (case aL => have := LMc25.out; omega); intro v144 w34 ho hb hg hat; rw [← Ny143.out] at ho; have n0_ := Aside0.mk (blk_grown (g := gb132) (o := .cells #[.slice (some ad136) l0_0.length c0_0, .int .i64 a0_1] 24 (0, 0)) (by (with_reducible repeat (first | refine blk_drewN ?_ _ | refine blk_drew ?_ | refine blk_alloc ?_ _)); exact BK132.out) hg (Kd.R_ne HO_5.out BK132.out (by decide))); have n1_ := Aside0.mk (blk_grown (g := gb137) (o := .cells #[.bool ((rd_T55 l0_0 a1).f2.f0), .slice (some ad138) ((rd_T55 l0_0 a1).f2.f1).length c136_3] 53 (0, 0)) (by (with_reducible repeat (first | refine blk_drewN ?_ _ | refine blk_drew ?_ | refine blk_alloc ?_ _)); exact BK137.out) hg (Kd.R_ne HO_5.out BK137.out (by decide))); have n2_ := Aside0.mk (blk_grown (g := gb139) (o := .cells #[.int .i64 ((rd_T49 ((rd_T55 l0_0 a1).f2.f1) x22_1).f0), .int .i64 ((rd_T49 ((rd_T55 l0_0 a1).f2.f1) x22_1).f1)] 49 (0, 0)) (by (with_reducible repeat (first | refine blk_drewN ?_ _ | refine blk_drew ?_ | refine blk_alloc ?_ _)); exact BK139.out) hg (Kd.R_ne HO_5.out BK139.out (by decide))); have n3_ := Aside0.mk (Kd.R_after (ok := (fun _ => True)) (by (with_reducible repeat (first | apply Kd.R_alloc | apply Kd.R_drewN | apply Kd.R_drew)); exact HO142.out) hg hat); have n4_ := Aside0.mk (hb); have n5_ := Aside0.mk (ho); clear BK132; clear BK137; clear BK139; clear HO142; clear HB; clear HO_5; have BK132 := n0_; have BK137 := n1_; have BK139 := n2_; have HO142 := n3_; have HB := n4_; have HO145 := n5_; clear n0_ n1_ n2_ n3_ n4_ n5_; clear ho hb hg hat))
           rw [show (Value.agg #[Value.bool false, Value.slice (some ad138) ((rd_T55 l0_0 a1).f2.f1).length c136_3]) = Value.agg #[Value.bool ((rd_T55 l0_0 a1).f2.f0), Value.slice (some ad138) ((rd_T55 l0_0 a1).f2.f1).length c136_3] by rw [c17b0]]
           go_roundg k1
           case measure => have := HK1.out; omega
           case rel => exact ⟨(y143), (wrap64 (x22_1 + 1)), (by first | rfl | (simp; done) | (simp [*]; done)), H', ⟨by have := HK1.out; omega⟩, ⟨by (with_reducible repeat (first | apply Kd.R_alloc | apply Kd.R_drewN | apply Kd.R_drew)); exact Kd.R_mono HO145.out (fun _ hk => trivial)⟩, ⟨by (with_reducible repeat (first | refine blk_drewN ?_ _ | refine blk_drew ?_ | refine blk_alloc ?_ _)); exact BK132.out⟩, ⟨by (with_reducible repeat (first | refine blk_drewN ?_ _ | refine blk_drew ?_ | refine blk_alloc ?_ _)); exact BK137.out⟩, ⟨by repeat (first | (with_reducible first | exact HB.out | apply below_alloc | apply pw_below_drewN | apply below_drew1 | refine below_set ?_ GE132.out | refine below_set ?_ GE137.out | refine below_set ?_ GE139.out) | exact HB.out)⟩⟩
          ·rw [if_neg c25] at H
           exact absurd H (by simp)
        ·rw [if_neg c16] at H
         exact absurd H (by simp)
       ·rw [if_neg c15] at H
        exact absurd H (by simp)
      ·rw [if_neg c14] at H
       have c14b0 : decide (x22_1 < (((rd_T55 l0_0 a1).f2.f1).length : Int)) = false := decide_eq_false c14
       clear c14
       obtain rfl := Option.some.inj H
       go_wp2
       go_ret
       exact ⟨_, by first | rfl | (simp [errW_none, errW_some] <;> rfl) | (simp [*, errW_none, errW_some] <;> rfl), by (with_reducible repeat (first | apply Kd.R_alloc | apply Kd.R_drewN | apply Kd.R_drew)); exact HO_5.out, by repeat (first | (with_reducible first | exact HB.out | apply below_alloc | apply pw_below_drewN | apply below_drew1 | refine below_set ?_ GE132.out | refine below_set ?_ GE137.out) | exact HB.out)⟩
   ·rw [if_neg c6] at H
    exact absurd H (by simp)
  ·rw [if_neg c5] at H
   exact absurd H (by simp)
end Go.Proofs.Yteiladccdenpbaa.P
end
section
namespace Go.Proofs.Yteiladccdenpbaa.P
open Go.RowKit Go.Proofs.YteiladccdenpbaaW.PrintWords Go.Proofs.YteiladccdenpbaaW.PrintLast Go.Proofs.YteiladccdenpbaaW.PrintMore
attribute [local go_sem] max2_int min2_int max_two min_two max_three min_three max_four min_four
set_option linter.unusedVariables false
set_option linter.unusedSimpArgs false
def tree_Get.l0 : Nat → Int → Int → List (S55) → Int → Option (Int × Int)
 | 0, _, _, _, _ => none
 | k + 1, x2, x8, x147000, x147001 => if x8 ≥ 0 then (if 0 ≤ x8 then (if x8 < (x147000.length : Int) then ((node_At.f ((rd_T55 x147000 x8).f2.f0) ((rd_T55 x147000 x8).f2.f1) x2).bind fun bt149 => (if ((rd_T55 x147000 x8).f2.f0 = true) then (if bt149.2 = true then (if 0 ≤ bt149.1 then (if bt149.1 < (((rd_T55 x147000 x8).f2.f1).length : Int) then (some ((rd_T49 ((rd_T55 x147000 x8).f2.f1) bt149.1).f1, 0)) else (none)) else (none)) else (some (0, 4))) else (if 0 ≤ bt149.1 then (if bt149.1 < (((rd_T55 x147000 x8).f2.f1).length : Int) then (tree_Get.l0 k x2 ((rd_T49 ((rd_T55 x147000 x8).f2.f1) bt149.1).f1) x147000 x147001) else (none)) else (none)))) else (none)) else (none)) else (some (0, 4))
def tree_Get.f (k : Nat) (l0_0 : List (S55)) (a0_1 : Int) (a1 : Int) (a2 : Int) : Option (Int × Int) := tree_Get.l0 k a2 a1 l0_0 a0_1
set_option maxHeartbeats 8000000 in
set_option maxRecDepth 100000 in
theorem tree_Get.calls (k : Nat) (A0_0 : Option Addr) (c0_0 : Nat) (l0_0 : List (S55)) (a0_1 : Int) (a1 : Int) (a2 : Int) (r1 : Int) (r2 : Int) (w : World) (hr0_0 : Kd.C k55 w A0_0 l0_0.length l0_0) (hc0_0 : l0_0.length ≤ c0_0) (h : tree_Get.f k l0_0 a0_1 a1 a2 = some (r1, r2)) :
  Calls Try.prog 27 #[.agg #[.slice A0_0 l0_0.length c0_0, .int .i64 a0_1], .int .i64 a1, .int .i64 a2] w fun e w' => e = .returned (.tuple #[.int .i64 r1, .int .i64 r2]) ∧ Below w.heap.size w w' := by
 have hu24 := Try.underlying24
 have hu53 := Try.underlying53
 have HR0_0 := Aside0.mk hr0_0
 have HC0_0 := Aside0.mk hc0_0
 clear hr0_0 hc0_0
 have HB := Aside0.mk (Below.refl w.heap.size w)
 have H : (tree_Get.l0 k a2 a1 l0_0 a0_1) = some (r1, r2) := h
 clear h
 have H' := Aside0.mk H
 clear H
 go_enter Try.func27, Try.ntmps27
 go_wp2_with (first | ((with_reducible refine gate_dst (N := 3) rfl ?_); refine box_event ?hg (N := 3) ?hd (cs := #[.slice A0_0 l0_0.length c0_0, .int .i64 a0_1]) (t := 24) ?hr ?_; (case hd => rfl); (case hg => rfl); (case hr => first | (go_simp; done) | (go_simp; rfl)); intro gb146 hg w4 hbox hb; have n0_ := Aside0.mk (below_step (by repeat (first | (with_reducible first | exact HB.out | apply below_alloc | apply pw_below_drewN | apply below_drew1) | exact HB.out)) hb); have n1_ := Aside0.mk (hbox); have n2_ := Aside0.mk ((by rw [hg]; exact (below_size (by repeat (first | (with_reducible first | exact HB.out | apply below_alloc | apply pw_below_drewN | apply below_drew1) | exact HB.out))) : w.heap.size ≤ gb146)); have n3_ := Aside0.mk ((by rw [hg]; exact (below_size (by repeat (first | (with_reducible first | exact HB.out | apply below_alloc | apply pw_below_drewN | apply below_drew1) | exact HB.out))) : w.heap.size ≤ gb146)); clear HB; have HB := n0_; have BK146 := n1_; have GW146 := n2_; have GE146 := n3_; clear n0_ n1_ n2_ n3_; clear hb hbox hg))
 go_loopg [8] k (fun kq v8 w' => ∃ (x8_1 : Int), v8 = .int .i64 x8_1 ∧ Aside0 (tree_Get.l0 kq a2 x8_1 l0_0 a0_1 = some (r1, r2)) ∧ Aside0 (kq ≤ k) ∧ Aside0 (w'.heap[gb146]? = some (.cells #[(.slice A0_0 l0_0.length c0_0), .int .i64 a0_1] 24 (0, 0))) ∧ Aside0 (Below w.heap.size w w'))
 case atStart => exact ⟨(a1), (by first | rfl | (simp; done) | (simp [*]; done)), H', ⟨Nat.le_refl _⟩, ⟨by (with_reducible repeat (first | refine blk_drewN ?_ _ | refine blk_drew ?_ | refine blk_alloc ?_ _)); exact BK146.out⟩, ⟨by repeat (first | (with_reducible first | exact HB.out | apply below_alloc | apply pw_below_drewN | apply below_drew1 | refine below_set ?_ GE146.out) | exact HB.out)⟩⟩
 case round =>
  clear H'
  try clear c2
  try clear p2
  obtain ⟨x8_1, rfl, HA, HK1, BK146, HB⟩ := hrel
  cases gk with
  | zero => exact absurd HA.out (by simp [tree_Get.l0])
  | succ k1 =>
   have H := HA.out
   clear HA
   simp only [tree_Get.l0] at H
   by_cases c5 : x8_1 ≥ 0
   ·rw [if_pos c5] at H
    have c5b0 : decide (0 ≤ x8_1) = true := decide_eq_true c5
    clear c5
    by_cases c6 : 0 ≤ x8_1
    ·rw [if_pos c6] at H
     have c6b0 : decide (0 ≤ x8_1) = true := decide_eq_true c6
     clear c6
     by_cases c7 : x8_1 < (l0_0.length : Int)
     ·rw [if_pos c7] at H
      have c7b0 : decide (x8_1 < (l0_0.length : Int)) = true := decide_eq_true c7
      clear c7
      replace H := Option.bind_eq_some_iff.mp H
      obtain ⟨⟨t149, t150⟩, A80, H⟩ := H
      replace H : (if ((rd_T55 l0_0 x8_1).f2.f0 = true) then (if t150 = true then (if 0 ≤ t149 then (if t149 < (((rd_T55 l0_0 x8_1).f2.f1).length : Int) then (some ((rd_T49 ((rd_T55 l0_0 x8_1).f2.f1) t149).f1, 0)) else (none)) else (none)) else (some (0, 4))) else (if 0 ≤ t149 then (if t149 < (((rd_T55 l0_0 x8_1).f2.f1).length : Int) then (tree_Get.l0 k1 a2 ((rd_T49 ((rd_T55 l0_0 x8_1).f2.f1) t149).f1) l0_0 a0_1) else (none)) else (none))) = some (r1, r2) := H
      have A8 := Aside0.mk A80
      clear A80
      obtain ⟨bq9, hbq9⟩ : ∃ b_ : Bool, b_ = ((rd_T55 l0_0 x8_1).f2.f0) := ⟨_, rfl⟩
      replace H : (if (bq9 = true) then (if t150 = true then (if 0 ≤ t149 then (if t149 < (((rd_T55 l0_0 x8_1).f2.f1).length : Int) then (some ((rd_T49 ((rd_T55 l0_0 x8_1).f2.f1) t149).f1, 0)) else (none)) else (none)) else (some (0, 4))) else (if 0 ≤ t149 then (if t149 < (((rd_T55 l0_0 x8_1).f2.f1).length : Int) then (tree_Get.l0 k1 a2 ((rd_T49 ((rd_T55 l0_0 x8_1).f2.f1) t149).f1) l0_0 a0_1) else (none)) else (none))) = some (r1, r2) := by rw [← hbq9] at H; exact H
      have Nbq9 := Aside0.mk hbq9
      clear hbq9
      by_cases c10 : (bq9 = true)
      ·subst c10
       have H1 : (if t150 = true then (if 0 ≤ t149 then (if t149 < (((rd_T55 l0_0 x8_1).f2.f1).length : Int) then (some ((rd_T49 ((rd_T55 l0_0 x8_1).f2.f1) t149).f1, 0)) else (none)) else (none)) else (some (0, 4))) = some (r1, r2) := by rw [if_pos rfl] at H; exact H
       clear H
       have H := H1
       clear H1
       by_cases c11 : t150 = true
       ·subst c11
        have H1 : (if 0 ≤ t149 then (if t149 < (((rd_T55 l0_0 x8_1).f2.f1).length : Int) then (some ((rd_T49 ((rd_T55 l0_0 x8_1).f2.f1) t149).f1, 0)) else (none)) else (none)) = some (r1, r2) := by rw [if_pos rfl] at H; exact H
        clear H
        have H := H1
        clear H1
        by_cases c12 : 0 ≤ t149
        ·rw [if_pos c12] at H
         have c12b0 : decide (0 ≤ t149) = true := decide_eq_true c12
         clear c12
         by_cases c13 : t149 < (((rd_T55 l0_0 x8_1).f2.f1).length : Int)
         ·rw [if_pos c13] at H
          have c13b0 : decide (t149 < (((rd_T55 l0_0 x8_1).f2.f1).length : Int)) = true := decide_eq_true c13
          clear c13
          simp only [Option.some.injEq, Prod.mk.injEq] at H
          obtain ⟨rfl, rfl⟩ := H
          have hcz14_0 : wr.cell? ⟨gb146, 0, none⟩ = some (.slice A0_0 l0_0.length c0_0) := (blk_cell BK146.out 0).trans rfl
          have hcz14_1 : wr.cell? ⟨gb146, 1, none⟩ = some (.int .i64 a0_1) := (blk_cell BK146.out 1).trans rfl
          have hfz14_0 := blk_frozen BK146.out 0
          have hfz14_1 := blk_frozen BK146.out 1
          have p147 : 0 ≤ (x8_1 : Int) := of_decide_eq_true (by first | (with_reducible assumption) | assumption)
          have q147 : x8_1 < (l0_0.length : Int) := of_decide_eq_true (by first | (with_reducible assumption) | assumption)
          obtain ⟨ad147, A147_3, c147_3, e147, hx147_0, hx147_1, hx147_2, hx147_3, hl147_3, hi147_3⟩ := at_T55 HR0_0.out x8_1 p147 q147
          (try rw [← Nbq9.out] at hx147_1)
          (try rw [← Nbq9.out] at hx147_2)
          cases e147
          replace hx147_0 := (HB.out.cell (World.block_lt_of_cell? w _ hx147_0)).trans hx147_0
          replace hx147_1 := (HB.out.cell (World.block_lt_of_cell? w _ hx147_1)).trans hx147_1
          replace hx147_2 := (HB.out.cell (World.block_lt_of_cell? w _ hx147_2)).trans hx147_2
          replace hx147_3 := (HB.out.cell (World.block_lt_of_cell? w _ hx147_3)).trans hx147_3
          have HR147_3 := Aside0.mk hi147_3
          have HC147_3 := Aside0.mk hl147_3
          clear hi147_3 hl147_3
          replace p147 := eq_true p147
          replace q147 := eq_true q147
          go_wp2_with (first | ((with_reducible refine gate_dst (N := 9) rfl ?_); refine box_event ?hg (N := 9) ?hd (cs := #[.bool false, .slice none 0 0]) (t := 53) ?hr ?_; (case hd => rfl); (case hg => rfl); (case hr => first | (go_simp; done) | (go_simp; rfl)); intro gb148 hg w15 hbox hb; have n0_ := Aside0.mk (blk_below (g := gb146) (o := .cells #[.slice (some ad147) l0_0.length c0_0, .int .i64 a0_1] 24 (0, 0)) (by (with_reducible repeat (first | refine blk_drewN ?_ _ | refine blk_drew ?_ | refine blk_alloc ?_ _)); exact BK146.out) hb); have n1_ := Aside0.mk (below_step (by repeat (first | (with_reducible first | exact HB.out | apply below_alloc | apply pw_below_drewN | apply below_drew1 | refine below_set ?_ GE146.out) | exact HB.out)) hb); have n2_ := Aside0.mk (hbox); have n3_ := Aside0.mk ((by rw [hg]; exact (below_size (by repeat (first | (with_reducible first | exact HB.out | apply below_alloc | apply pw_below_drewN | apply below_drew1 | refine below_set ?_ GE146.out) | exact HB.out))) : w.heap.size ≤ gb148)); have n4_ := Aside0.mk ((by rw [hg]; exact (below_size (by repeat (first | (with_reducible first | exact HB.out | apply below_alloc | apply pw_below_drewN | apply below_drew1 | refine below_set ?_ GE146.out) | exact HB.out))) : w.heap.size ≤ gb148)); have n5_ := Aside0.mk ((by rw [hg]; exact Nat.ne_of_lt (blk_lt (g := gb146) (o := .cells #[.slice (some ad147) l0_0.length c0_0, .int .i64 a0_1] 24 (0, 0)) (by (with_reducible repeat (first | refine blk_drewN ?_ _ | refine blk_drew ?_ | refine blk_alloc ?_ _)); exact BK146.out)) : gb146 ≠ gb148)); have n6_ := Aside0.mk ((by rw [hg]; exact Nat.ne_of_gt (blk_lt (g := gb146) (o := .cells #[.slice (some ad147) l0_0.length c0_0, .int .i64 a0_1] 24 (0, 0)) (by (with_reducible repeat (first | refine blk_drewN ?_ _ | refine blk_drew ?_ | refine blk_alloc ?_ _)); exact BK146.out)) : gb148 ≠ gb146)); clear BK146; clear HB; have BK146 := n0_; have HB := n1_; have BK148 := n2_; have GW148 := n3_; have GE148 := n4_; have NB146_148 := n5_; have NB148_146 := n6_; clear n0_ n1_ n2_ n3_ n4_ n5_ n6_; clear hb hbox hg; have hnb16 := NB148_146.out; have hnc16 := NB146_148.out; have hcz17_0 : w15.cell? ⟨gb148, 0, none⟩ = some (.bool false) := (blk_cell BK148.out 0).trans rfl; have hcz17_1 : w15.cell? ⟨gb148, 1, none⟩ = some (.slice none 0 0) := (blk_cell BK148.out 1).trans rfl; have hfz17_0 := blk_frozen BK148.out 0; have hfz17_1 := blk_frozen BK148.out 1) | ((with_reducible refine gate_callee (f := 59) rfl ?_); refine goesL_ (some 24) rfl rfl Try.func59 (by kernel_rfl) rfl #[.agg #[.bool true, .slice A147_3 ((rd_T55 l0_0 x8_1).f2.f1).length c147_3], .int .i64 a2] rfl (by (try simp only [List.map_toArray, List.map_cons, List.map_nil]); first | done | rfl | (simp only [List.length_drop, List.length_take]; rfl)) ?_; (with_reducible refine (node_At.calls true _ _ ((rd_T55 l0_0 x8_1).f2.f1) a2 t149 true _ ?side1 ?side2 (by first | exact A8.out | (have h_ := A8.out; rw [← Nbq9.out] at h_; exact h_))).mono ?_); (case side1 => exact Kd.C_below HR147_3.out (by repeat (first | (with_reducible first | exact HB.out | apply below_alloc | apply pw_below_drewN | apply below_drew1 | refine below_set ?_ GE146.out | refine below_set ?_ GE148.out) | exact HB.out))); (case side2 => exact HC147_3.out); rintro e w18 ⟨rfl, hb⟩; refine ⟨_, rfl, ?_⟩; have n0_ := Aside0.mk (blk_below (g := gb146) (o := .cells #[.slice (some ad147) l0_0.length c0_0, .int .i64 a0_1] 24 (0, 0)) (by (with_reducible repeat (first | refine blk_drewN ?_ _ | refine blk_drew ?_ | refine blk_alloc ?_ _)); refine blk_far ?_ NB146_148.out _; (with_reducible repeat (first | refine blk_drewN ?_ _ | refine blk_drew ?_ | refine blk_alloc ?_ _)); refine blk_far ?_ NB146_148.out _; (with_reducible repeat (first | refine blk_drewN ?_ _ | refine blk_drew ?_ | refine blk_alloc ?_ _)); exact BK146.out) hb); have n1_ := Aside0.mk (blk_below (g := gb148) (o := .cells #[.bool true, .slice A147_3 ((rd_T55 l0_0 x8_1).f2.f1).length c147_3] 53 (0, 0)) (by (with_reducible repeat (first | refine blk_drewN ?_ _ | refine blk_drew ?_ | refine blk_alloc ?_ _)); refine blk_put (cs := #[.bool true, .slice none 0 0]) ?_ 1 _ rfl; (with_reducible repeat (first | refine blk_drewN ?_ _ | refine blk_drew ?_ | refine blk_alloc ?_ _)); refine blk_put (cs := #[.bool false, .slice none 0 0]) ?_ 0 _ rfl; (with_reducible repeat (first | refine blk_drewN ?_ _ | refine blk_drew ?_ | refine blk_alloc ?_ _)); exact BK148.out) hb); have n2_ := Aside0.mk (below_step (by repeat (first | (with_reducible first | exact HB.out | apply below_alloc | apply pw_below_drewN | apply below_drew1 | refine below_set ?_ GE146.out | refine below_set ?_ GE148.out) | exact HB.out)) hb); clear BK146; clear BK148; clear HB; have BK146 := n0_; have BK148 := n1_; have HB := n2_; clear n0_ n1_ n2_; (try clear hb); (try clear hb2); (try clear hk); (try clear hi); have hcz19_0 : w18.cell? ⟨gb148, 0, none⟩ = some (.bool true) := (blk_cell BK148.out 0).trans rfl; have hcz19_1 : w18.cell? ⟨gb148, 1, none⟩ = some (.slice A147_3 ((rd_T55 l0_0 x8_1).f2.f1).length c147_3) := (blk_cell BK148.out 1).trans rfl; have hfz19_0 := blk_frozen BK148.out 0; have hfz19_1 := blk_frozen BK148.out 1; have p151 : 0 ≤ (t149 : Int) := of_decide_eq_true (by first | (with_reducible assumption) | assumption); have q151 : t149 < (((rd_T55 l0_0 x8_1).f2.f1).length : Int) := of_decide_eq_true (by first | (with_reducible assumption) | assumption); obtain ⟨ad151, e151, hx151_0, hx151_1⟩ := at_T49 HR147_3.out t149 p151 q151; cases e151; replace hx151_0 := (HB.out.cell (World.block_lt_of_cell? w _ hx151_0)).trans hx151_0; replace hx151_1 := (HB.out.cell (World.block_lt_of_cell? w _ hx151_1)).trans hx151_1; replace p151 := eq_true p151; replace q151 := eq_true q151))
          go_ret2
          exact ⟨by first | rfl | (simp [errW_none, errW_some] <;> rfl) | (simp [*, errW_none, errW_some] <;> rfl), by repeat (first | (with_reducible first | exact HB.out | apply below_alloc | apply pw_below_drewN | apply below_drew1 | refine below_set ?_ GE146.out | refine below_set ?_ GE148.out) | exact HB.out)⟩
         ·rw [if_neg c13] at H
          exact absurd H (by simp)
        ·rw [if_neg c12] at H
         exact absurd H (by simp)
       ·replace c11 := Bool.eq_false_iff.mpr c11
        subst c11
        have H1 : (some (0, 4)) = some (r1, r2) := by rw [if_neg (show ¬ (false = true) by decide)] at H; exact H
        clear H
        have H := H1
        clear H1
        simp only [Option.some.injEq, Prod.mk.injEq] at H
        obtain ⟨rfl, rfl⟩ := H
        have hcz20_0 : wr.cell? ⟨gb146, 0, none⟩ = some (.slice A0_0 l0_0.length c0_0) := (blk_cell BK146.out 0).trans rfl
        have hcz20_1 : wr.cell? ⟨gb146, 1, none⟩ = some (.int .i64 a0_1) := (blk_cell BK146.out 1).trans rfl
        have hfz20_0 := blk_frozen BK146.out 0
        have hfz20_1 := blk_frozen BK146.out 1
        have p147 : 0 ≤ (x8_1 : Int) := of_decide_eq_true (by first | (with_reducible assumption) | assumption)
        have q147 : x8_1 < (l0_0.length : Int) := of_decide_eq_true (by first | (with_reducible assumption) | assumption)
        obtain ⟨ad147, A147_3, c147_3, e147, hx147_0, hx147_1, hx147_2, hx147_3, hl147_3, hi147_3⟩ := at_T55 HR0_0.out x8_1 p147 q147
        (try rw [← Nbq9.out] at hx147_1)
        (try rw [← Nbq9.out] at hx147_2)
        cases e147
        replace hx147_0 := (HB.out.cell (World.block_lt_of_cell? w _ hx147_0)).trans hx147_0
        replace hx147_1 := (HB.out.cell (World.block_lt_of_cell? w _ hx147_1)).trans hx147_1
        replace hx147_2 := (HB.out.cell (World.block_lt_of_cell? w _ hx147_2)).trans hx147_2
        replace hx147_3 := (HB.out.cell (World.block_lt_of_cell? w _ hx147_3)).trans hx147_3
        have HR147_3 := Aside0.mk hi147_3
        have HC147_3 := Aside0.mk hl147_3
        clear hi147_3 hl147_3
        replace p147 := eq_true p147
        replace q147 := eq_true q147
        go_wp2_with (first | ((with_reducible refine gate_dst (N := 9) rfl ?_); refine box_event ?hg (N := 9) ?hd (cs := #[.bool false, .slice none 0 0]) (t := 53) ?hr ?_; (case hd => rfl); (case hg => rfl); (case hr => first | (go_simp; done) | (go_simp; rfl)); intro gb148 hg w21 hbox hb; have n0_ := Aside0.mk (blk_below (g := gb146) (o := .cells #[.slice (some ad147) l0_0.length c0_0, .int .i64 a0_1] 24 (0, 0)) (by (with_reducible repeat (first | refine blk_drewN ?_ _ | refine blk_drew ?_ | refine blk_alloc ?_ _)); exact BK146.out) hb); have n1_ := Aside0.mk (below_step (by repeat (first | (with_reducible first | exact HB.out | apply below_alloc | apply pw_below_drewN | apply below_drew1 | refine below_set ?_ GE146.out) | exact HB.out)) hb); have n2_ := Aside0.mk (hbox); have n3_ := Aside0.mk ((by rw [hg]; exact (below_size (by repeat (first | (with_reducible first | exact HB.out | apply below_alloc | apply pw_below_drewN | apply below_drew1 | refine below_set ?_ GE146.out) | exact HB.out))) : w.heap.size ≤ gb148)); have n4_ := Aside0.mk ((by rw [hg]; exact (below_size (by repeat (first | (with_reducible first | exact HB.out | apply below_alloc | apply pw_below_drewN | apply below_drew1 | refine below_set ?_ GE146.out) | exact HB.out))) : w.heap.size ≤ gb148)); have n5_ := Aside0.mk ((by rw [hg]; exact Nat.ne_of_lt (blk_lt (g := gb146) (o := .cells #[.slice (some ad147) l0_0.length c0_0, .int .i64 a0_1] 24 (0, 0)) (by (with_reducible repeat (first | refine blk_drewN ?_ _ | refine blk_drew ?_ | refine blk_alloc ?_ _)); exact BK146.out)) : gb146 ≠ gb148)); have n6_ := Aside0.mk ((by rw [hg]; exact Nat.ne_of_gt (blk_lt (g := gb146) (o := .cells #[.slice (some ad147) l0_0.length c0_0, .int .i64 a0_1] 24 (0, 0)) (by (with_reducible repeat (first | refine blk_drewN ?_ _ | refine blk_drew ?_ | refine blk_alloc ?_ _)); exact BK146.out)) : gb148 ≠ gb146)); clear BK146; clear HB; have BK146 := n0_; have HB := n1_; have BK148 := n2_; have GW148 := n3_; have GE148 := n4_; have NB146_148 := n5_; have NB148_146 := n6_; clear n0_ n1_ n2_ n3_ n4_ n5_ n6_; clear hb hbox hg; have hnb22 := NB148_146.out; have hnc22 := NB146_148.out; have hcz23_0 : w21.cell? ⟨gb148, 0, none⟩ = some (.bool false) := (blk_cell BK148.out 0).trans rfl; have hcz23_1 : w21.cell? ⟨gb148, 1, none⟩ = some (.slice none 0 0) := (blk_cell BK148.out 1).trans rfl; have hfz23_0 := blk_frozen BK148.out 0; have hfz23_1 := blk_frozen BK148.out 1) | ((with_reducible refine gate_callee (f := 59) rfl ?_); refine goesL_ (some 24) rfl rfl Try.func59 (by kernel_rfl) rfl #[.agg #[.bool true, .slice A147_3 ((rd_T55 l0_0 x8_1).f2.f1).length c147_3], .int .i64 a2] rfl (by (try simp only [List.map_toArray, List.map_cons, List.map_nil]); first | done | rfl | (simp only [List.length_drop, List.length_take]; rfl)) ?_; (with_reducible refine (node_At.calls true _ _ ((rd_T55 l0_0 x8_1).f2.f1) a2 t149 false _ ?side1 ?side2 (by first | exact A8.out | (have h_ := A8.out; rw [← Nbq9.out] at h_; exact h_))).mono ?_); (case side1 => exact Kd.C_below HR147_3.out (by repeat (first | (with_reducible first | exact HB.out | apply below_alloc | apply pw_below_drewN | apply below_drew1 | refine below_set ?_ GE146.out | refine below_set ?_ GE148.out) | exact HB.out))); (case side2 => exact HC147_3.out); rintro e w24 ⟨rfl, hb⟩; refine ⟨_, rfl, ?_⟩; have n0_ := Aside0.mk (blk_below (g := gb146) (o := .cells #[.slice (some ad147) l0_0.length c0_0, .int .i64 a0_1] 24 (0, 0)) (by (with_reducible repeat (first | refine blk_drewN ?_ _ | refine blk_drew ?_ | refine blk_alloc ?_ _)); refine blk_far ?_ NB146_148.out _; (with_reducible repeat (first | refine blk_drewN ?_ _ | refine blk_drew ?_ | refine blk_alloc ?_ _)); refine blk_far ?_ NB146_148.out _; (with_reducible repeat (first | refine blk_drewN ?_ _ | refine blk_drew ?_ | refine blk_alloc ?_ _)); exact BK146.out) hb); have n1_ := Aside0.mk (blk_below (g := gb148) (o := .cells #[.bool true, .slice A147_3 ((rd_T55 l0_0 x8_1).f2.f1).length c147_3] 53 (0, 0)) (by (with_reducible repeat (first | refine blk_drewN ?_ _ | refine blk_drew ?_ | refine blk_alloc ?_ _)); refine blk_put (cs := #[.bool true, .slice none 0 0]) ?_ 1 _ rfl; (with_reducible repeat (first | refine blk_drewN ?_ _ | refine blk_drew ?_ | refine blk_alloc ?_ _)); refine blk_put (cs := #[.bool false, .slice none 0 0]) ?_ 0 _ rfl; (with_reducible repeat (first | refine blk_drewN ?_ _ | refine blk_drew ?_ | refine blk_alloc ?_ _)); exact BK148.out) hb); have n2_ := Aside0.mk (below_step (by repeat (first | (with_reducible first | exact HB.out | apply below_alloc | apply pw_below_drewN | apply below_drew1 | refine below_set ?_ GE146.out | refine below_set ?_ GE148.out) | exact HB.out)) hb); clear BK146; clear BK148; clear HB; have BK146 := n0_; have BK148 := n1_; have HB := n2_; clear n0_ n1_ n2_; (try clear hb); (try clear hb2); (try clear hk); (try clear hi); have hcz25_0 : w24.cell? ⟨gb148, 0, none⟩ = some (.bool true) := (blk_cell BK148.out 0).trans rfl; have hcz25_1 : w24.cell? ⟨gb148, 1, none⟩ = some (.slice A147_3 ((rd_T55 l0_0 x8_1).f2.f1).length c147_3) := (blk_cell BK148.out 1).trans rfl; have hfz25_0 := blk_frozen BK148.out 0; have hfz25_1 := blk_frozen BK148.out 1))
        go_ret2
        exact ⟨by first | rfl | (simp [errW_none, errW_some] <;> rfl) | (simp [*, errW_none, errW_some] <;> rfl), by repeat (first | (with_reducible first | exact HB.out | apply below_alloc | apply pw_below_drewN | apply below_drew1 | refine below_set ?_ GE146.out | refine below_set ?_ GE148.out) | exact HB.out)⟩
      ·replace c10 := Bool.eq_false_iff.mpr c10
       subst c10
       have H1 : (if 0 ≤ t149 then (if t149 < (((rd_T55 l0_0 x8_1).f2.f1).length : Int) then (tree_Get.l0 k1 a2 ((rd_T49 ((rd_T55 l0_0 x8_1).f2.f1) t149).f1) l0_0 a0_1) else (none)) else (none)) = some (r1, r2) := by rw [if_neg (show ¬ (false = true) by decide)] at H; exact H
       clear H
       have H := H1
       clear H1
       by_cases c26 : 0 ≤ t149
       ·rw [if_pos c26] at H
        have c26b0 : decide (0 ≤ t149) = true := decide_eq_true c26
        clear c26
        by_cases c27 : t149 < (((rd_T55 l0_0 x8_1).f2.f1).length : Int)
        ·rw [if_pos c27] at H
         have c27b0 : decide (t149 < (((rd_T55 l0_0 x8_1).f2.f1).length : Int)) = true := decide_eq_true c27
         clear c27
         have H' := Aside0.mk H
         clear H
         have hcz28_0 : wr.cell? ⟨gb146, 0, none⟩ = some (.slice A0_0 l0_0.length c0_0) := (blk_cell BK146.out 0).trans rfl
         have hcz28_1 : wr.cell? ⟨gb146, 1, none⟩ = some (.int .i64 a0_1) := (blk_cell BK146.out 1).trans rfl
         have hfz28_0 := blk_frozen BK146.out 0
         have hfz28_1 := blk_frozen BK146.out 1
         have p147 : 0 ≤ (x8_1 : Int) := of_decide_eq_true (by first | (with_reducible assumption) | assumption)
         have q147 : x8_1 < (l0_0.length : Int) := of_decide_eq_true (by first | (with_reducible assumption) | assumption)
         obtain ⟨ad147, A147_3, c147_3, e147, hx147_0, hx147_1, hx147_2, hx147_3, hl147_3, hi147_3⟩ := at_T55 HR0_0.out x8_1 p147 q147
         (try rw [← Nbq9.out] at hx147_1)
         (try rw [← Nbq9.out] at hx147_2)
         cases e147
         replace hx147_0 := (HB.out.cell (World.block_lt_of_cell? w _ hx147_0)).trans hx147_0
         replace hx147_1 := (HB.out.cell (World.block_lt_of_cell? w _ hx147_1)).trans hx147_1
         replace hx147_2 := (HB.out.cell (World.block_lt_of_cell? w _ hx147_2)).trans hx147_2
         replace hx147_3 := (HB.out.cell (World.block_lt_of_cell? w _ hx147_3)).trans hx147_3
         have HR147_3 := Aside0.mk hi147_3
         have HC147_3 := Aside0.mk hl147_3
         clear hi147_3 hl147_3
         replace p147 := eq_true p147
         replace q147 := eq_true q147
         go_wp2_with (first | ((with_reducible refine gate_dst (N := 9) rfl ?_); refine box_event ?hg (N := 9) ?hd (cs := #[.bool false, .slice none 0 0]) (t := 53) ?hr ?_; (case hd => rfl); (case hg => rfl); (case hr => first | (go_simp; done) | (go_simp; rfl)); intro gb148 hg w29 hbox hb; have n0_ := Aside0.mk (blk_below (g := gb146) (o := .cells #[.slice (some ad147) l0_0.length c0_0, .int .i64 a0_1] 24 (0, 0)) (by (with_reducible repeat (first | refine blk_drewN ?_ _ | refine blk_drew ?_ | refine blk_alloc ?_ _)); exact BK146.out) hb); have n1_ := Aside0.mk (below_step (by repeat (first | (with_reducible first | exact HB.out | apply below_alloc | apply pw_below_drewN | apply below_drew1 | refine below_set ?_ GE146.out) | exact HB.out)) hb); have n2_ := Aside0.mk (hbox); have n3_ := Aside0.mk ((by rw [hg]; exact (below_size (by repeat (first | (with_reducible first | exact HB.out | apply below_alloc | apply pw_below_drewN | apply below_drew1 | refine below_set ?_ GE146.out) | exact HB.out))) : w.heap.size ≤ gb148)); have n4_ := Aside0.mk ((by rw [hg]; exact (below_size (by repeat (first | (with_reducible first | exact HB.out | apply below_alloc | apply pw_below_drewN | apply below_drew1 | refine below_set ?_ GE146.out) | exact HB.out))) : w.heap.size ≤ gb148)); have n5_ := Aside0.mk ((by rw [hg]; exact Nat.ne_of_lt (blk_lt (g := gb146) (o := .cells #[.slice (some ad147) l0_0.length c0_0, .int .i64 a0_1] 24 (0, 0)) (by (with_reducible repeat (first | refine blk_drewN ?_ _ | refine blk_drew ?_ | refine blk_alloc ?_ _)); exact BK146.out)) : gb146 ≠ gb148)); have n6_ := Aside0.mk ((by rw [hg]; exact Nat.ne_of_gt (blk_lt (g := gb146) (o := .cells #[.slice (some ad147) l0_0.length c0_0, .int .i64 a0_1] 24 (0, 0)) (by (with_reducible repeat (first | refine blk_drewN ?_ _ | refine blk_drew ?_ | refine blk_alloc ?_ _)); exact BK146.out)) : gb148 ≠ gb146)); clear BK146; clear HB; have BK146 := n0_; have HB := n1_; have BK148 := n2_; have GW148 := n3_; have GE148 := n4_; have NB146_148 := n5_; have NB148_146 := n6_; clear n0_ n1_ n2_ n3_ n4_ n5_ n6_; clear hb hbox hg; have hnb30 := NB148_146.out; have hnc30 := NB146_148.out; have hcz31_0 : w29.cell? ⟨gb148, 0, none⟩ = some (.bool false) := (blk_cell BK148.out 0).trans rfl; have hcz31_1 : w29.cell? ⟨gb148, 1, none⟩ = some (.slice none 0 0) := (blk_cell BK148.out 1).trans rfl; have hfz31_0 := blk_frozen BK148.out 0; have hfz31_1 := blk_frozen BK148.out 1) | ((with_reducible refine gate_callee (f := 59) rfl ?_); refine goesL_ (some 24) rfl rfl Try.func59 (by kernel_rfl) rfl #[.agg #[.bool false, .slice A147_3 ((rd_T55 l0_0 x8_1).f2.f1).length c147_3], .int .i64 a2] rfl (by (try simp only [List.map_toArray, List.map_cons, List.map_nil]); first | done | rfl | (simp only [List.length_drop, List.length_take]; rfl)) ?_; (with_reducible refine (node_At.calls false _ _ ((rd_T55 l0_0 x8_1).f2.f1) a2 t149 t150 _ ?side1 ?side2 (by first | exact A8.out | (have h_ := A8.out; rw [← Nbq9.out] at h_; exact h_))).mono ?_); (case side1 => exact Kd.C_below HR147_3.out (by repeat (first | (with_reducible first | exact HB.out | apply below_alloc | apply pw_below_drewN | apply below_drew1 | refine below_set ?_ GE146.out | refine below_set ?_ GE148.out) | exact HB.out))); (case side2 => exact HC147_3.out); rintro e w32 ⟨rfl, hb⟩; refine ⟨_, rfl, ?_⟩; have n0_ := Aside0.mk (blk_below (g := gb146) (o := .cells #[.slice (some ad147) l0_0.length c0_0, .int .i64 a0_1] 24 (0, 0)) (by (with_reducible repeat (first | refine blk_drewN ?_ _ | refine blk_drew ?_ | refine blk_alloc ?_ _)); refine blk_far ?_ NB146_148.out _; (with_reducible repeat (first | refine blk_drewN ?_ _ | refine blk_drew ?_ | refine blk_alloc ?_ _)); refine blk_far ?_ NB146_148.out _; (with_reducible repeat (first | refine blk_drewN ?_ _ | refine blk_drew ?_ | refine blk_alloc ?_ _)); exact BK146.out) hb); have n1_ := Aside0.mk (blk_below (g := gb148) (o := .cells #[.bool false, .slice A147_3 ((rd_T55 l0_0 x8_1).f2.f1).length c147_3] 53 (0, 0)) (by (with_reducible repeat (first | refine blk_drewN ?_ _ | refine blk_drew ?_ | refine blk_alloc ?_ _)); refine blk_put (cs := #[.bool false, .slice none 0 0]) ?_ 1 _ rfl; (with_reducible repeat (first | refine blk_drewN ?_ _ | refine blk_drew ?_ | refine blk_alloc ?_ _)); refine blk_put (cs := #[.bool false, .slice none 0 0]) ?_ 0 _ rfl; (with_reducible repeat (first | refine blk_drewN ?_ _ | refine blk_drew ?_ | refine blk_alloc ?_ _)); exact BK148.out) hb); have n2_ := Aside0.mk (below_step (by repeat (first | (with_reducible first | exact HB.out | apply below_alloc | apply pw_below_drewN | apply below_drew1 | refine below_set ?_ GE146.out | refine below_set ?_ GE148.out) | exact HB.out)) hb); clear BK146; clear BK148; clear HB; have BK146 := n0_; have BK148 := n1_; have HB := n2_; clear n0_ n1_ n2_; (try clear hb); (try clear hb2); (try clear hk); (try clear hi); have hcz33_0 : w32.cell? ⟨gb148, 0, none⟩ = some (.bool false) := (blk_cell BK148.out 0).trans rfl; have hcz33_1 : w32.cell? ⟨gb148, 1, none⟩ = some (.slice A147_3 ((rd_T55 l0_0 x8_1).f2.f1).length c147_3) := (blk_cell BK148.out 1).trans rfl; have hfz33_0 := blk_frozen BK148.out 0; have hfz33_1 := blk_frozen BK148.out 1; have p152 : 0 ≤ (t149 : Int) := of_decide_eq_true (by first | (with_reducible assumption) | assumption); have q152 : t149 < (((rd_T55 l0_0 x8_1).f2.f1).length : Int) := of_decide_eq_true (by first | (with_reducible assumption) | assumption); obtain ⟨ad152, e152, hx152_0, hx152_1⟩ := at_T49 HR147_3.out t149 p152 q152; cases e152; replace hx152_0 := (HB.out.cell (World.block_lt_of_cell? w _ hx152_0)).trans hx152_0; replace hx152_1 := (HB.out.cell (World.block_lt_of_cell? w _ hx152_1)).trans hx152_1; replace p152 := eq_true p152; replace q152 := eq_true q152))
         go_roundg k1
         case measure => have := HK1.out; omega
         case rel => exact ⟨((rd_T49 ((rd_T55 l0_0 x8_1).f2.f1) t149).f1), (by first | rfl | (simp; done) | (simp [*]; done)), H', ⟨by have := HK1.out; omega⟩, ⟨by (with_reducible repeat (first | refine blk_drewN ?_ _ | refine blk_drew ?_ | refine blk_alloc ?_ _)); exact BK146.out⟩, ⟨by repeat (first | (with_reducible first | exact HB.out | apply below_alloc | apply pw_below_drewN | apply below_drew1 | refine below_set ?_ GE146.out | refine below_set ?_ GE148.out) | exact HB.out)⟩⟩
        ·rw [if_neg c27] at H
         exact absurd H (by simp)
       ·rw [if_neg c26] at H
        exact absurd H (by simp)
     ·rw [if_neg c7] at H
      exact absurd H (by simp)
    ·rw [if_neg c6] at H
     exact absurd H (by simp)
   ·rw [if_neg c5] at H
    have c5b0 : decide (0 ≤ x8_1) = false := decide_eq_false c5
    clear c5
    simp only [Option.some.injEq, Prod.mk.injEq] at H
    obtain ⟨rfl, rfl⟩ := H
    go_wp2
    go_ret2
    exact ⟨by first | rfl | (simp [errW_none, errW_some] <;> rfl) | (simp [*, errW_none, errW_some] <;> rfl), by repeat (first | (with_reducible first | exact HB.out | apply below_alloc | apply pw_below_drewN | apply below_drew1 | refine below_set ?_ GE146.out) | exact HB.out)⟩
end Go.Proofs.Yteiladccdenpbaa.P
end
section
namespace Go.Proofs.Yteiladccdenpbaa.P
open Go.RowKit Go.Shelf Go.Proofs.YteiladccdenpbaaW.PrintWords Go.Proofs.YteiladccdenpbaaW.PrintLast Go.Proofs.YteiladccdenpbaaW.PrintMore
attribute [local go_sem] Oper.semAt_some
set_option linter.unusedVariables false
set_option linter.unusedSimpArgs false
theorem w64s (i : Nat) (h : i < 1000000) : wrap64 ((i : Int) + 1) = ((i + 1 : Nat) : Int) := by
  unfold wrap64
  omega
theorem add_add_ (a : Addr) (x y : Nat) : (a.add x).add y = a.add (x + y) := by
  unfold Addr.add
  by_cases hx : x = 0 <;> by_cases hy : y = 0 <;> simp [hx, hy, Nat.add_assoc]
def catO (f : Int → Option (List S49)) : List S49 → Option (List S49)
  | [] => some []
  | x :: xs => (f x.f1).bind fun a => (catO f xs).bind fun b => some (a ++ b)
def itemsL : Nat → List S55 → Int → Int → Option (List S49)
  | 0, _, _, _ => none
  | k + 1, l, lo, p =>
    if 0 ≤ p ∧ p < (l.length : Int) then
      (node_At.f (rd_T55 l p).f2.f0 (rd_T55 l p).f2.f1 lo).bind fun r =>
        if 0 ≤ r.1 ∧ r.1 ≤ ((rd_T55 l p).f2.f1.length : Int) then
          (if (rd_T55 l p).f2.f0 = true then some ((rd_T55 l p).f2.f1.drop r.1.toNat) else catO (itemsL k l lo) ((rd_T55 l p).f2.f1.drop r.1.toNat))
        else none
    else none
def keepT : Obj → Bool
  | .cells _ t _ => t != 43 && t != 49
  | _ => false
def KpT (n₀ : Nat) (W W' : World) : Prop := Below n₀ W W' ∧ ∀ (k : Nat) (o : Obj), W.heap[k]? = some o → keepT o = true → W'.heap[k]? = some o
theorem KpT.t {n₀ : Nat} {A B C : World} (h : KpT n₀ A B) (k : KpT n₀ B C) : KpT n₀ A C := ⟨h.1.trans k.1, fun i o hi ho => k.2 i o (h.2 i o hi ho) ho⟩
theorem KpT.refl (n₀ : Nat) (A : World) : KpT n₀ A A := ⟨Below.refl _ _, fun _ _ h _ => h⟩
theorem KpT.below {n₀ : Nat} {A B : World} (h : Below A.heap.size A B) (hn : n₀ ≤ A.heap.size) : KpT n₀ A B := ⟨h.mono hn, fun i o hi _ => (h.block i (Array.getElem?_eq_some_iff.1 hi).1).trans hi⟩
theorem grown_below {A B : World} (h : Below A.heap.size A B) : A.grownBy B none := ⟨h.os, h.tape, h.output, h.size, fun k hk _ => h.block k hk⟩
theorem abides_below {β : Type} {B : Nat} {J : β → World → Prop} (hJ : AbidesFrom B J) {s : β} {X Y : World} (hs : J s X) (h : Below X.heap.size X Y) : J s Y := hJ s X Y none hs (grown_below h) (fun r e => by cases e)
structure Bx (w0 : World) (A : Option Addr) (c : Nat) (ls : List S55) (kp lo : Int) (ly gh gl gy gb : Nat) (W : World) : Prop where
  h : W.heap[gh]? = some (.cells #[.slice A ls.length c, .int .i64 kp] 24 (0, 0))
  l : W.heap[gl]? = some (.cells #[.int .i64 lo] 3 (0, 0))
  y : W.heap[gy]? = some (.cells #[.func (.yield ly) #[] #[]] 120 (0, 0))
  b : W.heap[gb]? = some (.cells #[.func (.func 86) #[] #[.pointer (some ⟨gh, 0, none⟩), .pointer (some ⟨gl, 0, none⟩), .pointer (some ⟨gy, 0, none⟩), .pointer (some ⟨gb, 0, none⟩)]] 119 (0, 0))
  w : Below w0.heap.size w0 W
theorem Bx.kp {w0 : World} {A : Option Addr} {c : Nat} {ls : List S55} {kp lo : Int} {ly gh gl gy gb : Nat} {W W' : World} (h : Bx w0 A c ls kp lo ly gh gl gy gb W) (hk : KpT w0.heap.size W W') : Bx w0 A c ls kp lo ly gh gl gy gb W' :=
  ⟨hk.2 _ _ h.h rfl, hk.2 _ _ h.l rfl, hk.2 _ _ h.y rfl, hk.2 _ _ h.b rfl, h.w.trans hk.1⟩
theorem Bx.below {w0 : World} {A : Option Addr} {c : Nat} {ls : List S55} {kp lo : Int} {ly gh gl gy gb : Nat} {W W' : World} (h : Bx w0 A c ls kp lo ly gh gl gy gb W) (hk : Below W.heap.size W W') : Bx w0 A c ls kp lo ly gh gl gy gb W' :=
  h.kp (KpT.below hk h.w.size)
set_option maxHeartbeats 4000000 in
set_option maxRecDepth 100000 in
theorem below_in (w0 : World) (A : Option Addr) (c : Nat) (ls : List S55) (kp lo : Int) (ly gh gl gy gb : Nat) (hC : Kd.C k55 w0 A ls.length ls) (N B : Nat) (J Jx : List S49 → World → Prop)
    (hJ : AbidesFrom B J) (hJx : AbidesFrom B Jx)
    (hY : ∀ m pre x W, J pre W → pre.length < N → YieldAt Fence.wide m Try.prog ly #[.agg #[.int .i64 (S49.f0 x), .int .i64 (S49.f1 x)]] W fun e W' =>
      (e = .returned (.bool true) ∧ J (pre ++ [x]) W' ∧ KpT w0.heap.size W W') ∨ (e = .returned (.bool false) ∧ Jx (pre ++ [x]) W')) (k : Nat) :
    ∀ (n : Nat) (p : Int) (pre out : List S49) (W : World), Bx w0 A c ls kp lo ly gh gl gy gb W → J pre W → itemsL k ls lo p = some out → pre.length + out.length ≤ N →
      CallsIn Fence.wide n Try.prog 86 #[.int .i64 p, .pointer (some ⟨gh, 0, none⟩), .pointer (some ⟨gl, 0, none⟩), .pointer (some ⟨gy, 0, none⟩), .pointer (some ⟨gb, 0, none⟩)] W fun e W' =>
        (e = .returned (.bool true) ∧ J (pre ++ out) W' ∧ KpT w0.heap.size W W') ∨ (e = .returned (.bool false) ∧ ∃ q, q <+: out ∧ Jx (pre ++ q) W') := by
  induction k with
  | zero => intro n p pre out W hb hj h _; simp [itemsL] at h
  | succ k ih =>
  intro n p pre out W hb hj h hN
  have hdd : ∀ k : Nat, (Fence.wide.depth.isSome = true → 1 ≤ k) := fun k h => by cases h
  rw [itemsL] at h
  have hp : 0 ≤ p ∧ p < (ls.length : Int) := by
    by_cases hc : 0 ≤ p ∧ p < (ls.length : Int)
    · exact hc
    · rw [if_neg hc] at h; cases h
  rw [if_pos hp] at h
  obtain ⟨⟨fr, is⟩, hat, h⟩ := Option.bind_eq_some_iff.1 h
  obtain ⟨hp0, hp1⟩ := hp
  obtain ⟨ad, A3, c3, rfl, x0, x1, x2, x3, hl3, hi3⟩ := at_T55 hC p hp0 hp1
  generalize hnd : (rd_T55 ls p).f2 = nd at *
  have hf : 0 ≤ fr ∧ fr ≤ (nd.f1.length : Int) := by
    by_cases hc : 0 ≤ fr ∧ fr ≤ (nd.f1.length : Int)
    · exact hc
    · simp only [] at h; rw [if_neg hc] at h; cases h
  simp only [] at h
  rw [if_pos hf] at h
  obtain ⟨hf0, hf1⟩ := hf
  have HB := Aside0.mk hb
  have HJ := Aside0.mk hj
  have HH := Aside0.mk h
  have HAT := Aside0.mk hat
  have HLEN : Aside0 (nd.f1.length < 1000000) := by
    refine ⟨?_⟩
    unfold node_At.f at hat
    by_cases hc : rising nd.f1 = true ∧ nd.f1.length < 1000000
    · exact hc.2
    · rw [if_neg hc] at hat; cases hat
  have HL3 := Aside0.mk hl3
  have HI3 := Aside0.mk hi3
  have HN := Aside0.mk hN
  have y0 := (hb.w.cell (World.block_lt_of_cell? w0 _ x0)).trans x0
  have y1 := (hb.w.cell (World.block_lt_of_cell? w0 _ x1)).trans x1
  have y2 := (hb.w.cell (World.block_lt_of_cell? w0 _ x2)).trans x2
  have y3 := (hb.w.cell (World.block_lt_of_cell? w0 _ x3)).trans x3
  have b0 : W.cell? ⟨gh, 0, none⟩ = some (.slice (some ad) ls.length c) := (blk_cell hb.h 0).trans rfl
  have b1 : W.cell? ⟨gl, 0, none⟩ = some (.int .i64 lo) := (blk_cell hb.l 0).trans rfl
  have l0 := HB.out.l
  have b1' := World.block_lt_of_cell? W _ b1
  clear hb hj h hat hl3 hi3 hN x0 x1 x2 x3 hC l0
  refine callsIn_of_wp Try.func86 rfl trivial ?_ rfl
  simp only [Try.ntmps86, List.size_toArray, List.length_cons, List.length_nil, Nat.reduceAdd, Nat.reduceSub, Array.replicate_succ, Array.replicate_zero, List.push_toArray, List.append_toArray, List.nil_append, List.cons_append]
  have hu24 := Try.underlying24
  have hu53 := Try.underlying53
  have hu49 := Try.underlying49
  gi_wp2
  refine ⟨trivial, hdd _, ?_⟩
  have HC7 : Kd.C k49 (W.alloc (.cells #[.bool nd.f0, .slice A3 nd.f1.length c3] 53)) A3 nd.f1.length nd.f1 := Kd.C_alloc (Kd.C_below HI3.out HB.out.w) _
  refine (callsIn_wide.2 (node_At.calls nd.f0 A3 c3 nd.f1 lo fr is _ HC7 HL3.out HAT.out)).mono ?_
  rintro e w1 ⟨rfl, hb1⟩
  have hbW : Below W.heap.size W w1 := ((Below.refl W.heap.size W).alloc (Nat.le_refl _) _).trans (hb1.mono (by simp))
  have hb7 : w1.heap[W.heap.size]? = some (.cells #[.bool nd.f0, .slice A3 nd.f1.length c3] 53 (0, 0)) := (hb1.block _ (by simp)).trans (World.alloc_heap_new W _)
  have HK1 := Aside0.mk (KpT.below hbW HB.out.w.size)
  have HB1 := Aside0.mk (HB.out.below hbW)
  have HJ1 := Aside0.mk (abides_below hJ HJ.out hbW)
  have H7 := Aside0.mk hb7
  have g0 : w1.cell? ⟨W.heap.size, 0, none⟩ = some (.bool nd.f0) := (blk_cell hb7 0).trans rfl
  have g1 : w1.cell? ⟨W.heap.size, 1, none⟩ = some (.slice A3 nd.f1.length c3) := (blk_cell hb7 1).trans rfl
  have HC1 := Aside0.mk (Kd.C_below HI3.out (HB1.out.w))
  have HW := Aside0.mk HB.out.w.size
  clear hb1 hbW hb7 HC7 HB HJ y0 y1 y2 y3 b0 b1 b1' HAT
  generalize W.heap.size = g7 at *
  obtain ⟨fi, rfl⟩ : ∃ fi : Nat, fr = (fi : Int) := ⟨fr.toNat, by omega⟩
  clear hf0
  have hfi : fi ≤ nd.f1.length := by omega
  by_cases hce : fi = nd.f1.length
  · have ho : out = [] := by
      have := HH.out
      rw [show nd.f1.drop ((fi : Int)).toNat = [] by rw [Int.toNat_natCast, hce]; exact List.drop_length] at this
      cases hl : nd.f0 <;> rw [hl] at this
      · simpa [catO] using this.symm
      · simpa using this.symm
    have HO := Aside0.mk ho
    have hz : nd.f1.length - fi = 0 := by omega
    clear ho hce hf1
    gi_wp2
    all_goals (gi_loopw [30] (fun p wr => p = .int .i64 0 ∧ wr = w1) (fun p wr => 0))
    case atStart => exact ⟨rfl, rfl⟩
    case atStart => exact ⟨rfl, rfl⟩
    all_goals obtain ⟨rfl, rfl⟩ := hrel
    all_goals gi_wp2
    all_goals go_ret
    all_goals exact .inl ⟨rfl, by rw [HO.out, List.append_nil]; exact HJ1.out, HK1.out⟩
  · have hlt : fi < nd.f1.length := by omega
    have hne : ¬ c3 = fi := by have := HL3.out; omega
    obtain ⟨ad3, hA3, -, -⟩ := at_T49 HC1.out (fi : Int) (by omega) (by omega)
    subst hA3
    clear hce hf1
    gi_wp2
    gi_loopw [30] (fun p wr => ∃ (i : Nat) (dn td : List S49), p = .int .i64 i ∧ i ≤ nd.f1.length - fi ∧ Aside0 (Bx w0 (some ad) c ls kp lo ly gh gl gy gb wr) ∧ Aside0 (J (pre ++ dn) wr) ∧ Aside0 (KpT w0.heap.size W wr) ∧ Aside0 (wr.heap[g7]? = some (.cells #[.bool nd.f0, .slice (some ad3) nd.f1.length c3] 53 (0, 0))) ∧ Aside0 (out = dn ++ td) ∧
      Aside0 ((if nd.f0 = true then some (nd.f1.drop (fi + i)) else catO (itemsL k ls lo) (nd.f1.drop (fi + i))) = some td)) (fun p wr => nd.f1.length - fi - (intOf p).toNat)
    case atStart => exact ⟨0, [], out, rfl, Nat.zero_le _, HB1, by rw [List.append_nil]; exact HJ1, HK1, H7, ⟨rfl⟩, by rw [Int.toNat_natCast] at HH; exact HH⟩
    case round =>
      obtain ⟨i, dn, td, rfl, hi, HBr, HJr, HKr, H7r, HOr, HTr⟩ := hrel
      have r0 : wr.cell? ⟨g7, 0, none⟩ = some (.bool nd.f0) := (blk_cell H7r.out 0).trans rfl
      have r1 : wr.cell? ⟨gy, 0, none⟩ = some (.func (.yield ly) #[] #[]) := (blk_cell HBr.out.y 0).trans rfl
      have r2 : wr.cell? ⟨gb, 0, none⟩ = some (.func (.func 86) #[] #[.pointer (some ⟨gh, 0, none⟩), .pointer (some ⟨gl, 0, none⟩), .pointer (some ⟨gy, 0, none⟩), .pointer (some ⟨gb, 0, none⟩)]) := (blk_cell HBr.out.b 0).trans rfl
      have s1 := World.block_lt_of_cell? wr _ r0
      have s2 := World.block_lt_of_cell? wr _ r1
      have s3 := World.block_lt_of_cell? wr _ r2
      by_cases hend : i < nd.f1.length - fi
      · obtain ⟨_, hA, z0, z1⟩ := at_T49 (Kd.C_below HI3.out HBr.out.w) ((fi + i : Nat) : Int) (by omega) (by omega)
        cases hA
        rw [Int.toNat_natCast] at z0 z1
        have hdrop : nd.f1.drop (fi + i) = rd_T49 nd.f1 ((fi + i : Nat) : Int) :: nd.f1.drop (fi + i + 1) := by
          rw [List.drop_eq_getElem_cons (by omega)]
          congr 1
          simp only [rd_T49, Int.toNat_natCast, List.getD_eq_getElem?_getD, List.getElem?_eq_getElem (show fi + i < nd.f1.length by omega), Option.getD_some]
        rw [show ad3.add ((fi + i) * 2) = (ad3.add (fi * 2)).add (i * 2) by rw [add_add_]; congr 1; omega] at z0 z1
        generalize rd_T49 nd.f1 ((fi + i : Nat) : Int) = x at *
        cases hlf : nd.f0 <;> rw [hlf] at r0
        ·
          have hT := HTr.out
          rw [hlf, if_neg Bool.false_ne_true, hdrop] at hT
          simp only [catO] at hT
          obtain ⟨ta, hta, hT⟩ := Option.bind_eq_some_iff.1 hT
          obtain ⟨tb, htb, hT⟩ := Option.bind_eq_some_iff.1 hT
          obtain rfl := Option.some.inj hT
          have HTA := Aside0.mk hta
          have HTB := Aside0.mk htb
          clear hT hta htb HTr
          have hbx : Below wr.heap.size wr (wr.alloc (.cells #[.int .i64 x.f0, .int .i64 x.f1] 49)) := (Below.refl _ wr).alloc (Nat.le_refl _) _
          have HIH := Aside0.mk (ih (n - 1) x.f1 (pre ++ dn) ta _ (HBr.out.below hbx) (abides_below hJ HJr.out hbx) HTA.out (by have := HN.out; rw [HOr.out] at this; simp only [List.length_append] at this ⊢; omega))
          have HK2 := Aside0.mk (HKr.out.t (KpT.below hbx HBr.out.w.size))
          have HB2 := Aside0.mk (HBr.out.below hbx)
          have H72 := Aside0.mk ((hbx.block _ s1).trans H7r.out)
          clear hbx
          gi_wp2
          refine ⟨trivial, hdd _, ?_⟩
          refine HIH.out.mono ?_
          rintro e W3 (⟨rfl, hJ3, hK3⟩ | ⟨rfl, q, hq, hx3⟩)
          · have HJ3 := Aside0.mk hJ3
            have HK3 := Aside0.mk hK3
            clear hJ3 hK3
            gi_wp2
            go_roundw
            case rel => exact ⟨i + 1, dn ++ ta, tb, congrArg _ (w64s i (by have := HLEN.out; omega)), by omega, ⟨HB2.out.kp HK3.out⟩, ⟨by rw [← List.append_assoc]; exact HJ3.out⟩, ⟨HK2.out.t HK3.out⟩, ⟨by rw [← hlf]; exact HK3.out.2 _ _ H72.out rfl⟩, ⟨by rw [HOr.out, List.append_assoc]⟩, ⟨by rw [if_neg Bool.false_ne_true]; exact HTB.out⟩⟩
            case measure => rw [w64s i (by have := HLEN.out; omega)]; simp only [intOf]; omega
          · gi_wp2
            go_ret
            obtain ⟨r, hr'⟩ := hq
            exact .inr ⟨rfl, dn ++ q, ⟨r ++ tb, by rw [HOr.out, ← hr']; simp [List.append_assoc]⟩, by rw [← List.append_assoc]; exact hx3⟩
        · have hT := HTr.out
          rw [hlf, if_pos rfl, hdrop] at hT
          obtain rfl := Option.some.inj hT
          clear hT HTr
          have hNl : pre.length + (dn ++ x :: nd.f1.drop (fi + i + 1)).length ≤ N := by rw [← HOr.out]; exact HN.out
          obtain ⟨fn, tmps, assign, body, hy, hR⟩ := hY (n - 1) (pre ++ dn) x (wr.alloc (.cells #[.int .i64 x.f0, .int .i64 x.f1] 49)) (abides_below hJ HJr.out ((Below.refl _ wr).alloc (Nat.le_refl _) _)) (by simp only [List.length_append, List.length_cons] at hNl ⊢; omega)
          clear hNl
          have hbx : Below wr.heap.size wr (wr.alloc (.cells #[.int .i64 x.f0, .int .i64 x.f1] 49)) := (Below.refl _ wr).alloc (Nat.le_refl _) _
          have HK2 := Aside0.mk (HKr.out.t (KpT.below hbx HBr.out.w.size))
          have HB2 := Aside0.mk (HBr.out.below hbx)
          have H72 := Aside0.mk ((hbx.block _ s1).trans H7r.out)
          clear hbx
          gi_wp2
          refine ⟨hdd _, ?_⟩
          refine hR.mono ?_
          rintro e W3 (⟨rfl, hJ3, hK3⟩ | ⟨rfl, hx3⟩)
          · have HJ3 := Aside0.mk hJ3
            have HK3 := Aside0.mk hK3
            clear hJ3 hK3
            gi_wp2
            go_roundw
            case rel => exact ⟨i + 1, dn ++ [x], nd.f1.drop (fi + i + 1), congrArg _ (w64s i (by have := HLEN.out; omega)), by omega, ⟨HB2.out.kp HK3.out⟩, ⟨by rw [← List.append_assoc]; exact HJ3.out⟩, ⟨HK2.out.t HK3.out⟩, ⟨by rw [← hlf]; exact HK3.out.2 _ _ H72.out rfl⟩, ⟨by rw [HOr.out, List.append_assoc]; rfl⟩, ⟨rfl⟩⟩
            case measure => rw [w64s i (by have := HLEN.out; omega)]; simp only [intOf]; omega
          · gi_wp2
            go_ret
            exact .inr ⟨rfl, dn ++ [x], ⟨nd.f1.drop (fi + i + 1), by rw [HOr.out]; simp [List.append_assoc]⟩, by rw [← List.append_assoc]; exact hx3⟩
      · obtain rfl : i = nd.f1.length - fi := by omega
        have ht : td = [] := by
          have := HTr.out
          rw [show nd.f1.drop (fi + (nd.f1.length - fi)) = [] from List.drop_eq_nil_of_le (by omega)] at this
          cases hl : nd.f0 <;> rw [hl] at this
          · simpa [catO] using this.symm
          · simpa using this.symm
        have HT0 := Aside0.mk ht
        clear ht
        gi_wp2
        go_ret
        exact .inl ⟨rfl, by rw [HOr.out, HT0.out, List.append_nil]; exact HJr.out, HKr.out⟩
end Go.Proofs.Yteiladccdenpbaa.P
end
section
namespace Go.Proofs.Yteiladccdenpbaa.P
open Go.RowKit Go.Shelf Go.Proofs.YteiladccdenpbaaW.PrintWords Go.Proofs.YteiladccdenpbaaW.PrintLast Go.Proofs.YteiladccdenpbaaW.PrintMore
attribute [local go_sem] Oper.semAt_some
set_option linter.unusedVariables false
set_option linter.unusedSimpArgs false
def itemsF (l : List S55) (root lo : Int) : Option (List S49) := if 0 ≤ root then itemsL 30 l lo root else some []
set_option maxHeartbeats 4000000 in
set_option maxRecDepth 100000 in
theorem items1_in (w0 : World) (A : Option Addr) (c : Nat) (ls : List S55) (kp lo root : Int) (ly gh gl gr : Nat) (hC : Kd.C k55 w0 A ls.length ls) (B : Nat) (J Jx : List S49 → World → Prop)
    (hJ : AbidesFrom B J) (hJx : AbidesFrom B Jx) (out : List S49) (ho : itemsF ls root lo = some out)
    (hY : ∀ m pre x W, J pre W → pre.length < out.length → YieldAt Fence.wide m Try.prog ly #[.agg #[.int .i64 (S49.f0 x), .int .i64 (S49.f1 x)]] W fun e W' =>
      (e = .returned (.bool true) ∧ J (pre ++ [x]) W' ∧ KpT w0.heap.size W W') ∨ (e = .returned (.bool false) ∧ Jx (pre ++ [x]) W'))
    (n : Nat) (W : World) (h1 : W.heap[gh]? = some (.cells #[.slice A ls.length c, .int .i64 kp] 24 (0, 0))) (h2 : W.heap[gl]? = some (.cells #[.int .i64 lo] 3 (0, 0))) (h3 : W.heap[gr]? = some (.cells #[.int .i64 root] 3 (0, 0)))
    (h4 : Below w0.heap.size w0 W) (h0 : J [] W) :
    CallsIn Fence.wide n Try.prog 85 #[.func (.yield ly) #[] #[], .pointer (some ⟨gh, 0, none⟩), .pointer (some ⟨gl, 0, none⟩), .pointer (some ⟨gr, 0, none⟩)] W fun e W' => (∃ v, e = .returned v) ∧
      ((∃ ys, ys = out ∧ J ys W') ∨ (∃ pre, pre <+: out ∧ Jx pre W')) := by
  have hdd : ∀ k : Nat, (Fence.wide.depth.isSome = true → 1 ≤ k) := fun k h => by cases h
  have b3 : W.cell? ⟨gr, 0, none⟩ = some (.int .i64 root) := (blk_cell h3 0).trans rfl
  have b3' := World.block_lt_of_cell? W _ b3
  have H1 := Aside0.mk h1
  have H2 := Aside0.mk h2
  have H3 := Aside0.mk h3
  have H4 := Aside0.mk h4
  have H0 := Aside0.mk h0
  have HO := Aside0.mk ho
  clear h1 h2 h3 h4 h0 ho
  refine callsIn_of_wp Try.func85 rfl trivial ?_ rfl
  simp only [Try.ntmps85, List.size_toArray, List.length_cons, List.length_nil, Nat.reduceAdd, Nat.reduceSub, Array.replicate_succ, Array.replicate_zero, List.push_toArray, List.append_toArray, List.nil_append, List.cons_append]
  have HX := Aside0.mk (show Below W.heap.size W ((W.alloc (.cells #[.func (.yield ly) #[] #[]] 120)).alloc (.cells #[(.func (.func 86) #[] #[.pointer (some ⟨gh, 0, none⟩), .pointer (some ⟨gl, 0, none⟩), .pointer (some ⟨W.heap.size, 0, none⟩), .pointer (some ⟨W.heap.size + 1, 0, none⟩)])] 119)) from (((Below.refl W.heap.size W).alloc (Nat.le_refl _) _).alloc (by simp) _))
  have Q3 : Aside0 (((W.alloc (.cells #[.func (.yield ly) #[] #[]] 120)).alloc (.cells #[(.func (.func 86) #[] #[.pointer (some ⟨gh, 0, none⟩), .pointer (some ⟨gl, 0, none⟩), .pointer (some ⟨W.heap.size, 0, none⟩), .pointer (some ⟨W.heap.size + 1, 0, none⟩)])] 119)).heap[W.heap.size + 1]? = some (.cells #[(.func (.func 86) #[] #[.pointer (some ⟨gh, 0, none⟩), .pointer (some ⟨gl, 0, none⟩), .pointer (some ⟨W.heap.size, 0, none⟩), .pointer (some ⟨W.heap.size + 1, 0, none⟩)])] 119 (0, 0))) := by
    have := World.alloc_heap_new (W.alloc (.cells #[.func (.yield ly) #[] #[]] 120)) (.cells #[(.func (.func 86) #[] #[.pointer (some ⟨gh, 0, none⟩), .pointer (some ⟨gl, 0, none⟩), .pointer (some ⟨W.heap.size, 0, none⟩), .pointer (some ⟨W.heap.size + 1, 0, none⟩)])] 119)
    exact ⟨by rwa [World.size_alloc] at this⟩
  have Q6 : Aside0 (((W.alloc (.cells #[.func (.yield ly) #[] #[]] 120)).alloc (.cells #[(.func (.func 86) #[] #[.pointer (some ⟨gh, 0, none⟩), .pointer (some ⟨gl, 0, none⟩), .pointer (some ⟨W.heap.size, 0, none⟩), .pointer (some ⟨W.heap.size + 1, 0, none⟩)])] 119)).heap[W.heap.size]? = some (.cells #[.func (.yield ly) #[] #[]] 120 (0, 0))) := ⟨blk_alloc (World.alloc_heap_new W _) _⟩
  have q5 : ((W.alloc (.cells #[.func (.yield ly) #[] #[]] 120)).alloc (.cells #[(.func (.func 86) #[] #[.pointer (some ⟨gh, 0, none⟩), .pointer (some ⟨gl, 0, none⟩), .pointer (some ⟨W.heap.size, 0, none⟩), .pointer (some ⟨W.heap.size + 1, 0, none⟩)])] 119)).cell? ⟨gr, 0, none⟩ = some (.int .i64 root) := (HX.out.cell b3').trans b3
  have HB := Aside0.mk (show Bx w0 A c ls kp lo ly gh gl W.heap.size (W.heap.size + 1) ((W.alloc (.cells #[.func (.yield ly) #[] #[]] 120)).alloc (.cells #[(.func (.func 86) #[] #[.pointer (some ⟨gh, 0, none⟩), .pointer (some ⟨gl, 0, none⟩), .pointer (some ⟨W.heap.size, 0, none⟩), .pointer (some ⟨W.heap.size + 1, 0, none⟩)])] 119)) from ⟨(HX.out.block _ (Array.getElem?_eq_some_iff.1 H1.out).1).trans H1.out, (HX.out.block _ (Array.getElem?_eq_some_iff.1 H2.out).1).trans H2.out, Q6.out, Q3.out, H4.out.trans (HX.out.mono H4.out.size)⟩)
  have HJ1 := Aside0.mk (abides_below hJ H0.out HX.out)
  by_cases hr : 0 ≤ root
  · have hi : itemsL 30 ls lo root = some out := by have := HO.out; rw [itemsF, if_pos hr] at this; exact this
    have HI := Aside0.mk hi
    clear hi
    gi_wp2
    refine ⟨trivial, hdd _, ?_⟩
    refine (below_in w0 A c ls kp lo ly gh gl W.heap.size (W.heap.size + 1) hC out.length B J Jx hJ hJx hY 30 (n - 1) root [] out _ HB.out HJ1.out HI.out (by simp)).mono ?_
    rintro e W3 (⟨rfl, hJ3, hK3⟩ | ⟨rfl, q, hq, hx3⟩)
    · gi_wp2
      go_end0
      exact ⟨⟨_, rfl⟩, .inl (by simpa using hJ3)⟩
    · gi_wp2
      go_end0
      exact ⟨⟨_, rfl⟩, .inr ⟨q, hq, by simpa using hx3⟩⟩
  · have hi : out = [] := by have := HO.out; rw [itemsF, if_neg hr] at this; exact (Option.some.inj this).symm
    have HI := Aside0.mk hi
    clear hi
    gi_wp2
    go_end0
    exact ⟨⟨_, rfl⟩, .inl (by rw [HI.out]; exact HJ1.out)⟩
set_option maxHeartbeats 1000000 in
theorem items_in (F : Fence) (n : Nat) (hf : F.fn 61) (hro : F.round = none) (A : Option Addr) (c m : Nat) (kp root lo : Int) (w : World) :
    CallsIn F n Try.prog 61 #[.agg #[.slice A m c, .int .i64 kp], .int .i64 root, .int .i64 lo] w fun e w' => e = .returned (.func (.func 85) #[] #[.pointer (some ⟨w.heap.size, 0, none⟩), .pointer (some ⟨w.heap.size + 2, 0, none⟩), .pointer (some ⟨w.heap.size + 1, 0, none⟩)]) ∧ w' = ((w.alloc (.cells #[.slice A m c, .int .i64 kp] 24)).alloc (.cells #[.int .i64 root] 3)).alloc (.cells #[.int .i64 lo] 3) := by
  refine callsIn_of_wp Try.func61 rfl hf ?_ hro
  have hu24 := Try.underlying24
  simp only [Try.ntmps61, List.size_toArray, List.length_cons, List.length_nil, Nat.reduceAdd, Nat.reduceSub, Array.replicate_succ, Array.replicate_zero, List.push_toArray, List.append_toArray, List.nil_append, List.cons_append]
  gi_wp2
  go_ret
  exact ⟨rfl, rfl⟩
theorem items_stops (w0 w : World) (A : Option Addr) (c : Nat) (ls : List S55) (kp lo root : Int) (n gh gl gr : Nat) (hC : Kd.C k55 w0 A ls.length ls) (out : List S49) (ho : itemsF ls root lo = some out)
    (h1 : w.heap[gh]? = some (.cells #[.slice A ls.length c, .int .i64 kp] 24 (0, 0))) (h2 : w.heap[gl]? = some (.cells #[.int .i64 lo] 3 (0, 0))) (h3 : w.heap[gr]? = some (.cells #[.int .i64 root] 3 (0, 0)))
    (h4 : Below w0.heap.size w0 w) :
    SeqStopsK Fence.wide n Try.prog 85 #[.pointer (some ⟨gh, 0, none⟩), .pointer (some ⟨gl, 0, none⟩), .pointer (some ⟨gr, 0, none⟩)] (fun x : S49 => #[Value.agg #[.int .i64 x.f0, .int .i64 x.f1]]) (KpT w0.heap.size) (fun ys => ys = out) (fun pre => pre <+: out) out.length w := by
  intro l J Jx W hW hJ hJx hY h0
  refine items1_in w0 A c ls kp lo root l gh gl gr hC _ J Jx hJ hJx out ho ?_ n W ?_ ?_ ?_ (h4.trans (hW.mono h4.size)) h0
  · intro m pre x X hj hl
    obtain ⟨fn, tmps, assign, body, hy, hR⟩ := hY pre x X hj hl
    exact ⟨fn, tmps, assign, body, hy, hR.1, fun c cs _ => hR.2 c cs (fun d h => by cases h)⟩
  · exact (hW.block _ (Array.getElem?_eq_some_iff.1 h1).1).trans h1
  · exact (hW.block _ (Array.getElem?_eq_some_iff.1 h2).1).trans h2
  · exact (hW.block _ (Array.getElem?_eq_some_iff.1 h3).1).trans h3
end Go.Proofs.Yteiladccdenpbaa.P
end
